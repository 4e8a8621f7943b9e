/- The program's checker: the worlds at which a node holds. -/
import Derived.Test.YtkmclcmnoicagaaGreatDoorH27
import Derived.Deep.Cut
namespace Go.Proofs.YtkmclcmnoicagaaGreatDoor
set_option maxRecDepth 100000
set_option maxHeartbeats 128000000
open Go.RowKit
theorem wrap_i64 {k:Nat}(h:k<=4):IntKind.i64.wrap ((2:Int)^k)=((2^k:Nat):Int):=by
 have e:∀k:Fin 5,IntKind.i64.wrap ((2:Int)^k.val)=((2^k.val:Nat):Int):=by decide+kernel
 exact e ⟨k,by omega⟩
theorem Qii {w:World} {b:Nat} {a0 a1 a2 a3 a4 a5:Value} {t:TypeId}(h:w.heap[b]?=some (.cells #[a0,a1,a2,a3,a4,a5] t (0,0))):w.cell? ⟨b,0,none⟩=some a0/\w.cell? ⟨b,1,none⟩=some a1/\w.cell? ⟨b,3,none⟩=some a3/\b < w.heap.size :=
 ⟨by simp [World.cell?,h],by simp [World.cell?,h],by simp [World.cell?,h],Qn h⟩
theorem Qnm(vm:Value)(md:Md)(n:Nd)(x y:Nat)(w:World)(hm:Jk w vm md)(zP:md.ok)(zU:Qa md=0)(hh:Ze n)(hx:Qm x)(hy:Qm y)(vD:11<=n.op->n.op<=13->1<=n.g):
 Calls Tryz.prog 133 #[vm,n.val,.int .u64 (x:Int),.int .u64 (y:Int)] w fun e w'=>e=.returned (.tuple #[.int .u64 ((Vb md n x y:Nat):Int),.bool (Jv md n)])/\Qg w w':=by
 obtain⟨wU,yZ,uR,iJ,wO,_,_⟩:=Zv zU;have wQ:=Qtd zU;obtain⟨N,rP⟩:=Int.eq_ofNat_of_zero_le (show 0<=md.n by omega);have qG:md.n.toNat=N:=by rw [rP];exact Int.toNat_natCast N
 have HM:=Qq hm;have zE:=Qq zP;have yD:=Qq zU;have HH:=Qq hh;have yY:=Qq hx;have ZN:=Qq hy;obtain⟨vv,vr,rfl,hv,hr⟩:=hm;obtain⟨Av,cv,rfl,_,_,HV⟩:=Vf hv;obtain⟨Ar,cr,rfl,_,_,HR⟩:=Gj hr;have yC:N<=64:=by omega
 have Q7:1<=N:=by omega
 have uT:=Qq (show Fq md n x y=if n.op=3 then md.val.getD n.i.toNat 0 else if n.op<=8 then Gg n.op x y (Zk N)
  else if n.op=9 then Vt (md.rel.getD n.i.toNat []) N x
  else if n.op=10 then Zl (Zk N) (Vt (md.rel.getD n.i.toNat []) N (Zl (Zk N) x))
  else if n.op=11 then Vt ((List.range N).map (Yz md.rel n.g.toNat false N)) N x
  else if n.op=12 then Vt ((List.range N).map (Yz md.rel n.g.toNat true N)) N x
  else Xn ((List.range N).map (Yz md.rel n.g.toNat false N)) N x y by unfold Fq;rw [qG])
 have qI:=Qq (show ∀r∈md.rel,r.length=N from fun r hr=>by have:=wO r hr;omega);have kN:=Qq (show ∀r∈md.rel,∀s∈r,s < 2^N by rw [qG]at wQ;exact wQ);have VE:=Qq (show ∀gn b,∀s∈(List.range N).map (Yz md.rel gn b N),s < 2^N from fun gn b s hs=>by
  obtain⟨i,_,rfl⟩:=List.mem_map.1 hs;exact Zqn kN.out)
 have XR:=Qq (show ∀gn b,∀s∈(List.range N).map (Yz md.rel gn b N),Qm s from fun gn b s hs=>Qy (VE.out gn b s hs) (Nw yC));have GE:=Qq (show ∀gn b,Jo ((List.range N).map (Yz md.rel gn b N)).length ((List.range N).map (Yz md.rel gn b N))=0 from fun gn b=>Hy (by simp) yC (VE.out gn b));have tN:=Qq rP;have vJ:=Qq qG;have GT:=Qq (Qir yC);have fE:=Qq (Yk yC);have vG:=(Dc n.op).1 hh.1;have VF:=Qq vD;rw [rP]at HM⊢;unfold Nd.val;clear zP zU hh hx hy hv hr wU yZ wO rP qG wQ vD;obtain⟨W0,zK⟩:∃W,W=(w.alloc (.cells #[.int .i64 (N:Int),.slice Av md.val.length cv,.slice Ar md.rel.length cr] 26)).alloc (.cells #[.int .i64 n.op,.int .i64 n.i,.int .i64 n.e,.int .i64 n.g,.int .i64 n.x,.int .i64 n.y] 71):=⟨_,rfl⟩
 have zL:=Qq (show Qg w W0 by rw [zK];exact(Qz.alloc _).alloc _);obtain⟨b,hb⟩:∃b,b=w.heap.size:=⟨_,rfl⟩;have QZ:=Qq (show W0.heap[b]?=some (.cells #[.int .i64 (N:Int),.slice Av md.val.length cv,.slice Ar md.rel.length cr] 26 (0,0)) by rw [zK,hb];exact((Qz.alloc _).block (by simp)).trans (heap_alloc_new _ _));have fA:=Qq (show W0.heap[b+1]?=some (.cells #[.int .i64 n.op,.int .i64 n.i,.int .i64 n.e,.int .i64 n.g,.int .i64 n.x,.int .i64 n.y] 71 (0,0)) by
  have h1:=heap_alloc_new (w.alloc (.cells #[.int .i64 (N:Int),.slice Av md.val.length cv,.slice Ar md.rel.length cr] 26)) (.cells #[.int .i64 n.op,.int .i64 n.i,.int .i64 n.e,.int .i64 n.g,.int .i64 n.x,.int .i64 n.y] 71);rw [zK,hb]
  simpa using h1)
 obtain⟨e0,e1,e2,eb⟩:=Qyf QZ.out;obtain⟨c0,c1,c3,cb⟩:=Qii fA.out;go_enter Tryz.func133,Tryz.ntmps133;go_upto_region 2 with(fail);rw [<-zK,<-hb,GT.out];clear zK hb;obtain⟨al,wJ⟩:∃a,a=Zk N:=⟨_,rfl⟩;have rY:=Qq wJ;rw [<-wJ]at fE⊢;clear wJ;obtain⟨op,zI⟩:∃z,z=n.op:=⟨_,rfl⟩;have xU:=Qq zI;rw [<-zI]at c0 vG;clear zI;have SD:op=1\/op=2\/op=3\/op=4\/op=5\/op=6\/op=7\/op=8\/op=9\/op=10\/op=11\/op=12\/op=13\/14<=op:=by omega
 rcases SD with rfl|rfl|rfl|rfl|rfl|rfl|rfl|rfl|rfl|rfl|rfl|rfl|rfl|IZ
 ·have HF:=Qq (show Jv md n=true by unfold Jv;rw [<-xU.out];rfl);have HE:=Qq (show Vb md n x y=al by unfold Vb;first|(rw [if_pos HF.out,uT.out,<-xU.out,rY.out];rfl)|(rw [if_pos HF.out,uT.out,<-xU.out];rfl));clear vG;go_wp2_with fail;go_ret2;exact⟨by rw [HE.out,HF.out] <;> rfl,zL.out⟩
 ·have HF:=Qq (show Jv md n=true by unfold Jv;rw [<-xU.out];rfl);have HE:=Qq (show Vb md n x y=0 by unfold Vb;first|(rw [if_pos HF.out,uT.out,<-xU.out,rY.out];rfl)|(rw [if_pos HF.out,uT.out,<-xU.out];rfl));clear vG;go_wp2_with fail;go_ret2;exact⟨by rw [HE.out,HF.out] <;> rfl,zL.out⟩
 ·obtain⟨h0,h8⟩:=By HH.out xU.out.symm;obtain⟨k,hk⟩:=Int.eq_ofNat_of_zero_le h0;rw [hk]at c1;by_cases wR:k < md.val.length
  ·have HF:=Qq (show Jv md n=true by unfold Jv;rw [<-xU.out,if_pos rfl,hk];exact decide_eq_true (by omega));have HE:=Qq (show Vb md n x y=md.val.getD k 0 by unfold Vb;rw [if_pos HF.out,uT.out,if_pos xU.out.symm,hk];rfl);have yV:¬(md.val.length:Int)<=(k:Int):=by omega
   have wV:(k:Int) < (md.val.length:Int):=by omega
   obtain⟨ad,rfl,zV,hc⟩:=HV.out k wR;have a0:=(zL.out.cell (p:=ad.add k) (Qj zV)).trans hc;have al2:(ad.add k).block < W0.heap.size:=by rw [Qr];exact Qy zV zL.out.size
   obtain⟨z,hz⟩:∃z,z=md.val.getD k 0:=⟨_,rfl⟩;rw [<-hz]at a0 HE;clear h0 h8 hk hc vG hz;go_wp2_with fail;go_ret2;exact⟨by rw [HE.out,HF.out] <;> rfl,zL.out⟩
  have HF:=Qq (show Jv md n=false by unfold Jv;rw [<-xU.out,if_pos rfl,hk];exact decide_eq_false (by omega));have HE:=Qq (show Vb md n x y=0 by unfold Vb;rw [HF.out];rfl);have yV:(md.val.length:Int)<=(k:Int):=by omega
  clear h0 h8 hk wR vG;go_wp2_with fail;go_ret2;exact⟨by rw [HE.out,HF.out] <;> rfl,zL.out⟩
 ·have HF:=Qq (show Jv md n=true by unfold Jv;rw [<-xU.out];rfl);have HE:=Qq (show Vb md n x y=Zl al x by unfold Vb;first|(rw [if_pos HF.out,uT.out,<-xU.out,rY.out];rfl)|(rw [if_pos HF.out,uT.out,<-xU.out];rfl));have b1:=Yg fE.out yY.out;clear vG;go_wp2_with fail;go_ret2;exact⟨by rw [HE.out,HF.out] <;> rfl,zL.out⟩
 ·have HF:=Qq (show Jv md n=true by unfold Jv;rw [<-xU.out];rfl);have HE:=Qq (show Vb md n x y=x&&&y by unfold Vb;first|(rw [if_pos HF.out,uT.out,<-xU.out,rY.out];rfl)|(rw [if_pos HF.out,uT.out,<-xU.out];rfl));have b1:=Xk yY.out ZN.out;clear vG;go_wp2_with fail;go_ret2;exact⟨by rw [HE.out,HF.out] <;> rfl,zL.out⟩
 ·have HF:=Qq (show Jv md n=true by unfold Jv;rw [<-xU.out];rfl);have HE:=Qq (show Vb md n x y=x|||y by unfold Vb;first|(rw [if_pos HF.out,uT.out,<-xU.out,rY.out];rfl)|(rw [if_pos HF.out,uT.out,<-xU.out];rfl));have b1:=Xq yY.out ZN.out;clear vG;go_wp2_with fail;go_ret2;exact⟨by rw [HE.out,HF.out] <;> rfl,zL.out⟩
 ·have HF:=Qq (show Jv md n=true by unfold Jv;rw [<-xU.out];rfl);have HE:=Qq (show Vb md n x y=Zl al x|||y by unfold Vb;first|(rw [if_pos HF.out,uT.out,<-xU.out,rY.out];rfl)|(rw [if_pos HF.out,uT.out,<-xU.out];rfl));have b1:=Yg fE.out yY.out;have b2:=Xq (a:=Zl al x) (b:=y) (Uy fE.out) ZN.out;clear vG;go_wp2_with fail;go_ret2;exact⟨by rw [HE.out,HF.out] <;> rfl,zL.out⟩
 ·have HF:=Qq (show Jv md n=true by unfold Jv;rw [<-xU.out];rfl);have HE:=Qq (show Vb md n x y=Zl al (x^^^y) by unfold Vb;first|(rw [if_pos HF.out,uT.out,<-xU.out,rY.out];rfl)|(rw [if_pos HF.out,uT.out,<-xU.out];rfl));have b1:=Qvo yY.out ZN.out;have b2:=Yg (a:=al) (b:=x^^^y) fE.out (Qk0 yY.out ZN.out);clear vG;go_wp2_with fail;go_ret2;exact⟨by rw [HE.out,HF.out] <;> rfl,zL.out⟩
 ·obtain⟨h0,h4⟩:=Xz HH.out (by rw [<-xU.out];rfl);obtain⟨k,hk⟩:=Int.eq_ofNat_of_zero_le h0;rw [hk]at c1;by_cases wR:k < md.rel.length
  ·have HF:=Qq (show Jv md n=true by unfold Jv;rw [<-xU.out,if_neg (by decide),if_neg (by decide),if_pos (by decide),hk];exact decide_eq_true (by omega));have HE:=Qq (show Vb md n x y=Vt (md.rel.getD k []) N x by unfold Vb;rw [if_pos HF.out,uT.out,<-xU.out,hk];rfl);have yV:¬(md.rel.length:Int)<=(k:Int):=by omega
   have wV:(k:Int) < (md.rel.length:Int):=by omega
   obtain⟨ad,u,rfl,zV,yU,hu⟩:=HR.out k wR;have wG:md.rel.getD k []∈md.rel:=by rw [Qk,Qv wR];exact List.getElem_mem wR
   have yQ:=qI.out _ wG;have PB:=Qq (Hy yQ yC (kN.out _ wG));have oB:=Qq (Qkm yQ (List.any_eq_false.2 fun s hs=>by simpa using kN.out _ wG s hs));have eU:=Qq (show Nl (md.rel.getD k []) x=Vt (md.rel.getD k []) N x by unfold Nl;rw [if_pos PB.out,yQ]);have tM:=Qq (zE.out.rel _ wG);have HU:=Qq (hu.ext zL.out);have a0:=(zL.out.cell (p:=ad.add k) (Qj zV)).trans yU;have al2:(ad.add k).block < W0.heap.size:=by rw [Qr];exact Qy zV zL.out.size
   obtain⟨r,hr⟩:∃r,r=md.rel.getD k []:=⟨_,rfl⟩;rw [<-hr]at HE eU tM HU;clear h0 h4 hk yU vG hu wG yQ hr;go_wp2_with(go_at_call 186;refine(Mo _ r x _ HU.out tM.out yY.out).mono ?_;rintro e w5 ⟨rfl,xG⟩;have yJ:=Qq (zL.out.trans xG);clear xG);go_ret2;exact⟨by rw [HE.out,HF.out,<-eU.out] <;> rfl,yJ.out⟩
  have HF:=Qq (show Jv md n=false by unfold Jv;rw [<-xU.out,if_neg (by decide),if_neg (by decide),if_pos (by decide),hk];exact decide_eq_false (by omega));have HE:=Qq (show Vb md n x y=0 by unfold Vb;rw [HF.out];rfl);have yV:(md.rel.length:Int)<=(k:Int):=by omega
  clear h0 h4 hk wR vG;go_wp2_with fail;go_ret2;exact⟨by rw [HE.out,HF.out] <;> rfl,zL.out⟩
 ·obtain⟨h0,h4⟩:=Xz HH.out (by rw [<-xU.out];rfl);obtain⟨k,hk⟩:=Int.eq_ofNat_of_zero_le h0;rw [hk]at c1;by_cases wR:k < md.rel.length
  ·have HF:=Qq (show Jv md n=true by unfold Jv;rw [<-xU.out,if_neg (by decide),if_neg (by decide),if_pos (by decide),hk];exact decide_eq_true (by omega));have HE:=Qq (show Vb md n x y=Zl (Zk N) (Vt (md.rel.getD k []) N (Zl (Zk N) x)) by unfold Vb;rw [if_pos HF.out,uT.out,<-xU.out,hk];rfl);have yV:¬(md.rel.length:Int)<=(k:Int):=by omega
   have wV:(k:Int) < (md.rel.length:Int):=by omega
   obtain⟨ad,u,rfl,zV,yU,hu⟩:=HR.out k wR;have wG:md.rel.getD k []∈md.rel:=by rw [Qk,Qv wR];exact List.getElem_mem wR
   have yQ:=qI.out _ wG;have PB:=Qq (Hy yQ yC (kN.out _ wG));have oB:=Qq (Qkm yQ (List.any_eq_false.2 fun s hs=>by simpa using kN.out _ wG s hs));have eU:=Qq (show Qv2 (md.rel.getD k []) x=Zl (Zk N) (Vt (md.rel.getD k []) N (Zl (Zk N) x)) by unfold Qv2;rw [if_pos PB.out,yQ,Qpt yC oB.out]);have tM:=Qq (zE.out.rel _ wG);have HU:=Qq (hu.ext zL.out);have a0:=(zL.out.cell (p:=ad.add k) (Qj zV)).trans yU;have al2:(ad.add k).block < W0.heap.size:=by rw [Qr];exact Qy zV zL.out.size
   obtain⟨r,hr⟩:∃r,r=md.rel.getD k []:=⟨_,rfl⟩;rw [<-hr]at HE eU tM HU;clear h0 h4 hk yU vG hu wG yQ hr;go_wp2_with(go_at_call 187;refine(Qw1 _ r x _ HU.out tM.out yY.out).mono ?_;rintro e w5 ⟨rfl,xG⟩;have yJ:=Qq (zL.out.trans xG);clear xG);go_ret2;exact⟨by rw [HE.out,HF.out,<-eU.out] <;> rfl,yJ.out⟩
  have HF:=Qq (show Jv md n=false by unfold Jv;rw [<-xU.out,if_neg (by decide),if_neg (by decide),if_pos (by decide),hk];exact decide_eq_false (by omega));have HE:=Qq (show Vb md n x y=0 by unfold Vb;rw [HF.out];rfl);have yV:(md.rel.length:Int)<=(k:Int):=by omega
  clear h0 h4 hk wR vG;go_wp2_with fail;go_ret2;exact⟨by rw [HE.out,HF.out] <;> rfl,zL.out⟩
 ·obtain⟨h0,XG⟩:=Ui HH.out;obtain⟨gn,vL⟩:=Int.eq_ofNat_of_zero_le h0;have MB:1<=gn:=by have:=VF.out (by rw [<-xU.out];decide) (by rw [<-xU.out];decide);omega
  rw [vL]at c3;by_cases xK:gn < 2^md.rel.length
  ·have HF:=Qq (show Jv md n=true by unfold Jv;rw [<-xU.out,if_neg (by decide),if_neg (by decide),if_neg (by decide),if_pos (by decide),vL];exact decide_eq_true (by exact_mod_cast xK));have HE:=Qq (show Vb md n x y=Vt ((List.range N).map (Yz md.rel gn false N)) N x by unfold Vb;rw [if_pos HF.out,uT.out,<-xU.out,vL];rfl);have eU:=Qq (show Nl ((List.range N).map (Yz md.rel gn false N)) x=Vt ((List.range N).map (Yz md.rel gn false N)) N x by unfold Nl;rw [if_pos (GE.out gn false),List.length_map,List.length_range]);have MD:=decide_eq_false (Qj4 uR xK);have LZ:decide (IntKind.i64.wrap ((2:Int)^md.rel.length)<=(gn:Int))=false:=decide_eq_false (by rw [wrap_i64 uR];exact_mod_cast Nat.not_le_of_lt xK)
   have vV:min md.rel.length 64=md.rel.length:=by omega
   clear h0 XG vL vG;go_upto_region 31 with(fail);refine wp_region_held_drew (S:=fun w'=>w'.cell? (⟨b+1,3,none⟩)=some (.int .i64 (gn:Int))/\w'.cell? (⟨b,2,none⟩)=some (.slice Ar md.rel.length cr)) (by kernel_rfl) ⟨xc cb c3,xc eb e2⟩ (fun zZ=> ?_);refine tk 0 zZ ?_;refine tk 1 zZ ?_;refine tk 2 zZ ?_;refine tk 3 zZ ?_;refine tk 4 zZ ?_;refine tk 5 zZ ?_;refine tk 6 zZ ?_;refine wpAnyH_done (by kernel_rfl) ?_ _;have BM:=Qq ((Qg.refl W0).drew.block (Qn QZ.out));go_wp2_with(first|(go_at_call 189;refine(Qx0 _ md gn _ (HM.out.ext (zL.out.trans xv)) zE.out yD.out MB xK).mono ?_;rintro e w5 ⟨u5,rfl,xG,cA⟩;rw [vJ.out]at cA;have yJ:=Qq (zL.out.trans (Qg.trans xv xG));have gT:=Qq cA;have c05:=((Qg.trans xv xG).cell (p:=⟨b+1,0,none⟩) cb).trans c0;clear xG cA)|(go_at_call 186;refine(Mo _ ((List.range N).map (Yz md.rel gn false N)) x _ gT.out (XR.out gn false) yY.out).mono ?_;rintro e w6 ⟨rfl,uP⟩;rw [eU.out];have gR:=Qq (yJ.out.trans uP);clear uP))
   go_ret2;exact⟨by rw [HE.out,HF.out] <;> rfl,gR.out⟩
  have HF:=Qq (show Jv md n=false by unfold Jv;rw [<-xU.out,if_neg (by decide),if_neg (by decide),if_neg (by decide),if_pos (by decide),vL];exact decide_eq_false (by exact_mod_cast xK));have HE:=Qq (show Vb md n x y=0 by unfold Vb;rw [HF.out];rfl);have MD:decide (wrap64 ((2:Int)^md.rel.length)<=(gn:Int))=true:=decide_eq_true (by rw [Di (by omega)];exact_mod_cast Nat.le_of_not_lt xK);have LZ:decide (IntKind.i64.wrap ((2:Int)^md.rel.length)<=(gn:Int))=true:=decide_eq_true (by rw [wrap_i64 uR];exact_mod_cast Nat.le_of_not_lt xK);have vV:min md.rel.length 64=md.rel.length:=by omega
  clear h0 XG vL vG xK;go_upto_region 31 with(fail);refine wp_region_held_drew (S:=fun w'=>w'.cell? (⟨b+1,3,none⟩)=some (.int .i64 (gn:Int))/\w'.cell? (⟨b,2,none⟩)=some (.slice Ar md.rel.length cr)) (by kernel_rfl) ⟨xc cb c3,xc eb e2⟩ (fun zZ=> ?_);refine tk 0 zZ ?_;refine tk 1 zZ ?_;refine tk 2 zZ ?_;refine tk 3 zZ ?_;refine tk 4 zZ ?_;refine tk 5 zZ ?_;refine tk 6 zZ ?_;refine wpAnyH_done (by kernel_rfl) ?_ _;go_wp2_with fail;go_ret2;exact⟨by rw [HE.out,HF.out] <;> rfl,zL.out.drew⟩
 ·obtain⟨h0,XG⟩:=Ui HH.out;obtain⟨gn,vL⟩:=Int.eq_ofNat_of_zero_le h0;have MB:1<=gn:=by have:=VF.out (by rw [<-xU.out];decide) (by rw [<-xU.out];decide);omega
  rw [vL]at c3;by_cases xK:gn < 2^md.rel.length
  ·have HF:=Qq (show Jv md n=true by unfold Jv;rw [<-xU.out,if_neg (by decide),if_neg (by decide),if_neg (by decide),if_pos (by decide),vL];exact decide_eq_true (by exact_mod_cast xK));have HE:=Qq (show Vb md n x y=Vt ((List.range N).map (Yz md.rel gn true N)) N x by unfold Vb;rw [if_pos HF.out,uT.out,<-xU.out,vL];rfl);have eU:=Qq (show Nl ((List.range N).map (Yz md.rel gn true N)) x=Vt ((List.range N).map (Yz md.rel gn true N)) N x by unfold Nl;rw [if_pos (GE.out gn true),List.length_map,List.length_range]);have MD:=decide_eq_false (Qj4 uR xK);have LZ:decide (IntKind.i64.wrap ((2:Int)^md.rel.length)<=(gn:Int))=false:=decide_eq_false (by rw [wrap_i64 uR];exact_mod_cast Nat.not_le_of_lt xK)
   have vV:min md.rel.length 64=md.rel.length:=by omega
   clear h0 XG vL vG;go_upto_region 31 with(fail);refine wp_region_held_drew (S:=fun w'=>w'.cell? (⟨b+1,3,none⟩)=some (.int .i64 (gn:Int))/\w'.cell? (⟨b,2,none⟩)=some (.slice Ar md.rel.length cr)) (by kernel_rfl) ⟨xc cb c3,xc eb e2⟩ (fun zZ=> ?_);refine tk 0 zZ ?_;refine tk 1 zZ ?_;refine tk 2 zZ ?_;refine tk 3 zZ ?_;refine tk 4 zZ ?_;refine tk 5 zZ ?_;refine tk 6 zZ ?_;refine wpAnyH_done (by kernel_rfl) ?_ _;have BM:=Qq ((Qg.refl W0).drew.block (Qn QZ.out));go_wp2_with(first|(go_at_call 188;refine(Qha _ md gn _ (HM.out.ext (zL.out.trans xv)) zE.out yD.out MB xK).mono ?_;rintro e w5 ⟨u5,rfl,xG,cA⟩;rw [vJ.out]at cA;have yJ:=Qq (zL.out.trans (Qg.trans xv xG));have gT:=Qq cA;have c05:=((Qg.trans xv xG).cell (p:=⟨b+1,0,none⟩) cb).trans c0;clear xG cA)|(go_at_call 186;refine(Mo _ ((List.range N).map (Yz md.rel gn true N)) x _ gT.out (XR.out gn true) yY.out).mono ?_;rintro e w6 ⟨rfl,uP⟩;rw [eU.out];have gR:=Qq (yJ.out.trans uP);clear uP))
   go_ret2;exact⟨by rw [HE.out,HF.out] <;> rfl,gR.out⟩
  have HF:=Qq (show Jv md n=false by unfold Jv;rw [<-xU.out,if_neg (by decide),if_neg (by decide),if_neg (by decide),if_pos (by decide),vL];exact decide_eq_false (by exact_mod_cast xK));have HE:=Qq (show Vb md n x y=0 by unfold Vb;rw [HF.out];rfl);have MD:decide (wrap64 ((2:Int)^md.rel.length)<=(gn:Int))=true:=decide_eq_true (by rw [Di (by omega)];exact_mod_cast Nat.le_of_not_lt xK);have LZ:decide (IntKind.i64.wrap ((2:Int)^md.rel.length)<=(gn:Int))=true:=decide_eq_true (by rw [wrap_i64 uR];exact_mod_cast Nat.le_of_not_lt xK);have vV:min md.rel.length 64=md.rel.length:=by omega
  clear h0 XG vL vG xK;go_upto_region 31 with(fail);refine wp_region_held_drew (S:=fun w'=>w'.cell? (⟨b+1,3,none⟩)=some (.int .i64 (gn:Int))/\w'.cell? (⟨b,2,none⟩)=some (.slice Ar md.rel.length cr)) (by kernel_rfl) ⟨xc cb c3,xc eb e2⟩ (fun zZ=> ?_);refine tk 0 zZ ?_;refine tk 1 zZ ?_;refine tk 2 zZ ?_;refine tk 3 zZ ?_;refine tk 4 zZ ?_;refine tk 5 zZ ?_;refine tk 6 zZ ?_;refine wpAnyH_done (by kernel_rfl) ?_ _;go_wp2_with fail;go_ret2;exact⟨by rw [HE.out,HF.out] <;> rfl,zL.out.drew⟩
 ·obtain⟨h0,XG⟩:=Ui HH.out;obtain⟨gn,vL⟩:=Int.eq_ofNat_of_zero_le h0;have MB:1<=gn:=by have:=VF.out (by rw [<-xU.out];decide) (by rw [<-xU.out];decide);omega
  rw [vL]at c3;by_cases xK:gn < 2^md.rel.length
  ·have HF:=Qq (show Jv md n=true by unfold Jv;rw [<-xU.out,if_neg (by decide),if_neg (by decide),if_neg (by decide),if_pos (by decide),vL];exact decide_eq_true (by exact_mod_cast xK));have HE:=Qq (show Vb md n x y=Xn ((List.range N).map (Yz md.rel gn false N)) N x y by unfold Vb;rw [if_pos HF.out,uT.out,<-xU.out,vL];rfl);have MD:=decide_eq_false (Qj4 uR xK);have LZ:decide (IntKind.i64.wrap ((2:Int)^md.rel.length)<=(gn:Int))=false:=decide_eq_false (by rw [wrap_i64 uR];exact_mod_cast Nat.not_le_of_lt xK);have vV:min md.rel.length 64=md.rel.length:=by omega
   clear h0 XG vL vG;go_upto_region 31 with(fail);refine wp_region_held_drew (S:=fun w'=>w'.cell? (⟨b+1,3,none⟩)=some (.int .i64 (gn:Int))/\w'.cell? (⟨b,2,none⟩)=some (.slice Ar md.rel.length cr)) (by kernel_rfl) ⟨xc cb c3,xc eb e2⟩ (fun zZ=> ?_);refine tk 0 zZ ?_;refine tk 1 zZ ?_;refine tk 2 zZ ?_;refine tk 3 zZ ?_;refine tk 4 zZ ?_;refine tk 5 zZ ?_;refine tk 6 zZ ?_;refine wpAnyH_done (by kernel_rfl) ?_ _;have BM:=Qq ((Qg.refl W0).drew.block (Qn QZ.out));go_wp2_with(first|(go_at_call 189;refine(Qx0 _ md gn _ (HM.out.ext (zL.out.trans xv)) zE.out yD.out MB xK).mono ?_;rintro e w5 ⟨u5,rfl,xG,cA⟩;rw [vJ.out]at cA;have yJ:=Qq (zL.out.trans (Qg.trans xv xG));have gT:=Qq cA;have c05:=((Qg.trans xv xG).cell (p:=⟨b+1,0,none⟩) cb).trans c0;clear xG cA)|(go_at_call 190;rw [rY.out];refine(Qsj _ ((List.range N).map (Yz md.rel gn false N)) N x y _ gT.out (XR.out gn false) (by simp) (GE.out gn false) yY.out ZN.out).mono ?_;rintro e w6 ⟨rfl,uP⟩;have gR:=Qq (yJ.out.trans uP);clear uP))
   go_ret2;exact⟨by rw [HE.out,HF.out] <;> rfl,gR.out⟩
  have HF:=Qq (show Jv md n=false by unfold Jv;rw [<-xU.out,if_neg (by decide),if_neg (by decide),if_neg (by decide),if_pos (by decide),vL];exact decide_eq_false (by exact_mod_cast xK));have HE:=Qq (show Vb md n x y=0 by unfold Vb;rw [HF.out];rfl);have MD:decide (wrap64 ((2:Int)^md.rel.length)<=(gn:Int))=true:=decide_eq_true (by rw [Di (by omega)];exact_mod_cast Nat.le_of_not_lt xK);have LZ:decide (IntKind.i64.wrap ((2:Int)^md.rel.length)<=(gn:Int))=true:=decide_eq_true (by rw [wrap_i64 uR];exact_mod_cast Nat.le_of_not_lt xK);have vV:min md.rel.length 64=md.rel.length:=by omega
  clear h0 XG vL vG xK;go_upto_region 31 with(fail);refine wp_region_held_drew (S:=fun w'=>w'.cell? (⟨b+1,3,none⟩)=some (.int .i64 (gn:Int))/\w'.cell? (⟨b,2,none⟩)=some (.slice Ar md.rel.length cr)) (by kernel_rfl) ⟨xc cb c3,xc eb e2⟩ (fun zZ=> ?_);refine tk 0 zZ ?_;refine tk 1 zZ ?_;refine tk 2 zZ ?_;refine tk 3 zZ ?_;refine tk 4 zZ ?_;refine tk 5 zZ ?_;refine tk 6 zZ ?_;refine wpAnyH_done (by kernel_rfl) ?_ _;go_wp2_with fail;go_ret2;exact⟨by rw [HE.out,HF.out] <;> rfl,zL.out.drew⟩
 have HF:=Qq (show Jv md n=false by unfold Jv;rw [<-xU.out,if_neg (by omega),if_neg (by omega),if_neg (by omega),if_neg (by omega)]);have HE:=Qq (show Vb md n x y=0 by unfold Vb;rw [HF.out];rfl);have t1:(op==1)=false:=by simp only [beq_eq_false_iff_ne,ne_eq];omega
 have t2:(op==2)=false:=by simp only [beq_eq_false_iff_ne,ne_eq];omega
 have t3:(op==3)=false:=by simp only [beq_eq_false_iff_ne,ne_eq];omega
 have t4:(op==4)=false:=by simp only [beq_eq_false_iff_ne,ne_eq];omega
 have t5:(op==5)=false:=by simp only [beq_eq_false_iff_ne,ne_eq];omega
 have t6:(op==6)=false:=by simp only [beq_eq_false_iff_ne,ne_eq];omega
 have t7:(op==7)=false:=by simp only [beq_eq_false_iff_ne,ne_eq];omega
 have t8:(op==8)=false:=by simp only [beq_eq_false_iff_ne,ne_eq];omega
 have t9:(op==9)=false:=by simp only [beq_eq_false_iff_ne,ne_eq];omega
 have t10:(op==10)=false:=by simp only [beq_eq_false_iff_ne,ne_eq];omega
 have t11:(op==11)=false:=by simp only [beq_eq_false_iff_ne,ne_eq];omega
 have t12:(op==12)=false:=by simp only [beq_eq_false_iff_ne,ne_eq];omega
 have t13:(op==13)=false:=by simp only [beq_eq_false_iff_ne,ne_eq];omega
 clear vG IZ;go_wp2_with fail;go_ret2;exact⟨by rw [HE.out,HF.out] <;> rfl,zL.out⟩
theorem Qbm(m n:Nat):((m:Int) / 2^n==0)=decide (m < 2^n):=by
 have e:((m:Int) / 2^n)=((m / 2^n:Nat):Int):=by simp
 rw [e,Bool.eq_iff_iff,beq_iff_eq,decide_eq_true_eq];have:=Nat.div_eq_zero_iff (a:=m) (b:=2^n);have hp:=Nat.two_pow_pos n;omega
theorem Qck {m k a:Nat}(hm:m < 2^k):(List.range k).all (Xx a m)=decide (m < 2^a):=by
 rw [Bool.eq_iff_iff,List.all_eq_true,decide_eq_true_eq];refine⟨fun h=>Qkf fun i hi=> ?_,fun h i hi=> ?_⟩
 ·have h2:=h i (List.mem_range.2 (Kf hm hi));unfold Xx at h2;rw [hi]at h2
  simpa using h2
 unfold Xx;cases hb:m.testBit i
 ·rfl
 rw [decide_eq_true (Kf h hb)];rfl
theorem Qxi(m n:Nat)(w:World)(_hm:m < 512)(hn:n<=8):Calls Tryz.prog 208 #[.int .i64 (m:Int),.int .i64 (n:Int)] w fun e w'=>e=.returned (.bool (decide (m < 2^n)))/\w=w':=by
 have hn31:¬(31:Int)<=(n:Int):=by omega
 have yN:max (n:Int) 0=(n:Int):=by omega
 have vV:min n 64=n:=by omega
 have HD:=Qq (Qbm m n);go_enter Tryz.func208,Tryz.ntmps208;go_wp2_with fail;go_ret;exact⟨by rw [<-HD.out] <;> rfl,rfl⟩
theorem Qfp(v:Value)(f:List Nd)(a b:Nat)(w:World)(h:Yq w v f)(ha:a<=4)(hb:b<=8):
 Calls Tryz.prog 185 #[v,.int .i64 (a:Int),.int .i64 (b:Int)] w fun e w'=>e=.returned (.bool (Yl f a b))/\Qg w w':=by
 have H:=Qq h;clear h;by_cases hc:check f=0
 ·have HC:=Qq hc;have hh:=(Jb hc).2.2.2;have YS:Jl (Qf f) < 2^4:=Ry _ 0 hh (by decide);have aW:Yy (Qf f) < 2^8:=Tb _ 0 hh (by decide);have HF:=Qq (show Yl f a b=(decide (Jl (Qf f) < 2^a)&&decide (Yy (Qf f) < 2^b)) by
   unfold Yl;rw [Qck YS,Qck aW,HC.out]
   rfl)
  have HA:=Qq (fun(w:World) (h:Yq w v f)=>Ot v f w h hc);have HB:=Qq (fun(w:World) (h:Yq w v f)=>Qqs v f w h hc);obtain⟨ma,LC⟩:∃m,m=Jl (Qf f):=⟨_,rfl⟩;obtain⟨mf,LA⟩:∃m,m=Yy (Qf f):=⟨_,rfl⟩;rw [<-LC]at YS HF HA;rw [<-LA]at aW HF HB;have LD:ma < 512:=by omega
  have BF:mf < 512:=by omega
  clear LC LA YS aW hh hc;cases hd:decide (ma < 2^a)
  ·have HD:=Qq hd;have HE:=Qq (show Yl f a b=false by rw [HF.out,HD.out];rfl);clear hd;go_enter Tryz.func185,Tryz.ntmps185;go_wp2_with(first|(go_at_call 41;refine(Vw _ f _ H.out.1).mono ?_;rintro e w1 ⟨rfl,zN⟩;rw [HC.out];have zO:=Qq zN;clear zN)|(go_at_call 66;refine(HA.out _ (H.out.ext zO.out)).mono ?_;rintro e w2 ⟨rfl,zS⟩;have zT:=Qq (zO.out.trans zS);clear zS)|(go_at_call 208;refine(Qxi ma a _ LD (by omega)).mono ?_;rintro e w3 ⟨rfl,rfl⟩;rw [HD.out]));go_ret;exact⟨by rw [HE.out] <;> rfl,zT.out⟩
  have HD:=Qq hd;have HE:=Qq (show Yl f a b=decide (mf < 2^b) by rw [HF.out,HD.out];rfl);clear hd;go_enter Tryz.func185,Tryz.ntmps185;go_wp2_with(first|(go_at_call 41;refine(Vw _ f _ H.out.1).mono ?_;rintro e w1 ⟨rfl,zN⟩;rw [HC.out];have zO:=Qq zN;clear zN)|(go_at_call 66;refine(HA.out _ (H.out.ext zO.out)).mono ?_;rintro e w2 ⟨rfl,zS⟩;have zT:=Qq (zO.out.trans zS);clear zS)|(go_at_call 67;refine(HB.out _ (H.out.ext zT.out)).mono ?_;rintro e w4 ⟨rfl,yA⟩;have yP:=Qq (zT.out.trans yA);clear yA)|(go_at_call 208;refine(Qxi _ _ _ (by first|with_reducible exact LD|with_reducible exact BF) (by omega)).mono ?_;rintro e w3 ⟨rfl,rfl⟩;try rw [HD.out]))
  go_ret;exact⟨by rw [HE.out] <;> rfl,yP.out⟩
 have HE:=Qq (show Yl f a b=false by
  unfold Yl;rw [show(check f==0)=false by simpa using hc]
  rfl)
 obtain⟨z,hz⟩:∃z,z=check f:=⟨_,rfl⟩;have HZ:=Qq hz;rw [<-hz]at hc;have zQ:(z==0)=false:=by simpa using hc
 clear hc hz;go_enter Tryz.func185,Tryz.ntmps185;go_wp2_with(go_at_call 41;refine(Vw _ f _ H.out.1).mono ?_;rintro e w1 ⟨rfl,zN⟩;rw [<-HZ.out];have zO:=Qq zN;clear zN);go_ret;exact⟨by rw [HE.out] <;> rfl,zO.out⟩
theorem Qnl(vm v:Value)(md:Md)(f:List Nd)(w:World)(hm:Jk w vm md)(zP:md.ok)(h:Yq w v f):
 Calls Tryz.prog 132 #[vm,v] w fun e w'=>e=.returned (.int .i64 (Jz md f))/\Qg w w':=by
 have HM:=Qq hm;have zE:=Qq zP;have HF:=Qq h;obtain⟨vv,vr,rfl,hv,hr⟩:=hm;obtain⟨Av,cv,rfl,_⟩:=hv;obtain⟨Ar,cr,rfl,_⟩:=hr;obtain⟨c1,xV⟩:∃z,z=Qa md:=⟨_,rfl⟩;have oR:=Qq xV;obtain⟨c2,tB⟩:∃z,z=check f:=⟨_,rfl⟩;have pH:=Qq tB;clear h zP;by_cases h1:c1=0
 ·have hz:=Zv (show Qa md=0 by rw [<-oR.out];exact h1);have uR:=hz.2.2.1;have iJ:=hz.2.2.2.1;subst h1;clear hz xV;by_cases h2:c2=0
  ·subst h2;obtain⟨vS,xN⟩:=Pt f;clear vS tB;cases hsb:Jr (Jp f) 15
   ·rw [hsb]at xN;have HE:=Qq (show Jz md f=10 by unfold Jz;rw [if_neg (by rw [<-oR.out];simp),if_neg (by rw [<-pH.out];simp),if_pos hsb]);clear hsb;go_enter Tryz.func132,Tryz.ntmps132;go_wp2_with(first|(go_at_call 93;refine(Xa _ md _ (HM.out.ext (by repeat(first|exact Qz|assumption|apply Qg.alloc|apply Qg.drew))) zE.out).mono ?_;rintro e w1 ⟨rfl,zN⟩;rw [<-oR.out];have zO:=Qq (((Qg.refl w).alloc _).trans zN);have xV:w1.cell? ⟨w.heap.size,1,none⟩=some (.slice Av md.val.length cv):=(zN.cell (p:=⟨w.heap.size,1,none⟩) (by simp)).trans (by simp);have tB:w1.cell? ⟨w.heap.size,2,none⟩=some (.slice Ar md.rel.length cr):=(zN.cell (p:=⟨w.heap.size,2,none⟩) (by simp)).trans (by simp);have yS:w.heap.size < w1.heap.size:=Qy (by simp) zN.size;clear zN)|(go_at_call 41;refine(Vw _ f _ (HF.out.ext zO.out).1).mono ?_;rintro e w2 ⟨rfl,zS⟩;rw [<-pH.out];have zT:=Qq (zO.out.trans zS);have pZ:=(zS.cell (p:=⟨w.heap.size,1,none⟩) yS).trans xV;have qP:=(zS.cell (p:=⟨w.heap.size,2,none⟩) yS).trans tB;have xA:=Qy yS zS.size;clear zS)|(go_at_call 55;refine(Rp _ f _ (HF.out.ext zT.out)).mono ?_;rintro e w3 ⟨rfl,zC⟩;have zB:=Qq (zT.out.trans zC);have P3:=(zC.cell (p:=⟨w.heap.size,1,none⟩) xA).trans pZ;have P2:=(zC.cell (p:=⟨w.heap.size,2,none⟩) xA).trans qP;clear zC))
    go_ret;exact⟨by rw [HE.out] <;> rfl,zB.out⟩
   rw [hsb]at xN;cases mV:Yl f md.rel.length md.val.length
   ·have HE:=Qq (show Jz md f=2 by unfold Jz;rw [if_neg (by rw [<-oR.out];simp),if_neg (by rw [<-pH.out];simp),if_neg (by rw [hsb];simp),if_pos mV]);have aL:=Qq mV;clear hsb mV;go_enter Tryz.func132,Tryz.ntmps132;go_wp2_with(first|(go_at_call 93;refine(Xa _ md _ (HM.out.ext (by repeat(first|exact Qz|assumption|apply Qg.alloc|apply Qg.drew))) zE.out).mono ?_;rintro e w1 ⟨rfl,zN⟩;rw [<-oR.out];have zO:=Qq (((Qg.refl w).alloc _).trans zN);have xV:w1.cell? ⟨w.heap.size,1,none⟩=some (.slice Av md.val.length cv):=(zN.cell (p:=⟨w.heap.size,1,none⟩) (by simp)).trans (by simp);have tB:w1.cell? ⟨w.heap.size,2,none⟩=some (.slice Ar md.rel.length cr):=(zN.cell (p:=⟨w.heap.size,2,none⟩) (by simp)).trans (by simp);have yS:w.heap.size < w1.heap.size:=Qy (by simp) zN.size;clear zN)|(go_at_call 41;refine(Vw _ f _ (HF.out.ext zO.out).1).mono ?_;rintro e w2 ⟨rfl,zS⟩;rw [<-pH.out];have zT:=Qq (zO.out.trans zS);have pZ:=(zS.cell (p:=⟨w.heap.size,1,none⟩) yS).trans xV;have qP:=(zS.cell (p:=⟨w.heap.size,2,none⟩) yS).trans tB;have xA:=Qy yS zS.size;clear zS)|(go_at_call 55;refine(Rp _ f _ (HF.out.ext zT.out)).mono ?_;rintro e w3 ⟨rfl,zC⟩;have zB:=Qq (zT.out.trans zC);have P3:=(zC.cell (p:=⟨w.heap.size,1,none⟩) xA).trans pZ;have P2:=(zC.cell (p:=⟨w.heap.size,2,none⟩) xA).trans qP;clear zC)|(go_at_call 185;refine(Qfp _ f md.rel.length md.val.length _ (HF.out.ext zB.out) uR iJ).mono ?_;rintro e w4 ⟨rfl,yA⟩;rw [aL.out];have yP:=Qq (zB.out.trans yA);clear yA))
    go_ret;exact⟨by rw [HE.out] <;> rfl,yP.out⟩
   have HE:=Qq (show Jz md f=0 by unfold Jz;rw [if_neg (by rw [<-oR.out];simp),if_neg (by rw [<-pH.out];simp),if_neg (by rw [hsb];simp),if_neg (by rw [mV];simp)]);have aL:=Qq mV;clear hsb mV;go_enter Tryz.func132,Tryz.ntmps132;go_wp2_with(first|(go_at_call 93;refine(Xa _ md _ (HM.out.ext (by repeat(first|exact Qz|assumption|apply Qg.alloc|apply Qg.drew))) zE.out).mono ?_;rintro e w1 ⟨rfl,zN⟩;rw [<-oR.out];have zO:=Qq (((Qg.refl w).alloc _).trans zN);have xV:w1.cell? ⟨w.heap.size,1,none⟩=some (.slice Av md.val.length cv):=(zN.cell (p:=⟨w.heap.size,1,none⟩) (by simp)).trans (by simp);have tB:w1.cell? ⟨w.heap.size,2,none⟩=some (.slice Ar md.rel.length cr):=(zN.cell (p:=⟨w.heap.size,2,none⟩) (by simp)).trans (by simp);have yS:w.heap.size < w1.heap.size:=Qy (by simp) zN.size;clear zN)|(go_at_call 41;refine(Vw _ f _ (HF.out.ext zO.out).1).mono ?_;rintro e w2 ⟨rfl,zS⟩;rw [<-pH.out];have zT:=Qq (zO.out.trans zS);have pZ:=(zS.cell (p:=⟨w.heap.size,1,none⟩) yS).trans xV;have qP:=(zS.cell (p:=⟨w.heap.size,2,none⟩) yS).trans tB;have xA:=Qy yS zS.size;clear zS)|(go_at_call 55;refine(Rp _ f _ (HF.out.ext zT.out)).mono ?_;rintro e w3 ⟨rfl,zC⟩;have zB:=Qq (zT.out.trans zC);have P3:=(zC.cell (p:=⟨w.heap.size,1,none⟩) xA).trans pZ;have P2:=(zC.cell (p:=⟨w.heap.size,2,none⟩) xA).trans qP;clear zC)|(go_at_call 185;refine(Qfp _ f md.rel.length md.val.length _ (HF.out.ext zB.out) uR iJ).mono ?_;rintro e w4 ⟨rfl,yA⟩;rw [aL.out];have yP:=Qq (zB.out.trans yA);clear yA))
   go_ret;exact⟨by rw [HE.out] <;> rfl,yP.out⟩
  have zQ:(c2 !=0)=true:=by simpa using h2
  have HE:=Qq (show Jz md f=c2 by unfold Jz;rw [if_neg (by rw [<-oR.out];simp),if_pos (by rw [<-pH.out];exact h2),pH.out]);clear h2 tB;go_enter Tryz.func132,Tryz.ntmps132;go_wp2_with(first|(go_at_call 93;refine(Xa _ md _ (HM.out.ext (by repeat(first|exact Qz|assumption|apply Qg.alloc|apply Qg.drew))) zE.out).mono ?_;rintro e w1 ⟨rfl,zN⟩;rw [<-oR.out];have zO:=Qq (((Qg.refl w).alloc _).trans zN);have xV:w1.cell? ⟨w.heap.size,1,none⟩=some (.slice Av md.val.length cv):=(zN.cell (p:=⟨w.heap.size,1,none⟩) (by simp)).trans (by simp);have tB:w1.cell? ⟨w.heap.size,2,none⟩=some (.slice Ar md.rel.length cr):=(zN.cell (p:=⟨w.heap.size,2,none⟩) (by simp)).trans (by simp);have yS:w.heap.size < w1.heap.size:=Qy (by simp) zN.size;clear zN)|(go_at_call 41;refine(Vw _ f _ (HF.out.ext zO.out).1).mono ?_;rintro e w2 ⟨rfl,zS⟩;rw [<-pH.out];have zT:=Qq (zO.out.trans zS);have pZ:=(zS.cell (p:=⟨w.heap.size,1,none⟩) yS).trans xV;have qP:=(zS.cell (p:=⟨w.heap.size,2,none⟩) yS).trans tB;have xA:=Qy yS zS.size;clear zS))
  go_ret;exact⟨by rw [HE.out] <;> rfl,zT.out⟩
 have zQ:(c1 !=0)=true:=by simpa using h1
 have HE:=Qq (show Jz md f=c1 by unfold Jz;rw [if_pos (by rw [<-oR.out];exact h1),oR.out]);clear h1 xV tB;go_enter Tryz.func132,Tryz.ntmps132;go_wp2_with(go_at_call 93;refine(Xa _ md _ (HM.out.ext (by repeat(first|exact Qz|assumption|apply Qg.alloc|apply Qg.drew))) zE.out).mono ?_;rintro e w1 ⟨rfl,zN⟩;rw [<-oR.out];have zO:=Qq (((Qg.refl w).alloc _).trans zN);have xV:w1.cell? ⟨w.heap.size,1,none⟩=some (.slice Av md.val.length cv):=(zN.cell (p:=⟨w.heap.size,1,none⟩) (by simp)).trans (by simp);have tB:w1.cell? ⟨w.heap.size,2,none⟩=some (.slice Ar md.rel.length cr):=(zN.cell (p:=⟨w.heap.size,2,none⟩) (by simp)).trans (by simp);have yS:w.heap.size < w1.heap.size:=Qy (by simp) zN.size;clear zN)
 go_ret;exact⟨by rw [HE.out] <;> rfl,zO.out⟩
theorem Qow {md:Md}(zU:Qa md=0) {n:Nd} {x y:Nat}(hx:x < 2^md.n.toNat)(hy:y < 2^md.n.toNat):Vb md n x y < 2^md.n.toNat:=by
 unfold Vb
 split
 ·exact Qtz zU hx hy
 exact Nat.two_pow_pos _
theorem Qj3 {md:Md}(zU:Qa md=0)(f:List Nd):∀k,∀s∈(Jg md f k).1,s < 2^md.n.toNat
 |0,s,h=>by cases h
 |k+1,s,h=>by
  have ih:=Qj3 zU f k;have h2:s∈(Jg md f k).1++ [(Lc md f (Jg md f k).1 (Jg md f k).2 k).1]:=h;rcases List.mem_append.1 h2 with h2|h2
  ·exact ih s h2
  rw [List.mem_singleton.1 h2];unfold Lc
  split
  ·exact Qow zU (Tn ih (Nat.two_pow_pos _) _) (Tn ih (Nat.two_pow_pos _) _)
  exact Nat.two_pow_pos _
theorem Qjb {md:Md}(zU:Qa md=0)(f:List Nd):Nc md f < 2^md.n.toNat:=Tn (Qj3 zU f _) (Nat.two_pow_pos _) _
def Qdy:Prop:=∀(vm v:Value) (md:Md) (f:List Nd) (w:World),Jk w vm md->md.ok->Yq w v f->
 Calls Tryz.prog 62 #[vm,v] w fun e w'=>∃u,e=.returned (.tuple #[u,.int .i64 (Jz md f)])/\Qg w w'/\Hid (Jz md f=0->Jn w' u (Jg md f f.length).1)
theorem Qhc(iV:Qdy)(vm v:Value)(md:Md)(f:List Nd)(w:World)(hm:Jk w vm md)(zP:md.ok)(h:Yq w v f):
 Calls Tryz.prog 21 #[vm,v] w fun e w'=>e=.returned (.tuple #[.int .u64 ((if Jz md f=0 then Nc md f else 0:Nat):Int),.int .i64 (Jz md f)])/\Qg w w':=by
 have HM:=Qq hm;have HF:=Qq h;have HS:=Qq (fun w hm h=>iV vm v md f w hm zP h);obtain⟨vv,vr,rfl,hv,hr⟩:=hm;obtain⟨c1,xV⟩:∃z,z=Jz md f:=⟨_,rfl⟩;have oR:=Qq xV;rw [<-xV]at HS⊢;clear h zP iV hv hr xV;by_cases h1:c1=0
 ·subst h1;obtain⟨_,hc,_,_⟩:=Vm oR.out.symm;have hp:=(Jf hc).1;have zG:=(Fx md f f.length).1;have HH:=Qq (show Nc md f=(Jg md f f.length).1.getD (f.length - 1) 0 from rfl);go_enter Tryz.func21,Tryz.ntmps21;go_wp2_with fail;refine(HS.out _ (HM.out.ext ((Qg.refl w).alloc _)) (HF.out.ext ((Qg.refl w).alloc _))).mono ?_;rintro e w2 ⟨u,rfl,hx,hu⟩;obtain⟨A,c,rfl,_,_,HR⟩:=Vf (hu.out (by trivial));have HX:=Qq (((Qg.refl w).alloc _).trans hx);obtain⟨ad,rfl,zV,uG⟩:=HR.out (f.length - 1) (by rw [zG];omega);rw [zG];rw [<-HH.out]at uG;have h200:=(Jf hc).2.1
  have iO:wrap64 ((f.length:Int) - 1)=((f.length - 1:Nat):Int):=by unfold wrap64;omega
  have QH:((f.length - 1:Nat):Int) < (f.length:Int):=by omega
  have gN:(f.length:Int) - 1 < (f.length:Int):=by omega
  have dG:((f.length:Int) - 1).toNat=f.length - 1:=by omega
  clear hx hu hc zG;go_wp2_with fail;go_ret2;exact⟨rfl,HX.out⟩
 have zQ:(c1 !=0)=true:=by simpa using h1
 rw [if_neg h1];clear h1;go_enter Tryz.func21,Tryz.ntmps21;go_wp2_with fail;refine(HS.out _ (HM.out.ext ((Qg.refl w).alloc _)) (HF.out.ext ((Qg.refl w).alloc _))).mono ?_;rintro e w2 ⟨u,rfl,hx,hu⟩;have HX:=Qq (((Qg.refl w).alloc _).trans hx);clear hx hu;go_wp2_with fail;go_ret2;exact⟨rfl,HX.out⟩
def Nv(md:Md)(f:List Nd)(k:Nat):List Nat:=(Jg md f k).1++List.replicate (f.length - k) 0
def Ln(md:Md)(f:List Nd)(k:Nat):List Bool:=(Jg md f k).2++List.replicate (f.length - k) false
section
variable {md:Md} {f:List Nd} {k:Nat}
theorem Zzh(h:k<=f.length):(Nv md f k).length=f.length:=by
 unfold Nv;rw [List.length_append,List.length_replicate,(Fx md f k).1];omega
theorem Zzp(h:k<=f.length):(Ln md f k).length=f.length:=by
 unfold Ln;rw [List.length_append,List.length_replicate,(Fx md f k).2];omega
theorem Qg2(i:Nat):(Nv md f k).getD i 0=(Jg md f k).1.getD i 0:=by
 unfold Nv;rw [Qk,Qk];rcases Nat.lt_or_ge i (Jg md f k).1.length with h|h
 ·rw [List.getElem?_append_left h]
 rw [List.getElem?_append_right h,List.getElem?_replicate,List.getElem?_eq_none h]
 split <;> rfl
theorem Qtp(i:Nat):(Ln md f k).getD i false=(Jg md f k).2.getD i false:=by
 unfold Ln;rw [Qk,Qk];rcases Nat.lt_or_ge i (Jg md f k).2.length with h|h
 ·rw [List.getElem?_append_left h]
 rw [List.getElem?_append_right h,List.getElem?_replicate,List.getElem?_eq_none h]
 split <;> rfl
theorem Qhm {b:Bool} {x:Int}(h:k < f.length)(h1:b=true->0<=x/\x < k)(h2:b=false->x=0):∃ix:Nat,x=(ix:Int)/\ix < f.length:=by
 cases b
 ·exact⟨0,h2 rfl,by omega⟩
 obtain⟨h3,h4⟩:=h1 rfl;exact⟨x.toNat,by omega,by omega⟩
theorem Qos:Nv md f 0=List.replicate f.length 0:=rfl
theorem Qor:Ln md f 0=List.replicate f.length false:=rfl
theorem Zzc:Nv md f f.length=(Jg md f f.length).1:=by
 unfold Nv;rw [Nat.sub_self];simp
theorem Qts {α:Type}(l:List α)(n:Nat)(z v:α):(l++List.replicate (n+1) z).set l.length v=l++ [v]++List.replicate n z:=by
 rw [List.set_append_right _ _ (Nat.le_refl _),Nat.sub_self,List.replicate_succ,List.set_cons_zero];simp
theorem Qrz(h:k < f.length):Nv md f (k+1)=(Nv md f k).set k (Lc md f (Jg md f k).1 (Jg md f k).2 k).1:=by
 have h1:=(Fx md f k).1;have h2:=Qts (Jg md f k).1 (f.length - (k+1)) 0 (Lc md f (Jg md f k).1 (Jg md f k).2 k).1;rw [h1,show f.length - (k+1)+1=f.length - k by omega]at h2;exact h2.symm
theorem Qrq(h:k < f.length):Ln md f (k+1)=(Ln md f k).set k (Lc md f (Jg md f k).1 (Jg md f k).2 k).2:=by
 have h1:=(Fx md f k).2;have h2:=Qts (Jg md f k).2 (f.length - (k+1)) false (Lc md f (Jg md f k).1 (Jg md f k).2 k).2;rw [h1,show f.length - (k+1)+1=f.length - k by omega]at h2;exact h2.symm
theorem Qf7 {α:Type} {l:List α} {i:Nat} {z:α}(h:l[i]?=some z):l.set i z=l:=by
 refine List.ext_getElem? fun j=> ?_
 rw [List.getElem?_set];by_cases e:i=j
 ·subst e;rw [if_pos rfl,h];simp [(List.getElem?_eq_some_iff.1 h).1]
 rw [if_neg e]
theorem Zza(h:k < f.length)(ho:okP (f.getD k Nd.zero) (Jg md f k).2=false):Nv md f (k+1)=Nv md f k/\Ln md f (k+1)=Ln md f k:=by
 have e:Lc md f (Jg md f k).1 (Jg md f k).2 k=(0,false):=by unfold Lc;rw [ho];rfl
 refine⟨?_,?_⟩
 ·rw [Qrz h,e];refine Qf7 ?_;unfold Nv;have h1:=(Fx md f k).1;rw [List.getElem?_append_right (by omega),List.getElem?_replicate,if_pos (by omega)]
 rw [Qrq h,e];refine Qf7 ?_;unfold Ln;have h1:=(Fx md f k).2;rw [List.getElem?_append_right (by omega),List.getElem?_replicate,if_pos (by omega)]
theorem Zkb(h:k < f.length) {n:Nd}(hn:f.getD k Nd.zero=n)(ho:okP n (Jg md f k).2=true):
 Nv md f (k+1)=(Nv md f k).set k (Vb md n ((Nv md f k).getD n.x.toNat 0) ((Nv md f k).getD n.y.toNat 0))/\Ln md f (k+1)=(Ln md f k).set k (Jv md n):=by
 have e:Lc md f (Jg md f k).1 (Jg md f k).2 k=(Vb md n ((Jg md f k).1.getD n.x.toNat 0) ((Jg md f k).1.getD n.y.toNat 0),Jv md n):=by unfold Lc;rw [hn,ho];rfl
 rw [Qrz h,Qrq h,e,Qg2,Qg2];exact⟨rfl,rfl⟩
end
def Bn(base:Nat)(w:World)(g:Nat)(l:List Nat):Prop:=w.ownsRow base 41 1 (.slice (some ⟨g,0,none⟩) l.length l.length) l.length (uV l)
def Uo(base:Nat)(w:World)(g:Nat)(l:List Bool):Prop:=w.ownsRow base 4 1 (.slice (some ⟨g,0,none⟩) l.length l.length) l.length (l.map Value.bool)
section
variable {base:Nat} {w w':World} {g:Nat} {l:List Nat} {m:List Bool}
theorem Bn.cell(h:Bn base w g l) {j:Nat}(hj:j < l.length):w.cell? ⟨g,j,none⟩=some (.int .u64 ((l.getD j 0:Nat):Int)):=by
 rw [World.ownsRow.cellAt h j (by omega)];unfold uV;rw [List.getElem?_map,Qk,Qv hj];rfl
theorem Uo.cell(h:Uo base w g m) {j:Nat}(hj:j < m.length):w.cell? ⟨g,j,none⟩=some (.bool (m.getD j false)):=by
 rw [World.ownsRow.cellAt h j (by omega),List.getElem?_map,Qk,Qv hj];rfl
theorem Bn.frozen(h:Bn base w g l)(j:Nat):w.frozen? ⟨g,j,none⟩=false:=World.ownsRow.frozenAt h j
theorem Uo.frozen(h:Uo base w g m)(j:Nat):w.frozen? ⟨g,j,none⟩=false:=World.ownsRow.frozenAt h j
theorem Bn.lt(h:Bn base w g l):base<=g/\g < w.heap.size:=World.ownsRow.lt h g rfl
theorem Uo.lt(h:Uo base w g m):base<=g/\g < w.heap.size:=World.ownsRow.lt h g rfl
theorem Bn.set(h:Bn base w g l)(j s:Nat):Bn base (w.setCell ⟨g,j,none⟩ (.int .u64 (s:Int))) g (l.set j s)/\w.grownBy (w.setCell ⟨g,j,none⟩ (.int .u64 (s:Int))) (some g):=by
 obtain⟨h1,h2⟩:=World.ownsRow.stored h j (.int .u64 (s:Int));refine⟨?_,h2⟩;unfold Bn uV;unfold uV at h1;rw [List.length_set,List.map_set];exact h1
theorem Uo.set(h:Uo base w g m)(j:Nat)(b:Bool):Uo base (w.setCell ⟨g,j,none⟩ (.bool b)) g (m.set j b)/\w.grownBy (w.setCell ⟨g,j,none⟩ (.bool b)) (some g):=by
 obtain⟨h1,h2⟩:=World.ownsRow.stored h j (.bool b);refine⟨?_,h2⟩;unfold Uo;rw [List.length_set,<-List.map_set]at *;exact h1
theorem Bn.ext(h:Bn base w g l)(he:Qg w w'):Bn base w' g l:=Zg h he
theorem Uo.ext(h:Uo base w g m)(he:Qg w w'):Uo base w' g m:=Zg h he
theorem Bn.kept {r:Nat}(h:Bn base w g l)(hg:w.grownBy w' (some r))(hr:r≠g):Bn base w' g l:=World.ownsRow.kept h hg (.inr fun e=>hr (by injection e with e;exact e.symm))
theorem Uo.kept {r:Nat}(h:Uo base w g m)(hg:w.grownBy w' (some r))(hr:r≠g):Uo base w' g m:=World.ownsRow.kept h hg (.inr fun e=>hr (by injection e with e;exact e.symm))
theorem Bn.u64s(h:Bn base w g l):Jn w (.slice (some ⟨g,0,none⟩) l.length l.length) l:=Zf.u64s h
end
theorem Zzw:(Tryz.prog.info? 4).map (fun i=>(i.zero,i.size,i.bytes))=some (some (.bool false),1,1):=by kernel_rfl
theorem Qmx(n:Nat):(madeCells (Value.cells (.int .u64 0)) (n*1)).toList=uV (List.replicate n 0):=by
 unfold uV;simp only [madeCells,Value.cells,Nat.mul_one,Array.toList_map,Array.toList_range,List.map_replicate];refine List.ext_getElem (by simp) fun i h1 h2=> ?_
 simp [Nat.mod_one]
theorem Qr3(n:Nat):(madeCells (Value.cells (.bool false)) (n*1)).toList=(List.replicate n false).map Value.bool:=by
 simp only [madeCells,Value.cells,Nat.mul_one,Array.toList_map,Array.toList_range,List.map_replicate];refine List.ext_getElem (by simp) fun i h1 h2=> ?_
 simp [Nat.mod_one]
theorem Qr4(n:Nat):(madeCells #[.int .u64 0] n).toList=uV (List.replicate n 0):=by
 have:=Qmx n;rw [Nat.mul_one]at this;exact this
theorem Qnx(n:Nat):(madeCells #[.bool false] n).toList=(List.replicate n false).map Value.bool:=by
 have:=Qr3 n;rw [Nat.mul_one]at this;exact this
theorem Qrj {md:Md} {f:List Nd} {k:Nat}(zU:Qa md=0)(hN:md.n.toNat<=64)(i:Nat):Qm ((Nv md f k).getD i 0):=by
 rw [Qg2];exact Qy (Tn (Qj3 zU f k) (Nat.two_pow_pos _) i) (Nw hN)
theorem Qnq {n:Nd}(h:Ze n)(ha:11<=n.op)(hb:n.op<=13):1<=n.g:=by
 obtain⟨_,_,h3,_,_⟩:=h;have hg:Zm n.op=true:=by unfold Zm;rw [decide_eq_true ha,decide_eq_true hb];rfl
 unfold Ya at h3;simp only [Ql,hg,Bool.or_eq_false_iff]at h3;simp at h3;omega
theorem Qio {w:World} {b:Nat} {a0 a1 a2 a3 a4 a5:Value} {t:TypeId}(h:w.heap[b]?=some (.cells #[a0,a1,a2,a3,a4,a5] t (0,0))):w.cell? ⟨b,0,none⟩=some a0/\w.cell? ⟨b,1,none⟩=some a1/\w.cell? ⟨b,2,none⟩=some a2/\w.cell? ⟨b,3,none⟩=some a3/\w.cell? ⟨b,4,none⟩=some a4/\w.cell? ⟨b,5,none⟩=some a5/\b < w.heap.size :=
 ⟨by simp [World.cell?,h],by simp [World.cell?,h],by simp [World.cell?,h],by simp [World.cell?,h],by simp [World.cell?,h],by simp [World.cell?,h],Qn h⟩
theorem Qf9:Qdy:=by
 intro vm v md f w hm zP h;have H:=Qq h;have HM:=Qq hm;have zE:=Qq zP;obtain⟨iU,sG,xF,xE,xD⟩:=info_parts Dx;obtain⟨iB,SS,jQ,jP,jO⟩:=info_parts Zzw;obtain⟨vv,vr,rfl,⟨Av,cv,rfl,_⟩,⟨Ar,cr,rfl,_⟩⟩:=hm;obtain⟨⟨A,c,rfl,hfc,nN,zM⟩,mV⟩:=h;have uA:=Qq zM;unfold maxLen at nN;clear zP zM;have zL:=Qq (show Qg w (w.alloc (.cells #[.int .i64 md.n,.slice Av md.val.length cv,.slice Ar md.rel.length cr] 26))from Qz.alloc _);have wL:=Qq (show(w.alloc (.cells #[.int .i64 md.n,.slice Av md.val.length cv,.slice Ar md.rel.length cr] 26)).heap[w.heap.size]?=some (.cells #[.int .i64 md.n,.slice Av md.val.length cv,.slice Ar md.rel.length cr] 26 (0,0))from heap_alloc_new _ _)
 obtain⟨er,uK⟩:∃er,er=Jz md f:=⟨_,rfl⟩;have wK:=Qq uK;rw [<-uK];clear uK mV;by_cases hz:er=0
 ·subst hz;obtain⟨xY,ZD,_,_⟩:=Vm wK.out.symm;have uY:=Qq xY;have bR:=Qq ZD;obtain⟨wU,yZ,uR,iJ,_,_,_⟩:=Zv xY;have aI:=Qq (show md.n.toNat<=64 by omega);have gO:=(Jf ZD).2.1;clear xY ZD wU yZ uR iJ;go_enter Tryz.func62,Tryz.ntmps62;go_wp2_with fail;refine(Qnl _ _ md f _ (HM.out.ext zL.out) zE.out (H.out.ext zL.out)).mono ?_;rintro e w1 ⟨rfl,zN⟩;rw [<-wK.out];have zO:=Qq (zL.out.trans zN);have wT:=Qq ((zN.block (Qn wL.out)).trans wL.out);clear zN wL;obtain⟨b,hb⟩:∃b,b=w.heap.size:=⟨_,rfl⟩;rw [<-hb]at wT⊢;have sM:=Qq (show b < w1.heap.size from Qn wT.out)
  clear hb;go_wp2_with(refine wpList_make_full _ rfl _ _ 23 rfl w1.heap.size 41 iU (.int .u64 0) 1 Tryz.underlying23 sG xF xE .i64 .i64 _ _ f.length rfl rfl rfl rfl (by rw [xD];omega) (by unfold maxLen;omega) (by simp) ?_);intro W1 tS rL;have EO:=Qq (show Bn w1.heap.size W1 w1.heap.size (Nv md f 0) by
   have h1:=tS;rw [Qr4]at h1;unfold Bn;rw [Qos,List.length_replicate];exact h1)
  have vA:=Qq (show Qg w1 W1 from(Qg.refl w1).grown rL (fun k e=>by cases e));clear tS rL;go_wp2_with(refine wpList_make_full _ rfl _ _ 89 rfl w1.heap.size 4 iB (.bool false) 1 Tryz.underlying89 SS jQ jP .i64 .i64 _ _ f.length rfl rfl rfl rfl (by rw [jO];omega) (by unfold maxLen;omega) vA.out.size ?_);intro W2 sC MA;have EN:=Qq (show Uo w1.heap.size W2 W1.heap.size (Ln md f 0) by
   have h1:=sC;rw [Qnx]at h1;unfold Uo;rw [Qor,List.length_replicate];exact h1)
  have uM:=Qq (show Qg W1 W2 from(Qg.refl W1).grown MA (fun k e=>by cases e));have UE:=Qq (EO.out.ext uM.out);have HXX:=Qq (vA.out.trans uM.out);have mJ:=Qq (show w1.heap.size≠W1.heap.size by have:=EO.out.lt.2;omega);have XS:=Qq vA.out.size;clear sC MA EO vA uM;obtain⟨g,hg⟩:∃g,g=w1.heap.size:=⟨_,rfl⟩;obtain⟨h,hh⟩:∃h,h=W1.heap.size:=⟨_,rfl⟩;rw [<-hh]at EN mJ XS⊢;rw [<-hg]at EN UE mJ XS⊢;have HG:=Qq hg;clear hg hh;go_wp2_with fail;go_loopw [26] (fun vi wr=>∃k:Nat,vi=.int .i64 (k:Int)/\k<=f.length/\Hid (Qg w1 wr/\Bn w1.heap.size wr g (Nv md f k)/\Uo w1.heap.size wr h (Ln md f k))) (fun v _=>f.length - (intOf v).toNat)
  case atStart=>exact⟨0,rfl,Nat.zero_le _,Qq ⟨HXX.out,by rw [<-HG.out];exact UE.out,by rw [<-HG.out];exact EN.out⟩⟩
  case round =>
   obtain⟨k,rfl,hk,zY⟩:=hrel;have HX:=Qq zY.out.1;have HU:=Qq zY.out.2.1;have HF:=Qq zY.out.2.2;have yY:=Qq (zO.out.trans HX.out);clear zY;by_cases hlt2:k < f.length
   ·have yV:(k:Int) < (f.length:Int):=by omega
    obtain⟨n,hn⟩:∃n,f[k]?=some n:=⟨_,Qv hlt2⟩;have kM:=Qq (Qkz hn);have gS:=Qq (Yt bR.out k n hn);have kP:=Qq (Rh bR.out n (List.mem_of_getElem? hn));obtain⟨ad,rfl,zV,zH⟩:=uA.out (by intro e;rw [e]at hlt2;simp at hlt2);obtain⟨c0,c1,c2,c3,c4,c5⟩:=(zH k n hn).keep fun p hp=>yY.out.cell (p:=p) (by rw [hp,Qr];exact zV)
    have xL:(ad.add (k*6)).block < wr.heap.size:=by rw [Qr];exact Qy zV yY.out.size
    clear hn zH;obtain⟨ix,lT,uU⟩:∃ix:Nat,n.x=(ix:Int)/\ix < f.length:=Qhm hlt2 gS.out.1 kP.out.2.2.2.1;obtain⟨iy,SP,jS⟩:∃iy:Nat,n.y=(iy:Int)/\iy < f.length:=Qhm hlt2 gS.out.2 kP.out.2.2.2.2;have aK:=Qq lT;have OK:=Qq SP;rw [lT]at c4;rw [SP]at c5;have JV:(ix:Int) < (f.length:Int):=by omega
    have hyl1:(iy:Int) < (f.length:Int):=by omega
    clear lT SP;obtain⟨op,zI⟩:∃z,z=n.op:=⟨_,rfl⟩;have xU:=Qq zI;rw [<-zI]at c0;clear zI;obtain⟨fx,iQ⟩:∃z,z=(Ln md f k).getD ix false:=⟨_,rfl⟩;obtain⟨fy,SX⟩:∃z,z=(Ln md f k).getD iy false:=⟨_,rfl⟩;obtain⟨sx,sQ⟩:∃z,z=(Nv md f k).getD ix 0:=⟨_,rfl⟩;obtain⟨sy,RL⟩:∃z,z=(Nv md f k).getD iy 0:=⟨_,rfl⟩;have jE:=Qq iQ;have gC:=Qq SX;have oQ:=Qq sQ;have ZT:=Qq RL;have IN:=Zzh (md:=md) (f:=f) hk;have IP:=Zzp (md:=md) (f:=f) hk;have OH:=Qq IN;have QT:=Qq IP;have OV:=Qq (HF.out.cell (j:=ix) (by rw [IP];exact uU));have OU:=Qq (HF.out.cell (j:=iy) (by rw [IP];exact jS))
    have NN:=Qq (HU.out.cell (j:=ix) (by rw [IN];exact uU));have NM:=Qq (HU.out.cell (j:=iy) (by rw [IN];exact jS));rw [<-iQ]at OV;rw [<-SX]at OU;rw [<-sQ]at NN;rw [<-RL]at NM;have eP:=Qq HF.out.lt.2;have VE:=Qq HU.out.lt.2;clear iQ SX sQ RL IN IP;go_upto_region 10 with(fail);have vN:=Qq (show Qg wr (wr.alloc (.cells #[.int .i64 op,.int .i64 n.i,.int .i64 n.e,.int .i64 n.g,.int .i64 (ix:Int),.int .i64 (iy:Int)] 71))from(Qg.refl wr).alloc _);have fA:=Qq (show(wr.alloc (.cells #[.int .i64 op,.int .i64 n.i,.int .i64 n.e,.int .i64 n.g,.int .i64 (ix:Int),.int .i64 (iy:Int)] 71)).heap[wr.heap.size]?=some (.cells #[.int .i64 op,.int .i64 n.i,.int .i64 n.e,.int .i64 n.g,.int .i64 (ix:Int),.int .i64 (iy:Int)] 71 (0,0))from heap_alloc_new _ _)
    obtain⟨W3,fR⟩:∃z,z=wr.alloc (.cells #[.int .i64 op,.int .i64 n.i,.int .i64 n.e,.int .i64 n.g,.int .i64 (ix:Int),.int .i64 (iy:Int)] 71):=⟨_,rfl⟩;rw [<-fR]at vN fA⊢;obtain⟨q,hq⟩:∃z,z=wr.heap.size:=⟨_,rfl⟩;rw [<-hq]at fA⊢;have T5:=Qq hq;clear fR hq c0 c1 c2 c3 c4 c5 xL;obtain⟨d0,d1,d2,d3,d4,d5,dl⟩:=Qio fA.out;have x0:=(vN.out.cell (p:=⟨h,ix,none⟩) eP.out).trans OV.out;have y0:=(vN.out.cell (p:=⟨h,iy,none⟩) eP.out).trans OU.out;have xl:h < W3.heap.size:=Qy eP.out vN.out.size;obtain⟨b1,yS⟩:∃z,z=(!decide (4<=op)||fx):=⟨_,rfl⟩;have VW:=Qq yS;clear yS;go_upto_if 33 with(fail)
    go_cut [11] (fun s wx=>s=.bool b1/\wx=W3)
    case first =>
     by_cases h4:4<=op
     ·go_wp2_with fail;go_meet;exact⟨by rw [VW.out,decide_eq_true h4] <;> rfl,rfl⟩
     go_wp2_with fail;go_meet;exact⟨by rw [VW.out,decide_eq_false (by omega)] <;> rfl,rfl⟩
    case rest =>
     obtain⟨rfl,tH⟩:=hcut;obtain rfl:W3=wc:=tH.symm;obtain⟨b2,xA⟩:∃z,z=((decide (5<=op)&&decide (op<=8))||op==13):=⟨_,rfl⟩;have fC:=Qq xA;obtain⟨b3,vH⟩:∃z,z=(b1&&(!b2||fy)):=⟨_,rfl⟩;have aR:=Qq vH;clear xA vH;go_upto_region 12 with(fail);go_cut [51] (fun s wx=>s=.bool b2/\wx=W3)
     case first =>
      by_cases h5:5<=op
      ·by_cases h8:op<=8
       ·go_wp2_with fail;go_meet;exact⟨by rw [fC.out,decide_eq_true h5,decide_eq_true h8] <;> rfl,rfl⟩
       by_cases xI:op=13
       ·have dT:(op==13)=true:=by simpa using xI
        go_wp2_with fail;go_meet;exact⟨by rw [fC.out,dT,Bool.or_true] <;> rfl,rfl⟩
       have dT:(op==13)=false:=by simpa using xI
       clear xI;go_wp2_with fail;go_meet;exact⟨by rw [fC.out,dT,decide_eq_false (show ¬op<=8 by omega),Bool.and_false] <;> rfl,rfl⟩
      have dT:(op==13)=false:=by rw [beq_eq_false_iff_ne];omega
      go_wp2_with fail;go_meet;exact⟨by rw [fC.out,dT,decide_eq_false (show ¬5<=op by omega)] <;> rfl,rfl⟩
     case rest =>
      obtain⟨rfl,tH⟩:=hcut;obtain rfl:W3=wc:=tH.symm;go_upto_if 51 with(fail);go_cut [11] (fun s wx=>s=.bool b3/\wx=W3)
      case first =>
       cases b2
       ·go_wp2_with fail;go_meet;exact⟨by rw [aR.out] <;> simp,rfl⟩
       cases b1
       ·go_wp2_with fail;go_meet;exact⟨by rw [aR.out] <;> rfl,rfl⟩
       go_wp2_with fail;go_meet;exact⟨by rw [aR.out] <;> rfl,rfl⟩
      case rest =>
       obtain⟨rfl,tH⟩:=hcut;obtain rfl:W3=wc:=tH.symm;have aF:=Qq (show okP n (Jg md f k).2=b3 by
        unfold okP;rw [aR.out,VW.out,fC.out,jE.out,gC.out,aK.out,OK.out,<-xU.out,Qtp,Qtp]
        rfl)
       cases b3
       ·obtain⟨vS,xN⟩:=Zza (md:=md) hlt2 (by rw [kM.out];exact aF.out);have fW:=Qq vS;have vK:=Qq xN;clear vS xN;go_wp2_with fail;go_roundw
        case rel=>exact⟨k+1,by go_num,by omega,Qq ⟨HX.out.trans vN.out,by rw [fW.out];exact HU.out.ext vN.out,by rw [vK.out];exact HF.out.ext vN.out⟩⟩
        case measure=>simp [intOf];omega
       obtain⟨vS,xN⟩:=Zkb (md:=md) hlt2 kM.out aF.out;have fW:=Qq vS;have vK:=Qq xN;clear vS xN;go_upto_region 15 with(fail);obtain⟨e0,e1,e2,eb⟩:=Qyf (((HX.out.trans vN.out).block sM.out).trans wT.out);have u0:=(vN.out.cell (p:=⟨g,ix,none⟩) VE.out).trans NN.out;have v0:=(vN.out.cell (p:=⟨g,iy,none⟩) VE.out).trans NM.out;have gl:g < W3.heap.size:=Qy VE.out vN.out.size;have bG:=Qq (HU.out.ext vN.out);have kS:=Qq (HF.out.ext vN.out);have NQ:=Qq (show Qm sx by rw [oQ.out];exact Qrj uY.out aI.out ix);have NP:=Qq (show Qm sy by rw [ZT.out];exact Qrj uY.out aI.out iy)
       have jA:=Qq (show b≠g by have h1:=sM.out;have h2:=HG.out;omega);have eI:=Qq (show b≠h by have h1:=sM.out;have h2:=HG.out;have h3:=XS.out;omega);have fX:=Qq (show q≠g by have h1:=T5.out;have h2:=VE.out;omega);have G6:=Qq (show q≠h by have h1:=T5.out;have h2:=eP.out;omega);have OQ:=Qq (show g≠h from fun e=>mJ.out (by rw [<-e]));have OP:=Qq (show h≠g from fun e=>mJ.out (by rw [e]));clear x0 y0 xl;refine Ym 23 (fun w'=>w'.cell? (⟨b,0,none⟩)=some (.int .i64 md.n)/\w'.cell? (⟨b,1,none⟩)=some (.slice Av md.val.length cv)/\w'.cell? (⟨b,2,none⟩)=some (.slice Ar md.rel.length cr)/\w'.cell? (⟨q,0,none⟩)=some (.int .i64 op)/\w'.cell? (⟨q,1,none⟩)=some (.int .i64 n.i)/\w'.cell? (⟨q,2,none⟩)=some (.int .i64 n.e)/\w'.cell? (⟨q,3,none⟩)=some (.int .i64 n.g)/\w'.cell? (⟨q,4,none⟩)=some (.int .i64 (ix:Int))/\w'.cell? (⟨q,5,none⟩)=some (.int .i64 (iy:Int))) (by kernel_rfl) ⟨xd eb e0,xd eb e1,xd eb e2,xd dl d0,xd dl d1,xd dl d2,xd dl d3,xd dl d4,xd dl d5⟩ (fun zZ=> ?_)
       refine Qo 0 zZ ?_;refine Qo 1 zZ ?_;refine Qo 2 zZ ?_;refine Qo 3 zZ ?_;refine Qo 4 zZ ?_;refine Qo 5 zZ ?_;refine Qo 6 zZ ?_;refine Qo 7 zZ ?_;refine Qo 8 zZ ?_;refine Qo 9 zZ ?_;refine Qo 11 zZ ?_;refine Qo 12 zZ ?_;refine Qo 13 zZ ?_;refine Qo 14 zZ ?_;refine Qe (rs:= [10,15]) (by kernel_rfl) (by simp) ?_;refine Zj.cons rfl (fun K hK=> ?_) (Zj.cons rfl (fun K hK=> ?_) Zj.nil)
       ·skip
        go_simp;refine hK.out _ _ ⟨xd eb e0,xd eb e1,xd eb e2,xd dl d0,xd dl d1,xd dl d2,xd dl d3,xd dl d4,xd dl d5⟩ (fun zZ=> ?_);clear hK K;refine Qb ?_;refine Qe (rs:= [15]) (by kernel_rfl) (by simp) ?_;refine Zj.cons rfl (fun K hK=> ?_) Zj.nil;go_simp;refine hK.out _ _ ⟨xd eb e0,xd eb e1,xd eb e2,xd dl d0,xd dl d1,xd dl d2,xd dl d3,xd dl d4,xd dl d5⟩ (fun zZ=> ?_);clear hK K;refine Qb ?_;refine Qe (rs:= [16]) (by kernel_rfl) (by simp) ?_;refine Zj.cons rfl (fun K hK=> ?_) Zj.nil;go_simp;have h1:=Qnm (.agg #[.int .i64 md.n,.slice Av md.val.length cv,.slice Ar md.rel.length cr]) md n sx sy W3.drew (HM.out.ext ((yY.out.trans vN.out).trans (Qz.drew))) zE.out uY.out kP.out NQ.out NP.out (fun ha hb=>(Qnq kP.out ha hb))
        unfold Nd.val at h1;obtain⟨ov,cN⟩:∃o,o=Vb md n sx sy:=⟨_,rfl⟩;obtain⟨fv,SY⟩:∃o,o=Jv md n:=⟨_,rfl⟩;have OB:=Qq cN;have GG:=Qq SY;rw [<-cN,<-SY,<-xU.out,aK.out,OK.out]at h1;clear cN SY;refine h1.mono ?_;clear h1;rintro e w5 ⟨rfl,yI⟩;have xG:Qg W3 w5:=Qg.trans (Qz.drew) yI;have yJ:=Qq xG;have gT:=Qq (bG.out.ext xG);have VJ:=Qq (kS.out.ext xG);have cg:=gT.out.cell (j:=k) (by rw [OH.out];exact hlt2);have fg:=gT.out.frozen k;clear yI;go_wp2_with fail;refine hK.out _ _ ⟨xd eb e0,xd eb e1,xd eb e2,xd dl d0,xd dl d1,xd dl d2,xd dl d3,xd dl d4,xd dl d5⟩ (fun zZ=> ?_);clear hK K
        refine Qb ?_;refine Qo 17 zZ ?_;refine Qo 18 zZ ?_;refine Qo 19 zZ ?_;refine Qo 20 zZ ?_;refine Qe (rs:= [21]) (by kernel_rfl) (by simp) ?_;refine Zj.cons rfl (fun K hK=> ?_) Zj.nil;go_simp;obtain⟨dX,dW⟩:=gT.out.set k ov;have EL:=Qq dX;have bQ:=Qq (VJ.out.kept dW OQ.out);have ch:=bQ.out.cell (j:=k) (by rw [QT.out];exact hlt2);have fh:=bQ.out.frozen k;have gR:=Qq (((HX.out.trans vN.out).trans yJ.out).setCell (p:=⟨g,k,none⟩) (by have h2:=HG.out;show w1.heap.size<=g;omega) (.int .u64 (ov:Int)));clear dX dW;refine hK.out _ _ ⟨(World.cell?_of_block (a:=⟨b,0,none⟩) (Below.heap_setCell _ _ _ _ jA.out)).trans ((yJ.out.cell (p:=⟨b,0,none⟩) eb).trans e0),(World.cell?_of_block (a:=⟨b,1,none⟩) (Below.heap_setCell _ _ _ _ jA.out)).trans ((yJ.out.cell (p:=⟨b,1,none⟩) eb).trans e1),(World.cell?_of_block (a:=⟨b,2,none⟩) (Below.heap_setCell _ _ _ _ jA.out)).trans ((yJ.out.cell (p:=⟨b,2,none⟩) eb).trans e2),(World.cell?_of_block (a:=⟨q,0,none⟩) (Below.heap_setCell _ _ _ _ fX.out)).trans ((yJ.out.cell (p:=⟨q,0,none⟩) dl).trans d0),(World.cell?_of_block (a:=⟨q,1,none⟩) (Below.heap_setCell _ _ _ _ fX.out)).trans ((yJ.out.cell (p:=⟨q,1,none⟩) dl).trans d1),(World.cell?_of_block (a:=⟨q,2,none⟩) (Below.heap_setCell _ _ _ _ fX.out)).trans ((yJ.out.cell (p:=⟨q,2,none⟩) dl).trans d2),(World.cell?_of_block (a:=⟨q,3,none⟩) (Below.heap_setCell _ _ _ _ fX.out)).trans ((yJ.out.cell (p:=⟨q,3,none⟩) dl).trans d3),(World.cell?_of_block (a:=⟨q,4,none⟩) (Below.heap_setCell _ _ _ _ fX.out)).trans ((yJ.out.cell (p:=⟨q,4,none⟩) dl).trans d4),(World.cell?_of_block (a:=⟨q,5,none⟩) (Below.heap_setCell _ _ _ _ fX.out)).trans ((yJ.out.cell (p:=⟨q,5,none⟩) dl).trans d5)⟩ (fun zZ=> ?_)
        clear hK K;refine Qb ?_;refine Qo 22 zZ ?_;refine Yh (by kernel_rfl) rfl (fun K hK=> ?_);go_simp;refine hK.out _ _ ?_;clear hK K;refine Qb ?_;refine Yc (by kernel_rfl) ?_ _;obtain⟨eS,eR⟩:=bQ.out.set k fv;have UL:=Qq (show Nv md f (k+1)=(Nv md f k).set k ov by rw [fW.out,OB.out,oQ.out,ZT.out,aK.out,OK.out];rfl);have UK:=Qq (show Ln md f (k+1)=(Ln md f k).set k fv by rw [vK.out,GG.out]);have QW:=Qq eS;have EK:=Qq (EL.out.kept eR OP.out);have sL:=Qq (gR.out.setCell (p:=⟨h,k,none⟩) (by have h2:=HG.out;have h3:=XS.out;show w1.heap.size<=h;omega) (.bool fv))
        clear eS eR;go_wp2_with fail;go_roundw
        case rel=>exact⟨k+1,by go_num,by omega,Qq ⟨sL.out,by rw [UL.out];exact EK.out,by rw [UK.out];exact QW.out⟩⟩
        case measure=>simp [intOf];omega
       skip
       go_simp;refine hK.out _ _ ⟨xd eb e0,xd eb e1,xd eb e2,xd dl d0,xd dl d1,xd dl d2,xd dl d3,xd dl d4,xd dl d5⟩ (fun zZ=> ?_);clear hK K;refine Qb ?_;refine Qe (rs:= [10]) (by kernel_rfl) (by simp) ?_;refine Zj.cons rfl (fun K hK=> ?_) Zj.nil;go_simp;refine hK.out _ _ ⟨xd eb e0,xd eb e1,xd eb e2,xd dl d0,xd dl d1,xd dl d2,xd dl d3,xd dl d4,xd dl d5⟩ (fun zZ=> ?_);clear hK K;refine Qb ?_;refine Qe (rs:= [16]) (by kernel_rfl) (by simp) ?_;refine Zj.cons rfl (fun K hK=> ?_) Zj.nil;go_simp;have h1:=Qnm (.agg #[.int .i64 md.n,.slice Av md.val.length cv,.slice Ar md.rel.length cr]) md n sx sy W3.drew (HM.out.ext ((yY.out.trans vN.out).trans (Qz.drew))) zE.out uY.out kP.out NQ.out NP.out (fun ha hb=>(Qnq kP.out ha hb))
       unfold Nd.val at h1;obtain⟨ov,cN⟩:∃o,o=Vb md n sx sy:=⟨_,rfl⟩;obtain⟨fv,SY⟩:∃o,o=Jv md n:=⟨_,rfl⟩;have OB:=Qq cN;have GG:=Qq SY;rw [<-cN,<-SY,<-xU.out,aK.out,OK.out]at h1;clear cN SY;refine h1.mono ?_;clear h1;rintro e w5 ⟨rfl,yI⟩;have xG:Qg W3 w5:=Qg.trans (Qz.drew) yI;have yJ:=Qq xG;have gT:=Qq (bG.out.ext xG);have VJ:=Qq (kS.out.ext xG);have cg:=gT.out.cell (j:=k) (by rw [OH.out];exact hlt2);have fg:=gT.out.frozen k;clear yI;go_wp2_with fail;refine hK.out _ _ ⟨xd eb e0,xd eb e1,xd eb e2,xd dl d0,xd dl d1,xd dl d2,xd dl d3,xd dl d4,xd dl d5⟩ (fun zZ=> ?_);clear hK K
       refine Qb ?_;refine Qo 17 zZ ?_;refine Qo 18 zZ ?_;refine Qo 19 zZ ?_;refine Qo 20 zZ ?_;refine Qe (rs:= [21]) (by kernel_rfl) (by simp) ?_;refine Zj.cons rfl (fun K hK=> ?_) Zj.nil;go_simp;obtain⟨dX,dW⟩:=gT.out.set k ov;have EL:=Qq dX;have bQ:=Qq (VJ.out.kept dW OQ.out);have ch:=bQ.out.cell (j:=k) (by rw [QT.out];exact hlt2);have fh:=bQ.out.frozen k;have gR:=Qq (((HX.out.trans vN.out).trans yJ.out).setCell (p:=⟨g,k,none⟩) (by have h2:=HG.out;show w1.heap.size<=g;omega) (.int .u64 (ov:Int)));clear dX dW;refine hK.out _ _ ⟨(World.cell?_of_block (a:=⟨b,0,none⟩) (Below.heap_setCell _ _ _ _ jA.out)).trans ((yJ.out.cell (p:=⟨b,0,none⟩) eb).trans e0),(World.cell?_of_block (a:=⟨b,1,none⟩) (Below.heap_setCell _ _ _ _ jA.out)).trans ((yJ.out.cell (p:=⟨b,1,none⟩) eb).trans e1),(World.cell?_of_block (a:=⟨b,2,none⟩) (Below.heap_setCell _ _ _ _ jA.out)).trans ((yJ.out.cell (p:=⟨b,2,none⟩) eb).trans e2),(World.cell?_of_block (a:=⟨q,0,none⟩) (Below.heap_setCell _ _ _ _ fX.out)).trans ((yJ.out.cell (p:=⟨q,0,none⟩) dl).trans d0),(World.cell?_of_block (a:=⟨q,1,none⟩) (Below.heap_setCell _ _ _ _ fX.out)).trans ((yJ.out.cell (p:=⟨q,1,none⟩) dl).trans d1),(World.cell?_of_block (a:=⟨q,2,none⟩) (Below.heap_setCell _ _ _ _ fX.out)).trans ((yJ.out.cell (p:=⟨q,2,none⟩) dl).trans d2),(World.cell?_of_block (a:=⟨q,3,none⟩) (Below.heap_setCell _ _ _ _ fX.out)).trans ((yJ.out.cell (p:=⟨q,3,none⟩) dl).trans d3),(World.cell?_of_block (a:=⟨q,4,none⟩) (Below.heap_setCell _ _ _ _ fX.out)).trans ((yJ.out.cell (p:=⟨q,4,none⟩) dl).trans d4),(World.cell?_of_block (a:=⟨q,5,none⟩) (Below.heap_setCell _ _ _ _ fX.out)).trans ((yJ.out.cell (p:=⟨q,5,none⟩) dl).trans d5)⟩ (fun zZ=> ?_)
       clear hK K;refine Qb ?_;refine Qo 22 zZ ?_;refine Yh (by kernel_rfl) rfl (fun K hK=> ?_);go_simp;refine hK.out _ _ ?_;clear hK K;refine Qb ?_;refine Yc (by kernel_rfl) ?_ _;obtain⟨eS,eR⟩:=bQ.out.set k fv;have UL:=Qq (show Nv md f (k+1)=(Nv md f k).set k ov by rw [fW.out,OB.out,oQ.out,ZT.out,aK.out,OK.out];rfl);have UK:=Qq (show Ln md f (k+1)=(Ln md f k).set k fv by rw [vK.out,GG.out]);have QW:=Qq eS;have EK:=Qq (EL.out.kept eR OP.out);have sL:=Qq (gR.out.setCell (p:=⟨h,k,none⟩) (by have h2:=HG.out;have h3:=XS.out;show w1.heap.size<=h;omega) (.bool fv))
       clear eS eR;go_wp2_with fail;go_roundw
       case rel=>exact⟨k+1,by go_num,by omega,Qq ⟨sL.out,by rw [UL.out];exact EK.out,by rw [UK.out];exact QW.out⟩⟩
       case measure=>simp [intOf];omega
   obtain rfl:f.length=k:=by omega
   go_wp2_with fail;go_ret2;exact⟨_,rfl,yY.out,Qq fun _=>by have h1:=HU.out.u64s;rw [Zzc,(Fx md f f.length).1]at h1;exact h1⟩
 have rQ:(er==0)=false:=by rw [beq_eq_false_iff_ne];exact hz
 have HZ:=Qq hz;clear hz;go_enter Tryz.func62,Tryz.ntmps62;go_wp2_with fail;refine(Qnl _ _ md f _ (HM.out.ext zL.out) zE.out (H.out.ext zL.out)).mono ?_;rintro e w1 ⟨rfl,zN⟩;rw [<-wK.out];have zO:=Qq (zL.out.trans zN);clear zN;go_wp2_with fail;go_ret2;exact⟨_,rfl,zO.out,Qq fun e=>absurd e HZ.out⟩
end Go.Proofs.YtkmclcmnoicagaaGreatDoor
