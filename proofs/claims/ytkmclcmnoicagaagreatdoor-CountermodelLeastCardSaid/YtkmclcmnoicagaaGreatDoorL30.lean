/- The program's checker: the worlds at which a node holds. -/
import Derived.Test.YtkmclcmnoicagaaGreatDoorL27
import Derived.Deep.Cut
namespace Go.Proofs.YtkmclcmnoicagaaGreatDoor
set_option maxRecDepth 100000
set_option maxHeartbeats 128000000
open Go.RowKit
theorem wrap_i64 {k:Nat}(h:k<=4):IntKind.i64.wrap ((2:Int)^k)=((2^k:Nat):Int):=by
 have e:∀k:Fin 5,IntKind.i64.wrap ((2:Int)^k.val)=((2^k.val:Nat):Int):=by decide+kernel
 exact e ⟨k,by omega⟩
theorem Qo5 {w:World} {b:Nat} {a0 a1 a2 a3 a4 a5:Value} {t:TypeId}(h:w.heap[b]?=some (.cells #[a0,a1,a2,a3,a4,a5] t (0,0))):w.cell? ⟨b,0,none⟩=some a0/\w.cell? ⟨b,1,none⟩=some a1/\w.cell? ⟨b,3,none⟩=some a3/\b < w.heap.size :=
 ⟨by simp [World.cell?,h],by simp [World.cell?,h],by simp [World.cell?,h],Qn h⟩
theorem Qnq(vm:Value)(md:Md)(n:Nd)(x y:Nat)(w:World)(hm:Yz w vm md)(zO:md.ok)(zU:Qa md=0)(hh:Za n)(hx:Qp x)(hy:Qp y)(vK:11<=n.op->n.op<=13->1<=n.g):
 Calls Tryz.prog 133 #[vm,n.val,.int .u64 (x:Int),.int .u64 (y:Int)] w fun e w'=>e=.returned (.tuple #[.int .u64 ((Vj md n x y:Nat):Int),.bool (Jy md n)])/\Qg w w':=by
 obtain⟨wH,yW,vA,gF,uZ,_,_⟩:=Zb zU;have vY:=Qs5 zU;obtain⟨N,oV⟩:=Int.eq_ofNat_of_zero_le (show 0<=md.n by omega);have nN:md.n.toNat=N:=by rw [oV];exact Int.toNat_natCast N
 have HM:=Qq hm;have zC:=Qq zO;have yF:=Qq zU;have HH:=Qq hh;have yZ:=Qq hx;have aO:=Qq hy;obtain⟨vv,vr,rfl,hv,hr⟩:=hm;obtain⟨Av,cv,rfl,_,_,HV⟩:=Vl hv;obtain⟨Ar,cr,rfl,_,_,HR⟩:=Ut hr;have xI:N<=64:=by omega
 have KI:1<=N:=by omega
 have vC:=Qq (show Uo md n x y=if n.op=3 then md.val.getD n.i.toNat 0 else if n.op<=8 then Gk n.op x y (Zn N)
  else if n.op=9 then Vg (md.rel.getD n.i.toNat []) N x
  else if n.op=10 then Jk (Zn N) (Vg (md.rel.getD n.i.toNat []) N (Jk (Zn N) x))
  else if n.op=11 then Vg ((List.range N).map (Jw md.rel n.g.toNat false N)) N x
  else if n.op=12 then Vg ((List.range N).map (Jw md.rel n.g.toNat true N)) N x
  else Xb ((List.range N).map (Jw md.rel n.g.toNat false N)) N x y by unfold Uo;rw [nN])
 have nR:=Qq (show ∀r∈md.rel,r.length=N from fun r hr=>by have:=uZ r hr;omega);have fM:=Qq (show ∀r∈md.rel,∀s∈r,s < 2^N by rw [nN]at vY;exact vY);have WU:=Qq (show ∀gn b,∀s∈(List.range N).map (Jw md.rel gn b N),s < 2^N from fun gn b s hs=>by
  obtain⟨i,_,rfl⟩:=List.mem_map.1 hs;exact Qip fM.out)
 have IL:=Qq (show ∀gn b,∀s∈(List.range N).map (Jw md.rel gn b N),Qp s from fun gn b s hs=>Qy (WU.out gn b s hs) (Rv xI));have IP:=Qq (show ∀gn b,Jh ((List.range N).map (Jw md.rel gn b N)).length ((List.range N).map (Jw md.rel gn b N))=0 from fun gn b=>Cc (by simp) xI (WU.out gn b));have tU:=Qq oV;have rL:=Qq nN;have JE:=Qq (Qoc xI);have gC:=Qq (Vn xI);have vQ:=(Dc n.op).1 hh.1;have WV:=Qq vK;rw [oV]at HM⊢;unfold Nd.val;clear zO zU hh hx hy hv hr wH yW uZ oV nN vY vK;obtain⟨W0,zB⟩:∃W,W=(w.alloc (.cells #[.int .i64 (N:Int),.slice Av md.val.length cv,.slice Ar md.rel.length cr] 26)).alloc (.cells #[.int .i64 n.op,.int .i64 n.i,.int .i64 n.e,.int .i64 n.g,.int .i64 n.x,.int .i64 n.y] 71):=⟨_,rfl⟩
 have zL:=Qq (show Qg w W0 by rw [zB];exact(Qz.alloc _).alloc _);obtain⟨b,hb⟩:∃b,b=w.heap.size:=⟨_,rfl⟩;have SQ:=Qq (show W0.heap[b]?=some (.cells #[.int .i64 (N:Int),.slice Av md.val.length cv,.slice Ar md.rel.length cr] 26 (0,0)) by rw [zB,hb];exact((Qz.alloc _).block (by simp)).trans (heap_alloc_new _ _));have bO:=Qq (show W0.heap[b+1]?=some (.cells #[.int .i64 n.op,.int .i64 n.i,.int .i64 n.e,.int .i64 n.g,.int .i64 n.x,.int .i64 n.y] 71 (0,0)) by
  have h1:=heap_alloc_new (w.alloc (.cells #[.int .i64 (N:Int),.slice Av md.val.length cv,.slice Ar md.rel.length cr] 26)) (.cells #[.int .i64 n.op,.int .i64 n.i,.int .i64 n.e,.int .i64 n.g,.int .i64 n.x,.int .i64 n.y] 71);rw [zB,hb]
  simpa using h1)
 obtain⟨e0,e1,e2,eb⟩:=Qj4 SQ.out;obtain⟨c0,c1,c3,cb⟩:=Qo5 bO.out;go_enter Tryz.func133,Tryz.ntmps133;go_upto_region 2 with(fail);rw [<-zB,<-hb,JE.out];clear zB hb;obtain⟨al,vS⟩:∃a,a=Zn N:=⟨_,rfl⟩;have nZ:=Qq vS;rw [<-vS]at gC⊢;clear vS;obtain⟨op,zK⟩:∃z,z=n.op:=⟨_,rfl⟩;have xX:=Qq zK;rw [<-zK]at c0 vQ;clear zK;have TS:op=1\/op=2\/op=3\/op=4\/op=5\/op=6\/op=7\/op=8\/op=9\/op=10\/op=11\/op=12\/op=13\/14<=op:=by omega
 rcases TS with rfl|rfl|rfl|rfl|rfl|rfl|rfl|rfl|rfl|rfl|rfl|rfl|rfl|G2
 ·have HF:=Qq (show Jy md n=true by unfold Jy;rw [<-xX.out];rfl);have HE:=Qq (show Vj md n x y=al by unfold Vj;first|(rw [if_pos HF.out,vC.out,<-xX.out,nZ.out];rfl)|(rw [if_pos HF.out,vC.out,<-xX.out];rfl));clear vQ;go_wp2_with fail;go_ret2;exact⟨by rw [HE.out,HF.out] <;> rfl,zL.out⟩
 ·have HF:=Qq (show Jy md n=true by unfold Jy;rw [<-xX.out];rfl);have HE:=Qq (show Vj md n x y=0 by unfold Vj;first|(rw [if_pos HF.out,vC.out,<-xX.out,nZ.out];rfl)|(rw [if_pos HF.out,vC.out,<-xX.out];rfl));clear vQ;go_wp2_with fail;go_ret2;exact⟨by rw [HE.out,HF.out] <;> rfl,zL.out⟩
 ·obtain⟨h0,h8⟩:=Fe HH.out xX.out.symm;obtain⟨k,hk⟩:=Int.eq_ofNat_of_zero_le h0;rw [hk]at c1;by_cases xD:k < md.val.length
  ·have HF:=Qq (show Jy md n=true by unfold Jy;rw [<-xX.out,if_pos rfl,hk];exact decide_eq_true (by omega));have HE:=Qq (show Vj md n x y=md.val.getD k 0 by unfold Vj;rw [if_pos HF.out,vC.out,if_pos xX.out.symm,hk];rfl);have yT:¬(md.val.length:Int)<=(k:Int):=by omega
   have wW:(k:Int) < (md.val.length:Int):=by omega
   obtain⟨ad,rfl,zV,hc⟩:=HV.out k xD;have a0:=(zL.out.cell (p:=ad.add k) (Qj zV)).trans hc;have al2:(ad.add k).block < W0.heap.size:=by rw [Qt];exact Qy zV zL.out.size
   obtain⟨z,hz⟩:∃z,z=md.val.getD k 0:=⟨_,rfl⟩;rw [<-hz]at a0 HE;clear h0 h8 hk hc vQ hz;go_wp2_with fail;go_ret2;exact⟨by rw [HE.out,HF.out] <;> rfl,zL.out⟩
  have HF:=Qq (show Jy md n=false by unfold Jy;rw [<-xX.out,if_pos rfl,hk];exact decide_eq_false (by omega));have HE:=Qq (show Vj md n x y=0 by unfold Vj;rw [HF.out];rfl);have yT:(md.val.length:Int)<=(k:Int):=by omega
  clear h0 h8 hk xD vQ;go_wp2_with fail;go_ret2;exact⟨by rw [HE.out,HF.out] <;> rfl,zL.out⟩
 ·have HF:=Qq (show Jy md n=true by unfold Jy;rw [<-xX.out];rfl);have HE:=Qq (show Vj md n x y=Jk al x by unfold Vj;first|(rw [if_pos HF.out,vC.out,<-xX.out,nZ.out];rfl)|(rw [if_pos HF.out,vC.out,<-xX.out];rfl));have b1:=Vy gC.out yZ.out;clear vQ;go_wp2_with fail;go_ret2;exact⟨by rw [HE.out,HF.out] <;> rfl,zL.out⟩
 ·have HF:=Qq (show Jy md n=true by unfold Jy;rw [<-xX.out];rfl);have HE:=Qq (show Vj md n x y=x&&&y by unfold Vj;first|(rw [if_pos HF.out,vC.out,<-xX.out,nZ.out];rfl)|(rw [if_pos HF.out,vC.out,<-xX.out];rfl));have b1:=Xy yZ.out aO.out;clear vQ;go_wp2_with fail;go_ret2;exact⟨by rw [HE.out,HF.out] <;> rfl,zL.out⟩
 ·have HF:=Qq (show Jy md n=true by unfold Jy;rw [<-xX.out];rfl);have HE:=Qq (show Vj md n x y=x|||y by unfold Vj;first|(rw [if_pos HF.out,vC.out,<-xX.out,nZ.out];rfl)|(rw [if_pos HF.out,vC.out,<-xX.out];rfl));have b1:=Gq yZ.out aO.out;clear vQ;go_wp2_with fail;go_ret2;exact⟨by rw [HE.out,HF.out] <;> rfl,zL.out⟩
 ·have HF:=Qq (show Jy md n=true by unfold Jy;rw [<-xX.out];rfl);have HE:=Qq (show Vj md n x y=Jk al x|||y by unfold Vj;first|(rw [if_pos HF.out,vC.out,<-xX.out,nZ.out];rfl)|(rw [if_pos HF.out,vC.out,<-xX.out];rfl));have b1:=Vy gC.out yZ.out;have b2:=Gq (a:=Jk al x) (b:=y) (Ub gC.out) aO.out;clear vQ;go_wp2_with fail;go_ret2;exact⟨by rw [HE.out,HF.out] <;> rfl,zL.out⟩
 ·have HF:=Qq (show Jy md n=true by unfold Jy;rw [<-xX.out];rfl);have HE:=Qq (show Vj md n x y=Jk al (x^^^y) by unfold Vj;first|(rw [if_pos HF.out,vC.out,<-xX.out,nZ.out];rfl)|(rw [if_pos HF.out,vC.out,<-xX.out];rfl));have b1:=Qvf yZ.out aO.out;have b2:=Vy (a:=al) (b:=x^^^y) gC.out (Qkn yZ.out aO.out);clear vQ;go_wp2_with fail;go_ret2;exact⟨by rw [HE.out,HF.out] <;> rfl,zL.out⟩
 ·obtain⟨h0,h4⟩:=Ki HH.out (by rw [<-xX.out];rfl);obtain⟨k,hk⟩:=Int.eq_ofNat_of_zero_le h0;rw [hk]at c1;by_cases xD:k < md.rel.length
  ·have HF:=Qq (show Jy md n=true by unfold Jy;rw [<-xX.out,if_neg (by decide),if_neg (by decide),if_pos (by decide),hk];exact decide_eq_true (by omega));have HE:=Qq (show Vj md n x y=Vg (md.rel.getD k []) N x by unfold Vj;rw [if_pos HF.out,vC.out,<-xX.out,hk];rfl);have yT:¬(md.rel.length:Int)<=(k:Int):=by omega
   have wW:(k:Int) < (md.rel.length:Int):=by omega
   obtain⟨ad,u,rfl,zV,yR,hu⟩:=HR.out k xD;have wR:md.rel.getD k []∈md.rel:=by rw [Qk,Qv xD];exact List.getElem_mem xD
   have yU:=nR.out _ wR;have QU:=Qq (Cc yU xI (fM.out _ wR));have rW:=Qq (Qky yU (List.any_eq_false.2 fun s hs=>by simpa using fM.out _ wR s hs));have fS:=Qq (show Na (md.rel.getD k []) x=Vg (md.rel.getD k []) N x by unfold Na;rw [if_pos QU.out,yU]);have tE:=Qq (zC.out.rel _ wR);have HU:=Qq (hu.ext zL.out);have a0:=(zL.out.cell (p:=ad.add k) (Qj zV)).trans yR;have al2:(ad.add k).block < W0.heap.size:=by rw [Qt];exact Qy zV zL.out.size
   obtain⟨r,hr⟩:∃r,r=md.rel.getD k []:=⟨_,rfl⟩;rw [<-hr]at HE fS tE HU;clear h0 h4 hk yR vQ hu wR yU hr;go_wp2_with(go_at_call 186;refine(Mc _ r x _ HU.out tE.out yZ.out).mono ?_;rintro e w5 ⟨rfl,xH⟩;have yJ:=Qq (zL.out.trans xH);clear xH);go_ret2;exact⟨by rw [HE.out,HF.out,<-fS.out] <;> rfl,yJ.out⟩
  have HF:=Qq (show Jy md n=false by unfold Jy;rw [<-xX.out,if_neg (by decide),if_neg (by decide),if_pos (by decide),hk];exact decide_eq_false (by omega));have HE:=Qq (show Vj md n x y=0 by unfold Vj;rw [HF.out];rfl);have yT:(md.rel.length:Int)<=(k:Int):=by omega
  clear h0 h4 hk xD vQ;go_wp2_with fail;go_ret2;exact⟨by rw [HE.out,HF.out] <;> rfl,zL.out⟩
 ·obtain⟨h0,h4⟩:=Ki HH.out (by rw [<-xX.out];rfl);obtain⟨k,hk⟩:=Int.eq_ofNat_of_zero_le h0;rw [hk]at c1;by_cases xD:k < md.rel.length
  ·have HF:=Qq (show Jy md n=true by unfold Jy;rw [<-xX.out,if_neg (by decide),if_neg (by decide),if_pos (by decide),hk];exact decide_eq_true (by omega));have HE:=Qq (show Vj md n x y=Jk (Zn N) (Vg (md.rel.getD k []) N (Jk (Zn N) x)) by unfold Vj;rw [if_pos HF.out,vC.out,<-xX.out,hk];rfl);have yT:¬(md.rel.length:Int)<=(k:Int):=by omega
   have wW:(k:Int) < (md.rel.length:Int):=by omega
   obtain⟨ad,u,rfl,zV,yR,hu⟩:=HR.out k xD;have wR:md.rel.getD k []∈md.rel:=by rw [Qk,Qv xD];exact List.getElem_mem xD
   have yU:=nR.out _ wR;have QU:=Qq (Cc yU xI (fM.out _ wR));have rW:=Qq (Qky yU (List.any_eq_false.2 fun s hs=>by simpa using fM.out _ wR s hs));have fS:=Qq (show Qvr (md.rel.getD k []) x=Jk (Zn N) (Vg (md.rel.getD k []) N (Jk (Zn N) x)) by unfold Qvr;rw [if_pos QU.out,yU,Qm7 xI rW.out]);have tE:=Qq (zC.out.rel _ wR);have HU:=Qq (hu.ext zL.out);have a0:=(zL.out.cell (p:=ad.add k) (Qj zV)).trans yR;have al2:(ad.add k).block < W0.heap.size:=by rw [Qt];exact Qy zV zL.out.size
   obtain⟨r,hr⟩:∃r,r=md.rel.getD k []:=⟨_,rfl⟩;rw [<-hr]at HE fS tE HU;clear h0 h4 hk yR vQ hu wR yU hr;go_wp2_with(go_at_call 187;refine(Qe8 _ r x _ HU.out tE.out yZ.out).mono ?_;rintro e w5 ⟨rfl,xH⟩;have yJ:=Qq (zL.out.trans xH);clear xH);go_ret2;exact⟨by rw [HE.out,HF.out,<-fS.out] <;> rfl,yJ.out⟩
  have HF:=Qq (show Jy md n=false by unfold Jy;rw [<-xX.out,if_neg (by decide),if_neg (by decide),if_pos (by decide),hk];exact decide_eq_false (by omega));have HE:=Qq (show Vj md n x y=0 by unfold Vj;rw [HF.out];rfl);have yT:(md.rel.length:Int)<=(k:Int):=by omega
  clear h0 h4 hk xD vQ;go_wp2_with fail;go_ret2;exact⟨by rw [HE.out,HF.out] <;> rfl,zL.out⟩
 ·obtain⟨h0,YR⟩:=Uw HH.out;obtain⟨gn,wC⟩:=Int.eq_ofNat_of_zero_le h0;have NJ:1<=gn:=by have:=WV.out (by rw [<-xX.out];decide) (by rw [<-xX.out];decide);omega
  rw [wC]at c3;by_cases xP:gn < 2^md.rel.length
  ·have HF:=Qq (show Jy md n=true by unfold Jy;rw [<-xX.out,if_neg (by decide),if_neg (by decide),if_neg (by decide),if_pos (by decide),wC];exact decide_eq_true (by exact_mod_cast xP));have HE:=Qq (show Vj md n x y=Vg ((List.range N).map (Jw md.rel gn false N)) N x by unfold Vj;rw [if_pos HF.out,vC.out,<-xX.out,wC];rfl);have fS:=Qq (show Na ((List.range N).map (Jw md.rel gn false N)) x=Vg ((List.range N).map (Jw md.rel gn false N)) N x by unfold Na;rw [if_pos (IP.out gn false),List.length_map,List.length_range]);have NL:=decide_eq_false (Qjm vA xP);have NH:decide (IntKind.i64.wrap ((2:Int)^md.rel.length)<=(gn:Int))=false:=decide_eq_false (by rw [wrap_i64 vA];exact_mod_cast Nat.not_le_of_lt xP)
   have wI:min md.rel.length 64=md.rel.length:=by omega
   clear h0 YR wC vQ;go_upto_region 31 with(fail);refine wp_region_held_drew (S:=fun w'=>w'.cell? (⟨b+1,3,none⟩)=some (.int .i64 (gn:Int))/\w'.cell? (⟨b,2,none⟩)=some (.slice Ar md.rel.length cr)) (by kernel_rfl) ⟨xc cb c3,xc eb e2⟩ (fun zZ=> ?_);refine tk 0 zZ ?_;refine tk 1 zZ ?_;refine tk 2 zZ ?_;refine tk 3 zZ ?_;refine tk 4 zZ ?_;refine tk 5 zZ ?_;refine tk 6 zZ ?_;refine wpAnyH_done (by kernel_rfl) ?_ _;have BM:=Qq ((Qg.refl W0).drew.block (Qn SQ.out));go_wp2_with(first|(go_at_call 189;refine(Qxd _ md gn _ (HM.out.ext (zL.out.trans xv)) zC.out yF.out NJ xP).mono ?_;rintro e w5 ⟨u5,rfl,xH,dF⟩;rw [rL.out]at dF;have yJ:=Qq (zL.out.trans (Qg.trans xv xH));have iN:=Qq dF;have c05:=((Qg.trans xv xH).cell (p:=⟨b+1,0,none⟩) cb).trans c0;clear xH dF)|(go_at_call 186;refine(Mc _ ((List.range N).map (Jw md.rel gn false N)) x _ iN.out (IL.out gn false) yZ.out).mono ?_;rintro e w6 ⟨rfl,uX⟩;rw [fS.out];have iL:=Qq (yJ.out.trans uX);clear uX))
   go_ret2;exact⟨by rw [HE.out,HF.out] <;> rfl,iL.out⟩
  have HF:=Qq (show Jy md n=false by unfold Jy;rw [<-xX.out,if_neg (by decide),if_neg (by decide),if_neg (by decide),if_pos (by decide),wC];exact decide_eq_false (by exact_mod_cast xP));have HE:=Qq (show Vj md n x y=0 by unfold Vj;rw [HF.out];rfl);have NL:decide (wrap64 ((2:Int)^md.rel.length)<=(gn:Int))=true:=decide_eq_true (by rw [Di (by omega)];exact_mod_cast Nat.le_of_not_lt xP);have NH:decide (IntKind.i64.wrap ((2:Int)^md.rel.length)<=(gn:Int))=true:=decide_eq_true (by rw [wrap_i64 vA];exact_mod_cast Nat.le_of_not_lt xP);have wI:min md.rel.length 64=md.rel.length:=by omega
  clear h0 YR wC vQ xP;go_upto_region 31 with(fail);refine wp_region_held_drew (S:=fun w'=>w'.cell? (⟨b+1,3,none⟩)=some (.int .i64 (gn:Int))/\w'.cell? (⟨b,2,none⟩)=some (.slice Ar md.rel.length cr)) (by kernel_rfl) ⟨xc cb c3,xc eb e2⟩ (fun zZ=> ?_);refine tk 0 zZ ?_;refine tk 1 zZ ?_;refine tk 2 zZ ?_;refine tk 3 zZ ?_;refine tk 4 zZ ?_;refine tk 5 zZ ?_;refine tk 6 zZ ?_;refine wpAnyH_done (by kernel_rfl) ?_ _;go_wp2_with fail;go_ret2;exact⟨by rw [HE.out,HF.out] <;> rfl,zL.out.drew⟩
 ·obtain⟨h0,YR⟩:=Uw HH.out;obtain⟨gn,wC⟩:=Int.eq_ofNat_of_zero_le h0;have NJ:1<=gn:=by have:=WV.out (by rw [<-xX.out];decide) (by rw [<-xX.out];decide);omega
  rw [wC]at c3;by_cases xP:gn < 2^md.rel.length
  ·have HF:=Qq (show Jy md n=true by unfold Jy;rw [<-xX.out,if_neg (by decide),if_neg (by decide),if_neg (by decide),if_pos (by decide),wC];exact decide_eq_true (by exact_mod_cast xP));have HE:=Qq (show Vj md n x y=Vg ((List.range N).map (Jw md.rel gn true N)) N x by unfold Vj;rw [if_pos HF.out,vC.out,<-xX.out,wC];rfl);have fS:=Qq (show Na ((List.range N).map (Jw md.rel gn true N)) x=Vg ((List.range N).map (Jw md.rel gn true N)) N x by unfold Na;rw [if_pos (IP.out gn true),List.length_map,List.length_range]);have NL:=decide_eq_false (Qjm vA xP);have NH:decide (IntKind.i64.wrap ((2:Int)^md.rel.length)<=(gn:Int))=false:=decide_eq_false (by rw [wrap_i64 vA];exact_mod_cast Nat.not_le_of_lt xP)
   have wI:min md.rel.length 64=md.rel.length:=by omega
   clear h0 YR wC vQ;go_upto_region 31 with(fail);refine wp_region_held_drew (S:=fun w'=>w'.cell? (⟨b+1,3,none⟩)=some (.int .i64 (gn:Int))/\w'.cell? (⟨b,2,none⟩)=some (.slice Ar md.rel.length cr)) (by kernel_rfl) ⟨xc cb c3,xc eb e2⟩ (fun zZ=> ?_);refine tk 0 zZ ?_;refine tk 1 zZ ?_;refine tk 2 zZ ?_;refine tk 3 zZ ?_;refine tk 4 zZ ?_;refine tk 5 zZ ?_;refine tk 6 zZ ?_;refine wpAnyH_done (by kernel_rfl) ?_ _;have BM:=Qq ((Qg.refl W0).drew.block (Qn SQ.out));go_wp2_with(first|(go_at_call 188;refine(Qhq _ md gn _ (HM.out.ext (zL.out.trans xv)) zC.out yF.out NJ xP).mono ?_;rintro e w5 ⟨u5,rfl,xH,dF⟩;rw [rL.out]at dF;have yJ:=Qq (zL.out.trans (Qg.trans xv xH));have iN:=Qq dF;have c05:=((Qg.trans xv xH).cell (p:=⟨b+1,0,none⟩) cb).trans c0;clear xH dF)|(go_at_call 186;refine(Mc _ ((List.range N).map (Jw md.rel gn true N)) x _ iN.out (IL.out gn true) yZ.out).mono ?_;rintro e w6 ⟨rfl,uX⟩;rw [fS.out];have iL:=Qq (yJ.out.trans uX);clear uX))
   go_ret2;exact⟨by rw [HE.out,HF.out] <;> rfl,iL.out⟩
  have HF:=Qq (show Jy md n=false by unfold Jy;rw [<-xX.out,if_neg (by decide),if_neg (by decide),if_neg (by decide),if_pos (by decide),wC];exact decide_eq_false (by exact_mod_cast xP));have HE:=Qq (show Vj md n x y=0 by unfold Vj;rw [HF.out];rfl);have NL:decide (wrap64 ((2:Int)^md.rel.length)<=(gn:Int))=true:=decide_eq_true (by rw [Di (by omega)];exact_mod_cast Nat.le_of_not_lt xP);have NH:decide (IntKind.i64.wrap ((2:Int)^md.rel.length)<=(gn:Int))=true:=decide_eq_true (by rw [wrap_i64 vA];exact_mod_cast Nat.le_of_not_lt xP);have wI:min md.rel.length 64=md.rel.length:=by omega
  clear h0 YR wC vQ xP;go_upto_region 31 with(fail);refine wp_region_held_drew (S:=fun w'=>w'.cell? (⟨b+1,3,none⟩)=some (.int .i64 (gn:Int))/\w'.cell? (⟨b,2,none⟩)=some (.slice Ar md.rel.length cr)) (by kernel_rfl) ⟨xc cb c3,xc eb e2⟩ (fun zZ=> ?_);refine tk 0 zZ ?_;refine tk 1 zZ ?_;refine tk 2 zZ ?_;refine tk 3 zZ ?_;refine tk 4 zZ ?_;refine tk 5 zZ ?_;refine tk 6 zZ ?_;refine wpAnyH_done (by kernel_rfl) ?_ _;go_wp2_with fail;go_ret2;exact⟨by rw [HE.out,HF.out] <;> rfl,zL.out.drew⟩
 ·obtain⟨h0,YR⟩:=Uw HH.out;obtain⟨gn,wC⟩:=Int.eq_ofNat_of_zero_le h0;have NJ:1<=gn:=by have:=WV.out (by rw [<-xX.out];decide) (by rw [<-xX.out];decide);omega
  rw [wC]at c3;by_cases xP:gn < 2^md.rel.length
  ·have HF:=Qq (show Jy md n=true by unfold Jy;rw [<-xX.out,if_neg (by decide),if_neg (by decide),if_neg (by decide),if_pos (by decide),wC];exact decide_eq_true (by exact_mod_cast xP));have HE:=Qq (show Vj md n x y=Xb ((List.range N).map (Jw md.rel gn false N)) N x y by unfold Vj;rw [if_pos HF.out,vC.out,<-xX.out,wC];rfl);have NL:=decide_eq_false (Qjm vA xP);have NH:decide (IntKind.i64.wrap ((2:Int)^md.rel.length)<=(gn:Int))=false:=decide_eq_false (by rw [wrap_i64 vA];exact_mod_cast Nat.not_le_of_lt xP);have wI:min md.rel.length 64=md.rel.length:=by omega
   clear h0 YR wC vQ;go_upto_region 31 with(fail);refine wp_region_held_drew (S:=fun w'=>w'.cell? (⟨b+1,3,none⟩)=some (.int .i64 (gn:Int))/\w'.cell? (⟨b,2,none⟩)=some (.slice Ar md.rel.length cr)) (by kernel_rfl) ⟨xc cb c3,xc eb e2⟩ (fun zZ=> ?_);refine tk 0 zZ ?_;refine tk 1 zZ ?_;refine tk 2 zZ ?_;refine tk 3 zZ ?_;refine tk 4 zZ ?_;refine tk 5 zZ ?_;refine tk 6 zZ ?_;refine wpAnyH_done (by kernel_rfl) ?_ _;have BM:=Qq ((Qg.refl W0).drew.block (Qn SQ.out));go_wp2_with(first|(go_at_call 189;refine(Qxd _ md gn _ (HM.out.ext (zL.out.trans xv)) zC.out yF.out NJ xP).mono ?_;rintro e w5 ⟨u5,rfl,xH,dF⟩;rw [rL.out]at dF;have yJ:=Qq (zL.out.trans (Qg.trans xv xH));have iN:=Qq dF;have c05:=((Qg.trans xv xH).cell (p:=⟨b+1,0,none⟩) cb).trans c0;clear xH dF)|(go_at_call 190;rw [nZ.out];refine(Qra _ ((List.range N).map (Jw md.rel gn false N)) N x y _ iN.out (IL.out gn false) (by simp) (IP.out gn false) yZ.out aO.out).mono ?_;rintro e w6 ⟨rfl,uX⟩;have iL:=Qq (yJ.out.trans uX);clear uX))
   go_ret2;exact⟨by rw [HE.out,HF.out] <;> rfl,iL.out⟩
  have HF:=Qq (show Jy md n=false by unfold Jy;rw [<-xX.out,if_neg (by decide),if_neg (by decide),if_neg (by decide),if_pos (by decide),wC];exact decide_eq_false (by exact_mod_cast xP));have HE:=Qq (show Vj md n x y=0 by unfold Vj;rw [HF.out];rfl);have NL:decide (wrap64 ((2:Int)^md.rel.length)<=(gn:Int))=true:=decide_eq_true (by rw [Di (by omega)];exact_mod_cast Nat.le_of_not_lt xP);have NH:decide (IntKind.i64.wrap ((2:Int)^md.rel.length)<=(gn:Int))=true:=decide_eq_true (by rw [wrap_i64 vA];exact_mod_cast Nat.le_of_not_lt xP);have wI:min md.rel.length 64=md.rel.length:=by omega
  clear h0 YR wC vQ xP;go_upto_region 31 with(fail);refine wp_region_held_drew (S:=fun w'=>w'.cell? (⟨b+1,3,none⟩)=some (.int .i64 (gn:Int))/\w'.cell? (⟨b,2,none⟩)=some (.slice Ar md.rel.length cr)) (by kernel_rfl) ⟨xc cb c3,xc eb e2⟩ (fun zZ=> ?_);refine tk 0 zZ ?_;refine tk 1 zZ ?_;refine tk 2 zZ ?_;refine tk 3 zZ ?_;refine tk 4 zZ ?_;refine tk 5 zZ ?_;refine tk 6 zZ ?_;refine wpAnyH_done (by kernel_rfl) ?_ _;go_wp2_with fail;go_ret2;exact⟨by rw [HE.out,HF.out] <;> rfl,zL.out.drew⟩
 have HF:=Qq (show Jy md n=false by unfold Jy;rw [<-xX.out,if_neg (by omega),if_neg (by omega),if_neg (by omega),if_neg (by omega)]);have HE:=Qq (show Vj md n x y=0 by unfold Vj;rw [HF.out];rfl);have t1:(op==1)=false:=by simp only [beq_eq_false_iff_ne,ne_eq];omega
 have t2:(op==2)=false:=by simp only [beq_eq_false_iff_ne,ne_eq];omega
 have t3:(op==3)=false:=by simp only [beq_eq_false_iff_ne,ne_eq];omega
 have t4:(op==4)=false:=by simp only [beq_eq_false_iff_ne,ne_eq];omega
 have t5:(op==5)=false:=by simp only [beq_eq_false_iff_ne,ne_eq];omega
 have t6:(op==6)=false:=by simp only [beq_eq_false_iff_ne,ne_eq];omega
 have t7:(op==7)=false:=by simp only [beq_eq_false_iff_ne,ne_eq];omega
 have t8:(op==8)=false:=by simp only [beq_eq_false_iff_ne,ne_eq];omega
 have t9:(op==9)=false:=by simp only [beq_eq_false_iff_ne,ne_eq];omega
 have t10:(op==10)=false:=by simp only [beq_eq_false_iff_ne,ne_eq];omega
 have t11:(op==11)=false:=by simp only [beq_eq_false_iff_ne,ne_eq];omega
 have t12:(op==12)=false:=by simp only [beq_eq_false_iff_ne,ne_eq];omega
 have t13:(op==13)=false:=by simp only [beq_eq_false_iff_ne,ne_eq];omega
 clear vQ G2;go_wp2_with fail;go_ret2;exact⟨by rw [HE.out,HF.out] <;> rfl,zL.out⟩
theorem Qbq(m n:Nat):((m:Int) / 2^n==0)=decide (m < 2^n):=by
 have e:((m:Int) / 2^n)=((m / 2^n:Nat):Int):=by simp
 rw [e,Bool.eq_iff_iff,beq_iff_eq,decide_eq_true_eq];have:=Nat.div_eq_zero_iff (a:=m) (b:=2^n);have hp:=Nat.two_pow_pos n;omega
theorem Qpe {m k a:Nat}(hm:m < 2^k):(List.range k).all (Xv a m)=decide (m < 2^a):=by
 rw [Bool.eq_iff_iff,List.all_eq_true,decide_eq_true_eq];refine⟨fun h=>Qv3 fun i hi=> ?_,fun h i hi=> ?_⟩
 ·have h2:=h i (List.mem_range.2 (Kw hm hi));unfold Xv at h2;rw [hi]at h2
  simpa using h2
 unfold Xv;cases hb:m.testBit i
 ·rfl
 rw [decide_eq_true (Kw h hb)];rfl
theorem Qxb(m n:Nat)(w:World)(_hm:m < 512)(hn:n<=8):Calls Tryz.prog 208 #[.int .i64 (m:Int),.int .i64 (n:Int)] w fun e w'=>e=.returned (.bool (decide (m < 2^n)))/\w=w':=by
 have hn31:¬(31:Int)<=(n:Int):=by omega
 have yP:max (n:Int) 0=(n:Int):=by omega
 have wI:min n 64=n:=by omega
 have HD:=Qq (Qbq m n);go_enter Tryz.func208,Tryz.ntmps208;go_wp2_with fail;go_ret;exact⟨by rw [<-HD.out] <;> rfl,rfl⟩
theorem Qfv(v:Value)(f:List Nd)(a b:Nat)(w:World)(h:Jo w v f)(ha:a<=4)(hb:b<=8):
 Calls Tryz.prog 185 #[v,.int .i64 (a:Int),.int .i64 (b:Int)] w fun e w'=>e=.returned (.bool (Yd f a b))/\Qg w w':=by
 have H:=Qq h;clear h;by_cases hc:check f=0
 ·have HC:=Qq hc;have hh:=(Jj hc).2.2.2;have aA:Jd (Qf f) < 2^4:=Dy _ 0 hh (by decide);have cA:Je (Qf f) < 2^8:=Rp _ 0 hh (by decide);have HF:=Qq (show Yd f a b=(decide (Jd (Qf f) < 2^a)&&decide (Je (Qf f) < 2^b)) by
   unfold Yd;rw [Qpe aA,Qpe cA,HC.out]
   rfl)
  have HA:=Qq (fun(w:World) (h:Jo w v f)=>Wi v f w h hc);have HB:=Qq (fun(w:World) (h:Jo w v f)=>Qqy v f w h hc);obtain⟨ma,MM⟩:∃m,m=Jd (Qf f):=⟨_,rfl⟩;obtain⟨mf,MK⟩:∃m,m=Je (Qf f):=⟨_,rfl⟩;rw [<-MM]at aA HF HA;rw [<-MK]at cA HF HB;have MN:ma < 512:=by omega
  have CR:mf < 512:=by omega
  clear MM MK aA cA hh hc;cases hd:decide (ma < 2^a)
  ·have HD:=Qq hd;have HE:=Qq (show Yd f a b=false by rw [HF.out,HD.out];rfl);clear hd;go_enter Tryz.func185,Tryz.ntmps185;go_wp2_with(first|(go_at_call 41;refine(Vh _ f _ H.out.1).mono ?_;rintro e w1 ⟨rfl,zP⟩;rw [HC.out];have zM:=Qq zP;clear zP)|(go_at_call 66;refine(HA.out _ (H.out.ext zM.out)).mono ?_;rintro e w2 ⟨rfl,zT⟩;have zS:=Qq (zM.out.trans zT);clear zT)|(go_at_call 208;refine(Qxb ma a _ MN (by omega)).mono ?_;rintro e w3 ⟨rfl,rfl⟩;rw [HD.out]));go_ret;exact⟨by rw [HE.out] <;> rfl,zS.out⟩
  have HD:=Qq hd;have HE:=Qq (show Yd f a b=decide (mf < 2^b) by rw [HF.out,HD.out];rfl);clear hd;go_enter Tryz.func185,Tryz.ntmps185;go_wp2_with(first|(go_at_call 41;refine(Vh _ f _ H.out.1).mono ?_;rintro e w1 ⟨rfl,zP⟩;rw [HC.out];have zM:=Qq zP;clear zP)|(go_at_call 66;refine(HA.out _ (H.out.ext zM.out)).mono ?_;rintro e w2 ⟨rfl,zT⟩;have zS:=Qq (zM.out.trans zT);clear zT)|(go_at_call 67;refine(HB.out _ (H.out.ext zS.out)).mono ?_;rintro e w4 ⟨rfl,yE⟩;have yN:=Qq (zS.out.trans yE);clear yE)|(go_at_call 208;refine(Qxb _ _ _ (by first|with_reducible exact MN|with_reducible exact CR) (by omega)).mono ?_;rintro e w3 ⟨rfl,rfl⟩;try rw [HD.out]))
  go_ret;exact⟨by rw [HE.out] <;> rfl,yN.out⟩
 have HE:=Qq (show Yd f a b=false by
  unfold Yd;rw [show(check f==0)=false by simpa using hc]
  rfl)
 obtain⟨z,hz⟩:∃z,z=check f:=⟨_,rfl⟩;have HZ:=Qq hz;rw [<-hz]at hc;have zQ:(z==0)=false:=by simpa using hc
 clear hc hz;go_enter Tryz.func185,Tryz.ntmps185;go_wp2_with(go_at_call 41;refine(Vh _ f _ H.out.1).mono ?_;rintro e w1 ⟨rfl,zP⟩;rw [<-HZ.out];have zM:=Qq zP;clear zP);go_ret;exact⟨by rw [HE.out] <;> rfl,zM.out⟩
theorem Qd9(vm v:Value)(md:Md)(f:List Nd)(w:World)(hm:Yz w vm md)(zO:md.ok)(h:Jo w v f):
 Calls Tryz.prog 132 #[vm,v] w fun e w'=>e=.returned (.int .i64 (Jq md f))/\Qg w w':=by
 have HM:=Qq hm;have zC:=Qq zO;have HF:=Qq h;obtain⟨vv,vr,rfl,hv,hr⟩:=hm;obtain⟨Av,cv,rfl,_⟩:=hv;obtain⟨Ar,cr,rfl,_⟩:=hr;obtain⟨c1,xV⟩:∃z,z=Qa md:=⟨_,rfl⟩;have pC:=Qq xV;obtain⟨c2,tL⟩:∃z,z=check f:=⟨_,rfl⟩;have pZ:=Qq tL;clear h zO;by_cases h1:c1=0
 ·have hz:=Zb (show Qa md=0 by rw [<-pC.out];exact h1);have vA:=hz.2.2.1;have gF:=hz.2.2.2.1;subst h1;clear hz xV;by_cases h2:c2=0
  ·subst h2;obtain⟨wQ,yD⟩:=Ty f;clear wQ tL;cases hsb:Jr (Js f) 15
   ·rw [hsb]at yD;have HE:=Qq (show Jq md f=10 by unfold Jq;rw [if_neg (by rw [<-pC.out];simp),if_neg (by rw [<-pZ.out];simp),if_pos hsb]);clear hsb;go_enter Tryz.func132,Tryz.ntmps132;go_wp2_with(first|(go_at_call 93;refine(Xm _ md _ (HM.out.ext (by repeat(first|exact Qz|assumption|apply Qg.alloc|apply Qg.drew))) zC.out).mono ?_;rintro e w1 ⟨rfl,zP⟩;rw [<-pC.out];have zM:=Qq (((Qg.refl w).alloc _).trans zP);have xV:w1.cell? ⟨w.heap.size,1,none⟩=some (.slice Av md.val.length cv):=(zP.cell (p:=⟨w.heap.size,1,none⟩) (by simp)).trans (by simp);have tL:w1.cell? ⟨w.heap.size,2,none⟩=some (.slice Ar md.rel.length cr):=(zP.cell (p:=⟨w.heap.size,2,none⟩) (by simp)).trans (by simp);have yV:w.heap.size < w1.heap.size:=Qy (by simp) zP.size;clear zP)|(go_at_call 41;refine(Vh _ f _ (HF.out.ext zM.out).1).mono ?_;rintro e w2 ⟨rfl,zT⟩;rw [<-pZ.out];have zS:=Qq (zM.out.trans zT);have rJ:=(zT.cell (p:=⟨w.heap.size,1,none⟩) yV).trans xV;have rS:=(zT.cell (p:=⟨w.heap.size,2,none⟩) yV).trans tL;have xC:=Qy yV zT.size;clear zT)|(go_at_call 55;refine(Rh _ f _ (HF.out.ext zS.out)).mono ?_;rintro e w3 ⟨rfl,zF⟩;have zD:=Qq (zS.out.trans zF);have S8:=(zF.cell (p:=⟨w.heap.size,1,none⟩) xC).trans rJ;have S6:=(zF.cell (p:=⟨w.heap.size,2,none⟩) xC).trans rS;clear zF))
    go_ret;exact⟨by rw [HE.out] <;> rfl,zD.out⟩
   rw [hsb]at yD;cases nK:Yd f md.rel.length md.val.length
   ·have HE:=Qq (show Jq md f=2 by unfold Jq;rw [if_neg (by rw [<-pC.out];simp),if_neg (by rw [<-pZ.out];simp),if_neg (by rw [hsb];simp),if_pos nK]);have bL:=Qq nK;clear hsb nK;go_enter Tryz.func132,Tryz.ntmps132;go_wp2_with(first|(go_at_call 93;refine(Xm _ md _ (HM.out.ext (by repeat(first|exact Qz|assumption|apply Qg.alloc|apply Qg.drew))) zC.out).mono ?_;rintro e w1 ⟨rfl,zP⟩;rw [<-pC.out];have zM:=Qq (((Qg.refl w).alloc _).trans zP);have xV:w1.cell? ⟨w.heap.size,1,none⟩=some (.slice Av md.val.length cv):=(zP.cell (p:=⟨w.heap.size,1,none⟩) (by simp)).trans (by simp);have tL:w1.cell? ⟨w.heap.size,2,none⟩=some (.slice Ar md.rel.length cr):=(zP.cell (p:=⟨w.heap.size,2,none⟩) (by simp)).trans (by simp);have yV:w.heap.size < w1.heap.size:=Qy (by simp) zP.size;clear zP)|(go_at_call 41;refine(Vh _ f _ (HF.out.ext zM.out).1).mono ?_;rintro e w2 ⟨rfl,zT⟩;rw [<-pZ.out];have zS:=Qq (zM.out.trans zT);have rJ:=(zT.cell (p:=⟨w.heap.size,1,none⟩) yV).trans xV;have rS:=(zT.cell (p:=⟨w.heap.size,2,none⟩) yV).trans tL;have xC:=Qy yV zT.size;clear zT)|(go_at_call 55;refine(Rh _ f _ (HF.out.ext zS.out)).mono ?_;rintro e w3 ⟨rfl,zF⟩;have zD:=Qq (zS.out.trans zF);have S8:=(zF.cell (p:=⟨w.heap.size,1,none⟩) xC).trans rJ;have S6:=(zF.cell (p:=⟨w.heap.size,2,none⟩) xC).trans rS;clear zF)|(go_at_call 185;refine(Qfv _ f md.rel.length md.val.length _ (HF.out.ext zD.out) vA gF).mono ?_;rintro e w4 ⟨rfl,yE⟩;rw [bL.out];have yN:=Qq (zD.out.trans yE);clear yE))
    go_ret;exact⟨by rw [HE.out] <;> rfl,yN.out⟩
   have HE:=Qq (show Jq md f=0 by unfold Jq;rw [if_neg (by rw [<-pC.out];simp),if_neg (by rw [<-pZ.out];simp),if_neg (by rw [hsb];simp),if_neg (by rw [nK];simp)]);have bL:=Qq nK;clear hsb nK;go_enter Tryz.func132,Tryz.ntmps132;go_wp2_with(first|(go_at_call 93;refine(Xm _ md _ (HM.out.ext (by repeat(first|exact Qz|assumption|apply Qg.alloc|apply Qg.drew))) zC.out).mono ?_;rintro e w1 ⟨rfl,zP⟩;rw [<-pC.out];have zM:=Qq (((Qg.refl w).alloc _).trans zP);have xV:w1.cell? ⟨w.heap.size,1,none⟩=some (.slice Av md.val.length cv):=(zP.cell (p:=⟨w.heap.size,1,none⟩) (by simp)).trans (by simp);have tL:w1.cell? ⟨w.heap.size,2,none⟩=some (.slice Ar md.rel.length cr):=(zP.cell (p:=⟨w.heap.size,2,none⟩) (by simp)).trans (by simp);have yV:w.heap.size < w1.heap.size:=Qy (by simp) zP.size;clear zP)|(go_at_call 41;refine(Vh _ f _ (HF.out.ext zM.out).1).mono ?_;rintro e w2 ⟨rfl,zT⟩;rw [<-pZ.out];have zS:=Qq (zM.out.trans zT);have rJ:=(zT.cell (p:=⟨w.heap.size,1,none⟩) yV).trans xV;have rS:=(zT.cell (p:=⟨w.heap.size,2,none⟩) yV).trans tL;have xC:=Qy yV zT.size;clear zT)|(go_at_call 55;refine(Rh _ f _ (HF.out.ext zS.out)).mono ?_;rintro e w3 ⟨rfl,zF⟩;have zD:=Qq (zS.out.trans zF);have S8:=(zF.cell (p:=⟨w.heap.size,1,none⟩) xC).trans rJ;have S6:=(zF.cell (p:=⟨w.heap.size,2,none⟩) xC).trans rS;clear zF)|(go_at_call 185;refine(Qfv _ f md.rel.length md.val.length _ (HF.out.ext zD.out) vA gF).mono ?_;rintro e w4 ⟨rfl,yE⟩;rw [bL.out];have yN:=Qq (zD.out.trans yE);clear yE))
   go_ret;exact⟨by rw [HE.out] <;> rfl,yN.out⟩
  have zQ:(c2 !=0)=true:=by simpa using h2
  have HE:=Qq (show Jq md f=c2 by unfold Jq;rw [if_neg (by rw [<-pC.out];simp),if_pos (by rw [<-pZ.out];exact h2),pZ.out]);clear h2 tL;go_enter Tryz.func132,Tryz.ntmps132;go_wp2_with(first|(go_at_call 93;refine(Xm _ md _ (HM.out.ext (by repeat(first|exact Qz|assumption|apply Qg.alloc|apply Qg.drew))) zC.out).mono ?_;rintro e w1 ⟨rfl,zP⟩;rw [<-pC.out];have zM:=Qq (((Qg.refl w).alloc _).trans zP);have xV:w1.cell? ⟨w.heap.size,1,none⟩=some (.slice Av md.val.length cv):=(zP.cell (p:=⟨w.heap.size,1,none⟩) (by simp)).trans (by simp);have tL:w1.cell? ⟨w.heap.size,2,none⟩=some (.slice Ar md.rel.length cr):=(zP.cell (p:=⟨w.heap.size,2,none⟩) (by simp)).trans (by simp);have yV:w.heap.size < w1.heap.size:=Qy (by simp) zP.size;clear zP)|(go_at_call 41;refine(Vh _ f _ (HF.out.ext zM.out).1).mono ?_;rintro e w2 ⟨rfl,zT⟩;rw [<-pZ.out];have zS:=Qq (zM.out.trans zT);have rJ:=(zT.cell (p:=⟨w.heap.size,1,none⟩) yV).trans xV;have rS:=(zT.cell (p:=⟨w.heap.size,2,none⟩) yV).trans tL;have xC:=Qy yV zT.size;clear zT))
  go_ret;exact⟨by rw [HE.out] <;> rfl,zS.out⟩
 have zQ:(c1 !=0)=true:=by simpa using h1
 have HE:=Qq (show Jq md f=c1 by unfold Jq;rw [if_pos (by rw [<-pC.out];exact h1),pC.out]);clear h1 xV tL;go_enter Tryz.func132,Tryz.ntmps132;go_wp2_with(go_at_call 93;refine(Xm _ md _ (HM.out.ext (by repeat(first|exact Qz|assumption|apply Qg.alloc|apply Qg.drew))) zC.out).mono ?_;rintro e w1 ⟨rfl,zP⟩;rw [<-pC.out];have zM:=Qq (((Qg.refl w).alloc _).trans zP);have xV:w1.cell? ⟨w.heap.size,1,none⟩=some (.slice Av md.val.length cv):=(zP.cell (p:=⟨w.heap.size,1,none⟩) (by simp)).trans (by simp);have tL:w1.cell? ⟨w.heap.size,2,none⟩=some (.slice Ar md.rel.length cr):=(zP.cell (p:=⟨w.heap.size,2,none⟩) (by simp)).trans (by simp);have yV:w.heap.size < w1.heap.size:=Qy (by simp) zP.size;clear zP)
 go_ret;exact⟨by rw [HE.out] <;> rfl,zM.out⟩
theorem Qw3 {md:Md}(zU:Qa md=0) {n:Nd} {x y:Nat}(hx:x < 2^md.n.toNat)(hy:y < 2^md.n.toNat):Vj md n x y < 2^md.n.toNat:=by
 unfold Vj
 split
 ·exact Qsa zU hx hy
 exact Nat.two_pow_pos _
theorem Qjl {md:Md}(zU:Qa md=0)(f:List Nd):∀k,∀s∈(Jg md f k).1,s < 2^md.n.toNat
 |0,s,h=>by cases h
 |k+1,s,h=>by
  have ih:=Qjl zU f k;have h2:s∈(Jg md f k).1++ [(Lm md f (Jg md f k).1 (Jg md f k).2 k).1]:=h;rcases List.mem_append.1 h2 with h2|h2
  ·exact ih s h2
  rw [List.mem_singleton.1 h2];unfold Lm
  split
  ·exact Qw3 zU (Tn ih (Nat.two_pow_pos _) _) (Tn ih (Nat.two_pow_pos _) _)
  exact Nat.two_pow_pos _
theorem Qz6 {md:Md}(zU:Qa md=0)(f:List Nd):Rz md f < 2^md.n.toNat:=Tn (Qjl zU f _) (Nat.two_pow_pos _) _
def Qba:Prop:=∀(vm v:Value) (md:Md) (f:List Nd) (w:World),Yz w vm md->md.ok->Jo w v f->
 Calls Tryz.prog 62 #[vm,v] w fun e w'=>∃u,e=.returned (.tuple #[u,.int .i64 (Jq md f)])/\Qg w w'/\Hid (Jq md f=0->Jb w' u (Jg md f f.length).1)
theorem Qc8(jS:Qba)(vm v:Value)(md:Md)(f:List Nd)(w:World)(hm:Yz w vm md)(zO:md.ok)(h:Jo w v f):
 Calls Tryz.prog 21 #[vm,v] w fun e w'=>e=.returned (.tuple #[.int .u64 ((if Jq md f=0 then Rz md f else 0:Nat):Int),.int .i64 (Jq md f)])/\Qg w w':=by
 have HM:=Qq hm;have HF:=Qq h;have HS:=Qq (fun w hm h=>jS vm v md f w hm zO h);obtain⟨vv,vr,rfl,hv,hr⟩:=hm;obtain⟨c1,xV⟩:∃z,z=Jq md f:=⟨_,rfl⟩;have pC:=Qq xV;rw [<-xV]at HS⊢;clear h zO jS hv hr xV;by_cases h1:c1=0
 ·subst h1;obtain⟨_,hc,_,_⟩:=Vb pC.out.symm;have hp:=(Jf hc).1;have zG:=(Fq md f f.length).1;have HH:=Qq (show Rz md f=(Jg md f f.length).1.getD (f.length - 1) 0 from rfl);go_enter Tryz.func21,Tryz.ntmps21;go_wp2_with fail;refine(HS.out _ (HM.out.ext ((Qg.refl w).alloc _)) (HF.out.ext ((Qg.refl w).alloc _))).mono ?_;rintro e w2 ⟨u,rfl,hx,hu⟩;obtain⟨A,c,rfl,_,_,HR⟩:=Vl (hu.out (by trivial));have HX:=Qq (((Qg.refl w).alloc _).trans hx);obtain⟨ad,rfl,zV,tK⟩:=HR.out (f.length - 1) (by rw [zG];omega);rw [zG];rw [<-HH.out]at tK;have G0:=(Jf hc).2.1
  have jL:wrap64 ((f.length:Int) - 1)=((f.length - 1:Nat):Int):=by unfold wrap64;omega
  have RV:((f.length - 1:Nat):Int) < (f.length:Int):=by omega
  have iG:(f.length:Int) - 1 < (f.length:Int):=by omega
  have eF:((f.length:Int) - 1).toNat=f.length - 1:=by omega
  clear hx hu hc zG;go_wp2_with fail;go_ret2;exact⟨rfl,HX.out⟩
 have zQ:(c1 !=0)=true:=by simpa using h1
 rw [if_neg h1];clear h1;go_enter Tryz.func21,Tryz.ntmps21;go_wp2_with fail;refine(HS.out _ (HM.out.ext ((Qg.refl w).alloc _)) (HF.out.ext ((Qg.refl w).alloc _))).mono ?_;rintro e w2 ⟨u,rfl,hx,hu⟩;have HX:=Qq (((Qg.refl w).alloc _).trans hx);clear hx hu;go_wp2_with fail;go_ret2;exact⟨rfl,HX.out⟩
def Nv(md:Md)(f:List Nd)(k:Nat):List Nat:=(Jg md f k).1++List.replicate (f.length - k) 0
def Ld(md:Md)(f:List Nd)(k:Nat):List Bool:=(Jg md f k).2++List.replicate (f.length - k) false
section
variable {md:Md} {f:List Nd} {k:Nat}
theorem Zqi(h:k<=f.length):(Nv md f k).length=f.length:=by
 unfold Nv;rw [List.length_append,List.length_replicate,(Fq md f k).1];omega
theorem Zqw(h:k<=f.length):(Ld md f k).length=f.length:=by
 unfold Ld;rw [List.length_append,List.length_replicate,(Fq md f k).2];omega
theorem Qgr(i:Nat):(Nv md f k).getD i 0=(Jg md f k).1.getD i 0:=by
 unfold Nv;rw [Qk,Qk];rcases Nat.lt_or_ge i (Jg md f k).1.length with h|h
 ·rw [List.getElem?_append_left h]
 rw [List.getElem?_append_right h,List.getElem?_replicate,List.getElem?_eq_none h]
 split <;> rfl
theorem Qtj(i:Nat):(Ld md f k).getD i false=(Jg md f k).2.getD i false:=by
 unfold Ld;rw [Qk,Qk];rcases Nat.lt_or_ge i (Jg md f k).2.length with h|h
 ·rw [List.getElem?_append_left h]
 rw [List.getElem?_append_right h,List.getElem?_replicate,List.getElem?_eq_none h]
 split <;> rfl
theorem Qc6 {b:Bool} {x:Int}(h:k < f.length)(h1:b=true->0<=x/\x < k)(h2:b=false->x=0):∃ix:Nat,x=(ix:Int)/\ix < f.length:=by
 cases b
 ·exact⟨0,h2 rfl,by omega⟩
 obtain⟨h3,h4⟩:=h1 rfl;exact⟨x.toNat,by omega,by omega⟩
theorem Qwh:Nv md f 0=List.replicate f.length 0:=rfl
theorem Qwc:Ld md f 0=List.replicate f.length false:=rfl
theorem Zqo:Nv md f f.length=(Jg md f f.length).1:=by
 unfold Nv;rw [Nat.sub_self];simp
theorem Qs8 {α:Type}(l:List α)(n:Nat)(z v:α):(l++List.replicate (n+1) z).set l.length v=l++ [v]++List.replicate n z:=by
 rw [List.set_append_right _ _ (Nat.le_refl _),Nat.sub_self,List.replicate_succ,List.set_cons_zero];simp
theorem Qna(h:k < f.length):Nv md f (k+1)=(Nv md f k).set k (Lm md f (Jg md f k).1 (Jg md f k).2 k).1:=by
 have h1:=(Fq md f k).1;have h2:=Qs8 (Jg md f k).1 (f.length - (k+1)) 0 (Lm md f (Jg md f k).1 (Jg md f k).2 k).1;rw [h1,show f.length - (k+1)+1=f.length - k by omega]at h2;exact h2.symm
theorem Qnh(h:k < f.length):Ld md f (k+1)=(Ld md f k).set k (Lm md f (Jg md f k).1 (Jg md f k).2 k).2:=by
 have h1:=(Fq md f k).2;have h2:=Qs8 (Jg md f k).2 (f.length - (k+1)) false (Lm md f (Jg md f k).1 (Jg md f k).2 k).2;rw [h1,show f.length - (k+1)+1=f.length - k by omega]at h2;exact h2.symm
theorem Qfp {α:Type} {l:List α} {i:Nat} {z:α}(h:l[i]?=some z):l.set i z=l:=by
 refine List.ext_getElem? fun j=> ?_
 rw [List.getElem?_set];by_cases e:i=j
 ·subst e;rw [if_pos rfl,h];simp [(List.getElem?_eq_some_iff.1 h).1]
 rw [if_neg e]
theorem Zq0(h:k < f.length)(ho:okP (f.getD k Nd.zero) (Jg md f k).2=false):Nv md f (k+1)=Nv md f k/\Ld md f (k+1)=Ld md f k:=by
 have e:Lm md f (Jg md f k).1 (Jg md f k).2 k=(0,false):=by unfold Lm;rw [ho];rfl
 refine⟨?_,?_⟩
 ·rw [Qna h,e];refine Qfp ?_;unfold Nv;have h1:=(Fq md f k).1;rw [List.getElem?_append_right (by omega),List.getElem?_replicate,if_pos (by omega)]
 rw [Qnh h,e];refine Qfp ?_;unfold Ld;have h1:=(Fq md f k).2;rw [List.getElem?_append_right (by omega),List.getElem?_replicate,if_pos (by omega)]
theorem Zvr(h:k < f.length) {n:Nd}(hn:f.getD k Nd.zero=n)(ho:okP n (Jg md f k).2=true):
 Nv md f (k+1)=(Nv md f k).set k (Vj md n ((Nv md f k).getD n.x.toNat 0) ((Nv md f k).getD n.y.toNat 0))/\Ld md f (k+1)=(Ld md f k).set k (Jy md n):=by
 have e:Lm md f (Jg md f k).1 (Jg md f k).2 k=(Vj md n ((Jg md f k).1.getD n.x.toNat 0) ((Jg md f k).1.getD n.y.toNat 0),Jy md n):=by unfold Lm;rw [hn,ho];rfl
 rw [Qna h,Qnh h,e,Qgr,Qgr];exact⟨rfl,rfl⟩
end
def Bx(base:Nat)(w:World)(g:Nat)(l:List Nat):Prop:=w.ownsRow base 41 1 (.slice (some ⟨g,0,none⟩) l.length l.length) l.length (uV l)
def Ue(base:Nat)(w:World)(g:Nat)(l:List Bool):Prop:=w.ownsRow base 4 1 (.slice (some ⟨g,0,none⟩) l.length l.length) l.length (l.map Value.bool)
section
variable {base:Nat} {w w':World} {g:Nat} {l:List Nat} {m:List Bool}
theorem Bx.cell(h:Bx base w g l) {j:Nat}(hj:j < l.length):w.cell? ⟨g,j,none⟩=some (.int .u64 ((l.getD j 0:Nat):Int)):=by
 rw [World.ownsRow.cellAt h j (by omega)];unfold uV;rw [List.getElem?_map,Qk,Qv hj];rfl
theorem Ue.cell(h:Ue base w g m) {j:Nat}(hj:j < m.length):w.cell? ⟨g,j,none⟩=some (.bool (m.getD j false)):=by
 rw [World.ownsRow.cellAt h j (by omega),List.getElem?_map,Qk,Qv hj];rfl
theorem Bx.frozen(h:Bx base w g l)(j:Nat):w.frozen? ⟨g,j,none⟩=false:=World.ownsRow.frozenAt h j
theorem Ue.frozen(h:Ue base w g m)(j:Nat):w.frozen? ⟨g,j,none⟩=false:=World.ownsRow.frozenAt h j
theorem Bx.lt(h:Bx base w g l):base<=g/\g < w.heap.size:=World.ownsRow.lt h g rfl
theorem Ue.lt(h:Ue base w g m):base<=g/\g < w.heap.size:=World.ownsRow.lt h g rfl
theorem Bx.set(h:Bx base w g l)(j s:Nat):Bx base (w.setCell ⟨g,j,none⟩ (.int .u64 (s:Int))) g (l.set j s)/\w.grownBy (w.setCell ⟨g,j,none⟩ (.int .u64 (s:Int))) (some g):=by
 obtain⟨h1,h2⟩:=World.ownsRow.stored h j (.int .u64 (s:Int));refine⟨?_,h2⟩;unfold Bx uV;unfold uV at h1;rw [List.length_set,List.map_set];exact h1
theorem Ue.set(h:Ue base w g m)(j:Nat)(b:Bool):Ue base (w.setCell ⟨g,j,none⟩ (.bool b)) g (m.set j b)/\w.grownBy (w.setCell ⟨g,j,none⟩ (.bool b)) (some g):=by
 obtain⟨h1,h2⟩:=World.ownsRow.stored h j (.bool b);refine⟨?_,h2⟩;unfold Ue;rw [List.length_set,<-List.map_set]at *;exact h1
theorem Bx.ext(h:Bx base w g l)(he:Qg w w'):Bx base w' g l:=Zk h he
theorem Ue.ext(h:Ue base w g m)(he:Qg w w'):Ue base w' g m:=Zk h he
theorem Bx.kept {r:Nat}(h:Bx base w g l)(hg:w.grownBy w' (some r))(hr:r≠g):Bx base w' g l:=World.ownsRow.kept h hg (.inr fun e=>hr (by injection e with e;exact e.symm))
theorem Ue.kept {r:Nat}(h:Ue base w g m)(hg:w.grownBy w' (some r))(hr:r≠g):Ue base w' g m:=World.ownsRow.kept h hg (.inr fun e=>hr (by injection e with e;exact e.symm))
theorem Bx.u64s(h:Bx base w g l):Jb w (.slice (some ⟨g,0,none⟩) l.length l.length) l:=Zv.u64s h
end
theorem Zq2:(Tryz.prog.info? 4).map (fun i=>(i.zero,i.size,i.bytes))=some (some (.bool false),1,1):=by kernel_rfl
theorem Ql1(n:Nat):(madeCells (Value.cells (.int .u64 0)) (n*1)).toList=uV (List.replicate n 0):=by
 unfold uV;simp only [madeCells,Value.cells,Nat.mul_one,Array.toList_map,Array.toList_range,List.map_replicate];refine List.ext_getElem (by simp) fun i h1 h2=> ?_
 simp [Nat.mod_one]
theorem Qrr(n:Nat):(madeCells (Value.cells (.bool false)) (n*1)).toList=(List.replicate n false).map Value.bool:=by
 simp only [madeCells,Value.cells,Nat.mul_one,Array.toList_map,Array.toList_range,List.map_replicate];refine List.ext_getElem (by simp) fun i h1 h2=> ?_
 simp [Nat.mod_one]
theorem Qrs(n:Nat):(madeCells #[.int .u64 0] n).toList=uV (List.replicate n 0):=by
 have:=Ql1 n;rw [Nat.mul_one]at this;exact this
theorem Qd0(n:Nat):(madeCells #[.bool false] n).toList=(List.replicate n false).map Value.bool:=by
 have:=Qrr n;rw [Nat.mul_one]at this;exact this
theorem Qne {md:Md} {f:List Nd} {k:Nat}(zU:Qa md=0)(hN:md.n.toNat<=64)(i:Nat):Qp ((Nv md f k).getD i 0):=by
 rw [Qgr];exact Qy (Tn (Qjl zU f k) (Nat.two_pow_pos _) i) (Rv hN)
theorem Qdc {n:Nd}(h:Za n)(ha:11<=n.op)(hb:n.op<=13):1<=n.g:=by
 obtain⟨_,_,h3,_,_⟩:=h;have hg:Zl n.op=true:=by unfold Zl;rw [decide_eq_true ha,decide_eq_true hb];rfl
 unfold Ys at h3;simp only [Ql,hg,Bool.or_eq_false_iff]at h3;simp at h3;omega
theorem Qo4 {w:World} {b:Nat} {a0 a1 a2 a3 a4 a5:Value} {t:TypeId}(h:w.heap[b]?=some (.cells #[a0,a1,a2,a3,a4,a5] t (0,0))):w.cell? ⟨b,0,none⟩=some a0/\w.cell? ⟨b,1,none⟩=some a1/\w.cell? ⟨b,2,none⟩=some a2/\w.cell? ⟨b,3,none⟩=some a3/\w.cell? ⟨b,4,none⟩=some a4/\w.cell? ⟨b,5,none⟩=some a5/\b < w.heap.size :=
 ⟨by simp [World.cell?,h],by simp [World.cell?,h],by simp [World.cell?,h],by simp [World.cell?,h],by simp [World.cell?,h],by simp [World.cell?,h],Qn h⟩
theorem Qfh:Qba:=by
 intro vm v md f w hm zO h;have H:=Qq h;have HM:=Qq hm;have zC:=Qq zO;obtain⟨iU,sR,xG,xF,xE⟩:=info_parts Dz;obtain⟨iB,UI,kL,kK,kJ⟩:=info_parts Zq2;obtain⟨vv,vr,rfl,⟨Av,cv,rfl,_⟩,⟨Ar,cr,rfl,_⟩⟩:=hm;obtain⟨⟨A,c,rfl,hfc,pP,zN⟩,nK⟩:=h;have uJ:=Qq zN;unfold maxLen at pP;clear zO zN;have zL:=Qq (show Qg w (w.alloc (.cells #[.int .i64 md.n,.slice Av md.val.length cv,.slice Ar md.rel.length cr] 26))from Qz.alloc _);have vX:=Qq (show(w.alloc (.cells #[.int .i64 md.n,.slice Av md.val.length cv,.slice Ar md.rel.length cr] 26)).heap[w.heap.size]?=some (.cells #[.int .i64 md.n,.slice Av md.val.length cv,.slice Ar md.rel.length cr] 26 (0,0))from heap_alloc_new _ _)
 obtain⟨er,tW⟩:∃er,er=Jq md f:=⟨_,rfl⟩;have wE:=Qq tW;rw [<-tW];clear tW nK;by_cases hz:er=0
 ·subst hz;obtain⟨xK,aH,_,_⟩:=Vb wE.out.symm;have sW:=Qq xK;have cW:=Qq aH;obtain⟨wH,yW,vA,gF,_,_,_⟩:=Zb xK;have bJ:=Qq (show md.n.toNat<=64 by omega);have iH:=(Jf aH).2.1;clear xK aH wH yW vA gF;go_enter Tryz.func62,Tryz.ntmps62;go_wp2_with fail;refine(Qd9 _ _ md f _ (HM.out.ext zL.out) zC.out (H.out.ext zL.out)).mono ?_;rintro e w1 ⟨rfl,zP⟩;rw [<-wE.out];have zM:=Qq (zL.out.trans zP);have wO:=Qq ((zP.block (Qn vX.out)).trans vX.out);clear zP vX;obtain⟨b,hb⟩:∃b,b=w.heap.size:=⟨_,rfl⟩;rw [<-hb]at wO⊢;have rA:=Qq (show b < w1.heap.size from Qn wO.out)
  clear hb;go_wp2_with(refine wpList_make_full _ rfl _ _ 23 rfl w1.heap.size 41 iU (.int .u64 0) 1 Tryz.underlying23 sR xG xF .i64 .i64 _ _ f.length rfl rfl rfl rfl (by rw [xE];omega) (by unfold maxLen;omega) (by simp) ?_);intro W1 tZ sC;have FV:=Qq (show Bx w1.heap.size W1 w1.heap.size (Nv md f 0) by
   have h1:=tZ;rw [Qrs]at h1;unfold Bx;rw [Qwh,List.length_replicate];exact h1)
  have vH:=Qq (show Qg w1 W1 from(Qg.refl w1).grown sC (fun k e=>by cases e));clear tZ sC;go_wp2_with(refine wpList_make_full _ rfl _ _ 89 rfl w1.heap.size 4 iB (.bool false) 1 Tryz.underlying89 UI kL kK .i64 .i64 _ _ f.length rfl rfl rfl rfl (by rw [kJ];omega) (by unfold maxLen;omega) vH.out.size ?_);intro W2 sP NI;have FU:=Qq (show Ue w1.heap.size W2 W1.heap.size (Ld md f 0) by
   have h1:=sP;rw [Qd0]at h1;unfold Ue;rw [Qwc,List.length_replicate];exact h1)
  have uU:=Qq (show Qg W1 W2 from(Qg.refl W1).grown NI (fun k e=>by cases e));have VX:=Qq (FV.out.ext uU.out);have G7:=Qq (vH.out.trans uU.out);have nB:=Qq (show w1.heap.size≠W1.heap.size by have:=FV.out.lt.2;omega);have ZA:=Qq vH.out.size;clear sP NI FV vH uU;obtain⟨g,hg⟩:∃g,g=w1.heap.size:=⟨_,rfl⟩;obtain⟨h,hh⟩:∃h,h=W1.heap.size:=⟨_,rfl⟩;rw [<-hh]at FU nB ZA⊢;rw [<-hg]at FU VX nB ZA⊢;have HG:=Qq hg;clear hg hh;go_wp2_with fail;go_loopw [26] (fun vi wr=>∃k:Nat,vi=.int .i64 (k:Int)/\k<=f.length/\Hid (Qg w1 wr/\Bx w1.heap.size wr g (Nv md f k)/\Ue w1.heap.size wr h (Ld md f k))) (fun v _=>f.length - (intOf v).toNat)
  case atStart=>exact⟨0,rfl,Nat.zero_le _,Qq ⟨G7.out,by rw [<-HG.out];exact VX.out,by rw [<-HG.out];exact FU.out⟩⟩
  case round =>
   obtain⟨k,rfl,hk,zY⟩:=hrel;have HX:=Qq zY.out.1;have HU:=Qq zY.out.2.1;have HF:=Qq zY.out.2.2;have yZ:=Qq (zM.out.trans HX.out);clear zY;by_cases hlt2:k < f.length
   ·have yT:(k:Int) < (f.length:Int):=by omega
    obtain⟨n,hn⟩:∃n,f[k]?=some n:=⟨_,Qv hlt2⟩;have lL:=Qq (Qve hn);have iM:=Qq (Yb cW.out k n hn);have lN:=Qq (Rw cW.out n (List.mem_of_getElem? hn));obtain⟨ad,rfl,zV,zJ⟩:=uJ.out (by intro e;rw [e]at hlt2;simp at hlt2);obtain⟨c0,c1,c2,c3,c4,c5⟩:=(zJ k n hn).keep fun p hp=>yZ.out.cell (p:=p) (by rw [hp,Qt];exact zV)
    have xQ:(ad.add (k*6)).block < wr.heap.size:=by rw [Qt];exact Qy zV yZ.out.size
    clear hn zJ;obtain⟨ix,mO,vD⟩:∃ix:Nat,n.x=(ix:Int)/\ix < f.length:=Qc6 hlt2 iM.out.1 lN.out.2.2.2.1;obtain⟨iy,UF,kN⟩:∃iy:Nat,n.y=(iy:Int)/\iy < f.length:=Qc6 hlt2 iM.out.2 lN.out.2.2.2.2;have bK:=Qq mO;have QC:=Qq UF;rw [mO]at c4;rw [UF]at c5;have LH:(ix:Int) < (f.length:Int):=by omega
    have hyl1:(iy:Int) < (f.length:Int):=by omega
    clear mO UF;obtain⟨op,zK⟩:∃z,z=n.op:=⟨_,rfl⟩;have xX:=Qq zK;rw [<-zK]at c0;clear zK;obtain⟨fx,jN⟩:∃z,z=(Ld md f k).getD ix false:=⟨_,rfl⟩;obtain⟨fy,UN⟩:∃z,z=(Ld md f k).getD iy false:=⟨_,rfl⟩;obtain⟨sx,tB⟩:∃z,z=(Nv md f k).getD ix 0:=⟨_,rfl⟩;obtain⟨sy,TB⟩:∃z,z=(Nv md f k).getD iy 0:=⟨_,rfl⟩;have kA:=Qq jN;have gY:=Qq UN;have oZ:=Qq tB;have aT:=Qq TB;have JX:=Zqi (md:=md) (f:=f) hk;have JY:=Zqw (md:=md) (f:=f) hk;have PV:=Qq JX;have SK:=Qq JY;have QN:=Qq (HF.out.cell (j:=ix) (by rw [JY];exact vD));have QM:=Qq (HF.out.cell (j:=iy) (by rw [JY];exact kN))
    have OU:=Qq (HU.out.cell (j:=ix) (by rw [JX];exact vD));have OT:=Qq (HU.out.cell (j:=iy) (by rw [JX];exact kN));rw [<-jN]at QN;rw [<-UN]at QM;rw [<-tB]at OU;rw [<-TB]at OT;have fO:=Qq HF.out.lt.2;have WU:=Qq HU.out.lt.2;clear jN UN tB TB JX JY;go_upto_region 10 with(fail);have sV:=Qq (show Qg wr (wr.alloc (.cells #[.int .i64 op,.int .i64 n.i,.int .i64 n.e,.int .i64 n.g,.int .i64 (ix:Int),.int .i64 (iy:Int)] 71))from(Qg.refl wr).alloc _);have bO:=Qq (show(wr.alloc (.cells #[.int .i64 op,.int .i64 n.i,.int .i64 n.e,.int .i64 n.g,.int .i64 (ix:Int),.int .i64 (iy:Int)] 71)).heap[wr.heap.size]?=some (.cells #[.int .i64 op,.int .i64 n.i,.int .i64 n.e,.int .i64 n.g,.int .i64 (ix:Int),.int .i64 (iy:Int)] 71 (0,0))from heap_alloc_new _ _)
    obtain⟨W3,gP⟩:∃z,z=wr.alloc (.cells #[.int .i64 op,.int .i64 n.i,.int .i64 n.e,.int .i64 n.g,.int .i64 (ix:Int),.int .i64 (iy:Int)] 71):=⟨_,rfl⟩;rw [<-gP]at sV bO⊢;obtain⟨q,hq⟩:∃z,z=wr.heap.size:=⟨_,rfl⟩;rw [<-hq]at bO⊢;have Z0:=Qq hq;clear gP hq c0 c1 c2 c3 c4 c5 xQ;obtain⟨d0,d1,d2,d3,d4,d5,dl⟩:=Qo4 bO.out;have x0:=(sV.out.cell (p:=⟨h,ix,none⟩) fO.out).trans QN.out;have y0:=(sV.out.cell (p:=⟨h,iy,none⟩) fO.out).trans QM.out;have xl:h < W3.heap.size:=Qy fO.out sV.out.size;obtain⟨b1,yV⟩:∃z,z=(!decide (4<=op)||fx):=⟨_,rfl⟩;have XK:=Qq yV;clear yV;go_upto_if 33 with(fail)
    go_cut [11] (fun s wx=>s=.bool b1/\wx=W3)
    case first =>
     by_cases h4:4<=op
     ·go_wp2_with fail;go_meet;exact⟨by rw [XK.out,decide_eq_true h4] <;> rfl,rfl⟩
     go_wp2_with fail;go_meet;exact⟨by rw [XK.out,decide_eq_false (by omega)] <;> rfl,rfl⟩
    case rest =>
     obtain⟨rfl,sL⟩:=hcut;obtain rfl:W3=wc:=sL.symm;obtain⟨b2,xC⟩:∃z,z=((decide (5<=op)&&decide (op<=8))||op==13):=⟨_,rfl⟩;have fZ:=Qq xC;obtain⟨b3,vR⟩:∃z,z=(b1&&(!b2||fy)):=⟨_,rfl⟩;have bP:=Qq vR;clear xC vR;go_upto_region 12 with(fail);go_cut [51] (fun s wx=>s=.bool b2/\wx=W3)
     case first =>
      by_cases h5:5<=op
      ·by_cases h8:op<=8
       ·go_wp2_with fail;go_meet;exact⟨by rw [fZ.out,decide_eq_true h5,decide_eq_true h8] <;> rfl,rfl⟩
       by_cases xL:op=13
       ·have eS:(op==13)=true:=by simpa using xL
        go_wp2_with fail;go_meet;exact⟨by rw [fZ.out,eS,Bool.or_true] <;> rfl,rfl⟩
       have eS:(op==13)=false:=by simpa using xL
       clear xL;go_wp2_with fail;go_meet;exact⟨by rw [fZ.out,eS,decide_eq_false (show ¬op<=8 by omega),Bool.and_false] <;> rfl,rfl⟩
      have eS:(op==13)=false:=by rw [beq_eq_false_iff_ne];omega
      go_wp2_with fail;go_meet;exact⟨by rw [fZ.out,eS,decide_eq_false (show ¬5<=op by omega)] <;> rfl,rfl⟩
     case rest =>
      obtain⟨rfl,sL⟩:=hcut;obtain rfl:W3=wc:=sL.symm;go_upto_if 51 with(fail);go_cut [11] (fun s wx=>s=.bool b3/\wx=W3)
      case first =>
       cases b2
       ·go_wp2_with fail;go_meet;exact⟨by rw [bP.out] <;> simp,rfl⟩
       cases b1
       ·go_wp2_with fail;go_meet;exact⟨by rw [bP.out] <;> rfl,rfl⟩
       go_wp2_with fail;go_meet;exact⟨by rw [bP.out] <;> rfl,rfl⟩
      case rest =>
       obtain⟨rfl,sL⟩:=hcut;obtain rfl:W3=wc:=sL.symm;have bG:=Qq (show okP n (Jg md f k).2=b3 by
        unfold okP;rw [bP.out,XK.out,fZ.out,kA.out,gY.out,bK.out,QC.out,<-xX.out,Qtj,Qtj]
        rfl)
       cases b3
       ·obtain⟨wQ,yD⟩:=Zq0 (md:=md) hlt2 (by rw [lL.out];exact bG.out);have gS:=Qq wQ;have wP:=Qq yD;clear wQ yD;go_wp2_with fail;go_roundw
        case rel=>exact⟨k+1,by go_num,by omega,Qq ⟨HX.out.trans sV.out,by rw [gS.out];exact HU.out.ext sV.out,by rw [wP.out];exact HF.out.ext sV.out⟩⟩
        case measure=>simp [intOf];omega
       obtain⟨wQ,yD⟩:=Zvr (md:=md) hlt2 lL.out bG.out;have gS:=Qq wQ;have wP:=Qq yD;clear wQ yD;go_upto_region 15 with(fail);obtain⟨e0,e1,e2,eb⟩:=Qj4 (((HX.out.trans sV.out).block rA.out).trans wO.out);have u0:=(sV.out.cell (p:=⟨g,ix,none⟩) WU.out).trans OU.out;have v0:=(sV.out.cell (p:=⟨g,iy,none⟩) WU.out).trans OT.out;have gl:g < W3.heap.size:=Qy WU.out sV.out.size;have cK:=Qq (HU.out.ext sV.out);have nC:=Qq (HF.out.ext sV.out);have OX:=Qq (show Qp sx by rw [oZ.out];exact Qne sW.out bJ.out ix);have OW:=Qq (show Qp sy by rw [aT.out];exact Qne sW.out bJ.out iy)
       have nU:=Qq (show b≠g by have h1:=rA.out;have h2:=HG.out;omega);have fI:=Qq (show b≠h by have h1:=rA.out;have h2:=HG.out;have h3:=ZA.out;omega);have gT:=Qq (show q≠g by have h1:=Z0.out;have h2:=WU.out;omega);have J6:=Qq (show q≠h by have h1:=Z0.out;have h2:=fO.out;omega);have QI:=Qq (show g≠h from fun e=>nB.out (by rw [<-e]));have QH:=Qq (show h≠g from fun e=>nB.out (by rw [e]));clear x0 y0 xl;refine Yp 23 (fun w'=>w'.cell? (⟨b,0,none⟩)=some (.int .i64 md.n)/\w'.cell? (⟨b,1,none⟩)=some (.slice Av md.val.length cv)/\w'.cell? (⟨b,2,none⟩)=some (.slice Ar md.rel.length cr)/\w'.cell? (⟨q,0,none⟩)=some (.int .i64 op)/\w'.cell? (⟨q,1,none⟩)=some (.int .i64 n.i)/\w'.cell? (⟨q,2,none⟩)=some (.int .i64 n.e)/\w'.cell? (⟨q,3,none⟩)=some (.int .i64 n.g)/\w'.cell? (⟨q,4,none⟩)=some (.int .i64 (ix:Int))/\w'.cell? (⟨q,5,none⟩)=some (.int .i64 (iy:Int))) (by kernel_rfl) ⟨xd eb e0,xd eb e1,xd eb e2,xd dl d0,xd dl d1,xd dl d2,xd dl d3,xd dl d4,xd dl d5⟩ (fun zZ=> ?_)
       refine Zz 0 zZ ?_;refine Zz 1 zZ ?_;refine Zz 2 zZ ?_;refine Zz 3 zZ ?_;refine Zz 4 zZ ?_;refine Zz 5 zZ ?_;refine Zz 6 zZ ?_;refine Zz 7 zZ ?_;refine Zz 8 zZ ?_;refine Zz 9 zZ ?_;refine Zz 11 zZ ?_;refine Zz 12 zZ ?_;refine Zz 13 zZ ?_;refine Zz 14 zZ ?_;refine Qo (rs:= [10,15]) (by kernel_rfl) (by simp) ?_;refine Zj.cons rfl (fun K hK=> ?_) (Zj.cons rfl (fun K hK=> ?_) Zj.nil)
       ·skip
        go_simp;refine hK.out _ _ ⟨xd eb e0,xd eb e1,xd eb e2,xd dl d0,xd dl d1,xd dl d2,xd dl d3,xd dl d4,xd dl d5⟩ (fun zZ=> ?_);clear hK K;refine Qb ?_;refine Qo (rs:= [15]) (by kernel_rfl) (by simp) ?_;refine Zj.cons rfl (fun K hK=> ?_) Zj.nil;go_simp;refine hK.out _ _ ⟨xd eb e0,xd eb e1,xd eb e2,xd dl d0,xd dl d1,xd dl d2,xd dl d3,xd dl d4,xd dl d5⟩ (fun zZ=> ?_);clear hK K;refine Qb ?_;refine Qo (rs:= [16]) (by kernel_rfl) (by simp) ?_;refine Zj.cons rfl (fun K hK=> ?_) Zj.nil;go_simp;have h1:=Qnq (.agg #[.int .i64 md.n,.slice Av md.val.length cv,.slice Ar md.rel.length cr]) md n sx sy W3.drew (HM.out.ext ((yZ.out.trans sV.out).trans (Qz.drew))) zC.out sW.out lN.out OX.out OW.out (fun ha hb=>(Qdc lN.out ha hb))
        unfold Nd.val at h1;obtain⟨ov,dQ⟩:∃o,o=Vj md n sx sy:=⟨_,rfl⟩;obtain⟨fv,UO⟩:∃o,o=Jy md n:=⟨_,rfl⟩;have PL:=Qq dQ;have IR:=Qq UO;rw [<-dQ,<-UO,<-xX.out,bK.out,QC.out]at h1;clear dQ UO;refine h1.mono ?_;clear h1;rintro e w5 ⟨rfl,yK⟩;have xH:Qg W3 w5:=Qg.trans (Qz.drew) yK;have yJ:=Qq xH;have iN:=Qq (cK.out.ext xH);have QQ:=Qq (nC.out.ext xH);have cg:=iN.out.cell (j:=k) (by rw [PV.out];exact hlt2);have fg:=iN.out.frozen k;clear yK;go_wp2_with fail;refine hK.out _ _ ⟨xd eb e0,xd eb e1,xd eb e2,xd dl d0,xd dl d1,xd dl d2,xd dl d3,xd dl d4,xd dl d5⟩ (fun zZ=> ?_);clear hK K
        refine Qb ?_;refine Zz 17 zZ ?_;refine Zz 18 zZ ?_;refine Zz 19 zZ ?_;refine Zz 20 zZ ?_;refine Qo (rs:= [21]) (by kernel_rfl) (by simp) ?_;refine Zj.cons rfl (fun K hK=> ?_) Zj.nil;go_simp;obtain⟨eV,eU⟩:=iN.out.set k ov;have FS:=Qq eV;have cU:=Qq (QQ.out.kept eU QI.out);have ch:=cU.out.cell (j:=k) (by rw [SK.out];exact hlt2);have fh:=cU.out.frozen k;have iL:=Qq (((HX.out.trans sV.out).trans yJ.out).setCell (p:=⟨g,k,none⟩) (by have h2:=HG.out;show w1.heap.size<=g;omega) (.int .u64 (ov:Int)));clear eV eU;refine hK.out _ _ ⟨(World.cell?_of_block (a:=⟨b,0,none⟩) (Below.heap_setCell _ _ _ _ nU.out)).trans ((yJ.out.cell (p:=⟨b,0,none⟩) eb).trans e0),(World.cell?_of_block (a:=⟨b,1,none⟩) (Below.heap_setCell _ _ _ _ nU.out)).trans ((yJ.out.cell (p:=⟨b,1,none⟩) eb).trans e1),(World.cell?_of_block (a:=⟨b,2,none⟩) (Below.heap_setCell _ _ _ _ nU.out)).trans ((yJ.out.cell (p:=⟨b,2,none⟩) eb).trans e2),(World.cell?_of_block (a:=⟨q,0,none⟩) (Below.heap_setCell _ _ _ _ gT.out)).trans ((yJ.out.cell (p:=⟨q,0,none⟩) dl).trans d0),(World.cell?_of_block (a:=⟨q,1,none⟩) (Below.heap_setCell _ _ _ _ gT.out)).trans ((yJ.out.cell (p:=⟨q,1,none⟩) dl).trans d1),(World.cell?_of_block (a:=⟨q,2,none⟩) (Below.heap_setCell _ _ _ _ gT.out)).trans ((yJ.out.cell (p:=⟨q,2,none⟩) dl).trans d2),(World.cell?_of_block (a:=⟨q,3,none⟩) (Below.heap_setCell _ _ _ _ gT.out)).trans ((yJ.out.cell (p:=⟨q,3,none⟩) dl).trans d3),(World.cell?_of_block (a:=⟨q,4,none⟩) (Below.heap_setCell _ _ _ _ gT.out)).trans ((yJ.out.cell (p:=⟨q,4,none⟩) dl).trans d4),(World.cell?_of_block (a:=⟨q,5,none⟩) (Below.heap_setCell _ _ _ _ gT.out)).trans ((yJ.out.cell (p:=⟨q,5,none⟩) dl).trans d5)⟩ (fun zZ=> ?_)
        clear hK K;refine Qb ?_;refine Zz 22 zZ ?_;refine Yi (by kernel_rfl) rfl (fun K hK=> ?_);go_simp;refine hK.out _ _ ?_;clear hK K;refine Qb ?_;refine Yo (by kernel_rfl) ?_ _;obtain⟨fQ,fP⟩:=cU.out.set k fv;have WB:=Qq (show Nv md f (k+1)=(Nv md f k).set k ov by rw [gS.out,PL.out,oZ.out,aT.out,bK.out,QC.out];rfl);have WA:=Qq (show Ld md f (k+1)=(Ld md f k).set k fv by rw [wP.out,IR.out]);have SN:=Qq fQ;have FR:=Qq (FS.out.kept fP QH.out);have qY:=Qq (iL.out.setCell (p:=⟨h,k,none⟩) (by have h2:=HG.out;have h3:=ZA.out;show w1.heap.size<=h;omega) (.bool fv))
        clear fQ fP;go_wp2_with fail;go_roundw
        case rel=>exact⟨k+1,by go_num,by omega,Qq ⟨qY.out,by rw [WB.out];exact FR.out,by rw [WA.out];exact SN.out⟩⟩
        case measure=>simp [intOf];omega
       skip
       go_simp;refine hK.out _ _ ⟨xd eb e0,xd eb e1,xd eb e2,xd dl d0,xd dl d1,xd dl d2,xd dl d3,xd dl d4,xd dl d5⟩ (fun zZ=> ?_);clear hK K;refine Qb ?_;refine Qo (rs:= [10]) (by kernel_rfl) (by simp) ?_;refine Zj.cons rfl (fun K hK=> ?_) Zj.nil;go_simp;refine hK.out _ _ ⟨xd eb e0,xd eb e1,xd eb e2,xd dl d0,xd dl d1,xd dl d2,xd dl d3,xd dl d4,xd dl d5⟩ (fun zZ=> ?_);clear hK K;refine Qb ?_;refine Qo (rs:= [16]) (by kernel_rfl) (by simp) ?_;refine Zj.cons rfl (fun K hK=> ?_) Zj.nil;go_simp;have h1:=Qnq (.agg #[.int .i64 md.n,.slice Av md.val.length cv,.slice Ar md.rel.length cr]) md n sx sy W3.drew (HM.out.ext ((yZ.out.trans sV.out).trans (Qz.drew))) zC.out sW.out lN.out OX.out OW.out (fun ha hb=>(Qdc lN.out ha hb))
       unfold Nd.val at h1;obtain⟨ov,dQ⟩:∃o,o=Vj md n sx sy:=⟨_,rfl⟩;obtain⟨fv,UO⟩:∃o,o=Jy md n:=⟨_,rfl⟩;have PL:=Qq dQ;have IR:=Qq UO;rw [<-dQ,<-UO,<-xX.out,bK.out,QC.out]at h1;clear dQ UO;refine h1.mono ?_;clear h1;rintro e w5 ⟨rfl,yK⟩;have xH:Qg W3 w5:=Qg.trans (Qz.drew) yK;have yJ:=Qq xH;have iN:=Qq (cK.out.ext xH);have QQ:=Qq (nC.out.ext xH);have cg:=iN.out.cell (j:=k) (by rw [PV.out];exact hlt2);have fg:=iN.out.frozen k;clear yK;go_wp2_with fail;refine hK.out _ _ ⟨xd eb e0,xd eb e1,xd eb e2,xd dl d0,xd dl d1,xd dl d2,xd dl d3,xd dl d4,xd dl d5⟩ (fun zZ=> ?_);clear hK K
       refine Qb ?_;refine Zz 17 zZ ?_;refine Zz 18 zZ ?_;refine Zz 19 zZ ?_;refine Zz 20 zZ ?_;refine Qo (rs:= [21]) (by kernel_rfl) (by simp) ?_;refine Zj.cons rfl (fun K hK=> ?_) Zj.nil;go_simp;obtain⟨eV,eU⟩:=iN.out.set k ov;have FS:=Qq eV;have cU:=Qq (QQ.out.kept eU QI.out);have ch:=cU.out.cell (j:=k) (by rw [SK.out];exact hlt2);have fh:=cU.out.frozen k;have iL:=Qq (((HX.out.trans sV.out).trans yJ.out).setCell (p:=⟨g,k,none⟩) (by have h2:=HG.out;show w1.heap.size<=g;omega) (.int .u64 (ov:Int)));clear eV eU;refine hK.out _ _ ⟨(World.cell?_of_block (a:=⟨b,0,none⟩) (Below.heap_setCell _ _ _ _ nU.out)).trans ((yJ.out.cell (p:=⟨b,0,none⟩) eb).trans e0),(World.cell?_of_block (a:=⟨b,1,none⟩) (Below.heap_setCell _ _ _ _ nU.out)).trans ((yJ.out.cell (p:=⟨b,1,none⟩) eb).trans e1),(World.cell?_of_block (a:=⟨b,2,none⟩) (Below.heap_setCell _ _ _ _ nU.out)).trans ((yJ.out.cell (p:=⟨b,2,none⟩) eb).trans e2),(World.cell?_of_block (a:=⟨q,0,none⟩) (Below.heap_setCell _ _ _ _ gT.out)).trans ((yJ.out.cell (p:=⟨q,0,none⟩) dl).trans d0),(World.cell?_of_block (a:=⟨q,1,none⟩) (Below.heap_setCell _ _ _ _ gT.out)).trans ((yJ.out.cell (p:=⟨q,1,none⟩) dl).trans d1),(World.cell?_of_block (a:=⟨q,2,none⟩) (Below.heap_setCell _ _ _ _ gT.out)).trans ((yJ.out.cell (p:=⟨q,2,none⟩) dl).trans d2),(World.cell?_of_block (a:=⟨q,3,none⟩) (Below.heap_setCell _ _ _ _ gT.out)).trans ((yJ.out.cell (p:=⟨q,3,none⟩) dl).trans d3),(World.cell?_of_block (a:=⟨q,4,none⟩) (Below.heap_setCell _ _ _ _ gT.out)).trans ((yJ.out.cell (p:=⟨q,4,none⟩) dl).trans d4),(World.cell?_of_block (a:=⟨q,5,none⟩) (Below.heap_setCell _ _ _ _ gT.out)).trans ((yJ.out.cell (p:=⟨q,5,none⟩) dl).trans d5)⟩ (fun zZ=> ?_)
       clear hK K;refine Qb ?_;refine Zz 22 zZ ?_;refine Yi (by kernel_rfl) rfl (fun K hK=> ?_);go_simp;refine hK.out _ _ ?_;clear hK K;refine Qb ?_;refine Yo (by kernel_rfl) ?_ _;obtain⟨fQ,fP⟩:=cU.out.set k fv;have WB:=Qq (show Nv md f (k+1)=(Nv md f k).set k ov by rw [gS.out,PL.out,oZ.out,aT.out,bK.out,QC.out];rfl);have WA:=Qq (show Ld md f (k+1)=(Ld md f k).set k fv by rw [wP.out,IR.out]);have SN:=Qq fQ;have FR:=Qq (FS.out.kept fP QH.out);have qY:=Qq (iL.out.setCell (p:=⟨h,k,none⟩) (by have h2:=HG.out;have h3:=ZA.out;show w1.heap.size<=h;omega) (.bool fv))
       clear fQ fP;go_wp2_with fail;go_roundw
       case rel=>exact⟨k+1,by go_num,by omega,Qq ⟨qY.out,by rw [WB.out];exact FR.out,by rw [WA.out];exact SN.out⟩⟩
       case measure=>simp [intOf];omega
   obtain rfl:f.length=k:=by omega
   go_wp2_with fail;go_ret2;exact⟨_,rfl,yZ.out,Qq fun _=>by have h1:=HU.out.u64s;rw [Zqo,(Fq md f f.length).1]at h1;exact h1⟩
 have sH:(er==0)=false:=by rw [beq_eq_false_iff_ne];exact hz
 have HZ:=Qq hz;clear hz;go_enter Tryz.func62,Tryz.ntmps62;go_wp2_with fail;refine(Qd9 _ _ md f _ (HM.out.ext zL.out) zC.out (H.out.ext zL.out)).mono ?_;rintro e w1 ⟨rfl,zP⟩;rw [<-wE.out];have zM:=Qq (zL.out.trans zP);clear zP;go_wp2_with fail;go_ret2;exact⟨_,rfl,zM.out,Qq fun e=>absurd e HZ.out⟩
end Go.Proofs.YtkmclcmnoicagaaGreatDoor
