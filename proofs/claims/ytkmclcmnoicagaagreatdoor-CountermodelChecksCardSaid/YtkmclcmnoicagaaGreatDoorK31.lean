/- The program's checker: the worlds at which a node holds. -/
import Derived.Test.YtkmclcmnoicagaaGreatDoorK28
import Derived.Deep.Cut
namespace Go.Proofs.YtkmclcmnoicagaaGreatDoor
set_option maxRecDepth 100000
set_option maxHeartbeats 128000000
open Go.RowKit
theorem wrap_i64 {k:Nat}(h:k<=4):IntKind.i64.wrap ((2:Int)^k)=((2^k:Nat):Int):=by
 have e:∀k:Fin 5,IntKind.i64.wrap ((2:Int)^k.val)=((2^k.val:Nat):Int):=by decide+kernel
 exact e ⟨k,by omega⟩
theorem Qof {w:World} {b:Nat} {a0 a1 a2 a3 a4 a5:Value} {t:TypeId}(h:w.heap[b]?=some (.cells #[a0,a1,a2,a3,a4,a5] t (0,0))):w.cell? ⟨b,0,none⟩=some a0/\w.cell? ⟨b,1,none⟩=some a1/\w.cell? ⟨b,3,none⟩=some a3/\b < w.heap.size :=
 ⟨by simp [World.cell?,h],by simp [World.cell?,h],by simp [World.cell?,h],Qf h⟩
theorem Qds(vm:Value)(md:Md)(n:Nd)(x y:Nat)(w:World)(hm:MdV w vm md)(zO:md.ok)(zT:Zq md=0)(hh:Zh n)(hx:Qp x)(hy:Qp y)(vL:11<=n.op->n.op<=13->1<=n.g):
 Calls Tryz.prog 133 #[vm,n.val,.int .u64 (x:Int),.int .u64 (y:Int)] w fun e w'=>e=.returned (.tuple #[.int .u64 ((Vv md n x y:Nat):Int),.bool (Jz md n)])/\Ext w w':=by
 obtain⟨vR,yN,uC,gK,uX,_,_⟩:=Zn zT;have vW:=Qsg zT;obtain⟨N,oT⟩:=Int.eq_ofNat_of_zero_le (show 0<=md.n by omega);have nL:md.n.toNat=N:=by rw [oT];exact Int.toNat_natCast N
 have HM:=Qq hm;have zD:=Qq zO;have xV:=Qq zT;have HH:=Qq hh;have yY:=Qq hx;have aQ:=Qq hy;obtain⟨vv,vr,rfl,hv,hr⟩:=hm;obtain⟨Av,cv,rfl,_,_,HV⟩:=Vp hv;obtain⟨Ar,cr,rfl,_,_,HR⟩:=Ge hr;have xH:N<=64:=by omega
 have V7:1<=N:=by omega
 have vA:=Qq (show Uk md n x y=if n.op=3 then md.val.getD n.i.toNat 0 else if n.op<=8 then Gv n.op x y (Zs N)
  else if n.op=9 then Vd (md.rel.getD n.i.toNat []) N x
  else if n.op=10 then Jv (Zs N) (Vd (md.rel.getD n.i.toNat []) N (Jv (Zs N) x))
  else if n.op=11 then Vd ((List.range N).map (Yz md.rel n.g.toNat false N)) N x
  else if n.op=12 then Vd ((List.range N).map (Yz md.rel n.g.toNat true N)) N x
  else Xx ((List.range N).map (Yz md.rel n.g.toNat false N)) N x y by unfold Uk;rw [nL])
 have nO:=Qq (show ∀r∈md.rel,r.length=N from fun r hr=>by have:=uX r hr;omega);have fT:=Qq (show ∀r∈md.rel,∀s∈r,s < 2^N by rw [nL]at vW;exact vW);have WO:=Qq (show ∀gn b,∀s∈(List.range N).map (Yz md.rel gn b N),s < 2^N from fun gn b s hs=>by
  obtain⟨i,_,rfl⟩:=List.mem_map.1 hs;exact Qo5 fT.out)
 have IN:=Qq (show ∀gn b,∀s∈(List.range N).map (Yz md.rel gn b N),Qp s from fun gn b s hs=>Qy (WO.out gn b s hs) (Ng xH));have IR:=Qq (show ∀gn b,Jw ((List.range N).map (Yz md.rel gn b N)).length ((List.range N).map (Yz md.rel gn b N))=0 from fun gn b=>Pv (by simp) xH (WO.out gn b));have tW:=Qq oT;have qV:=Qq nL;have JG:=Qq (Qw6 xH);have gH:=Qq (Vl xH);have vQ:=(Dq n.op).1 hh.1;have WP:=Qq vL;rw [oT]at HM⊢;unfold Nd.val;clear zO zT hh hx hy hv hr vR yN uX oT nL vW vL;obtain⟨W0,zE⟩:∃W,W=(w.alloc (.cells #[.int .i64 (N:Int),.slice Av md.val.length cv,.slice Ar md.rel.length cr] 26)).alloc (.cells #[.int .i64 n.op,.int .i64 n.i,.int .i64 n.e,.int .i64 n.g,.int .i64 n.x,.int .i64 n.y] 71):=⟨_,rfl⟩
 have zK:=Qq (show Ext w W0 by rw [zE];exact(Qz.alloc _).alloc _);obtain⟨b,hb⟩:∃b,b=w.heap.size:=⟨_,rfl⟩;have SP:=Qq (show W0.heap[b]?=some (.cells #[.int .i64 (N:Int),.slice Av md.val.length cv,.slice Ar md.rel.length cr] 26 (0,0)) by rw [zE,hb];exact((Qz.alloc _).block (by simp)).trans (heap_alloc_new _ _));have bZ:=Qq (show W0.heap[b+1]?=some (.cells #[.int .i64 n.op,.int .i64 n.i,.int .i64 n.e,.int .i64 n.g,.int .i64 n.x,.int .i64 n.y] 71 (0,0)) by
  have h1:=heap_alloc_new (w.alloc (.cells #[.int .i64 (N:Int),.slice Av md.val.length cv,.slice Ar md.rel.length cr] 26)) (.cells #[.int .i64 n.op,.int .i64 n.i,.int .i64 n.e,.int .i64 n.g,.int .i64 n.x,.int .i64 n.y] 71);rw [zE,hb]
  simpa using h1)
 obtain⟨e0,e1,e2,eb⟩:=Qz2 SP.out;obtain⟨c0,c1,c3,cb⟩:=Qof bZ.out;go_enter Tryz.func133,Tryz.ntmps133;go_upto_region 2 with(fail);rw [<-zE,<-hb,JG.out];clear zE hb;obtain⟨al,vS⟩:∃a,a=Zs N:=⟨_,rfl⟩;have nT:=Qq vS;rw [<-vS]at gH⊢;clear vS;obtain⟨op,zV⟩:∃z,z=n.op:=⟨_,rfl⟩;have xU:=Qq zV;rw [<-zV]at c0 vQ;clear zV;have TS:op=1\/op=2\/op=3\/op=4\/op=5\/op=6\/op=7\/op=8\/op=9\/op=10\/op=11\/op=12\/op=13\/14<=op:=by omega
 rcases TS with rfl|rfl|rfl|rfl|rfl|rfl|rfl|rfl|rfl|rfl|rfl|rfl|rfl|H4
 ·have HF:=Qq (show Jz md n=true by unfold Jz;rw [<-xU.out];rfl);have HE:=Qq (show Vv md n x y=al by unfold Vv;first|(rw [if_pos HF.out,vA.out,<-xU.out,nT.out];rfl)|(rw [if_pos HF.out,vA.out,<-xU.out];rfl));clear vQ;go_wp2_with fail;go_ret2;exact⟨by rw [HE.out,HF.out] <;> rfl,zK.out⟩
 ·have HF:=Qq (show Jz md n=true by unfold Jz;rw [<-xU.out];rfl);have HE:=Qq (show Vv md n x y=0 by unfold Vv;first|(rw [if_pos HF.out,vA.out,<-xU.out,nT.out];rfl)|(rw [if_pos HF.out,vA.out,<-xU.out];rfl));clear vQ;go_wp2_with fail;go_ret2;exact⟨by rw [HE.out,HF.out] <;> rfl,zK.out⟩
 ·obtain⟨h0,h8⟩:=Fm HH.out xU.out.symm;obtain⟨k,hk⟩:=Int.eq_ofNat_of_zero_le h0;rw [hk]at c1;by_cases wO:k < md.val.length
  ·have HF:=Qq (show Jz md n=true by unfold Jz;rw [<-xU.out,if_pos rfl,hk];exact decide_eq_true (by omega));have HE:=Qq (show Vv md n x y=md.val.getD k 0 by unfold Vv;rw [if_pos HF.out,vA.out,if_pos xU.out.symm,hk];rfl);have yP:¬(md.val.length:Int)<=(k:Int):=by omega
   have wM:(k:Int) < (md.val.length:Int):=by omega
   obtain⟨ad,rfl,zU,hc⟩:=HV.out k wO;have a0:=(zK.out.cell (p:=ad.add k) (Qj zU)).trans hc;have al2:(ad.add k).block < W0.heap.size:=by rw [Qr];exact Qy zU zK.out.size
   obtain⟨z,hz⟩:∃z,z=md.val.getD k 0:=⟨_,rfl⟩;rw [<-hz]at a0 HE;clear h0 h8 hk hc vQ hz;go_wp2_with fail;go_ret2;exact⟨by rw [HE.out,HF.out] <;> rfl,zK.out⟩
  have HF:=Qq (show Jz md n=false by unfold Jz;rw [<-xU.out,if_pos rfl,hk];exact decide_eq_false (by omega));have HE:=Qq (show Vv md n x y=0 by unfold Vv;rw [HF.out];rfl);have yP:(md.val.length:Int)<=(k:Int):=by omega
  clear h0 h8 hk wO vQ;go_wp2_with fail;go_ret2;exact⟨by rw [HE.out,HF.out] <;> rfl,zK.out⟩
 ·have HF:=Qq (show Jz md n=true by unfold Jz;rw [<-xU.out];rfl);have HE:=Qq (show Vv md n x y=Jv al x by unfold Vv;first|(rw [if_pos HF.out,vA.out,<-xU.out,nT.out];rfl)|(rw [if_pos HF.out,vA.out,<-xU.out];rfl));have b1:=Vx gH.out yY.out;clear vQ;go_wp2_with fail;go_ret2;exact⟨by rw [HE.out,HF.out] <;> rfl,zK.out⟩
 ·have HF:=Qq (show Jz md n=true by unfold Jz;rw [<-xU.out];rfl);have HE:=Qq (show Vv md n x y=x&&&y by unfold Vv;first|(rw [if_pos HF.out,vA.out,<-xU.out,nT.out];rfl)|(rw [if_pos HF.out,vA.out,<-xU.out];rfl));have b1:=Xz yY.out aQ.out;clear vQ;go_wp2_with fail;go_ret2;exact⟨by rw [HE.out,HF.out] <;> rfl,zK.out⟩
 ·have HF:=Qq (show Jz md n=true by unfold Jz;rw [<-xU.out];rfl);have HE:=Qq (show Vv md n x y=x|||y by unfold Vv;first|(rw [if_pos HF.out,vA.out,<-xU.out,nT.out];rfl)|(rw [if_pos HF.out,vA.out,<-xU.out];rfl));have b1:=Xw yY.out aQ.out;clear vQ;go_wp2_with fail;go_ret2;exact⟨by rw [HE.out,HF.out] <;> rfl,zK.out⟩
 ·have HF:=Qq (show Jz md n=true by unfold Jz;rw [<-xU.out];rfl);have HE:=Qq (show Vv md n x y=Jv al x|||y by unfold Vv;first|(rw [if_pos HF.out,vA.out,<-xU.out,nT.out];rfl)|(rw [if_pos HF.out,vA.out,<-xU.out];rfl));have b1:=Vx gH.out yY.out;have b2:=Xw (a:=Jv al x) (b:=y) (Un gH.out) aQ.out;clear vQ;go_wp2_with fail;go_ret2;exact⟨by rw [HE.out,HF.out] <;> rfl,zK.out⟩
 ·have HF:=Qq (show Jz md n=true by unfold Jz;rw [<-xU.out];rfl);have HE:=Qq (show Vv md n x y=Jv al (x^^^y) by unfold Vv;first|(rw [if_pos HF.out,vA.out,<-xU.out,nT.out];rfl)|(rw [if_pos HF.out,vA.out,<-xU.out];rfl));have b1:=Qym yY.out aQ.out;have b2:=Vx (a:=al) (b:=x^^^y) gH.out (Qv1 yY.out aQ.out);clear vQ;go_wp2_with fail;go_ret2;exact⟨by rw [HE.out,HF.out] <;> rfl,zK.out⟩
 ·obtain⟨h0,h4⟩:=Kw HH.out (by rw [<-xU.out];rfl);obtain⟨k,hk⟩:=Int.eq_ofNat_of_zero_le h0;rw [hk]at c1;by_cases wO:k < md.rel.length
  ·have HF:=Qq (show Jz md n=true by unfold Jz;rw [<-xU.out,if_neg (by decide),if_neg (by decide),if_pos (by decide),hk];exact decide_eq_true (by omega));have HE:=Qq (show Vv md n x y=Vd (md.rel.getD k []) N x by unfold Vv;rw [if_pos HF.out,vA.out,<-xU.out,hk];rfl);have yP:¬(md.rel.length:Int)<=(k:Int):=by omega
   have wM:(k:Int) < (md.rel.length:Int):=by omega
   obtain⟨ad,u,rfl,zU,yS,hu⟩:=HR.out k wO;have wK:md.rel.getD k []∈md.rel:=by rw [Qk,Qv wO];exact List.getElem_mem wO
   have yQ:=nO.out _ wK;have QS:=Qq (Pv yQ xH (fT.out _ wK));have oO:=Qq (Qvp yQ (List.any_eq_false.2 fun s hs=>by simpa using fT.out _ wK s hs));have fZ:=Qq (show Nq (md.rel.getD k []) x=Vd (md.rel.getD k []) N x by unfold Nq;rw [if_pos QS.out,yQ]);have tJ:=Qq (zD.out.rel _ wK);have HU:=Qq (hu.ext zK.out);have a0:=(zK.out.cell (p:=ad.add k) (Qj zU)).trans yS;have al2:(ad.add k).block < W0.heap.size:=by rw [Qr];exact Qy zU zK.out.size
   obtain⟨r,hr⟩:∃r,r=md.rel.getD k []:=⟨_,rfl⟩;rw [<-hr]at HE fZ tJ HU;clear h0 h4 hk yS vQ hu wK yQ hr;go_wp2_with(go_at_call 186;refine(Ll _ r x _ HU.out tJ.out yY.out).mono ?_;rintro e w5 ⟨rfl,xF⟩;have yE:=Qq (zK.out.trans xF);clear xF);go_ret2;exact⟨by rw [HE.out,HF.out,<-fZ.out] <;> rfl,yE.out⟩
  have HF:=Qq (show Jz md n=false by unfold Jz;rw [<-xU.out,if_neg (by decide),if_neg (by decide),if_pos (by decide),hk];exact decide_eq_false (by omega));have HE:=Qq (show Vv md n x y=0 by unfold Vv;rw [HF.out];rfl);have yP:(md.rel.length:Int)<=(k:Int):=by omega
  clear h0 h4 hk wO vQ;go_wp2_with fail;go_ret2;exact⟨by rw [HE.out,HF.out] <;> rfl,zK.out⟩
 ·obtain⟨h0,h4⟩:=Kw HH.out (by rw [<-xU.out];rfl);obtain⟨k,hk⟩:=Int.eq_ofNat_of_zero_le h0;rw [hk]at c1;by_cases wO:k < md.rel.length
  ·have HF:=Qq (show Jz md n=true by unfold Jz;rw [<-xU.out,if_neg (by decide),if_neg (by decide),if_pos (by decide),hk];exact decide_eq_true (by omega));have HE:=Qq (show Vv md n x y=Jv (Zs N) (Vd (md.rel.getD k []) N (Jv (Zs N) x)) by unfold Vv;rw [if_pos HF.out,vA.out,<-xU.out,hk];rfl);have yP:¬(md.rel.length:Int)<=(k:Int):=by omega
   have wM:(k:Int) < (md.rel.length:Int):=by omega
   obtain⟨ad,u,rfl,zU,yS,hu⟩:=HR.out k wO;have wK:md.rel.getD k []∈md.rel:=by rw [Qk,Qv wO];exact List.getElem_mem wO
   have yQ:=nO.out _ wK;have QS:=Qq (Pv yQ xH (fT.out _ wK));have oO:=Qq (Qvp yQ (List.any_eq_false.2 fun s hs=>by simpa using fT.out _ wK s hs));have fZ:=Qq (show Qya (md.rel.getD k []) x=Jv (Zs N) (Vd (md.rel.getD k []) N (Jv (Zs N) x)) by unfold Qya;rw [if_pos QS.out,yQ,Qmb xH oO.out]);have tJ:=Qq (zD.out.rel _ wK);have HU:=Qq (hu.ext zK.out);have a0:=(zK.out.cell (p:=ad.add k) (Qj zU)).trans yS;have al2:(ad.add k).block < W0.heap.size:=by rw [Qr];exact Qy zU zK.out.size
   obtain⟨r,hr⟩:∃r,r=md.rel.getD k []:=⟨_,rfl⟩;rw [<-hr]at HE fZ tJ HU;clear h0 h4 hk yS vQ hu wK yQ hr;go_wp2_with(go_at_call 187;refine(Qen _ r x _ HU.out tJ.out yY.out).mono ?_;rintro e w5 ⟨rfl,xF⟩;have yE:=Qq (zK.out.trans xF);clear xF);go_ret2;exact⟨by rw [HE.out,HF.out,<-fZ.out] <;> rfl,yE.out⟩
  have HF:=Qq (show Jz md n=false by unfold Jz;rw [<-xU.out,if_neg (by decide),if_neg (by decide),if_pos (by decide),hk];exact decide_eq_false (by omega));have HE:=Qq (show Vv md n x y=0 by unfold Vv;rw [HF.out];rfl);have yP:(md.rel.length:Int)<=(k:Int):=by omega
  clear h0 h4 hk wO vQ;go_wp2_with fail;go_ret2;exact⟨by rw [HE.out,HF.out] <;> rfl,zK.out⟩
 ·obtain⟨h0,YN⟩:=Ue HH.out;obtain⟨gn,vY⟩:=Int.eq_ofNat_of_zero_le h0;have NL:1<=gn:=by have:=WP.out (by rw [<-xU.out];decide) (by rw [<-xU.out];decide);omega
  rw [vY]at c3;by_cases xO:gn < 2^md.rel.length
  ·have HF:=Qq (show Jz md n=true by unfold Jz;rw [<-xU.out,if_neg (by decide),if_neg (by decide),if_neg (by decide),if_pos (by decide),vY];exact decide_eq_true (by exact_mod_cast xO));have HE:=Qq (show Vv md n x y=Vd ((List.range N).map (Yz md.rel gn false N)) N x by unfold Vv;rw [if_pos HF.out,vA.out,<-xU.out,vY];rfl);have fZ:=Qq (show Nq ((List.range N).map (Yz md.rel gn false N)) x=Vd ((List.range N).map (Yz md.rel gn false N)) N x by unfold Nq;rw [if_pos (IR.out gn false),List.length_map,List.length_range]);have NN:=decide_eq_false (Qzs uC xO);have NJ:decide (IntKind.i64.wrap ((2:Int)^md.rel.length)<=(gn:Int))=false:=decide_eq_false (by rw [wrap_i64 uC];exact_mod_cast Nat.not_le_of_lt xO)
   have wD:min md.rel.length 64=md.rel.length:=by omega
   clear h0 YN vY vQ;go_upto_region 31 with(fail);refine wp_region_held_drew (S:=fun w'=>w'.cell? (⟨b+1,3,none⟩)=some (.int .i64 (gn:Int))/\w'.cell? (⟨b,2,none⟩)=some (.slice Ar md.rel.length cr)) (by kernel_rfl) ⟨xc cb c3,xc eb e2⟩ (fun zZ=> ?_);refine tk 0 zZ ?_;refine tk 1 zZ ?_;refine tk 2 zZ ?_;refine tk 3 zZ ?_;refine tk 4 zZ ?_;refine tk 5 zZ ?_;refine tk 6 zZ ?_;refine wpAnyH_done (by kernel_rfl) ?_ _;have BM:=Qq ((Ext.refl W0).drew.block (Qf SP.out));go_wp2_with(first|(go_at_call 189;refine(Qki _ md gn _ (HM.out.ext (zK.out.trans xv)) zD.out xV.out NL xO).mono ?_;rintro e w5 ⟨u5,rfl,xF,dQ⟩;rw [qV.out]at dQ;have yE:=Qq (zK.out.trans (Ext.trans xv xF));have iO:=Qq dQ;have c05:=((Ext.trans xv xF).cell (p:=⟨b+1,0,none⟩) cb).trans c0;clear xF dQ)|(go_at_call 186;refine(Ll _ ((List.range N).map (Yz md.rel gn false N)) x _ iO.out (IN.out gn false) yY.out).mono ?_;rintro e w6 ⟨rfl,uT⟩;rw [fZ.out];have pV:=Qq (yE.out.trans uT);clear uT))
   go_ret2;exact⟨by rw [HE.out,HF.out] <;> rfl,pV.out⟩
  have HF:=Qq (show Jz md n=false by unfold Jz;rw [<-xU.out,if_neg (by decide),if_neg (by decide),if_neg (by decide),if_pos (by decide),vY];exact decide_eq_false (by exact_mod_cast xO));have HE:=Qq (show Vv md n x y=0 by unfold Vv;rw [HF.out];rfl);have NN:decide (wrap64 ((2:Int)^md.rel.length)<=(gn:Int))=true:=decide_eq_true (by rw [Df (by omega)];exact_mod_cast Nat.le_of_not_lt xO);have NJ:decide (IntKind.i64.wrap ((2:Int)^md.rel.length)<=(gn:Int))=true:=decide_eq_true (by rw [wrap_i64 uC];exact_mod_cast Nat.le_of_not_lt xO);have wD:min md.rel.length 64=md.rel.length:=by omega
  clear h0 YN vY vQ xO;go_upto_region 31 with(fail);refine wp_region_held_drew (S:=fun w'=>w'.cell? (⟨b+1,3,none⟩)=some (.int .i64 (gn:Int))/\w'.cell? (⟨b,2,none⟩)=some (.slice Ar md.rel.length cr)) (by kernel_rfl) ⟨xc cb c3,xc eb e2⟩ (fun zZ=> ?_);refine tk 0 zZ ?_;refine tk 1 zZ ?_;refine tk 2 zZ ?_;refine tk 3 zZ ?_;refine tk 4 zZ ?_;refine tk 5 zZ ?_;refine tk 6 zZ ?_;refine wpAnyH_done (by kernel_rfl) ?_ _;go_wp2_with fail;go_ret2;exact⟨by rw [HE.out,HF.out] <;> rfl,zK.out.drew⟩
 ·obtain⟨h0,YN⟩:=Ue HH.out;obtain⟨gn,vY⟩:=Int.eq_ofNat_of_zero_le h0;have NL:1<=gn:=by have:=WP.out (by rw [<-xU.out];decide) (by rw [<-xU.out];decide);omega
  rw [vY]at c3;by_cases xO:gn < 2^md.rel.length
  ·have HF:=Qq (show Jz md n=true by unfold Jz;rw [<-xU.out,if_neg (by decide),if_neg (by decide),if_neg (by decide),if_pos (by decide),vY];exact decide_eq_true (by exact_mod_cast xO));have HE:=Qq (show Vv md n x y=Vd ((List.range N).map (Yz md.rel gn true N)) N x by unfold Vv;rw [if_pos HF.out,vA.out,<-xU.out,vY];rfl);have fZ:=Qq (show Nq ((List.range N).map (Yz md.rel gn true N)) x=Vd ((List.range N).map (Yz md.rel gn true N)) N x by unfold Nq;rw [if_pos (IR.out gn true),List.length_map,List.length_range]);have NN:=decide_eq_false (Qzs uC xO);have NJ:decide (IntKind.i64.wrap ((2:Int)^md.rel.length)<=(gn:Int))=false:=decide_eq_false (by rw [wrap_i64 uC];exact_mod_cast Nat.not_le_of_lt xO)
   have wD:min md.rel.length 64=md.rel.length:=by omega
   clear h0 YN vY vQ;go_upto_region 31 with(fail);refine wp_region_held_drew (S:=fun w'=>w'.cell? (⟨b+1,3,none⟩)=some (.int .i64 (gn:Int))/\w'.cell? (⟨b,2,none⟩)=some (.slice Ar md.rel.length cr)) (by kernel_rfl) ⟨xc cb c3,xc eb e2⟩ (fun zZ=> ?_);refine tk 0 zZ ?_;refine tk 1 zZ ?_;refine tk 2 zZ ?_;refine tk 3 zZ ?_;refine tk 4 zZ ?_;refine tk 5 zZ ?_;refine tk 6 zZ ?_;refine wpAnyH_done (by kernel_rfl) ?_ _;have BM:=Qq ((Ext.refl W0).drew.block (Qf SP.out));go_wp2_with(first|(go_at_call 188;refine(Qct _ md gn _ (HM.out.ext (zK.out.trans xv)) zD.out xV.out NL xO).mono ?_;rintro e w5 ⟨u5,rfl,xF,dQ⟩;rw [qV.out]at dQ;have yE:=Qq (zK.out.trans (Ext.trans xv xF));have iO:=Qq dQ;have c05:=((Ext.trans xv xF).cell (p:=⟨b+1,0,none⟩) cb).trans c0;clear xF dQ)|(go_at_call 186;refine(Ll _ ((List.range N).map (Yz md.rel gn true N)) x _ iO.out (IN.out gn true) yY.out).mono ?_;rintro e w6 ⟨rfl,uT⟩;rw [fZ.out];have pV:=Qq (yE.out.trans uT);clear uT))
   go_ret2;exact⟨by rw [HE.out,HF.out] <;> rfl,pV.out⟩
  have HF:=Qq (show Jz md n=false by unfold Jz;rw [<-xU.out,if_neg (by decide),if_neg (by decide),if_neg (by decide),if_pos (by decide),vY];exact decide_eq_false (by exact_mod_cast xO));have HE:=Qq (show Vv md n x y=0 by unfold Vv;rw [HF.out];rfl);have NN:decide (wrap64 ((2:Int)^md.rel.length)<=(gn:Int))=true:=decide_eq_true (by rw [Df (by omega)];exact_mod_cast Nat.le_of_not_lt xO);have NJ:decide (IntKind.i64.wrap ((2:Int)^md.rel.length)<=(gn:Int))=true:=decide_eq_true (by rw [wrap_i64 uC];exact_mod_cast Nat.le_of_not_lt xO);have wD:min md.rel.length 64=md.rel.length:=by omega
  clear h0 YN vY vQ xO;go_upto_region 31 with(fail);refine wp_region_held_drew (S:=fun w'=>w'.cell? (⟨b+1,3,none⟩)=some (.int .i64 (gn:Int))/\w'.cell? (⟨b,2,none⟩)=some (.slice Ar md.rel.length cr)) (by kernel_rfl) ⟨xc cb c3,xc eb e2⟩ (fun zZ=> ?_);refine tk 0 zZ ?_;refine tk 1 zZ ?_;refine tk 2 zZ ?_;refine tk 3 zZ ?_;refine tk 4 zZ ?_;refine tk 5 zZ ?_;refine tk 6 zZ ?_;refine wpAnyH_done (by kernel_rfl) ?_ _;go_wp2_with fail;go_ret2;exact⟨by rw [HE.out,HF.out] <;> rfl,zK.out.drew⟩
 ·obtain⟨h0,YN⟩:=Ue HH.out;obtain⟨gn,vY⟩:=Int.eq_ofNat_of_zero_le h0;have NL:1<=gn:=by have:=WP.out (by rw [<-xU.out];decide) (by rw [<-xU.out];decide);omega
  rw [vY]at c3;by_cases xO:gn < 2^md.rel.length
  ·have HF:=Qq (show Jz md n=true by unfold Jz;rw [<-xU.out,if_neg (by decide),if_neg (by decide),if_neg (by decide),if_pos (by decide),vY];exact decide_eq_true (by exact_mod_cast xO));have HE:=Qq (show Vv md n x y=Xx ((List.range N).map (Yz md.rel gn false N)) N x y by unfold Vv;rw [if_pos HF.out,vA.out,<-xU.out,vY];rfl);have NN:=decide_eq_false (Qzs uC xO);have NJ:decide (IntKind.i64.wrap ((2:Int)^md.rel.length)<=(gn:Int))=false:=decide_eq_false (by rw [wrap_i64 uC];exact_mod_cast Nat.not_le_of_lt xO);have wD:min md.rel.length 64=md.rel.length:=by omega
   clear h0 YN vY vQ;go_upto_region 31 with(fail);refine wp_region_held_drew (S:=fun w'=>w'.cell? (⟨b+1,3,none⟩)=some (.int .i64 (gn:Int))/\w'.cell? (⟨b,2,none⟩)=some (.slice Ar md.rel.length cr)) (by kernel_rfl) ⟨xc cb c3,xc eb e2⟩ (fun zZ=> ?_);refine tk 0 zZ ?_;refine tk 1 zZ ?_;refine tk 2 zZ ?_;refine tk 3 zZ ?_;refine tk 4 zZ ?_;refine tk 5 zZ ?_;refine tk 6 zZ ?_;refine wpAnyH_done (by kernel_rfl) ?_ _;have BM:=Qq ((Ext.refl W0).drew.block (Qf SP.out));go_wp2_with(first|(go_at_call 189;refine(Qki _ md gn _ (HM.out.ext (zK.out.trans xv)) zD.out xV.out NL xO).mono ?_;rintro e w5 ⟨u5,rfl,xF,dQ⟩;rw [qV.out]at dQ;have yE:=Qq (zK.out.trans (Ext.trans xv xF));have iO:=Qq dQ;have c05:=((Ext.trans xv xF).cell (p:=⟨b+1,0,none⟩) cb).trans c0;clear xF dQ)|(go_at_call 190;rw [nT.out];refine(Qn9 _ ((List.range N).map (Yz md.rel gn false N)) N x y _ iO.out (IN.out gn false) (by simp) (IR.out gn false) yY.out aQ.out).mono ?_;rintro e w6 ⟨rfl,uT⟩;have pV:=Qq (yE.out.trans uT);clear uT))
   go_ret2;exact⟨by rw [HE.out,HF.out] <;> rfl,pV.out⟩
  have HF:=Qq (show Jz md n=false by unfold Jz;rw [<-xU.out,if_neg (by decide),if_neg (by decide),if_neg (by decide),if_pos (by decide),vY];exact decide_eq_false (by exact_mod_cast xO));have HE:=Qq (show Vv md n x y=0 by unfold Vv;rw [HF.out];rfl);have NN:decide (wrap64 ((2:Int)^md.rel.length)<=(gn:Int))=true:=decide_eq_true (by rw [Df (by omega)];exact_mod_cast Nat.le_of_not_lt xO);have NJ:decide (IntKind.i64.wrap ((2:Int)^md.rel.length)<=(gn:Int))=true:=decide_eq_true (by rw [wrap_i64 uC];exact_mod_cast Nat.le_of_not_lt xO);have wD:min md.rel.length 64=md.rel.length:=by omega
  clear h0 YN vY vQ xO;go_upto_region 31 with(fail);refine wp_region_held_drew (S:=fun w'=>w'.cell? (⟨b+1,3,none⟩)=some (.int .i64 (gn:Int))/\w'.cell? (⟨b,2,none⟩)=some (.slice Ar md.rel.length cr)) (by kernel_rfl) ⟨xc cb c3,xc eb e2⟩ (fun zZ=> ?_);refine tk 0 zZ ?_;refine tk 1 zZ ?_;refine tk 2 zZ ?_;refine tk 3 zZ ?_;refine tk 4 zZ ?_;refine tk 5 zZ ?_;refine tk 6 zZ ?_;refine wpAnyH_done (by kernel_rfl) ?_ _;go_wp2_with fail;go_ret2;exact⟨by rw [HE.out,HF.out] <;> rfl,zK.out.drew⟩
 have HF:=Qq (show Jz md n=false by unfold Jz;rw [<-xU.out,if_neg (by omega),if_neg (by omega),if_neg (by omega),if_neg (by omega)]);have HE:=Qq (show Vv md n x y=0 by unfold Vv;rw [HF.out];rfl);have t1:(op==1)=false:=by simp only [beq_eq_false_iff_ne,ne_eq];omega
 have t2:(op==2)=false:=by simp only [beq_eq_false_iff_ne,ne_eq];omega
 have t3:(op==3)=false:=by simp only [beq_eq_false_iff_ne,ne_eq];omega
 have t4:(op==4)=false:=by simp only [beq_eq_false_iff_ne,ne_eq];omega
 have t5:(op==5)=false:=by simp only [beq_eq_false_iff_ne,ne_eq];omega
 have t6:(op==6)=false:=by simp only [beq_eq_false_iff_ne,ne_eq];omega
 have t7:(op==7)=false:=by simp only [beq_eq_false_iff_ne,ne_eq];omega
 have t8:(op==8)=false:=by simp only [beq_eq_false_iff_ne,ne_eq];omega
 have t9:(op==9)=false:=by simp only [beq_eq_false_iff_ne,ne_eq];omega
 have t10:(op==10)=false:=by simp only [beq_eq_false_iff_ne,ne_eq];omega
 have t11:(op==11)=false:=by simp only [beq_eq_false_iff_ne,ne_eq];omega
 have t12:(op==12)=false:=by simp only [beq_eq_false_iff_ne,ne_eq];omega
 have t13:(op==13)=false:=by simp only [beq_eq_false_iff_ne,ne_eq];omega
 clear vQ H4;go_wp2_with fail;go_ret2;exact⟨by rw [HE.out,HF.out] <;> rfl,zK.out⟩
theorem Qfr(m n:Nat):((m:Int) / 2^n==0)=decide (m < 2^n):=by
 have e:((m:Int) / 2^n)=((m / 2^n:Nat):Int):=by simp
 rw [e,Bool.eq_iff_iff,beq_iff_eq,decide_eq_true_eq];have:=Nat.div_eq_zero_iff (a:=m) (b:=2^n);have hp:=Nat.two_pow_pos n;omega
theorem Qm9 {m k a:Nat}(hm:m < 2^k):(List.range k).all (Xj a m)=decide (m < 2^a):=by
 rw [Bool.eq_iff_iff,List.all_eq_true,decide_eq_true_eq];refine⟨fun h=>Qvz fun i hi=> ?_,fun h i hi=> ?_⟩
 ·have h2:=h i (List.mem_range.2 (Ka hm hi));unfold Xj at h2;rw [hi]at h2
  simpa using h2
 unfold Xj;cases hb:m.testBit i
 ·rfl
 rw [decide_eq_true (Ka h hb)];rfl
theorem Qko(m n:Nat)(w:World)(_hm:m < 512)(hn:n<=8):Calls Tryz.prog 208 #[.int .i64 (m:Int),.int .i64 (n:Int)] w fun e w'=>e=.returned (.bool (decide (m < 2^n)))/\w=w':=by
 have hn31:¬(31:Int)<=(n:Int):=by omega
 have yO:max (n:Int) 0=(n:Int):=by omega
 have wD:min n 64=n:=by omega
 have HD:=Qq (Qfr m n);go_enter Tryz.func208,Tryz.ntmps208;go_wp2_with fail;go_ret;exact⟨by rw [<-HD.out] <;> rfl,rfl⟩
theorem Qgp(v:Value)(f:List Nd)(a b:Nat)(w:World)(h:Fml w v f)(ha:a<=4)(hb:b<=8):
 Calls Tryz.prog 185 #[v,.int .i64 (a:Int),.int .i64 (b:Int)] w fun e w'=>e=.returned (.bool (Yc f a b))/\Ext w w':=by
 have H:=Qq h;clear h;by_cases hc:check f=0
 ·have HC:=Qq hc;have hh:=(Jf hc).2.2.2;have aC:Jr (Qg f) < 2^4:=Nb _ 0 hh (by decide);have cM:Yy (Qg f) < 2^8:=Sg _ 0 hh (by decide);have HF:=Qq (show Yc f a b=(decide (Jr (Qg f) < 2^a)&&decide (Yy (Qg f) < 2^b)) by
   unfold Yc;rw [Qm9 aC,Qm9 cM,HC.out]
   rfl)
  have HA:=Qq (fun(w:World) (h:Fml w v f)=>En v f w h hc);have HB:=Qq (fun(w:World) (h:Fml w v f)=>Of v f w h hc);obtain⟨ma,MN⟩:∃m,m=Jr (Qg f):=⟨_,rfl⟩;obtain⟨mf,MK⟩:∃m,m=Yy (Qg f):=⟨_,rfl⟩;rw [<-MN]at aC HF HA;rw [<-MK]at cM HF HB;have MO:ma < 512:=by omega
  have CX:mf < 512:=by omega
  clear MN MK aC cM hh hc;cases hd:decide (ma < 2^a)
  ·have HD:=Qq hd;have HE:=Qq (show Yc f a b=false by rw [HF.out,HD.out];rfl);clear hd;go_enter Tryz.func185,Tryz.ntmps185;go_wp2_with(first|(go_at_call 41;refine(Vh _ f _ H.out.1).mono ?_;rintro e w1 ⟨rfl,zN⟩;rw [HC.out];have zL:=Qq zN;clear zN)|(go_at_call 66;refine(HA.out _ (H.out.ext zL.out)).mono ?_;rintro e w2 ⟨rfl,zS⟩;have zR:=Qq (zL.out.trans zS);clear zS)|(go_at_call 208;refine(Qko ma a _ MO (by omega)).mono ?_;rintro e w3 ⟨rfl,rfl⟩;rw [HD.out]));go_ret;exact⟨by rw [HE.out] <;> rfl,zR.out⟩
  have HD:=Qq hd;have HE:=Qq (show Yc f a b=decide (mf < 2^b) by rw [HF.out,HD.out];rfl);clear hd;go_enter Tryz.func185,Tryz.ntmps185;go_wp2_with(first|(go_at_call 41;refine(Vh _ f _ H.out.1).mono ?_;rintro e w1 ⟨rfl,zN⟩;rw [HC.out];have zL:=Qq zN;clear zN)|(go_at_call 66;refine(HA.out _ (H.out.ext zL.out)).mono ?_;rintro e w2 ⟨rfl,zS⟩;have zR:=Qq (zL.out.trans zS);clear zS)|(go_at_call 67;refine(HB.out _ (H.out.ext zR.out)).mono ?_;rintro e w4 ⟨rfl,yD⟩;have yI:=Qq (zR.out.trans yD);clear yD)|(go_at_call 208;refine(Qko _ _ _ (by first|with_reducible exact MO|with_reducible exact CX) (by omega)).mono ?_;rintro e w3 ⟨rfl,rfl⟩;try rw [HD.out]))
  go_ret;exact⟨by rw [HE.out] <;> rfl,yI.out⟩
 have HE:=Qq (show Yc f a b=false by
  unfold Yc;rw [show(check f==0)=false by simpa using hc]
  rfl)
 obtain⟨z,hz⟩:∃z,z=check f:=⟨_,rfl⟩;have HZ:=Qq hz;rw [<-hz]at hc;have zQ:(z==0)=false:=by simpa using hc
 clear hc hz;go_enter Tryz.func185,Tryz.ntmps185;go_wp2_with(go_at_call 41;refine(Vh _ f _ H.out.1).mono ?_;rintro e w1 ⟨rfl,zN⟩;rw [<-HZ.out];have zL:=Qq zN;clear zN);go_ret;exact⟨by rw [HE.out] <;> rfl,zL.out⟩
theorem Qdr(vm v:Value)(md:Md)(f:List Nd)(w:World)(hm:MdV w vm md)(zO:md.ok)(h:Fml w v f):
 Calls Tryz.prog 132 #[vm,v] w fun e w'=>e=.returned (.int .i64 (Zi md f))/\Ext w w':=by
 have HM:=Qq hm;have zD:=Qq zO;have HF:=Qq h;obtain⟨vv,vr,rfl,hv,hr⟩:=hm;obtain⟨Av,cv,rfl,_⟩:=hv;obtain⟨Ar,cr,rfl,_⟩:=hr;obtain⟨c1,xS⟩:∃z,z=Zq md:=⟨_,rfl⟩;have pA:=Qq xS;obtain⟨c2,tO⟩:∃z,z=check f:=⟨_,rfl⟩;have pS:=Qq tO;clear h zO;by_cases h1:c1=0
 ·have hz:=Zn (show Zq md=0 by rw [<-pA.out];exact h1);have uC:=hz.2.2.1;have gK:=hz.2.2.2.1;subst h1;clear hz xS;by_cases h2:c2=0
  ·subst h2;obtain⟨wB,xP⟩:=Mk f;clear wB tO;cases hsb:Js (Jm f) 15
   ·rw [hsb]at xP;have HE:=Qq (show Zi md f=10 by unfold Zi;rw [if_neg (by rw [<-pA.out];simp),if_neg (by rw [<-pS.out];simp),if_pos hsb]);clear hsb;go_enter Tryz.func132,Tryz.ntmps132;go_wp2_with(first|(go_at_call 93;refine(Xs _ md _ (HM.out.ext (by repeat(first|exact Qz|assumption|apply Ext.alloc|apply Ext.drew))) zD.out).mono ?_;rintro e w1 ⟨rfl,zN⟩;rw [<-pA.out];have zL:=Qq (((Ext.refl w).alloc _).trans zN);have xS:w1.cell? ⟨w.heap.size,1,none⟩=some (.slice Av md.val.length cv):=(zN.cell (p:=⟨w.heap.size,1,none⟩) (by simp)).trans (by simp);have tO:w1.cell? ⟨w.heap.size,2,none⟩=some (.slice Ar md.rel.length cr):=(zN.cell (p:=⟨w.heap.size,2,none⟩) (by simp)).trans (by simp);have yT:w.heap.size < w1.heap.size:=Qy (by simp) zN.size;clear zN)|(go_at_call 41;refine(Vh _ f _ (HF.out.ext zL.out).1).mono ?_;rintro e w2 ⟨rfl,zS⟩;rw [<-pS.out];have zR:=Qq (zL.out.trans zS);have qN:=(zS.cell (p:=⟨w.heap.size,1,none⟩) yT).trans xS;have rD:=(zS.cell (p:=⟨w.heap.size,2,none⟩) yT).trans tO;have wZ:=Qy yT zS.size;clear zS)|(go_at_call 55;refine(Na _ f _ (HF.out.ext zR.out)).mono ?_;rintro e w3 ⟨rfl,zI⟩;have zC:=Qq (zR.out.trans zI);have T9:=(zI.cell (p:=⟨w.heap.size,1,none⟩) wZ).trans qN;have T8:=(zI.cell (p:=⟨w.heap.size,2,none⟩) wZ).trans rD;clear zI))
    go_ret;exact⟨by rw [HE.out] <;> rfl,zC.out⟩
   rw [hsb]at xP;cases nI:Yc f md.rel.length md.val.length
   ·have HE:=Qq (show Zi md f=2 by unfold Zi;rw [if_neg (by rw [<-pA.out];simp),if_neg (by rw [<-pS.out];simp),if_neg (by rw [hsb];simp),if_pos nI]);have bT:=Qq nI;clear hsb nI;go_enter Tryz.func132,Tryz.ntmps132;go_wp2_with(first|(go_at_call 93;refine(Xs _ md _ (HM.out.ext (by repeat(first|exact Qz|assumption|apply Ext.alloc|apply Ext.drew))) zD.out).mono ?_;rintro e w1 ⟨rfl,zN⟩;rw [<-pA.out];have zL:=Qq (((Ext.refl w).alloc _).trans zN);have xS:w1.cell? ⟨w.heap.size,1,none⟩=some (.slice Av md.val.length cv):=(zN.cell (p:=⟨w.heap.size,1,none⟩) (by simp)).trans (by simp);have tO:w1.cell? ⟨w.heap.size,2,none⟩=some (.slice Ar md.rel.length cr):=(zN.cell (p:=⟨w.heap.size,2,none⟩) (by simp)).trans (by simp);have yT:w.heap.size < w1.heap.size:=Qy (by simp) zN.size;clear zN)|(go_at_call 41;refine(Vh _ f _ (HF.out.ext zL.out).1).mono ?_;rintro e w2 ⟨rfl,zS⟩;rw [<-pS.out];have zR:=Qq (zL.out.trans zS);have qN:=(zS.cell (p:=⟨w.heap.size,1,none⟩) yT).trans xS;have rD:=(zS.cell (p:=⟨w.heap.size,2,none⟩) yT).trans tO;have wZ:=Qy yT zS.size;clear zS)|(go_at_call 55;refine(Na _ f _ (HF.out.ext zR.out)).mono ?_;rintro e w3 ⟨rfl,zI⟩;have zC:=Qq (zR.out.trans zI);have T9:=(zI.cell (p:=⟨w.heap.size,1,none⟩) wZ).trans qN;have T8:=(zI.cell (p:=⟨w.heap.size,2,none⟩) wZ).trans rD;clear zI)|(go_at_call 185;refine(Qgp _ f md.rel.length md.val.length _ (HF.out.ext zC.out) uC gK).mono ?_;rintro e w4 ⟨rfl,yD⟩;rw [bT.out];have yI:=Qq (zC.out.trans yD);clear yD))
    go_ret;exact⟨by rw [HE.out] <;> rfl,yI.out⟩
   have HE:=Qq (show Zi md f=0 by unfold Zi;rw [if_neg (by rw [<-pA.out];simp),if_neg (by rw [<-pS.out];simp),if_neg (by rw [hsb];simp),if_neg (by rw [nI];simp)]);have bT:=Qq nI;clear hsb nI;go_enter Tryz.func132,Tryz.ntmps132;go_wp2_with(first|(go_at_call 93;refine(Xs _ md _ (HM.out.ext (by repeat(first|exact Qz|assumption|apply Ext.alloc|apply Ext.drew))) zD.out).mono ?_;rintro e w1 ⟨rfl,zN⟩;rw [<-pA.out];have zL:=Qq (((Ext.refl w).alloc _).trans zN);have xS:w1.cell? ⟨w.heap.size,1,none⟩=some (.slice Av md.val.length cv):=(zN.cell (p:=⟨w.heap.size,1,none⟩) (by simp)).trans (by simp);have tO:w1.cell? ⟨w.heap.size,2,none⟩=some (.slice Ar md.rel.length cr):=(zN.cell (p:=⟨w.heap.size,2,none⟩) (by simp)).trans (by simp);have yT:w.heap.size < w1.heap.size:=Qy (by simp) zN.size;clear zN)|(go_at_call 41;refine(Vh _ f _ (HF.out.ext zL.out).1).mono ?_;rintro e w2 ⟨rfl,zS⟩;rw [<-pS.out];have zR:=Qq (zL.out.trans zS);have qN:=(zS.cell (p:=⟨w.heap.size,1,none⟩) yT).trans xS;have rD:=(zS.cell (p:=⟨w.heap.size,2,none⟩) yT).trans tO;have wZ:=Qy yT zS.size;clear zS)|(go_at_call 55;refine(Na _ f _ (HF.out.ext zR.out)).mono ?_;rintro e w3 ⟨rfl,zI⟩;have zC:=Qq (zR.out.trans zI);have T9:=(zI.cell (p:=⟨w.heap.size,1,none⟩) wZ).trans qN;have T8:=(zI.cell (p:=⟨w.heap.size,2,none⟩) wZ).trans rD;clear zI)|(go_at_call 185;refine(Qgp _ f md.rel.length md.val.length _ (HF.out.ext zC.out) uC gK).mono ?_;rintro e w4 ⟨rfl,yD⟩;rw [bT.out];have yI:=Qq (zC.out.trans yD);clear yD))
   go_ret;exact⟨by rw [HE.out] <;> rfl,yI.out⟩
  have zQ:(c2 !=0)=true:=by simpa using h2
  have HE:=Qq (show Zi md f=c2 by unfold Zi;rw [if_neg (by rw [<-pA.out];simp),if_pos (by rw [<-pS.out];exact h2),pS.out]);clear h2 tO;go_enter Tryz.func132,Tryz.ntmps132;go_wp2_with(first|(go_at_call 93;refine(Xs _ md _ (HM.out.ext (by repeat(first|exact Qz|assumption|apply Ext.alloc|apply Ext.drew))) zD.out).mono ?_;rintro e w1 ⟨rfl,zN⟩;rw [<-pA.out];have zL:=Qq (((Ext.refl w).alloc _).trans zN);have xS:w1.cell? ⟨w.heap.size,1,none⟩=some (.slice Av md.val.length cv):=(zN.cell (p:=⟨w.heap.size,1,none⟩) (by simp)).trans (by simp);have tO:w1.cell? ⟨w.heap.size,2,none⟩=some (.slice Ar md.rel.length cr):=(zN.cell (p:=⟨w.heap.size,2,none⟩) (by simp)).trans (by simp);have yT:w.heap.size < w1.heap.size:=Qy (by simp) zN.size;clear zN)|(go_at_call 41;refine(Vh _ f _ (HF.out.ext zL.out).1).mono ?_;rintro e w2 ⟨rfl,zS⟩;rw [<-pS.out];have zR:=Qq (zL.out.trans zS);have qN:=(zS.cell (p:=⟨w.heap.size,1,none⟩) yT).trans xS;have rD:=(zS.cell (p:=⟨w.heap.size,2,none⟩) yT).trans tO;have wZ:=Qy yT zS.size;clear zS))
  go_ret;exact⟨by rw [HE.out] <;> rfl,zR.out⟩
 have zQ:(c1 !=0)=true:=by simpa using h1
 have HE:=Qq (show Zi md f=c1 by unfold Zi;rw [if_pos (by rw [<-pA.out];exact h1),pA.out]);clear h1 xS tO;go_enter Tryz.func132,Tryz.ntmps132;go_wp2_with(go_at_call 93;refine(Xs _ md _ (HM.out.ext (by repeat(first|exact Qz|assumption|apply Ext.alloc|apply Ext.drew))) zD.out).mono ?_;rintro e w1 ⟨rfl,zN⟩;rw [<-pA.out];have zL:=Qq (((Ext.refl w).alloc _).trans zN);have xS:w1.cell? ⟨w.heap.size,1,none⟩=some (.slice Av md.val.length cv):=(zN.cell (p:=⟨w.heap.size,1,none⟩) (by simp)).trans (by simp);have tO:w1.cell? ⟨w.heap.size,2,none⟩=some (.slice Ar md.rel.length cr):=(zN.cell (p:=⟨w.heap.size,2,none⟩) (by simp)).trans (by simp);have yT:w.heap.size < w1.heap.size:=Qy (by simp) zN.size;clear zN)
 go_ret;exact⟨by rw [HE.out] <;> rfl,zL.out⟩
theorem Qwx {md:Md}(zT:Zq md=0) {n:Nd} {x y:Nat}(hx:x < 2^md.n.toNat)(hy:y < 2^md.n.toNat):Vv md n x y < 2^md.n.toNat:=by
 unfold Vv
 split
 ·exact Qr8 zT hx hy
 exact Nat.two_pow_pos _
theorem Qzr {md:Md}(zT:Zq md=0)(f:List Nd):∀k,∀s∈(Jk md f k).1,s < 2^md.n.toNat
 |0,s,h=>by cases h
 |k+1,s,h=>by
  have ih:=Qzr zT f k;have h2:s∈(Jk md f k).1++ [(atP md f (Jk md f k).1 (Jk md f k).2 k).1]:=h;rcases List.mem_append.1 h2 with h2|h2
  ·exact ih s h2
  rw [List.mem_singleton.1 h2];unfold atP
  split
  ·exact Qwx zT (Sb ih (Nat.two_pow_pos _) _) (Sb ih (Nat.two_pow_pos _) _)
  exact Nat.two_pow_pos _
theorem Qqi {md:Md}(zT:Zq md=0)(f:List Nd):Nv md f < 2^md.n.toNat:=Sb (Qzr zT f _) (Nat.two_pow_pos _) _
def Qf9:Prop:=∀(vm v:Value) (md:Md) (f:List Nd) (w:World),MdV w vm md->md.ok->Fml w v f->
 Calls Tryz.prog 62 #[vm,v] w fun e w'=>∃u,e=.returned (.tuple #[u,.int .i64 (Zi md f)])/\Ext w w'/\Hid (Zi md f=0->Jb w' u (Jk md f f.length).1)
theorem Qcr(jP:Qf9)(vm v:Value)(md:Md)(f:List Nd)(w:World)(hm:MdV w vm md)(zO:md.ok)(h:Fml w v f):
 Calls Tryz.prog 21 #[vm,v] w fun e w'=>e=.returned (.tuple #[.int .u64 ((if Zi md f=0 then Nv md f else 0:Nat):Int),.int .i64 (Zi md f)])/\Ext w w':=by
 have HM:=Qq hm;have HF:=Qq h;have HS:=Qq (fun w hm h=>jP vm v md f w hm zO h);obtain⟨vv,vr,rfl,hv,hr⟩:=hm;obtain⟨c1,xS⟩:∃z,z=Zi md f:=⟨_,rfl⟩;have pA:=Qq xS;rw [<-xS]at HS⊢;clear h zO jP hv hr xS;by_cases h1:c1=0
 ·subst h1;obtain⟨_,hc,_,_⟩:=Vr pA.out.symm;have hp:=(Jg hc).1;have zH:=(Ui md f f.length).1;have HH:=Qq (show Nv md f=(Jk md f f.length).1.getD (f.length - 1) 0 from rfl);go_enter Tryz.func21,Tryz.ntmps21;go_wp2_with fail;refine(HS.out _ (HM.out.ext ((Ext.refl w).alloc _)) (HF.out.ext ((Ext.refl w).alloc _))).mono ?_;rintro e w2 ⟨u,rfl,hx,hu⟩;obtain⟨A,c,rfl,_,_,HR⟩:=Vp (hu.out (by trivial));have HX:=Qq (((Ext.refl w).alloc _).trans hx);obtain⟨ad,rfl,zU,sD⟩:=HR.out (f.length - 1) (by rw [zH];omega);rw [zH];rw [<-HH.out]at sD;have G9:=(Jg hc).2.1
  have jI:wrap64 ((f.length:Int) - 1)=((f.length - 1:Nat):Int):=by unfold wrap64;omega
  have RS:((f.length - 1:Nat):Int) < (f.length:Int):=by omega
  have iJ:(f.length:Int) - 1 < (f.length:Int):=by omega
  have eP:((f.length:Int) - 1).toNat=f.length - 1:=by omega
  clear hx hu hc zH;go_wp2_with fail;go_ret2;exact⟨rfl,HX.out⟩
 have zQ:(c1 !=0)=true:=by simpa using h1
 rw [if_neg h1];clear h1;go_enter Tryz.func21,Tryz.ntmps21;go_wp2_with fail;refine(HS.out _ (HM.out.ext ((Ext.refl w).alloc _)) (HF.out.ext ((Ext.refl w).alloc _))).mono ?_;rintro e w2 ⟨u,rfl,hx,hu⟩;have HX:=Qq (((Ext.refl w).alloc _).trans hx);clear hx hu;go_wp2_with fail;go_ret2;exact⟨rfl,HX.out⟩
def szU(md:Md)(f:List Nd)(k:Nat):List Nat:=(Jk md f k).1++List.replicate (f.length - k) 0
def szF(md:Md)(f:List Nd)(k:Nat):List Bool:=(Jk md f k).2++List.replicate (f.length - k) false
section
variable {md:Md} {f:List Nd} {k:Nat}
theorem Zqj(h:k<=f.length):(szU md f k).length=f.length:=by
 unfold szU;rw [List.length_append,List.length_replicate,(Ui md f k).1];omega
theorem Zqq(h:k<=f.length):(szF md f k).length=f.length:=by
 unfold szF;rw [List.length_append,List.length_replicate,(Ui md f k).2];omega
theorem Qx3(i:Nat):(szU md f k).getD i 0=(Jk md f k).1.getD i 0:=by
 unfold szU;rw [Qk,Qk];rcases Nat.lt_or_ge i (Jk md f k).1.length with h|h
 ·rw [List.getElem?_append_left h]
 rw [List.getElem?_append_right h,List.getElem?_replicate,List.getElem?_eq_none h]
 split <;> rfl
theorem Qst(i:Nat):(szF md f k).getD i false=(Jk md f k).2.getD i false:=by
 unfold szF;rw [Qk,Qk];rcases Nat.lt_or_ge i (Jk md f k).2.length with h|h
 ·rw [List.getElem?_append_left h]
 rw [List.getElem?_append_right h,List.getElem?_replicate,List.getElem?_eq_none h]
 split <;> rfl
theorem Qcd {b:Bool} {x:Int}(h:k < f.length)(h1:b=true->0<=x/\x < k)(h2:b=false->x=0):∃ix:Nat,x=(ix:Int)/\ix < f.length:=by
 cases b
 ·exact⟨0,h2 rfl,by omega⟩
 obtain⟨h3,h4⟩:=h1 rfl;exact⟨x.toNat,by omega,by omega⟩
theorem Qe7:szU md f 0=List.replicate f.length 0:=rfl
theorem Qe6:szF md f 0=List.replicate f.length false:=rfl
theorem Zqz:szU md f f.length=(Jk md f f.length).1:=by
 unfold szU;rw [Nat.sub_self];simp
theorem Qsd {α:Type}(l:List α)(n:Nat)(z v:α):(l++List.replicate (n+1) z).set l.length v=l++ [v]++List.replicate n z:=by
 rw [List.set_append_right _ _ (Nat.le_refl _),Nat.sub_self,List.replicate_succ,List.set_cons_zero];simp
theorem Qd7(h:k < f.length):szU md f (k+1)=(szU md f k).set k (atP md f (Jk md f k).1 (Jk md f k).2 k).1:=by
 have h1:=(Ui md f k).1;have h2:=Qsd (Jk md f k).1 (f.length - (k+1)) 0 (atP md f (Jk md f k).1 (Jk md f k).2 k).1;rw [h1,show f.length - (k+1)+1=f.length - k by omega]at h2;exact h2.symm
theorem Qd6(h:k < f.length):szF md f (k+1)=(szF md f k).set k (atP md f (Jk md f k).1 (Jk md f k).2 k).2:=by
 have h1:=(Ui md f k).2;have h2:=Qsd (Jk md f k).2 (f.length - (k+1)) false (atP md f (Jk md f k).1 (Jk md f k).2 k).2;rw [h1,show f.length - (k+1)+1=f.length - k by omega]at h2;exact h2.symm
theorem Qg5 {α:Type} {l:List α} {i:Nat} {z:α}(h:l[i]?=some z):l.set i z=l:=by
 refine List.ext_getElem? fun j=> ?_
 rw [List.getElem?_set];by_cases e:i=j
 ·subst e;rw [if_pos rfl,h];simp [(List.getElem?_eq_some_iff.1 h).1]
 rw [if_neg e]
theorem Zqy(h:k < f.length)(ho:okP (f.getD k Nd.zero) (Jk md f k).2=false):szU md f (k+1)=szU md f k/\szF md f (k+1)=szF md f k:=by
 have e:atP md f (Jk md f k).1 (Jk md f k).2 k=(0,false):=by unfold atP;rw [ho];rfl
 refine⟨?_,?_⟩
 ·rw [Qd7 h,e];refine Qg5 ?_;unfold szU;have h1:=(Ui md f k).1;rw [List.getElem?_append_right (by omega),List.getElem?_replicate,if_pos (by omega)]
 rw [Qd6 h,e];refine Qg5 ?_;unfold szF;have h1:=(Ui md f k).2;rw [List.getElem?_append_right (by omega),List.getElem?_replicate,if_pos (by omega)]
theorem Zy3(h:k < f.length) {n:Nd}(hn:f.getD k Nd.zero=n)(ho:okP n (Jk md f k).2=true):
 szU md f (k+1)=(szU md f k).set k (Vv md n ((szU md f k).getD n.x.toNat 0) ((szU md f k).getD n.y.toNat 0))/\szF md f (k+1)=(szF md f k).set k (Jz md n):=by
 have e:atP md f (Jk md f k).1 (Jk md f k).2 k=(Vv md n ((Jk md f k).1.getD n.x.toNat 0) ((Jk md f k).1.getD n.y.toNat 0),Jz md n):=by unfold atP;rw [hn,ho];rfl
 rw [Qd7 h,Qd6 h,e,Qx3,Qx3];exact⟨rfl,rfl⟩
end
def Fw(base:Nat)(w:World)(g:Nat)(l:List Nat):Prop:=w.ownsRow base 41 1 (.slice (some ⟨g,0,none⟩) l.length l.length) l.length (uV l)
def Ua(base:Nat)(w:World)(g:Nat)(l:List Bool):Prop:=w.ownsRow base 4 1 (.slice (some ⟨g,0,none⟩) l.length l.length) l.length (l.map Value.bool)
section
variable {base:Nat} {w w':World} {g:Nat} {l:List Nat} {m:List Bool}
theorem Fw.cell(h:Fw base w g l) {j:Nat}(hj:j < l.length):w.cell? ⟨g,j,none⟩=some (.int .u64 ((l.getD j 0:Nat):Int)):=by
 rw [World.ownsRow.cellAt h j (by omega)];unfold uV;rw [List.getElem?_map,Qk,Qv hj];rfl
theorem Ua.cell(h:Ua base w g m) {j:Nat}(hj:j < m.length):w.cell? ⟨g,j,none⟩=some (.bool (m.getD j false)):=by
 rw [World.ownsRow.cellAt h j (by omega),List.getElem?_map,Qk,Qv hj];rfl
theorem Fw.frozen(h:Fw base w g l)(j:Nat):w.frozen? ⟨g,j,none⟩=false:=World.ownsRow.frozenAt h j
theorem Ua.frozen(h:Ua base w g m)(j:Nat):w.frozen? ⟨g,j,none⟩=false:=World.ownsRow.frozenAt h j
theorem Fw.lt(h:Fw base w g l):base<=g/\g < w.heap.size:=World.ownsRow.lt h g rfl
theorem Ua.lt(h:Ua base w g m):base<=g/\g < w.heap.size:=World.ownsRow.lt h g rfl
theorem Fw.set(h:Fw base w g l)(j s:Nat):Fw base (w.setCell ⟨g,j,none⟩ (.int .u64 (s:Int))) g (l.set j s)/\w.grownBy (w.setCell ⟨g,j,none⟩ (.int .u64 (s:Int))) (some g):=by
 obtain⟨h1,h2⟩:=World.ownsRow.stored h j (.int .u64 (s:Int));refine⟨?_,h2⟩;unfold Fw uV;unfold uV at h1;rw [List.length_set,List.map_set];exact h1
theorem Ua.set(h:Ua base w g m)(j:Nat)(b:Bool):Ua base (w.setCell ⟨g,j,none⟩ (.bool b)) g (m.set j b)/\w.grownBy (w.setCell ⟨g,j,none⟩ (.bool b)) (some g):=by
 obtain⟨h1,h2⟩:=World.ownsRow.stored h j (.bool b);refine⟨?_,h2⟩;unfold Ua;rw [List.length_set,<-List.map_set]at *;exact h1
theorem Fw.ext(h:Fw base w g l)(he:Ext w w'):Fw base w' g l:=Zf h he
theorem Ua.ext(h:Ua base w g m)(he:Ext w w'):Ua base w' g m:=Zf h he
theorem Fw.kept {r:Nat}(h:Fw base w g l)(hg:w.grownBy w' (some r))(hr:r≠g):Fw base w' g l:=World.ownsRow.kept h hg (.inr fun e=>hr (by injection e with e;exact e.symm))
theorem Ua.kept {r:Nat}(h:Ua base w g m)(hg:w.grownBy w' (some r))(hr:r≠g):Ua base w' g m:=World.ownsRow.kept h hg (.inr fun e=>hr (by injection e with e;exact e.symm))
theorem Fw.u64s(h:Fw base w g l):Jb w (.slice (some ⟨g,0,none⟩) l.length l.length) l:=Zx.u64s h
end
theorem Zqk:(Tryz.prog.info? 4).map (fun i=>(i.zero,i.size,i.bytes))=some (some (.bool false),1,1):=by kernel_rfl
theorem Qly(n:Nat):(madeCells (Value.cells (.int .u64 0)) (n*1)).toList=uV (List.replicate n 0):=by
 unfold uV;simp only [madeCells,Value.cells,Nat.mul_one,Array.toList_map,Array.toList_range,List.map_replicate];refine List.ext_getElem (by simp) fun i h1 h2=> ?_
 simp [Nat.mod_one]
theorem Qn0(n:Nat):(madeCells (Value.cells (.bool false)) (n*1)).toList=(List.replicate n false).map Value.bool:=by
 simp only [madeCells,Value.cells,Nat.mul_one,Array.toList_map,Array.toList_range,List.map_replicate];refine List.ext_getElem (by simp) fun i h1 h2=> ?_
 simp [Nat.mod_one]
theorem Qn1(n:Nat):(madeCells #[.int .u64 0] n).toList=uV (List.replicate n 0):=by
 have:=Qly n;rw [Nat.mul_one]at this;exact this
theorem Qdv(n:Nat):(madeCells #[.bool false] n).toList=(List.replicate n false).map Value.bool:=by
 have:=Qn0 n;rw [Nat.mul_one]at this;exact this
theorem Qd8 {md:Md} {f:List Nd} {k:Nat}(zT:Zq md=0)(hN:md.n.toNat<=64)(i:Nat):Qp ((szU md f k).getD i 0):=by
 rw [Qx3];exact Qy (Sb (Qzr zT f k) (Nat.two_pow_pos _) i) (Ng hN)
theorem Qb8 {n:Nd}(h:Zh n)(ha:11<=n.op)(hb:n.op<=13):1<=n.g:=by
 obtain⟨_,_,h3,_,_⟩:=h;have hg:Zk n.op=true:=by unfold Zk;rw [decide_eq_true ha,decide_eq_true hb];rfl
 unfold Jt at h3;simp only [Qt,hg,Bool.or_eq_false_iff]at h3;simp at h3;omega
theorem Qog {w:World} {b:Nat} {a0 a1 a2 a3 a4 a5:Value} {t:TypeId}(h:w.heap[b]?=some (.cells #[a0,a1,a2,a3,a4,a5] t (0,0))):w.cell? ⟨b,0,none⟩=some a0/\w.cell? ⟨b,1,none⟩=some a1/\w.cell? ⟨b,2,none⟩=some a2/\w.cell? ⟨b,3,none⟩=some a3/\w.cell? ⟨b,4,none⟩=some a4/\w.cell? ⟨b,5,none⟩=some a5/\b < w.heap.size :=
 ⟨by simp [World.cell?,h],by simp [World.cell?,h],by simp [World.cell?,h],by simp [World.cell?,h],by simp [World.cell?,h],by simp [World.cell?,h],Qf h⟩
theorem Qg7:Qf9:=by
 intro vm v md f w hm zO h;have H:=Qq h;have HM:=Qq hm;have zD:=Qq zO;obtain⟨iU,sK,xC,xB,xA⟩:=info_parts De;obtain⟨iB,UG,kD,kC,kB⟩:=info_parts Zqk;obtain⟨vv,vr,rfl,⟨Av,cv,rfl,_⟩,⟨Ar,cr,rfl,_⟩⟩:=hm;obtain⟨⟨A,c,rfl,C6,oE,zM⟩,nI⟩:=h;have uJ:=Qq zM;unfold maxLen at oE;clear zO zM;have zK:=Qq (show Ext w (w.alloc (.cells #[.int .i64 md.n,.slice Av md.val.length cv,.slice Ar md.rel.length cr] 26))from Qz.alloc _);have vV:=Qq (show(w.alloc (.cells #[.int .i64 md.n,.slice Av md.val.length cv,.slice Ar md.rel.length cr] 26)).heap[w.heap.size]?=some (.cells #[.int .i64 md.n,.slice Av md.val.length cv,.slice Ar md.rel.length cr] 26 (0,0))from heap_alloc_new _ _)
 obtain⟨er,vG⟩:∃er,er=Zi md f:=⟨_,rfl⟩;have wU:=Qq vG;rw [<-vG];clear vG nI;by_cases hz:er=0
 ·subst hz;obtain⟨xI,aK,_,_⟩:=Vr wU.out.symm;have tS:=Qq xI;have dH:=Qq aK;obtain⟨vR,yN,uC,gK,_,_,_⟩:=Zn xI;have bO:=Qq (show md.n.toNat<=64 by omega);have iL:=(Jg aK).2.1;clear xI aK vR yN uC gK;go_enter Tryz.func62,Tryz.ntmps62;go_wp2_with fail;refine(Qdr _ _ md f _ (HM.out.ext zK.out) zD.out (H.out.ext zK.out)).mono ?_;rintro e w1 ⟨rfl,zN⟩;rw [<-wU.out];have zL:=Qq (zK.out.trans zN);have wJ:=Qq ((zN.block (Qf vV.out)).trans vV.out);clear zN vV;obtain⟨b,hb⟩:∃b,b=w.heap.size:=⟨_,rfl⟩;rw [<-hb]at wJ⊢;have tB:=Qq (show b < w1.heap.size from Qf wJ.out)
  clear hb;go_wp2_with(refine wpList_make_full _ rfl _ _ 23 rfl w1.heap.size 41 iU (.int .u64 0) 1 Tryz.underlying23 sK xC xB .i64 .i64 _ _ f.length rfl rfl rfl rfl (by rw [xA];omega) (by unfold maxLen;omega) (by simp) ?_);intro W1 uA sC;have FY:=Qq (show Fw w1.heap.size W1 w1.heap.size (szU md f 0) by
   have h1:=uA;rw [Qn1]at h1;unfold Fw;rw [Qe7,List.length_replicate];exact h1)
  have vJ:=Qq (show Ext w1 W1 from(Ext.refl w1).grown sC (fun k e=>by cases e));clear uA sC;go_wp2_with(refine wpList_make_full _ rfl _ _ 89 rfl w1.heap.size 4 iB (.bool false) 1 Tryz.underlying89 UG kD kC .i64 .i64 _ _ f.length rfl rfl rfl rfl (by rw [kB];omega) (by unfold maxLen;omega) vJ.out.size ?_);intro W2 sT NK;have FX:=Qq (show Ua w1.heap.size W2 W1.heap.size (szF md f 0) by
   have h1:=sT;rw [Qdv]at h1;unfold Ua;rw [Qe6,List.length_replicate];exact h1)
  have vI:=Qq (show Ext W1 W2 from(Ext.refl W1).grown NK (fun k e=>by cases e));have VT:=Qq (FY.out.ext vI.out);have H9:=Qq (vJ.out.trans vI.out);have mZ:=Qq (show w1.heap.size≠W1.heap.size by have:=FY.out.lt.2;omega);have YY:=Qq vJ.out.size;clear sT NK FY vJ vI;obtain⟨g,hg⟩:∃g,g=w1.heap.size:=⟨_,rfl⟩;obtain⟨h,hh⟩:∃h,h=W1.heap.size:=⟨_,rfl⟩;rw [<-hh]at FX mZ YY⊢;rw [<-hg]at FX VT mZ YY⊢;have HG:=Qq hg;clear hg hh;go_wp2_with fail;go_loopw [26] (fun vi wr=>∃k:Nat,vi=.int .i64 (k:Int)/\k<=f.length/\Hid (Ext w1 wr/\Fw w1.heap.size wr g (szU md f k)/\Ua w1.heap.size wr h (szF md f k))) (fun v _=>f.length - (intOf v).toNat)
  case atStart=>exact⟨0,rfl,Nat.zero_le _,Qq ⟨H9.out,by rw [<-HG.out];exact VT.out,by rw [<-HG.out];exact FX.out⟩⟩
  case round =>
   obtain⟨k,rfl,hk,zY⟩:=hrel;have HX:=Qq zY.out.1;have HU:=Qq zY.out.2.1;have HF:=Qq zY.out.2.2;have yY:=Qq (zL.out.trans HX.out);clear zY;by_cases hlt2:k < f.length
   ·have yP:(k:Int) < (f.length:Int):=by omega
    obtain⟨n,hn⟩:∃n,f[k]?=some n:=⟨_,Qv hlt2⟩;have lC:=Qq (Qy4 hn);have iN:=Qq (Ym dH.out k n hn);have lE:=Qq (Ni dH.out n (List.mem_of_getElem? hn));obtain⟨ad,rfl,zU,zJ⟩:=uJ.out (by intro e;rw [e]at hlt2;simp at hlt2);obtain⟨c0,c1,c2,c3,c4,c5⟩:=(zJ k n hn).keep fun p hp=>yY.out.cell (p:=p) (by rw [hp,Qr];exact zU)
    have yW:(ad.add (k*6)).block < wr.heap.size:=by rw [Qr];exact Qy zU yY.out.size
    clear hn zJ;obtain⟨ix,mL,vC⟩:∃ix:Nat,n.x=(ix:Int)/\ix < f.length:=Qcd hlt2 iN.out.1 lE.out.2.2.2.1;obtain⟨iy,UE,kF⟩:∃iy:Nat,n.y=(iy:Int)/\iy < f.length:=Qcd hlt2 iN.out.2 lE.out.2.2.2.2;have bQ:=Qq mL;have QB:=Qq UE;rw [mL]at c4;rw [UE]at c5;have LG:(ix:Int) < (f.length:Int):=by omega
    have hyl1:(iy:Int) < (f.length:Int):=by omega
    clear mL UE;obtain⟨op,zV⟩:∃z,z=n.op:=⟨_,rfl⟩;have xU:=Qq zV;rw [<-zV]at c0;clear zV;obtain⟨fx,jK⟩:∃z,z=(szF md f k).getD ix false:=⟨_,rfl⟩;obtain⟨fy,UL⟩:∃z,z=(szF md f k).getD iy false:=⟨_,rfl⟩;obtain⟨sx,tD⟩:∃z,z=(szU md f k).getD ix 0:=⟨_,rfl⟩;obtain⟨sy,TB⟩:∃z,z=(szU md f k).getD iy 0:=⟨_,rfl⟩;have jX:=Qq jK;have sI:=Qq UL;have oX:=Qq tD;have aW:=Qq TB;have KA:=Zqj (md:=md) (f:=f) hk;have KC:=Zqq (md:=md) (f:=f) hk;have PV:=Qq KA;have SI:=Qq KC;have QM:=Qq (HF.out.cell (j:=ix) (by rw [KC];exact vC));have QL:=Qq (HF.out.cell (j:=iy) (by rw [KC];exact kF))
    have OW:=Qq (HU.out.cell (j:=ix) (by rw [KA];exact vC));have OV:=Qq (HU.out.cell (j:=iy) (by rw [KA];exact kF));rw [<-jK]at QM;rw [<-UL]at QL;rw [<-tD]at OW;rw [<-TB]at OV;have fW:=Qq HF.out.lt.2;have WO:=Qq HU.out.lt.2;clear jK UL tD TB KA KC;go_upto_region 10 with(fail);have sZ:=Qq (show Ext wr (wr.alloc (.cells #[.int .i64 op,.int .i64 n.i,.int .i64 n.e,.int .i64 n.g,.int .i64 (ix:Int),.int .i64 (iy:Int)] 71))from(Ext.refl wr).alloc _);have bZ:=Qq (show(wr.alloc (.cells #[.int .i64 op,.int .i64 n.i,.int .i64 n.e,.int .i64 n.g,.int .i64 (ix:Int),.int .i64 (iy:Int)] 71)).heap[wr.heap.size]?=some (.cells #[.int .i64 op,.int .i64 n.i,.int .i64 n.e,.int .i64 n.g,.int .i64 (ix:Int),.int .i64 (iy:Int)] 71 (0,0))from heap_alloc_new _ _)
    obtain⟨W3,gT⟩:∃z,z=wr.alloc (.cells #[.int .i64 op,.int .i64 n.i,.int .i64 n.e,.int .i64 n.g,.int .i64 (ix:Int),.int .i64 (iy:Int)] 71):=⟨_,rfl⟩;rw [<-gT]at sZ bZ⊢;obtain⟨q,hq⟩:∃z,z=wr.heap.size:=⟨_,rfl⟩;rw [<-hq]at bZ⊢;have Z9:=Qq hq;clear gT hq c0 c1 c2 c3 c4 c5 yW;obtain⟨d0,d1,d2,d3,d4,d5,dl⟩:=Qog bZ.out;have x0:=(sZ.out.cell (p:=⟨h,ix,none⟩) fW.out).trans QM.out;have y0:=(sZ.out.cell (p:=⟨h,iy,none⟩) fW.out).trans QL.out;have xl:h < W3.heap.size:=Qy fW.out sZ.out.size;obtain⟨b1,yT⟩:∃z,z=(!decide (4<=op)||fx):=⟨_,rfl⟩;have XB:=Qq yT;clear yT;go_upto_if 33 with(fail)
    go_cut [11] (fun s wx=>s=.bool b1/\wx=W3)
    case first =>
     by_cases h4:4<=op
     ·go_wp2_with fail;go_meet;exact⟨by rw [XB.out,decide_eq_true h4] <;> rfl,rfl⟩
     go_wp2_with fail;go_meet;exact⟨by rw [XB.out,decide_eq_false (by omega)] <;> rfl,rfl⟩
    case rest =>
     obtain⟨rfl,sP⟩:=hcut;obtain rfl:W3=wc:=sP.symm;obtain⟨b2,wZ⟩:∃z,z=((decide (5<=op)&&decide (op<=8))||op==13):=⟨_,rfl⟩;have gF:=Qq wZ;obtain⟨b3,uZ⟩:∃z,z=(b1&&(!b2||fy)):=⟨_,rfl⟩;have cD:=Qq uZ;clear wZ uZ;go_upto_region 12 with(fail);go_cut [51] (fun s wx=>s=.bool b2/\wx=W3)
     case first =>
      by_cases h5:5<=op
      ·by_cases h8:op<=8
       ·go_wp2_with fail;go_meet;exact⟨by rw [gF.out,decide_eq_true h5,decide_eq_true h8] <;> rfl,rfl⟩
       by_cases xK:op=13
       ·have fD:(op==13)=true:=by simpa using xK
        go_wp2_with fail;go_meet;exact⟨by rw [gF.out,fD,Bool.or_true] <;> rfl,rfl⟩
       have fD:(op==13)=false:=by simpa using xK
       clear xK;go_wp2_with fail;go_meet;exact⟨by rw [gF.out,fD,decide_eq_false (show ¬op<=8 by omega),Bool.and_false] <;> rfl,rfl⟩
      have fD:(op==13)=false:=by rw [beq_eq_false_iff_ne];omega
      go_wp2_with fail;go_meet;exact⟨by rw [gF.out,fD,decide_eq_false (show ¬5<=op by omega)] <;> rfl,rfl⟩
     case rest =>
      obtain⟨rfl,sP⟩:=hcut;obtain rfl:W3=wc:=sP.symm;go_upto_if 51 with(fail);go_cut [11] (fun s wx=>s=.bool b3/\wx=W3)
      case first =>
       cases b2
       ·go_wp2_with fail;go_meet;exact⟨by rw [cD.out] <;> simp,rfl⟩
       cases b1
       ·go_wp2_with fail;go_meet;exact⟨by rw [cD.out] <;> rfl,rfl⟩
       go_wp2_with fail;go_meet;exact⟨by rw [cD.out] <;> rfl,rfl⟩
      case rest =>
       obtain⟨rfl,sP⟩:=hcut;obtain rfl:W3=wc:=sP.symm;have bL:=Qq (show okP n (Jk md f k).2=b3 by
        unfold okP;rw [cD.out,XB.out,gF.out,jX.out,sI.out,bQ.out,QB.out,<-xU.out,Qst,Qst]
        rfl)
       cases b3
       ·obtain⟨wB,xP⟩:=Zqy (md:=md) hlt2 (by rw [lC.out];exact bL.out);have gW:=Qq wB;have xE:=Qq xP;clear wB xP;go_wp2_with fail;go_roundw
        case rel=>exact⟨k+1,by go_num,by omega,Qq ⟨HX.out.trans sZ.out,by rw [gW.out];exact HU.out.ext sZ.out,by rw [xE.out];exact HF.out.ext sZ.out⟩⟩
        case measure=>simp [intOf];omega
       obtain⟨wB,xP⟩:=Zy3 (md:=md) hlt2 lC.out bL.out;have gW:=Qq wB;have xE:=Qq xP;clear wB xP;go_upto_region 15 with(fail);obtain⟨e0,e1,e2,eb⟩:=Qz2 (((HX.out.trans sZ.out).block tB.out).trans wJ.out);have u0:=(sZ.out.cell (p:=⟨g,ix,none⟩) WO.out).trans OW.out;have v0:=(sZ.out.cell (p:=⟨g,iy,none⟩) WO.out).trans OV.out;have gl:g < W3.heap.size:=Qy WO.out sZ.out.size;have cV:=Qq (HU.out.ext sZ.out);have lH:=Qq (HF.out.ext sZ.out);have OZ:=Qq (show Qp sx by rw [oX.out];exact Qd8 tS.out bO.out ix);have OY:=Qq (show Qp sy by rw [aW.out];exact Qd8 tS.out bO.out iy)
       have jU:=Qq (show b≠g by have h1:=tB.out;have h2:=HG.out;omega);have fP:=Qq (show b≠h by have h1:=tB.out;have h2:=HG.out;have h3:=YY.out;omega);have gX:=Qq (show q≠g by have h1:=Z9.out;have h2:=WO.out;omega);have K6:=Qq (show q≠h by have h1:=Z9.out;have h2:=fW.out;omega);have QH:=Qq (show g≠h from fun e=>mZ.out (by rw [<-e]));have QG:=Qq (show h≠g from fun e=>mZ.out (by rw [e]));clear x0 y0 xl;refine Yd 23 (fun w'=>w'.cell? (⟨b,0,none⟩)=some (.int .i64 md.n)/\w'.cell? (⟨b,1,none⟩)=some (.slice Av md.val.length cv)/\w'.cell? (⟨b,2,none⟩)=some (.slice Ar md.rel.length cr)/\w'.cell? (⟨q,0,none⟩)=some (.int .i64 op)/\w'.cell? (⟨q,1,none⟩)=some (.int .i64 n.i)/\w'.cell? (⟨q,2,none⟩)=some (.int .i64 n.e)/\w'.cell? (⟨q,3,none⟩)=some (.int .i64 n.g)/\w'.cell? (⟨q,4,none⟩)=some (.int .i64 (ix:Int))/\w'.cell? (⟨q,5,none⟩)=some (.int .i64 (iy:Int))) (by kernel_rfl) ⟨xd eb e0,xd eb e1,xd eb e2,xd dl d0,xd dl d1,xd dl d2,xd dl d3,xd dl d4,xd dl d5⟩ (fun zZ=> ?_)
       refine utk 0 zZ ?_;refine utk 1 zZ ?_;refine utk 2 zZ ?_;refine utk 3 zZ ?_;refine utk 4 zZ ?_;refine utk 5 zZ ?_;refine utk 6 zZ ?_;refine utk 7 zZ ?_;refine utk 8 zZ ?_;refine utk 9 zZ ?_;refine utk 11 zZ ?_;refine utk 12 zZ ?_;refine utk 13 zZ ?_;refine utk 14 zZ ?_;refine Qa (rs:= [10,15]) (by kernel_rfl) (by simp) ?_;refine Zj.cons rfl (fun K hK=> ?_) (Zj.cons rfl (fun K hK=> ?_) Zj.nil)
       ·skip
        go_simp;refine hK.out _ _ ⟨xd eb e0,xd eb e1,xd eb e2,xd dl d0,xd dl d1,xd dl d2,xd dl d3,xd dl d4,xd dl d5⟩ (fun zZ=> ?_);clear hK K;refine Qb ?_;refine Qa (rs:= [15]) (by kernel_rfl) (by simp) ?_;refine Zj.cons rfl (fun K hK=> ?_) Zj.nil;go_simp;refine hK.out _ _ ⟨xd eb e0,xd eb e1,xd eb e2,xd dl d0,xd dl d1,xd dl d2,xd dl d3,xd dl d4,xd dl d5⟩ (fun zZ=> ?_);clear hK K;refine Qb ?_;refine Qa (rs:= [16]) (by kernel_rfl) (by simp) ?_;refine Zj.cons rfl (fun K hK=> ?_) Zj.nil;go_simp;have h1:=Qds (.agg #[.int .i64 md.n,.slice Av md.val.length cv,.slice Ar md.rel.length cr]) md n sx sy W3.drew (HM.out.ext ((yY.out.trans sZ.out).trans (Qz.drew))) zD.out tS.out lE.out OZ.out OY.out (fun ha hb=>(Qb8 lE.out ha hb))
        unfold Nd.val at h1;obtain⟨ov,oB⟩:∃o,o=Vv md n sx sy:=⟨_,rfl⟩;obtain⟨fv,UM⟩:∃o,o=Jz md n:=⟨_,rfl⟩;have bI:=Qq oB;have IT:=Qq UM;rw [<-oB,<-UM,<-xU.out,bQ.out,QB.out]at h1;clear oB UM;refine h1.mono ?_;clear h1;rintro e w5 ⟨rfl,yV⟩;have xF:Ext W3 w5:=Ext.trans (Qz.drew) yV;have yE:=Qq xF;have iO:=Qq (cV.out.ext xF);have QO:=Qq (lH.out.ext xF);have cg:=iO.out.cell (j:=k) (by rw [PV.out];exact hlt2);have fg:=iO.out.frozen k;clear yV;go_wp2_with fail;refine hK.out _ _ ⟨xd eb e0,xd eb e1,xd eb e2,xd dl d0,xd dl d1,xd dl d2,xd dl d3,xd dl d4,xd dl d5⟩ (fun zZ=> ?_);clear hK K
        refine Qb ?_;refine utk 17 zZ ?_;refine utk 18 zZ ?_;refine utk 19 zZ ?_;refine utk 20 zZ ?_;refine Qa (rs:= [21]) (by kernel_rfl) (by simp) ?_;refine Zj.cons rfl (fun K hK=> ?_) Zj.nil;go_simp;obtain⟨fG,fF⟩:=iO.out.set k ov;have FV:=Qq fG;have dG:=Qq (QO.out.kept fF QH.out);have ch:=dG.out.cell (j:=k) (by rw [SI.out];exact hlt2);have fh:=dG.out.frozen k;have pV:=Qq (((HX.out.trans sZ.out).trans yE.out).setCell (p:=⟨g,k,none⟩) (by have h2:=HG.out;show w1.heap.size<=g;omega) (.int .u64 (ov:Int)));clear fG fF;refine hK.out _ _ ⟨(World.cell?_of_block (a:=⟨b,0,none⟩) (Below.heap_setCell _ _ _ _ jU.out)).trans ((yE.out.cell (p:=⟨b,0,none⟩) eb).trans e0),(World.cell?_of_block (a:=⟨b,1,none⟩) (Below.heap_setCell _ _ _ _ jU.out)).trans ((yE.out.cell (p:=⟨b,1,none⟩) eb).trans e1),(World.cell?_of_block (a:=⟨b,2,none⟩) (Below.heap_setCell _ _ _ _ jU.out)).trans ((yE.out.cell (p:=⟨b,2,none⟩) eb).trans e2),(World.cell?_of_block (a:=⟨q,0,none⟩) (Below.heap_setCell _ _ _ _ gX.out)).trans ((yE.out.cell (p:=⟨q,0,none⟩) dl).trans d0),(World.cell?_of_block (a:=⟨q,1,none⟩) (Below.heap_setCell _ _ _ _ gX.out)).trans ((yE.out.cell (p:=⟨q,1,none⟩) dl).trans d1),(World.cell?_of_block (a:=⟨q,2,none⟩) (Below.heap_setCell _ _ _ _ gX.out)).trans ((yE.out.cell (p:=⟨q,2,none⟩) dl).trans d2),(World.cell?_of_block (a:=⟨q,3,none⟩) (Below.heap_setCell _ _ _ _ gX.out)).trans ((yE.out.cell (p:=⟨q,3,none⟩) dl).trans d3),(World.cell?_of_block (a:=⟨q,4,none⟩) (Below.heap_setCell _ _ _ _ gX.out)).trans ((yE.out.cell (p:=⟨q,4,none⟩) dl).trans d4),(World.cell?_of_block (a:=⟨q,5,none⟩) (Below.heap_setCell _ _ _ _ gX.out)).trans ((yE.out.cell (p:=⟨q,5,none⟩) dl).trans d5)⟩ (fun zZ=> ?_)
        clear hK K;refine Qb ?_;refine utk 22 zZ ?_;refine Yt (by kernel_rfl) rfl (fun K hK=> ?_);go_simp;refine hK.out _ _ ?_;clear hK K;refine Qb ?_;refine Ys (by kernel_rfl) ?_ _;obtain⟨fY,fX⟩:=dG.out.set k fv;have VW:=Qq (show szU md f (k+1)=(szU md f k).set k ov by rw [gW.out,bI.out,oX.out,aW.out,bQ.out,QB.out];rfl);have VV:=Qq (show szF md f (k+1)=(szF md f k).set k fv by rw [xE.out,IT.out]);have SL:=Qq fY;have FU:=Qq (FV.out.kept fX QG.out);have rS:=Qq (pV.out.setCell (p:=⟨h,k,none⟩) (by have h2:=HG.out;have h3:=YY.out;show w1.heap.size<=h;omega) (.bool fv))
        clear fY fX;go_wp2_with fail;go_roundw
        case rel=>exact⟨k+1,by go_num,by omega,Qq ⟨rS.out,by rw [VW.out];exact FU.out,by rw [VV.out];exact SL.out⟩⟩
        case measure=>simp [intOf];omega
       skip
       go_simp;refine hK.out _ _ ⟨xd eb e0,xd eb e1,xd eb e2,xd dl d0,xd dl d1,xd dl d2,xd dl d3,xd dl d4,xd dl d5⟩ (fun zZ=> ?_);clear hK K;refine Qb ?_;refine Qa (rs:= [10]) (by kernel_rfl) (by simp) ?_;refine Zj.cons rfl (fun K hK=> ?_) Zj.nil;go_simp;refine hK.out _ _ ⟨xd eb e0,xd eb e1,xd eb e2,xd dl d0,xd dl d1,xd dl d2,xd dl d3,xd dl d4,xd dl d5⟩ (fun zZ=> ?_);clear hK K;refine Qb ?_;refine Qa (rs:= [16]) (by kernel_rfl) (by simp) ?_;refine Zj.cons rfl (fun K hK=> ?_) Zj.nil;go_simp;have h1:=Qds (.agg #[.int .i64 md.n,.slice Av md.val.length cv,.slice Ar md.rel.length cr]) md n sx sy W3.drew (HM.out.ext ((yY.out.trans sZ.out).trans (Qz.drew))) zD.out tS.out lE.out OZ.out OY.out (fun ha hb=>(Qb8 lE.out ha hb))
       unfold Nd.val at h1;obtain⟨ov,oB⟩:∃o,o=Vv md n sx sy:=⟨_,rfl⟩;obtain⟨fv,UM⟩:∃o,o=Jz md n:=⟨_,rfl⟩;have bI:=Qq oB;have IT:=Qq UM;rw [<-oB,<-UM,<-xU.out,bQ.out,QB.out]at h1;clear oB UM;refine h1.mono ?_;clear h1;rintro e w5 ⟨rfl,yV⟩;have xF:Ext W3 w5:=Ext.trans (Qz.drew) yV;have yE:=Qq xF;have iO:=Qq (cV.out.ext xF);have QO:=Qq (lH.out.ext xF);have cg:=iO.out.cell (j:=k) (by rw [PV.out];exact hlt2);have fg:=iO.out.frozen k;clear yV;go_wp2_with fail;refine hK.out _ _ ⟨xd eb e0,xd eb e1,xd eb e2,xd dl d0,xd dl d1,xd dl d2,xd dl d3,xd dl d4,xd dl d5⟩ (fun zZ=> ?_);clear hK K
       refine Qb ?_;refine utk 17 zZ ?_;refine utk 18 zZ ?_;refine utk 19 zZ ?_;refine utk 20 zZ ?_;refine Qa (rs:= [21]) (by kernel_rfl) (by simp) ?_;refine Zj.cons rfl (fun K hK=> ?_) Zj.nil;go_simp;obtain⟨fG,fF⟩:=iO.out.set k ov;have FV:=Qq fG;have dG:=Qq (QO.out.kept fF QH.out);have ch:=dG.out.cell (j:=k) (by rw [SI.out];exact hlt2);have fh:=dG.out.frozen k;have pV:=Qq (((HX.out.trans sZ.out).trans yE.out).setCell (p:=⟨g,k,none⟩) (by have h2:=HG.out;show w1.heap.size<=g;omega) (.int .u64 (ov:Int)));clear fG fF;refine hK.out _ _ ⟨(World.cell?_of_block (a:=⟨b,0,none⟩) (Below.heap_setCell _ _ _ _ jU.out)).trans ((yE.out.cell (p:=⟨b,0,none⟩) eb).trans e0),(World.cell?_of_block (a:=⟨b,1,none⟩) (Below.heap_setCell _ _ _ _ jU.out)).trans ((yE.out.cell (p:=⟨b,1,none⟩) eb).trans e1),(World.cell?_of_block (a:=⟨b,2,none⟩) (Below.heap_setCell _ _ _ _ jU.out)).trans ((yE.out.cell (p:=⟨b,2,none⟩) eb).trans e2),(World.cell?_of_block (a:=⟨q,0,none⟩) (Below.heap_setCell _ _ _ _ gX.out)).trans ((yE.out.cell (p:=⟨q,0,none⟩) dl).trans d0),(World.cell?_of_block (a:=⟨q,1,none⟩) (Below.heap_setCell _ _ _ _ gX.out)).trans ((yE.out.cell (p:=⟨q,1,none⟩) dl).trans d1),(World.cell?_of_block (a:=⟨q,2,none⟩) (Below.heap_setCell _ _ _ _ gX.out)).trans ((yE.out.cell (p:=⟨q,2,none⟩) dl).trans d2),(World.cell?_of_block (a:=⟨q,3,none⟩) (Below.heap_setCell _ _ _ _ gX.out)).trans ((yE.out.cell (p:=⟨q,3,none⟩) dl).trans d3),(World.cell?_of_block (a:=⟨q,4,none⟩) (Below.heap_setCell _ _ _ _ gX.out)).trans ((yE.out.cell (p:=⟨q,4,none⟩) dl).trans d4),(World.cell?_of_block (a:=⟨q,5,none⟩) (Below.heap_setCell _ _ _ _ gX.out)).trans ((yE.out.cell (p:=⟨q,5,none⟩) dl).trans d5)⟩ (fun zZ=> ?_)
       clear hK K;refine Qb ?_;refine utk 22 zZ ?_;refine Yt (by kernel_rfl) rfl (fun K hK=> ?_);go_simp;refine hK.out _ _ ?_;clear hK K;refine Qb ?_;refine Ys (by kernel_rfl) ?_ _;obtain⟨fY,fX⟩:=dG.out.set k fv;have VW:=Qq (show szU md f (k+1)=(szU md f k).set k ov by rw [gW.out,bI.out,oX.out,aW.out,bQ.out,QB.out];rfl);have VV:=Qq (show szF md f (k+1)=(szF md f k).set k fv by rw [xE.out,IT.out]);have SL:=Qq fY;have FU:=Qq (FV.out.kept fX QG.out);have rS:=Qq (pV.out.setCell (p:=⟨h,k,none⟩) (by have h2:=HG.out;have h3:=YY.out;show w1.heap.size<=h;omega) (.bool fv))
       clear fY fX;go_wp2_with fail;go_roundw
       case rel=>exact⟨k+1,by go_num,by omega,Qq ⟨rS.out,by rw [VW.out];exact FU.out,by rw [VV.out];exact SL.out⟩⟩
       case measure=>simp [intOf];omega
   obtain rfl:f.length=k:=by omega
   go_wp2_with fail;go_ret2;exact⟨_,rfl,yY.out,Qq fun _=>by have h1:=HU.out.u64s;rw [Zqz,(Ui md f f.length).1]at h1;exact h1⟩
 have sJ:(er==0)=false:=by rw [beq_eq_false_iff_ne];exact hz
 have HZ:=Qq hz;clear hz;go_enter Tryz.func62,Tryz.ntmps62;go_wp2_with fail;refine(Qdr _ _ md f _ (HM.out.ext zK.out) zD.out (H.out.ext zK.out)).mono ?_;rintro e w1 ⟨rfl,zN⟩;rw [<-wU.out];have zL:=Qq (zK.out.trans zN);clear zN;go_wp2_with fail;go_ret2;exact⟨_,rfl,zL.out,Qq fun e=>absurd e HZ.out⟩
end Go.Proofs.YtkmclcmnoicagaaGreatDoor
