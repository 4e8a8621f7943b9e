/- The program's checker: the worlds at which a node holds. -/
import Derived.Test.YtkmclcmnoicagaaGreatDoorM01
import Derived.Test.YtkmclcmnoicagaaGreatDoorM13
import Derived.Test.YtkmclcmnoicagaaGreatDoorM21
namespace Go.Proofs.YtkmclcmnoicagaaGreatDoor
set_option maxRecDepth 100000
set_option maxHeartbeats 128000000
open Go.RowKit
theorem wrap_i64 {k:Nat}(h:k<=4):IntKind.i64.wrap ((2:Int)^k)=((2^k:Nat):Int):=by
 have e:∀k:Fin 5,IntKind.i64.wrap ((2:Int)^k.val)=((2^k.val:Nat):Int):=by decide+kernel
 exact e ⟨k,by omega⟩
theorem Qa3 {w:World} {b:Nat} {a0 a1 a2 a3 a4 a5:Value} {t:TypeId}(h:w.heap[b]?=some (.cells #[a0,a1,a2,a3,a4,a5] t (0,0))):w.cell? ⟨b,0,none⟩=some a0/\w.cell? ⟨b,1,none⟩=some a1/\w.cell? ⟨b,3,none⟩=some a3/\b < w.heap.size :=
 ⟨by simp [World.cell?,h],by simp [World.cell?,h],by simp [World.cell?,h],Qf h⟩
theorem Qf9(vm:Value)(md:Md)(n:Nd)(x y:Nat)(w:World)(hm:MdV w vm md)(hok:md.ok)(hck:Zj md=0)(hh:Zp n)(hx:Qw x)(hy:Qw y)(hg1:11<=n.op->n.op<=13->1<=n.g):
 Calls Tryz.prog 133 #[vm,n.val,.int .u64 (x:Int),.int .u64 (y:Int)] w fun e w'=>e=.returned (.tuple #[.int .u64 ((Vq md n x y:Nat):Int),.bool (Zw md n)])/\Ext w w':=by
 obtain⟨hn1,hn64,hr4,hv8,hrl0,_,_⟩:=Zv hck;have hlow:=Qn3 hck;obtain⟨N,hNN⟩:=Int.eq_ofNat_of_zero_le (show 0<=md.n by omega);have hNt:md.n.toNat=N:=by rw [hNN];exact Int.toNat_natCast N
 have HM:=Qq hm;have HOK:=Qq hok;have HCK:=Qq hck;have HH:=Qq hh;have HXW:=Qq hx;have HYW:=Qq hy;obtain⟨vv,vr,rfl,hv,hr⟩:=hm;obtain⟨Av,cv,rfl,_,_,HV⟩:=Gy hv;obtain⟨Ar,cr,rfl,_,_,HR⟩:=Bq hr;have hN64:N<=64:=by omega
 have hN1:1<=N:=by omega
 have HO1:=Qq (show Qyq md n x y=if n.op=3 then md.val.getD n.i.toNat 0 else if n.op<=8 then Sf n.op x y (Zx N)
  else if n.op=9 then Kr (md.rel.getD n.i.toNat []) N x
  else if n.op=10 then Jz (Zx N) (Kr (md.rel.getD n.i.toNat []) N (Jz (Zx N) x))
  else if n.op=11 then Kr ((List.range N).map (Vw md.rel n.g.toNat false N)) N x
  else if n.op=12 then Kr ((List.range N).map (Vw md.rel n.g.toNat true N)) N x
  else Gm ((List.range N).map (Vw md.rel n.g.toNat false N)) N x y by unfold Qyq;rw [hNt])
 have HRL:=Qq (show ∀r∈md.rel,r.length=N from fun r hr=>by have:=hrl0 r hr;omega);have HLOW:=Qq (show ∀r∈md.rel,∀s∈r,s < 2^N by rw [hNt]at hlow;exact hlow);have HGL:=Qq (show ∀gn b,∀s∈(List.range N).map (Vw md.rel gn b N),s < 2^N from fun gn b s hs=>by
  obtain⟨i,_,rfl⟩:=List.mem_map.1 hs;exact Qes HLOW.out)
 have HGW:=Qq (show ∀gn b,∀s∈(List.range N).map (Vw md.rel gn b N),Qw s from fun gn b s hs=>Qy (HGL.out gn b s hs) (Sc hN64));have HGC:=Qq (show ∀gn b,Vz ((List.range N).map (Vw md.rel gn b N)).length ((List.range N).map (Vw md.rel gn b N))=0 from fun gn b=>Mk (by simp) hN64 (HGL.out gn b));have HNN:=Qq hNN;have HNT:=Qq hNt;have HALL:=Qq (Qd7 hN64);have HALW:=Qq (Xo hN64);have hopb:=(Tf n.op).1 hh.1;have HG1:=Qq hg1;rw [hNN]at HM⊢;unfold Nd.val;clear hok hck hh hx hy hv hr hn1 hn64 hrl0 hNN hNt hlow hg1;obtain⟨W0,hW0⟩:∃W,W=(w.alloc (.cells #[.int .i64 (N:Int),.slice Av md.val.length cv,.slice Ar md.rel.length cr] 26)).alloc (.cells #[.int .i64 n.op,.int .i64 n.i,.int .i64 n.e,.int .i64 n.g,.int .i64 n.x,.int .i64 n.y] 71):=⟨_,rfl⟩
 have HX0:=Qq (show Ext w W0 by rw [hW0];exact(Qz.alloc _).alloc _);obtain⟨b,hb⟩:∃b,b=w.heap.size:=⟨_,rfl⟩;have HBM:=Qq (show W0.heap[b]?=some (.cells #[.int .i64 (N:Int),.slice Av md.val.length cv,.slice Ar md.rel.length cr] 26 (0,0)) by rw [hW0,hb];exact((Qz.alloc _).block (by simp)).trans (heap_alloc_new _ _));have HBN:=Qq (show W0.heap[b+1]?=some (.cells #[.int .i64 n.op,.int .i64 n.i,.int .i64 n.e,.int .i64 n.g,.int .i64 n.x,.int .i64 n.y] 71 (0,0)) by
  have h1:=heap_alloc_new (w.alloc (.cells #[.int .i64 (N:Int),.slice Av md.val.length cv,.slice Ar md.rel.length cr] 26)) (.cells #[.int .i64 n.op,.int .i64 n.i,.int .i64 n.e,.int .i64 n.g,.int .i64 n.x,.int .i64 n.y] 71);rw [hW0,hb]
  simpa using h1)
 obtain⟨e0,e1,e2,eb⟩:=Qqp HBM.out;obtain⟨c0,c1,c3,cb⟩:=Qa3 HBN.out;go_enter Tryz.func133,Tryz.ntmps133;go_upto_region 2 with(fail);rw [<-hW0,<-hb,HALL.out];clear hW0 hb;obtain⟨al,hal⟩:∃a,a=Zx N:=⟨_,rfl⟩;have HAL:=Qq hal;rw [<-hal]at HALW⊢;clear hal;obtain⟨op,hop⟩:∃z,z=n.op:=⟨_,rfl⟩;have HOP:=Qq hop;rw [<-hop]at c0 hopb;clear hop;have hops:op=1\/op=2\/op=3\/op=4\/op=5\/op=6\/op=7\/op=8\/op=9\/op=10\/op=11\/op=12\/op=13\/14<=op:=by omega
 rcases hops with rfl|rfl|rfl|rfl|rfl|rfl|rfl|rfl|rfl|rfl|rfl|rfl|rfl|h14
 ·have HF:=Qq (show Zw md n=true by unfold Zw;rw [<-HOP.out];rfl);have HE:=Qq (show Vq md n x y=al by unfold Vq;first|(rw [if_pos HF.out,HO1.out,<-HOP.out,HAL.out];rfl)|(rw [if_pos HF.out,HO1.out,<-HOP.out];rfl));clear hopb;go_wp2_with fail;go_ret2;exact⟨by rw [HE.out,HF.out] <;> rfl,HX0.out⟩
 ·have HF:=Qq (show Zw md n=true by unfold Zw;rw [<-HOP.out];rfl);have HE:=Qq (show Vq md n x y=0 by unfold Vq;first|(rw [if_pos HF.out,HO1.out,<-HOP.out,HAL.out];rfl)|(rw [if_pos HF.out,HO1.out,<-HOP.out];rfl));clear hopb;go_wp2_with fail;go_ret2;exact⟨by rw [HE.out,HF.out] <;> rfl,HX0.out⟩
 ·obtain⟨h0,h8⟩:=Dx HH.out HOP.out.symm;obtain⟨k,hk⟩:=Int.eq_ofNat_of_zero_le h0;rw [hk]at c1;by_cases hkl:k < md.val.length
  ·have HF:=Qq (show Zw md n=true by unfold Zw;rw [<-HOP.out,if_pos rfl,hk];exact decide_eq_true (by omega));have HE:=Qq (show Vq md n x y=md.val.getD k 0 by unfold Vq;rw [if_pos HF.out,HO1.out,if_pos HOP.out.symm,hk];rfl);have hk1:¬(md.val.length:Int)<=(k:Int):=by omega
   have hk2:(k:Int) < (md.val.length:Int):=by omega
   obtain⟨ad,rfl,hadl,hc⟩:=HV.out k hkl;have a0:=(HX0.out.cell (p:=ad.add k) (Qj hadl)).trans hc;have al2:(ad.add k).block < W0.heap.size:=by rw [Qc];exact Qy hadl HX0.out.size
   obtain⟨z,hz⟩:∃z,z=md.val.getD k 0:=⟨_,rfl⟩;rw [<-hz]at a0 HE;clear h0 h8 hk hc hopb hz;go_wp2_with fail;go_ret2;exact⟨by rw [HE.out,HF.out] <;> rfl,HX0.out⟩
  have HF:=Qq (show Zw md n=false by unfold Zw;rw [<-HOP.out,if_pos rfl,hk];exact decide_eq_false (by omega));have HE:=Qq (show Vq md n x y=0 by unfold Vq;rw [HF.out];rfl);have hk1:(md.val.length:Int)<=(k:Int):=by omega
  clear h0 h8 hk hkl hopb;go_wp2_with fail;go_ret2;exact⟨by rw [HE.out,HF.out] <;> rfl,HX0.out⟩
 ·have HF:=Qq (show Zw md n=true by unfold Zw;rw [<-HOP.out];rfl);have HE:=Qq (show Vq md n x y=Jz al x by unfold Vq;first|(rw [if_pos HF.out,HO1.out,<-HOP.out,HAL.out];rfl)|(rw [if_pos HF.out,HO1.out,<-HOP.out];rfl));have b1:=Vi HALW.out HXW.out;clear hopb;go_wp2_with fail;go_ret2;exact⟨by rw [HE.out,HF.out] <;> rfl,HX0.out⟩
 ·have HF:=Qq (show Zw md n=true by unfold Zw;rw [<-HOP.out];rfl);have HE:=Qq (show Vq md n x y=x&&&y by unfold Vq;first|(rw [if_pos HF.out,HO1.out,<-HOP.out,HAL.out];rfl)|(rw [if_pos HF.out,HO1.out,<-HOP.out];rfl));have b1:=Ud HXW.out HYW.out;clear hopb;go_wp2_with fail;go_ret2;exact⟨by rw [HE.out,HF.out] <;> rfl,HX0.out⟩
 ·have HF:=Qq (show Zw md n=true by unfold Zw;rw [<-HOP.out];rfl);have HE:=Qq (show Vq md n x y=x|||y by unfold Vq;first|(rw [if_pos HF.out,HO1.out,<-HOP.out,HAL.out];rfl)|(rw [if_pos HF.out,HO1.out,<-HOP.out];rfl));have b1:=Bk HXW.out HYW.out;clear hopb;go_wp2_with fail;go_ret2;exact⟨by rw [HE.out,HF.out] <;> rfl,HX0.out⟩
 ·have HF:=Qq (show Zw md n=true by unfold Zw;rw [<-HOP.out];rfl);have HE:=Qq (show Vq md n x y=Jz al x|||y by unfold Vq;first|(rw [if_pos HF.out,HO1.out,<-HOP.out,HAL.out];rfl)|(rw [if_pos HF.out,HO1.out,<-HOP.out];rfl));have b1:=Vi HALW.out HXW.out;have b2:=Bk (a:=Jz al x) (b:=y) (Si HALW.out) HYW.out;clear hopb;go_wp2_with fail;go_ret2;exact⟨by rw [HE.out,HF.out] <;> rfl,HX0.out⟩
 ·have HF:=Qq (show Zw md n=true by unfold Zw;rw [<-HOP.out];rfl);have HE:=Qq (show Vq md n x y=Jz al (x^^^y) by unfold Vq;first|(rw [if_pos HF.out,HO1.out,<-HOP.out,HAL.out];rfl)|(rw [if_pos HF.out,HO1.out,<-HOP.out];rfl));have b1:=Qg3 HXW.out HYW.out;have b2:=Vi (a:=al) (b:=x^^^y) HALW.out (Qb1 HXW.out HYW.out);clear hopb;go_wp2_with fail;go_ret2;exact⟨by rw [HE.out,HF.out] <;> rfl,HX0.out⟩
 ·obtain⟨h0,h4⟩:=Gg HH.out (by rw [<-HOP.out];rfl);obtain⟨k,hk⟩:=Int.eq_ofNat_of_zero_le h0;rw [hk]at c1;by_cases hkl:k < md.rel.length
  ·have HF:=Qq (show Zw md n=true by unfold Zw;rw [<-HOP.out,if_neg (by decide),if_neg (by decide),if_pos (by decide),hk];exact decide_eq_true (by omega));have HE:=Qq (show Vq md n x y=Kr (md.rel.getD k []) N x by unfold Vq;rw [if_pos HF.out,HO1.out,<-HOP.out,hk];rfl);have hk1:¬(md.rel.length:Int)<=(k:Int):=by omega
   have hk2:(k:Int) < (md.rel.length:Int):=by omega
   obtain⟨ad,u,rfl,hadl,hcl,hu⟩:=HR.out k hkl;have hmem:md.rel.getD k []∈md.rel:=by rw [Qk,Qv hkl];exact List.getElem_mem hkl
   have hrlen:=HRL.out _ hmem;have HCR:=Qq (Mk hrlen hN64 (HLOW.out _ hmem));have HLR:=Qq (Qyk hrlen (List.any_eq_false.2 fun s hs=>by simpa using HLOW.out _ hmem s hs));have HEB:=Qq (show Bm (md.rel.getD k []) x=Kr (md.rel.getD k []) N x by unfold Bm;rw [if_pos HCR.out,hrlen]);have HRW:=Qq (HOK.out.rel _ hmem);have HU:=Qq (hu.ext HX0.out);have a0:=(HX0.out.cell (p:=ad.add k) (Qj hadl)).trans hcl;have al2:(ad.add k).block < W0.heap.size:=by rw [Qc];exact Qy hadl HX0.out.size
   obtain⟨r,hr⟩:∃r,r=md.rel.getD k []:=⟨_,rfl⟩;rw [<-hr]at HE HEB HRW HU;clear h0 h4 hk hcl hopb hu hmem hrlen hr;go_wp2_with(go_at_call 186;refine(Tt _ r x _ HU.out HRW.out HXW.out).mono ?_;rintro e w5 ⟨rfl,hx5⟩;have HX5:=Qq (HX0.out.trans hx5);clear hx5);go_ret2;exact⟨by rw [HE.out,HF.out,<-HEB.out] <;> rfl,HX5.out⟩
  have HF:=Qq (show Zw md n=false by unfold Zw;rw [<-HOP.out,if_neg (by decide),if_neg (by decide),if_pos (by decide),hk];exact decide_eq_false (by omega));have HE:=Qq (show Vq md n x y=0 by unfold Vq;rw [HF.out];rfl);have hk1:(md.rel.length:Int)<=(k:Int):=by omega
  clear h0 h4 hk hkl hopb;go_wp2_with fail;go_ret2;exact⟨by rw [HE.out,HF.out] <;> rfl,HX0.out⟩
 ·obtain⟨h0,h4⟩:=Gg HH.out (by rw [<-HOP.out];rfl);obtain⟨k,hk⟩:=Int.eq_ofNat_of_zero_le h0;rw [hk]at c1;by_cases hkl:k < md.rel.length
  ·have HF:=Qq (show Zw md n=true by unfold Zw;rw [<-HOP.out,if_neg (by decide),if_neg (by decide),if_pos (by decide),hk];exact decide_eq_true (by omega));have HE:=Qq (show Vq md n x y=Jz (Zx N) (Kr (md.rel.getD k []) N (Jz (Zx N) x)) by unfold Vq;rw [if_pos HF.out,HO1.out,<-HOP.out,hk];rfl);have hk1:¬(md.rel.length:Int)<=(k:Int):=by omega
   have hk2:(k:Int) < (md.rel.length:Int):=by omega
   obtain⟨ad,u,rfl,hadl,hcl,hu⟩:=HR.out k hkl;have hmem:md.rel.getD k []∈md.rel:=by rw [Qk,Qv hkl];exact List.getElem_mem hkl
   have hrlen:=HRL.out _ hmem;have HCR:=Qq (Mk hrlen hN64 (HLOW.out _ hmem));have HLR:=Qq (Qyk hrlen (List.any_eq_false.2 fun s hs=>by simpa using HLOW.out _ hmem s hs));have HEB:=Qq (show Qjf (md.rel.getD k []) x=Jz (Zx N) (Kr (md.rel.getD k []) N (Jz (Zx N) x)) by unfold Qjf;rw [if_pos HCR.out,hrlen,Qth hN64 HLR.out]);have HRW:=Qq (HOK.out.rel _ hmem);have HU:=Qq (hu.ext HX0.out);have a0:=(HX0.out.cell (p:=ad.add k) (Qj hadl)).trans hcl;have al2:(ad.add k).block < W0.heap.size:=by rw [Qc];exact Qy hadl HX0.out.size
   obtain⟨r,hr⟩:∃r,r=md.rel.getD k []:=⟨_,rfl⟩;rw [<-hr]at HE HEB HRW HU;clear h0 h4 hk hcl hopb hu hmem hrlen hr;go_wp2_with(go_at_call 187;refine(Qhk _ r x _ HU.out HRW.out HXW.out).mono ?_;rintro e w5 ⟨rfl,hx5⟩;have HX5:=Qq (HX0.out.trans hx5);clear hx5);go_ret2;exact⟨by rw [HE.out,HF.out,<-HEB.out] <;> rfl,HX5.out⟩
  have HF:=Qq (show Zw md n=false by unfold Zw;rw [<-HOP.out,if_neg (by decide),if_neg (by decide),if_pos (by decide),hk];exact decide_eq_false (by omega));have HE:=Qq (show Vq md n x y=0 by unfold Vq;rw [HF.out];rfl);have hk1:(md.rel.length:Int)<=(k:Int):=by omega
  clear h0 h4 hk hkl hopb;go_wp2_with fail;go_ret2;exact⟨by rw [HE.out,HF.out] <;> rfl,HX0.out⟩
 ·obtain⟨h0,h16⟩:=Fe HH.out;obtain⟨gn,hgn⟩:=Int.eq_ofNat_of_zero_le h0;have hgp:1<=gn:=by have:=HG1.out (by rw [<-HOP.out];decide) (by rw [<-HOP.out];decide);omega
  rw [hgn]at c3;by_cases hgl:gn < 2^md.rel.length
  ·have HF:=Qq (show Zw md n=true by unfold Zw;rw [<-HOP.out,if_neg (by decide),if_neg (by decide),if_neg (by decide),if_pos (by decide),hgn];exact decide_eq_true (by exact_mod_cast hgl));have HE:=Qq (show Vq md n x y=Kr ((List.range N).map (Vw md.rel gn false N)) N x by unfold Vq;rw [if_pos HF.out,HO1.out,<-HOP.out,hgn];rfl);have HEB:=Qq (show Bm ((List.range N).map (Vw md.rel gn false N)) x=Kr ((List.range N).map (Vw md.rel gn false N)) N x by unfold Bm;rw [if_pos (HGC.out gn false),List.length_map,List.length_range]);have hgc:=decide_eq_false (Qve hr4 hgl);have hgw:decide (IntKind.i64.wrap ((2:Int)^md.rel.length)<=(gn:Int))=false:=decide_eq_false (by rw [wrap_i64 hr4];exact_mod_cast Nat.not_le_of_lt hgl)
   have hmin:min md.rel.length 64=md.rel.length:=by omega
   clear h0 h16 hgn hopb;go_upto_region 31 with(fail);refine wp_region_held_drew (S:=fun w'=>w'.cell? (⟨b+1,3,none⟩)=some (.int .i64 (gn:Int))/\w'.cell? (⟨b,2,none⟩)=some (.slice Ar md.rel.length cr)) (by kernel_rfl) ⟨(Ext.cell (p:=⟨b+1,3,none⟩) (by repeat(first|exact Qz|assumption|apply Ext.alloc|apply Ext.drew)) cb).trans c3,(Ext.cell (p:=⟨b,2,none⟩) (by repeat(first|exact Qz|assumption|apply Ext.alloc|apply Ext.drew)) eb).trans e2⟩ (fun hHeld=> ?_);refine' wpAnyH_take (i:=0) (v:=_) rfl (by kernel_rfl) (by kernel_rfl) (by kernel_rfl) (fun _ _ _ h=>h) (Or.inl ⟨by rfl,?hyb0⟩) hHeld ?restb0
   case hyb0=>(intro w' hSw;(try dsimp only at hSw);go_simp;(try with_reducible rfl))
   refine Qd ?_;refine' wpAnyH_take (i:=1) (v:=_) rfl (by kernel_rfl) (by kernel_rfl) (by kernel_rfl) (fun _ _ _ h=>h) (Or.inl ⟨by rfl,?hyb1⟩) hHeld ?restb1
   case hyb1=>(intro w' hSw;(try dsimp only at hSw);go_simp;(try with_reducible rfl))
   refine Qd ?_;refine' wpAnyH_take (i:=2) (v:=_) rfl (by kernel_rfl) (by kernel_rfl) (by kernel_rfl) (fun _ _ _ h=>h) (Or.inl ⟨by rfl,?hyb2⟩) hHeld ?restb2
   case hyb2=>(intro w' hSw;(try dsimp only at hSw);go_simp;(try with_reducible rfl))
   refine Qd ?_;refine' wpAnyH_take (i:=3) (v:=_) rfl (by kernel_rfl) (by kernel_rfl) (by kernel_rfl) (fun _ _ _ h=>h) (Or.inl ⟨by rfl,?hyb3⟩) hHeld ?restb3
   case hyb3=>(intro w' hSw;(try dsimp only at hSw);go_simp;(try with_reducible rfl))
   refine Qd ?_;refine' wpAnyH_take (i:=4) (v:=_) rfl (by kernel_rfl) (by kernel_rfl) (by kernel_rfl) (fun _ _ _ h=>h) (Or.inl ⟨by rfl,?hyb4⟩) hHeld ?restb4
   case hyb4=>(intro w' hSw;(try dsimp only at hSw);go_simp;(try with_reducible rfl))
   refine Qd ?_;refine' wpAnyH_take (i:=5) (v:=_) rfl (by kernel_rfl) (by kernel_rfl) (by kernel_rfl) (fun _ _ _ h=>h) (Or.inl ⟨by rfl,?hyb5⟩) hHeld ?restb5
   case hyb5=>(intro w' hSw;(try dsimp only at hSw);go_simp;(try with_reducible rfl))
   refine Qd ?_;refine' wpAnyH_take (i:=6) (v:=_) rfl (by kernel_rfl) (by kernel_rfl) (by kernel_rfl) (fun _ _ _ h=>h) (Or.inl ⟨by rfl,?hyb6⟩) hHeld ?restb6
   case hyb6=>(intro w' hSw;(try dsimp only at hSw);go_simp;(try with_reducible rfl))
   refine Qd ?_;refine wpAnyH_done (by kernel_rfl) ?_ _;have BM:=Qq ((Ext.refl W0).drew.block (Qf HBM.out));go_wp2_with(first|(go_at_call 189;refine(Qvs _ md gn _ (HM.out.ext (HX0.out.trans (by repeat(first|exact Qz|assumption|apply Ext.alloc|apply Ext.drew|apply Ext.setCell)))) HOK.out HCK.out hgp hgl).mono ?_;rintro e w5 ⟨u5,rfl,hx5,hu5⟩;rw [HNT.out]at hu5;have HX5:=Qq (HX0.out.trans (Ext.trans (by repeat(first|exact Qz|assumption|apply Ext.alloc|apply Ext.drew|apply Ext.setCell)) hx5));have HU5:=Qq hu5;have c05:=((Ext.trans (by repeat(first|exact Qz|assumption|apply Ext.alloc|apply Ext.drew|apply Ext.setCell)) hx5).cell (p:=⟨b+1,0,none⟩) cb).trans c0;clear hx5 hu5)|(go_at_call 186;refine(Tt _ ((List.range N).map (Vw md.rel gn false N)) x _ HU5.out (HGW.out gn false) HXW.out).mono ?_;rintro e w6 ⟨rfl,hx6⟩;rw [HEB.out];have HX6:=Qq (HX5.out.trans hx6);clear hx6))
   go_ret2;exact⟨by rw [HE.out,HF.out] <;> rfl,HX6.out⟩
  have HF:=Qq (show Zw md n=false by unfold Zw;rw [<-HOP.out,if_neg (by decide),if_neg (by decide),if_neg (by decide),if_pos (by decide),hgn];exact decide_eq_false (by exact_mod_cast hgl));have HE:=Qq (show Vq md n x y=0 by unfold Vq;rw [HF.out];rfl);have hgc:decide (wrap64 ((2:Int)^md.rel.length)<=(gn:Int))=true:=decide_eq_true (by rw [Sh (by omega)];exact_mod_cast Nat.le_of_not_lt hgl);have hgw:decide (IntKind.i64.wrap ((2:Int)^md.rel.length)<=(gn:Int))=true:=decide_eq_true (by rw [wrap_i64 hr4];exact_mod_cast Nat.le_of_not_lt hgl);have hmin:min md.rel.length 64=md.rel.length:=by omega
  clear h0 h16 hgn hopb hgl;go_upto_region 31 with(fail);refine wp_region_held_drew (S:=fun w'=>w'.cell? (⟨b+1,3,none⟩)=some (.int .i64 (gn:Int))/\w'.cell? (⟨b,2,none⟩)=some (.slice Ar md.rel.length cr)) (by kernel_rfl) ⟨(Ext.cell (p:=⟨b+1,3,none⟩) (by repeat(first|exact Qz|assumption|apply Ext.alloc|apply Ext.drew)) cb).trans c3,(Ext.cell (p:=⟨b,2,none⟩) (by repeat(first|exact Qz|assumption|apply Ext.alloc|apply Ext.drew)) eb).trans e2⟩ (fun hHeld=> ?_);refine' wpAnyH_take (i:=0) (v:=_) rfl (by kernel_rfl) (by kernel_rfl) (by kernel_rfl) (fun _ _ _ h=>h) (Or.inl ⟨by rfl,?hyc0⟩) hHeld ?restc0
  case hyc0=>(intro w' hSw;(try dsimp only at hSw);go_simp;(try with_reducible rfl))
  refine Qd ?_;refine' wpAnyH_take (i:=1) (v:=_) rfl (by kernel_rfl) (by kernel_rfl) (by kernel_rfl) (fun _ _ _ h=>h) (Or.inl ⟨by rfl,?hyc1⟩) hHeld ?restc1
  case hyc1=>(intro w' hSw;(try dsimp only at hSw);go_simp;(try with_reducible rfl))
  refine Qd ?_;refine' wpAnyH_take (i:=2) (v:=_) rfl (by kernel_rfl) (by kernel_rfl) (by kernel_rfl) (fun _ _ _ h=>h) (Or.inl ⟨by rfl,?hyc2⟩) hHeld ?restc2
  case hyc2=>(intro w' hSw;(try dsimp only at hSw);go_simp;(try with_reducible rfl))
  refine Qd ?_;refine' wpAnyH_take (i:=3) (v:=_) rfl (by kernel_rfl) (by kernel_rfl) (by kernel_rfl) (fun _ _ _ h=>h) (Or.inl ⟨by rfl,?hyc3⟩) hHeld ?restc3
  case hyc3=>(intro w' hSw;(try dsimp only at hSw);go_simp;(try with_reducible rfl))
  refine Qd ?_;refine' wpAnyH_take (i:=4) (v:=_) rfl (by kernel_rfl) (by kernel_rfl) (by kernel_rfl) (fun _ _ _ h=>h) (Or.inl ⟨by rfl,?hyc4⟩) hHeld ?restc4
  case hyc4=>(intro w' hSw;(try dsimp only at hSw);go_simp;(try with_reducible rfl))
  refine Qd ?_;refine' wpAnyH_take (i:=5) (v:=_) rfl (by kernel_rfl) (by kernel_rfl) (by kernel_rfl) (fun _ _ _ h=>h) (Or.inl ⟨by rfl,?hyc5⟩) hHeld ?restc5
  case hyc5=>(intro w' hSw;(try dsimp only at hSw);go_simp;(try with_reducible rfl))
  refine Qd ?_;refine' wpAnyH_take (i:=6) (v:=_) rfl (by kernel_rfl) (by kernel_rfl) (by kernel_rfl) (fun _ _ _ h=>h) (Or.inl ⟨by rfl,?hyc6⟩) hHeld ?restc6
  case hyc6=>(intro w' hSw;(try dsimp only at hSw);go_simp;(try with_reducible rfl))
  refine Qd ?_;refine wpAnyH_done (by kernel_rfl) ?_ _;go_wp2_with fail;go_ret2;exact⟨by rw [HE.out,HF.out] <;> rfl,HX0.out.drew⟩
 ·obtain⟨h0,h16⟩:=Fe HH.out;obtain⟨gn,hgn⟩:=Int.eq_ofNat_of_zero_le h0;have hgp:1<=gn:=by have:=HG1.out (by rw [<-HOP.out];decide) (by rw [<-HOP.out];decide);omega
  rw [hgn]at c3;by_cases hgl:gn < 2^md.rel.length
  ·have HF:=Qq (show Zw md n=true by unfold Zw;rw [<-HOP.out,if_neg (by decide),if_neg (by decide),if_neg (by decide),if_pos (by decide),hgn];exact decide_eq_true (by exact_mod_cast hgl));have HE:=Qq (show Vq md n x y=Kr ((List.range N).map (Vw md.rel gn true N)) N x by unfold Vq;rw [if_pos HF.out,HO1.out,<-HOP.out,hgn];rfl);have HEB:=Qq (show Bm ((List.range N).map (Vw md.rel gn true N)) x=Kr ((List.range N).map (Vw md.rel gn true N)) N x by unfold Bm;rw [if_pos (HGC.out gn true),List.length_map,List.length_range]);have hgc:=decide_eq_false (Qve hr4 hgl);have hgw:decide (IntKind.i64.wrap ((2:Int)^md.rel.length)<=(gn:Int))=false:=decide_eq_false (by rw [wrap_i64 hr4];exact_mod_cast Nat.not_le_of_lt hgl)
   have hmin:min md.rel.length 64=md.rel.length:=by omega
   clear h0 h16 hgn hopb;go_upto_region 31 with(fail);refine wp_region_held_drew (S:=fun w'=>w'.cell? (⟨b+1,3,none⟩)=some (.int .i64 (gn:Int))/\w'.cell? (⟨b,2,none⟩)=some (.slice Ar md.rel.length cr)) (by kernel_rfl) ⟨(Ext.cell (p:=⟨b+1,3,none⟩) (by repeat(first|exact Qz|assumption|apply Ext.alloc|apply Ext.drew)) cb).trans c3,(Ext.cell (p:=⟨b,2,none⟩) (by repeat(first|exact Qz|assumption|apply Ext.alloc|apply Ext.drew)) eb).trans e2⟩ (fun hHeld=> ?_);refine' wpAnyH_take (i:=0) (v:=_) rfl (by kernel_rfl) (by kernel_rfl) (by kernel_rfl) (fun _ _ _ h=>h) (Or.inl ⟨by rfl,?hyd0⟩) hHeld ?restd0
   case hyd0=>(intro w' hSw;(try dsimp only at hSw);go_simp;(try with_reducible rfl))
   refine Qd ?_;refine' wpAnyH_take (i:=1) (v:=_) rfl (by kernel_rfl) (by kernel_rfl) (by kernel_rfl) (fun _ _ _ h=>h) (Or.inl ⟨by rfl,?hyd1⟩) hHeld ?restd1
   case hyd1=>(intro w' hSw;(try dsimp only at hSw);go_simp;(try with_reducible rfl))
   refine Qd ?_;refine' wpAnyH_take (i:=2) (v:=_) rfl (by kernel_rfl) (by kernel_rfl) (by kernel_rfl) (fun _ _ _ h=>h) (Or.inl ⟨by rfl,?hyd2⟩) hHeld ?restd2
   case hyd2=>(intro w' hSw;(try dsimp only at hSw);go_simp;(try with_reducible rfl))
   refine Qd ?_;refine' wpAnyH_take (i:=3) (v:=_) rfl (by kernel_rfl) (by kernel_rfl) (by kernel_rfl) (fun _ _ _ h=>h) (Or.inl ⟨by rfl,?hyd3⟩) hHeld ?restd3
   case hyd3=>(intro w' hSw;(try dsimp only at hSw);go_simp;(try with_reducible rfl))
   refine Qd ?_;refine' wpAnyH_take (i:=4) (v:=_) rfl (by kernel_rfl) (by kernel_rfl) (by kernel_rfl) (fun _ _ _ h=>h) (Or.inl ⟨by rfl,?hyd4⟩) hHeld ?restd4
   case hyd4=>(intro w' hSw;(try dsimp only at hSw);go_simp;(try with_reducible rfl))
   refine Qd ?_;refine' wpAnyH_take (i:=5) (v:=_) rfl (by kernel_rfl) (by kernel_rfl) (by kernel_rfl) (fun _ _ _ h=>h) (Or.inl ⟨by rfl,?hyd5⟩) hHeld ?restd5
   case hyd5=>(intro w' hSw;(try dsimp only at hSw);go_simp;(try with_reducible rfl))
   refine Qd ?_;refine' wpAnyH_take (i:=6) (v:=_) rfl (by kernel_rfl) (by kernel_rfl) (by kernel_rfl) (fun _ _ _ h=>h) (Or.inl ⟨by rfl,?hyd6⟩) hHeld ?restd6
   case hyd6=>(intro w' hSw;(try dsimp only at hSw);go_simp;(try with_reducible rfl))
   refine Qd ?_;refine wpAnyH_done (by kernel_rfl) ?_ _;have BM:=Qq ((Ext.refl W0).drew.block (Qf HBM.out));go_wp2_with(first|(go_at_call 188;refine(Qmp _ md gn _ (HM.out.ext (HX0.out.trans (by repeat(first|exact Qz|assumption|apply Ext.alloc|apply Ext.drew|apply Ext.setCell)))) HOK.out HCK.out hgp hgl).mono ?_;rintro e w5 ⟨u5,rfl,hx5,hu5⟩;rw [HNT.out]at hu5;have HX5:=Qq (HX0.out.trans (Ext.trans (by repeat(first|exact Qz|assumption|apply Ext.alloc|apply Ext.drew|apply Ext.setCell)) hx5));have HU5:=Qq hu5;have c05:=((Ext.trans (by repeat(first|exact Qz|assumption|apply Ext.alloc|apply Ext.drew|apply Ext.setCell)) hx5).cell (p:=⟨b+1,0,none⟩) cb).trans c0;clear hx5 hu5)|(go_at_call 186;refine(Tt _ ((List.range N).map (Vw md.rel gn true N)) x _ HU5.out (HGW.out gn true) HXW.out).mono ?_;rintro e w6 ⟨rfl,hx6⟩;rw [HEB.out];have HX6:=Qq (HX5.out.trans hx6);clear hx6))
   go_ret2;exact⟨by rw [HE.out,HF.out] <;> rfl,HX6.out⟩
  have HF:=Qq (show Zw md n=false by unfold Zw;rw [<-HOP.out,if_neg (by decide),if_neg (by decide),if_neg (by decide),if_pos (by decide),hgn];exact decide_eq_false (by exact_mod_cast hgl));have HE:=Qq (show Vq md n x y=0 by unfold Vq;rw [HF.out];rfl);have hgc:decide (wrap64 ((2:Int)^md.rel.length)<=(gn:Int))=true:=decide_eq_true (by rw [Sh (by omega)];exact_mod_cast Nat.le_of_not_lt hgl);have hgw:decide (IntKind.i64.wrap ((2:Int)^md.rel.length)<=(gn:Int))=true:=decide_eq_true (by rw [wrap_i64 hr4];exact_mod_cast Nat.le_of_not_lt hgl);have hmin:min md.rel.length 64=md.rel.length:=by omega
  clear h0 h16 hgn hopb hgl;go_upto_region 31 with(fail);refine wp_region_held_drew (S:=fun w'=>w'.cell? (⟨b+1,3,none⟩)=some (.int .i64 (gn:Int))/\w'.cell? (⟨b,2,none⟩)=some (.slice Ar md.rel.length cr)) (by kernel_rfl) ⟨(Ext.cell (p:=⟨b+1,3,none⟩) (by repeat(first|exact Qz|assumption|apply Ext.alloc|apply Ext.drew)) cb).trans c3,(Ext.cell (p:=⟨b,2,none⟩) (by repeat(first|exact Qz|assumption|apply Ext.alloc|apply Ext.drew)) eb).trans e2⟩ (fun hHeld=> ?_);refine' wpAnyH_take (i:=0) (v:=_) rfl (by kernel_rfl) (by kernel_rfl) (by kernel_rfl) (fun _ _ _ h=>h) (Or.inl ⟨by rfl,?hye0⟩) hHeld ?reste0
  case hye0=>(intro w' hSw;(try dsimp only at hSw);go_simp;(try with_reducible rfl))
  refine Qd ?_;refine' wpAnyH_take (i:=1) (v:=_) rfl (by kernel_rfl) (by kernel_rfl) (by kernel_rfl) (fun _ _ _ h=>h) (Or.inl ⟨by rfl,?hye1⟩) hHeld ?reste1
  case hye1=>(intro w' hSw;(try dsimp only at hSw);go_simp;(try with_reducible rfl))
  refine Qd ?_;refine' wpAnyH_take (i:=2) (v:=_) rfl (by kernel_rfl) (by kernel_rfl) (by kernel_rfl) (fun _ _ _ h=>h) (Or.inl ⟨by rfl,?hye2⟩) hHeld ?reste2
  case hye2=>(intro w' hSw;(try dsimp only at hSw);go_simp;(try with_reducible rfl))
  refine Qd ?_;refine' wpAnyH_take (i:=3) (v:=_) rfl (by kernel_rfl) (by kernel_rfl) (by kernel_rfl) (fun _ _ _ h=>h) (Or.inl ⟨by rfl,?hye3⟩) hHeld ?reste3
  case hye3=>(intro w' hSw;(try dsimp only at hSw);go_simp;(try with_reducible rfl))
  refine Qd ?_;refine' wpAnyH_take (i:=4) (v:=_) rfl (by kernel_rfl) (by kernel_rfl) (by kernel_rfl) (fun _ _ _ h=>h) (Or.inl ⟨by rfl,?hye4⟩) hHeld ?reste4
  case hye4=>(intro w' hSw;(try dsimp only at hSw);go_simp;(try with_reducible rfl))
  refine Qd ?_;refine' wpAnyH_take (i:=5) (v:=_) rfl (by kernel_rfl) (by kernel_rfl) (by kernel_rfl) (fun _ _ _ h=>h) (Or.inl ⟨by rfl,?hye5⟩) hHeld ?reste5
  case hye5=>(intro w' hSw;(try dsimp only at hSw);go_simp;(try with_reducible rfl))
  refine Qd ?_;refine' wpAnyH_take (i:=6) (v:=_) rfl (by kernel_rfl) (by kernel_rfl) (by kernel_rfl) (fun _ _ _ h=>h) (Or.inl ⟨by rfl,?hye6⟩) hHeld ?reste6
  case hye6=>(intro w' hSw;(try dsimp only at hSw);go_simp;(try with_reducible rfl))
  refine Qd ?_;refine wpAnyH_done (by kernel_rfl) ?_ _;go_wp2_with fail;go_ret2;exact⟨by rw [HE.out,HF.out] <;> rfl,HX0.out.drew⟩
 ·obtain⟨h0,h16⟩:=Fe HH.out;obtain⟨gn,hgn⟩:=Int.eq_ofNat_of_zero_le h0;have hgp:1<=gn:=by have:=HG1.out (by rw [<-HOP.out];decide) (by rw [<-HOP.out];decide);omega
  rw [hgn]at c3;by_cases hgl:gn < 2^md.rel.length
  ·have HF:=Qq (show Zw md n=true by unfold Zw;rw [<-HOP.out,if_neg (by decide),if_neg (by decide),if_neg (by decide),if_pos (by decide),hgn];exact decide_eq_true (by exact_mod_cast hgl));have HE:=Qq (show Vq md n x y=Gm ((List.range N).map (Vw md.rel gn false N)) N x y by unfold Vq;rw [if_pos HF.out,HO1.out,<-HOP.out,hgn];rfl);have hgc:=decide_eq_false (Qve hr4 hgl);have hgw:decide (IntKind.i64.wrap ((2:Int)^md.rel.length)<=(gn:Int))=false:=decide_eq_false (by rw [wrap_i64 hr4];exact_mod_cast Nat.not_le_of_lt hgl);have hmin:min md.rel.length 64=md.rel.length:=by omega
   clear h0 h16 hgn hopb;go_upto_region 31 with(fail);refine wp_region_held_drew (S:=fun w'=>w'.cell? (⟨b+1,3,none⟩)=some (.int .i64 (gn:Int))/\w'.cell? (⟨b,2,none⟩)=some (.slice Ar md.rel.length cr)) (by kernel_rfl) ⟨(Ext.cell (p:=⟨b+1,3,none⟩) (by repeat(first|exact Qz|assumption|apply Ext.alloc|apply Ext.drew)) cb).trans c3,(Ext.cell (p:=⟨b,2,none⟩) (by repeat(first|exact Qz|assumption|apply Ext.alloc|apply Ext.drew)) eb).trans e2⟩ (fun hHeld=> ?_);refine' wpAnyH_take (i:=0) (v:=_) rfl (by kernel_rfl) (by kernel_rfl) (by kernel_rfl) (fun _ _ _ h=>h) (Or.inl ⟨by rfl,?hyf0⟩) hHeld ?restf0
   case hyf0=>(intro w' hSw;(try dsimp only at hSw);go_simp;(try with_reducible rfl))
   refine Qd ?_;refine' wpAnyH_take (i:=1) (v:=_) rfl (by kernel_rfl) (by kernel_rfl) (by kernel_rfl) (fun _ _ _ h=>h) (Or.inl ⟨by rfl,?hyf1⟩) hHeld ?restf1
   case hyf1=>(intro w' hSw;(try dsimp only at hSw);go_simp;(try with_reducible rfl))
   refine Qd ?_;refine' wpAnyH_take (i:=2) (v:=_) rfl (by kernel_rfl) (by kernel_rfl) (by kernel_rfl) (fun _ _ _ h=>h) (Or.inl ⟨by rfl,?hyf2⟩) hHeld ?restf2
   case hyf2=>(intro w' hSw;(try dsimp only at hSw);go_simp;(try with_reducible rfl))
   refine Qd ?_;refine' wpAnyH_take (i:=3) (v:=_) rfl (by kernel_rfl) (by kernel_rfl) (by kernel_rfl) (fun _ _ _ h=>h) (Or.inl ⟨by rfl,?hyf3⟩) hHeld ?restf3
   case hyf3=>(intro w' hSw;(try dsimp only at hSw);go_simp;(try with_reducible rfl))
   refine Qd ?_;refine' wpAnyH_take (i:=4) (v:=_) rfl (by kernel_rfl) (by kernel_rfl) (by kernel_rfl) (fun _ _ _ h=>h) (Or.inl ⟨by rfl,?hyf4⟩) hHeld ?restf4
   case hyf4=>(intro w' hSw;(try dsimp only at hSw);go_simp;(try with_reducible rfl))
   refine Qd ?_;refine' wpAnyH_take (i:=5) (v:=_) rfl (by kernel_rfl) (by kernel_rfl) (by kernel_rfl) (fun _ _ _ h=>h) (Or.inl ⟨by rfl,?hyf5⟩) hHeld ?restf5
   case hyf5=>(intro w' hSw;(try dsimp only at hSw);go_simp;(try with_reducible rfl))
   refine Qd ?_;refine' wpAnyH_take (i:=6) (v:=_) rfl (by kernel_rfl) (by kernel_rfl) (by kernel_rfl) (fun _ _ _ h=>h) (Or.inl ⟨by rfl,?hyf6⟩) hHeld ?restf6
   case hyf6=>(intro w' hSw;(try dsimp only at hSw);go_simp;(try with_reducible rfl))
   refine Qd ?_;refine wpAnyH_done (by kernel_rfl) ?_ _;have BM:=Qq ((Ext.refl W0).drew.block (Qf HBM.out));go_wp2_with(first|(go_at_call 189;refine(Qvs _ md gn _ (HM.out.ext (HX0.out.trans (by repeat(first|exact Qz|assumption|apply Ext.alloc|apply Ext.drew|apply Ext.setCell)))) HOK.out HCK.out hgp hgl).mono ?_;rintro e w5 ⟨u5,rfl,hx5,hu5⟩;rw [HNT.out]at hu5;have HX5:=Qq (HX0.out.trans (Ext.trans (by repeat(first|exact Qz|assumption|apply Ext.alloc|apply Ext.drew|apply Ext.setCell)) hx5));have HU5:=Qq hu5;have c05:=((Ext.trans (by repeat(first|exact Qz|assumption|apply Ext.alloc|apply Ext.drew|apply Ext.setCell)) hx5).cell (p:=⟨b+1,0,none⟩) cb).trans c0;clear hx5 hu5)|(go_at_call 190;rw [HAL.out];refine(Qda _ ((List.range N).map (Vw md.rel gn false N)) N x y _ HU5.out (HGW.out gn false) (by simp) (HGC.out gn false) HXW.out HYW.out).mono ?_;rintro e w6 ⟨rfl,hx6⟩;have HX6:=Qq (HX5.out.trans hx6);clear hx6))
   go_ret2;exact⟨by rw [HE.out,HF.out] <;> rfl,HX6.out⟩
  have HF:=Qq (show Zw md n=false by unfold Zw;rw [<-HOP.out,if_neg (by decide),if_neg (by decide),if_neg (by decide),if_pos (by decide),hgn];exact decide_eq_false (by exact_mod_cast hgl));have HE:=Qq (show Vq md n x y=0 by unfold Vq;rw [HF.out];rfl);have hgc:decide (wrap64 ((2:Int)^md.rel.length)<=(gn:Int))=true:=decide_eq_true (by rw [Sh (by omega)];exact_mod_cast Nat.le_of_not_lt hgl);have hgw:decide (IntKind.i64.wrap ((2:Int)^md.rel.length)<=(gn:Int))=true:=decide_eq_true (by rw [wrap_i64 hr4];exact_mod_cast Nat.le_of_not_lt hgl);have hmin:min md.rel.length 64=md.rel.length:=by omega
  clear h0 h16 hgn hopb hgl;go_upto_region 31 with(fail);refine wp_region_held_drew (S:=fun w'=>w'.cell? (⟨b+1,3,none⟩)=some (.int .i64 (gn:Int))/\w'.cell? (⟨b,2,none⟩)=some (.slice Ar md.rel.length cr)) (by kernel_rfl) ⟨(Ext.cell (p:=⟨b+1,3,none⟩) (by repeat(first|exact Qz|assumption|apply Ext.alloc|apply Ext.drew)) cb).trans c3,(Ext.cell (p:=⟨b,2,none⟩) (by repeat(first|exact Qz|assumption|apply Ext.alloc|apply Ext.drew)) eb).trans e2⟩ (fun hHeld=> ?_);refine' wpAnyH_take (i:=0) (v:=_) rfl (by kernel_rfl) (by kernel_rfl) (by kernel_rfl) (fun _ _ _ h=>h) (Or.inl ⟨by rfl,?hyg0⟩) hHeld ?restg0
  case hyg0=>(intro w' hSw;(try dsimp only at hSw);go_simp;(try with_reducible rfl))
  refine Qd ?_;refine' wpAnyH_take (i:=1) (v:=_) rfl (by kernel_rfl) (by kernel_rfl) (by kernel_rfl) (fun _ _ _ h=>h) (Or.inl ⟨by rfl,?hyg1⟩) hHeld ?restg1
  case hyg1=>(intro w' hSw;(try dsimp only at hSw);go_simp;(try with_reducible rfl))
  refine Qd ?_;refine' wpAnyH_take (i:=2) (v:=_) rfl (by kernel_rfl) (by kernel_rfl) (by kernel_rfl) (fun _ _ _ h=>h) (Or.inl ⟨by rfl,?hyg2⟩) hHeld ?restg2
  case hyg2=>(intro w' hSw;(try dsimp only at hSw);go_simp;(try with_reducible rfl))
  refine Qd ?_;refine' wpAnyH_take (i:=3) (v:=_) rfl (by kernel_rfl) (by kernel_rfl) (by kernel_rfl) (fun _ _ _ h=>h) (Or.inl ⟨by rfl,?hyg3⟩) hHeld ?restg3
  case hyg3=>(intro w' hSw;(try dsimp only at hSw);go_simp;(try with_reducible rfl))
  refine Qd ?_;refine' wpAnyH_take (i:=4) (v:=_) rfl (by kernel_rfl) (by kernel_rfl) (by kernel_rfl) (fun _ _ _ h=>h) (Or.inl ⟨by rfl,?hyg4⟩) hHeld ?restg4
  case hyg4=>(intro w' hSw;(try dsimp only at hSw);go_simp;(try with_reducible rfl))
  refine Qd ?_;refine' wpAnyH_take (i:=5) (v:=_) rfl (by kernel_rfl) (by kernel_rfl) (by kernel_rfl) (fun _ _ _ h=>h) (Or.inl ⟨by rfl,?hyg5⟩) hHeld ?restg5
  case hyg5=>(intro w' hSw;(try dsimp only at hSw);go_simp;(try with_reducible rfl))
  refine Qd ?_;refine' wpAnyH_take (i:=6) (v:=_) rfl (by kernel_rfl) (by kernel_rfl) (by kernel_rfl) (fun _ _ _ h=>h) (Or.inl ⟨by rfl,?hyg6⟩) hHeld ?restg6
  case hyg6=>(intro w' hSw;(try dsimp only at hSw);go_simp;(try with_reducible rfl))
  refine Qd ?_;refine wpAnyH_done (by kernel_rfl) ?_ _;go_wp2_with fail;go_ret2;exact⟨by rw [HE.out,HF.out] <;> rfl,HX0.out.drew⟩
 have HF:=Qq (show Zw md n=false by unfold Zw;rw [<-HOP.out,if_neg (by omega),if_neg (by omega),if_neg (by omega),if_neg (by omega)]);have HE:=Qq (show Vq md n x y=0 by unfold Vq;rw [HF.out];rfl);have t1:(op==1)=false:=by simp only [beq_eq_false_iff_ne,ne_eq];omega
 have t2:(op==2)=false:=by simp only [beq_eq_false_iff_ne,ne_eq];omega
 have t3:(op==3)=false:=by simp only [beq_eq_false_iff_ne,ne_eq];omega
 have t4:(op==4)=false:=by simp only [beq_eq_false_iff_ne,ne_eq];omega
 have t5:(op==5)=false:=by simp only [beq_eq_false_iff_ne,ne_eq];omega
 have t6:(op==6)=false:=by simp only [beq_eq_false_iff_ne,ne_eq];omega
 have t7:(op==7)=false:=by simp only [beq_eq_false_iff_ne,ne_eq];omega
 have t8:(op==8)=false:=by simp only [beq_eq_false_iff_ne,ne_eq];omega
 have t9:(op==9)=false:=by simp only [beq_eq_false_iff_ne,ne_eq];omega
 have t10:(op==10)=false:=by simp only [beq_eq_false_iff_ne,ne_eq];omega
 have t11:(op==11)=false:=by simp only [beq_eq_false_iff_ne,ne_eq];omega
 have t12:(op==12)=false:=by simp only [beq_eq_false_iff_ne,ne_eq];omega
 have t13:(op==13)=false:=by simp only [beq_eq_false_iff_ne,ne_eq];omega
 clear hopb h14;go_wp2_with fail;go_ret2;exact⟨by rw [HE.out,HF.out] <;> rfl,HX0.out⟩
end Go.Proofs.YtkmclcmnoicagaaGreatDoor
