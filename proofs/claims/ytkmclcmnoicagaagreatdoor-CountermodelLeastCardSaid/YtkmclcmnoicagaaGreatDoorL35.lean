/- The reference's checker says what the program's says (plain). -/
import Derived.Test.YtkmclcmnoicagaaGreatDoorL34
namespace Go.Proofs.YtkmclcmnoicagaaGreatDoor
set_option maxRecDepth 100000
set_option maxHeartbeats 128000000
theorem Qb7 {md:Md} {f:List Nd} :Jq md (Qf f)=0↔Jq md f=0:=by
 constructor
 ·intro h;obtain⟨h1,_,h3,h4⟩:=Vb h;have hc:=Qyw h;have h2:=Uf hc;have aM:Jr (Js f) 15=true:=by unfold Js at h3⊢;rw [h2]at h3;exact h3
  have VK:Yd f md.rel.length md.val.length=true:=by
   unfold Yd at h4⊢;rw [h2,Gj hc]at h4;rw [hc];exact h4
  unfold Jq;rw [if_neg (by rw [h1];simp),if_neg (by rw [hc];simp),if_neg (by rw [aM];simp),if_neg (by rw [VK];simp)]
 intro h;obtain⟨h1,hc,h3,h4⟩:=Vb h;have h2:=Uf hc;have wU:=Gj hc;have aM:Jr (Js (Qf f)) 15=true:=by unfold Js at h3⊢;rw [h2];exact h3
 have VK:Yd (Qf f) md.rel.length md.val.length=true:=by
  unfold Yd at h4⊢;rw [h2,wU];rw [hc]at h4;exact h4
 unfold Jq;rw [if_neg (by rw [h1];simp),if_neg (by rw [wU];simp),if_neg (by rw [aM];simp),if_neg (by rw [VK];simp)]
theorem Qz5(md:Md)(f:List Nd):Sc md f=Jq md f:=by
 unfold Sc
 split
 ·rename_i h;exact(Qb7.1 h).symm
 rfl
theorem Qwr {md:Md} {c:List Nd}(zU:Qa md=0)(hc:check c=0)(hf:∀k:Nat,k < c.length->Ce md c (k:Int)=true):∀k,k < c.length->Fd md (Ef md c (Kc md c k) k) (tr c k):=by
 intro k
 induction k using Nat.strongRecOn with
 |_ k ih =>
  intro hk;obtain⟨n,hn⟩:∃n,c[k]?=some n:=⟨_,Qv hk⟩;obtain⟨hx,hy⟩:=Yb hc k n hn;unfold Ef;rw [if_pos (hf k hk),Hs hn,Xg (Yb hc) hn];refine Qfj zU (Qk7 hc hn (hf k hk) (Zb zU).2.2.1) (fun h=> ?_) (fun h=> ?_)
  ·have:=hx h;rw [if_pos h,Qq5 md c k _ (by omega)];exact ih _ (by omega) (by omega)
  have:=hy h;rw [if_pos h,Qq5 md c k _ (by omega)];exact ih _ (by omega) (by omega)
theorem Qg5 {md:Md} {f:List Nd}(h0:Jq md f=0):Bw md f=Rz md f:=by
 have h:=Qb7.2 h0;obtain⟨zU,wU,hs,hf⟩:=Vb h;have hc:check f=0:=Qyw h;have hp:=(Jj hc).2.2.1;have h2:=Uf hc;have h1:Fd md (Bw md f) (Qh f):=by
  unfold Bw;rw [if_pos h,Qq5 md _ _ _ (by omega),<-Xz hc];exact Qwr zU wU (fun k hk=>Qvp wU h2 hs hf hk) _ (by omega)
 have h3:Bw md f < 2^md.n.toNat:=by
  unfold Bw;rw [if_pos h];exact Tn (Qfc zU _ _) (Nat.two_pow_pos _) _
 have h4:=Wg h0;have h5:=Qz6 zU f;refine Nat.eq_of_testBit_eq fun i=> ?_
 by_cases hi:i < md.n.toNat
 ·rw [Bool.eq_iff_iff];exact(h1 ⟨i,hi⟩).trans (h4 ⟨i,hi⟩).symm
 have uQ:2^md.n.toNat<=2^i:=Nat.pow_le_pow_right (by decide) (by omega);rw [Nat.testBit_lt_two_pow (Qy h3 uQ),Nat.testBit_lt_two_pow (Qy h5 uQ)]
theorem Qx4 {lg:Int} {f:List Nd} {md:Md} {wd:Int} {b:Bool}(hb:b=true↔Fl md lg):Uh lg f md wd =
 if lg < 0\/6 < lg then 1 else if Sc md f≠0 then Sc md f else if wd < 0\/md.n<=wd then 2 else if b=false then 12 else if(Bw md f).testBit wd.toNat=true then 0 else 11:=by
 have e:Oa md lg=b:=by rw [Bool.eq_iff_iff,Oe];exact hb.symm
 unfold Uh;rw [e,Qz5];by_cases h:Jq md f=0
 ·rw [Qg5 h]
 rw [if_pos h,if_pos h]
open Go.RowKit
theorem Qro(lg:Int)(v vm:Value)(f:List Nd)(md:Md)(wd:Int)(w:World)(h:Jo w v f)(hm:Yz w vm md)(zO:md.ok):
 Calls Tryz.prog 28 #[.int .i64 lg,v,vm,.int .i64 wd] w fun e w'=>e=.returned (.int .i64 (Uh lg f md wd))/\Qg w w':=by
 have HM:=Qq hm;have HF:=Qq h;have zC:=Qq zO;obtain⟨vv,vr,rfl,⟨Av,cv,rfl,_⟩,⟨Ar,cr,rfl,_⟩⟩:=hm;obtain⟨n,hn⟩:∃n,n=md.n:=⟨_,rfl⟩;have HN:=Qq hn;rw [<-hn]at HM⊢;obtain⟨r,hr⟩:∃r,r=Uh lg f md wd:=⟨_,rfl⟩;have HR:=Qq hr;rw [<-hr];obtain⟨er,tW⟩:∃z,z=Sc md f:=⟨_,rfl⟩;have wE:=Qq tW;obtain⟨hs,R3⟩:∃z,z=Bw md f:=⟨_,rfl⟩;have IJ:=Qq R3;have L0:=Qq (Qrg · · md f · · zO ·);obtain⟨W0,zB⟩:∃W,W=w.alloc (.cells #[.int .i64 n,.slice Av md.val.length cv,.slice Ar md.rel.length cr] 26):=⟨_,rfl⟩;have X0:=Qq (show Qg w W0 by rw [zB];exact Qz.alloc _);have B0:=Qq (show W0.heap[w.heap.size]?=some (.cells #[.int .i64 n,.slice Av md.val.length cv,.slice Ar md.rel.length cr] 26 (0,0)) by rw [zB];exact heap_alloc_new _ _)
 obtain⟨b,hb⟩:∃b,b=w.heap.size:=⟨_,rfl⟩;rw [<-hb]at B0;clear h zO hn hr tW R3;obtain⟨lo,wB⟩:∃z:Int,z=if 0<=lg/\lg<=6 then 0 else 1:=⟨_,rfl⟩
 have xY:=Qq wB;obtain⟨e0,e1,e2,el⟩:=Zs B0.out;go_enter Tryz.func28,Tryz.ntmps28;go_upto_region 1 with(fail);rw [<-zB,<-hb];clear zB hb;go_wp2_with fail;refine(Qg6 lg _).mono ?_;rintro e w1 ⟨rfl,rfl⟩;rw [<-wB];clear wB;by_cases jI:0<=lg/\lg<=6
 case neg =>
  obtain rfl:lo=1:=by rw [xY.out,if_neg jI]
  have HZ:=Qq (show r=1 by
   rw [HR.out];unfold Uh;rw [if_pos (by omega)])
  clear jI;go_wp2_with fail;go_ret;exact⟨by rw [HZ.out] <;> rfl,X0.out⟩
 obtain rfl:lo=0:=by rw [xY.out,if_pos jI]
 have rW:=Qq jI;clear jI xY;go_wp2_with fail;refine(L0.out _ _ _ (HM.out.ext X0.out) (HF.out.ext X0.out)).mono ?_;rintro e w2 ⟨rfl,hx⟩;rw [<-wE.out,<-IJ.out];have X2:=Qq (X0.out.trans hx);have B2:=Qq ((hx.block (Qn B0.out)).trans B0.out);clear hx e0 e1 e2 el;obtain⟨e0,e1,e2,el⟩:=Zs B2.out;by_cases hz:er=0
 case neg =>
  have HZ:=Qq (show r=er by rw [HR.out,Qx4 (b:=Oa md lg) Oe,<-wE.out];have:=rW.out;rw [if_neg (by omega),if_pos hz]);have zQ:(er !=0)=true:=by simpa using hz
  clear hz;go_wp2_with fail;go_ret;exact⟨by rw [HZ.out] <;> rfl,X2.out⟩
 subst hz;by_cases hw:wd < 0\/n<=wd
 ·have HZ:=Qq (show r=2 by
   rw [HR.out,Qx4 (b:=Oa md lg) Oe,<-wE.out,<-HN.out];have:=rW.out;rw [if_neg (by omega),if_neg (by simp),if_pos hw])
  by_cases ZQ:wd < 0
  ·clear hw;go_wp2_with fail;go_ret;exact⟨by rw [HZ.out] <;> rfl,X2.out⟩
  have sY:n<=wd:=hw.resolve_left ZQ;clear hw;go_wp2_with fail;go_ret;exact⟨by rw [HZ.out] <;> rfl,X2.out⟩
 have ZQ:¬wd < 0:=fun h=>hw (.inl h)
 have sY:¬n<=wd:=fun h=>hw (.inr h)
 have sK:=Qq hw;clear hw;have zU:=(Vb (show Jq md f=0 by rw [<-Qz5,<-wE.out])).1;have KO:=Qq (show Qp hs by
  rw [IJ.out,Qg5 (by rw [<-Qz5,<-wE.out])];exact Qy (Qz6 zU f) (Rv (by have:=(Zb zU).2.1;omega)))
 have yW:n<=64:=by rw [HN.out];exact(Zb zU).2.1
 obtain⟨k,rfl⟩:=Int.eq_ofNat_of_zero_le (show 0<=wd by omega);have vG:k < 64:=by omega
 clear zU;go_wp2_with fail;refine(Qed _ md lg _ (HM.out.ext X2.out) zC.out).mono ?_;rintro e w3 ⟨ib,rfl,hx,Q8⟩;have K7:=Qq Q8.out;have X3:=Qq (X2.out.trans hx);clear hx Q8 e0 e1 e2 el;have vB:=Qq (show r=if ib=false then 12 else if hs.testBit k=true then 0 else 11 by
  rw [HR.out,Qx4 K7.out,<-wE.out,<-HN.out,<-IJ.out];have:=rW.out;rw [if_neg (by omega),if_neg (by simp),if_neg sK.out,Int.toNat_natCast])
 cases ib
 ·have HZ:=Qq (show r=12 by rw [vB.out,if_pos rfl]);go_wp2_with fail;go_ret;exact⟨by rw [HZ.out] <;> rfl,X3.out⟩
 obtain⟨tb,yC⟩:∃z,z=hs.testBit k:=⟨_,rfl⟩;have cM:=Qq yC;clear yC;go_wp2_with fail;refine(Qp2 hs k _ KO.out vG).mono ?_;rintro e w4 ⟨rfl,rfl⟩;rw [<-cM.out];cases tb
 ·have HZ:=Qq (show r=11 by rw [vB.out,if_neg (by simp),if_neg (by rw [<-cM.out];simp)]);go_wp2_with fail;go_ret;exact⟨by rw [HZ.out] <;> rfl,X3.out⟩
 have HZ:=Qq (show r=0 by rw [vB.out,if_neg (by simp),if_pos cM.out.symm]);go_wp2_with fail;go_ret;exact⟨by rw [HZ.out] <;> rfl,X3.out⟩
end Go.Proofs.YtkmclcmnoicagaaGreatDoor
