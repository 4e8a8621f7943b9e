/- The reference's Check and Few of models; Same and Reflexive of relations. -/
import Derived.Test.YtkmclcmnoicagaaGreatDoorT25
namespace Go.Proofs.YtkmclcmnoicagaaGreatDoor
set_option maxRecDepth 100000
set_option maxHeartbeats 128000000
open Go.RowKit
theorem Qbj(v:Value)(md:Md)(w:World)(h:MdV w v md)(hok:md.ok):
 Calls Tryz.prog 45 #[v] w fun e w'=>e=.returned (.int .i64 (Zy md))/\Ext w w':=by
 obtain⟨vv,vr,rfl,hv,hr⟩:=h;have HV:=Qq hv;have HOK:=Qq hok;obtain⟨Av,cv,rfl,_⟩:=hv;obtain⟨Ar,cr,rfl,_,_,HR⟩:=Dc hr;obtain⟨n,hn⟩:∃n,n=md.n:=⟨_,rfl⟩;have HN:=Qq hn;rw [<-hn];clear hr hok hn;by_cases h1:n < 1
 ·have HE:=Qq (show Zy md=2 by unfold Zy;rw [<-HN.out,if_pos (.inl h1)]);go_enter Tryz.func45,Tryz.ntmps45;go_wp2_with fail;go_ret;exact⟨by rw [HE.out] <;> rfl,Qz.alloc _⟩
 by_cases h64:64 < n
 ·have HE:=Qq (show Zy md=2 by unfold Zy;rw [<-HN.out,if_pos (.inr h64)]);go_enter Tryz.func45,Tryz.ntmps45;go_wp2_with fail;go_ret;exact⟨by rw [HE.out] <;> rfl,Qz.alloc _⟩
 obtain⟨m,rfl⟩:=Int.eq_ofNat_of_zero_le (show 0<=n by omega);have hm64:m<=64:=by omega
 have HCM:=Qq (show Zy md=if 4 < md.rel.length\/8 < md.val.length then 8 else if md.rel.any (fun r=> !decide ((r.length:Int)=(m:Int)))then 3 else if Zx md.val m then 2 else if md.rel.any (fun r=>Zx r m)then 2 else 0 by unfold Zy;rw [<-HN.out,if_neg (by omega)];rfl);by_cases hr4:4 < md.rel.length
 ·have HE:=Qq (show Zy md=8 by rw [HCM.out,if_pos (.inl hr4)]);have hi:(4:Int) < (md.rel.length:Int):=by omega
  go_enter Tryz.func45,Tryz.ntmps45;go_wp2_with fail;go_ret;exact⟨by rw [HE.out] <;> rfl,Qz.alloc _⟩
 have hi4:¬(4:Int) < (md.rel.length:Int):=by omega
 by_cases hv8:8 < md.val.length
 ·have HE:=Qq (show Zy md=8 by rw [HCM.out,if_pos (.inr hv8)]);have hi:(8:Int) < (md.val.length:Int):=by omega
  go_enter Tryz.func45,Tryz.ntmps45;go_wp2_with fail;go_ret;exact⟨by rw [HE.out] <;> rfl,Qz.alloc _⟩
 have hi8:¬(8:Int) < (md.val.length:Int):=by omega
 have HC2:=Qq (show Zy md=if md.rel.any (fun r=> !decide ((r.length:Int)=(m:Int)))then 3 else if Zx md.val m then 2 else if md.rel.any (fun r=>Zx r m)then 2 else 0 by rw [HCM.out,if_neg (by omega)]);obtain⟨rl,hrl⟩:∃l,l=md.rel:=⟨_,rfl⟩;have HRO:=Qq (show ∀r∈rl,∀s∈r,Zj s by rw [hrl];exact HOK.out.rel);rw [<-hrl]at HC2 HR hi4 hr4⊢;clear HCM hrl;go_enter Tryz.func45,Tryz.ntmps45;go_upto_region 5 with(fail);obtain⟨W0,hW0⟩:∃W,W=w.alloc (.cells #[.int .i64 (m:Int),.slice Av md.val.length cv,.slice Ar rl.length cr] 26):=⟨_,rfl⟩;have HX0:=Qq (show Ext w W0 by rw [hW0];exact Qz.alloc _);have HB:=Qq (show W0.heap[w.heap.size]?=some (.cells #[.int .i64 (m:Int),.slice Av md.val.length cv,.slice Ar rl.length cr] 26 (0,0)) by rw [hW0];exact heap_alloc_new _ _)
 rw [<-hW0];clear hW0;obtain⟨b,hb⟩:∃b,b=w.heap.size:=⟨_,rfl⟩;rw [<-hb]at HB⊢;clear hb;go_wp2_with fail;go_loopw [3] (fun v wr=>∃k:Nat,v=.int .i64 (k:Int)/\k<=rl.length/\Hid (Ext W0 wr/\∀j,j < k->(!decide (((rl.getD j []).length:Int)=(m:Int)))=false)) (fun v _=>rl.length - (intOf v).toNat)
 case atStart=>exact⟨0,rfl,Nat.zero_le _,Qq ⟨Qz,fun j hj=>absurd hj (by omega)⟩⟩
 case round =>
  obtain⟨k,rfl,hk,HREL⟩:=hrel;have HX:=Qq HREL.out.1;have HJ:=Qq HREL.out.2;obtain⟨e0,e1,e2,eb⟩:=Xm ((HX.out.block (Qm HB.out)).trans HB.out);clear HREL;by_cases hlt2:k < rl.length
  ·have hk1:(k:Int) < (rl.length:Int):=by omega
   obtain⟨ad,u,rfl,hadl,hc,hu⟩:=HR.out k hlt2;obtain⟨Au,cu,rfl,_⟩:=hu;have a0:=(HX.out.cell (p:=ad.add k) (by rw [Qp];exact Qy hadl HX0.out.size)).trans ((HX0.out.cell (p:=ad.add k) (Qj hadl)).trans hc);have al:(ad.add k).block < wr.heap.size:=by rw [Qp];exact Qy hadl (HX0.out.trans HX.out).size
   have HNX:=Qq (show(!decide (((rl.getD k []).length:Int)=(m:Int)))=false->∀j,j < k+1->(!decide (((rl.getD j []).length:Int)=(m:Int)))=false from fun h=>Be (P:=fun j=>(!decide (((rl.getD j []).length:Int)=(m:Int)))=false) HJ.out h);have HHT:=Qq (show(!decide (((rl.getD k []).length:Int)=(m:Int)))=true->Zy md=3 from fun h=>by rw [HC2.out,if_pos (Qzs hlt2 h)]);obtain⟨q,hq⟩:∃q,q=(rl.getD k []).length:=⟨_,rfl⟩;rw [<-hq]at a0 HNX HHT;clear hc hq;go_upto_region 8 with(fail);by_cases hd:q=m
   ·subst hd;have hqq:((q:Int) !=(q:Int))=false:=by simp
    have HP:=Qq (HNX.out (by simp));refine wp_region_held_drew (S:=fun w'=>w'.cell? (⟨b,0,none⟩)=some (.int .i64 (q:Int))/\w'.cell? (⟨b,2,none⟩)=some (.slice (some ad) rl.length cr)/\w'.cell? (ad.add k)=some (.slice Au q cu)) (by kernel_rfl) ⟨xc eb e0,xc eb e2,xc al a0⟩ (fun hHeld=> ?_);refine tk 0 hHeld ?_;refine tk 1 hHeld ?_;refine tk 2 hHeld ?_;refine tk 3 hHeld ?_;refine tk 4 hHeld ?_;refine tk 5 hHeld ?_;refine tk 6 hHeld ?_;refine tk 7 hHeld ?_;refine tk 8 hHeld ?_;refine wpAnyH_done (by kernel_rfl) ?_ _;go_wp2_with fail;go_roundw
    case rel=>exact⟨k+1,by go_num,by omega,Qq ⟨HX.out.trans Qz.drew,HP.out⟩⟩
    case measure=>simp [intOf];omega
   have hqq:((q:Int) !=(m:Int))=true:=by simp;omega
   have HE:=Qq (HHT.out (by simp;omega));refine wp_region_held_drew (S:=fun w'=>w'.cell? (⟨b,0,none⟩)=some (.int .i64 (m:Int))/\w'.cell? (⟨b,2,none⟩)=some (.slice (some ad) rl.length cr)/\w'.cell? (ad.add k)=some (.slice Au q cu)) (by kernel_rfl) ⟨xc eb e0,xc eb e2,xc al a0⟩ (fun hHeld=> ?_);refine tk 0 hHeld ?_;refine tk 1 hHeld ?_;refine tk 2 hHeld ?_;refine tk 3 hHeld ?_;refine tk 4 hHeld ?_;refine tk 5 hHeld ?_;refine tk 6 hHeld ?_;refine tk 7 hHeld ?_;refine tk 8 hHeld ?_;refine wpAnyH_done (by kernel_rfl) ?_ _;go_wp2_with fail;go_ret;exact⟨by rw [HE.out] <;> rfl,HX0.out.trans (HX.out.trans Qz.drew)⟩
  obtain rfl:rl.length=k:=by omega
  have HC3:=Qq (show Zy md=if Zx md.val m then 2 else if rl.any (fun r=>Zx r m)then 2 else 0 by rw [HC2.out,Wy HJ.out];rfl);have HXW:=Qq (HX0.out.trans HX.out);go_wp2_with fail;refine(Qj5 _ md.val m _ (HV.out.ext HXW.out) HOK.out.val hm64).mono ?_;rintro e w2 ⟨rfl,hx2⟩;have HX2:=Qq hx2;clear hx2 e0 e1 e2 eb;cases hbv:Zx md.val m
  case true =>
   have HE:=Qq (show Zy md=2 by rw [HC3.out,hbv];rfl);clear hbv;go_wp2_with fail;go_ret;exact⟨by rw [HE.out] <;> rfl,HXW.out.trans HX2.out⟩
  have HC4:=Qq (show Zy md=if rl.any (fun r=>Zx r m)then 2 else 0 by rw [HC3.out,hbv];rfl);clear hbv;have HB2:=Qq ((HX2.out.block (Qm ((HX.out.block (Qm HB.out)).trans HB.out))).trans ((HX.out.block (Qm HB.out)).trans HB.out));have HXW2:=Qq (HXW.out.trans HX2.out);go_wp2_with fail;go_loopw [4] (fun v wr=>∃k:Nat,v=.int .i64 (k:Int)/\k<=rl.length/\Hid (Ext w2 wr/\∀j,j < k->Zx (rl.getD j []) m=false)) (fun v _=>rl.length - (intOf v).toNat)
  case atStart=>exact⟨0,rfl,Nat.zero_le _,Qq ⟨Qz,fun j hj=>absurd hj (by omega)⟩⟩
  case round =>
   clear HX HJ;obtain⟨k,rfl,hk,HREL⟩:=hrel;have HX:=Qq HREL.out.1;have HJ:=Qq HREL.out.2;obtain⟨e0,e1,e2,eb⟩:=Xm ((HX.out.block (Qm HB2.out)).trans HB2.out);clear HREL;by_cases hlt2:k < rl.length
   ·have hk1:(k:Int) < (rl.length:Int):=by omega
    obtain⟨ad,u,rfl,hadl,hc,hu⟩:=HR.out k hlt2;have HXK:=Qq (HXW2.out.trans HX.out);have HU:=Qq (hu.ext HXK.out);have HUW:=Qq (Qyx HRO.out k);obtain⟨Au,cu,rfl,_⟩:=hu;have a0:=(HXK.out.cell (p:=ad.add k) (Qj hadl)).trans hc;have al:(ad.add k).block < wr.heap.size:=by rw [Qp];exact Qy hadl HXK.out.size
    have HNX:=Qq (show Zx (rl.getD k []) m=false->∀j,j < k+1->Zx (rl.getD j []) m=false from fun h=>Be (P:=fun j=>Zx (rl.getD j []) m=false) HJ.out h);have HHT:=Qq (show Zx (rl.getD k []) m=true->Zy md=2 from fun h=>by rw [HC4.out,if_pos (Qzs (P:=fun r=>Zx r m) hlt2 h)]);obtain⟨q,hq⟩:∃q,q=rl.getD k []:=⟨_,rfl⟩;rw [<-hq]at a0 HNX HHT HU HUW;clear hc hq;go_upto_region 15 with(fail);obtain⟨wq,hwq⟩:∃v,v=wr:=⟨_,rfl⟩;subst hwq;refine wp_region_held_drew (S:=fun w'=>w'.cell? (⟨b,0,none⟩)=some (.int .i64 (m:Int))/\w'.cell? (⟨b,2,none⟩)=some (.slice (some ad) rl.length cr)/\w'.cell? (ad.add k)=some (.slice Au q.length cu)) (by kernel_rfl) ⟨xc eb e0,xc eb e2,xc al a0⟩ (fun hHeld=> ?_)
    refine tk 0 hHeld ?_;refine tk 1 hHeld ?_;refine tk 2 hHeld ?_;refine tk 3 hHeld ?_;refine tk 4 hHeld ?_;refine tk 5 hHeld ?_;refine tk 6 hHeld ?_;refine wpAnyH_ready (rs:= [7]) (by kernel_rfl) (by simp) ?_;refine AllReadyH.cons rfl (fun K hK=> ?_) AllReadyH.nil;go_simp;refine(Qj5 _ q m _ (HU.out.ext (by repeat(first|exact Qz|assumption|apply Ext.alloc|apply Ext.drew|apply Ext.setCell))) HUW.out hm64).mono ?_;rintro e w3 ⟨rfl,hx0⟩;have hx3:Ext wq w3:=Ext.trans (by repeat(first|exact Qz|assumption|apply Ext.alloc|apply Ext.drew|apply Ext.setCell)) hx0;have HX3:=Qq hx3;clear hx0;go_wp2_with fail
    refine hK.out _ _ ⟨xc eb e0,xc eb e2,xc al a0⟩ (fun hHeld=> ?_);clear hK K;refine Qd ?_;refine wpAnyH_done (by kernel_rfl) ?_ _;cases hd:Zx q m
    ·have HP:=Qq (HNX.out hd);clear hd;go_wp2_with fail;go_roundw
     case rel=>exact⟨k+1,by go_num,by omega,Qq ⟨HX.out.trans HX3.out,HP.out⟩⟩
     case measure=>simp [intOf];omega
    have HE:=Qq (HHT.out hd);clear hd;go_wp2_with fail;go_ret;exact⟨by rw [HE.out] <;> rfl,HXK.out.trans HX3.out⟩
   obtain rfl:rl.length=k:=by omega
   have HE:=Qq (show Zy md=0 by rw [HC4.out,Wy (P:=fun r=>Zx r m) HJ.out];rfl);go_wp2_with fail;go_ret;exact⟨by rw [HE.out] <;> rfl,HXW2.out.trans HX.out⟩
theorem Qlk(v:Value)(l:List Nat)(q:Int)(w:World)(h:Ji w v l)(hw:∀s∈l,Zj s)(h0:0 < l.length)(hq:q=1\/q=2\/q=4\/q=5):
 Calls Tryz.prog 109 #[v,.int .i64 q] w fun e w'=>∃b:Bool,e=.returned (.bool b)/\Ext w w'/\(b=true↔Xb l=true/\Ve q l):=by
 have H:=Qq h;have HW:=Qq hw;obtain⟨A,c,rfl,hlc,hcm,HL⟩:=Gc h;unfold maxLen at hcm;obtain⟨iU,hiU,hzU0,hzU1,hzU2⟩:=info_parts Mv;clear h hw;cases hv:Xb l
 ·have HV:=Qq hv;clear hv;go_enter Tryz.func109,Tryz.ntmps109;go_wp2_with fail;refine(Bl _ l _ H.out HW.out).mono ?_;rintro e w2 ⟨rfl,hx2⟩;rw [HV.out];have HX2:=Qq hx2;clear hx2;go_wp2_with fail;go_ret
  first
  |exact⟨false,rfl,HX2.out,by simp⟩
  |exact⟨.inl ⟨rfl,by simp⟩,HX2.out⟩
  |exact .inl ⟨rfl,HX2.out,by simp⟩
  |exact⟨rfl,HX2.out,by simp⟩
 have HV:=Qq hv;have hl64:=(Ul.1 hv).1;obtain⟨ad,rfl,hadl,_⟩:=HL.out 0 h0;obtain⟨n,hn⟩:∃n,n=l.length:=⟨_,rfl⟩;have HN:=Qq hn;clear hv;have HAD:=Qq (show ∀i,i < l.length->w.cell? (ad.add i)=some (.int .u64 ((l.getD i 0:Nat):Int))from fun i hi=>by
  obtain⟨ad2,e,_,hc⟩:=HL.out i hi;injection e with e;subst e;exact hc)
 rw [<-hn]at H hl64 h0⊢;have hm1:0+n<=maxLen:=by unfold maxLen;omega
 have hm2:(0+n)*8<=140737488355328:=by omega
 clear hn HL;rcases hq with rfl|rfl|rfl|rfl
 ·skip
  go_enter Tryz.func109,Tryz.ntmps109;go_wp2_with fail;refine(Bl _ l _ H.out HW.out).mono ?_;rintro e w2 ⟨rfl,hx2⟩;rw [HV.out];have HX2:=Qq hx2;have HNEW:=Qq (show ∀(j:Nat) u,(uV l)[j]?=some u->(w2.alloc (.cells #[] 41)).cell? (ad.add j)=some u from Fo fun i hi=>((hx2.alloc _).cell (p:=ad.add i) (Qj hadl)).trans (HAD.out i hi));have HRE:=Qq (Dl w2 41);clear hx2;go_wp2_with(at_builtin;refine wpList_append_own_at _ rfl _ _ 23 rfl w2.heap.size 41 iU (.int .u64 0) 1 8 Tryz.underlying23 hiU hzU0 hzU1 hzU2 rfl (by decide) _ 0 [] rfl HRE.out ad n c (uV l) rfl (by rw [Mc,Nat.mul_one];exact HN.out.symm) HNEW.out (Mh l) hm1 hm2 (by simp) ?_)
  intro v3 w3 hown3 hgrow3 _ _;have HX3:=Qq (show Ext w w3 from(HX2.out.alloc _).grown hgrow3 (fun k hk=>by have h1:=HX2.out.size;have h2:w2.heap.size=k:=Option.some.inj hk;omega));have HM:=Qq (show Jz w.heap.size w3 v3 l by
   unfold Jz;rw [<-HN.out];exact Xk hown3 HX2.out.size)
  clear hown3 hgrow3;obtain⟨g,cap,rfl,hgl,hgb,_,hcm2,_,_⟩:=HM.out.slice (by rw [<-HN.out];exact h0);rw [<-HN.out]at HM⊢;clear hgl;go_wp2_with fail;go_loopw [6] (fun v wr=>∃k:Nat,v=.int .i64 (k:Int)/\k<=n/\Hid (Ext w3 wr/\∀j,j < k->l.getD j 0≠0)) (fun v _=>n - (intOf v).toNat)
  case atStart=>exact⟨0,rfl,Nat.zero_le _,Qq ⟨Qz,fun j hj=>absurd hj (by omega)⟩⟩
  case round =>
   obtain⟨k,rfl,hk,HREL⟩:=hrel;have HX:=Qq HREL.out.1;have HJ:=Qq HREL.out.2;have HXW:=Qq (HX3.out.trans HX.out);clear HREL;by_cases hlt2:k < n
   ·have hk1:(k:Int) < (n:Int):=by omega
    have a0:=(HXW.out.cell (p:=ad.add k) (Qj hadl)).trans (HAD.out k (by rw [<-HN.out];exact hlt2));have al:(ad.add k).block < wr.heap.size:=by rw [Qp];exact Qy hadl HXW.out.size
    have HNX:=Qq (show l.getD k 0≠0->∀j,j < k+1->l.getD j 0≠0 from fun h=>Be (P:=fun j=>l.getD j 0≠0) HJ.out h);have HHT:=Qq (show l.getD k 0=0->¬Ve 1 l from fun h hp=>by
     unfold Ve at hp;rw [if_pos rfl]at hp;exact hp k (by rw [<-HN.out];exact hlt2) h)
    obtain⟨x,hx⟩:∃x,x=l.getD k 0:=⟨_,rfl⟩;rw [<-hx]at a0 HNX HHT;clear hx;by_cases hz:x=0
    ·have hzb:((x:Int)==0)=true:=by rw [hz];rfl
     have HE:=Qq (HHT.out hz);clear hz;go_wp2_with fail;go_ret
     first
     |exact⟨false,rfl,HXW.out,iff_of_false (by decide) fun h=>HE.out h.2⟩
     |exact .inl ⟨rfl,HXW.out,fun _=>HE.out⟩
     |exact .inl ⟨rfl,HXW.out,fun h=>absurd h HE.out⟩
    have hzb:((x:Int)==0)=false:=by rw [beq_eq_false_iff_ne];omega
    have HP:=Qq (HNX.out hz);clear hz;go_wp2_with fail;go_roundw
    case rel=>exact⟨k+1,by go_num,by omega,Qq ⟨HX.out,HP.out⟩⟩
    case measure=>simp [intOf];omega
   obtain rfl:n=k:=by omega
   have HP:=Qq (show Ve 1 l by
    unfold Ve;rw [if_pos rfl,<-HN.out];exact HJ.out)
   go_wp2_with fail;refine(Lr _ _ l l _ (HM.out.u64s.ext HX.out) (H.out.ext HXW.out)).mono ?_;rintro e w5 ⟨rfl,hx5⟩;rw [decide_eq_true (show l=l from rfl)];have HX5:=Qq (HXW.out.trans hx5);clear hx5;go_wp2_with fail;go_ret
   first
   |exact⟨true,rfl,HX5.out,iff_of_true rfl ⟨HV.out,HP.out⟩⟩
   |exact⟨true,rfl,HX5.out,iff_of_true rfl ⟨trivial,HP.out⟩⟩
 ·skip
  go_enter Tryz.func109,Tryz.ntmps109;go_wp2_with fail;refine(Bl _ l _ H.out HW.out).mono ?_;rintro e w2 ⟨rfl,hx2⟩;rw [HV.out];have HX2:=Qq hx2;have HNEW:=Qq (show ∀(j:Nat) u,(uV l)[j]?=some u->(w2.alloc (.cells #[] 41)).cell? (ad.add j)=some u from Fo fun i hi=>((hx2.alloc _).cell (p:=ad.add i) (Qj hadl)).trans (HAD.out i hi));have HRE:=Qq (Dl w2 41);clear hx2;go_wp2_with(at_builtin;refine wpList_append_own_at _ rfl _ _ 23 rfl w2.heap.size 41 iU (.int .u64 0) 1 8 Tryz.underlying23 hiU hzU0 hzU1 hzU2 rfl (by decide) _ 0 [] rfl HRE.out ad n c (uV l) rfl (by rw [Mc,Nat.mul_one];exact HN.out.symm) HNEW.out (Mh l) hm1 hm2 (by simp) ?_)
  intro v3 w3 hown3 hgrow3 _ _;have HX3:=Qq (show Ext w w3 from(HX2.out.alloc _).grown hgrow3 (fun k hk=>by have h1:=HX2.out.size;have h2:w2.heap.size=k:=Option.some.inj hk;omega));have HM:=Qq (show Jz w.heap.size w3 v3 l by
   unfold Jz;rw [<-HN.out];exact Xk hown3 HX2.out.size)
  clear hown3 hgrow3;obtain⟨g,cap,rfl,hgl,hgb,_,hcm2,_,_⟩:=HM.out.slice (by rw [<-HN.out];exact h0);rw [<-HN.out]at HM⊢;clear hgl;go_wp2_with fail;refine(Qyi _ l _ (H.out.ext HX3.out) HW.out HV.out (by rw [<-HN.out];exact h0)).mono ?_;rintro e w4 ⟨u,rfl,hx4,hm4⟩;have HX4:=Qq (HX3.out.trans hx4);have HM4:=Qq hm4;obtain⟨out,hout⟩:∃o,o=Ba l l.length:=⟨_,rfl⟩;have HIFF:=Qq (show out=l↔Ve 2 l by rw [hout,Qmp];unfold Ve;rw [if_neg (by decide),if_pos rfl]);rw [<-hout]at HM4 hm4;clear hout hx4;obtain⟨Au,cu,rfl,_⟩:=hm4.u64s;clear hm4;go_wp2_with fail;refine(Lr _ _ out l _ HM4.out.u64s (H.out.ext HX4.out)).mono ?_
  rintro e w5 ⟨rfl,hx5⟩;have HX5:=Qq (HX4.out.trans hx5);clear hx5;cases hd:decide (out=l)
  ·have HE:=Qq (show ¬Ve 2 l from fun h=>of_decide_eq_false hd (HIFF.out.2 h));clear hd;go_wp2_with fail;go_ret
   first
   |exact⟨false,rfl,HX5.out,iff_of_false (by decide) fun h=>HE.out h.2⟩
   |exact .inl ⟨rfl,HX5.out,fun _=>HE.out⟩
  have HE:=Qq (show Ve 2 l from HIFF.out.1 (of_decide_eq_true hd));clear hd;go_wp2_with fail;go_ret
  first
  |exact⟨true,rfl,HX5.out,iff_of_true rfl ⟨HV.out,HE.out⟩⟩
  |exact⟨true,rfl,HX5.out,iff_of_true rfl ⟨trivial,HE.out⟩⟩
 ·skip
  go_enter Tryz.func109,Tryz.ntmps109;go_wp2_with fail;refine(Bl _ l _ H.out HW.out).mono ?_;rintro e w2 ⟨rfl,hx2⟩;rw [HV.out];have HX2:=Qq hx2;have HNEW:=Qq (show ∀(j:Nat) u,(uV l)[j]?=some u->(w2.alloc (.cells #[] 41)).cell? (ad.add j)=some u from Fo fun i hi=>((hx2.alloc _).cell (p:=ad.add i) (Qj hadl)).trans (HAD.out i hi));have HRE:=Qq (Dl w2 41);clear hx2;go_wp2_with(at_builtin;refine wpList_append_own_at _ rfl _ _ 23 rfl w2.heap.size 41 iU (.int .u64 0) 1 8 Tryz.underlying23 hiU hzU0 hzU1 hzU2 rfl (by decide) _ 0 [] rfl HRE.out ad n c (uV l) rfl (by rw [Mc,Nat.mul_one];exact HN.out.symm) HNEW.out (Mh l) hm1 hm2 (by simp) ?_)
  intro v3 w3 hown3 hgrow3 _ _;have HX3:=Qq (show Ext w w3 from(HX2.out.alloc _).grown hgrow3 (fun k hk=>by have h1:=HX2.out.size;have h2:w2.heap.size=k:=Option.some.inj hk;omega));have HM:=Qq (show Jz w.heap.size w3 v3 l by
   unfold Jz;rw [<-HN.out];exact Xk hown3 HX2.out.size)
  clear hown3 hgrow3;obtain⟨g,cap,rfl,hgl,hgb,_,hcm2,_,_⟩:=HM.out.slice (by rw [<-HN.out];exact h0);rw [<-HN.out]at HM⊢;clear hgl;go_wp2_with fail;refine(Qjp _ l _ (H.out.ext HX3.out) HW.out HV.out (by rw [<-HN.out];exact h0)).mono ?_;rintro e w4 ⟨u,rfl,hx4,out,hm4,hif⟩;have HX4:=Qq (HX3.out.trans hx4);have HM4:=Qq hm4;have HIFF:=Qq (show out=l↔Ve 4 l by rw [hif];unfold Ve;rw [if_neg (by decide),if_neg (by decide),if_pos rfl]);clear hx4 hif;obtain⟨Au,cu,rfl,_⟩:=hm4.u64s;clear hm4;go_wp2_with fail;refine(Lr _ _ out l _ HM4.out.u64s (H.out.ext HX4.out)).mono ?_;rintro e w5 ⟨rfl,hx5⟩
  have HX5:=Qq (HX4.out.trans hx5);clear hx5;cases hd:decide (out=l)
  ·have HE:=Qq (show ¬Ve 4 l from fun h=>of_decide_eq_false hd (HIFF.out.2 h));clear hd;go_wp2_with fail;go_ret
   first
   |exact⟨false,rfl,HX5.out,iff_of_false (by decide) fun h=>HE.out h.2⟩
   |exact .inl ⟨rfl,HX5.out,fun _=>HE.out⟩
  have HE:=Qq (show Ve 4 l from HIFF.out.1 (of_decide_eq_true hd));clear hd;go_wp2_with fail;go_ret
  first
  |exact⟨true,rfl,HX5.out,iff_of_true rfl ⟨HV.out,HE.out⟩⟩
  |exact⟨true,rfl,HX5.out,iff_of_true rfl ⟨trivial,HE.out⟩⟩
 skip
 go_enter Tryz.func109,Tryz.ntmps109;go_wp2_with fail;refine(Bl _ l _ H.out HW.out).mono ?_;rintro e w2 ⟨rfl,hx2⟩;rw [HV.out];have HX2:=Qq hx2;have HNEW:=Qq (show ∀(j:Nat) u,(uV l)[j]?=some u->(w2.alloc (.cells #[] 41)).cell? (ad.add j)=some u from Fo fun i hi=>((hx2.alloc _).cell (p:=ad.add i) (Qj hadl)).trans (HAD.out i hi));have HRE:=Qq (Dl w2 41);clear hx2;go_wp2_with(at_builtin;refine wpList_append_own_at _ rfl _ _ 23 rfl w2.heap.size 41 iU (.int .u64 0) 1 8 Tryz.underlying23 hiU hzU0 hzU1 hzU2 rfl (by decide) _ 0 [] rfl HRE.out ad n c (uV l) rfl (by rw [Mc,Nat.mul_one];exact HN.out.symm) HNEW.out (Mh l) hm1 hm2 (by simp) ?_)
 intro v3 w3 hown3 hgrow3 _ _;have HX3:=Qq (show Ext w w3 from(HX2.out.alloc _).grown hgrow3 (fun k hk=>by have h1:=HX2.out.size;have h2:w2.heap.size=k:=Option.some.inj hk;omega));have HM:=Qq (show Jz w.heap.size w3 v3 l by
  unfold Jz;rw [<-HN.out];exact Xk hown3 HX2.out.size)
 clear hown3 hgrow3;obtain⟨g,cap,rfl,hgl,hgb,_,hcm2,_,_⟩:=HM.out.slice (by rw [<-HN.out];exact h0);rw [<-HN.out]at HM⊢;clear hgl;go_wp2_with fail;refine(Qj8 _ l _ (H.out.ext HX3.out) HW.out HV.out (by rw [<-HN.out];exact h0)).mono ?_;rintro e w4 ⟨u,rfl,hx4,out,hm4,hif⟩;have HX4:=Qq (HX3.out.trans hx4);have HM4:=Qq hm4;have HIFF:=Qq (show out=l↔Ve 5 l by rw [hif];unfold Ve;rw [if_neg (by decide),if_neg (by decide),if_neg (by decide)]);clear hx4 hif;obtain⟨Au,cu,rfl,_⟩:=hm4.u64s;clear hm4;go_wp2_with fail;refine(Lr _ _ out l _ HM4.out.u64s (H.out.ext HX4.out)).mono ?_;rintro e w5 ⟨rfl,hx5⟩
 have HX5:=Qq (HX4.out.trans hx5);clear hx5;cases hd:decide (out=l)
 ·have HE:=Qq (show ¬Ve 5 l from fun h=>of_decide_eq_false hd (HIFF.out.2 h));clear hd;go_wp2_with fail;go_ret
  first
  |exact⟨false,rfl,HX5.out,iff_of_false (by decide) fun h=>HE.out h.2⟩
  |exact .inl ⟨rfl,HX5.out,fun _=>HE.out⟩
 have HE:=Qq (show Ve 5 l from HIFF.out.1 (of_decide_eq_true hd));clear hd;go_wp2_with fail;go_ret
 first
 |exact⟨true,rfl,HX5.out,iff_of_true rfl ⟨HV.out,HE.out⟩⟩
 |exact⟨true,rfl,HX5.out,iff_of_true rfl ⟨trivial,HE.out⟩⟩
theorem Sc(w:World)(l:List Int)(t:TypeId)(hl:l.length<=10):Nt (w.alloc (.cells (l.map (Value.int .i64)).toArray t)) (.slice (some ⟨w.heap.size,0,none⟩) l.length l.length) l:=by
 refine⟨_,_,rfl,Nat.le_refl _,by unfold maxLen;omega,fun _=>⟨_,rfl,by simp,fun k z hk=> ?_⟩⟩;have h1:=heap_alloc_new w (.cells (l.map (Value.int .i64)).toArray t);rw [Un];have h2:(w.alloc (.cells (l.map (Value.int .i64)).toArray t)).heap[w.heap.size]?=some (Obj.cells (l.map (Value.int .i64)).toArray t (0,0)):=h1;simp only [World.cell?,h2];rw [List.getElem?_toArray,List.getElem?_map,hk];rfl
theorem Cv(lg:Int)(w:World):
 Calls Tryz.prog 44 #[.int .i64 lg] w fun e w'=>∃v,e=.returned (.tuple #[v,.int .i64 (p15 lg)])/\Ext w w'/\Hid (p15 lg=0->Nt w' v (Bg lg)):=by
 by_cases hc:0<=lg/\lg<=6
 ·have hcl:lg=0\/lg=1\/lg=2\/lg=3\/lg=4\/lg=5\/lg=6:=by omega
  clear hc;rcases hcl with rfl|rfl|rfl|rfl|rfl|rfl|rfl
  all_goals
   go_enter Tryz.func44,Tryz.ntmps44;go_wp2_with fail;go_ret2
   first
   |exact⟨_,rfl,Qz,Qq fun _=>Nt.none_ _⟩
   |exact⟨_,rfl,Qz.alloc _,Qq fun _=>Sc w [1] _ (by decide)⟩
   |exact⟨_,rfl,Qz.alloc _,Qq fun _=>Sc w [2] _ (by decide)⟩
   |exact⟨_,rfl,Qz.alloc _,Qq fun _=>Sc w [4] _ (by decide)⟩
   |exact⟨_,rfl,Qz.alloc _,Qq fun _=>Sc w [2,4] _ (by decide)⟩
   |exact⟨_,rfl,Qz.alloc _,Qq fun _=>Sc w [1,4,5] _ (by decide)⟩
   |exact⟨_,rfl,Qz.alloc _,Qq fun _=>Sc w [2,4,5] _ (by decide)⟩
 have h0:(lg==0)=false:=by rw [beq_eq_false_iff_ne];omega
 have h1:(lg==1)=false:=by rw [beq_eq_false_iff_ne];omega
 have h2:(lg==2)=false:=by rw [beq_eq_false_iff_ne];omega
 have h3:(lg==3)=false:=by rw [beq_eq_false_iff_ne];omega
 have h4:(lg==4)=false:=by rw [beq_eq_false_iff_ne];omega
 have h5:(lg==5)=false:=by rw [beq_eq_false_iff_ne];omega
 have h6:(lg==6)=false:=by rw [beq_eq_false_iff_ne];omega
 have HC:=Qq (show p15 lg=1 from if_neg hc);clear hc;go_enter Tryz.func44,Tryz.ntmps44;go_wp2_with fail;go_ret2;exact⟨_,by rw [HC.out] <;> rfl,Qz,Qq fun e=>by rw [HC.out]at e;cases e⟩
theorem Qcb {w:World} {A:Option Addr} {c k:Nat} {l:List Int}(h:Wz w A c l)(hk:k < l.length):∃ad,A=some ad/\ad.block < w.heap.size/\w.cell? (ad.add k)=some (.int .i64 (l.getD k 0)):=by
 obtain⟨ad,e,hl,hc⟩:=h.2.2 (by intro e;rw [e]at hk;simp at hk);exact⟨ad,e,hl,hc k _ (by rw [Qk,Qv hk];rfl)⟩
theorem Qlx(v:Value)(l:List Nat)(lg:Int)(w:World)(h:Ji w v l)(hw:∀s∈l,Zj s)(h0:0 < l.length)(hlg:0<=lg/\lg<=6)(hv:Xb l=true):
 Calls Tryz.prog 46 #[v,.int .i64 lg] w fun e w'=>∃b:Bool,e=.returned (.bool b)/\Ext w w'/\Hid (b=true↔Fh lg l):=by
 have H:=Qq h;have HW:=Qq hw;have HP0:=Qq (show p15 lg=0 from if_pos hlg);have HV:=Qq hv;obtain⟨A,c,rfl,_⟩:=h;clear hw hlg hv;go_enter Tryz.func46,Tryz.ntmps46;go_wp2_with fail;refine(Cv lg _).mono ?_;rintro e w2 ⟨vp,rfl,hx2,hi⟩;rw [HP0.out];obtain⟨Ap,cp,rfl,hia⟩:=hi.out HP0.out;have HIA:=Qq hia;have HX2:=Qq hx2;have hpl:=Qmr lg;obtain⟨ps,hps⟩:∃ps,ps=Bg lg:=⟨_,rfl⟩;have HPS:=Qq hps;rw [<-hps]at HIA hpl⊢;clear hi hia hx2 hps;go_wp2_with fail;refine(Bl _ l _ (H.out.ext HX2.out) HW.out).mono ?_;rintro e w3 ⟨rfl,hx3⟩;rw [HV.out];have HX3:=Qq hx3;have HXW:=Qq (HX2.out.trans hx3)
 clear hx3;go_wp2_with fail;go_loopw [7] (fun v wr=>∃k:Nat,v=.int .i64 (k:Int)/\k<=ps.length/\Hid (Ext w3 wr/\∀j,j < k->Ve (ps.getD j 0) l)) (fun v _=>ps.length - (intOf v).toNat)
 case atStart=>exact⟨0,rfl,Nat.zero_le _,Qq ⟨Qz,fun j hj=>absurd hj (by omega)⟩⟩
 case round =>
  obtain⟨k,rfl,hk,HREL⟩:=hrel;have HX:=Qq HREL.out.1;have HJ:=Qq HREL.out.2;clear HREL;by_cases hlt2:k < ps.length
  ·have hk1:(k:Int) < (ps.length:Int):=by omega
   obtain⟨ad,rfl,hadl,hc⟩:=Qcb HIA.out hlt2;have a0:=((HX3.out.trans HX.out).cell (p:=ad.add k) (Qj hadl)).trans hc;have al:(ad.add k).block < wr.heap.size:=by rw [Qp];exact Qy hadl (HX3.out.trans HX.out).size
   have HNX:=Qq (show Ve (ps.getD k 0) l->∀j,j < k+1->Ve (ps.getD j 0) l from fun h=>Be (P:=fun j=>Ve (ps.getD j 0) l) HJ.out h);have HMEM:=Qq (show ps.getD k 0∈Bg lg by rw [<-HPS.out,Qk,Qv hlt2];exact List.getElem_mem hlt2);obtain⟨q,hq⟩:∃q,q=ps.getD k 0:=⟨_,rfl⟩;rw [<-hq]at a0 HNX HMEM;have HQ:=Qq (Qks HMEM.out);clear hc hq;go_wp2_with fail;refine(Qlk _ l q _ (H.out.ext (HXW.out.trans HX.out)) HW.out h0 HQ.out).mono ?_;rintro e w4 ⟨b,rfl,hx4,hb⟩;have HX4:=Qq (HX.out.trans hx4);have HB:=Qq hb;clear hx4 hb;cases b
   ·have HE:=Qq (show ¬Fh lg l from fun h=>absurd (HB.out.2 ⟨HV.out,h q HMEM.out⟩) (by decide));go_wp2_with fail;go_ret
    first
    |exact⟨false,rfl,HXW.out.trans HX4.out,Qq (iff_of_false (by decide) HE.out)⟩
    |exact .inl ⟨rfl,HXW.out.trans HX4.out,Qq (iff_of_false (by decide) HE.out)⟩
   have HP:=Qq (HNX.out (HB.out.1 rfl).2);go_wp2_with fail;go_roundw
   case rel=>exact⟨k+1,by go_num,by omega,Qq ⟨HX4.out,HP.out⟩⟩
   case measure=>simp [intOf];omega
  obtain rfl:ps.length=k:=by omega
  have HE:=Qq (show Fh lg l from fun q hq=>by
   rw [<-HPS.out]at hq;obtain⟨j,hj,e⟩:=List.getElem_of_mem hq;have:=HJ.out j hj;rw [Qk,Qv hj]at this;have h2:Ve ps[j] l:=this;rw [e]at h2;exact h2)
  go_wp2_with fail;go_ret
  first
  |exact⟨true,rfl,HXW.out.trans HX.out,Qq (iff_of_true rfl HE.out)⟩
  |exact .inr ⟨rfl,HXW.out.trans HX.out,Qq (iff_of_true rfl HE.out)⟩
theorem Qcx(v:Value)(md:Md)(lg:Int)(w:World)(h:MdV w v md)(hok:md.ok):
 Calls Tryz.prog 15 #[v,.int .i64 lg] w fun e w'=>∃b:Bool,e=.returned (.bool b)/\Ext w w'/\Hid (b=true↔Fm md lg):=by
 have H:=Qq h;have HOK:=Qq hok;obtain⟨vv,vr,rfl,hv,hr⟩:=h;obtain⟨Av,cv,rfl,_⟩:=hv;obtain⟨Ar,cr,rfl,hrl1,hrl2,HR⟩:=Dc hr;unfold maxLen at hrl2;obtain⟨n,hn⟩:∃n,n=md.n:=⟨_,rfl⟩;have HN:=Qq hn;rw [<-hn]at H⊢;have HX0:=Qq (show Ext w (w.alloc (.cells #[.int .i64 n,.slice Av md.val.length cv,.slice Ar md.rel.length cr] 26))from Qz.alloc _);have HB0:=Qq (show(w.alloc (.cells #[.int .i64 n,.slice Av md.val.length cv,.slice Ar md.rel.length cr] 26)).heap[w.heap.size]?=some (.cells #[.int .i64 n,.slice Av md.val.length cv,.slice Ar md.rel.length cr] 26 (0,0))from heap_alloc_new _ _);clear hr hok hn;by_cases hlg:0<=lg/\lg<=6
 ·have HP0:=Qq (show p15 lg=0 from if_pos hlg);have HLG:=Qq hlg;clear hlg;obtain⟨z,hz⟩:∃z,z=Zy md:=⟨_,rfl⟩;have HZ:=Qq hz;clear hz;go_enter Tryz.func15,Tryz.ntmps15;go_wp2_with fail;refine(Cv lg _).mono ?_;rintro e w2 ⟨vp,rfl,hx2,hi⟩;rw [HP0.out];obtain⟨Ap,cp,rfl,_⟩:=hi.out HP0.out;have HX2:=Qq (HX0.out.trans hx2);have HB2:=Qq ((hx2.block (Qm HB0.out)).trans HB0.out);obtain⟨e0,e1,e2,eb⟩:=Xm HB2.out;clear hi hx2;go_wp2_with fail;refine(Qbj _ md _ (H.out.ext HX2.out) HOK.out).mono ?_;rintro e w3 ⟨rfl,hx3⟩;rw [<-HZ.out];have HX3:=Qq (HX2.out.trans hx3);have HB3:=Qq ((hx3.block (Qm HB2.out)).trans HB2.out)
  clear hx3 e0 e1 e2 eb;by_cases hz0:z=0
  ·subst hz0;have HCK:=Qq (show Zy md=0 from HZ.out.symm);obtain⟨rl,hrl⟩:∃l,l=md.rel:=⟨_,rfl⟩;have HRLE:=Qq hrl;have HRO:=Qq (show ∀r∈rl,∀s∈r,Zj s by rw [hrl];exact HOK.out.rel);have HRV:=Qq (show ∀r∈rl,Xb r=true/\0 < r.length by rw [hrl];exact fun r hr=>Oh HCK.out hr);rw [<-hrl]at HR HB3 hrl1⊢;clear hrl HB0 HB2;go_wp2_with fail;go_loopw [7] (fun v wr=>∃k:Nat,v=.int .i64 (k:Int)/\k<=rl.length/\Hid (Ext w3 wr/\∀j,j < k->Fh lg (rl.getD j []))) (fun v _=>rl.length - (intOf v).toNat)
   case atStart=>exact⟨0,rfl,Nat.zero_le _,Qq ⟨Qz,fun j hj=>absurd hj (by omega)⟩⟩
   case round =>
    obtain⟨k,rfl,hk,HREL⟩:=hrel;have HX:=Qq HREL.out.1;have HJ:=Qq HREL.out.2;have HXW:=Qq (HX3.out.trans HX.out);obtain⟨e0,e1,e2,eb⟩:=Xm ((HX.out.block (Qm HB3.out)).trans HB3.out);clear HREL;by_cases hlt2:k < rl.length
    ·have hk1:(k:Int) < (rl.length:Int):=by omega
     obtain⟨ad,u,rfl,hadl,hc,hu⟩:=HR.out k hlt2;have HU:=Qq (hu.ext HXW.out);have HMEM:=Qq (show rl.getD k []∈rl by rw [Qk,Qv hlt2];exact List.getElem_mem hlt2);obtain⟨Au,cu,rfl,_⟩:=hu;have a0:=(HXW.out.cell (p:=ad.add k) (Qj hadl)).trans hc;have al:(ad.add k).block < wr.heap.size:=by rw [Qp];exact Qy hadl HXW.out.size
     have HNX:=Qq (show Fh lg (rl.getD k [])->∀j,j < k+1->Fh lg (rl.getD j [])from fun h=>Be (P:=fun j=>Fh lg (rl.getD j [])) HJ.out h);obtain⟨r,hr⟩:∃r,r=rl.getD k []:=⟨_,rfl⟩;rw [<-hr]at a0 HNX HMEM HU;have HVR:=Qq (HRV.out r HMEM.out);clear hc hr;go_wp2_with fail;refine(Qlx _ r lg _ HU.out (HRO.out r HMEM.out) HVR.out.2 HLG.out HVR.out.1).mono ?_;rintro e w4 ⟨b,rfl,hx4,hb⟩;have HX4:=Qq (HX.out.trans hx4);have HB:=Qq hb.out;clear hx4 hb e0 e1 e2 eb;cases b
     ·have HE:=Qq (show ¬Fm md lg from fun h=>absurd (HB.out.2 (h.rel r (by rw [<-HRLE.out];exact HMEM.out))) (by decide));go_wp2_with fail;go_ret
      first
      |exact⟨false,rfl,HX3.out.trans HX4.out,Qq (iff_of_false (by decide) HE.out)⟩
      |exact .inl ⟨rfl,HX3.out.trans HX4.out,Qq (iff_of_false (by decide) HE.out)⟩
     have HP:=Qq (HNX.out (HB.out.1 rfl));go_wp2_with fail;go_roundw
     case rel=>exact⟨k+1,by go_num,by omega,Qq ⟨HX4.out,HP.out⟩⟩
     case measure=>simp [intOf];omega
    obtain rfl:rl.length=k:=by omega
    have HE:=Qq (show Fm md lg from⟨HLG.out,HCK.out,fun r hr=>by
     rw [<-HRLE.out]at hr;obtain⟨j,hj,e⟩:=List.getElem_of_mem hr;have:=HJ.out j hj;rw [Qk,Qv hj]at this;have h2:Fh lg rl[j]:=this;rw [e]at h2;exact h2⟩)
    go_wp2_with fail;go_ret
    first
    |exact⟨true,rfl,HXW.out,Qq (iff_of_true rfl HE.out)⟩
    |exact .inr ⟨rfl,HXW.out,Qq (iff_of_true rfl HE.out)⟩
  have HE:=Qq (show ¬Fm md lg from fun h=>hz0 (HZ.out.trans h.ck));have hzb:(z==0)=false:=by rw [beq_eq_false_iff_ne];exact hz0
  clear hz0;go_wp2_with fail;go_ret
  first
  |exact⟨false,rfl,HX3.out,Qq (iff_of_false (by decide) HE.out)⟩
  |exact .inl ⟨rfl,HX3.out,Qq (iff_of_false (by decide) HE.out)⟩
 have HP0:=Qq (show p15 lg=1 from if_neg hlg);have HE:=Qq (show ¬Fm md lg from fun h=>hlg h.lgr);clear hlg;go_enter Tryz.func15,Tryz.ntmps15;go_wp2_with fail;refine(Cv lg _).mono ?_;rintro e w2 ⟨vp,rfl,hx2,hi⟩;rw [HP0.out];have HX2:=Qq (HX0.out.trans hx2);clear hi hx2;go_wp2_with fail;go_ret
 first
 |exact⟨false,rfl,HX2.out,Qq (iff_of_false (by decide) HE.out)⟩
 |exact .inl ⟨rfl,HX2.out,Qq (iff_of_false (by decide) HE.out)⟩
theorem Ck(v:Value)(l:List Nd)(w:World)(h:Fml w v l)(hck:check l=0):
 Calls Tryz.prog 47 #[v] w fun e w'=>e=.returned (.int .i64 ((Jn (Qg l):Nat):Int))/\Ext w w':=by
 have H:=Qq h;have HH:=Qq (Jf hck).2.2.2;clear h hck;go_enter Tryz.func47,Tryz.ntmps47;go_wp2_with fail;refine(Ct _ l _ H.out).mono ?_;rintro e w1 ⟨u,rfl,hm⟩;have HX:=Qq hm.2.2;obtain⟨A,c,rfl,hcap,hmax,hread⟩:=hm.fml.1;unfold maxLen at hmax;have HR:=Qq hread;obtain⟨cl,hcl⟩:∃cl,cl=Qg l:=⟨_,rfl⟩;have HCL:=Qq hcl;rw [<-hcl]at HR hcap HH;rw [<-hcl];clear hm hread hcl;go_wp2_with fail;go_loopw [4,5] (fun out i wr=>∃k:Nat,k<=cl.length/\i=.int .i64 k/\∃m:Nat,out=.int .i64 (m:Int)/\Hid (m=Jn (cl.take k)/\Ext w1 wr)) (fun _ i _=>cl.length - (intOf i).toNat)
 case atStart=>exact⟨0,Nat.zero_le _,rfl,0,rfl,Qq ⟨rfl,Qz⟩⟩
 case round =>
  obtain⟨k,hk,rfl,m,rfl,HREL⟩:=hrel;have HME:=Qq HREL.out.1;have HX2:=Qq HREL.out.2;clear HREL;by_cases hlt2:k < cl.length
  ·have hk1:(k:Int) < (cl.length:Int):=by omega
   obtain⟨a,ha⟩:∃a,cl[k]?=some a:=⟨_,Qv hlt2⟩;obtain⟨ad,rfl,hb1,hc1⟩:=HR.out (by intro e;rw [e]at hlt2;simp at hlt2);obtain⟨a0,a1,a2,a3,a4,a5⟩:=(hc1 k a ha).keep fun p hp=>HX2.out.cell (p:=p) (by rw [hp,Qp];exact hb1)
   have hbl:(ad.add (k*6)).block < wr.heap.size:=by rw [Qp];exact Qy hb1 HX2.out.size
   have HO:=Qq (HH.out a (List.mem_of_getElem? ha));have HNX:=Qq (show Jn (cl.take (k+1))=agS m a by rw [HME.out,Yh ha];unfold Jn;rw [List.foldl_append];rfl);have hml:m < 2^4:=by rw [HME.out];exact Ni _ _ (fun n hn=>HH.out n (List.mem_of_mem_take hn)) (by decide)
   clear ha hc1;obtain⟨gn,hgn⟩:=Int.eq_ofNat_of_zero_le (Ga HO.out).1;have hg16:gn < 16:=by have:=(Ga HO.out).2;omega
   rw [hgn]at a3;have HGN:=Qq hgn;clear hgn;cases hag:Qe a.op
   ·have HST:=Qq (show agS m a=m|||gn by unfold agS;rw [hag,HGN.out];simp);have hor:=Do m gn (by omega) (by omega);obtain⟨z,hz⟩:∃z,z=m|||gn:=⟨_,rfl⟩;rw [<-hz]at hor HST;have HAG:=Qq hag;clear hz hag;go_wp2_with fail;refine(Mm a.op _).mono ?_;rintro e w2 ⟨rfl,rfl⟩;rw [HAG.out];go_wp2_with fail;go_roundw
    case rel=>exact⟨k+1,by omega,by go_num,z,rfl,Qq ⟨by rw [HNX.out,HST.out],HX2.out⟩⟩
    case measure=>simp [intOf];omega
   obtain⟨h0,h4⟩:=Xr HO.out hag;obtain⟨ai,hai⟩:=Int.eq_ofNat_of_zero_le h0;have hai4:ai < 4:=by omega
   have hmin:min ai 64=ai:=by omega
   rw [hai]at a1;have hp4:2^ai < 16:=Qy (Nat.pow_lt_pow_right (by decide) hai4) (Nat.le_refl _);have HST:=Qq (show agS m a=(m|||2^ai)|||gn by unfold agS;rw [hag,HGN.out,hai];rfl);have hor1:bits .or .i64 (m:Int) (wrap64 ((2:Int)^ai))=((m|||2^ai:Nat):Int):=by
    rw [Bj (by omega)];exact Do m (2^ai) (by omega) (by omega)
   have hm2:m|||2^ai < 2^4:=Nat.or_lt_two_pow hml hp4;have hor2:=Do (m|||2^ai) gn (by omega) (by omega);obtain⟨y,hy⟩:∃y,y=m|||2^ai:=⟨_,rfl⟩;rw [<-hy]at hor1 hor2 HST;obtain⟨z,hz⟩:∃z,z=y|||gn:=⟨_,rfl⟩;rw [<-hz]at hor2 HST;have HAG:=Qq hag;clear hy hz hag h0 h4 hai hp4 hm2;go_wp2_with fail;refine(Mm a.op _).mono ?_;rintro e w2 ⟨rfl,rfl⟩;rw [HAG.out];go_wp2_with fail;go_roundw
   case rel=>exact⟨k+1,by omega,by go_num,z,rfl,Qq ⟨by rw [HNX.out,HST.out],HX2.out⟩⟩
   case measure=>simp [intOf];omega
  obtain rfl:cl.length=k:=by omega
  have HE:=Qq (show Jn cl=m by rw [HME.out,List.take_of_length_le (Nat.le_refl _)]);go_wp2_with fail;go_ret;exact⟨by rw [<-HCL.out,HE.out] <;> rfl,HX.out.trans HX2.out⟩
theorem Eb(v:Value)(l:List Nd)(w:World)(h:Fml w v l)(hck:check l=0):
 Calls Tryz.prog 48 #[v] w fun e w'=>e=.returned (.int .i64 ((Je (Qg l):Nat):Int))/\Ext w w':=by
 have H:=Qq h;have HH:=Qq (Jf hck).2.2.2;clear h hck;go_enter Tryz.func48,Tryz.ntmps48;go_wp2_with fail;refine(Ct _ l _ H.out).mono ?_;rintro e w1 ⟨u,rfl,hm⟩;have HX:=Qq hm.2.2;obtain⟨A,c,rfl,hcap,hmax,hread⟩:=hm.fml.1;unfold maxLen at hmax;have HR:=Qq hread;obtain⟨cl,hcl⟩:∃cl,cl=Qg l:=⟨_,rfl⟩;have HCL:=Qq hcl;rw [<-hcl]at HR hcap HH;rw [<-hcl];clear hm hread hcl;go_wp2_with fail;go_loopw [4,5] (fun out i wr=>∃k:Nat,k<=cl.length/\i=.int .i64 k/\∃m:Nat,out=.int .i64 (m:Int)/\Hid (m=Je (cl.take k)/\Ext w1 wr)) (fun _ i _=>cl.length - (intOf i).toNat)
 case atStart=>exact⟨0,Nat.zero_le _,rfl,0,rfl,Qq ⟨rfl,Qz⟩⟩
 case round =>
  obtain⟨k,hk,rfl,m,rfl,HREL⟩:=hrel;have HME:=Qq HREL.out.1;have HX2:=Qq HREL.out.2;clear HREL;by_cases hlt2:k < cl.length
  ·have hk1:(k:Int) < (cl.length:Int):=by omega
   obtain⟨a,ha⟩:∃a,cl[k]?=some a:=⟨_,Qv hlt2⟩;obtain⟨ad,rfl,hb1,hc1⟩:=HR.out (by intro e;rw [e]at hlt2;simp at hlt2);obtain⟨a0,a1,a2,a3,a4,a5⟩:=(hc1 k a ha).keep fun p hp=>HX2.out.cell (p:=p) (by rw [hp,Qp];exact hb1)
   have hbl:(ad.add (k*6)).block < wr.heap.size:=by rw [Qp];exact Qy hb1 HX2.out.size
   have HO:=Qq (HH.out a (List.mem_of_getElem? ha));have HNX:=Qq (show Je (cl.take (k+1))=faS m a by rw [HME.out,Yh ha];unfold Je;rw [List.foldl_append];rfl);have hml:m < 2^8:=by rw [HME.out];exact Ss _ _ (fun n hn=>HH.out n (List.mem_of_mem_take hn)) (by decide)
   clear ha hc1;by_cases h3:a.op=3
   ·obtain⟨h0,h8⟩:=Fr HO.out h3;obtain⟨ai,hai⟩:=Int.eq_ofNat_of_zero_le h0;have hai8:ai < 8:=by omega
    have hmin:min ai 64=ai:=by omega
    rw [hai]at a1;rw [h3]at a0;have hp8:2^ai < 256:=Qy (Nat.pow_lt_pow_right (by decide) hai8) (Nat.le_refl _);have HST:=Qq (show faS m a=m|||2^ai by unfold faS;rw [if_pos h3,hai];rfl);have hor1:bits .or .i64 (m:Int) (wrap64 ((2:Int)^ai))=((m|||2^ai:Nat):Int):=by
     rw [Bj hai8];exact Do m (2^ai) (by omega) (by omega)
    obtain⟨z,hz⟩:∃z,z=m|||2^ai:=⟨_,rfl⟩;rw [<-hz]at hor1 HST;clear hz h0 h8 hai hp8 h3;go_wp2_with fail;go_roundw
    case rel=>exact⟨k+1,by omega,by go_num,z,rfl,Qq ⟨by rw [HNX.out,HST.out],HX2.out⟩⟩
    case measure=>simp [intOf];omega
   have t3:(a.op==3)=false:=by simpa using h3
   have HST:=Qq (show faS m a=m by unfold faS;rw [if_neg h3]);clear h3;go_wp2_with fail;go_roundw
   case rel=>exact⟨k+1,by omega,by go_num,m,rfl,Qq ⟨by rw [HNX.out,HST.out],HX2.out⟩⟩
   case measure=>simp [intOf];omega
  obtain rfl:cl.length=k:=by omega
  have HE:=Qq (show Je cl=m by rw [HME.out,List.take_of_length_le (Nat.le_refl _)]);go_wp2_with fail;go_ret;exact⟨by rw [<-HCL.out,HE.out] <;> rfl,HX.out.trans HX2.out⟩
theorem Qml(v:Value)(f:List Nd)(a b:Nat)(w:World)(h:Fml w v f):
 Calls Tryz.prog 16 #[v,.int .i64 (a:Int),.int .i64 (b:Int)] w fun e w'=>e=.returned (.bool (Yg f a b))/\Ext w w':=by
 have H:=Qq h;obtain⟨A,c,rfl,_⟩:=Qa h;clear h;obtain⟨z,hz⟩:∃z,z=check f:=⟨_,rfl⟩;have HZ:=Qq hz;clear hz;by_cases hz0:z=0
 ·subst hz0;have HCK:=Qq (show check f=0 from HZ.out.symm);have HF0:=Qq (show Yg f a b=((List.range 4).all (Kb a (Jn (Qg f)))&&(List.range 8).all (Kb b (Je (Qg f)))) by unfold Yg;rw [<-HZ.out];rfl);obtain⟨ma,hma⟩:∃m,m=Jn (Qg f):=⟨_,rfl⟩;obtain⟨mf,hmf⟩:∃m,m=Je (Qg f):=⟨_,rfl⟩;rw [<-hma,<-hmf]at HF0;have HMA:=Qq hma;have HMF:=Qq hmf;clear hma hmf;go_enter Tryz.func16,Tryz.ntmps16;go_wp2_with fail;refine(Vj _ f _ H.out.1).mono ?_;rintro e w1 ⟨rfl,hx1⟩;rw [HCK.out];have HX1:=Qq hx1;clear hx1;go_wp2_with fail;go_loopw [7] (fun v wr=>∃k:Nat,v=.int .i64 (k:Int)/\k<=4/\Hid (Ext w wr/\∀j,j < k->Kb a ma j=true)) (fun v _=>4 - (intOf v).toNat)
  case atStart=>exact⟨0,rfl,Nat.zero_le _,Qq ⟨HX1.out,fun j hj=>absurd hj (by omega)⟩⟩
  case round =>
   obtain⟨k,rfl,hk,HREL⟩:=hrel;have HX:=Qq HREL.out.1;have HJ:=Qq HREL.out.2;clear HREL;by_cases hlt2:k < 4
   ·have hk1:(k:Int) < 4:=by omega
    have hmin:min k 64=k:=by omega
    have hbt:=Eo ma k;have HNX:=Qq (show Kb a ma k=true->∀j,j < k+1->Kb a ma j=true from fun h=>Be (P:=fun j=>Kb a ma j=true) HJ.out h);have HHT:=Qq (show Kb a ma k=false->Yg f a b=false from fun h=>by rw [HF0.out,Qx6 hlt2 h];rfl);cases htb:ma.testBit k
    ·rw [htb]at hbt;have HP:=Qq (HNX.out (by unfold Kb;rw [htb];rfl));clear htb;go_wp2_with fail;refine(Ck _ f _ (H.out.ext HX.out) HCK.out).mono ?_;rintro e w2 ⟨rfl,hx2⟩;rw [<-HMA.out];have HX2:=Qq (HX.out.trans hx2);clear hx2;go_wp2_with fail;go_roundw
     case rel=>exact⟨k+1,by go_num,by omega,Qq ⟨HX2.out,HP.out⟩⟩
     case measure=>simp [intOf];omega
    rw [htb]at hbt;by_cases hka:k < a
    ·have HP:=Qq (HNX.out (by unfold Kb;rw [htb,decide_eq_true hka];rfl));have hka1:decide ((a:Int)<=(k:Int))=false:=decide_eq_false (by omega);have hka2:decide (a<=k)=false:=decide_eq_false (by omega);clear htb;go_wp2_with fail;refine(Ck _ f _ (H.out.ext HX.out) HCK.out).mono ?_;rintro e w2 ⟨rfl,hx2⟩;rw [<-HMA.out];have HX2:=Qq (HX.out.trans hx2);clear hx2;go_wp2_with fail;go_roundw
     case rel=>exact⟨k+1,by go_num,by omega,Qq ⟨HX2.out,HP.out⟩⟩
     case measure=>simp [intOf];omega
    have HE:=Qq (HHT.out (by unfold Kb;rw [htb,decide_eq_false hka];rfl));have hka1:decide ((a:Int)<=(k:Int))=true:=decide_eq_true (by omega);have hka2:decide (a<=k)=true:=decide_eq_true (by omega);clear htb;go_wp2_with fail;refine(Ck _ f _ (H.out.ext HX.out) HCK.out).mono ?_;rintro e w2 ⟨rfl,hx2⟩;rw [<-HMA.out];have HX2:=Qq (HX.out.trans hx2);clear hx2;go_wp2_with fail;go_ret;exact⟨by rw [HE.out] <;> rfl,HX2.out⟩
   obtain rfl:k=4:=by omega
   have HAA:=Qq (Qvw HJ.out);have HXA:=Qq HX.out;clear HX HJ;rw [show((4:Nat):Int)=4 from rfl];go_wp2_with fail;go_loopw [8] (fun v wr=>∃k:Nat,v=.int .i64 (k:Int)/\k<=8/\Hid (Ext w wr/\∀j,j < k->Kb b mf j=true)) (fun v _=>8 - (intOf v).toNat)
   case atStart=>exact⟨0,rfl,Nat.zero_le _,Qq ⟨HXA.out,fun j hj=>absurd hj (by omega)⟩⟩
   case round =>
    obtain⟨k,rfl,hk,HREL⟩:=hrel;have HX:=Qq HREL.out.1;have HJ:=Qq HREL.out.2;clear HREL;by_cases hlt2:k < 8
    ·have hk1:(k:Int) < 8:=by omega
     have hmin:min k 64=k:=by omega
     have hbt:=Eo mf k;have HNX:=Qq (show Kb b mf k=true->∀j,j < k+1->Kb b mf j=true from fun h=>Be (P:=fun j=>Kb b mf j=true) HJ.out h);have HHT:=Qq (show Kb b mf k=false->Yg f a b=false from fun h=>by rw [HF0.out,Qx6 (n:=8) hlt2 h,Bool.and_false]);cases htb:mf.testBit k
     ·rw [htb]at hbt;have HP:=Qq (HNX.out (by unfold Kb;rw [htb];rfl));clear htb;go_wp2_with fail;refine(Eb _ f _ (H.out.ext HX.out) HCK.out).mono ?_;rintro e w2 ⟨rfl,hx2⟩;rw [<-HMF.out];have HX2:=Qq (HX.out.trans hx2);clear hx2;go_wp2_with fail;go_roundw
      case rel=>exact⟨k+1,by go_num,by omega,Qq ⟨HX2.out,HP.out⟩⟩
      case measure=>simp [intOf];omega
     rw [htb]at hbt;by_cases hka:k < b
     ·have HP:=Qq (HNX.out (by unfold Kb;rw [htb,decide_eq_true hka];rfl));have hka1:decide ((b:Int)<=(k:Int))=false:=decide_eq_false (by omega);have hka2:decide (b<=k)=false:=decide_eq_false (by omega);clear htb;go_wp2_with fail;refine(Eb _ f _ (H.out.ext HX.out) HCK.out).mono ?_;rintro e w2 ⟨rfl,hx2⟩;rw [<-HMF.out];have HX2:=Qq (HX.out.trans hx2);clear hx2;go_wp2_with fail;go_roundw
      case rel=>exact⟨k+1,by go_num,by omega,Qq ⟨HX2.out,HP.out⟩⟩
      case measure=>simp [intOf];omega
     have HE:=Qq (HHT.out (by unfold Kb;rw [htb,decide_eq_false hka];rfl));have hka1:decide ((b:Int)<=(k:Int))=true:=decide_eq_true (by omega);have hka2:decide (b<=k)=true:=decide_eq_true (by omega);clear htb;go_wp2_with fail;refine(Eb _ f _ (H.out.ext HX.out) HCK.out).mono ?_;rintro e w2 ⟨rfl,hx2⟩;rw [<-HMF.out];have HX2:=Qq (HX.out.trans hx2);clear hx2;go_wp2_with fail;go_ret;exact⟨by rw [HE.out] <;> rfl,HX2.out⟩
    obtain rfl:k=8:=by omega
    have HE:=Qq (show Yg f a b=true by rw [HF0.out,HAA.out,Qvw HJ.out];rfl);go_wp2_with fail;go_ret;exact⟨by rw [HE.out] <;> rfl,HX.out⟩
 have hzb:(z==0)=false:=by rw [beq_eq_false_iff_ne];exact hz0
 have HE:=Qq (show Yg f a b=false by unfold Yg;rw [<-HZ.out,hzb];rfl);clear hz0;go_enter Tryz.func16,Tryz.ntmps16;go_wp2_with fail;refine(Vj _ f _ H.out.1).mono ?_;rintro e w1 ⟨rfl,hx1⟩;rw [<-HZ.out];have HX1:=Qq hx1;clear hx1;go_wp2_with fail;go_ret;exact⟨by rw [HE.out] <;> rfl,HX1.out⟩
theorem Qdv {w:World} {b:Nat} {a0 a1 a2 a3 a4 a5:Value} {t:TypeId}(h:w.heap[b]?=some (.cells #[a0,a1,a2,a3,a4,a5] t (0,0))):w.cell? ⟨b,0,none⟩=some a0/\w.cell? ⟨b,1,none⟩=some a1/\w.cell? ⟨b,3,none⟩=some a3/\b < w.heap.size :=
 ⟨by simp [World.cell?,h],by simp [World.cell?,h],by simp [World.cell?,h],Qm h⟩
theorem Ih {a b n:Nat}(h:a < 2^n):Yc a b < 2^n:=Qz7 fun i hi=>by
 rw [Gz,Bool.and_eq_true]at hi;exact Vm h hi.1
theorem Mx(n:Nat):Zl n < 2^n:=by
 unfold Zl;have:=Nat.two_pow_pos n;omega
theorem Qpr {op:Int} {x y n:Nat}(hx:x < 2^n)(hy:y < 2^n):Re op x y (Zl n) < 2^n:=by
 have h:=Nat.two_pow_pos n;unfold Re
 repeat' split
 ·exact Mx n
 ·exact Ih (Mx n)
 ·exact Nat.lt_of_le_of_lt Nat.and_le_left hx
 ·exact Nat.or_lt_two_pow hx hy
 ·exact Nat.or_lt_two_pow (Ih (Mx n)) hy
 ·exact Ih (Mx n)
 exact h
theorem Qe0 {md:Md}(hck:Zy md=0) {n:Nd} {x y:Nat}(hx:x < 2^md.n.toNat)(hy:y < 2^md.n.toNat):Qjf md n x y < 2^md.n.toNat:=by
 unfold Qjf
 split
 ·have hb:=(Jv hck).2.2.2.2.2.1;unfold Zx at hb;rw [List.any_eq_false]at hb;rw [Qk];cases e:md.val[n.i.toNat]? with
  |none=>exact Nat.two_pow_pos _
  |some s =>
   have:=hb s (List.mem_of_getElem? e)
   simpa using this
 split
 ·exact Qpr hx hy
 split
 ·exact Bs _ _
 split
 ·exact Ih (Mx _)
 split
 ·exact Bs _ _
 split
 ·exact Bs _ _
 exact Bs _ _
theorem Hw {l:List Nat} {b:Nat}(h:∀s∈l,s < b)(hb:0 < b)(i:Nat):l.getD i 0 < b:=by
 rw [Qk];cases e:l[i]? with
 |none=>exact hb
 |some s=>exact h s (List.mem_of_getElem? e)
end Go.Proofs.YtkmclcmnoicagaaGreatDoor
