/- The reference's checker: One. -/
import Derived.Test.YtbfeodammikajaaGreatM01
import Derived.Test.YtbfeodammikajaaGreatM31
import Derived.Test.YtbfeodammikajaaGreatM11
import Derived.Test.YtbfeodammikajaaGreatM23
import Derived.Test.YtbfeodammikajaaGreatM09
import Derived.Test.YtbfeodammikajaaGreatM27
namespace Go.Proofs.YtbfeodammikajaaGreat
set_option maxRecDepth 100000
set_option maxHeartbeats 128000000
open Go.RowKit
structure FitNd (md:Md) (n:Nd):Prop where
 head:headOk n
 op:n.op<=13
 fact:n.op=3->n.i < md.val.length
 agent:n.op=9\/n.op=10->n.i < md.rel.length
 group:11<=n.op->1<=n.g/\n.g.toNat < 2^md.rel.length
def oneN(md:Md)(n:Nd)(x y:Nat):Nat :=
 if n.op=3 then md.val.getD n.i.toNat 0 else if n.op<=8 then boolN n.op x y (allW md.n.toNat)
 else if n.op=9 then boxN (md.rel.getD n.i.toNat []) md.n.toNat x
 else if n.op=10 then difN (allW md.n.toNat) (boxN (md.rel.getD n.i.toNat []) md.n.toNat (difN (allW md.n.toNat) x))
 else if n.op=11 then boxN ((List.range md.n.toNat).map (grpN md.rel n.g.toNat false md.n.toNat)) md.n.toNat x
 else if n.op=12 then boxN ((List.range md.n.toNat).map (grpN md.rel n.g.toNat true md.n.toNat)) md.n.toNat x
 else commonM ((List.range md.n.toNat).map (grpN md.rel n.g.toNat false md.n.toNat)) md.n.toNat x y
theorem grp_list {md:Md}(hok:md.ok) {gn N:Nat} {meet:Bool}(hN:N<=64):((List.range N).map (grpN md.rel gn meet N)).length=N/\∀s∈(List.range N).map (grpN md.rel gn meet N),word s:=by
 refine⟨by simp,fun s hs=> ?_⟩;obtain⟨i,_,rfl⟩:=List.mem_map.1 hs;exact grp_word hok.rel hN
theorem box_word {r:List Nat} {n s:Nat}(hn:n<=64):word (boxN r n s):=mask_word hn _
theorem cells6y {w:World} {b:Nat} {a0 a1 a2 a3 a4 a5:Value} {t:TypeId}(h:w.heap[b]?=some (.cells #[a0,a1,a2,a3,a4,a5] t (0,0))):w.cell? ⟨b,0,none⟩=some a0/\w.cell? ⟨b,1,none⟩=some a1/\w.cell? ⟨b,3,none⟩=some a3/\b < w.heap.size :=
 ⟨by simp [World.cell?,h],by simp [World.cell?,h],by simp [World.cell?,h],lt_heap h⟩
theorem one17_any(vm:Value)(md:Md)(n:Nd)(x y:Nat)(w:World)(hm:MdV w vm md)(hok:md.ok)(hck:checkM md=0)(hn:FitNd md n)(hx:word x)(hy:word y):
 Calls Tryz.prog 91 #[vm,n.val,.int .u64 (x:Int),.int .u64 (y:Int)] w fun e w'=>e=.returned (.int .u64 ((oneN md n x y:Nat):Int))/\Ext w w':=by
 obtain⟨hn1,hn64,hr4,hv8,hrl0,_,_⟩:=checkM_zero hck;obtain⟨N,hNN⟩:=Int.eq_ofNat_of_zero_le (show 0<=md.n by omega);have hNt:md.n.toNat=N:=by rw [hNN];exact Int.toNat_natCast N
 have HM:=Qq hm;have HOK:=Qq hok;have HCK:=Qq hck;have HFN:=Qq hn;have HXW:=Qq hx;have HYW:=Qq hy;obtain⟨vv,vr,rfl,hv,hr⟩:=hm;obtain⟨Av,cv,rfl,_,_,HV⟩:=u64_at hv;obtain⟨Ar,cr,rfl,_,_,HR⟩:=u64ss_at hr;have hN64:N<=64:=by omega
 have HO1:=Qq (show oneN md n x y=if n.op=3 then md.val.getD n.i.toNat 0 else if n.op<=8 then boolN n.op x y (allW N)
  else if n.op=9 then boxN (md.rel.getD n.i.toNat []) N x
  else if n.op=10 then difN (allW N) (boxN (md.rel.getD n.i.toNat []) N (difN (allW N) x))
  else if n.op=11 then boxN ((List.range N).map (grpN md.rel n.g.toNat false N)) N x
  else if n.op=12 then boxN ((List.range N).map (grpN md.rel n.g.toNat true N)) N x
  else commonM ((List.range N).map (grpN md.rel n.g.toNat false N)) N x y by unfold oneN;rw [hNt])
 have HRL:=Qq (show ∀r∈md.rel,r.length=N from fun r hr=>by have:=hrl0 r hr;omega);have HNN:=Qq hNN;have HNT:=Qq hNt;rw [hNN]at HM⊢;unfold Nd.val;have hop:=hn.op;clear hok hck hn hx hy hv hr hn1 hn64 hrl0 hNN hNt;obtain⟨W0,hW0⟩:∃W,W=(w.alloc (.cells #[.int .i64 (N:Int),.slice Av md.val.length cv,.slice Ar md.rel.length cr] 38)).alloc (.cells #[.int .i64 n.op,.int .i64 n.i,.int .i64 n.e,.int .i64 n.g,.int .i64 n.x,.int .i64 n.y] 93):=⟨_,rfl⟩;have HX0:=Qq (show Ext w W0 by rw [hW0];exact(Qz.alloc _).alloc _);obtain⟨b,hb⟩:∃b,b=w.heap.size:=⟨_,rfl⟩;have HBM:=Qq (show W0.heap[b]?=some (.cells #[.int .i64 (N:Int),.slice Av md.val.length cv,.slice Ar md.rel.length cr] 38 (0,0)) by rw [hW0,hb];exact((Qz.alloc _).block (by simp)).trans (heap_alloc_new _ _))
 have HBN:=Qq (show W0.heap[b+1]?=some (.cells #[.int .i64 n.op,.int .i64 n.i,.int .i64 n.e,.int .i64 n.g,.int .i64 n.x,.int .i64 n.y] 93 (0,0)) by
  have h1:=heap_alloc_new (w.alloc (.cells #[.int .i64 (N:Int),.slice Av md.val.length cv,.slice Ar md.rel.length cr] 38)) (.cells #[.int .i64 n.op,.int .i64 n.i,.int .i64 n.e,.int .i64 n.g,.int .i64 n.x,.int .i64 n.y] 93);rw [hW0,hb]
  simpa using h1)
 obtain⟨e0,e1,e2,eb⟩:=cells3y HBM.out;obtain⟨c0,c1,c3,cb⟩:=cells6y HBN.out;go_enter Tryz.func91,Tryz.ntmps91;go_upto_region 1 with(fail);rw [<-hW0,<-hb];clear hW0 hb;go_wp2_with fail;refine(rAll13_any N hN64 _).mono ?_;rintro e w1 ⟨rfl,rfl⟩;by_cases h3:n.op=3
 ·obtain⟨h0,h8⟩:=head_fact HFN.out.head h3;obtain⟨k,hk⟩:=Int.eq_ofNat_of_zero_le h0;have hkl:k < md.val.length:=by have:=HFN.out.fact h3;omega
  have hk1:(k:Int) < (md.val.length:Int):=by omega
  have HE:=Qq (show oneN md n x y=md.val.getD k 0 by rw [HO1.out,if_pos h3,hk];rfl);obtain⟨ad,rfl,hadl,hc⟩:=HV.out k hkl;have a0:=(HX0.out.cell (p:=ad.add k) (Qj hadl)).trans hc;have al:(ad.add k).block < W0.heap.size:=by rw [block_of_add];exact Qy hadl HX0.out.size
  rw [hk]at c1;rw [h3]at c0;clear h0 h8 hk hkl hc h3;go_wp2_with fail;go_ret;exact⟨by rw [HE.out] <;> rfl,HX0.out⟩
 by_cases h8:n.op<=8
 ·have HE:=Qq (show oneN md n x y=boolN n.op x y (allW N) by rw [HO1.out,if_neg h3,if_pos h8]);have t3:(n.op==3)=false:=by simpa using h3
  clear h3;go_wp2_with fail;refine(boolean_any n.op x y (allW N) _ HXW.out HYW.out (allw_word hN64)).mono ?_;rintro e w2 ⟨rfl,rfl⟩;go_wp2_with fail;go_ret;exact⟨by rw [HE.out] <;> rfl,HX0.out⟩
 have HX:=HX0;obtain⟨al,hal⟩:∃a,a=allW N:=⟨_,rfl⟩;have HAL:=Qq hal;rw [<-hal];clear hal;by_cases h9:n.op=9
 ·obtain⟨h0,h4⟩:=head_agent HFN.out.head (by rw [h9];rfl);obtain⟨k,hk⟩:=Int.eq_ofNat_of_zero_le h0;have hkl:k < md.rel.length:=by have:=HFN.out.agent (by omega);omega
  have hk1:(k:Int) < (md.rel.length:Int):=by omega
  have HE:=Qq (show oneN md n x y=boxN (md.rel.getD k []) N x by rw [HO1.out,if_neg h3,if_neg h8,if_pos h9,hk];rfl);obtain⟨ad,u,rfl,hadl,hc,hu⟩:=HR.out k hkl;have HU:=Qq (hu.ext HX0.out);have HUW:=Qq (getD_words HOK.out.rel k);have hrlen:(md.rel.getD k []).length=N:=HRL.out _ (by rw [Qk,Qv hkl];exact List.getElem_mem hkl);obtain⟨Au,cu,rfl,_⟩:=hu;rw [hrlen]at HU hc;have HLN:=Qq hrlen;have a0:=(HX0.out.cell (p:=ad.add k) (Qj hadl)).trans hc;have adl:(ad.add k).block < W0.heap.size:=by rw [block_of_add];exact Qy hadl HX0.out.size
  rw [hk]at c1;rw [h9]at c0;clear h0 h4 hk hkl hc h3 h8 h9 hrlen hop;go_upto_region 7 with(fail);refine wp_region_held_drew (S:=fun w'=>w'.cell? (⟨b,0,none⟩)=some (.int .i64 (N:Int))/\w'.cell? (⟨b,2,none⟩)=some (.slice (some ad) md.rel.length cr)/\w'.cell? (⟨b+1,1,none⟩)=some (.int .i64 (k:Int))/\w'.cell? (ad.add k)=some (.slice Au N cu)) (by kernel_rfl) ⟨xc eb e0,xc eb e2,xc cb c1,xc adl a0⟩ (fun hHeld=> ?_);refine tk 0 hHeld ?_;refine tk 1 hHeld ?_;refine tk 2 hHeld ?_;refine tk 3 hHeld ?_;refine tk 4 hHeld ?_;refine tk 5 hHeld ?_;refine tk 6 hHeld ?_;refine tk 7 hHeld ?_;refine tk 8 hHeld ?_;refine wpAnyH_ready (rs:= [9]) (by kernel_rfl) (by simp) ?_
  refine AllReadyH.cons rfl (fun K hK=> ?_) AllReadyH.nil;go_simp;refine(box_any _ (md.rel.getD k []) N x _ (HU.out.ext xv) HUW.out hN64 (by rw [HLN.out];exact Nat.le_refl _) HXW.out).mono ?_;rintro e w3 ⟨rfl,hx0⟩;have hx3:Ext W0 w3:=Ext.trans xv hx0;have HX3:=Qq hx3;clear hx0;go_wp2_with fail;refine hK.out _ _ ⟨xc eb e0,xc eb e2,xc cb c1,xc adl a0⟩ (fun hHeld=> ?_);clear hK K;refine Qd ?_;refine tk 10 hHeld ?_;refine wpAnyH_done (by kernel_rfl) ?_ _;go_wp2_with fail;go_ret;exact⟨by rw [HE.out] <;> rfl,HX0.out.trans HX3.out⟩
 by_cases h9:n.op=10
 ·obtain⟨h0,h4⟩:=head_agent HFN.out.head (by rw [h9];rfl);obtain⟨k,hk⟩:=Int.eq_ofNat_of_zero_le h0;have hkl:k < md.rel.length:=by have:=HFN.out.agent (by omega);omega
  have hk1:(k:Int) < (md.rel.length:Int):=by omega
  have HE:=Qq (show oneN md n x y=difN al (boxN (md.rel.getD k []) N (difN al x)) by rw [HO1.out,if_neg h3,if_neg h8,if_neg (by omega),if_pos h9,hk,<-HAL.out];rfl);have hd1:=bits_andNot (a:=al) (by rw [HAL.out];exact allw_word hN64) HXW.out;have HDW:=Qq (show word (difN al x)from dif_word (by rw [HAL.out];exact allw_word hN64));have hd2:=bits_andNot (a:=al) (b:=boxN (md.rel.getD k []) N (difN al x)) (by rw [HAL.out];exact allw_word hN64) (box_word hN64);obtain⟨dx,hdx⟩:∃d,d=difN al x:=⟨_,rfl⟩;rw [<-hdx]at HE hd1 hd2 HDW;obtain⟨bx,hbx⟩:∃d,d=boxN (md.rel.getD k []) N dx:=⟨_,rfl⟩;rw [<-hbx]at HE hd2;have HBX:=Qq hbx
  obtain⟨dz,hdz⟩:∃d,d=difN al bx:=⟨_,rfl⟩;rw [<-hdz]at HE hd2;clear hdx hbx hdz;obtain⟨ad,u,rfl,hadl,hc,hu⟩:=HR.out k hkl;have HU:=Qq (hu.ext HX0.out);have HUW:=Qq (getD_words HOK.out.rel k);have hrlen:(md.rel.getD k []).length=N:=HRL.out _ (by rw [Qk,Qv hkl];exact List.getElem_mem hkl);obtain⟨Au,cu,rfl,_⟩:=hu;rw [hrlen]at HU hc;have HLN:=Qq hrlen;have a0:=(HX0.out.cell (p:=ad.add k) (Qj hadl)).trans hc;have adl:(ad.add k).block < W0.heap.size:=by rw [block_of_add];exact Qy hadl HX0.out.size
  rw [hk]at c1;rw [h9]at c0;clear h0 h4 hk hkl hc h3 h8 h9 hrlen hop;go_upto_region 9 with(fail);refine wp_region_held_drew (S:=fun w'=>w'.cell? (⟨b,0,none⟩)=some (.int .i64 (N:Int))/\w'.cell? (⟨b,2,none⟩)=some (.slice (some ad) md.rel.length cr)/\w'.cell? (⟨b+1,1,none⟩)=some (.int .i64 (k:Int))/\w'.cell? (ad.add k)=some (.slice Au N cu)) (by kernel_rfl) ⟨xc eb e0,xc eb e2,xc cb c1,xc adl a0⟩ (fun hHeld=> ?_);refine tk 0 hHeld ?_;refine tk 1 hHeld ?_;refine tk 2 hHeld ?_;refine tk 3 hHeld ?_;refine tk 4 hHeld ?_;refine tk 5 hHeld ?_;refine tk 6 hHeld ?_;refine tk 7 hHeld ?_;refine tk 8 hHeld ?_;refine tk 9 hHeld ?_
  refine tk 10 hHeld ?_;refine tk 11 hHeld ?_;refine wpAnyH_ready (rs:= [12]) (by kernel_rfl) (by simp) ?_;refine AllReadyH.cons rfl (fun K hK=> ?_) AllReadyH.nil;go_simp;refine(box_any _ (md.rel.getD k []) N dx _ (HU.out.ext xv) HUW.out hN64 (by rw [HLN.out];exact Nat.le_refl _) HDW.out).mono ?_;rintro e w3 ⟨rfl,hx0⟩;have hx3:Ext W0 w3:=Ext.trans xv hx0;have HX3:=Qq hx3;rw [<-HBX.out];clear hx0;go_wp2_with fail;refine hK.out _ _ ⟨xc eb e0,xc eb e2,xc cb c1,xc adl a0⟩ (fun hHeld=> ?_);clear hK K;refine Qd ?_;refine tk 13 hHeld ?_;refine tk 14 hHeld ?_;refine wpAnyH_done (by kernel_rfl) ?_ _;go_wp2_with fail
  go_ret;exact⟨by rw [HE.out] <;> rfl,HX0.out.trans HX3.out⟩
 have hg:=HFN.out.group (by have:=(isOp_iff n.op).1 HFN.out.head.1;omega);obtain⟨gn,hgn⟩:=Int.eq_ofNat_of_zero_le (show 0<=n.g by omega);have hg1:1<=gn:=by omega
 have hg2:gn < 2^md.rel.length:=by have:=hg.2;rw [hgn]at this;exact this
 have HG2:=Qq hg2;have hgt:n.g.toNat=gn:=by rw [hgn];rfl
 rw [hgt]at HO1;rw [hgn]at c3;have HGM:=Qq (fun(meet:Bool)=>grp_list HOK.out (gn:=gn) (meet:=meet) hN64);clear hg hgn hgt hg2;by_cases h11:n.op=11
 ·have HE:=Qq (show oneN md n x y=boxN ((List.range N).map (grpN md.rel gn false N)) N x by rw [HO1.out,if_neg h3,if_neg h8,if_neg (by omega),if_neg (by omega),if_pos h11]);rw [h11]at c0;clear h3 h8 h11 hop;go_upto_region 11 with(fail);refine wp_region_held_drew (S:=fun w'=>w'.cell? (⟨b,0,none⟩)=some (.int .i64 (N:Int))/\w'.cell? (⟨b,1,none⟩)=some (.slice Av md.val.length cv)/\w'.cell? (⟨b,2,none⟩)=some (.slice Ar md.rel.length cr)/\w'.cell? (⟨b+1,3,none⟩)=some (.int .i64 (gn:Int))) (by kernel_rfl) ⟨xc eb e0,xc eb e1,xc eb e2,xc cb c3⟩ (fun hHeld=> ?_);refine tk 0 hHeld ?_;refine tk 1 hHeld ?_;refine tk 2 hHeld ?_
  refine tk 4 hHeld ?_;refine tk 5 hHeld ?_;refine tk 6 hHeld ?_;refine wpAnyH_ready (rs:= [3]) (by kernel_rfl) (by simp) ?_;refine AllReadyH.cons rfl (fun K hK=> ?_) AllReadyH.nil;go_simp;refine(rgroup_any _ md gn _ (HM.out.ext (HX0.out.trans xv)) HOK.out HCK.out hg1 HG2.out).mono ?_;rintro e w3 ⟨u,rfl,hx0,hmu⟩;have hx3:Ext W0 w3:=Ext.trans xv hx0;have HX3:=Qq hx3;rw [HNT.out]at hmu;have HMU:=Qq hmu;obtain⟨Au,cu,rfl⟩:=slice_of_row hmu;rw [(HGM.out false).1];clear hx0 hmu;go_wp2_with fail;refine hK.out _ _ ⟨xc eb e0,xc eb e1,xc eb e2,xc cb c3⟩ (fun hHeld=> ?_);clear hK K;refine Qd ?_;refine wpAnyH_ready (rs:= [7]) (by kernel_rfl) (by simp) ?_
  refine AllReadyH.cons rfl (fun K hK=> ?_) AllReadyH.nil;go_simp;refine(box_any _ ((List.range N).map (grpN md.rel gn false N)) N x _ (by have h1:=HMU.out.u64s;rw [(HGM.out false).1]at h1;exact h1) (HGM.out false).2 hN64 (by rw [(HGM.out false).1];exact Nat.le_refl _) HXW.out).mono ?_;rintro e w4 ⟨rfl,hx0⟩;have hx4:Ext W0 w4:=hx3.trans hx0;have HX4:=Qq hx4;clear hx0;go_wp2_with fail;refine hK.out _ _ ⟨xc eb e0,xc eb e1,xc eb e2,xc cb c3⟩ (fun hHeld=> ?_);clear hK K;refine Qd ?_;refine tk 8 hHeld ?_;refine wpAnyH_done (by kernel_rfl) ?_ _;go_wp2_with fail;go_ret;exact⟨by rw [HE.out] <;> rfl,HX0.out.trans HX4.out⟩
 by_cases h11:n.op=12
 ·have HE:=Qq (show oneN md n x y=boxN ((List.range N).map (grpN md.rel gn true N)) N x by rw [HO1.out,if_neg h3,if_neg h8,if_neg (by omega),if_neg (by omega),if_neg (by omega),if_pos h11]);rw [h11]at c0;clear h3 h8 h11 hop;go_upto_region 13 with(fail);refine wp_region_held_drew (S:=fun w'=>w'.cell? (⟨b,0,none⟩)=some (.int .i64 (N:Int))/\w'.cell? (⟨b,1,none⟩)=some (.slice Av md.val.length cv)/\w'.cell? (⟨b,2,none⟩)=some (.slice Ar md.rel.length cr)/\w'.cell? (⟨b+1,3,none⟩)=some (.int .i64 (gn:Int))) (by kernel_rfl) ⟨xc eb e0,xc eb e1,xc eb e2,xc cb c3⟩ (fun hHeld=> ?_);refine tk 0 hHeld ?_;refine tk 1 hHeld ?_
  refine tk 2 hHeld ?_;refine tk 4 hHeld ?_;refine tk 5 hHeld ?_;refine tk 6 hHeld ?_;refine wpAnyH_ready (rs:= [3]) (by kernel_rfl) (by simp) ?_;refine AllReadyH.cons rfl (fun K hK=> ?_) AllReadyH.nil;go_simp;refine(rmeet_any _ md gn _ (HM.out.ext (HX0.out.trans xv)) HOK.out HCK.out hg1 HG2.out).mono ?_;rintro e w3 ⟨u,rfl,hx0,hmu⟩;have hx3:Ext W0 w3:=Ext.trans xv hx0;have HX3:=Qq hx3;rw [HNT.out]at hmu;have HMU:=Qq hmu;obtain⟨Au,cu,rfl⟩:=slice_of_row hmu;rw [(HGM.out true).1];clear hx0 hmu;go_wp2_with fail;refine hK.out _ _ ⟨xc eb e0,xc eb e1,xc eb e2,xc cb c3⟩ (fun hHeld=> ?_);clear hK K;refine Qd ?_
  refine wpAnyH_ready (rs:= [7]) (by kernel_rfl) (by simp) ?_;refine AllReadyH.cons rfl (fun K hK=> ?_) AllReadyH.nil;go_simp;refine(box_any _ ((List.range N).map (grpN md.rel gn true N)) N x _ (by have h1:=HMU.out.u64s;rw [(HGM.out true).1]at h1;exact h1) (HGM.out true).2 hN64 (by rw [(HGM.out true).1];exact Nat.le_refl _) HXW.out).mono ?_;rintro e w4 ⟨rfl,hx0⟩;have hx4:Ext W0 w4:=hx3.trans hx0;have HX4:=Qq hx4;clear hx0;go_wp2_with fail;refine hK.out _ _ ⟨xc eb e0,xc eb e1,xc eb e2,xc cb c3⟩ (fun hHeld=> ?_);clear hK K;refine Qd ?_;refine tk 8 hHeld ?_;refine wpAnyH_done (by kernel_rfl) ?_ _;go_wp2_with fail
  go_ret;exact⟨by rw [HE.out] <;> rfl,HX0.out.trans HX4.out⟩
 have HE:=Qq (show oneN md n x y=commonM ((List.range N).map (grpN md.rel gn false N)) N x y by rw [HO1.out,if_neg h3,if_neg h8,if_neg (by omega),if_neg (by omega),if_neg (by omega),if_neg (by omega)]);have t13:n.op=13:=by have:=(isOp_iff n.op).1 HFN.out.head.1;omega
 rw [t13]at c0;clear h3 h8 t13 hop;go_upto_region 14 with(fail);refine wp_region_held_drew (S:=fun w'=>w'.cell? (⟨b,0,none⟩)=some (.int .i64 (N:Int))/\w'.cell? (⟨b,1,none⟩)=some (.slice Av md.val.length cv)/\w'.cell? (⟨b,2,none⟩)=some (.slice Ar md.rel.length cr)/\w'.cell? (⟨b+1,3,none⟩)=some (.int .i64 (gn:Int))) (by kernel_rfl) ⟨xc eb e0,xc eb e1,xc eb e2,xc cb c3⟩ (fun hHeld=> ?_);refine tk 0 hHeld ?_;refine tk 1 hHeld ?_;refine tk 2 hHeld ?_;refine tk 4 hHeld ?_;refine tk 5 hHeld ?_;refine tk 6 hHeld ?_;refine tk 7 hHeld ?_;refine wpAnyH_ready (rs:= [3]) (by kernel_rfl) (by simp) ?_;refine AllReadyH.cons rfl (fun K hK=> ?_) AllReadyH.nil
 go_simp;refine(rgroup_any _ md gn _ (HM.out.ext (HX0.out.trans xv)) HOK.out HCK.out hg1 HG2.out).mono ?_;rintro e w3 ⟨u,rfl,hx0,hmu⟩;have hx3:Ext W0 w3:=Ext.trans xv hx0;have HX3:=Qq hx3;rw [HNT.out]at hmu;have HMU:=Qq hmu;obtain⟨Au,cu,rfl⟩:=slice_of_row hmu;rw [(HGM.out false).1];clear hx0 hmu;go_wp2_with fail;refine hK.out _ _ ⟨xc eb e0,xc eb e1,xc eb e2,xc cb c3⟩ (fun hHeld=> ?_);clear hK K;refine Qd ?_;refine wpAnyH_ready (rs:= [8]) (by kernel_rfl) (by simp) ?_;refine AllReadyH.cons rfl (fun K hK=> ?_) AllReadyH.nil;go_simp;refine(common17_any _ ((List.range N).map (grpN md.rel gn false N)) N x y _ (by have h1:=HMU.out.u64s;rw [(HGM.out false).1]at h1;exact h1) (HGM.out false).2 hN64 (by rw [(HGM.out false).1];exact Nat.le_refl _) HXW.out HYW.out).mono ?_
 rintro e w4 ⟨rfl,hx0⟩;have hx4:Ext W0 w4:=hx3.trans hx0;have HX4:=Qq hx4;clear hx0;go_wp2_with fail;refine hK.out _ _ ⟨xc eb e0,xc eb e1,xc eb e2,xc cb c3⟩ (fun hHeld=> ?_);clear hK K;refine Qd ?_;refine tk 9 hHeld ?_;refine wpAnyH_done (by kernel_rfl) ?_ _;go_wp2_with fail;go_ret;exact⟨by rw [HE.out] <;> rfl,HX0.out.trans HX4.out⟩
theorem frag_mem:∀(l:List Nd) (s:Nat),(∀i,s.testBit i=true->(l.foldl (fun s n=>s|||(fragOf n.op).toNat) s).testBit i=true)/\∀n∈l,∀i,(fragOf n.op).toNat.testBit i=true->(l.foldl (fun s n=>s|||(fragOf n.op).toNat) s).testBit i=true
 |[],_=>⟨fun _ h=>h,fun _ h=>by cases h⟩
 |a :: l,s=>by
  obtain⟨h1,h2⟩:=frag_mem l (s|||(fragOf a.op).toNat);refine⟨fun i hi=>h1 i (by rw [Nat.testBit_or,hi];rfl),fun n hn i hi=> ?_⟩;rcases List.mem_cons.1 hn with rfl|hn
  ·exact h1 i (by rw [Nat.testBit_or,hi,Bool.or_true])
  exact h2 n hn i hi
theorem ag_mem:∀(l:List Nd) (s:Nat),(∀i,s.testBit i=true->(l.foldl agS s).testBit i=true)/\∀n∈l,∀i,((hasAgent n.op=true/\i=n.i.toNat)\/n.g.toNat.testBit i=true)->(l.foldl agS s).testBit i=true
 |[],_=>⟨fun _ h=>h,fun _ h=>by cases h⟩
 |a :: l,s=>by
  obtain⟨h1,h2⟩:=ag_mem l (agS s a);refine⟨fun i hi=>h1 i (by unfold agS;rw [Nat.testBit_or,Nat.testBit_or,hi];rfl),fun n hn i hi=> ?_⟩;rcases List.mem_cons.1 hn with rfl|hn
  ·refine h1 i ?_;unfold agS;rw [Nat.testBit_or,Nat.testBit_or];rcases hi with⟨ha,rfl⟩|hg
   ·rw [if_pos ha,Nat.testBit_two_pow];simp
   rw [hg,Bool.or_true]
  exact h2 n hn i hi
theorem fa_mem:∀(l:List Nd) (s:Nat),(∀i,s.testBit i=true->(l.foldl faS s).testBit i=true)/\∀n∈l,∀i,(n.op=3/\i=n.i.toNat)->(l.foldl faS s).testBit i=true
 |[],_=>⟨fun _ h=>h,fun _ h=>by cases h⟩
 |a :: l,s=>by
  obtain⟨h1,h2⟩:=fa_mem l (faS s a)
  refine⟨fun i hi=>h1 i (by unfold faS;split;· rw [Nat.testBit_or,hi];rfl
                            ·exact hi),fun n hn i hi=> ?_⟩
  rcases List.mem_cons.1 hn with rfl|hn
  ·refine h1 i ?_;obtain⟨ho,rfl⟩:=hi;unfold faS;rw [if_pos ho,Nat.testBit_or,Nat.testBit_two_pow];simp
  exact h2 n hn i hi
theorem head_eqs {m n:Nd}(h:m.head=n.head):m.op=n.op/\m.i=n.i/\m.g=n.g:=by
 have h1:=congrArg Nd.op h;have h2:=congrArg Nd.i h;have h3:=congrArg Nd.g h;exact⟨h1,h2,h3⟩
theorem low_bits {g k:Nat}(h:∀i,g.testBit i=true->i < k):g < 2^k:=by
 rcases Nat.lt_or_ge g (2^k)with h1|h1
 ·exact h1
 obtain⟨i,hi1,hi2⟩:=Nat.exists_ge_and_testBit_of_ge_two_pow h1;have:=h i hi2;omega
theorem fit_nd {md:Md} {f:List Nd} {k:Nat} {n:Nd}(hc:check f=0)(hk:f[k]?=some n)(hf:fit17 md f (k:Int)=true)(_hr4:md.rel.length<=4):FitNd md n:=by
 have hkl:=(List.getElem?_eq_some_iff.1 hk).1;have hh:=heads_of hc n (List.mem_of_getElem? hk);unfold fit17 at hf;rw [Bool.and_eq_true]at hf;obtain⟨h1,h2⟩:=hf;have hg:=(sub_props hc hkl).2.1;have ht:=subN_tree hc hkl;have htk:(tr f k).ok:=tr_ok (check_wf hc) k hkl;have hcc:compactN (subN f (k:Int))=canon (tr f k):=by
  rw [compactN_tree hg,ht,treeOf_canon htk]
 obtain⟨m,hm,hmt,_⟩:=last_node htk;have hmm:=List.mem_of_getElem? hm;have hmh:=head_eqs (mk_inj ((tr_eq (check_wf hc) hk).symm.trans hmt)).1;unfold fitsN at h2;rw [Bool.and_eq_true,Bool.and_eq_true,List.all_eq_true,List.all_eq_true]at h2;rw [hcc]at h2;have hag:∀i,((hasAgent n.op=true/\i=n.i.toNat)\/n.g.toNat.testBit i=true)->i < 4->i < md.rel.length:=fun i hi hi4=>by
  have h3:=(ag_mem (canon (tr f k)) 0).2 m hmm i (by rw [<-hmh.1,<-hmh.2.1,<-hmh.2.2];exact hi);have h4:=h2.2.1 i (List.mem_range.2 hi4);unfold fitA agentsM at h4;rw [h3]at h4
  simpa using h4
 refine⟨hh,?_,fun ho=> ?_,fun ho=> ?_,fun ho=> ?_⟩
 ·have hop21:=(isOp_iff n.op).1 hh.1;have hfr:subS (fragOf m.op).toNat 15=true:=by
   rw [subS_iff]at h1⊢;intro i hi;refine h1 i ?_;unfold fragsN;rw [hcc];exact(frag_mem (canon (tr f k)) 0).2 m hmm i hi
  rw [<-hmh.1]at hfr;rcases op_cases n.op with h|h|h|h|h|h|h|h|h|h|h|h|h|h|h|h|h|h|h|h|h|h|h <;> first|omega|(rw [h]at hfr;exact absurd hfr (by decide))
 ·have hb:=head_fact hh ho;have h3:=(fa_mem (canon (tr f k)) 0).2 m hmm n.i.toNat ⟨by rw [<-hmh.1];exact ho,by rw [<-hmh.2.1]⟩;have h4:=h2.2.2 n.i.toNat (List.mem_range.2 (by omega));unfold fitA factsM at h4;rw [h3]at h4;have:n.i.toNat < md.val.length:=by simpa using h4
  omega
 ·have ha:hasAgent n.op=true:=by rcases ho with h|h <;>(rw [h];rfl)
  have hb:=head_agent hh ha;have:=hag n.i.toNat (.inl ⟨ha,rfl⟩) (by omega);omega
 have hb:=head_group hh;have hop13:n.op<=21:=((isOp_iff n.op).1 hh.1).2;refine⟨?_,low_bits fun i hi=>hag i (.inr hi) (bit_lt (n:=4) (by omega) hi)⟩;obtain⟨_,h3,h4,_,_⟩:=hh;cases hgr:hasGroup n.op
 ·exfalso
  have hfr:subS (fragOf m.op).toNat 15=true:=by
   rw [subS_iff]at h1⊢;intro i hi;refine h1 i ?_;unfold fragsN;rw [hcc];exact(frag_mem (canon (tr f k)) 0).2 m hmm i hi
  rw [<-hmh.1]at hfr;rcases op_cases n.op with h|h|h|h|h|h|h|h|h|h|h|h|h|h|h|h|h|h|h|h|h|h|h <;> first|omega|(rw [h]at hfr;exact absurd hfr (by decide))|(rw [h]at hgr;cases hgr)
 unfold rangeBad at h4;simp only [outsideB,hgr,Bool.or_eq_false_iff]at h4;simp at h4;omega
theorem one_word {md:Md}(hok:md.ok)(hN:md.n.toNat<=64) {n:Nd} {x y:Nat}(hx:word x)(hy:word y):word (oneN md n x y):=by
 unfold oneN
 split
 ·exact getD_word hok.val _
 split
 ·exact bool_word hx hy (allw_word hN)
 split
 ·exact box_word hN
 split
 ·exact dif_word (allw_word hN)
 split
 ·exact box_word hN
 split
 ·exact box_word hN
 exact mask_word hN _
def setS(md:Md)(f:List Nd)(out:List Nat)(k:Nat):Nat :=
 if fit17 md f (k:Int)then oneN md (f.getD k Nd.zero) (if hasX (f.getD k Nd.zero).op then out.getD (f.getD k Nd.zero).x.toNat 0 else 0) (if hasY (f.getD k Nd.zero).op then out.getD (f.getD k Nd.zero).y.toNat 0 else 0)else 0
def setsK(md:Md)(f:List Nd):Nat->List Nat
 |0=> []
 |k+1=>setsK md f k++ [setS md f (setsK md f k) k]
theorem setsK_len(md:Md)(f:List Nd):∀k,(setsK md f k).length=k
 |0=>rfl
 |k+1=>by
  show(setsK md f k++_).length=_;rw [List.length_append,setsK_len md f k];rfl
theorem setsK_word {md:Md}(hok:md.ok)(hN:md.n.toNat<=64)(f:List Nd):∀k,∀s∈setsK md f k,word s
 |0,s,hs=>by cases hs
 |k+1,s,hs=>by
  have ih:=setsK_word hok hN f k;rcases List.mem_append.1 hs with h|h
  ·exact ih s h
  rw [List.mem_singleton.1 h];unfold setS
  split
  ·refine one_word hok hN ?_ ?_
   ·split
    ·exact getD_word ih _
    show(0:Nat) < _;omega
   split
   ·exact getD_word ih _
   show(0:Nat) < _;omega
  show(0:Nat) < _;omega
theorem grown_blkM {w w4:World} {c:Obj} {r:Option Nat} {b:Nat}(hg:(w.alloc c).grownBy w4 r)(hr:r≠some b)(hb:b < w.heap.size):w4.heap[b]?=w.heap[b]? :=
 (hg.block b (by simp;omega) (fun e=>hr e.symm)).trans (((Ext.refl w).alloc c).block hb)
theorem blk_cellM {w w4:World} {p:Addr}(h:w4.heap[p.block]?=w.heap[p.block]?):w4.cell? p=w.cell? p:=by
 unfold World.cell?;rw [h]
theorem chk17_zero {md:Md} {f:List Nd}(h:chk17 md f=0):checkM md=0/\check f=0/\subS (fragsN f) 15=true/\fitsN f md.rel.length md.val.length=true:=by
 unfold chk17 at h;by_cases h1:checkM md≠0
 ·rw [if_pos h1]at h;exact absurd h h1
 rw [if_neg h1]at h;by_cases h2:check f≠0
 ·rw [if_pos h2]at h;exact absurd h h2
 rw [if_neg h2]at h;cases h3:subS (fragsN f) 15
 ·rw [if_pos h3]at h;cases h
 rw [if_neg (by rw [h3];simp)]at h;cases h4:fitsN f md.rel.length md.val.length
 ·rw [if_pos h4]at h;cases h
 exact⟨Classical.not_not.1 h1,Classical.not_not.1 h2,rfl,rfl⟩
end Go.Proofs.YtbfeodammikajaaGreat
