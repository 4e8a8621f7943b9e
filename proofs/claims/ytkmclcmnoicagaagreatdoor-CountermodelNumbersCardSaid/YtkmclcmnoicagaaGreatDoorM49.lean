/- The reference's SameSets and Same. -/
import Derived.Test.YtkmclcmnoicagaaGreatDoorM01
import Derived.Test.YtkmclcmnoicagaaGreatDoorM21
import Derived.Test.YtkmclcmnoicagaaGreatDoorM09
import Derived.Test.YtkmclcmnoicagaaGreatDoorM13
import Derived.Test.YtkmclcmnoicagaaGreatDoorM39
namespace Go.Proofs.YtkmclcmnoicagaaGreatDoor
set_option maxRecDepth 100000
set_option maxHeartbeats 128000000
open Go.RowKit
theorem Qxt(va vb:Value)(a b:List Nat)(w:World)(ha:Jv w va a)(hb:Jv w vb b):
 Calls Tryz.prog 87 #[va,vb] w fun e w'=>e=.returned (.bool (decide (a=b)))/\Ext w w':=by
 obtain⟨Aa,ca,rfl,hca1,hca2,HA⟩:=Gy ha;unfold maxLen at hca2;obtain⟨Ab,cb,rfl,_,_,HB⟩:=Gy hb;clear ha hb;by_cases hl:a.length=b.length
 ·have HL:=Qq hl;obtain⟨n,hn⟩:∃n,n=a.length:=⟨_,rfl⟩;have HNA:=Qq hn;rw [<-hn]at hl HA hca1⊢;rw [<-hl]at HB⊢;have hnn:((n:Int) !=(n:Int))=false:=by simp
  clear hn hl;go_enter Tryz.func87,Tryz.ntmps87;go_wp2_with fail;go_loopw [5] (fun v wr=>∃k:Nat,v=.int .i64 (k:Int)/\k<=n/\Hid (Ext w wr/\∀j,j < k->a.getD j 0=b.getD j 0)) (fun v _=>n - (intOf v).toNat)
  case atStart=>exact⟨0,rfl,Nat.zero_le _,Qq ⟨Qz,fun j hj=>absurd hj (by omega)⟩⟩
  case round =>
   obtain⟨k,rfl,hk,HREL⟩:=hrel;have HX:=Qq HREL.out.1;have HJ:=Qq HREL.out.2;clear HREL;by_cases hlt2:k < n
   ·have hk1:(k:Int) < (n:Int):=by omega
    obtain⟨ad,rfl,hadl,hc⟩:=HA.out k hlt2;obtain⟨bd,rfl,hbdl,hd⟩:=HB.out k hlt2;have a0:=(HX.out.cell (p:=ad.add k) (Qj hadl)).trans hc;have al:(ad.add k).block < wr.heap.size:=by rw [Qc];exact Qy hadl HX.out.size
    have b0:=(HX.out.cell (p:=bd.add k) (Qj hbdl)).trans hd;have bl:(bd.add k).block < wr.heap.size:=by rw [Qc];exact Qy hbdl HX.out.size
    have HNX:=Qq (show a.getD k 0=b.getD k 0->∀j,j < k+1->a.getD j 0=b.getD j 0 from fun h=>Qty (P:=fun j=>a.getD j 0=b.getD j 0) HJ.out h);have HHT:=Qq (show a.getD k 0≠b.getD k 0->decide (a=b)=false from fun h=>decide_eq_false fun e=>h (by rw [e]));obtain⟨x,hx⟩:∃x,x=a.getD k 0:=⟨_,rfl⟩;obtain⟨y,hy⟩:∃y,y=b.getD k 0:=⟨_,rfl⟩;rw [<-hx]at a0 HNX HHT;rw [<-hy]at b0 HNX HHT;clear hc hd hx hy;go_upto_region 6 with(fail);by_cases hq:x=y
    ·have HP:=Qq (HNX.out hq);have hne:((x:Int) !=(y:Int))=false:=by rw [hq];simp
     clear hq;refine wp_region_held_drew (S:=fun w'=>w'.cell? (ad.add k)=some (.int .u64 (x:Int))/\w'.cell? (bd.add k)=some (.int .u64 (y:Int))) (by kernel_rfl) ⟨xc al a0,xc bl b0⟩ (fun hHeld=> ?_);refine tk 0 hHeld ?_;refine tk 1 hHeld ?_;refine tk 2 hHeld ?_;refine tk 3 hHeld ?_;refine tk 4 hHeld ?_;refine tk 5 hHeld ?_;refine tk 6 hHeld ?_;refine tk 7 hHeld ?_;refine tk 8 hHeld ?_;refine wpAnyH_done (by kernel_rfl) ?_ _;go_wp2_with fail;go_roundw
     case rel=>exact⟨k+1,by go_num,by omega,Qq ⟨HX.out.trans Qz.drew,HP.out⟩⟩
     case measure=>simp [intOf];omega
    have HE:=Qq (HHT.out hq);have hne:((x:Int) !=(y:Int))=true:=by simp;omega
    clear hq;refine wp_region_held_drew (S:=fun w'=>w'.cell? (ad.add k)=some (.int .u64 (x:Int))/\w'.cell? (bd.add k)=some (.int .u64 (y:Int))) (by kernel_rfl) ⟨xc al a0,xc bl b0⟩ (fun hHeld=> ?_);refine tk 0 hHeld ?_;refine tk 1 hHeld ?_;refine tk 2 hHeld ?_;refine tk 3 hHeld ?_;refine tk 4 hHeld ?_;refine tk 5 hHeld ?_;refine tk 6 hHeld ?_;refine tk 7 hHeld ?_;refine tk 8 hHeld ?_;refine wpAnyH_done (by kernel_rfl) ?_ _;go_wp2_with fail;go_ret;exact⟨by rw [HE.out] <;> rfl,HX.out.trans Qz.drew⟩
   obtain rfl:n=k:=by omega
   have HE:=Qq (show decide (a=b)=true from decide_eq_true (Qm6 HL.out (by rw [<-HNA.out];exact HJ.out)));go_wp2_with fail;go_ret;exact⟨by rw [HE.out] <;> rfl,HX.out⟩
 have hne:((a.length:Int) !=(b.length:Int))=true:=by simp;omega
 have HE:=Qq (show decide (a=b)=false from decide_eq_false fun e=>hl (by rw [e]));go_enter Tryz.func87,Tryz.ntmps87;go_wp2_with fail;go_ret;exact⟨by rw [HE.out] <;> rfl,Qz⟩
def Hz(a b:Md):Bool:=decide (a.n=b.n/\a.val=b.val/\a.rel=b.rel)
theorem Xd {a b:Md} :Hz a b=true↔a=b:=by
 unfold Hz;rw [decide_eq_true_iff];obtain⟨a1,a2,a3⟩:=a;obtain⟨b1,b2,b3⟩:=b;simp
theorem Zqq {a b:List (List Nat)}(hl:a.length=b.length)(h:∀k,k < a.length->a.getD k []=b.getD k []):a=b:=by
 refine List.ext_getElem hl fun i h1 h2=> ?_
 have:=h i h1;rw [Qk,Qk,Qv h1,Qv h2]at this;exact this
theorem Zjq {k l:Nat}(h:k < l)(h2:l<=9223372036854775807):wrap64 ((k:Int)+1)=((k+1:Nat):Int):=by unfold wrap64;omega
theorem Zze {k l:Nat}(h:k < l):l - (intOf (.int .i64 ((k+1:Nat):Int))).toNat < l - (intOf (.int .i64 (k:Int))).toNat:=by
 show l - (((k+1:Nat):Int)).toNat < l - ((k:Nat):Int).toNat;omega
theorem Km(va vb:Value)(a b:Md)(w:World)(ha:MdV w va a)(hb:MdV w vb b):
 Calls Tryz.prog 31 #[va,vb] w fun e w'=>e=.returned (.bool (Hz a b))/\Ext w w':=by
 obtain⟨va1,va2,rfl,hav,har⟩:=ha;obtain⟨vb1,vb2,rfl,hbv,hbr⟩:=hb;have HAV:=Qq hav;have HBV:=Qq hbv;obtain⟨Aa,ca,rfl,_⟩:=hav;obtain⟨Ab,cb,rfl,_⟩:=hbv;obtain⟨Ra,da,rfl,_,_,HA⟩:=Bq har;obtain⟨Rb,db,rfl,hldb,hdb,HB⟩:=Bq hbr;clear har hbr;obtain⟨r,hr⟩:∃z,z=Hz a b:=⟨_,rfl⟩;have HR:=Qq hr;rw [<-hr];obtain⟨xv,hxv⟩:∃z,z=decide (a.val=b.val):=⟨_,rfl⟩;have HXV:=Qq hxv;obtain⟨na,hna⟩:∃z,z=a.n:=⟨_,rfl⟩;obtain⟨nb,hnb⟩:∃z,z=b.n:=⟨_,rfl⟩;have HNA:=Qq hna;have HNB:=Qq hnb;obtain⟨la,hla⟩:∃z,z=a.rel.length:=⟨_,rfl⟩;obtain⟨lb,hlb⟩:∃z,z=b.rel.length:=⟨_,rfl⟩;have HLA:=Qq hla;have HLB:=Qq hlb;obtain⟨ya,hya⟩:∃z,z=a.val.length:=⟨_,rfl⟩
 obtain⟨yb,hyb⟩:∃z,z=b.val.length:=⟨_,rfl⟩;rw [<-hya]at HAV;rw [<-hyb]at HBV;rw [<-hna,<-hnb,<-hla,<-hlb,<-hya,<-hyb];rw [<-hla]at HA;rw [<-hlb]at HB;obtain⟨W0,hW0⟩:∃W,W=(w.alloc (.cells #[.int .i64 na,.slice Aa ya ca,.slice Ra la da] 26)).alloc (.cells #[.int .i64 nb,.slice Ab yb cb,.slice Rb lb db] 26):=⟨_,rfl⟩;have X0:=Qq (show Ext w W0 by rw [hW0];exact(Qz.alloc _).alloc _);obtain⟨q,hq⟩:∃q,q=w.heap.size:=⟨_,rfl⟩;have B0:=Qq (show W0.heap[q]?=some (.cells #[.int .i64 na,.slice Aa ya ca,.slice Ra la da] 26 (0,0)) by rw [hW0,hq];exact((Qz.alloc _).block (by simp)).trans (heap_alloc_new _ _));have B1:=Qq (show W0.heap[q+1]?=some (.cells #[.int .i64 nb,.slice Ab yb cb,.slice Rb lb db] 26 (0,0)) by
  have h1:=heap_alloc_new (w.alloc (.cells #[.int .i64 na,.slice Aa ya ca,.slice Ra la da] 26)) (.cells #[.int .i64 nb,.slice Ab yb cb,.slice Rb lb db] 26);rw [hW0,hq]
  simpa using h1)
 obtain⟨e0,e1,e2,el⟩:=Zd B0.out;obtain⟨f0,f1,f2,fl⟩:=Zd B1.out;unfold maxLen at hdb;have HDB:=Qq (Qx hldb hdb);clear hldb hdb;clear hr hna hnb hla hlb hya hyb;by_cases hn:na=nb
 case neg =>
  have hne:(na !=nb)=true:=by simpa using hn
  have HE:=Qq (show r=false by rw [HR.out];unfold Hz;rw [<-HNA.out,<-HNB.out];exact decide_eq_false fun h=>hn h.1);clear hn hxv;go_enter Tryz.func31,Tryz.ntmps31;go_upto_region 1 with(fail);rw [<-hW0,<-hq];clear hW0 hq;go_wp2_with fail;go_ret;exact⟨by rw [HE.out] <;> rfl,X0.out⟩
 subst hn;have hne:(na !=na)=false:=by simp
 go_enter Tryz.func31,Tryz.ntmps31;go_upto_region 1 with(fail);rw [<-hW0,<-hq];clear hW0 hq;go_wp2_with fail;refine(Qxt _ _ a.val b.val _ (HAV.out.ext X0.out) (HBV.out.ext X0.out)).mono ?_;rintro e w1 ⟨rfl,hx⟩;rw [<-hxv];clear hxv;have X1:=Qq hx;obtain⟨e0,e1,e2,el⟩:=Zd ((hx.block (Qf B0.out)).trans B0.out);obtain⟨f0,f1,f2,fl⟩:=Zd ((hx.block (Qf B1.out)).trans B1.out);clear hx;cases xv
 ·have HE:=Qq (show r=false by rw [HR.out];unfold Hz;exact decide_eq_false fun h=>of_decide_eq_false HXV.out.symm h.2.1);go_wp2_with fail;go_ret;exact⟨by rw [HE.out] <;> rfl,X0.out.trans X1.out⟩
 by_cases hl:la=lb
 case neg =>
  have hne2:((la:Int) !=(lb:Int))=true:=by simp;omega
  have HE:=Qq (show r=false by rw [HR.out];unfold Hz;exact decide_eq_false fun h=>hl (by rw [HLA.out,HLB.out,h.2.2]));clear hl;go_wp2_with fail;go_ret;exact⟨by rw [HE.out] <;> rfl,X0.out.trans X1.out⟩
 have HL62:=Qq (show la<=9223372036854775807 by have:=HDB.out;rw [<-HLB.out]at this;omega);subst hl;have hne2:((la:Int) !=(la:Int))=false:=by simp
 have HRN:=Qq (show r=decide (a.rel=b.rel) by
  rw [HR.out];unfold Hz;have h1:a.n=b.n:=by rw [<-HNA.out,<-HNB.out]
  have h2:a.val=b.val:=of_decide_eq_true HXV.out.symm;simp [h1,h2])
 clear HR;go_wp2_with fail;clear e0 e1 e2 el f0 f1 f2 fl;go_loopw [5] (fun v wr=>∃k:Nat,v=.int .i64 (k:Int)/\k<=la/\Hid (Ext W0 wr/\∀j,j < k->a.rel.getD j []=b.rel.getD j [])) (fun v _=>la - (intOf v).toNat)
 case atStart=>exact⟨0,rfl,Nat.zero_le _,Qq ⟨X1.out,fun j hj=>absurd hj (by omega)⟩⟩
 case round =>
  clear X1;obtain⟨k,rfl,hk,HREL⟩:=hrel;have HX:=Qq HREL.out.1;have HJ:=Qq HREL.out.2;clear HREL;obtain⟨e0,e1,e2,el⟩:=Zd ((HX.out.block (Qf B0.out)).trans B0.out);obtain⟨f0,f1,f2,fl⟩:=Zd ((HX.out.block (Qf B1.out)).trans B1.out);by_cases hlt:k < la
  ·have hk1:(k:Int) < (la:Int):=by omega
   obtain⟨ad,ua,rfl,hadl,hca,hua⟩:=HA.out k hlt;obtain⟨bd,ub,rfl,hbdl,hcb,hub⟩:=HB.out k hlt;have HUA:=Qq hua;have HUB:=Qq hub;obtain⟨Au,cu,rfl,_⟩:=hua;obtain⟨Bu,du,rfl,_⟩:=hub;have HXW:=Qq (X0.out.trans HX.out);have a0:=(HXW.out.cell (p:=ad.add k) (Qj hadl)).trans hca;have al:(ad.add k).block < wr.heap.size:=by rw [Qc];exact Qy hadl HXW.out.size
   have b0:=(HXW.out.cell (p:=bd.add k) (Qj hbdl)).trans hcb;have bl:(bd.add k).block < wr.heap.size:=by rw [Qc];exact Qy hbdl HXW.out.size
   obtain⟨ra,hra⟩:∃z,z=a.rel.getD k []:=⟨_,rfl⟩;obtain⟨rb,hrb⟩:∃z,z=b.rel.getD k []:=⟨_,rfl⟩;have HRA:=Qq hra;have HRB:=Qq hrb;rw [<-hra]at a0 HUA;rw [<-hrb]at b0 HUB;obtain⟨xr,hxr⟩:∃z,z=decide (ra=rb):=⟨_,rfl⟩;have HXR:=Qq hxr;obtain⟨pa,hpa⟩:∃z,z=ra.length:=⟨_,rfl⟩;obtain⟨pb,hpb⟩:∃z,z=rb.length:=⟨_,rfl⟩;rw [<-hpa]at a0 HUA;rw [<-hpb]at b0 HUB;clear hca hcb hpa hpb hra hrb e0 e1 f0 f1;go_upto_region 6 with(fail);refine wp_region_held_drew (S:=fun w'=>w'.cell? (⟨q,2,none⟩)=some (.slice (some ad) la da)/\w'.cell? (⟨q+1,2,none⟩)=some (.slice (some bd) la db)/\w'.cell? (ad.add k)=some (.slice Au pa cu)/\w'.cell? (bd.add k)=some (.slice Bu pb du)) (by kernel_rfl) ⟨xc el e2,xc fl f2,xc al a0,xc bl b0⟩ (fun hHeld=> ?_)
   refine tk 0 hHeld ?_;refine tk 1 hHeld ?_;refine tk 2 hHeld ?_;refine tk 3 hHeld ?_;refine tk 4 hHeld ?_;refine tk 5 hHeld ?_;refine tk 6 hHeld ?_;refine tk 7 hHeld ?_;refine tk 8 hHeld ?_;refine tk 9 hHeld ?_;refine wpAnyH_ready (rs:= [10]) (by kernel_rfl) (by simp) ?_;refine AllReadyH.cons rfl (fun K hK=> ?_) AllReadyH.nil;go_simp;refine(Qxt _ _ ra rb _ (HUA.out.ext (HXW.out.trans xw)) (HUB.out.ext (HXW.out.trans xw))).mono ?_;rintro e w4 ⟨he,hx0⟩;rw [<-hxr]at he;subst he;clear hxr;have hx:Ext wr w4:=Ext.trans xw hx0;have HX4:=Qq hx;clear hx0;go_wp2_with fail;refine hK.out _ _ ⟨xc el e2,xc fl f2,xc al a0,xc bl b0⟩ (fun hHeld=> ?_)
   clear hK K;refine Qd ?_;refine tk 11 hHeld ?_;refine wpAnyH_done (by kernel_rfl) ?_ _;clear hHeld;cases xr
   ·have HE:=Qq (show r=false from by rw [HRN.out];exact decide_eq_false fun h=>of_decide_eq_false HXR.out.symm (by rw [HRA.out,HRB.out,h]));go_wp2_with fail;go_ret;exact⟨by rw [HE.out] <;> rfl,X0.out.trans (HX.out.trans HX4.out)⟩
   have HNX:=Qq (show ∀j,j < k+1->a.rel.getD j []=b.rel.getD j []from fun j hj=>by
    by_cases e:j=k
    ·rw [e,<-HRA.out,<-HRB.out];exact of_decide_eq_true HXR.out.symm
    exact HJ.out j (by omega))
   go_wp2_with fail
   all_goals
    have hwk:=Zjq hlt HL62.out;refine⟨⟨k+1,by rw [hwk],hlt,Qq ⟨HX.out.trans HX4.out,HNX.out⟩⟩,?_⟩;rw [hwk];exact Zze hlt
  obtain rfl:la=k:=by omega
  have HE:=Qq (show r=true from by rw [HRN.out];exact decide_eq_true (Zqq (by rw [<-HLA.out,<-HLB.out]) (fun j hj=>HJ.out j (by rw [HLA.out];exact hj))));go_wp2_with fail;go_ret;exact⟨by rw [HE.out] <;> rfl,X0.out.trans HX.out⟩
theorem Qmq {w:World} {a b c:Value} {md:Md}(h:MdV w (.agg #[a,b,c]) md):∃A l cc A' l' cc',a=.int .i64 md.n/\b=.slice A l cc/\c=.slice A' l' cc':=by
 obtain⟨vv,vr,e,⟨A,c,rfl,_⟩,⟨A',c',rfl,_⟩⟩:=h;injection e with e;injection e with e;injection e with e1 e;injection e with e2 e;injection e with e3 e;exact⟨_,_,_,_,_,_,e1,e2,e3⟩
theorem Bb {w:World} {u:Value} {md:Md}(h:MdV w u md):∃n A l c A' l' c',u=.agg #[.int .i64 n,.slice A l c,.slice A' l' c']:=by
 obtain⟨vv,vr,rfl,⟨A,c,rfl,_⟩,⟨A',c',rfl,_⟩⟩:=h;exact⟨_,_,_,_,_,_,_,rfl⟩
theorem Tn {w:World} {u:Value} {md:Md}(h:MdV w u md):∃A l c A' l' c',u=.agg #[.int .i64 md.n,.slice A l c,.slice A' l' c']:=by
 obtain⟨vv,vr,rfl,⟨A,c,rfl,_⟩,⟨A',c',rfl,_⟩⟩:=h;exact⟨_,_,_,_,_,_,rfl⟩
theorem Me {w:World} {b:Nat} {a0 a1 a2 a3 a4:Value} {t:TypeId}(h:w.heap[b]?=some (.cells #[a0,a1,a2,a3,a4] t (0,0))):w.cell? ⟨b,0,none⟩=some a0/\w.cell? ⟨b,1,none⟩=some a1/\w.cell? ⟨b,2,none⟩=some a2/\w.cell? ⟨b,3,none⟩=some a3/\w.cell? ⟨b,4,none⟩=some a4/\b < w.heap.size :=
 ⟨by simp [World.cell?,h],by simp [World.cell?,h],by simp [World.cell?,h],by simp [World.cell?,h],by simp [World.cell?,h],Qf h⟩
theorem Qdo {w:World} {Af Av Ar:Option Addr} {cf lv cv lr cr:Nat} {n wd:Int} {f:List Nd} {md:Md}(hm:MdV w (.agg #[.int .i64 n,.slice Av lv cv,.slice Ar lr cr]) md):
 Calls Tryz.prog 25 #[.agg #[.slice Af f.length cf,.int .i64 n,.slice Av lv cv,.slice Ar lr cr,.int .i64 wd]] w fun e w'=>∃b,e=.returned (.bool b)/\Ext w w':=by
 have HM:=Qq hm;obtain⟨W0,hW0⟩:∃z,z=w.alloc (.cells #[.slice Af f.length cf,.int .i64 n,.slice Av lv cv,.slice Ar lr cr,.int .i64 wd] 50):=⟨_,rfl⟩;obtain⟨b,hb⟩:∃z,z=w.heap.size:=⟨_,rfl⟩;have X0:=Qq (show Ext w W0 by rw [hW0];exact Qz.alloc _);have B0:=Qq (show W0.heap[b]?=some (.cells #[.slice Af f.length cf,.int .i64 n,.slice Av lv cv,.slice Ar lr cr,.int .i64 wd] 50 (0,0)) by rw [hW0,hb];exact heap_alloc_new _ _);clear hm;obtain⟨e0,e1,e2,e3,e4,el⟩:=Me B0.out;go_enter Tryz.func25,Tryz.ntmps25;go_upto_region 1 with(fail);rw [<-hW0,<-hb];clear hW0 hb;by_cases h:f.length<=24
 ·have h1:(f.length:Int)<=(24:Int):=by omega
  clear h;go_wp2_with fail;refine(Ij _ md 10 _ (HM.out.ext X0.out)).mono ?_;rintro e w1 ⟨fb,rfl,hx⟩;have X1:=Qq (X0.out.trans hx);clear hx;go_wp2_with fail;go_ret;cases fb <;> first|exact⟨_,rfl,X1.out⟩|exact⟨.inl rfl,X1.out⟩|exact⟨.inr rfl,X1.out⟩
 have h1:¬(f.length:Int)<=(24:Int):=by omega
 clear h;go_wp2_with fail;go_ret
 first|exact⟨_,rfl,X0.out⟩|exact⟨.inl rfl,X0.out⟩|exact⟨.inr rfl,X0.out⟩
end Go.Proofs.YtkmclcmnoicagaaGreatDoor
