/- types' circuit at a type: the walk. -/
import Derived.Test.YtkmclcmnoicagaaGreatDoorT35
namespace Go.Proofs.YtkmclcmnoicagaaGreatDoor
set_option maxRecDepth 100000
set_option maxHeartbeats 128000000
open Go.RowKit
theorem Qfi:(Tryz.prog.info? 4).map (fun i=>(i.zero,i.size,i.bytes))=some (some (.bool false),1,1):=by kernel_rfl
theorem Qe5 {pre:List Bool} {m j:Nat}(h:j < pre.length):(pre++List.replicate m false)[j]?=some (pre.getD j false):=by
 rw [List.getElem?_append_left h,Qk,Qv h];rfl
theorem Qvt {pre:List Bool} {k m:Nat} {b:Bool}(h:pre.length=k):(pre++List.replicate (m+1) false).set k b=(pre++ [b])++List.replicate m false:=by
 subst h;rw [List.set_append_right _ _ (Nat.le_refl _),Nat.sub_self,List.replicate_succ,List.set_cons_zero,List.append_assoc];rfl
theorem Qc5 {pre:List Bool} {m:Nat} :pre++List.replicate (m+1) false=(pre++ [false])++List.replicate m false:=by
 rw [List.replicate_succ,List.append_assoc];rfl
theorem Qvo {t:Nat} {f:List Nd} {ps:List Int} {k:Nat} {n:Nd} {z:Int}(hn:f[k]?=some n)(hz:ps[k]?=some z)(v:List Bool):
 Wv t (f.drop k) (ps.drop k) v=Wv t (f.drop (k+1)) (ps.drop (k+1)) (v++ [Vd n z t v]):=by
 obtain⟨h1,e1⟩:=List.getElem?_eq_some_iff.1 hn;obtain⟨h2,e2⟩:=List.getElem?_eq_some_iff.1 hz;rw [List.drop_eq_getElem_cons h1,List.drop_eq_getElem_cons h2,e1,e2];rfl
theorem Cy(n:Nat):(madeCells #[Value.bool false] n).toList=(List.replicate n false).map Value.bool:=by
 have:=Qr4 n
 simpa [Value.cells]using this
structure AtI (w wr:World) (vf vi:Value) (f:List Nd) (ps:List Int) (t k:Nat) (pre:List Bool):Prop where
 len:pre.length=k
 go:Wv t (f.drop k) (ps.drop k) pre=Wv t f ps []
 ext:Ext w wr
 box:wr.heap[w.heap.size]?=some (.cells #[vf,vi] 173 (0,0))
 row:Vr (w.heap.size+1) wr (w.heap.size+1) (pre++List.replicate (f.length - k) false)
section
variable {w wr W:World} {vf vi:Value} {f:List Nd} {ps:List Int} {t k:Nat} {pre:List Bool} {n:Nd} {z:Int} {b:Bool}
theorem AtI.keep(h:AtI w wr vf vi f ps t k pre)(hn:f[k]?=some n)(hz:ps[k]?=some z)(hb:Vd n z t pre=false)(he:Ext wr W):AtI w W vf vi f ps t (k+1) (pre++ [false]):=by
 have hk:=(List.getElem?_eq_some_iff.1 hn).1;refine⟨by simp [h.len],by rw [<-h.go,Qvo hn hz,hb],h.ext.trans he,(he.block (Qm h.box)).trans h.box,?_⟩;have:=h.row.ext he;rw [show f.length - k=(f.length - (k+1))+1 by omega,Qc5]at this;exact this
theorem AtI.store(h:AtI w wr vf vi f ps t k pre)(hn:f[k]?=some n)(hz:ps[k]?=some z)(hb:Vd n z t pre=b)(he:Ext wr W):AtI w (W.setCell ⟨w.heap.size+1,k,none⟩ (.bool b)) vf vi f ps t (k+1) (pre++ [b]):=by
 have hk:=(List.getElem?_eq_some_iff.1 hn).1;refine⟨by simp [h.len],by rw [<-h.go,Qvo hn hz,hb],(h.ext.trans he).setCell (by simp) _,?_,?_⟩
 ·rw [Below.heap_setCell _ _ _ _ (show w.heap.size≠w.heap.size+1 by omega)];exact(he.block (Qm h.box)).trans h.box
 have:=((h.row.ext he).set k b).1;rw [show f.length - k=(f.length - (k+1))+1 by omega,Qvt h.len]at this;exact this
theorem AtI.next(h:AtI w wr vf vi f ps t k pre)(he:Ext wr W):AtI w W vf vi f ps t k pre:=⟨h.len,h.go,h.ext.trans he,(he.block (Qm h.box)).trans h.box,h.row.ext he⟩
theorem AtI.drew(h:AtI w wr vf vi f ps t k pre):AtI w wr.drew vf vi f ps t k pre:=⟨h.len,h.go,h.ext.drew,h.box,h.row.ext Qz.drew⟩
theorem AtI.cell(h:AtI w wr vf vi f ps t k pre) {j:Nat}(hj:j < k):wr.cell? ⟨w.heap.size+1,j,none⟩=some (.bool (pre.getD j false)):=h.row.cell (Qe5 (by rw [h.len];exact hj))
end
theorem Qoo(vf vi:Value)(f:List Nd)(ps:List Int)(t:Nat)(w:World)(ht:t < 18446744073709551616)(hf:Fml w vf f)(hi:Nt w vi ps)(hps:ps.length=f.length)(hp:∀z∈ps,z < 64)(hwf:Wf f)(h0:0 < f.length)(hl:f.length<=200):
 Calls Tryz.prog 183 #[.agg #[vf,vi],.int .u64 (t:Int)] w fun e w'=>e=.returned (.bool (atN f ps t))/\Ext w w':=by
 obtain⟨⟨Af,cf,rfl,hcap,hmax,hread⟩,hok⟩:=hf;obtain⟨Ai,ci,rfl,hcap2,hmax2,hread2⟩:=hi;unfold maxLen at hmax hmax2;obtain⟨ad,rfl,hblk,hcells⟩:=hread (by intro e;rw [e]at h0;simp at h0);obtain⟨ai,rfl,hblki,hints⟩:=hread2 (by intro e;rw [e]at hps;simp at hps;omega);have HCELLS:=Qq hcells;have HINTS:=Qq hints;have HWF:=Qq hwf;have HP:=Qq hp;have HPS:=Qq hps;rw [hps]at hcap2⊢;obtain⟨iB,hiB,hzB0,hzB1,hzB2⟩:=info_parts Qfi;clear hread hok hread2 hwf hp hps hcells hints;go_enter Tryz.func183,Tryz.ntmps183;go_wp2_with(refine wpList_make_full _ rfl _ _ 89 rfl (w.heap.size+1) 4 iB (.bool false) 1 Tryz.underlying89 hiB hzB0 hzB1 .i64 .i64 (f.length:Int) (f.length:Int) f.length rfl rfl rfl rfl (by rw [hzB2];omega) (by unfold maxLen;omega) (by simp) ?_)
 intro W1 hrow1 hgr1;have HX1:=Qq (show Ext w W1 from((Ext.refl w).alloc (.cells #[.slice (some ad) f.length cf,.slice (some ai) f.length ci] 173)).grown hgr1 (fun k e=>by cases e));have HBX:=Qq (show W1.heap[w.heap.size]?=some (.cells #[.slice (some ad) f.length cf,.slice (some ai) f.length ci] 173 (0,0))from(hgr1.block _ (by simp) (fun e=>by cases e)).trans (heap_alloc_new _ _));have HI:=Qq (show AtI w W1 (.slice (some ad) f.length cf) (.slice (some ai) f.length ci) f ps t 0 []from⟨rfl,rfl,HX1.out,HBX.out,by
  have h1:=hrow1;rw [Cy]at h1;unfold Vr;simp only [List.nil_append,Nat.sub_zero,List.length_replicate];exact h1⟩)
 obtain⟨d0,d1,df,dl⟩:=Ka HBX.out;clear hrow1 hgr1;go_wp2_with fail;clear d0 d1 df dl;go_loopw [16] (fun vi wr=>∃k:Nat,vi=.int .i64 (k:Int)/\k<=f.length/\Hid (∃pre,AtI w wr (.slice (some ad) f.length cf) (.slice (some ai) f.length ci) f ps t k pre)) (fun v _=>f.length - (intOf v).toNat)
 case atStart=>exact⟨0,rfl,Nat.zero_le _,Qq ⟨[],HI.out⟩⟩
 case round =>
  obtain⟨k,rfl,hk,HREL⟩:=hrel;obtain⟨pre,hpre⟩:=HREL.out;have HA:=Qq hpre;obtain⟨d0,d1,df,dl⟩:=Ka hpre.box;clear HREL hpre;by_cases hlt2:k < f.length
  ·have hk1:(k:Int) < (f.length:Int):=by omega
   obtain⟨n,hn⟩:∃n,f[k]?=some n:=⟨_,Qv hlt2⟩;obtain⟨z,hz⟩:∃z,ps[k]?=some z:=⟨_,List.getElem?_eq_getElem (by rw [HPS.out];exact hlt2)⟩;obtain⟨c0,c1,c2,c3,c4,c5⟩:=(HCELLS.out k n hn).keep fun p hp=>HA.out.ext.cell (p:=p) (by rw [hp,Qp];exact hblk)
   have z0:=(HA.out.ext.cell (p:=ai.add k) (Qj hblki)).trans (HINTS.out k z hz);have hblk2:(ad.add (k*6)).block < wr.heap.size:=by rw [Qp];exact Qy hblk HA.out.ext.size
   have hblk3:(ai.add k).block < wr.heap.size:=by rw [Qp];exact Qy hblki HA.out.ext.size
   have hgl:w.heap.size+1 < wr.heap.size:=HA.out.row.lt.2;have gfr:=HA.out.row.frozen k;have gc:wr.cell? ⟨w.heap.size+1,k,none⟩=some (.bool false):=HA.out.row.cell (by rw [List.getElem?_append_right (by rw [HA.out.len];exact Nat.le_refl _),HA.out.len,Nat.sub_self,List.getElem?_replicate,if_pos (by omega)]);have HN:=Qq hn;have HZ:=Qq hz;have HXY:=Qq (HWF.out k n hn);have hz64:=HP.out z (List.mem_of_getElem? hz);clear hn hz;obtain⟨wq,hwq⟩:∃v,v=wr:=⟨_,rfl⟩;subst hwq;by_cases hz0:0<=z
   ·obtain⟨zn,rfl⟩:=Int.eq_ofNat_of_zero_le hz0;have hzn:zn < 64:=by omega
    have hbt:=Bt t zn ht;cases hb:t.testBit zn
    case false =>
     rw [hb]at hbt;have HST:=Qq (show Vd n (zn:Int) t pre=false by unfold Vd;rw [decide_eq_true hz0,cond_true,Int.toNat_natCast];exact hb);clear hb;go_wp2_with fail;go_roundw
     case rel=>exact⟨k+1,by go_num,by omega,Qq ⟨_,(HA.out.store HN.out HZ.out HST.out Qz).next (Qz.alloc _)⟩⟩
     case measure=>simp [intOf];omega
    case true =>
     rw [hb]at hbt;have HST:=Qq (show Vd n (zn:Int) t pre=true by unfold Vd;rw [decide_eq_true hz0,cond_true,Int.toNat_natCast];exact hb);clear hb;go_wp2_with fail;go_roundw
     case rel=>exact⟨k+1,by go_num,by omega,Qq ⟨_,(HA.out.store HN.out HZ.out HST.out Qz).next (Qz.alloc _)⟩⟩
     case measure=>simp [intOf];omega
   have hz1:z < 0:=by omega
   have HZD:=Qq (show decide (0<=z)=false by simpa using hz1);have hcx:n.op=1\/(n.op=4\/n.op=5\/n.op=6\/n.op=7\/n.op=8)\/(n.op≠1/\n.op≠4/\n.op≠5/\n.op≠6/\n.op≠7/\n.op≠8):=by omega
   rcases hcx with hop|hop|hop
   ·have HST:=Qq (show Vd n z t pre=true by unfold Vd;rw [HZD.out,hop];rfl);have t1:(n.op==1)=true:=by rw [hop];rfl
    have t4:(n.op==4)=false:=by rw [hop];rfl
    have t5:(n.op==5)=false:=by rw [hop];rfl
    have t6:(n.op==6)=false:=by rw [hop];rfl
    have t7:(n.op==7)=false:=by rw [hop];rfl
    have t8:(n.op==8)=false:=by rw [hop];rfl
    clear hop;go_wp2_with fail;go_roundw
    case rel=>exact⟨k+1,by go_num,by omega,Qq ⟨_,(HA.out.store HN.out HZ.out HST.out Qz).next (Qz.alloc _)⟩⟩
    case measure=>simp [intOf];omega
   ·have hX:0<=n.x/\n.x < k:=HXY.out.1 (by rcases hop with e|e|e|e|e <;> rw [e] <;> rfl);obtain⟨jx,hjx⟩:=Int.eq_ofNat_of_zero_le hX.1;have hjk:jx < k:=by omega
    have gx:=HA.out.cell hjk;have HGX:=Qq (show pre.getD n.x.toNat false=pre.getD jx false by rw [hjx,Int.toNat_natCast]);rw [hjx]at c4;have hjl:(jx:Int) < (f.length:Int):=by omega
    clear hX hjx;obtain⟨bx,hbx⟩:∃b,b=pre.getD jx false:=⟨_,rfl⟩;rw [<-hbx]at gx HGX;clear hbx;rcases hop with hop|hop
    ·have HST:=Qq (show Vd n z t pre= !bx by unfold Vd;rw [HZD.out,hop,<-HGX.out];rfl);have t1:(n.op==1)=false:=by rw [hop];rfl
     have t4:(n.op==4)=true:=by rw [hop];rfl
     have t5:(n.op==5)=false:=by rw [hop];rfl
     have t6:(n.op==6)=false:=by rw [hop];rfl
     have t7:(n.op==7)=false:=by rw [hop];rfl
     have t8:(n.op==8)=false:=by rw [hop];rfl
     clear hop;cases bx
     all_goals
      go_wp2_with fail;go_roundw
      case rel=>exact⟨k+1,by go_num,by omega,Qq ⟨_,(HA.out.store HN.out HZ.out HST.out Qz).next (Qz.alloc _)⟩⟩
      case measure=>simp [intOf];omega
    have hY:0<=n.y/\n.y < k:=HXY.out.2 (by rcases hop with e|e|e|e <;> rw [e] <;> rfl);obtain⟨jy,hjy⟩:=Int.eq_ofNat_of_zero_le hY.1;have hjk2:jy < k:=by omega
    have gy:=HA.out.cell hjk2;have HGY:=Qq (show pre.getD n.y.toNat false=pre.getD jy false by rw [hjy,Int.toNat_natCast]);rw [hjy]at c5;have hjl2:(jy:Int) < (f.length:Int):=by omega
    clear hY hjy;obtain⟨b2,hb2⟩:∃b,b=pre.getD jy false:=⟨_,rfl⟩;rw [<-hb2]at gy HGY;clear hb2;rcases hop with hop|hop|hop|hop
    ·have HST:=Qq (show Vd n z t pre=(bx&&b2) by unfold Vd;rw [HZD.out,hop,<-HGX.out,<-HGY.out];rfl);have t1:(n.op==1)=false:=by rw [hop];rfl
     have t4:(n.op==4)=false:=by rw [hop];rfl
     have t5:(n.op==5)=true:=by rw [hop];rfl
     have t6:(n.op==6)=false:=by rw [hop];rfl
     have t7:(n.op==7)=false:=by rw [hop];rfl
     have t8:(n.op==8)=false:=by rw [hop];rfl
     clear hop;cases bx <;> cases b2
     all_goals
      go_wp2_with fail;go_roundw
      case rel=>exact⟨k+1,by go_num,by omega,Qq ⟨_,(HA.out.store HN.out HZ.out HST.out Qz).next (Qz.alloc _)⟩⟩
      case measure=>simp [intOf];omega
    ·have HST:=Qq (show Vd n z t pre=(bx||b2) by unfold Vd;rw [HZD.out,hop,<-HGX.out,<-HGY.out];rfl);have t1:(n.op==1)=false:=by rw [hop];rfl
     have t4:(n.op==4)=false:=by rw [hop];rfl
     have t5:(n.op==5)=false:=by rw [hop];rfl
     have t6:(n.op==6)=true:=by rw [hop];rfl
     have t7:(n.op==7)=false:=by rw [hop];rfl
     have t8:(n.op==8)=false:=by rw [hop];rfl
     clear hop;cases bx <;> cases b2
     all_goals
      go_wp2_with fail;go_roundw
      case rel=>exact⟨k+1,by go_num,by omega,Qq ⟨_,(HA.out.store HN.out HZ.out HST.out Qz).next (Qz.alloc _)⟩⟩
      case measure=>simp [intOf];omega
    ·have HST:=Qq (show Vd n z t pre=(!bx||b2) by unfold Vd;rw [HZD.out,hop,<-HGX.out,<-HGY.out];rfl);have t1:(n.op==1)=false:=by rw [hop];rfl
     have t4:(n.op==4)=false:=by rw [hop];rfl
     have t5:(n.op==5)=false:=by rw [hop];rfl
     have t6:(n.op==6)=false:=by rw [hop];rfl
     have t7:(n.op==7)=true:=by rw [hop];rfl
     have t8:(n.op==8)=false:=by rw [hop];rfl
     clear hop;cases bx <;> cases b2
     all_goals
      go_wp2_with fail;go_roundw
      case rel=>exact⟨k+1,by go_num,by omega,Qq ⟨_,(HA.out.store HN.out HZ.out HST.out Qz).next (Qz.alloc _)⟩⟩
      case measure=>simp [intOf];omega
    have HST:=Qq (show Vd n z t pre=(bx==b2) by unfold Vd;rw [HZD.out,hop,<-HGX.out,<-HGY.out];rfl);have t1:(n.op==1)=false:=by rw [hop];rfl
    have t4:(n.op==4)=false:=by rw [hop];rfl
    have t5:(n.op==5)=false:=by rw [hop];rfl
    have t6:(n.op==6)=false:=by rw [hop];rfl
    have t7:(n.op==7)=false:=by rw [hop];rfl
    have t8:(n.op==8)=true:=by rw [hop];rfl
    clear hop;go_wp2_with fail;obtain⟨⟨_,_,_,_,e4,e5⟩,_,eb⟩:=Yx (show(wq.alloc (.cells #[.int .i64 n.op,.int .i64 n.i,.int .i64 n.e,.int .i64 n.g,.int .i64 (jx:Int),.int .i64 (jy:Int)] 71)).heap[wq.heap.size]?=some (.cells #[.int .i64 n.op,.int .i64 n.i,.int .i64 n.e,.int .i64 n.g,.int .i64 (jx:Int),.int .i64 (jy:Int)] 71 (0,0))from heap_alloc_new _ _);refine Vb 14 (fun w'=>w'.cell? (⟨wq.heap.size,4,none⟩)=some (.int .i64 (jx:Int))/\w'.cell? (⟨wq.heap.size,5,none⟩)=some (.int .i64 (jy:Int))/\w'.cell? (⟨w.heap.size+1,jx,none⟩)=some (.bool bx)/\w'.cell? (⟨w.heap.size+1,jy,none⟩)=some (.bool b2)) (by kernel_rfl) ⟨xd eb e4,xd eb e5,xd hgl gx,xd hgl gy⟩ (fun hHeld=> ?_)
    refine utk 0 hHeld ?_;refine utk 1 hHeld ?_;refine utk 2 hHeld ?_;refine utk 3 hHeld ?_;refine utk 4 hHeld ?_;refine utk 5 hHeld ?_;refine utk 6 hHeld ?_;refine utk 7 hHeld ?_;refine utk 8 hHeld ?_;refine utk 9 hHeld ?_;refine utk 10 hHeld ?_;refine utk 11 hHeld ?_;refine utk 12 hHeld ?_;refine utk 13 hHeld ?_;refine Vk (by kernel_rfl) rfl (fun K hK=> ?_);go_simp;refine hK.out _ _ ?_;clear hK K;refine Qb ?_;refine Vv (by kernel_rfl) ?_ _;go_wp2_with fail;go_roundw
    case rel =>
     exact⟨k+1,by go_num,by omega,Qq ⟨pre++ [bx==b2],((HA.out.store HN.out HZ.out HST.out Qz).next (Qz.alloc _)).drew⟩⟩
    case measure=>simp [intOf];omega
   obtain⟨e1,e4,e5,e6,e7,e8⟩:=hop;have t1:(n.op==1)=false:=by simpa using e1
   have t4:(n.op==4)=false:=by simpa using e4
   have t5:(n.op==5)=false:=by simpa using e5
   have t6:(n.op==6)=false:=by simpa using e6
   have t7:(n.op==7)=false:=by simpa using e7
   have t8:(n.op==8)=false:=by simpa using e8
   have HST:=Qq (show Vd n z t pre=false by unfold Vd;rw [HZD.out,t1,t4,t5,t6,t7,t8];rfl);clear e1 e4 e5 e6 e7 e8;go_wp2_with fail;go_roundw
   case rel=>exact⟨k+1,by go_num,by omega,Qq ⟨_,HA.out.keep HN.out HZ.out HST.out (Qz.alloc _)⟩⟩
   case measure=>simp [intOf];omega
  obtain rfl:f.length=k:=by omega
  have hi1:((f.length:Int) - 1) < (f.length:Int):=by omega
  have hi0:(0:Int)<=(f.length:Int) - 1:=by omega
  have e1:((f.length:Int) - 1).toNat=f.length - 1:=by omega
  have HE:=Qq (show atN f ps t=pre.getD (f.length - 1) false by
   have h1:=HA.out.go;rw [List.drop_length]at h1;unfold atN;rw [<-h1];show pre.getLastD false=_;rw [List.getLastD_eq_getLast?,List.getLast?_eq_getElem?,HA.out.len,Qk])
  have gx:=HA.out.cell (show f.length - 1 < f.length by omega);go_wp2_with fail;go_ret;exact⟨by rw [HE.out] <;> rfl,HA.out.ext⟩
end Go.Proofs.YtkmclcmnoicagaaGreatDoor
