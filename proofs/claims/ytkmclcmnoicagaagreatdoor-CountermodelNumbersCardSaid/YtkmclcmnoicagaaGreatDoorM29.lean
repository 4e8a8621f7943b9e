/- types' lacks: the walk. -/
import Derived.Test.YtkmclcmnoicagaaGreatDoorM01
import Derived.Test.YtkmclcmnoicagaaGreatDoorM27
import Derived.Test.YtkmclcmnoicagaaGreatDoorM28
import Derived.WalkSpells
namespace Go.Proofs.YtkmclcmnoicagaaGreatDoor
set_option maxRecDepth 100000
set_option maxHeartbeats 128000000
open Go.RowKit
theorem Qlx {ks:List Kn} {z:Int} {k:Nat} {n:Kn}(hn:ks[k]?=some n)(h:((n.place:Int)==z)=true)(hj:∀(j:Nat) (m:Kn),j < k->ks[j]?=some m->((m.place:Int)==z)=false):ks.find? (fun k=>(k.place:Int)==z)=some n:=by
 rw [List.find?_eq_some_iff_getElem];obtain⟨hk,e⟩:=List.getElem?_eq_some_iff.1 hn;refine⟨h,k,hk,e,fun j hjk=> ?_⟩;have:=hj j ks[j] hjk (List.getElem?_eq_getElem (by omega));rw [this];rfl
theorem Qr7 {ks:List Kn} {z:Int}(hj:∀(j:Nat) (m:Kn),j < ks.length->ks[j]?=some m->((m.place:Int)==z)=false):ks.find? (fun k=>(k.place:Int)==z)=none:=by
 rw [List.find?_eq_none];intro n hn;obtain⟨j,hjl,e⟩:=List.getElem_of_mem hn;rw [hj j n hjl (by rw [Qv hjl,e])];simp
theorem Qlk {ks:List Cm} {z:Int} {k:Nat} {n:Cm}(hn:ks[k]?=some n)(h:((n.place:Int)==z)=true)(hj:∀(j:Nat) (m:Cm),j < k->ks[j]?=some m->((m.place:Int)==z)=false):ks.find? (fun k=>(k.place:Int)==z)=some n:=by
 rw [List.find?_eq_some_iff_getElem];obtain⟨hk,e⟩:=List.getElem?_eq_some_iff.1 hn;refine⟨h,k,hk,e,fun j hjk=> ?_⟩;have:=hj j ks[j] hjk (List.getElem?_eq_getElem (by omega));rw [this];rfl
theorem Qr6 {ks:List Cm} {z:Int}(hj:∀(j:Nat) (m:Cm),j < ks.length->ks[j]?=some m->((m.place:Int)==z)=false):ks.find? (fun k=>(k.place:Int)==z)=none:=by
 rw [List.find?_eq_none];intro n hn;obtain⟨j,hjl,e⟩:=List.getElem_of_mem hn;rw [hj j n hjl (by rw [Qv hjl,e])];simp
theorem Qst(u:Int)(w:World):Calls Tryz.prog 137 (#[.int .i64 u]++ #[]) w fun e w'=>e=.returned (.bool true)/\Ext w w':=by
 show Calls Tryz.prog 137 #[.int .i64 u] w _;go_enter Tryz.func137,Tryz.ntmps137;go_wp2_with fail;go_ret;exact⟨rfl,Qz⟩
theorem Qsl(B u:Nat)(Ah:Option Addr)(ch:Nat)(hs:List Bool)(w:World)(hB:w.cell? ⟨B,2,none⟩=some (.slice Ah hs.length ch))(hb:Dc w Ah ch hs)(hu:u < hs.length):
 Calls Tryz.prog 138 (#[.int .i64 (u:Int)]++ #[.pointer (some ⟨B,0,none⟩)]) w fun e w'=>e=.returned (.bool (!hs.getD u false))/\Ext w w':=by
 show Calls Tryz.prog 138 #[.int .i64 (u:Int),.pointer (some ⟨B,0,none⟩)] w _;obtain⟨ah,rfl,_,hc⟩:=Kz hb hu;have h1:=hb.1;have h2:=hb.2.1;unfold maxLen at h2;have hui:(u:Int) < (hs.length:Int):=by omega
 obtain⟨x,hx⟩:∃x,x=hs.getD u false:=⟨_,rfl⟩;rw [<-hx]at hc⊢;clear hx;go_enter Tryz.func138,Tryz.ntmps138;go_wp2_with fail;go_ret;exact⟨rfl,Qz⟩
theorem Ql2(b:Nat)(lg:Int)(base:List (List Nd))(root:List Bool)(ks:List Kn)(cs:List Cm)(alive:List Bool)(t:Nat)(num:Int)(w:World)
 (hE:Eng w b lg base root ks cs alive)(hlg:0<=lg/\lg<=6)(ht:t < alive.length)(hm:alive.length<=4096)(hnum:Yo num)(hks:∀k∈ks,k.place < 64/\alive.length<=k.holds.length)(hcs:∀c∈cs,c.place < 64/\c.x.length=alive.length/\c.y.length=alive.length/\0<=c.group/\c.group < 16):
 Calls Tryz.prog 63 #[.pointer (some ⟨b,0,none⟩),.int .u64 (t:Int),.int .i64 num] w fun e w'=>e=.returned (.bool (Vj lg ks cs alive t num))/\Ext w w':=by
 obtain⟨Ab,cb,Ar,cr,Ak,ck,Ac,cc,Aa,ca,d0,d1,d2,d3,d4,d5,hbl,_,_,hkn,hcm,_⟩:=hE.cells;have HE:=Qq hE;have HKS:=Qq hks;have HCS:=Qq hcs;have HK:=Qq hkn;have HC:=Qq hcm;have hkc:=hkn.1;have hck:=hkn.2.1;have hcc:=hcm.1;have hccm:=hcm.2.1;unfold maxLen at hck hccm;have D3:=Qq d3;have D4:=Qq d4;unfold Yo at hnum;by_cases hn0:num < 0
 ·have HN0:=Qq (show Vj lg ks cs alive t num=((lg==1||lg==5)&&(ks.any (fun k=>k.agent== -1 - num)&&decide (Xz lg ks alive (-1 - num) t (fun _=>true) < 0))) by unfold Vj;rw [decide_eq_true hn0];rfl);have HCF:=Qq (fun(W:World) (hW:Ext w W) (hB:W.cell? ⟨w.heap.size,0,none⟩=some (.int .i64 (-1 - num))) (hl:w.heap.size < W.heap.size)=>Qx4 (.slice Ak ks.length ck) ks (-1 - num) w.heap.size W ⟨_,_,rfl,HK.out.ext hW⟩ hB hl);have HNX:=Qq (fun(W:World) (hW:Ext w W)=>Qj3 b lg base root ks cs alive (-1 - num) t (fun _=>true) 137 #[] (fun _ _=>rfl) W (HE.out.ext hW) hlg (by omega) hm HKS.out (fun W u _ _=>Qst (u:Int) W))
  clear hE hkn hcm hks hcs d1 d2 d4 d5 HC D4 D3 hcc hccm;obtain⟨an,han⟩:∃x,x=ks.any (fun k=>k.agent== -1 - num):=⟨_,rfl⟩;obtain⟨nx,hnx⟩:∃x,x=Xz lg ks alive (-1 - num) t (fun _=>true):=⟨_,rfl⟩;rw [<-han,<-hnx]at HN0;rw [<-han]at HCF;rw [<-hnx]at HNX;clear han hnx;cases h1:lg==1
  ·cases h5:lg==5
   ·skip
    have HS:=Qq (show(lg==1||lg==5)=false by rw [h1,h5];rfl);go_enter Tryz.func63,Tryz.ntmps63;go_wp2_with fail;refine(HCF.out _ ((Ext.refl w).alloc (.cells #[.int .i64 (-1 - num)] 3)) (by simp) (by simp)).mono ?_;rintro e w2 ⟨rfl,hx2⟩;have HX2:=Qq (((Ext.refl w).alloc (.cells #[.int .i64 (-1 - num)] 3)).trans hx2);have hbx:=(hx2.cell (p:=⟨w.heap.size,0,none⟩) (by simp)).trans (show(w.alloc (.cells #[.int .i64 (-1 - num)] 3)).cell? ⟨w.heap.size,0,none⟩=some (.int .i64 (-1 - num)) by simp);clear hx2;go_wp2_with fail;go_ret;exact⟨by rw [HN0.out,HS.out] <;> rfl,HX2.out⟩
   skip
   have HS:=Qq (show(lg==1||lg==5)=true by rw [h1,h5];rfl);go_enter Tryz.func63,Tryz.ntmps63;go_wp2_with fail;refine(HCF.out _ ((Ext.refl w).alloc (.cells #[.int .i64 (-1 - num)] 3)) (by simp) (by simp)).mono ?_;rintro e w2 ⟨rfl,hx2⟩;have HX2:=Qq (((Ext.refl w).alloc (.cells #[.int .i64 (-1 - num)] 3)).trans hx2);have hbx:=(hx2.cell (p:=⟨w.heap.size,0,none⟩) (by simp)).trans (show(w.alloc (.cells #[.int .i64 (-1 - num)] 3)).cell? ⟨w.heap.size,0,none⟩=some (.int .i64 (-1 - num)) by simp);clear hx2;cases an
   ·go_wp2_with fail;go_ret;exact⟨by rw [HN0.out,HS.out] <;> rfl,HX2.out⟩
   go_wp2_with fail;refine(HNX.out _ HX2.out).mono ?_;rintro e w3 ⟨rfl,hx3⟩;have HX3:=Qq (HX2.out.trans hx3);clear hx3;by_cases hnx:nx < 0
   ·have HD:=Qq (decide_eq_true hnx);go_wp2_with fail;go_ret;exact⟨by rw [HN0.out,HS.out,HD.out] <;> rfl,HX3.out⟩
   have HD:=Qq (decide_eq_false hnx);go_wp2_with fail;go_ret;exact⟨by rw [HN0.out,HS.out,HD.out] <;> rfl,HX3.out⟩
  skip
  have HS:=Qq (show(lg==1||lg==5)=true by rw [h1];rfl);go_enter Tryz.func63,Tryz.ntmps63;go_wp2_with fail;refine(HCF.out _ ((Ext.refl w).alloc (.cells #[.int .i64 (-1 - num)] 3)) (by simp) (by simp)).mono ?_;rintro e w2 ⟨rfl,hx2⟩;have HX2:=Qq (((Ext.refl w).alloc (.cells #[.int .i64 (-1 - num)] 3)).trans hx2);have hbx:=(hx2.cell (p:=⟨w.heap.size,0,none⟩) (by simp)).trans (show(w.alloc (.cells #[.int .i64 (-1 - num)] 3)).cell? ⟨w.heap.size,0,none⟩=some (.int .i64 (-1 - num)) by simp);clear hx2;cases an
  ·go_wp2_with fail;go_ret;exact⟨by rw [HN0.out,HS.out] <;> rfl,HX2.out⟩
  go_wp2_with fail;refine(HNX.out _ HX2.out).mono ?_;rintro e w3 ⟨rfl,hx3⟩;have HX3:=Qq (HX2.out.trans hx3);clear hx3;by_cases hnx:nx < 0
  ·have HD:=Qq (decide_eq_true hnx);go_wp2_with fail;go_ret;exact⟨by rw [HN0.out,HS.out,HD.out] <;> rfl,HX3.out⟩
  have HD:=Qq (decide_eq_false hnx);go_wp2_with fail;go_ret;exact⟨by rw [HN0.out,HS.out,HD.out] <;> rfl,HX3.out⟩
 obtain⟨nn,hnn⟩:=Int.eq_ofNat_of_zero_le (show 0<=num by omega);subst hnn;have HN0:=Qq (decide_eq_false hn0);clear hE hkn hcm hks hcs d0 d1 d2 d5 hn0;go_enter Tryz.func63,Tryz.ntmps63;go_wp2_with fail;clear d3 d4;go_loopw [52] (fun v wr=>∃k:Nat,v=.int .i64 (k:Int)/\k<=ks.length/\Hid (Ext w wr/\∀(j:Nat) (m:Kn),j < k->ks[j]?=some m->((m.place:Int)==(nn:Int))=false)) (fun v _=>ks.length - (intOf v).toNat)
 case atStart=>exact⟨0,rfl,Nat.zero_le _,Qq ⟨Qz,fun j m hj=>absurd hj (by omega)⟩⟩
 case round =>
  obtain⟨k,rfl,hk,HREL⟩:=hrel;have HX:=Qq HREL.out.1;have HJ:=Qq HREL.out.2;clear HREL;by_cases hlt2:k < ks.length
  ·have hk1:(k:Int) < (ks.length:Int):=by omega
   obtain⟨n,hn⟩:∃n,ks[k]?=some n:=⟨_,Qv hlt2⟩;obtain⟨hpl,hhl⟩:=HKS.out n (List.mem_of_getElem? hn);obtain⟨ad,rfl,hblk,hat⟩:=Id HK.out hn;obtain⟨vh,c0,c1,c2,hbo⟩:=hat.ext HX.out (Qj hblk);obtain⟨Ah,ch,rfl,hbo⟩:=hbo;have HBO:=Qq hbo;have hblk2:(ad.add (k*3)).block < wr.heap.size:=by rw [Qc];exact Qy hblk HX.out.size
   have HN:=Qq hn;have HNEXT:=Qq (show((n.place:Int)==(nn:Int))=false->∀(j:Nat) (m:Kn),j < k+1->ks[j]?=some m->((m.place:Int)==(nn:Int))=false from fun hc j m hj hm=>by
    by_cases e:j < k
    ·exact HJ.out j m e hm
    have:j=k:=by omega
    subst this;rw [hn]at hm;injection hm with hm;rw [<-hm];exact hc)
   clear hn hat hbo;obtain⟨wq,hwq⟩:∃v,v=wr:=⟨_,rfl⟩;subst hwq;by_cases hpe:n.place=nn
   ·have hpi:((n.place:Int)==(nn:Int))=true:=by rw [hpe];simp
    have HFD:=Qq (Qlx HN.out hpi HJ.out);have HLN:=Qq (show Vj lg ks cs alive t (nn:Int)=(!t.testBit nn&&decide (Xz lg ks alive n.agent t (fun u=> !n.holds.getD u false) < 0)) by
     unfold Vj;rw [HN0.out,cond_false,HFD.out]
     rfl)
    have hb1:=Sm t nn (by omega);have HX0:=Qq (show Ext w (wq.alloc (.cells #[.int .i64 n.agent,.int .i64 (n.place:Int),.slice Ah n.holds.length ch] 136))from HX.out.alloc _);have HBXX:=Qq (Qv4 (show(wq.alloc (.cells #[.int .i64 n.agent,.int .i64 (n.place:Int),.slice Ah n.holds.length ch] 136)).heap[wq.heap.size]?=some (.cells #[.int .i64 n.agent,.int .i64 (n.place:Int),.slice Ah n.holds.length ch] 136 (0,0))from heap_alloc_new _ _));have HNX:=Qq (Qj3 b lg base root ks cs alive n.agent t (fun u=> !n.holds.getD u false) 138 #[.pointer (some ⟨wq.heap.size,0,none⟩)] (fun _ _=>rfl) _ (HE.out.ext HX0.out) hlg (by omega) hm HKS.out (fun W u hu hW=>Qsl wq.heap.size u Ah ch n.holds W ((hW.cell (p:=⟨wq.heap.size,2,none⟩) (by simp)).trans HBXX.out.2.2.1) ((HBO.out.ext (Qz.alloc _)).ext hW) (Qy hu hhl)))
    obtain⟨nx,hnx⟩:∃x,x=Xz lg ks alive n.agent t (fun u=> !n.holds.getD u false):=⟨_,rfl⟩;rw [<-hnx]at HLN HNX;obtain⟨tb,htb⟩:∃x,x=t.testBit nn:=⟨_,rfl⟩;rw [<-htb]at HLN hb1;have hmf:∀(fn:Fn) (first cap:Array Value) (w:World),(Instr.makeFunc fn first cap).run Tryz.prog w=.ok (.func fn first cap) w:=fun _ _ _ _=>rfl
    clear hnx htb hpe;cases tb
    ·simp only [Bool.not_false]at hb1;go_wp2_with fail;refine HNX.out.mono ?_;rintro e w3 ⟨rfl,hx3⟩;have HX3:=Qq (HX0.out.trans hx3);clear hx3;by_cases hnx:nx < 0
     ·have HD:=Qq (decide_eq_true hnx);go_wp2_with fail;go_ret;exact⟨by rw [HLN.out,HD.out] <;> rfl,HX3.out⟩
     have HD:=Qq (decide_eq_false hnx);go_wp2_with fail;go_ret;exact⟨by rw [HLN.out,HD.out] <;> rfl,HX3.out⟩
    simp only [Bool.not_true]at hb1;go_wp2_with fail;go_ret;exact⟨by rw [HLN.out] <;> rfl,HX0.out⟩
   have hpi:((n.place:Int)==(nn:Int))=false:=by rw [beq_eq_false_iff_ne];omega
   clear hpe;go_wp2_with fail;go_roundw
   case rel=>exact⟨k+1,by go_num,by omega,Qq ⟨HX.out.alloc _,HNEXT.out hpi⟩⟩
   case measure=>simp [intOf];omega
  obtain rfl:ks.length=k:=by omega
  have HFN:=Qq (Qr7 HJ.out);have HXC:=Qq HX.out;have dw4:=(HX.out.cell (p:=⟨b,4,none⟩) hbl).trans D4.out;clear HJ HX;obtain⟨w1,hw1⟩:∃v,v=wr:=⟨_,rfl⟩;subst hw1;go_wp2_with fail;clear dw4;go_loopw [80] (fun v wr=>∃k:Nat,v=.int .i64 (k:Int)/\k<=cs.length/\Hid (Ext w wr/\∀(j:Nat) (m:Cm),j < k->cs[j]?=some m->((m.place:Int)==(nn:Int))=false)) (fun v _=>cs.length - (intOf v).toNat)
  case atStart=>exact⟨0,rfl,Nat.zero_le _,Qq ⟨HXC.out,fun j m hj=>absurd hj (by omega)⟩⟩
  case round =>
   obtain⟨k,rfl,hk,HREL⟩:=hrel;have HX:=Qq HREL.out.1;have HJ:=Qq HREL.out.2;clear HREL;by_cases hlt2:k < cs.length
   ·have hk1:(k:Int) < (cs.length:Int):=by omega
    obtain⟨n,hn⟩:∃n,cs[k]?=some n:=⟨_,Qv hlt2⟩;obtain⟨hpl,hxl,hyl,hg0,hg1⟩:=HCS.out n (List.mem_of_getElem? hn);obtain⟨ad,rfl,hblk,hat⟩:=Qg7 HC.out hn;obtain⟨vx,vy,c0,c1,c2,c3,c4,hbx,hby⟩:=hat.ext HX.out (Qj hblk);have HBX:=Qq hbx;have HBY:=Qq hby;obtain⟨Ax,cx,rfl,_⟩:=hbx;obtain⟨Ay,cy,rfl,_⟩:=hby;have hblk2:(ad.add (k*5)).block < wr.heap.size:=by rw [Qc];exact Qy hblk HX.out.size
    have HN:=Qq hn;have HNEXT:=Qq (show((n.place:Int)==(nn:Int))=false->∀(j:Nat) (m:Cm),j < k+1->cs[j]?=some m->((m.place:Int)==(nn:Int))=false from fun hc j m hj hm=>by
     by_cases e:j < k
     ·exact HJ.out j m e hm
     have:j=k:=by omega
     subst this;rw [hn]at hm;injection hm with hm;rw [<-hm];exact hc)
    clear hn hat;obtain⟨wq,hwq⟩:∃v,v=wr:=⟨_,rfl⟩;subst hwq;by_cases hpe:n.place=nn
    ·have hpi:((n.place:Int)==(nn:Int))=true:=by rw [hpe];simp
     have hn64:nn < 64:=by omega
     have HFD:=Qq (Qlk HN.out hpi HJ.out);have HLN:=Qq (show Vj lg ks cs alive t (nn:Int)=(!t.testBit nn&& !Ms lg ks alive n t) by
      unfold Vj;rw [HN0.out,cond_false,HFN.out,HFD.out]
      rfl)
     have hb1:=Sm t nn (by omega);have HX0:=Qq (show Ext w (wq.alloc (.cells #[.int .i64 (n.place:Int),.int .i64 n.group,.slice Ax n.x.length cx,.slice Ay n.y.length cy,.int .u64 (n.parts:Int)] 138))from HX.out.alloc _);have HPT:=Qq (Qbz b lg base root ks cs alive n t (.slice Ax n.x.length cx) (.slice Ay n.y.length cy) _ (HE.out.ext HX0.out) hlg (by omega) hm HKS.out (HBX.out.ext (Qz.alloc _)) (HBY.out.ext (Qz.alloc _)) hxl hyl ⟨hg0,hg1⟩ (by omega));have hq:=fun(w:World) (a:Option Addr) (n c:Nat)=>Lib.run_eql_slice_nil (P:=Tryz.prog) w 36 3 a n c 0 0 Tryz.underlying36
     obtain⟨tb,htb⟩:∃x,x=t.testBit nn:=⟨_,rfl⟩;rw [<-htb]at HLN hb1;clear htb hpe hxl hyl hg0 hg1;cases tb
     ·simp only [Bool.not_false]at hb1;go_wp2_with fail;refine HPT.out.mono ?_;rintro e w3 hres;rcases hres with⟨rfl,hx3,hno⟩|⟨ad3,c3',ls,rfl,hx3,_,_,_,_,hyes⟩
      ·have HX3:=Qq (HX0.out.trans hx3);have HD:=Qq (show Ms lg ks alive n t=false by
        cases h:Ms lg ks alive n t
        ·rfl
        exact absurd (Ph.1 h) hno)
       clear hx3 hno;go_wp2_with fail;go_ret;exact⟨by rw [HLN.out,HD.out] <;> rfl,HX3.out⟩
      have HX3:=Qq (HX0.out.trans hx3);have HD:=Qq (show Ms lg ks alive n t=true from Ph.2 hyes);clear hx3 hyes;go_wp2_with fail;go_ret;exact⟨by rw [HLN.out,HD.out] <;> rfl,HX3.out⟩
     simp only [Bool.not_true]at hb1;go_wp2_with fail;go_ret;exact⟨by rw [HLN.out] <;> rfl,HX0.out⟩
    have hpi:((n.place:Int)==(nn:Int))=false:=by rw [beq_eq_false_iff_ne];omega
    clear hpe hxl hyl hg0 hg1;go_wp2_with fail;go_roundw
    case rel=>exact⟨k+1,by go_num,by omega,Qq ⟨HX.out.alloc _,HNEXT.out hpi⟩⟩
    case measure=>simp [intOf];omega
   obtain rfl:cs.length=k:=by omega
   have HFM:=Qq (Qr6 HJ.out);have HLN:=Qq (show Vj lg ks cs alive t (nn:Int)=false by
    unfold Vj;rw [HN0.out,cond_false,HFN.out,HFM.out])
   go_wp2_with fail;go_ret;exact⟨by rw [HLN.out] <;> rfl,HX.out⟩
end Go.Proofs.YtkmclcmnoicagaaGreatDoor
