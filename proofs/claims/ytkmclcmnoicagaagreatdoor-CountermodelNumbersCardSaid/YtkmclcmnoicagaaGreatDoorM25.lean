/- types' coherent: the walk. -/
import Derived.Test.YtkmclcmnoicagaaGreatDoorM01
import Derived.Test.YtkmclcmnoicagaaGreatDoorM22
import Derived.Test.YtkmclcmnoicagaaGreatDoorM09
namespace Go.Proofs.YtkmclcmnoicagaaGreatDoor
set_option maxRecDepth 100000
set_option maxHeartbeats 128000000
open Go.RowKit
def El(t:Nat)(c:Cm):Bool:=t.testBit c.place==((t&&&c.parts)==c.parts)
def Qjg(lg:Int)(t:Nat)(k:Kn):Bool:= !(Fk lg&&(t.testBit k.place&& !k.holds.getD t false))
theorem Qak {lg:Int} {ks:List Kn} {cs:List Cm} {t k:Nat} {c:Cm}(hn:cs[k]?=some c)(h:El t c=false):Ye lg ks cs t=false:=by
 unfold Ye;have:cs.all (fun c=>t.testBit c.place==((t&&&c.parts)==c.parts))=false:=by
  rw [List.all_eq_false];exact⟨c,List.mem_of_getElem? hn,by show ¬El t c=true;rw [h];simp⟩
 rw [this];rfl
theorem Zzk {lg:Int} {ks:List Kn} {cs:List Cm} {t k:Nat} {n:Kn}(hn:ks[k]?=some n)(h:Qjg lg t n=false):Ye lg ks cs t=false:=by
 unfold Ye;have:ks.all (fun k=> !(Fk lg&&(t.testBit k.place&& !k.holds.getD t false)))=false:=by
  rw [List.all_eq_false];exact⟨n,List.mem_of_getElem? hn,by show ¬Qjg lg t n=true;rw [h];simp⟩
 rw [this,Bool.and_false]
theorem Qa9 {lg:Int} {ks:List Kn} {cs:List Cm} {t:Nat}(h1:∀(j:Nat) (c:Cm),j < cs.length->cs[j]?=some c->El t c=true)(h2:∀(j:Nat) (n:Kn),j < ks.length->ks[j]?=some n->Qjg lg t n=true):Ye lg ks cs t=true:=by
 unfold Ye;rw [Bool.and_eq_true,List.all_eq_true,List.all_eq_true];constructor
 ·intro c hc;obtain⟨j,hj,e⟩:=List.getElem_of_mem hc;exact h1 j c hj (by rw [Qv hj,e])
 intro c hc;obtain⟨j,hj,e⟩:=List.getElem_of_mem hc;exact h2 j c hj (by rw [Qv hj,e])
theorem Qg7 {w:World} {A:Option Addr} {c:Nat} {l:List Cm}(h:Qqn w A c l) {k:Nat} {n:Cm}(hk:l[k]?=some n):∃ad,A=some ad/\ad.block < w.heap.size/\Qgm w (ad.add (k*5)) n:=by
 obtain⟨ad,e,hb,hc⟩:=h.2.2 (by intro e;rw [e]at hk;simp at hk);exact⟨ad,e,hb,hc k n hk⟩
theorem Qqc {w:World} {b:Nat} {a0 a1 a2 a3 a4:Value} {t:TypeId}(h:w.heap[b]?=some (.cells #[a0,a1,a2,a3,a4] t (0,0))):
 w.cell? ⟨b,0,none⟩=some a0/\w.cell? ⟨b,1,none⟩=some a1/\w.cell? ⟨b,2,none⟩=some a2/\w.cell? ⟨b,3,none⟩=some a3/\w.cell? ⟨b,4,none⟩=some a4/\b < w.heap.size :=
 ⟨by simp [World.cell?,h],by simp [World.cell?,h],by simp [World.cell?,h],by simp [World.cell?,h],by simp [World.cell?,h],Qf h⟩
theorem Qtr(t q:Nat)(ht:t < 18446744073709551616)(hq:q < 18446744073709551616):(bits .and .u64 (t:Int) (q:Int)==(q:Int))=((t&&&q)==q):=by
 rw [bits_and_u64_nat _ _ ht hq,Bool.eq_iff_iff,beq_iff_eq,beq_iff_eq];omega
theorem Qg9(b:Nat)(lg:Int)(base:List (List Nd))(root:List Bool)(ks:List Kn)(cs:List Cm)(alive:List Bool)(t:Nat)(w:World)
 (hE:Eng w b lg base root ks cs alive)(ht:t < 4096)(hks:∀k∈ks,k.place < 64/\t < k.holds.length)(hcs:∀c∈cs,c.place < 64/\c.parts < 18446744073709551616):
 Calls Tryz.prog 131 #[.pointer (some ⟨b,0,none⟩),.int .u64 (t:Int)] w fun e w'=>e=.returned (.bool (Ye lg ks cs t))/\Ext w w':=by
 obtain⟨Ab,cb,Ar,cr,Ak,ck,Ac,cc,Aa,ca,d0,d1,d2,d3,d4,d5,hbl,_,_,hkn,hcm,_⟩:=hE.cells;have HK:=Qq hkn;have HC:=Qq hcm;have hkc:=hkn.1;have hck:=hkn.2.1;have hcc:=hcm.1;have hccm:=hcm.2.1;unfold maxLen at hck hccm;have HKS:=Qq hks;have HCS:=Qq hcs;have D0:=Qq d0;have D3:=Qq d3;clear hE hkn hcm hks hcs d1 d2 d3 d5 d0;go_enter Tryz.func131,Tryz.ntmps131;go_wp2_with fail;clear d4;go_loopw [14] (fun v wr=>∃k:Nat,v=.int .i64 (k:Int)/\k<=cs.length/\Hid (Ext w wr/\∀(j:Nat) (c:Cm),j < k->cs[j]?=some c->El t c=true)) (fun v _=>cs.length - (intOf v).toNat)
 case atStart=>exact⟨0,rfl,Nat.zero_le _,Qq ⟨Qz,fun j n hj=>absurd hj (by omega)⟩⟩
 case round =>
  obtain⟨k,rfl,hk,HREL⟩:=hrel;have HX:=Qq HREL.out.1;have HJ:=Qq HREL.out.2;clear HREL;by_cases hlt2:k < cs.length
  ·have hk1:(k:Int) < (cs.length:Int):=by omega
   obtain⟨n,hn⟩:∃n,cs[k]?=some n:=⟨_,Qv hlt2⟩;obtain⟨hpl,hpa⟩:=HCS.out n (List.mem_of_getElem? hn);obtain⟨ad,rfl,hblk,hat⟩:=Qg7 HC.out hn;obtain⟨vx,vy,c0,c1,c2,c3,c4,hbx,hby⟩:=hat.ext HX.out (Qj hblk);obtain⟨Ax,cx,rfl,_⟩:=hbx;obtain⟨Ay,cy,rfl,_⟩:=hby;have hblk2:(ad.add (k*5)).block < wr.heap.size:=by rw [Qc];exact Qy hblk HX.out.size
   have HN:=Qq hn;have HNEXT:=Qq (show El t n=true->∀(j:Nat) (m:Cm),j < k+1->cs[j]?=some m->El t m=true from fun hc j m hj hm=>by
    by_cases e:j < k
    ·exact HJ.out j m e hm
    have:j=k:=by omega
    subst this;rw [hn]at hm;injection hm with hm;rw [<-hm];exact hc)
   have hb1:=Bn t n.place (by omega);have hb2:=Qtr t n.parts (by omega) hpa;obtain⟨p1,hp1⟩:∃x,x=t.testBit n.place:=⟨_,rfl⟩;obtain⟨p2,hp2⟩:∃x,x=((t&&&n.parts)==n.parts):=⟨_,rfl⟩;have HCO:=Qq (show El t n=(p1==p2) by rw [hp1,hp2];rfl);rw [<-hp1]at hb1;rw [<-hp2]at hb2;clear hn hat hp1 hp2;obtain⟨wq,hwq⟩:∃v,v=wr:=⟨_,rfl⟩;subst hwq;go_upto_region 4 with(fail);obtain⟨e0,e1,e2,e3,e4,eb⟩:=Qqc (show(wq.alloc (.cells #[.int .i64 (n.place:Int),.int .i64 n.group,.slice Ax n.x.length cx,.slice Ay n.y.length cy,.int .u64 (n.parts:Int)] 138)).heap[wq.heap.size]?=some (.cells #[.int .i64 (n.place:Int),.int .i64 n.group,.slice Ax n.x.length cx,.slice Ay n.y.length cy,.int .u64 (n.parts:Int)] 138 (0,0))from heap_alloc_new _ _)
   cases p1 <;> cases p2
   ·have HT:=Qq (show El t n=true by rw [HCO.out];rfl);refine wp_region_held_drew (S:=fun w'=>w'.cell? (⟨wq.heap.size,0,none⟩)=some (.int .i64 (n.place:Int))/\w'.cell? (⟨wq.heap.size,4,none⟩)=some (.int .u64 (n.parts:Int))) (by kernel_rfl) ⟨xc eb e0,xc eb e4⟩ (fun hHeld=> ?_);refine tk 0 hHeld ?_;refine tk 1 hHeld ?_;refine tk 2 hHeld ?_;refine tk 3 hHeld ?_;refine tk 4 hHeld ?_;refine tk 5 hHeld ?_;refine tk 6 hHeld ?_;refine tk 7 hHeld ?_;refine tk 8 hHeld ?_;refine tk 9 hHeld ?_;refine tk 10 hHeld ?_;refine tk 11 hHeld ?_;refine tk 12 hHeld ?_;refine tk 13 hHeld ?_;refine wpAnyH_done (by kernel_rfl) ?_ _
    go_wp2_with fail;go_roundw
    case rel=>exact⟨k+1,by go_num,by omega,Qq ⟨HX.out.trans (Qz.alloc _).drew,HNEXT.out HT.out⟩⟩
    case measure=>simp [intOf];omega
   ·have HE:=Qq (show Ye lg ks cs t=false from Qak HN.out (by rw [HCO.out];rfl));refine wp_region_held_drew (S:=fun w'=>w'.cell? (⟨wq.heap.size,0,none⟩)=some (.int .i64 (n.place:Int))/\w'.cell? (⟨wq.heap.size,4,none⟩)=some (.int .u64 (n.parts:Int))) (by kernel_rfl) ⟨xc eb e0,xc eb e4⟩ (fun hHeld=> ?_);refine tk 0 hHeld ?_;refine tk 1 hHeld ?_;refine tk 2 hHeld ?_;refine tk 3 hHeld ?_;refine tk 4 hHeld ?_;refine tk 5 hHeld ?_;refine tk 6 hHeld ?_;refine tk 7 hHeld ?_;refine tk 8 hHeld ?_;refine tk 9 hHeld ?_;refine tk 10 hHeld ?_;refine tk 11 hHeld ?_;refine tk 12 hHeld ?_;refine tk 13 hHeld ?_
    refine wpAnyH_done (by kernel_rfl) ?_ _;go_wp2_with fail;go_ret;exact⟨by rw [HE.out] <;> rfl,HX.out.trans (Qz.alloc _).drew⟩
   ·have HE:=Qq (show Ye lg ks cs t=false from Qak HN.out (by rw [HCO.out];rfl));refine wp_region_held_drew (S:=fun w'=>w'.cell? (⟨wq.heap.size,0,none⟩)=some (.int .i64 (n.place:Int))/\w'.cell? (⟨wq.heap.size,4,none⟩)=some (.int .u64 (n.parts:Int))) (by kernel_rfl) ⟨xc eb e0,xc eb e4⟩ (fun hHeld=> ?_);refine tk 0 hHeld ?_;refine tk 1 hHeld ?_;refine tk 2 hHeld ?_;refine tk 3 hHeld ?_;refine tk 4 hHeld ?_;refine tk 5 hHeld ?_;refine tk 6 hHeld ?_;refine tk 7 hHeld ?_;refine tk 8 hHeld ?_;refine tk 9 hHeld ?_;refine tk 10 hHeld ?_;refine tk 11 hHeld ?_;refine tk 12 hHeld ?_;refine tk 13 hHeld ?_
    refine wpAnyH_done (by kernel_rfl) ?_ _;go_wp2_with fail;go_ret;exact⟨by rw [HE.out] <;> rfl,HX.out.trans (Qz.alloc _).drew⟩
   have HT:=Qq (show El t n=true by rw [HCO.out];rfl);refine wp_region_held_drew (S:=fun w'=>w'.cell? (⟨wq.heap.size,0,none⟩)=some (.int .i64 (n.place:Int))/\w'.cell? (⟨wq.heap.size,4,none⟩)=some (.int .u64 (n.parts:Int))) (by kernel_rfl) ⟨xc eb e0,xc eb e4⟩ (fun hHeld=> ?_);refine tk 0 hHeld ?_;refine tk 1 hHeld ?_;refine tk 2 hHeld ?_;refine tk 3 hHeld ?_;refine tk 4 hHeld ?_;refine tk 5 hHeld ?_;refine tk 6 hHeld ?_;refine tk 7 hHeld ?_;refine tk 8 hHeld ?_;refine tk 9 hHeld ?_;refine tk 10 hHeld ?_;refine tk 11 hHeld ?_;refine tk 12 hHeld ?_;refine tk 13 hHeld ?_;refine wpAnyH_done (by kernel_rfl) ?_ _
   go_wp2_with fail;go_roundw
   case rel=>exact⟨k+1,by go_num,by omega,Qq ⟨HX.out.trans (Qz.alloc _).drew,HNEXT.out HT.out⟩⟩
   case measure=>simp [intOf];omega
  obtain rfl:cs.length=k:=by omega
  have HJC:=Qq HJ.out;have HXC:=Qq HX.out;have dw3:=(HX.out.cell (p:=⟨b,3,none⟩) hbl).trans D3.out;clear HJ HX;obtain⟨w1,hw1⟩:∃v,v=wr:=⟨_,rfl⟩;subst hw1;go_wp2_with fail;clear dw3;go_loopw [38] (fun v wr=>∃k:Nat,v=.int .i64 (k:Int)/\k<=ks.length/\Hid (Ext w wr/\∀(j:Nat) (c:Kn),j < k->ks[j]?=some c->Qjg lg t c=true)) (fun v _=>ks.length - (intOf v).toNat)
  case atStart=>exact⟨0,rfl,Nat.zero_le _,Qq ⟨HXC.out,fun j n hj=>absurd hj (by omega)⟩⟩
  case round =>
   obtain⟨k,rfl,hk,HREL⟩:=hrel;have HX:=Qq HREL.out.1;have HJ:=Qq HREL.out.2;clear HREL;by_cases hlt2:k < ks.length
   ·have hk1:(k:Int) < (ks.length:Int):=by omega
    obtain⟨n,hn⟩:∃n,ks[k]?=some n:=⟨_,Qv hlt2⟩;obtain⟨hpl,hhl⟩:=HKS.out n (List.mem_of_getElem? hn);obtain⟨ad,rfl,hblk,hat⟩:=Id HK.out hn;obtain⟨vh,c0,c1,c2,hbo⟩:=hat.ext HX.out (Qj hblk);obtain⟨Ah,ch,rfl,hbo⟩:=hbo;have hhc:=hbo.1;have hch:=hbo.2.1;unfold maxLen at hch;obtain⟨ah,rfl,hhb,hcell⟩:=Kz hbo hhl;have hblk2:(ad.add (k*3)).block < wr.heap.size:=by rw [Qc];exact Qy hblk HX.out.size
    have hhb2:(ah.add t).block < wr.heap.size:=by rw [Qc];exact hhb
    have hlen1:(t:Int) < (n.holds.length:Int):=by omega
    have dl0:=(HX.out.cell (p:=⟨b,0,none⟩) hbl).trans D0.out;have hbl2:b < wr.heap.size:=Qy hbl HX.out.size;have HN:=Qq hn;have HNEXT:=Qq (show Qjg lg t n=true->∀(j:Nat) (m:Kn),j < k+1->ks[j]?=some m->Qjg lg t m=true from fun hc j m hj hm=>by
     by_cases e:j < k
     ·exact HJ.out j m e hm
     have:j=k:=by omega
     subst this;rw [hn]at hm;injection hm with hm;rw [<-hm];exact hc)
    have hb1:=Bn t n.place (by omega);obtain⟨ph,hph⟩:∃x,x=n.holds.getD t false:=⟨_,rfl⟩;obtain⟨p1,hp1⟩:∃x,x=t.testBit n.place:=⟨_,rfl⟩;obtain⟨pr,hpr⟩:∃x,x=Fk lg:=⟨_,rfl⟩;have HCO:=Qq (show Qjg lg t n= !(pr&&(p1&& !ph)) by rw [hph,hp1,hpr];rfl);have HRF:=Qq (show ∀W,W.cell? ⟨b,0,none⟩=some (.int .i64 lg)->Calls Tryz.prog 184 #[.pointer (some ⟨b,0,none⟩)] W fun e w'=>e=.returned (.bool pr)/\W=w' from fun W hW=>hpr▸Qgg b lg W hW);rw [<-hph]at hcell;rw [<-hp1]at hb1;clear hn hat hbo hph hp1 hpr;obtain⟨wq,hwq⟩:∃v,v=wr:=⟨_,rfl⟩;subst hwq;cases pr
    ·go_wp2_with fail;refine(HRF.out _ ((((Ext.refl wq).alloc _).cell (p:=⟨b,0,none⟩) hbl2).trans dl0)).mono ?_;rintro e w3 ⟨rfl,rfl⟩;go_wp2_with fail;go_roundw
     case rel=>exact⟨k+1,by go_num,by omega,Qq ⟨HX.out.trans (Qz.alloc _),HNEXT.out (by rw [HCO.out];rfl)⟩⟩
     case measure=>simp [intOf];omega
    cases p1
    ·go_wp2_with fail;refine(HRF.out _ ((((Ext.refl wq).alloc _).cell (p:=⟨b,0,none⟩) hbl2).trans dl0)).mono ?_;rintro e w3 ⟨rfl,rfl⟩;go_wp2_with fail;go_roundw
     case rel=>exact⟨k+1,by go_num,by omega,Qq ⟨HX.out.trans (Qz.alloc _),HNEXT.out (by rw [HCO.out];rfl)⟩⟩
     case measure=>simp [intOf];omega
    cases ph
    ·have HE:=Qq (show Ye lg ks cs t=false from Zzk HN.out (by rw [HCO.out];rfl));go_wp2_with fail;refine(HRF.out _ ((((Ext.refl wq).alloc _).cell (p:=⟨b,0,none⟩) hbl2).trans dl0)).mono ?_;rintro e w3 ⟨rfl,rfl⟩;go_wp2_with fail;go_ret;exact⟨by rw [HE.out] <;> rfl,HX.out.trans (Qz.alloc _)⟩
    go_wp2_with fail;refine(HRF.out _ ((((Ext.refl wq).alloc _).cell (p:=⟨b,0,none⟩) hbl2).trans dl0)).mono ?_;rintro e w3 ⟨rfl,rfl⟩;go_wp2_with fail;go_roundw
    case rel=>exact⟨k+1,by go_num,by omega,Qq ⟨HX.out.trans (Qz.alloc _),HNEXT.out (by rw [HCO.out];rfl)⟩⟩
    case measure=>simp [intOf];omega
   obtain rfl:ks.length=k:=by omega
   have HE:=Qq (Qa9 HJC.out HJ.out);go_wp2_with fail;go_ret;exact⟨by rw [HE.out] <;> rfl,HX.out⟩
end Go.Proofs.YtkmclcmnoicagaaGreatDoor
