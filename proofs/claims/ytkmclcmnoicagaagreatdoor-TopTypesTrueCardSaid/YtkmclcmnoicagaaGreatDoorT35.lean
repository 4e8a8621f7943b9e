/- The engine's choose: what a type requires is selected. -/
import Derived.Test.YtkmclcmnoicagaaGreatDoorT34
namespace Go.Proofs.YtkmclcmnoicagaaGreatDoor
set_option maxRecDepth 100000
set_option maxHeartbeats 128000000
open Go.RowKit
structure SOk (al:List Bool) (l:List Nat):Prop where
 nd:l.Nodup
 al:∀u∈l,al.getD u false=true
theorem SOk.grow {al:List Bool} {l l':List Nat}(h:SOk al l)(g:Kz al l l'):SOk al l':=⟨g.nd h.nd,g.al h.al⟩
theorem SOk.lt {al:List Bool} {l:List Nat}(h:SOk al l):∀u∈l,u < al.length:=fun u hu=>Kt (h.al u hu)
theorem SOk.len {al:List Bool} {l:List Nat}(h:SOk al l):l.length<=al.length:=Pb al.length l h.nd h.lt
theorem Qf9 {l ls:List Nat} {j:Nat}(hj:j < ls.length):By l (ls.take (j+1))=Bp (By l (ls.take j)) ((ls.getD j 0:Nat):Int):=by
 unfold By;rw [List.take_add_one,Qv hj,List.foldl_append,Qk,Qv hj];rfl
def Zqz(w0:World)(lg:Int)(ks:List Kn)(cs:List Cm)(al:List Bool)(agents:Nat)(l:List Nat)(t:Nat)(e:Ending)(w':World):Prop :=
 (∃r,e=.returned r)/\∃v' l',Xa w0 w' v' l'/\Kz al l l'/\Sel lg ks cs al agents l' t
theorem Qbf(u:Int)(w:World):Calls Tryz.prog 146 (#[.int .i64 u]++ #[]) w fun e w'=>e=.returned (.bool true)/\Ext w w':=by
 show Calls Tryz.prog 146 #[.int .i64 u] w _;go_enter Tryz.func146,Tryz.ntmps146;go_wp2_with fail;go_ret;exact⟨rfl,Qz⟩
theorem Qbg(B u:Nat)(Ah:Option Addr)(ch:Nat)(hs:List Bool)(w:World)(hB:w.cell? ⟨B,2,none⟩=some (.slice Ah hs.length ch))(hb:Dh w Ah ch hs)(hu:u < hs.length):
 Calls Tryz.prog 145 (#[.int .i64 (u:Int)]++ #[.pointer (some ⟨B,0,none⟩)]) w fun e w'=>e=.returned (.bool (!hs.getD u false))/\Ext w w':=by
 show Calls Tryz.prog 145 #[.int .i64 (u:Int),.pointer (some ⟨B,0,none⟩)] w _;obtain⟨ah,rfl,_,hc⟩:=Vh hb hu;have h1:=hb.1;have h2:=hb.2.1;unfold maxLen at h2;have hui:(u:Int) < (hs.length:Int):=by omega
 obtain⟨x,hx⟩:∃x,x=hs.getD u false:=⟨_,rfl⟩;rw [<-hx]at hc⊢;clear hx;go_enter Tryz.func145,Tryz.ntmps145;go_wp2_with fail;go_ret;exact⟨rfl,Qz⟩
theorem Qn0(b:Nat)(lg:Int)(base:List (List Nd))(root:List Bool)(ks:List Kn)(cs:List Cm)(alive:List Bool)(agents t:Nat)(w0 w:World)(v:Value)(l:List Nat)
 (hE:Eng w0 b lg base root ks cs alive)(hlg:0<=lg/\lg<=6)(ht:t < alive.length)(hm:alive.length<=4096)(hks:∀k∈ks,k.place < 64/\alive.length<=k.holds.length)(hcs:∀c∈cs,c.place < 64/\c.x.length=alive.length/\c.y.length=alive.length/\0<=c.group/\c.group < 16)
 (hag:agents<=4)(hL:Qxn lg ks cs alive t)(hS:Xa w0 w v l)(hok:SOk alive l):
 Calls Tryz.prog 68 #[.pointer (some ⟨b,0,none⟩),.pointer (some ⟨w0.heap.size+1,0,none⟩),.int .u64 (t:Int),.int .i64 (agents:Int)] w (Zqz w0 lg ks cs alive agents l t):=by
 obtain⟨Ab,cb,Ar,cr,Ak,ck,Ac,cc,Aa,ca,d0,d1,d2,d3,d4,d5,hbl,_,_,hkn,hcm,_⟩:=hE.cells;have HE:=Qq hE;have HKS:=Qq hks;have HCS:=Qq hcs;have HK:=Qq hkn;have HC:=Qq hcm;have HLV:=Qq hL;have HS:=Qq hS;have HOK:=Qq hok;have hkc:=hkn.1;have hck:=hkn.2.1;have hcc:=hcm.1;have hccm:=hcm.2.1;unfold maxLen at hck hccm;have D0':=Qq d0;have D4:=Qq d4;have x3:=(hS.ext.cell (p:=⟨b,3,none⟩) hbl).trans d3;have xl:=Qy hbl hS.ext.size;have HBL:=Qq hbl;have hmf:∀(fn:Fn) (first cap:Array Value) (w:World),(Instr.makeFunc fn first cap).run Tryz.prog w=.ok (.func fn first cap) w:=fun _ _ _ _=>rfl
 clear hE hkn hcm hks hcs hL hS hok d0 d1 d2 d3 d4 d5 hbl;go_enter Tryz.func68,Tryz.ntmps68;go_wp2_with fail;clear x3 xl;go_loopw [20] (fun v wr=>∃k:Nat,v=.int .i64 (k:Int)/\k<=ks.length/\Hid (∃v' l',Xa w0 wr v' l'/\Kz alive l l'/\∀(j:Nat) (m:Kn),j < k->ks[j]?=some m->Tv lg ks l' t m)) (fun v _=>ks.length - (intOf v).toNat)
 case atStart=>exact⟨0,rfl,Nat.zero_le _,Qq ⟨v,l,HS.out,Kz.refl,fun j m hj=>absurd hj (by omega)⟩⟩
 case round =>
  obtain⟨k,rfl,hk,HREL⟩:=hrel;obtain⟨v1,l1,hs1,hg1,hj1⟩:=HREL.out;have HS1:=Qq hs1;have HG1:=Qq hg1;have HJ1:=Qq hj1;have HO1:=Qq (HOK.out.grow hg1);clear HREL hs1 hg1 hj1;by_cases hlt2:k < ks.length
  ·have hk1:(k:Int) < (ks.length:Int):=by omega
   obtain⟨n,hn⟩:∃n,ks[k]?=some n:=⟨_,Qv hlt2⟩;have hnm:=List.mem_of_getElem? hn;obtain⟨hpl,hhl⟩:=HKS.out n hnm;obtain⟨ad,rfl,hblk,hat⟩:=Wo HK.out hn;obtain⟨vh,c0,c1,c2,hbo⟩:=hat.ext HS1.out.ext (Qj hblk);obtain⟨Ah,ch,rfl,hbo⟩:=hbo;have HBO:=Qq hbo;have hblk2:(ad.add (k*3)).block < wr.heap.size:=by rw [Qp];exact Qy hblk HS1.out.ext.size
   have HN:=Qq hn;have HNX0:=Qq (HLV.out.know n hnm);have HSN:=Qq (show ∀l2,(∀u∈l1,u∈l2)->Tv lg ks l2 t n->∀(j:Nat) (m:Kn),j < k+1->ks[j]?=some m->Tv lg ks l2 t m from fun l2 hs hc j m hj hm=>by
    by_cases e:j < k
    ·exact(HJ1.out j m e hm).mono hs
    have:j=k:=by omega
    subst this;rw [HN.out]at hm;injection hm with hm;rw [<-hm];exact hc)
   clear hn hat hbo hnm;obtain⟨wq,hwq⟩:∃v,v=wr:=⟨_,rfl⟩;subst hwq;have hb1:=Sg t n.place (by omega);have HX0:=Qq (show Ext wq (wq.alloc (.cells #[.int .i64 n.agent,.int .i64 (n.place:Int),.slice Ah n.holds.length ch] 136))from Qz.alloc _);have HBXX:=Qq (Qvy (show(wq.alloc (.cells #[.int .i64 n.agent,.int .i64 (n.place:Int),.slice Ah n.holds.length ch] 136)).heap[wq.heap.size]?=some (.cells #[.int .i64 n.agent,.int .i64 (n.place:Int),.slice Ah n.holds.length ch] 136 (0,0))from heap_alloc_new _ _));have HS2:=Qq (HS1.out.next HX0.out);have HWT:=Qq (Qzg b lg base root ks cs alive n.agent t (fun u=> !n.holds.getD u false) 145 #[.pointer (some ⟨wq.heap.size,0,none⟩)] (fun _ _=>rfl) w0 _ v1 l1 (HE.out.ext HS2.out.ext) hlg (by omega) hm HKS.out HS2.out (Qx HO1.out.len hm) HO1.out.lt (fun W u hu hW=>Qbg wq.heap.size u Ah ch n.holds W ((hW.cell (p:=⟨wq.heap.size,2,none⟩) (by simp)).trans HBXX.out.2.2.1) ((HBO.out.ext (Qz.alloc _)).ext hW) (Qy hu hhl)))
   have HWM:=Qq (fun h=>Qnf (al:=alive) (l:=l1) (lg:=lg) (ks:=ks) (a:=n.agent) (t:=t) (wanted:=fun u=> !n.holds.getD u false) h);have HWG:=Qq (Qf6 (al:=alive) (l:=l1) (lg:=lg) (ks:=ks) (a:=n.agent) (t:=t) (wanted:=fun u=> !n.holds.getD u false));obtain⟨l2,hl2⟩:∃x,x=Ma lg ks alive n.agent t (fun u=> !n.holds.getD u false) l1:=⟨_,rfl⟩;rw [<-hl2]at HWT HWM HWG;clear hl2;cases htb:t.testBit n.place
   ·rw [htb]at hb1;simp only [Bool.not_false]at hb1;have HND:=Qq (show Tv lg ks l2 t n from fun hf=>by
     obtain⟨u,h1,h2,h3⟩:=HWM.out (HNX0.out hf);exact⟨u,h1,by simpa using h2,h3⟩)
    clear htb;go_wp2_with fail;refine HWT.out.mono ?_;rintro e w3 ⟨⟨r,rfl⟩,v2,hs2,_⟩;have HS3:=Qq hs2;clear hs2;go_wp2_with fail;go_roundw
    case rel=>exact⟨k+1,by go_num,by omega,Qq ⟨v2,l2,HS3.out,HG1.out.trans HWG.out,HSN.out l2 HWG.out.sub HND.out⟩⟩
    case measure=>simp [intOf];omega
   rw [htb]at hb1;simp only [Bool.not_true]at hb1;have HND:=Qq (show Tv lg ks l1 t n from fun hf=>by rw [htb]at hf;cases hf);clear htb;go_wp2_with fail;go_roundw
   case rel=>exact⟨k+1,by go_num,by omega,Qq ⟨v1,l1,HS2.out,HG1.out,HSN.out l1 (fun _ h=>h) HND.out⟩⟩
   case measure=>simp [intOf];omega
  obtain rfl:ks.length=k:=by omega
  have HALLK:=Qq (show ∀m∈ks,Tv lg ks l1 t m from fun m hm=>by
   obtain⟨j,hj,e⟩:=List.getElem_of_mem hm;exact HJ1.out j m hj (by rw [Qv hj,e]))
  have x4:=(HS1.out.ext.cell (p:=⟨b,4,none⟩) HBL.out).trans D4.out;have xl:=Qy HBL.out HS1.out.ext.size;clear HJ1;obtain⟨w1,hw1⟩:∃v,v=wr:=⟨_,rfl⟩;subst hw1;go_wp2_with fail;clear x4 xl;go_loopw [43] (fun v wr=>∃k:Nat,v=.int .i64 (k:Int)/\k<=cs.length/\Hid (∃v' l',Xa w0 wr v' l'/\Kz alive l1 l'/\∀(j:Nat) (m:Cm),j < k->cs[j]?=some m->Ty lg ks alive l' t m)) (fun v _=>cs.length - (intOf v).toNat)
  case atStart=>exact⟨0,rfl,Nat.zero_le _,Qq ⟨v1,l1,HS1.out,Kz.refl,fun j m hj=>absurd hj (by omega)⟩⟩
  case round =>
   clear HS1;obtain⟨k,rfl,hk,HREL⟩:=hrel;obtain⟨v2,l2,hs2,hg2,hj2⟩:=HREL.out;have HS2:=Qq hs2;have HG2:=Qq hg2;have HJ2:=Qq hj2;have HO2:=Qq (HO1.out.grow hg2);clear HREL hs2 hg2 hj2;by_cases hlt2:k < cs.length
   ·have hk1:(k:Int) < (cs.length:Int):=by omega
    obtain⟨n,hn⟩:∃n,cs[k]?=some n:=⟨_,Qv hlt2⟩;have hnm:=List.mem_of_getElem? hn;obtain⟨hpl,hxl,hyl,hg0,hg1⟩:=HCS.out n hnm;obtain⟨ad,rfl,hblk,hat⟩:=Qgz HC.out hn;obtain⟨vx,vy,c0,c1,c2,c3,c4,hbx,hby⟩:=hat.ext HS2.out.ext (Qj hblk);have HBX:=Qq hbx;have HBY:=Qq hby;obtain⟨Ax,cx,rfl,_⟩:=hbx;obtain⟨Ay,cy,rfl,_⟩:=hby;have hblk2:(ad.add (k*5)).block < wr.heap.size:=by rw [Qp];exact Qy hblk HS2.out.ext.size
    have HN:=Qq hn;have HPN:=Qq (HLV.out.com n hnm);have HSN:=Qq (show ∀l3,(∀u∈l2,u∈l3)->Ty lg ks alive l3 t n->∀(j:Nat) (m:Cm),j < k+1->cs[j]?=some m->Ty lg ks alive l3 t m from fun l3 hs hc j m hj hm=>by
     by_cases e:j < k
     ·exact(HJ2.out j m e hm).mono hs
     have:j=k:=by omega
     subst this;rw [HN.out]at hm;injection hm with hm;rw [<-hm];exact hc)
    clear hn hat hnm;obtain⟨wq,hwq⟩:∃v,v=wr:=⟨_,rfl⟩;subst hwq;have hn64:n.place < 64:=hpl;have hb1:=Sg t n.place (by omega);have HX0:=Qq (show Ext wq (wq.alloc (.cells #[.int .i64 (n.place:Int),.int .i64 n.group,.slice Ax n.x.length cx,.slice Ay n.y.length cy,.int .u64 (n.parts:Int)] 138))from Qz.alloc _);have HS3:=Qq (HS2.out.next HX0.out);have HPT:=Qq (Qfb b lg base root ks cs alive n t (.slice Ax n.x.length cx) (.slice Ay n.y.length cy) _ (HE.out.ext HS3.out.ext) hlg (by omega) hm HKS.out (HBX.out.ext (Qz.alloc _)) (HBY.out.ext (Qz.alloc _)) hxl hyl ⟨hg0,hg1⟩ (by omega));cases htb:t.testBit n.place
    ·rw [htb]at hb1;simp only [Bool.not_false]at hb1;have HYES:=Qq (Ml.1 (HPN.out htb));clear htb hxl hyl hg0 hg1;go_wp2_with fail;refine HPT.out.mono ?_;rintro e w3 hres;rcases hres with⟨rfl,hx3,hno⟩|⟨ad3,c3',ls,rfl,hx3,hrow,hne,hlk,hhd,hyes⟩
     ·exact absurd HYES.out hno
     have HX3:=Qq hx3;have HRW:=Qq hrow;have HLK:=Qq hlk;have HHD:=Qq hhd;have HS4:=Qq (HS3.out.next hx3);have HLA:=Qq (show ∀u∈ls,alive.getD u false=true from fun u hu=>by
      obtain⟨a,ha⟩:=Qky ls hlk u hu;exact Qwd ha)
     obtain⟨pg,cap2,hsl2,hgl2,hgb2,hs12,hs22,_⟩:=Uk hrow (j:=0) (by cases ls;exact absurd rfl hne;exact Nat.succ_pos _) rfl;injection hsl2 with hsl2a _ hsl2b;injection hsl2a with hsl2a;subst hsl2a hsl2b;unfold maxLen at hs22;have HPG:=Qq (show w0.heap.size+1 < pg/\v2.ownBlock≠some pg by
      have h1:=Qm HS2.out.box;have h2:(wq.alloc (.cells #[.int .i64 (n.place:Int),.int .i64 n.group,.slice Ax n.x.length cx,.slice Ay n.y.length cy,.int .u64 (n.parts:Int)] 138)).heap.size=wq.heap.size+1:=by simp
      rw [h2]at hgb2;refine⟨by omega,fun e=> ?_⟩;have:=(HS2.out.row.lt _ e).2
      omega)
     have HU0:=Qq (show ∃u,ls[0]?=some u by cases ls;exact absurd rfl hne;exact⟨_,rfl⟩);have HPL:=Qq hgl2;clear hrow hlk hhd hyes hx3 hne hgb2 hgl2;go_wp2_with fail;go_loopw [58] (fun v wr=>∃k:Nat,v=.int .i64 (k:Int)/\k<=ls.length/\Hid (∃v',Xa w0 wr v' (By l2 (ls.take k))/\Rp w0 w3 v2 wr v')) (fun v _=>ls.length - (intOf v).toNat)
     case atStart=>exact⟨0,rfl,Nat.zero_le _,Qq ⟨v2,HS4.out,Rp.of Qz⟩⟩
     case round =>
      clear HS4;obtain⟨j,rfl,hj,HREL⟩:=hrel;obtain⟨v4,hs4,hf4⟩:=HREL.out;have HS4:=Qq hs4;have HF4:=Qq hf4;have HG4:=Qq (Qq0 (al:=alive) (ls.take j) l2 (fun u hu=>HLA.out u (List.mem_of_mem_take hu)));have HO4:=Qq (HO2.out.grow HG4.out);clear HREL hs4 hf4;by_cases hjl:j < ls.length
      ·have hj1:(j:Int) < (ls.length:Int):=by omega
       have hrw:=Zi HRW.out (w':=wr) fun g hg=>by
        injection hg with hg;subst hg;exact HF4.out.blk pg HPL.out (show pg≠w0.heap.size by have:=HPG.out.1;omega) (show pg≠w0.heap.size+1 by have:=HPG.out.1;omega) HPG.out.2
       obtain⟨g2,cap3,hsl3,hgl3,_,_,_,a0⟩:=Uk hrw hjl rfl;injection hsl3 with hsl3a _ hsl3b;injection hsl3a with hsl3a;injection hsl3a with hsl3a;subst hsl3a hsl3b;have hum:ls.getD j 0∈ls:=by rw [Qk,Qv hjl];exact List.getElem_mem _
       have hul:=Kt (HLA.out _ hum);have HTK:=Qq (show By l2 (ls.take (j+1))=Bp (By l2 (ls.take j)) ((ls.getD j 0:Nat):Int)from Qf9 hjl);clear hum hrw;obtain⟨u,hu⟩:∃u,u=ls.getD j 0:=⟨_,rfl⟩;rw [<-hu]at a0 hul HTK;have hu4:(u:Int)<=4096:=by omega
       have hl4:(By l2 (ls.take j)).length<=4096:=Qx HO4.out.len hm;obtain⟨l4,hl4'⟩:∃x,x=By l2 (ls.take j):=⟨_,rfl⟩;rw [<-hl4']at HS4 HTK hl4;clear hl4' hu HG4 HO4;go_wp2_with fail;refine(Qvz w0 _ v4 l4 (u:Int) HS4.out hu4 hl4).mono ?_;rintro e w5 ⟨⟨r,rfl⟩,v5,hs5,hx5⟩;have HS5:=Qq hs5;have HF5:=Qq (HF4.out.trans hx5);clear hs5 hx5;go_wp2_with fail;go_roundw
       case rel=>exact⟨j+1,by go_num,by omega,Qq ⟨v5,by rw [HTK.out];exact HS5.out,HF5.out⟩⟩
       case measure=>simp [intOf];omega
      obtain rfl:ls.length=j:=by omega
      have HND:=Qq (show Ty lg ks alive (By l2 ls) t n from fun _=>by
       obtain⟨u,hu⟩:=HU0.out;exact⟨u,(Qkv ls u hu HLK.out).mono (fun a b h=>⟨h.1,Qji ls l2 b (Or.inl h.2)⟩),HHD.out u hu⟩)
      rw [List.take_length]at HS4 HG4;clear HO4;go_wp2_with fail;go_roundw
      case rel=>exact⟨k+1,by go_num,by omega,Qq ⟨v4,By l2 ls,HS4.out,HG2.out.trans HG4.out,HSN.out _ HG4.out.sub HND.out⟩⟩
      case measure=>simp [intOf];omega
    rw [htb]at hb1;simp only [Bool.not_true]at hb1;have HND:=Qq (show Ty lg ks alive l2 t n from fun hf=>by rw [htb]at hf;cases hf);clear htb hxl hyl hg0 hg1;go_wp2_with fail;go_roundw
    case rel=>exact⟨k+1,by go_num,by omega,Qq ⟨v2,l2,HS3.out,HG2.out,HSN.out l2 (fun _ h=>h) HND.out⟩⟩
    case measure=>simp [intOf];omega
   obtain rfl:cs.length=k:=by omega
   have HALLC:=Qq (show ∀m∈cs,Ty lg ks alive l2 t m from fun m hm=>by
    obtain⟨j,hj,e⟩:=List.getElem_of_mem hm;exact HJ2.out j m hj (by rw [Qv hj,e]))
   clear HJ2;obtain⟨w2,hw2⟩:∃v,v=wr:=⟨_,rfl⟩;subst hw2;go_wp2_with fail;go_loopw [68] (fun v wr=>∃k:Nat,v=.int .i64 (k:Int)/\k<=agents/\Hid (∃v' l',Xa w0 wr v' l'/\Kz alive l2 l'/\∀j,j < k->Ly lg ks l' t j)) (fun v _=>agents - (intOf v).toNat)
   case atStart=>exact⟨0,rfl,Nat.zero_le _,Qq ⟨v2,l2,HS2.out,Kz.refl,fun j hj=>absurd hj (by omega)⟩⟩
   case round =>
    clear HS2;obtain⟨k,rfl,hk,HREL⟩:=hrel;obtain⟨v3,l3,hs3,hg3,hj3⟩:=HREL.out;have HS3:=Qq hs3;have HG3:=Qq hg3;have HJ3:=Qq hj3;have HO3:=Qq (HO2.out.grow hg3);clear HREL hs3 hg3 hj3;by_cases hlt2:k < agents
    ·have hk1:(k:Int) < (agents:Int):=by omega
     have x0:=(HS3.out.ext.cell (p:=⟨b,0,none⟩) HBL.out).trans D0'.out;have xl:=Qy HBL.out HS3.out.ext.size;have HSN:=Qq (show ∀l4,(∀u∈l3,u∈l4)->Ly lg ks l4 t k->∀j,j < k+1->Ly lg ks l4 t j from fun l4 hs hc j hj=>by
      by_cases e:j < k
      ·exact(HJ3.out j e).mono hs
      have:j=k:=by omega
      subst this;exact hc)
     have HWT:=Qq (fun W (hW:Ext wr W)=>Qzg b lg base root ks cs alive (k:Int) t (fun _=>true) 146 #[] (fun _ _=>rfl) w0 W v3 l3 (HE.out.ext (HS3.out.next hW).ext) hlg (by omega) hm HKS.out (HS3.out.next hW) (Qx HO3.out.len hm) HO3.out.lt (fun W u _ _=>Qbf (u:Int) W));have HWM:=Qq (fun h=>Qnf (al:=alive) (l:=l3) (lg:=lg) (ks:=ks) (a:=(k:Int)) (t:=t) (wanted:=fun _=>true) h);have HWG:=Qq (Qf6 (al:=alive) (l:=l3) (lg:=lg) (ks:=ks) (a:=(k:Int)) (t:=t) (wanted:=fun _=>true));have HSR:=Qq (fun h=>HLV.out.ser h k (by omega));obtain⟨l4,hl4⟩:∃x,x=Ma lg ks alive (k:Int) t (fun _=>true) l3:=⟨_,rfl⟩
     rw [<-hl4]at HWT HWM HWG;clear hl4;have HND:=Qq (show Ly lg ks l4 t k from fun hf=>by
      obtain⟨u,h1,_,h3⟩:=HWM.out (HSR.out hf);exact⟨u,h1,h3⟩)
     cases h1:lg==1
     ·cases h5:lg==5
      ·have HNO:=Qq (show Ly lg ks l3 t k from fun hf=>by
        rcases hf with e|e
        ·rw [e]at h1;cases h1
        rw [e]at h5;cases h5)
       go_wp2_with fail;go_roundw
       case rel=>exact⟨k+1,by go_num,by omega,Qq ⟨v3,l3,HS3.out,HG3.out,HSN.out l3 (fun _ h=>h) HNO.out⟩⟩
       case measure=>simp [intOf];omega
      go_wp2_with fail;refine(HWT.out _ Qz).mono ?_;rintro e w5 ⟨⟨r,rfl⟩,v4,hs4,_⟩;have HS4:=Qq hs4;clear hs4;go_wp2_with fail;go_roundw
      case rel=>exact⟨k+1,by go_num,by omega,Qq ⟨v4,l4,HS4.out,HG3.out.trans HWG.out,HSN.out l4 HWG.out.sub HND.out⟩⟩
      case measure=>simp [intOf];omega
     go_wp2_with fail;refine(HWT.out _ Qz).mono ?_;rintro e w5 ⟨⟨r,rfl⟩,v4,hs4,_⟩;have HS4:=Qq hs4;clear hs4;go_wp2_with fail;go_roundw
     case rel=>exact⟨k+1,by go_num,by omega,Qq ⟨v4,l4,HS4.out,HG3.out.trans HWG.out,HSN.out l4 HWG.out.sub HND.out⟩⟩
     case measure=>simp [intOf];omega
    obtain rfl:agents=k:=by omega
    go_wp2_with fail;exact bodyPost_end (v:=.tuple #[]) (results_none rfl _ _ _) rfl ⟨⟨_,rfl⟩,v3,l3,HS3.out,HG1.out.trans (HG2.out.trans HG3.out),fun m hm=>(HALLK.out m hm).mono (HG2.out.trans HG3.out).sub,fun m hm=>(HALLC.out m hm).mono HG3.out.sub,HJ3.out⟩
theorem Qt9 {l:List (List Nd)} {k:Nat} {s:List Nd}(h:l[k]?=some s)(a:List Nd):(l.take (k+1)).foldl Xi a=Xi ((l.take k).foldl Xi a) s:=by
 rw [Yh h,List.foldl_append];rfl
theorem Qs3(ad:Addr)(k:Nat):ad.add (k+1)=⟨ad.block,ad.off+1+k,none⟩:=by
 unfold Addr.add;simp;omega
theorem Qpa {α:Type} {x:α} {r:List α} {k:Nat} {s:α}(h:r[k]?=some s):(x :: r)[k+1]?=some s:=by simpa using h
theorem Qlr(v1 v2:Value)(l:List (List Nd))(e0:List Nd)(wb w:World)(h1:Fl w v1 l)(hm2:Jl wb w v2 e0):
 Calls Tryz.prog 177 #[v1,v2,.func (Fn.func 71) #[] #[]] w fun e w'=>∃u,e=.returned u/\Jl wb w' u (Qxr e0 l):=by
 have H1:=Qq h1;have H2:=Qq hm2;have h2:=hm2.fml;obtain⟨A,c,rfl,hcap,hmax,hr⟩:=h1;obtain⟨A2,c2,rfl,_⟩:=Qa h2;unfold maxLen at hmax;have HR:=Qq hr;clear hr h2 hm2;cases l with
 |nil =>
  go_enter Tryz.func177,Tryz.ntmps177;go_wp2_with fail;go_ret;exact⟨_,rfl,H2.out⟩
 |cons f r =>
  obtain⟨ad,rfl,hb1,hc1⟩:=HR.out (by simp);obtain⟨u0,hu0,hf0⟩:=hc1 0 f rfl;have HC:=Qq hc1;have HF0:=Qq hf0;have hu0':w.cell? ad=some u0:=by rw [<-hu0];congr 1
  clear hc1 hf0 HR H1 hu0;obtain⟨m,hm⟩:∃m,m=r.length:=⟨_,rfl⟩;rw [show(f :: r).length=m+1 by simp [hm]]at hcap⊢;have HM:=Qq hm;have hl1:(((m+1:Nat):Int)==0)=false:=by rw [beq_eq_false_iff_ne];omega
  have hl4:(((m:Nat):Int)+1==0)=false:=by rw [beq_eq_false_iff_ne];omega
  have hl2:(0:Int) < ((m+1:Nat):Int):=by omega
  clear hm;by_cases hcc:c=1
  ·subst hcc;obtain rfl:0=m:=by omega
   go_enter Tryz.func177,Tryz.ntmps177;go_wp2_with fail;refine(Uv _ f _ HF0.out).mono ?_;rintro e w1 ⟨u,rfl,hm⟩;have HM1:=Qq hm;clear hm;go_wp2_with fail;have HR0:=Qq (List.length_eq_zero_iff.1 HM.out.symm);go_loopw [7,21] (fun vf vi wr=>vi=.int .i64 0/\vf=u/\Hid (Ext w1 wr)) (fun _ i _=>0)
   case atStart=>exact⟨rfl,rfl,Qq Qz⟩
   case round =>
    obtain⟨rfl,rfl,HX⟩:=hrel;go_wp2_with fail;go_ret;exact⟨_,rfl,by rw [HR0.out];exact(HM1.out.before H2.out.ext).after HX.out⟩
  have hcc2:1 < c:=by omega
  go_enter Tryz.func177,Tryz.ntmps177;go_wp2_with fail;refine(Uv _ f _ HF0.out).mono ?_;rintro e w1 ⟨u,rfl,hm⟩;have HM1:=Qq hm;clear hm;go_wp2_with fail;go_loopw [7,21] (fun vf vi wr=>∃k:Nat,k<=m/\vi=.int .i64 (k:Int)/\Hid (Jl w wr vf ((r.take k).foldl Xi (Qg f)))) (fun _ i _=>m - (intOf i).toNat)
  case atStart=>exact⟨0,Nat.zero_le _,rfl,HM1⟩
  case round =>
   obtain⟨k,hk,rfl,HREL⟩:=hrel;have HX:=Qq HREL.out.ext;have HF:=Qq HREL.out.fml;obtain⟨Af,cf,rfl,_⟩:=Qa HREL.out.fml;by_cases hlt2:k < m
   ·obtain⟨s,hs⟩:∃s,r[k]?=some s:=⟨_,List.getElem?_eq_getElem (by rw [<-HM.out];exact hlt2)⟩;obtain⟨us,hus,hfs⟩:=HC.out (k+1) s (Qpa hs);rw [Qs3]at hus;have a0:=(HX.out.cell (p:=⟨ad.block,ad.off+1+k,none⟩) hb1).trans hus;have HFS:=Qq (hfs.ext HX.out);have HS:=Qq hs;obtain⟨As,cs,rfl,_⟩:=Qa hfs;clear hs hfs hus;go_wp2_with fail;refine(Qvj _ _ _ _ _ HF.out HFS.out).mono ?_;rintro e w2 ⟨u2,rfl,hm2⟩;have HM2:=Qq hm2;clear hm2;go_wp2_with fail;go_roundw
    case rel=>exact⟨k+1,by omega,by go_num,Qq (by rw [Qt9 HS.out];exact HM2.out.before HX.out)⟩
    case measure=>simp [intOf];omega
   obtain rfl:m=k:=by omega
   have HE:=Qq (show r.take m=r by rw [HM.out];exact List.take_of_length_le (Nat.le_refl _));go_wp2_with fail;go_ret;refine⟨.slice Af ((r.take m).foldl Xi (Qg f)).length cf,rfl,?_⟩;have:=HREL.out;rw [HE.out]at this⊢;exact this.before H2.out.ext
theorem Qab(v:Value)(l:List (List Nd))(w:World)(h:Fl w v l):
 Calls Tryz.prog 122 #[v] w fun e w'=>∃u,e=.returned u/\Jl w w' u (Qzn l):=by
 have H:=Qq h;obtain⟨A,c,rfl,hcap,hmax,hr⟩:=h;clear hcap hmax hr;go_enter Tryz.func122,Tryz.ntmps122;go_wp2_with fail;refine(Qf3 _).mono ?_;rintro e w1 ⟨u,rfl,hm⟩;have HM:=Qq hm;clear hm;go_wp2_with fail;refine(Qlr _ _ l _ _ _ (H.out.ext HM.out.ext) HM.out).mono ?_;rintro e w2 ⟨u2,rfl,hm2⟩;have HM2:=Qq hm2;clear hm2;go_wp2_with fail;go_ret;exact⟨_,rfl,HM2.out⟩
theorem Xj {w:World} {b j:Nat} {cs:Array Value} {t:TypeId} {fr:Nat×Nat} {v:Value}(h:w.heap[b]?=some (.cells cs t fr))(hv:cs[j]?=some v):w.setCell ⟨b,j,none⟩ v=w:=by
 have e:(w.setCell ⟨b,j,none⟩ v).heap=w.heap:=by
  refine Array.ext_getElem? fun i=> ?_
  simp only [World.setCell,Array.getElem?_modify];by_cases hb:b=i
  ·subst hb;rw [h];simp only [if_true,Option.map_some,Option.some.injEq,Obj.cells.injEq,and_true,Option.isSome_none];show cs.setIfInBounds j v=cs;refine Array.ext_getElem? fun k=> ?_
   rw [Array.getElem?_setIfInBounds];by_cases hk:j=k
   ·subst hk;rw [if_pos rfl]
    split
    ·exact hv.symm
    rename_i hn;rw [Array.getElem?_eq_none (by omega)]
   rw [if_neg hk]
  rw [if_neg hb]
 unfold World.setCell at e⊢;simp only at e⊢;rw [e]
theorem Ue {P:Program} {fn:Func} {t u v:Tmp} {ty:TypeId}(h:fn.results=#[.cell t ty,.tmp u,.tmp v])(tmps:Array Value)(w:World) {b o:Nat}(ht:tmps.getD t undef=.pointer (some ⟨b,o,none⟩)) {cs:List Value} {d:TypeDesc}(hc:w.rangeAt b o cs)
 (hu:P.underlying ty=some d)(hd:d.isRow=true)(hi:(P.info? ty).map (·.size)=some cs.length):(results fn tmps).run P w=.ok (.tuple #[.agg cs.toArray,tmps.getD u undef,tmps.getD v undef]) w:=by
 have ht':tmps[t]?.getD undef=.pointer (some ⟨b,o,none⟩):=by rw [<-Array.getD_eq_getD_getElem?];exact ht
 simp [results,h,ht',asAddr,run_loadVar_mid w b o ty cs d hc hu hd hi]
theorem Gs {w:World} {b:Nat} {cs:Array Value} {t:TypeId}(h:w.heap[b]?=some (.cells cs t (0,0))):w.rangeAt b 0 cs.toList:=fun j v hj=>by
 have:cs[j]?=some v:=by simpa using hj
 simp [World.cell?,h,this]
def Gx(f:List Nd):List Nd:=bif decide (4<=(Qi f).op)then Jb f (Qi f).x else []
def Fi(f:List Nd):List Nd:=bif (Qi f).op==13 then Jb f (Qi f).y else []
theorem St(w:World):Fml w (.slice none 0 0) []:=⟨⟨none,0,rfl,Nat.le_refl _,by unfold maxLen;omega,fun h=>absurd rfl h⟩,by simp⟩
theorem Ca(v:Value)(f:List Nd)(w:World)(h:Fml w v f)(h0:0 < f.length):
 Calls Tryz.prog 69 #[v] w fun e w'=>∃u1 u2,e=.returned (.tuple #[(Qi f).val,u1,u2])/\Ext w w'/\Fml w' u1 (Gx f)/\Fml w' u2 (Fi f):=by
 have H:=Qq h;obtain⟨⟨A,c,rfl,hcap,hmax,hread⟩,hok⟩:=h;unfold maxLen at hmax;obtain⟨ad,rfl,hlt,hcells⟩:=hread (by intro e;rw [e]at h0;simp at h0);have hlast:=Rb h0;obtain⟨c0,c1,c2,c3,c4,c5⟩:=hcells _ _ hlast;have hi1:((f.length:Int) - 1) < (f.length:Int):=by omega
 have hi0:(0:Int)<=(f.length:Int) - 1:=by omega
 have e1:((f.length:Int) - 1).toNat=f.length - 1:=by omega
 have hblk:(ad.add ((f.length - 1)*6)).block < w.heap.size:=by rw [Qp];exact hlt
 clear hread hok hcells hlast;obtain⟨nn,hnn⟩:∃nn,nn=Qi f:=⟨_,rfl⟩;rw [<-hnn]at c0 c1 c2 c3 c4 c5;have HA:=Qq (show Gx f=bif decide (4<=nn.op)then Jb f nn.x else [] by rw [hnn];rfl);have HB:=Qq (show Fi f=bif nn.op==13 then Jb f nn.y else [] by rw [hnn];rfl);have HN:=Qq hnn;clear hnn;have HX0:=Qq (show Ext w (w.alloc (.cells #[.int .i64 nn.op,.int .i64 nn.i,.int .i64 nn.e,.int .i64 nn.g,.int .i64 nn.x,.int .i64 nn.y] 71))from Qz.alloc _);have HW0:=Qq (show(w.alloc (.cells #[.int .i64 nn.op,.int .i64 nn.i,.int .i64 nn.e,.int .i64 nn.g,.int .i64 nn.x,.int .i64 nn.y] 71)).heap[w.heap.size]?=some (.cells #[.int .i64 nn.op,.int .i64 nn.i,.int .i64 nn.e,.int .i64 nn.g,.int .i64 nn.x,.int .i64 nn.y] 71 (0,0))from heap_alloc_new _ _)
 have hval:nn.val=.agg [.int .i64 nn.op,.int .i64 nn.i,.int .i64 nn.e,.int .i64 nn.g,.int .i64 nn.x,.int .i64 nn.y].toArray:=rfl;have HV:=Qq hval;clear hval;by_cases h4:4<=nn.op
 ·by_cases h13:nn.op=13
  ·have HR1:=Qq (show Gx f=Jb f nn.x by rw [HA.out,decide_eq_true h4];rfl);have HR2:=Qq (show Fi f=Jb f nn.y by rw [HB.out,show(nn.op==13)=true by rw [h13];rfl];rfl);have hd:(nn.op==13)=true:=by rw [h13];rfl
   clear h13;go_enter Tryz.func69,Tryz.ntmps69;go_wp2_with fail;refine(Ch _ f nn.x _ (H.out.ext HX0.out)).mono ?_;rintro e w1 ⟨u1,rfl,hm1⟩;have HM1:=Qq hm1;obtain⟨⟨k0,k1,k2,k3,k4,k5⟩,_,kb⟩:=Yx ((hm1.ext.block (by simp)).trans HW0.out);clear hm1;go_wp2_with fail;refine(Ch _ f nn.y _ (H.out.ext (HX0.out.trans HM1.out.ext))).mono ?_;rintro e w2 ⟨u2,rfl,hm2⟩;have HM2:=Qq hm2;have HZ:=Qq (show w2.heap[w.heap.size]?=some (.cells #[.int .i64 nn.op,.int .i64 nn.i,.int .i64 nn.e,.int .i64 nn.g,.int .i64 nn.x,.int .i64 nn.y] 71 (0,0))from(hm2.ext.block (by omega)).trans ((HM1.out.ext.block (by simp)).trans HW0.out))
   obtain⟨⟨q0,q1,q2,q3,q4,q5⟩,qf,qb⟩:=Yx HZ.out;clear hm2;go_wp2_with fail
   (try simp only [Exit.inBlock,Exit.then])
   rw [show(w2).setCell ⟨w.heap.size,0,none⟩ (.int .i64 nn.op)=w2 from Xj HZ.out rfl,show(w2).setCell ⟨w.heap.size,1,none⟩ (.int .i64 nn.i)=w2 from Xj HZ.out rfl,show(w2).setCell ⟨w.heap.size,2,none⟩ (.int .i64 nn.e)=w2 from Xj HZ.out rfl,show(w2).setCell ⟨w.heap.size,3,none⟩ (.int .i64 nn.g)=w2 from Xj HZ.out rfl,show(w2).setCell ⟨w.heap.size,4,none⟩ (.int .i64 nn.x)=w2 from Xj HZ.out rfl,show(w2).setCell ⟨w.heap.size,5,none⟩ (.int .i64 nn.y)=w2 from Xj HZ.out rfl];refine bodyPost_ret (Ue Tryz.results69 _ _ rfl (Gs HZ.out) Tryz.underlying71 rfl (by kernel_rfl)) rfl ?_
   exact⟨u1,u2,by rw [<-HN.out,HV.out] <;> rfl,HX0.out.trans (HM1.out.ext.trans HM2.out.ext),by rw [HR1.out];exact HM1.out.fml.ext HM2.out.ext,by rw [HR2.out];exact HM2.out.fml⟩
  have hd:(nn.op==13)=false:=by simpa using h13
  have HR1:=Qq (show Gx f=Jb f nn.x by rw [HA.out,decide_eq_true h4];rfl);have HR2:=Qq (show Fi f= [] by rw [HB.out,hd];rfl);clear h13;go_enter Tryz.func69,Tryz.ntmps69;go_wp2_with fail;refine(Ch _ f nn.x _ (H.out.ext HX0.out)).mono ?_;rintro e w2 ⟨u1,rfl,hm1⟩;have HM1:=Qq hm1;have HZ:=Qq (show w2.heap[w.heap.size]?=some (.cells #[.int .i64 nn.op,.int .i64 nn.i,.int .i64 nn.e,.int .i64 nn.g,.int .i64 nn.x,.int .i64 nn.y] 71 (0,0))from(hm1.ext.block (by simp)).trans HW0.out);obtain⟨⟨q0,q1,q2,q3,q4,q5⟩,qf,kb⟩:=Yx HZ.out;clear hm1;go_wp2_with fail
  (try simp only [Exit.inBlock,Exit.then])
  rw [show(w2).setCell ⟨w.heap.size,0,none⟩ (.int .i64 nn.op)=w2 from Xj HZ.out rfl,show(w2).setCell ⟨w.heap.size,1,none⟩ (.int .i64 nn.i)=w2 from Xj HZ.out rfl,show(w2).setCell ⟨w.heap.size,2,none⟩ (.int .i64 nn.e)=w2 from Xj HZ.out rfl,show(w2).setCell ⟨w.heap.size,3,none⟩ (.int .i64 nn.g)=w2 from Xj HZ.out rfl,show(w2).setCell ⟨w.heap.size,4,none⟩ (.int .i64 nn.x)=w2 from Xj HZ.out rfl,show(w2).setCell ⟨w.heap.size,5,none⟩ (.int .i64 nn.y)=w2 from Xj HZ.out rfl];refine bodyPost_ret (Ue Tryz.results69 _ _ rfl (Gs HZ.out) Tryz.underlying71 rfl (by kernel_rfl)) rfl ?_
  exact⟨u1,_,by rw [<-HN.out,HV.out] <;> rfl,HX0.out.trans HM1.out.ext,by rw [HR1.out];exact HM1.out.fml,by rw [HR2.out];exact St _⟩
 have hd:(nn.op==13)=false:=by rw [beq_eq_false_iff_ne];omega
 have HR1:=Qq (show Gx f= [] by rw [HA.out,decide_eq_false h4];rfl);have HR2:=Qq (show Fi f= [] by rw [HB.out,hd];rfl);go_enter Tryz.func69,Tryz.ntmps69;go_wp2_with fail
 (try simp only [Exit.inBlock,Exit.then])
 refine bodyPost_ret (Ue Tryz.results69 _ _ rfl (Gs HW0.out) Tryz.underlying71 rfl (by kernel_rfl)) rfl ?_;exact⟨_,_,by rw [<-HN.out,HV.out] <;> rfl,HX0.out,by rw [HR1.out];exact St _,by rw [HR2.out];exact St _⟩
def Qsi(a:Int)(f:List Nd):List Nd:=Ki a (Cj (Gx f) (Xi (Fi f) f))
theorem Ik(a:Int)(ha:Yj a)(v:Value)(f:List Nd)(w:World)(h:Fml w v f)(h0:0 < f.length):
 Calls Tryz.prog 127 #[.int .i64 a,v] w fun e w'=>∃u,e=.returned u/\Jl w w' u (Qsi a f):=by
 have H:=Qq h;obtain⟨A,c,rfl,_⟩:=Qa h;obtain⟨nn,hnn⟩:∃nn,nn=Qi f:=⟨_,rfl⟩;have HN:=Qq hnn;clear h hnn;go_enter Tryz.func127,Tryz.ntmps127;go_wp2_with fail;refine(Ca _ f _ H.out h0).mono ?_;rintro e w1 ⟨u1,u2,rfl,hx1,hf1,hf2⟩;have HX1:=Qq hx1;have HF1:=Qq hf1;have HF2:=Qq hf2;rw [<-HN.out];unfold Nd.val;obtain⟨A1,c1,rfl,_⟩:=Qa hf1;obtain⟨A2,c2,rfl,_⟩:=Qa hf2;clear hx1 hf1 hf2;go_wp2_with fail;refine(Qvj _ _ _ _ _ (HF2.out.ext (Qz.alloc _)) (H.out.ext (HX1.out.alloc _))).mono ?_;rintro e w2 ⟨u3,rfl,hm3⟩;have HM3:=Qq hm3;clear hm3;go_wp2_with fail;refine(Qdt _ _ _ _ _ (HF1.out.ext ((Qz.alloc _).trans HM3.out.ext)) HM3.out.fml).mono ?_
 rintro e w3 ⟨u4,rfl,hm4⟩;have HM4:=Qq hm4;clear hm4;go_wp2_with fail;refine(Ag a ha _ _ _ HM4.out.fml).mono ?_;rintro e w4 ⟨u5,rfl,hm5⟩;have HM5:=Qq hm5;clear hm5;go_wp2_with fail;go_ret;exact⟨_,rfl,HM5.out.before ((HX1.out.alloc _).trans (HM3.out.ext.trans HM4.out.ext))⟩
theorem Qrp(B:Nat)(u gv:Value)(s g:List Nd)(w:World)(hs:Nds w u s)(hB:w.cell? ⟨B,0,none⟩=some gv)(hg:Nds w gv g):
 Calls Tryz.prog 179 (#[u]++ #[.pointer (some ⟨B,0,none⟩)]) w fun e w'=>e=.returned (.bool (decide (s=g)))/\Ext w w':=by
 have HS:=Qq hs;have HG:=Qq hg;obtain⟨A,c,rfl,_⟩:=hs;obtain⟨A2,c2,rfl,_⟩:=hg;have HE:=Qq (show decide (s=g)=decide (g=s) by rw [decide_eq_decide];exact eq_comm);show Calls Tryz.prog 179 #[.slice A s.length c,.pointer (some ⟨B,0,none⟩)] w _;go_enter Tryz.func179,Tryz.ntmps179;go_wp2_with(go_at_call 180;refine(Qrz _ _ g s _ (by exact HG.out.ext (by repeat(first|exact Qz|assumption|apply Ext.alloc|apply Ext.drew))) (by exact HS.out.ext (by repeat(first|exact Qz|assumption|apply Ext.alloc|apply Ext.drew)))).mono ?_;rintro e w1 ⟨rfl,hx⟩);go_ret;exact⟨by rw [HE.out] <;> rfl,by first|exact hx|exact Ext.trans (by repeat(first|exact Qz|assumption|apply Ext.alloc|apply Ext.drew)) hx⟩
theorem We(v gv:Value)(l:List (List Nd))(g:List Nd)(w:World)(hl:Fl w v l)(hg:Fml w gv g):
 Calls Tryz.prog 128 #[v,gv] w fun e w'=>e=.returned (.int .i64 (Yq l g))/\Ext w w':=by
 have HL:=Qq hl;have HG:=Qq hg;obtain⟨A,c,rfl,_⟩:=hl;obtain⟨A2,c2,rfl,_⟩:=Qa hg;clear hg;go_enter Tryz.func128,Tryz.ntmps128;go_wp2_with fail;refine(Qrc 179 _ (fun _ _=>rfl) (fun s=>decide (s=g)) _ l _ (HL.out.ext (by repeat(first|exact Qz|assumption|apply Ext.alloc|apply Ext.drew))) (fun W u s hx hs=>Qrp w.heap.size u _ s g W hs.1 ((hx.cell (p:=⟨w.heap.size,0,none⟩) (by simp)).trans (by simp)) (HG.out.1.ext ((Qz.alloc _).trans hx)))).mono ?_;rintro e w1 ⟨rfl,hx⟩;have HX:=Qq hx;clear hx;go_wp2_with fail;go_ret;exact⟨rfl,(Qz.alloc _).trans HX.out⟩
theorem Vy.before {w0 w w':World} {vo:Value} {out:List (List Nd)}(h:Vy w w' vo out)(he:Ext w0 w):Vy w0 w' vo out:=by
 obtain⟨us,hr,hu⟩:=h.row;refine⟨he.trans h.ext,us,Xk hr he.size,fun k s hk=> ?_⟩;obtain⟨u,a,b,c⟩:=hu k s hk;exact⟨u,a,b,fun g hg=>⟨(c g hg).1,(c g hg).2.1,Qx he.size (c g hg).2.2⟩⟩
theorem Vy.get {w0 w:World} {g cap:Nat} {out:List (List Nd)}(h:Vy w0 w (.slice (some ⟨g,0,none⟩) out.length cap) out) {k:Nat} {s:List Nd}(hk:out[k]?=some s):∃u,w.cell? ⟨g,k,none⟩=some u/\Fml w u s/\g < w.heap.size:=by
 obtain⟨us,hr,hu⟩:=h.row;have h0:0 < out.length:=Nat.lt_of_le_of_lt (Nat.zero_le k) (List.getElem?_eq_some_iff.1 hk).1;obtain⟨g',cap',e,hg,_,_,hc⟩:=Tf hr h0;injection e with e1 _ _;injection e1 with e1;injection e1 with e1;subst e1;obtain⟨u,a,b,_⟩:=hu k s hk;exact⟨u,hc k u a,b,hg⟩
theorem Vy.slice {w0 w:World} {v:Value} {out:List (List Nd)}(h:Vy w0 w v out)(h0:0 < out.length):∃g cap,v=.slice (some ⟨g,0,none⟩) out.length cap/\out.length<=cap/\cap<=maxLen:=by
 obtain⟨us,hr,hu⟩:=h.row;obtain⟨g',cap',e,hg,h1,h2,hc⟩:=Tf hr h0;exact⟨g',cap',e,h1,h2⟩
theorem Qz3 {n:Nd}(h:Zn n)(hk:n.op=11\/n.op=13):0<=n.g/\n.g < 16:=by
 obtain⟨_,_,h3,_,_⟩:=h;unfold Jg at h3;rcases hk with ho|ho <;>(rw [ho]at h3;simp [Qr,Zk,Qe,Qw,Zz]at h3;omega)
theorem Qb0(base:List Nd)(k:Nat):(List.range (k+1)).map (fun(i:Nat)=>Jb base i)=(List.range k).map (fun(i:Nat)=>Jb base i)++ [Jb base k]:=by
 rw [List.range_succ,List.map_append];rfl
theorem Qhn(v:Value)(f:List Nd)(w:World)(h:Fml w v f)(hc:check f=0):
 Calls Tryz.prog 126 #[v] w fun e w'=>∃u,e=.returned u/\Vy w w' u (Qqb f):=by
 have H:=Qq h;obtain⟨iI,hiI,hzI0,hzI1,hzI2⟩:=info_parts Qvp;obtain⟨A,c,rfl,_⟩:=Qa h;have hp:=Jf hc;obtain⟨base,hbase⟩:∃b,b=Qg f:=⟨_,rfl⟩;have hcb:check base=0:=hbase▸Ky hc;have hlen:base.length<=200:=hbase▸Qx hp.2.1 (Zm hc).2.1;have HB:=Qq (show Qqb f=Dv base by rw [hbase];rfl);have HBB:=Qq hbase;have HCB:=Qq hcb;clear h hp hbase hcb hc;go_enter Tryz.func126,Tryz.ntmps126;go_wp2_with fail;refine(Uv _ f _ H.out).mono ?_;rintro e w0 ⟨uc,rfl,hm0⟩;rw [<-HBB.out]at hm0;have HM0:=Qq hm0;obtain⟨Ac,cc,rfl,hat⟩:=Qa hm0.fml;have HAT:=Qq hat
 clear hm0 hat;go_wp2_with fail;go_loopw [3,10] (fun vo vi wr=>∃k:Nat,vi=.int .i64 (k:Int)/\k<=base.length/\Hid (∃out,out=(List.range k).map (fun(i:Nat)=>Jb base i)/\Vy w0 wr vo out)) (fun _ v _=>base.length - (intOf v).toNat)
 case atStart=>exact⟨0,rfl,Nat.zero_le _,Qq ⟨[],rfl,Vy.nil _⟩⟩
 case round =>
  obtain⟨k,rfl,hk,HREL⟩:=hrel;obtain⟨out,ho,hfr⟩:=HREL.out;obtain⟨us,hrow,hus⟩:=hfr.row;obtain⟨Ao,co,rfl⟩:=Qt hrow;have HO:=Qq ho;have HFR:=Qq hfr;have HROW:=Qq hrow;have HUS:=Qq hus;have hol:out.length<=1000:=by rw [ho];simp;omega
  clear HREL ho hfr hrow hus;by_cases hlt2:k < base.length
  ·have hk1:(k:Int) < (base.length:Int):=by omega
   have hc3:out.length+1<=maxLen:=by unfold maxLen;omega
   have hc4:(out.length+1)*24<=140737488355328:=by omega
   have HSB:=Qq (show Jb base (k:Int)=(Zt base k []).1 by
    unfold Jb;rw [HCB.out,show(decide ((k:Int) < 0)||decide ((base.length:Int)<=(k:Int)))=false by simp;omega]
    rfl)
   go_wp2_with fail;refine(Pi base _ _ k _ (Ja HCB.out) HM0.out.2.1 (by omega) hlt2 (HAT.out.ext HFR.out.ext)).mono ?_;rintro e w1 ⟨u,rfl,hrowc,hoks,hext⟩;have hm:Jl wr w1 u (Jb base (k:Int)):=by rw [HSB.out];exact⟨hrowc,hoks,hext⟩
   have X1:=Qq (HFR.out.ext.trans hm.2.2);have Y1:=Qq hm.2.2;have HM:=Qq hm;obtain⟨Au,cu,rfl,_⟩:=Qa hm.fml;clear hm hrowc hoks hext;go_wp2_with(at_builtin;refine wpList_append_own_at _ rfl _ _ 32 rfl w0.heap.size 22 iI (.slice none 0 0) 1 24 Tryz.underlying32 hiI hzI0 hzI1 hzI2 rfl (by decide) _ out.length us rfl (Zf HROW.out (Y1.out.alloc _)) ⟨_,0,none⟩ 1 1 [.slice Au (Jb base (k:Int)).length cu] rfl rfl (Jq _ _ _ (by simp)) (fun u hu=>by rw [List.mem_singleton.1 hu];rfl) hc3 hc4 (Qx HFR.out.ext.size (Y1.out.alloc _).size) ?_);intro v7 w7 hown7 hgrow7 _ hat7;have HPS:=Qq (Vy.push (s:=Jb base (k:Int)) (X1.out.alloc _) (Zf HROW.out (Y1.out.alloc _)) (fun k s hk=>by
    obtain⟨u,a,b,c⟩:=HUS.out k s hk;exact⟨u,a,b.ext (Y1.out.alloc _),c.ext (Y1.out.alloc _)⟩) hown7 hgrow7 (hat7.imp id (fun e=>e.trans (by simp))) (HM.out.fml.ext (Qz.alloc _)) (Rd (Nat.le_refl _) (Zf HM.out.1 (Qz.alloc _)) HROW.out HFR.out.ext.size))
   obtain⟨A7,c7,rfl⟩:=Qt hown7;clear hown7 hgrow7 hat7;go_wp2_with fail;go_roundw
   case rel=>exact⟨k+1,by go_num,by omega,Qq ⟨_,by rw [Qb0,<-HO.out],HPS.out⟩⟩
   case measure=>simp [intOf];omega
  obtain rfl:base.length=k:=by omega
  go_wp2_with fail;go_ret;exact⟨_,rfl,by rw [HB.out,show Dv base=out from HO.out.symm];exact HFR.out.before HM0.out.ext⟩
theorem Qim:(Tryz.prog.info? 3).map (fun i=>(i.zero,i.size,i.bytes))=some (some (.int .i64 0),1,8):=by kernel_rfl
structure Cir (w wr:World) (B:Nat) (vf vo:Value) (out:List Int):Prop where
 ext:Ext w wr
 blk:wr.heap[B]?=some (.cells #[vf,vo] 173 (0,0))
 row:wr.ownsRow (B+1) 3 1 vo out.length (out.map (Value.int .i64))
 res:wr.heap[B - 1]?=some (.cells #[.slice none 0 0,.slice none 0 0] 173 (0,0))
section
variable {w wr:World} {B:Nat} {vf vo:Value} {out:List Int}
theorem Cir.next {w4:World}(h:Cir w wr B vf vo out)(he:Ext wr w4):Cir w w4 B vf vo out :=
 ⟨h.ext.trans he,(he.block (Qm h.blk)).trans h.blk,Zf h.row he,(he.block (Qm h.res)).trans h.res⟩
theorem Cir.push {w7:World} {v7:Value} {z:Int}(h:Cir w wr B vf vo out)(hB:w.heap.size < B)
 (hown:w7.ownsRow (B+1) 3 1 v7 (out.length+1) (out.map (Value.int .i64)++ [.int .i64 z]))(hg:wr.grownBy w7 vo.ownBlock):
 Cir w (w7.setCell ⟨B,1,none⟩ v7) B vf v7 (out++ [z]):=by
 have hvo:∀g,vo.ownBlock=some g->B+1<=g:=fun g hg'=>(h.row.lt g hg').1
 have hb:w7.heap[B]?=wr.heap[B]?:=hg.block B (Qm h.blk) (fun e=>by have:=hvo B e.symm;omega);have hv7:v7.ownBlock≠some B:=fun e=>by have:=(hown.lt B e).1;omega
 refine⟨(h.ext.grown hg (fun g hg'=>by have:=hvo g hg';omega)).setCell (Nat.le_of_lt hB) _,Et (hb.trans h.blk) v7,?_,?_⟩
 ·have hr:w7.ownsRow (B+1) 3 1 v7 (out++ [z]).length ((out++ [z]).map (Value.int .i64)):=by
   rw [List.length_append,List.map_append];exact hown
  exact ownsRow_setCell_other (a:=⟨B,1,none⟩) hr hv7 _
 rw [Below.heap_setCell _ _ _ _ (show B - 1≠B by omega),hg.block _ (Qm h.res) (fun e=>by have:=hvo _ e.symm;omega)];exact h.res
end
theorem Qzy {base:List (List Nd)} {f:List Nd} {k:Nat} {n:Nd}(hn:f[k]?=some n):(Vp base f).take (k+1)=(Vp base f).take k++ [bif Jm n then Yq base (Jb f (k:Int))else -1]:=Yh (Qya hn)
theorem Qk7(vb vf:Value)(base:List (List Nd))(f:List Nd)(w:World)(hb:Fl w vb base)(hf:Fml w vf f)(hl:f.length<=200):
 Calls Tryz.prog 182 #[vb,vf] w fun e w'=>∃ui,e=.returned (.agg #[vf,ui])/\Ext w w'/\Nt w' ui (Vp base f):=by
 have HB:=Qq hb;have HF:=Qq hf;obtain⟨iI,hiI,hzI0,hzI1,hzI2⟩:=info_parts Qim;obtain⟨Ab,cb,rfl,_⟩:=hb;obtain⟨⟨Af,cf,rfl,hcap,hmax,hread⟩,hok⟩:=hf;unfold maxLen at hmax;have HREAD:=Qq hread;clear hread hok;go_enter Tryz.func182,Tryz.ntmps182;go_wp2_with fail;go_loopw [13] (fun vi wr=>∃k:Nat,vi=.int .i64 (k:Int)/\k<=f.length/\Hid (∃vo out,out=(Vp base f).take k/\Cir w wr (w.heap.size+1) (.slice Af f.length cf) vo out)) (fun v _=>f.length - (intOf v).toNat)
 case atStart=>exact⟨0,rfl,Nat.zero_le _,Qq ⟨.slice none 0 0,[],rfl,(Qz.alloc _).alloc _,(by have:=heap_alloc_new (w.alloc (.cells #[.slice none 0 0,.slice none 0 0] 173)) (.cells #[.slice Af f.length cf,.slice none 0 0] 173);simpa using this),World.ownsRow_nil _ _ _ _,((Qz.alloc _).block (by simp)).trans (heap_alloc_new _ _)⟩⟩
 case round =>
  obtain⟨k,rfl,hk,HREL⟩:=hrel;obtain⟨vo,out,hol,hcir⟩:=HREL.out;have HOL:=Qq hol;have HC:=Qq hcir;obtain⟨Ao,co,rfl⟩:=Qt hcir.row;have hol2:out.length<=200:=by rw [hol,List.length_take];omega
  obtain⟨d0,d1,df,dl⟩:=Ka hcir.blk;clear HREL hol hcir;by_cases hlt2:k < f.length
  ·have hk1:(k:Int) < (f.length:Int):=by omega
   obtain⟨n,hn⟩:∃n,f[k]?=some n:=⟨_,Qv hlt2⟩;obtain⟨ad,rfl,hblk,hcells⟩:=HREAD.out (by intro e;rw [e]at hlt2;simp at hlt2);obtain⟨c0,c1,c2,c3,c4,c5⟩:=(hcells k n hn).keep fun p hp=>HC.out.ext.cell (p:=p) (by rw [hp,Qp];exact hblk)
   have hblk2:(ad.add (k*6)).block < wr.heap.size:=by rw [Qp];exact Qy hblk HC.out.ext.size
   have HN:=Qq hn;clear hn hcells;obtain⟨wq,hwq⟩:∃v,v=wr:=⟨_,rfl⟩;subst hwq;have hc3:out.length+1<=maxLen:=by unfold maxLen;omega
   have hc4:(out.length+1)*8<=140737488355328:=by omega
   have HX0:=Qq (show Ext wq (wq.alloc (.cells #[.int .i64 n.op,.int .i64 n.i,.int .i64 n.e,.int .i64 n.g,.int .i64 n.x,.int .i64 n.y] 71))from Qz.alloc _);rcases Qj4 n with hop|⟨t3,t9,t13⟩
   ·have HBB:=Qq (show(bif Jm n then Yq base (Jb f (k:Int))else -1)=Yq base (Jb f (k:Int)) by rw [show Jm n=true by unfold Jm;rcases hop with e|e|e <;> rw [e] <;> rfl];rfl);have HTT:=Qq (show((n.op==3)=true)\/((n.op==3)=false/\(n.op==9)=true)\/((n.op==3)=false/\(n.op==9)=false/\(n.op==13)=true) by rcases hop with e|e|e <;> rw [e] <;> simp);clear hop;rcases HTT.out with t3|⟨t3,t9⟩|⟨t3,t9,t13⟩
    all_goals
     go_wp2_with fail;refine(Ch _ f (k:Int) _ (HF.out.ext (HC.out.ext.trans HX0.out))).mono ?_;rintro e w2 ⟨u2,rfl,hm2⟩;have HM2:=Qq hm2;clear hm2;go_wp2_with fail;refine(We _ _ base _ _ (HB.out.ext (HC.out.ext.trans (HX0.out.trans HM2.out.ext))) HM2.out.fml).mono ?_;rintro e w3 ⟨rfl,hx3⟩;have HC4:=Qq (HC.out.next (HX0.out.trans (HM2.out.ext.trans hx3)));obtain⟨q0,q1,qf,qb⟩:=Ka HC4.out.blk;clear hx3 d0 d1 df dl;go_wp2_with(at_builtin;refine wpList_append_own_at _ rfl _ _ 36 rfl (w.heap.size+1+1) 3 iI (.int .i64 0) 1 8 Tryz.underlying36 hiI hzI0 hzI1 hzI2 rfl (by decide) _ out.length (out.map (Value.int .i64)) rfl (HC4.out.next (Qz.alloc _)).row ⟨_,0,none⟩ 1 1 [.int .i64 (Yq base (Jb f (k:Int)))] rfl rfl (Jq _ _ _ (by simp)) (fun u hu=>by rw [List.mem_singleton.1 hu];rfl) hc3 hc4 (by have:=qb;simp;omega) ?_)
     intro v7 w7 hown7 hgrow7 _ hat7;obtain⟨d0,d1,df,dl⟩:=Ka ((hgrow7.block (w.heap.size+1) (by simp;omega) (fun e=>by have:=(HC4.out.row.lt _ e.symm).1;omega)).trans ((HC4.out.next (Qz.alloc (.cells #[.int .i64 (Yq base (Jb f (k:Int)))] 3))).blk));have HP:=Qq (Cir.push (HC4.out.next (Qz.alloc _)) (by omega) hown7 hgrow7);obtain⟨A7,c7,rfl⟩:=Qt hown7;clear hown7 hgrow7 hat7;go_wp2_with fail;go_roundw
     case rel=>exact⟨k+1,by go_num,by omega,Qq ⟨_,_,by rw [Qzy HN.out,<-HOL.out,HBB.out],HP.out⟩⟩
     case measure=>simp [intOf];omega
   have HBB:=Qq (show(bif Jm n then Yq base (Jb f (k:Int))else -1)= -1 by rw [show Jm n=false by unfold Jm;rw [t3,t9,t13];rfl];rfl);have HC4:=Qq (HC.out.next HX0.out);have qb:=Qm HC4.out.blk;go_wp2_with(at_builtin;refine wpList_append_own_at _ rfl _ _ 36 rfl (w.heap.size+1+1) 3 iI (.int .i64 0) 1 8 Tryz.underlying36 hiI hzI0 hzI1 hzI2 rfl (by decide) _ out.length (out.map (Value.int .i64)) rfl (HC4.out.next (Qz.alloc _)).row ⟨_,0,none⟩ 1 1 [.int .i64 (-1)] rfl rfl (Jq _ _ _ (by simp)) (fun u hu=>by rw [List.mem_singleton.1 hu];rfl) hc3 hc4 (by have:=qb;simp;omega) ?_)
   intro v7 w7 hown7 hgrow7 _ hat7;obtain⟨q0,q1,qf,ql⟩:=Ka ((hgrow7.block (w.heap.size+1) (by simp;omega) (fun e=>by have:=(HC4.out.row.lt _ e.symm).1;omega)).trans ((HC4.out.next (Qz.alloc (.cells #[.int .i64 (-1)] 3))).blk));have HP:=Qq (Cir.push (HC4.out.next (Qz.alloc _)) (by omega) hown7 hgrow7);obtain⟨A7,c7,rfl⟩:=Qt hown7;clear hown7 hgrow7 hat7;go_wp2_with fail;go_roundw
   case rel=>exact⟨k+1,by go_num,by omega,Qq ⟨_,_,by rw [Qzy HN.out,<-HOL.out,HBB.out],HP.out⟩⟩
   case measure=>simp [intOf];omega
  obtain rfl:f.length=k:=by omega
  have HR:=Qq (show wr.heap[w.heap.size]?=some (.cells #[.slice none 0 0,.slice none 0 0] 173 (0,0)) by have:=HC.out.res;rw [Nat.add_sub_cancel]at this;exact this);obtain⟨r0,r1,rf,rl⟩:=Ka HR.out;have HE:=Qq (show out=Vp base f by rw [HOL.out,List.take_of_length_le (by rw [Qye];exact Nat.le_refl _)]);have HS:=Qq (Et (Qkp HR.out (.slice Af f.length cf)) (.slice Ao out.length co));go_wp2_with fail
  (try simp only [Exit.inBlock,Exit.then])
  refine bodyPost_ret (Oa Tryz.results182 _ _ rfl (Gs HS.out) Tryz.underlying173 rfl (by kernel_rfl)) rfl ?_;have hne:(Value.slice Ao out.length co).ownBlock≠some w.heap.size:=fun e=>by have:=(HC.out.row.lt _ e).1;omega
  exact⟨_,rfl,(HC.out.ext.setCell (by simp) _).setCell (by simp) _,by rw [<-HE.out];exact Qq9 (ownsRow_setCell_other (a:=⟨w.heap.size,1,none⟩) (ownsRow_setCell_other (a:=⟨w.heap.size,0,none⟩) HC.out.row hne _) hne _)⟩
end Go.Proofs.YtkmclcmnoicagaaGreatDoor
