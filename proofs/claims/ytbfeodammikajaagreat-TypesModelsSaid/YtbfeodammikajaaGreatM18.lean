/- The engine's choose: what a type requires is selected. -/
import Derived.Test.YtbfeodammikajaaGreatM01
import Derived.Test.YtbfeodammikajaaGreatM16
import Derived.Test.YtbfeodammikajaaGreatM17
import Derived.Test.YtbfeodammikajaaGreatM07
import Derived.Test.YtbfeodammikajaaGreatM11
import Derived.Deep.MidRow
import Derived.Test.YtbfeodammikajaaGreatM09
namespace Go.Proofs.YtbfeodammikajaaGreat
set_option maxRecDepth 100000
set_option maxHeartbeats 128000000
open Go.RowKit
structure SOk (al:List Bool) (l:List Nat):Prop where
 nd:l.Nodup
 al:∀u∈l,al.getD u false=true
theorem SOk.grow {al:List Bool} {l l':List Nat}(h:SOk al l)(g:SGrow al l l'):SOk al l':=⟨g.nd h.nd,g.al h.al⟩
theorem SOk.lt {al:List Bool} {l:List Nat}(h:SOk al l):∀u∈l,u < al.length:=fun u hu=>getD_lt (h.al u hu)
theorem SOk.len {al:List Bool} {l:List Nat}(h:SOk al l):l.length<=al.length:=nodup_len al.length l h.nd h.lt
theorem addAll_take {l ls:List Nat} {j:Nat}(hj:j < ls.length):addAll l (ls.take (j+1))=addI (addAll l (ls.take j)) ((ls.getD j 0:Nat):Int):=by
 unfold addAll;rw [List.take_add_one,Qv hj,List.foldl_append,Qk,Qv hj];rfl
def ChRes(w0:World)(lg:Int)(ks:List Kn)(cs:List Cm)(al:List Bool)(agents:Nat)(l:List Nat)(t:Nat)(e:Ending)(w':World):Prop :=
 (∃r,e=.returned r)/\∃v' l',SelI w0 w' v' l'/\SGrow al l l'/\Sel lg ks cs al agents l' t
theorem choose2_any(u:Int)(w:World):Calls Tryz.prog 102 (#[.int .i64 u]++ #[]) w fun e w'=>e=.returned (.bool true)/\Ext w w':=by
 show Calls Tryz.prog 102 #[.int .i64 u] w _;go_enter Tryz.func102,Tryz.ntmps102;go_wp2_with fail;go_ret;exact⟨rfl,Qz⟩
theorem choose1_any(B u:Nat)(Ah:Option Addr)(ch:Nat)(hs:List Bool)(w:World)(hB:w.cell? ⟨B,2,none⟩=some (.slice Ah hs.length ch))(hb:BoolsAt w Ah ch hs)(hu:u < hs.length):
 Calls Tryz.prog 101 (#[.int .i64 (u:Int)]++ #[.pointer (some ⟨B,0,none⟩)]) w fun e w'=>e=.returned (.bool (!hs.getD u false))/\Ext w w':=by
 show Calls Tryz.prog 101 #[.int .i64 (u:Int),.pointer (some ⟨B,0,none⟩)] w _;obtain⟨ah,rfl,_,hc⟩:=bools_get hb hu;have h1:=hb.1;have h2:=hb.2.1;unfold maxLen at h2;have hui:(u:Int) < (hs.length:Int):=by omega
 obtain⟨x,hx⟩:∃x,x=hs.getD u false:=⟨_,rfl⟩;rw [<-hx]at hc⊢;clear hx;go_enter Tryz.func101,Tryz.ntmps101;go_wp2_with fail;go_ret;exact⟨rfl,Qz⟩
theorem choose_any(b:Nat)(lg:Int)(base:List (List Nd))(root:List Bool)(ks:List Kn)(cs:List Cm)(alive:List Bool)(agents t:Nat)(w0 w:World)(v:Value)(l:List Nat)
 (hE:Eng w0 b lg base root ks cs alive)(hlg:0<=lg/\lg<=6)(ht:t < alive.length)(hm:alive.length<=4096)(hks:∀k∈ks,k.place < 64/\alive.length<=k.holds.length)(hcs:∀c∈cs,c.place < 64/\c.x.length=alive.length/\c.y.length=alive.length/\0<=c.group/\c.group < 16)
 (hag:agents<=4)(hL:Lives lg ks cs alive t)(hS:SelI w0 w v l)(hok:SOk alive l):
 Calls Tryz.prog 48 #[.pointer (some ⟨b,0,none⟩),.pointer (some ⟨w0.heap.size+1,0,none⟩),.int .u64 (t:Int),.int .i64 (agents:Int)] w (ChRes w0 lg ks cs alive agents l t):=by
 obtain⟨Ab,cb,Ar,cr,Ak,ck,Ac,cc,Aa,ca,d0,d1,d2,d3,d4,d5,hbl,_,_,hkn,hcm,_⟩:=hE.cells;have HE:=Qq hE;have HKS:=Qq hks;have HCS:=Qq hcs;have HK:=Qq hkn;have HC:=Qq hcm;have HLV:=Qq hL;have HS:=Qq hS;have HOK:=Qq hok;have hkc:=hkn.1;have hck:=hkn.2.1;have hcc:=hcm.1;have hccm:=hcm.2.1;unfold maxLen at hck hccm;have D0':=Qq d0;have D4:=Qq d4;have x3:=(hS.ext.cell (p:=⟨b,3,none⟩) hbl).trans d3;have xl:=Qy hbl hS.ext.size;have HBL:=Qq hbl;have hmf:∀(fn:Fn) (first cap:Array Value) (w:World),(Instr.makeFunc fn first cap).run Tryz.prog w=.ok (.func fn first cap) w:=fun _ _ _ _=>rfl
 clear hE hkn hcm hks hcs hL hS hok d0 d1 d2 d3 d4 d5 hbl;go_enter Tryz.func48,Tryz.ntmps48;go_wp2_with fail;clear x3 xl;go_loopw [20] (fun v wr=>∃k:Nat,v=.int .i64 (k:Int)/\k<=ks.length/\Hid (∃v' l',SelI w0 wr v' l'/\SGrow alive l l'/\∀(j:Nat) (m:Kn),j < k->ks[j]?=some m->NeedK lg ks l' t m)) (fun v _=>ks.length - (intOf v).toNat)
 case atStart=>exact⟨0,rfl,Nat.zero_le _,Qq ⟨v,l,HS.out,SGrow.refl,fun j m hj=>absurd hj (by omega)⟩⟩
 case round =>
  obtain⟨k,rfl,hk,HREL⟩:=hrel;obtain⟨v1,l1,hs1,hg1,hj1⟩:=HREL.out;have HS1:=Qq hs1;have HG1:=Qq hg1;have HJ1:=Qq hj1;have HO1:=Qq (HOK.out.grow hg1);clear HREL hs1 hg1 hj1;by_cases hlt2:k < ks.length
  ·have hk1:(k:Int) < (ks.length:Int):=by omega
   obtain⟨n,hn⟩:∃n,ks[k]?=some n:=⟨_,Qv hlt2⟩;have hnm:=List.mem_of_getElem? hn;obtain⟨hpl,hhl⟩:=HKS.out n hnm;obtain⟨ad,rfl,hblk,hat⟩:=kn_get HK.out hn;obtain⟨vh,c0,c1,c2,hbo⟩:=hat.ext HS1.out.ext (Qj hblk);obtain⟨Ah,ch,rfl,hbo⟩:=hbo;have HBO:=Qq hbo;have hblk2:(ad.add (k*3)).block < wr.heap.size:=by rw [block_of_add];exact Qy hblk HS1.out.ext.size
   have HN:=Qq hn;have HNX0:=Qq (HLV.out.know n hnm);have HSN:=Qq (show ∀l2,(∀u∈l1,u∈l2)->NeedK lg ks l2 t n->∀(j:Nat) (m:Kn),j < k+1->ks[j]?=some m->NeedK lg ks l2 t m from fun l2 hs hc j m hj hm=>by
    by_cases e:j < k
    ·exact(HJ1.out j m e hm).mono hs
    have:j=k:=by omega
    subst this;rw [HN.out]at hm;injection hm with hm;rw [<-hm];exact hc)
   clear hn hat hbo hnm;obtain⟨wq,hwq⟩:∃v,v=wr:=⟨_,rfl⟩;subst hwq;have hb1:=shr_and_zero t n.place (by omega);have HX0:=Qq (show Ext wq (wq.alloc (.cells #[.int .i64 n.agent,.int .i64 (n.place:Int),.slice Ah n.holds.length ch] 113))from Qz.alloc _);have HBXX:=Qq (cells3t (show(wq.alloc (.cells #[.int .i64 n.agent,.int .i64 (n.place:Int),.slice Ah n.holds.length ch] 113)).heap[wq.heap.size]?=some (.cells #[.int .i64 n.agent,.int .i64 (n.place:Int),.slice Ah n.holds.length ch] 113 (0,0))from heap_alloc_new _ _));have HS2:=Qq (HS1.out.next HX0.out);have HWT:=Qq (witness_any b lg base root ks cs alive n.agent t (fun u=> !n.holds.getD u false) 101 #[.pointer (some ⟨wq.heap.size,0,none⟩)] (fun _ _=>rfl) w0 _ v1 l1 (HE.out.ext HS2.out.ext) hlg (by omega) hm HKS.out HS2.out (Qx HO1.out.len hm) HO1.out.lt (fun W u hu hW=>choose1_any wq.heap.size u Ah ch n.holds W ((hW.cell (p:=⟨wq.heap.size,2,none⟩) (by simp)).trans HBXX.out.2.2.1) ((HBO.out.ext (Qz.alloc _)).ext hW) (Qy hu hhl)))
   have HWM:=Qq (fun h=>wit_mem (al:=alive) (l:=l1) (lg:=lg) (ks:=ks) (a:=n.agent) (t:=t) (wanted:=fun u=> !n.holds.getD u false) h);have HWG:=Qq (wit_grow (al:=alive) (l:=l1) (lg:=lg) (ks:=ks) (a:=n.agent) (t:=t) (wanted:=fun u=> !n.holds.getD u false));obtain⟨l2,hl2⟩:∃x,x=witN lg ks alive n.agent t (fun u=> !n.holds.getD u false) l1:=⟨_,rfl⟩;rw [<-hl2]at HWT HWM HWG;clear hl2;cases htb:t.testBit n.place
   ·rw [htb]at hb1;simp only [Bool.not_false]at hb1;have HND:=Qq (show NeedK lg ks l2 t n from fun hf=>by
     obtain⟨u,h1,h2,h3⟩:=HWM.out (HNX0.out hf);exact⟨u,h1,by simpa using h2,h3⟩)
    clear htb;go_wp2_with fail;refine HWT.out.mono ?_;rintro e w3 ⟨⟨r,rfl⟩,v2,hs2,_⟩;have HS3:=Qq hs2;clear hs2;go_wp2_with fail;go_roundw
    case rel=>exact⟨k+1,by go_num,by omega,Qq ⟨v2,l2,HS3.out,HG1.out.trans HWG.out,HSN.out l2 HWG.out.sub HND.out⟩⟩
    case measure=>simp [intOf];omega
   rw [htb]at hb1;simp only [Bool.not_true]at hb1;have HND:=Qq (show NeedK lg ks l1 t n from fun hf=>by rw [htb]at hf;cases hf);clear htb;go_wp2_with fail;go_roundw
   case rel=>exact⟨k+1,by go_num,by omega,Qq ⟨v1,l1,HS2.out,HG1.out,HSN.out l1 (fun _ h=>h) HND.out⟩⟩
   case measure=>simp [intOf];omega
  obtain rfl:ks.length=k:=by omega
  have HALLK:=Qq (show ∀m∈ks,NeedK lg ks l1 t m from fun m hm=>by
   obtain⟨j,hj,e⟩:=List.getElem_of_mem hm;exact HJ1.out j m hj (by rw [Qv hj,e]))
  have x4:=(HS1.out.ext.cell (p:=⟨b,4,none⟩) HBL.out).trans D4.out;have xl:=Qy HBL.out HS1.out.ext.size;clear HJ1;obtain⟨w1,hw1⟩:∃v,v=wr:=⟨_,rfl⟩;subst hw1;go_wp2_with fail;clear x4 xl;go_loopw [43] (fun v wr=>∃k:Nat,v=.int .i64 (k:Int)/\k<=cs.length/\Hid (∃v' l',SelI w0 wr v' l'/\SGrow alive l1 l'/\∀(j:Nat) (m:Cm),j < k->cs[j]?=some m->NeedC lg ks alive l' t m)) (fun v _=>cs.length - (intOf v).toNat)
  case atStart=>exact⟨0,rfl,Nat.zero_le _,Qq ⟨v1,l1,HS1.out,SGrow.refl,fun j m hj=>absurd hj (by omega)⟩⟩
  case round =>
   clear HS1;obtain⟨k,rfl,hk,HREL⟩:=hrel;obtain⟨v2,l2,hs2,hg2,hj2⟩:=HREL.out;have HS2:=Qq hs2;have HG2:=Qq hg2;have HJ2:=Qq hj2;have HO2:=Qq (HO1.out.grow hg2);clear HREL hs2 hg2 hj2;by_cases hlt2:k < cs.length
   ·have hk1:(k:Int) < (cs.length:Int):=by omega
    obtain⟨n,hn⟩:∃n,cs[k]?=some n:=⟨_,Qv hlt2⟩;have hnm:=List.mem_of_getElem? hn;obtain⟨hpl,hxl,hyl,hg0,hg1⟩:=HCS.out n hnm;obtain⟨ad,rfl,hblk,hat⟩:=cm_get HC.out hn;obtain⟨vx,vy,c0,c1,c2,c3,c4,hbx,hby⟩:=hat.ext HS2.out.ext (Qj hblk);have HBX:=Qq hbx;have HBY:=Qq hby;obtain⟨Ax,cx,rfl,_⟩:=hbx;obtain⟨Ay,cy,rfl,_⟩:=hby;have hblk2:(ad.add (k*5)).block < wr.heap.size:=by rw [block_of_add];exact Qy hblk HS2.out.ext.size
    have HN:=Qq hn;have HPN:=Qq (HLV.out.com n hnm);have HSN:=Qq (show ∀l3,(∀u∈l2,u∈l3)->NeedC lg ks alive l3 t n->∀(j:Nat) (m:Cm),j < k+1->cs[j]?=some m->NeedC lg ks alive l3 t m from fun l3 hs hc j m hj hm=>by
     by_cases e:j < k
     ·exact(HJ2.out j m e hm).mono hs
     have:j=k:=by omega
     subst this;rw [HN.out]at hm;injection hm with hm;rw [<-hm];exact hc)
    clear hn hat hnm;obtain⟨wq,hwq⟩:∃v,v=wr:=⟨_,rfl⟩;subst hwq;have hn64:n.place < 64:=hpl;have hb1:=shr_and_zero t n.place (by omega);have HX0:=Qq (show Ext wq (wq.alloc (.cells #[.int .i64 (n.place:Int),.int .i64 n.group,.slice Ax n.x.length cx,.slice Ay n.y.length cy,.int .u64 (n.parts:Int)] 115))from Qz.alloc _);have HS3:=Qq (HS2.out.next HX0.out);have HPT:=Qq (path_any b lg base root ks cs alive n t (.slice Ax n.x.length cx) (.slice Ay n.y.length cy) _ (HE.out.ext HS3.out.ext) hlg (by omega) hm HKS.out (HBX.out.ext (Qz.alloc _)) (HBY.out.ext (Qz.alloc _)) hxl hyl ⟨hg0,hg1⟩ (by omega));cases htb:t.testBit n.place
    ·rw [htb]at hb1;simp only [Bool.not_false]at hb1;have HYES:=Qq (path_iff.1 (HPN.out htb));clear htb hxl hyl hg0 hg1;go_wp2_with fail;refine HPT.out.mono ?_;rintro e w3 hres;rcases hres with⟨rfl,hx3,hno⟩|⟨ad3,c3',ls,rfl,hx3,hrow,hne,hlk,hhd,hyes⟩
     ·exact absurd HYES.out hno
     have HX3:=Qq hx3;have HRW:=Qq hrow;have HLK:=Qq hlk;have HHD:=Qq hhd;have HS4:=Qq (HS3.out.next hx3);have HLA:=Qq (show ∀u∈ls,alive.getD u false=true from fun u hu=>by
      obtain⟨a,ha⟩:=links_all ls hlk u hu;exact step_al ha)
     obtain⟨pg,cap2,hsl2,hgl2,hgb2,hs12,hs22,_⟩:=row_natV hrow (j:=0) (by cases ls;exact absurd rfl hne;exact Nat.succ_pos _) rfl;injection hsl2 with hsl2a _ hsl2b;injection hsl2a with hsl2a;subst hsl2a hsl2b;unfold maxLen at hs22;have HPG:=Qq (show w0.heap.size+1 < pg/\v2.ownBlock≠some pg by
      have h1:=lt_heap HS2.out.box;have h2:(wq.alloc (.cells #[.int .i64 (n.place:Int),.int .i64 n.group,.slice Ax n.x.length cx,.slice Ay n.y.length cy,.int .u64 (n.parts:Int)] 115)).heap.size=wq.heap.size+1:=by simp
      rw [h2]at hgb2;refine⟨by omega,fun e=> ?_⟩;have:=(HS2.out.row.lt _ e).2
      omega)
     have HU0:=Qq (show ∃u,ls[0]?=some u by cases ls;exact absurd rfl hne;exact⟨_,rfl⟩);have HPL:=Qq hgl2;clear hrow hlk hhd hyes hx3 hne hgb2 hgl2;go_wp2_with fail;go_loopw [58] (fun v wr=>∃k:Nat,v=.int .i64 (k:Int)/\k<=ls.length/\Hid (∃v',SelI w0 wr v' (addAll l2 (ls.take k))/\SelX w0 w3 v2 wr v')) (fun v _=>ls.length - (intOf v).toNat)
     case atStart=>exact⟨0,rfl,Nat.zero_le _,Qq ⟨v2,HS4.out,SelX.of Qz⟩⟩
     case round =>
      clear HS4;obtain⟨j,rfl,hj,HREL⟩:=hrel;obtain⟨v4,hs4,hf4⟩:=HREL.out;have HS4:=Qq hs4;have HF4:=Qq hf4;have HG4:=Qq (addAll_grow (al:=alive) (ls.take j) l2 (fun u hu=>HLA.out u (List.mem_of_mem_take hu)));have HO4:=Qq (HO2.out.grow HG4.out);clear HREL hs4 hf4;by_cases hjl:j < ls.length
      ·have hj1:(j:Int) < (ls.length:Int):=by omega
       have hrw:=row_keep HRW.out (w':=wr) fun g hg=>by
        injection hg with hg;subst hg;exact HF4.out.blk pg HPL.out (show pg≠w0.heap.size by have:=HPG.out.1;omega) (show pg≠w0.heap.size+1 by have:=HPG.out.1;omega) HPG.out.2
       obtain⟨g2,cap3,hsl3,hgl3,_,_,_,a0⟩:=row_natV hrw hjl rfl;injection hsl3 with hsl3a _ hsl3b;injection hsl3a with hsl3a;injection hsl3a with hsl3a;subst hsl3a hsl3b;have hum:ls.getD j 0∈ls:=by rw [Qk,Qv hjl];exact List.getElem_mem _
       have hul:=getD_lt (HLA.out _ hum);have HTK:=Qq (show addAll l2 (ls.take (j+1))=addI (addAll l2 (ls.take j)) ((ls.getD j 0:Nat):Int)from addAll_take hjl);clear hum hrw;obtain⟨u,hu⟩:∃u,u=ls.getD j 0:=⟨_,rfl⟩;rw [<-hu]at a0 hul HTK;have hu4:(u:Int)<=4096:=by omega
       have hl4:(addAll l2 (ls.take j)).length<=4096:=Qx HO4.out.len hm;obtain⟨l4,hl4'⟩:∃x,x=addAll l2 (ls.take j):=⟨_,rfl⟩;rw [<-hl4']at HS4 HTK hl4;clear hl4' hu HG4 HO4;go_wp2_with fail;refine(add_any w0 _ v4 l4 (u:Int) HS4.out hu4 hl4).mono ?_;rintro e w5 ⟨⟨r,rfl⟩,v5,hs5,hx5⟩;have HS5:=Qq hs5;have HF5:=Qq (HF4.out.trans hx5);clear hs5 hx5;go_wp2_with fail;go_roundw
       case rel=>exact⟨j+1,by go_num,by omega,Qq ⟨v5,by rw [HTK.out];exact HS5.out,HF5.out⟩⟩
       case measure=>simp [intOf];omega
      obtain rfl:ls.length=j:=by omega
      have HND:=Qq (show NeedC lg ks alive (addAll l2 ls) t n from fun _=>by
       obtain⟨u,hu⟩:=HU0.out;exact⟨u,(links_rch ls u hu HLK.out).mono (fun a b h=>⟨h.1,addAll_mem ls l2 b (Or.inl h.2)⟩),HHD.out u hu⟩)
      rw [List.take_length]at HS4 HG4;clear HO4;go_wp2_with fail;go_roundw
      case rel=>exact⟨k+1,by go_num,by omega,Qq ⟨v4,addAll l2 ls,HS4.out,HG2.out.trans HG4.out,HSN.out _ HG4.out.sub HND.out⟩⟩
      case measure=>simp [intOf];omega
    rw [htb]at hb1;simp only [Bool.not_true]at hb1;have HND:=Qq (show NeedC lg ks alive l2 t n from fun hf=>by rw [htb]at hf;cases hf);clear htb hxl hyl hg0 hg1;go_wp2_with fail;go_roundw
    case rel=>exact⟨k+1,by go_num,by omega,Qq ⟨v2,l2,HS3.out,HG2.out,HSN.out l2 (fun _ h=>h) HND.out⟩⟩
    case measure=>simp [intOf];omega
   obtain rfl:cs.length=k:=by omega
   have HALLC:=Qq (show ∀m∈cs,NeedC lg ks alive l2 t m from fun m hm=>by
    obtain⟨j,hj,e⟩:=List.getElem_of_mem hm;exact HJ2.out j m hj (by rw [Qv hj,e]))
   clear HJ2;obtain⟨w2,hw2⟩:∃v,v=wr:=⟨_,rfl⟩;subst hw2;go_wp2_with fail;go_loopw [68] (fun v wr=>∃k:Nat,v=.int .i64 (k:Int)/\k<=agents/\Hid (∃v' l',SelI w0 wr v' l'/\SGrow alive l2 l'/\∀j,j < k->NeedA lg ks l' t j)) (fun v _=>agents - (intOf v).toNat)
   case atStart=>exact⟨0,rfl,Nat.zero_le _,Qq ⟨v2,l2,HS2.out,SGrow.refl,fun j hj=>absurd hj (by omega)⟩⟩
   case round =>
    clear HS2;obtain⟨k,rfl,hk,HREL⟩:=hrel;obtain⟨v3,l3,hs3,hg3,hj3⟩:=HREL.out;have HS3:=Qq hs3;have HG3:=Qq hg3;have HJ3:=Qq hj3;have HO3:=Qq (HO2.out.grow hg3);clear HREL hs3 hg3 hj3;by_cases hlt2:k < agents
    ·have hk1:(k:Int) < (agents:Int):=by omega
     have x0:=(HS3.out.ext.cell (p:=⟨b,0,none⟩) HBL.out).trans D0'.out;have xl:=Qy HBL.out HS3.out.ext.size;have HSN:=Qq (show ∀l4,(∀u∈l3,u∈l4)->NeedA lg ks l4 t k->∀j,j < k+1->NeedA lg ks l4 t j from fun l4 hs hc j hj=>by
      by_cases e:j < k
      ·exact(HJ3.out j e).mono hs
      have:j=k:=by omega
      subst this;exact hc)
     have HWT:=Qq (fun W (hW:Ext wr W)=>witness_any b lg base root ks cs alive (k:Int) t (fun _=>true) 102 #[] (fun _ _=>rfl) w0 W v3 l3 (HE.out.ext (HS3.out.next hW).ext) hlg (by omega) hm HKS.out (HS3.out.next hW) (Qx HO3.out.len hm) HO3.out.lt (fun W u _ _=>choose2_any (u:Int) W));have HWM:=Qq (fun h=>wit_mem (al:=alive) (l:=l3) (lg:=lg) (ks:=ks) (a:=(k:Int)) (t:=t) (wanted:=fun _=>true) h);have HWG:=Qq (wit_grow (al:=alive) (l:=l3) (lg:=lg) (ks:=ks) (a:=(k:Int)) (t:=t) (wanted:=fun _=>true));have HSR:=Qq (fun h=>HLV.out.ser h k (by omega));obtain⟨l4,hl4⟩:∃x,x=witN lg ks alive (k:Int) t (fun _=>true) l3:=⟨_,rfl⟩
     rw [<-hl4]at HWT HWM HWG;clear hl4;have HND:=Qq (show NeedA lg ks l4 t k from fun hf=>by
      obtain⟨u,h1,_,h3⟩:=HWM.out (HSR.out hf);exact⟨u,h1,h3⟩)
     cases h1:lg==1
     ·cases h5:lg==5
      ·have HNO:=Qq (show NeedA lg ks l3 t k from fun hf=>by
        rcases hf with e|e
        ·rw [e]at h1;cases h1
        rw [e]at h5;cases h5)
       go_wp2_with fail;go_roundw
       case rel=>exact⟨k+1,by go_num,by omega,Qq ⟨v3,l3,HS3.out,HG3.out,HSN.out l3 (fun _ h=>h) HNO.out⟩⟩
       case measure=>simp [intOf];omega
      go_wp2_with fail;refine(HWT.out _ Qz).mono ?_;rintro e w5 ⟨⟨r,rfl⟩,v4,hs4,_⟩;have HS4:=Qq hs4;clear hs4;go_wp2_with fail;go_roundw
      case rel=>exact⟨k+1,by go_num,by omega,Qq ⟨v4,l4,HS4.out,HG3.out.trans HWG.out,HSN.out l4 HWG.out.sub HND.out⟩⟩
      case measure=>simp [intOf];omega
     go_wp2_with fail;refine(HWT.out _ Qz).mono ?_;rintro e w5 ⟨⟨r,rfl⟩,v4,hs4,_⟩;have HS4:=Qq hs4;clear hs4;go_wp2_with fail;go_roundw
     case rel=>exact⟨k+1,by go_num,by omega,Qq ⟨v4,l4,HS4.out,HG3.out.trans HWG.out,HSN.out l4 HWG.out.sub HND.out⟩⟩
     case measure=>simp [intOf];omega
    obtain rfl:agents=k:=by omega
    go_wp2_with fail;exact bodyPost_end (v:=.tuple #[]) (results_none rfl _ _ _) rfl ⟨⟨_,rfl⟩,v3,l3,HS3.out,HG1.out.trans (HG2.out.trans HG3.out),fun m hm=>(HALLK.out m hm).mono (HG2.out.trans HG3.out).sub,fun m hm=>(HALLC.out m hm).mono HG3.out.sub,HJ3.out⟩
def U64s(w:World)(v:Value)(l:List Nat):Prop :=
 ∃A c,v=.slice A l.length c/\l.length<=c/\c<=maxLen/\(l≠ []->∃ad,A=some ad/\ad.block < w.heap.size/\∀(k z:Nat),l[k]?=some z->w.cell? (ad.add k)=some (.int .u64 (z:Int)))
theorem U64s.ext {w w':World} {v:Value} {l:List Nat}(h:U64s w v l)(he:Ext w w'):U64s w' v l:=by
 obtain⟨A,c,e,h1,h2,h3⟩:=h;refine⟨A,c,e,h1,h2,fun hn=> ?_⟩;obtain⟨ad,e,hlt,hc⟩:=h3 hn;exact⟨ad,e,Qy hlt he.size,fun k z hk=>(he.cell (Qj hlt)).trans (hc k z hk)⟩
theorem u64s_nil(w:World):U64s w (.slice none 0 0) []:=⟨none,0,rfl,Nat.le_refl _,by unfold maxLen;omega,fun h=>absurd rfl h⟩
theorem u64_at {w:World} {v:Value} {l:List Nat}(h:U64s w v l):∃A c,v=.slice A l.length c/\l.length<=c/\c<=maxLen/\Hid (∀i,i < l.length->∃ad,A=some ad/\ad.block < w.heap.size/\w.cell? (ad.add i)=some (.int .u64 ((l.getD i 0:Nat):Int))):=by
 obtain⟨A,c,rfl,h1,h2,h3⟩:=h;refine⟨A,c,rfl,h1,h2,Qq fun i hi=> ?_⟩;obtain⟨ad,e,hl,hc⟩:=h3 (by intro e;rw [e]at hi;simp at hi);exact⟨ad,e,hl,hc i _ (by rw [Qk,Qv hi];rfl)⟩
def U64ss(w:World)(v:Value)(l:List (List Nat)):Prop :=
 ∃A c,v=.slice A l.length c/\l.length<=c/\c<=maxLen/\(l≠ []->∃ad,A=some ad/\ad.block < w.heap.size/\∀(k:Nat) s,l[k]?=some s->∃u,w.cell? (ad.add k)=some u/\U64s w u s)
theorem U64ss.ext {w w':World} {v:Value} {l:List (List Nat)}(h:U64ss w v l)(he:Ext w w'):U64ss w' v l:=by
 obtain⟨A,c,e,h1,h2,h3⟩:=h;refine⟨A,c,e,h1,h2,fun hn=> ?_⟩;obtain⟨ad,e,hlt,hc⟩:=h3 hn;refine⟨ad,e,Qy hlt he.size,fun k s hk=> ?_⟩;obtain⟨u,hu,hb⟩:=hc k s hk;exact⟨u,(he.cell (Qj hlt)).trans hu,hb.ext he⟩
theorem u64ss_at {w:World} {v:Value} {l:List (List Nat)}(h:U64ss w v l):∃A c,v=.slice A l.length c/\l.length<=c/\c<=maxLen/\Hid (∀i,i < l.length->∃ad u,A=some ad/\ad.block < w.heap.size/\w.cell? (ad.add i)=some u/\U64s w u (l.getD i [])):=by
 obtain⟨A,c,rfl,h1,h2,h3⟩:=h;refine⟨A,c,rfl,h1,h2,Qq fun i hi=> ?_⟩;obtain⟨ad,e,hl,hc⟩:=h3 (by intro e;rw [e]at hi;simp at hi);obtain⟨u,hu,hs⟩:=hc i (l.getD i []) (by rw [Qk,Qv hi];rfl);exact⟨ad,u,e,hl,hu,hs⟩
structure Md where
 n:Int
 val:List Nat
 rel:List (List Nat)
def word(s:Nat):Prop:=s < 18446744073709551616
structure Md.ok (md:Md):Prop where
 n:i64ok md.n
 val:∀s∈md.val,word s
 rel:∀r∈md.rel,∀s∈r,word s
def MdV(w:World)(v:Value)(md:Md):Prop:=∃vv vr,v=.agg #[.int .i64 md.n,vv,vr]/\U64s w vv md.val/\U64ss w vr md.rel
theorem MdV.ext {w w':World} {v:Value} {md:Md}(h:MdV w v md)(he:Ext w w'):MdV w' v md:=by
 obtain⟨vv,vr,e,h1,h2⟩:=h;exact⟨vv,vr,e,h1.ext he,h2.ext he⟩
theorem getD_word {l:List Nat}(h:∀s∈l,word s)(i:Nat):word (l.getD i 0):=by
 rw [Qk];cases e:l[i]? with
 |none=>show(0:Nat) < _;omega
 |some s=>exact h s (List.mem_of_getElem? e)
theorem getD_words {l:List (List Nat)}(h:∀r∈l,∀s∈r,word s)(i:Nat):∀s∈l.getD i [],word s:=by
 rw [Qk];cases e:l[i]? with
 |none=>intro s hs;cases hs
 |some r=>exact h r (List.mem_of_getElem? e)
def maskN(n:Nat)(p:Nat->Bool):Nat:=(List.range n).foldl (fun o i=>if p i then o|||2^i else o) 0
theorem mask_succ(n:Nat)(p:Nat->Bool):maskN (n+1) p=if p n then maskN n p|||2^n else maskN n p:=by
 unfold maskN;rw [List.range_succ,List.foldl_append];rfl
theorem mask_bit(p:Nat->Bool):∀(n i:Nat),(maskN n p).testBit i=(decide (i < n)&&p i)
 |0,i=>by simp [maskN]
 |n+1,i=>by
  rw [mask_succ];cases h:p n
  ·rw [if_neg (by simp),mask_bit p n i];by_cases e:i=n
   ·subst e;simp [h]
   have:decide (i < n+1)=decide (i < n):=by rw [decide_eq_decide];omega
   rw [this]
  rw [if_pos rfl,Nat.testBit_or,mask_bit p n i,Nat.testBit_two_pow];by_cases e:i=n
  ·subst e;simp [h]
  have h1:decide (n=i)=false:=decide_eq_false (fun q=>e q.symm);have h2:decide (i < n+1)=decide (i < n):=by rw [decide_eq_decide];omega
  rw [h1,h2,Bool.or_false]
theorem mask_lt(p:Nat->Bool):∀n:Nat,maskN n p < 2^n
 |0=>by simp [maskN]
 |n+1=>by
  rw [mask_succ];have h1:=mask_lt p n;have h2:2^n < 2^(n+1):=Nat.pow_lt_pow_right (by decide) (Nat.lt_succ_self n)
  split
  ·exact Nat.or_lt_two_pow (by omega) h2
  omega
theorem two64 {n:Nat}(h:n<=64):2^n<=18446744073709551616:=by
 rw [show(18446744073709551616:Nat)=2^64 from rfl];exact Nat.pow_le_pow_right (by decide) h
theorem mask_word {n:Nat}(h:n<=64)(p:Nat->Bool):word (maskN n p):=Qy (mask_lt p n) (two64 h)
theorem bit_lt {s n i:Nat}(h:s < 2^n)(hi:s.testBit i=true):i < n:=by
 by_cases e:i < n
 ·exact e
 rw [Nat.testBit_lt_two_pow (Qy h (Nat.pow_le_pow_right (by decide) (by omega)))]at hi;cases hi
def difN(a b:Nat):Nat:=a^^^(a&&&b)
theorem dif_bit(a b i:Nat):(difN a b).testBit i=(a.testBit i&& !b.testBit i):=by
 unfold difN;rw [Nat.testBit_xor,Nat.testBit_and];cases a.testBit i <;> cases b.testBit i <;> rfl
theorem dif_word {a b:Nat}(ha:word a):word (difN a b):=by
 unfold difN word at *;exact Nat.xor_lt_two_pow (n:=64) ha (Nat.lt_of_le_of_lt Nat.and_le_left ha)
theorem subS_iff {a b:Nat} :subS a b=true↔∀i,a.testBit i=true->b.testBit i=true:=by
 unfold subS;rw [beq_iff_eq];constructor
 ·intro h i hi;rw [<-h,Nat.testBit_and]at hi;exact(Bool.and_eq_true_iff.1 hi).2
 intro h;refine Nat.eq_of_testBit_eq fun i=> ?_
 rw [Nat.testBit_and];cases e:a.testBit i
 ·rfl
 rw [h i e];rfl
theorem dif_zero {a b:Nat} :(difN a b==0)=subS a b:=by
 rw [Bool.eq_iff_iff,beq_iff_eq,subS_iff];constructor
 ·intro h i hi;have h1:=dif_bit a b i;rw [h,Nat.zero_testBit,hi,Bool.true_and]at h1;cases e:b.testBit i
  ·rw [e]at h1;cases h1
  rfl
 intro h;refine Nat.eq_of_testBit_eq fun i=> ?_
 rw [dif_bit,Nat.zero_testBit];cases e:a.testBit i
 ·rfl
 rw [h i e];rfl
section
theorem ofInt_u64(a:Nat)(ha:word a):(BitVec.ofInt 64 (a:Int)).toNat=a:=by
 rw [BitVec.ofInt_natCast,BitVec.toNat_ofNat];exact Nat.mod_eq_of_lt (by unfold word at ha;omega)
theorem bits_andNot {a b:Nat}(ha:word a)(hb:word b):bits .andNot .u64 (a:Int) (b:Int)=((difN a b:Nat):Int):=by
 show IntKind.u64.wrap ((BitVec.ofInt 64 (a:Int)&&& ~~~BitVec.ofInt 64 (b:Int)).toNat:Int)=_;have e:(BitVec.ofInt 64 (a:Int)&&& ~~~BitVec.ofInt 64 (b:Int)).toNat=difN a b:=by
  have e2:(BitVec.ofInt 64 (a:Int)&&& ~~~BitVec.ofInt 64 (b:Int))=BitVec.ofInt 64 (a:Int)^^^(BitVec.ofInt 64 (a:Int)&&&BitVec.ofInt 64 (b:Int)):=by
   apply BitVec.eq_of_getLsbD_eq;intro i hi;simp only [BitVec.getLsbD_and,BitVec.getLsbD_not,BitVec.getLsbD_xor,hi,decide_true,Bool.true_and];cases(BitVec.ofInt 64 (a:Int)).getLsbD i <;> cases(BitVec.ofInt 64 (b:Int)).getLsbD i <;> rfl
  rw [e2,BitVec.toNat_xor,BitVec.toNat_and,ofInt_u64 a ha,ofInt_u64 b hb];rfl
 rw [e,IntKind.wrap_u64];have:=dif_word (b:=b) ha;unfold word at this;omega
theorem bits_or {a b:Nat}(ha:word a)(hb:word b):bits .or .u64 (a:Int) (b:Int)=((a|||b:Nat):Int):=by
 show IntKind.u64.wrap ((BitVec.ofInt 64 (a:Int)|||BitVec.ofInt 64 (b:Int)).toNat:Int)=_;rw [BitVec.toNat_or,ofInt_u64 a ha,ofInt_u64 b hb,IntKind.wrap_u64];have:a|||b < 2^64:=Nat.or_lt_two_pow ha hb;omega
theorem bits_xor {a b:Nat}(ha:word a)(hb:word b):bits .xor .u64 (a:Int) (b:Int)=((a^^^b:Nat):Int):=by
 show IntKind.u64.wrap ((BitVec.ofInt 64 (a:Int)^^^BitVec.ofInt 64 (b:Int)).toNat:Int)=_;rw [BitVec.toNat_xor,ofInt_u64 a ha,ofInt_u64 b hb,IntKind.wrap_u64];have:a^^^b < 2^64:=Nat.xor_lt_two_pow ha hb;omega
theorem bits_and {a b:Nat}(ha:word a)(hb:word b):bits .and .u64 (a:Int) (b:Int)=((a&&&b:Nat):Int):=bits_and_u64_nat a b ha hb
theorem wrap_two {n:Nat}(h:n < 64):IntKind.u64.wrap ((2:Int)^n)=((2^n:Nat):Int):=by
 have h1:2^n < 18446744073709551616:=by
  rw [show(18446744073709551616:Nat)=2^64 from rfl];exact Nat.pow_lt_pow_right (by decide) h
 rw [show((2:Int)^n)=((2^n:Nat):Int) by rw [Int.natCast_pow];rfl,IntKind.wrap_u64];generalize 2^n=m at *;omega
theorem wrap_all {n:Nat}(h:n < 64):IntKind.u64.wrap (IntKind.u64.wrap ((2:Int)^n) - 1)=((2^n - 1:Nat):Int):=by
 rw [wrap_two h,IntKind.wrap_u64];have h1:0 < 2^n:=Nat.two_pow_pos n;have h2:2^n < 18446744073709551616:=by
  rw [show(18446744073709551616:Nat)=2^64 from rfl];exact Nat.pow_lt_pow_right (by decide) h
 generalize 2^n=m at *;omega
end
theorem all_bit(n i:Nat):(2^n - 1).testBit i=decide (i < n):=by
 rw [Nat.testBit_two_pow_sub_one]
theorem all_word {n:Nat}(h:n<=64):word (2^n - 1):=by
 have:=two64 h;unfold word;have:0 < 2^n:=Nat.two_pow_pos n;omega
theorem inside_all {s n:Nat} :subS s (2^n - 1)=decide (s < 2^n):=by
 unfold subS;rw [Nat.and_two_pow_sub_one_eq_mod,Bool.eq_iff_iff,beq_iff_eq,decide_eq_true_iff];constructor
 ·intro h;rw [<-h];exact Nat.mod_lt _ (Nat.two_pow_pos n)
 exact Nat.mod_eq_of_lt
def allW(n:Nat):Nat:=2^n - 1
theorem allw_bit(n i:Nat):(allW n).testBit i=decide (i < n):=all_bit n i
theorem allw_word {n:Nat}(h:n<=64):word (allW n):=all_word h
theorem out_all {s n:Nat}(hs:word s)(hn:n<=64):(bits .andNot .u64 (s:Int) ((allW n:Nat):Int) !=0)= !decide (s < 2^n):=by
 rw [bits_andNot hs (allw_word hn)];show(!(((difN s (allW n):Nat):Int)==0))=_;rw [show(((difN s (allW n):Nat):Int)==0)=(difN s (allW n)==0) by rw [Bool.eq_iff_iff,beq_iff_eq,beq_iff_eq];omega,dif_zero];unfold allW;rw [inside_all]
theorem shr_mod_two_u(s k:Nat):(((s:Int) / 2^k).tmod 2==1)=s.testBit k:=by
 rw [shr_nat,testBit_int];generalize s / 2^k=r;rw [show((r:Nat):Int).tmod 2=((r % 2:Nat):Int)from rfl,Bool.eq_iff_iff,beq_iff_eq,beq_iff_eq];omega
theorem rAll13_any(n:Nat)(h:n<=64)(w:World):Calls Tryz.prog 135 #[.int .i64 (n:Int)] w fun e w'=>e=.returned (.int .u64 ((allW n:Nat):Int))/\w=w':=by
 by_cases h64:n=64
 ·subst h64;go_enter Tryz.func135,Tryz.ntmps135;go_wp2_with fail;go_ret;exact⟨rfl,rfl⟩
 have hn:n < 64:=by omega
 have hn1:(n:Int) < 64:=by omega
 have hmin:min n 64=n:=by omega
 have HW:=Qq (wrap_all hn);clear h64 h;go_enter Tryz.func135,Tryz.ntmps135;go_wp2_with fail;go_ret;exact⟨by rw [<-show((2^n - 1:Nat):Int)=((allW n:Nat):Int)from rfl,<-HW.out] <;> rfl,rfl⟩
theorem rAll02_any(n:Nat)(h:n<=64)(w:World):Calls Tryz.prog 157 #[.int .i64 (n:Int)] w fun e w'=>e=.returned (.int .u64 ((allW n:Nat):Int))/\w=w':=by
 by_cases h64:n=64
 ·subst h64;go_enter Tryz.func157,Tryz.ntmps157;go_wp2_with fail;go_ret;exact⟨rfl,rfl⟩
 have hn:n < 64:=by omega
 have hn1:(n:Int) < 64:=by omega
 have hmin:min n 64=n:=by omega
 have HW:=Qq (wrap_all hn);clear h64 h;go_enter Tryz.func157,Tryz.ntmps157;go_wp2_with fail;go_ret;exact⟨by rw [<-show((2^n - 1:Nat):Int)=((allW n:Nat):Int)from rfl,<-HW.out] <;> rfl,rfl⟩
theorem rHas13_any(s i:Nat)(w:World)(hi:i < 64):Calls Tryz.prog 53 #[.int .u64 (s:Int),.int .i64 (i:Int)] w fun e w'=>e=.returned (.bool (s.testBit i))/\w=w':=by
 have hm:min i 64=i:=by omega
 have hi1:(i:Int) < 64:=by omega
 have HB:=Qq (shr_mod_two_u s i);go_enter Tryz.func53,Tryz.ntmps53;go_wp2_with fail;go_ret;exact⟨by rw [<-HB.out] <;> rfl,rfl⟩
theorem rIn02_any(s i:Nat)(w:World)(hi:i < 64)(hs:word s):Calls Tryz.prog 165 #[.int .u64 (s:Int),.int .i64 (i:Int)] w fun e w'=>e=.returned (.bool (s.testBit i))/\w=w':=by
 have hm:min i 64=i:=by omega
 have hi1:(i:Int) < 64:=by omega
 have HB:=Qq (shr_and_one s i hs);clear hs;go_enter Tryz.func165,Tryz.ntmps165;go_wp2_with fail;go_ret;exact⟨by rw [<-HB.out] <;> rfl,rfl⟩
def beyondN(l:List Nat)(n:Nat):Bool:=l.any fun s=> !decide (s < 2^n)
theorem beyond_hit {l:List Nat} {n k:Nat}(hk:k < l.length)(h:decide (l.getD k 0 < 2^n)=false):beyondN l n=true:=by
 unfold beyondN;rw [List.any_eq_true];exact⟨l[k],List.getElem_mem hk,by rw [Qk,Qv hk]at h;simpa using h⟩
theorem beyond_miss {l:List Nat} {n:Nat}(h:∀k,k < l.length->decide (l.getD k 0 < 2^n)=true):beyondN l n=false:=by
 unfold beyondN;rw [List.any_eq_false];intro s hs;obtain⟨k,hk,e⟩:=List.getElem_of_mem hs;have:=h k hk;rw [Qk,Qv hk,e]at this
 simpa using this
theorem upto2 {P:Nat->Prop} {k:Nat}(h:∀j,j < k->P j)(hk:P k):∀j,j < k+1->P j:=fun j hj=>by
 by_cases e:j < k
 ·exact h j e
 have:j=k:=by omega
 rw [this];exact hk
theorem beyond_any(v:Value)(l:List Nat)(n:Nat)(w:World)(h:U64s w v l)(hw:∀s∈l,word s)(hn:n<=64):
 Calls Tryz.prog 85 #[v,.int .i64 (n:Int)] w fun e w'=>e=.returned (.bool (beyondN l n))/\Ext w w':=by
 obtain⟨A,c,rfl,hlc,hcm,HL⟩:=u64_at h;have HWD:=Qq hw;unfold maxLen at hcm;clear h hw;go_enter Tryz.func85,Tryz.ntmps85;go_wp2_with fail;go_loopw [5] (fun v wr=>∃k:Nat,v=.int .i64 (k:Int)/\k<=l.length/\Hid (Ext w wr/\∀j,j < k->decide (l.getD j 0 < 2^n)=true)) (fun v _=>l.length - (intOf v).toNat)
 case atStart=>exact⟨0,rfl,Nat.zero_le _,Qq ⟨Qz,fun j hj=>absurd hj (by omega)⟩⟩
 case round =>
  obtain⟨k,rfl,hk,HREL⟩:=hrel;have HX:=Qq HREL.out.1;have HJ:=Qq HREL.out.2;clear HREL;by_cases hlt2:k < l.length
  ·have hk1:(k:Int) < (l.length:Int):=by omega
   obtain⟨ad,rfl,hadl,hc⟩:=HL.out k (by omega);have a0:=(HX.out.cell (p:=ad.add k) (Qj hadl)).trans hc;have al:(ad.add k).block < wr.heap.size:=by rw [block_of_add];exact Qy hadl HX.out.size
   have HNX:=Qq (show decide (l.getD k 0 < 2^n)=true->∀j,j < k+1->decide (l.getD j 0 < 2^n)=true from fun h=>upto2 (P:=fun j=>decide (l.getD j 0 < 2^n)=true) HJ.out h);have HHT:=Qq (show decide (l.getD k 0 < 2^n)=false->beyondN l n=true from beyond_hit (by omega));have hout:=out_all (n:=n) (getD_word HWD.out k) hn;obtain⟨sx,hsx⟩:∃s,s=l.getD k 0:=⟨_,rfl⟩;rw [<-hsx]at a0 hout HNX HHT;clear hc hsx;go_upto_region 4 with(fail);cases hd:decide (sx < 2^n)
   ·rw [hd]at hout;have HD:=Qq hd;clear hd;refine wp_region_held_drew (S:=fun w'=>w'.cell? (ad.add k)=some (.int .u64 (sx:Int))) (by kernel_rfl) (xc al a0) (fun hHeld=> ?_);refine tk 0 hHeld ?_;refine tk 1 hHeld ?_;refine tk 2 hHeld ?_;refine tk 3 hHeld ?_;refine tk 4 hHeld ?_;refine wpAnyH_ready (rs:= [5]) (by kernel_rfl) (by simp) ?_;refine AllReadyH.cons rfl (fun K hK=> ?_) AllReadyH.nil;go_simp;refine(rAll13_any n hn _).mono ?_;rintro e w3 ⟨rfl,rfl⟩;go_wp2_with fail;refine hK.out _ _ (xc al a0) (fun hHeld=> ?_);clear hK K;refine Qd ?_;refine tk 6 hHeld ?_;refine tk 7 hHeld ?_;refine wpAnyH_done (by kernel_rfl) ?_ _
    have HE:=Qq (HHT.out HD.out);go_wp2_with fail;go_ret;exact⟨by rw [HE.out] <;> rfl,HX.out.trans Qz.drew⟩
   rw [hd]at hout;have HD:=Qq hd;clear hd;refine wp_region_held_drew (S:=fun w'=>w'.cell? (ad.add k)=some (.int .u64 (sx:Int))) (by kernel_rfl) (xc al a0) (fun hHeld=> ?_);refine tk 0 hHeld ?_;refine tk 1 hHeld ?_;refine tk 2 hHeld ?_;refine tk 3 hHeld ?_;refine tk 4 hHeld ?_;refine wpAnyH_ready (rs:= [5]) (by kernel_rfl) (by simp) ?_;refine AllReadyH.cons rfl (fun K hK=> ?_) AllReadyH.nil;go_simp;refine(rAll13_any n hn _).mono ?_;rintro e w3 ⟨rfl,rfl⟩;go_wp2_with fail;refine hK.out _ _ (xc al a0) (fun hHeld=> ?_);clear hK K;refine Qd ?_;refine tk 6 hHeld ?_;refine tk 7 hHeld ?_;refine wpAnyH_done (by kernel_rfl) ?_ _
   have HP:=Qq (HNX.out HD.out);go_wp2_with fail;go_roundw
   case rel=>exact⟨k+1,by go_num,by omega,Qq ⟨HX.out.trans Qz.drew,HP.out⟩⟩
   case measure=>simp [intOf];omega
  obtain rfl:l.length=k:=by omega
  have HE:=Qq (beyond_miss HJ.out);go_wp2_with fail;go_ret;exact⟨by rw [HE.out] <;> rfl,HX.out⟩
def check02(n:Int)(l:List Nat):Int:=if n < 0\/64 < n then 2 else if(l.length:Int)≠n then 3 else if beyondN l n.toNat then 1 else 0
theorem check02_any(v:Value)(l:List Nat)(w:World)(h:U64s w v l)(hw:∀s∈l,word s):
 Calls Tryz.prog 136 #[.int .i64 (l.length:Int),v] w fun e w'=>e=.returned (.int .i64 (check02 l.length l))/\Ext w w':=by
 obtain⟨A,c,rfl,hlc,hcm,HL⟩:=u64_at h;have HWD:=Qq hw;unfold maxLen at hcm;clear h hw;by_cases hn:l.length<=64
 ·have hn1:¬(64:Int) < (l.length:Int):=by omega
  have HC:=Qq (show check02 l.length l=if beyondN l l.length then 1 else 0 by unfold check02;rw [if_neg (by omega),if_neg (by simp)];rfl);obtain⟨n,hne⟩:∃n,n=l.length:=⟨_,rfl⟩;have HN:=Qq hne;rw [<-hne]at HC hn;rw [<-hne];have hn2:¬(64:Int) < (n:Int):=by omega
  have hne2:((n:Int) !=(n:Int))=false:=by simp
  have hlen:l.length=n:=hne.symm;clear hne hn1;go_enter Tryz.func136,Tryz.ntmps136;go_wp2_with fail;go_loopw [5] (fun v wr=>∃k:Nat,v=.int .i64 (k:Int)/\k<=n/\Hid (Ext w wr/\∀j,j < k->decide (l.getD j 0 < 2^n)=true)) (fun v _=>n - (intOf v).toNat)
  case atStart=>exact⟨0,rfl,Nat.zero_le _,Qq ⟨Qz,fun j hj=>absurd hj (by omega)⟩⟩
  case round =>
   obtain⟨k,rfl,hk,HREL⟩:=hrel;have HX:=Qq HREL.out.1;have HJ:=Qq HREL.out.2;clear HREL;by_cases hlt2:k < n
   ·have hk1:(k:Int) < (n:Int):=by omega
    obtain⟨ad,rfl,hadl,hc⟩:=HL.out k (by omega);have a0:=(HX.out.cell (p:=ad.add k) (Qj hadl)).trans hc;have al:(ad.add k).block < wr.heap.size:=by rw [block_of_add];exact Qy hadl HX.out.size
    have HNX:=Qq (show decide (l.getD k 0 < 2^n)=true->∀j,j < k+1->decide (l.getD j 0 < 2^n)=true from fun h=>upto2 (P:=fun j=>decide (l.getD j 0 < 2^n)=true) HJ.out h);have HHT:=Qq (show decide (l.getD k 0 < 2^n)=false->beyondN l n=true from beyond_hit (by omega));have hout:=out_all (n:=n) (getD_word HWD.out k) hn;obtain⟨sx,hsx⟩:∃s,s=l.getD k 0:=⟨_,rfl⟩;rw [<-hsx]at a0 hout HNX HHT;clear hc hsx;go_upto_region 8 with(fail);cases hd:decide (sx < 2^n)
    ·rw [hd]at hout;have HD:=Qq hd;clear hd;refine wp_region_held_drew (S:=fun w'=>w'.cell? (ad.add k)=some (.int .u64 (sx:Int))) (by kernel_rfl) (xc al a0) (fun hHeld=> ?_);refine tk 0 hHeld ?_;refine tk 1 hHeld ?_;refine tk 2 hHeld ?_;refine tk 3 hHeld ?_;refine tk 4 hHeld ?_;refine wpAnyH_ready (rs:= [5]) (by kernel_rfl) (by simp) ?_;refine AllReadyH.cons rfl (fun K hK=> ?_) AllReadyH.nil;go_simp;refine(rAll02_any n hn _).mono ?_;rintro e w3 ⟨rfl,rfl⟩;go_wp2_with fail;refine hK.out _ _ (xc al a0) (fun hHeld=> ?_);clear hK K;refine Qd ?_;refine tk 6 hHeld ?_;refine tk 7 hHeld ?_;refine wpAnyH_done (by kernel_rfl) ?_ _
     have HE:=Qq (HHT.out HD.out);go_wp2_with fail;go_ret;exact⟨by rw [HC.out,HE.out] <;> rfl,HX.out.trans Qz.drew⟩
    rw [hd]at hout;have HD:=Qq hd;clear hd;refine wp_region_held_drew (S:=fun w'=>w'.cell? (ad.add k)=some (.int .u64 (sx:Int))) (by kernel_rfl) (xc al a0) (fun hHeld=> ?_);refine tk 0 hHeld ?_;refine tk 1 hHeld ?_;refine tk 2 hHeld ?_;refine tk 3 hHeld ?_;refine tk 4 hHeld ?_;refine wpAnyH_ready (rs:= [5]) (by kernel_rfl) (by simp) ?_;refine AllReadyH.cons rfl (fun K hK=> ?_) AllReadyH.nil;go_simp;refine(rAll02_any n hn _).mono ?_;rintro e w3 ⟨rfl,rfl⟩;go_wp2_with fail;refine hK.out _ _ (xc al a0) (fun hHeld=> ?_);clear hK K;refine Qd ?_;refine tk 6 hHeld ?_;refine tk 7 hHeld ?_;refine wpAnyH_done (by kernel_rfl) ?_ _
    have HP:=Qq (HNX.out HD.out);go_wp2_with fail;go_roundw
    case rel=>exact⟨k+1,by go_num,by omega,Qq ⟨HX.out.trans Qz.drew,HP.out⟩⟩
    case measure=>simp [intOf];omega
   obtain rfl:n=k:=by omega
   have HE:=Qq (show beyondN l n=false from beyond_miss (by rw [hlen];exact HJ.out));go_wp2_with fail;go_ret;exact⟨by rw [HC.out,HE.out] <;> rfl,HX.out⟩
 have hn1:(64:Int) < (l.length:Int):=by omega
 have HC:=Qq (show check02 l.length l=2 by unfold check02;rw [if_pos (by omega)]);go_enter Tryz.func136,Tryz.ntmps136;go_wp2_with fail;go_ret;exact⟨by rw [HC.out] <;> rfl,Qz⟩
def valid02(l:List Nat):Bool:=check02 l.length l==0
theorem valid_iff {l:List Nat} :valid02 l=true↔l.length<=64/\beyondN l l.length=false:=by
 unfold valid02 check02;by_cases h:l.length<=64
 ·rw [if_neg (by omega),if_neg (by simp)];show((if beyondN l l.length then(1:Int)else 0)==0)=true↔_;cases beyondN l l.length <;> simp [h]
 rw [if_pos (by omega)];simp;omega
theorem valid02_any(v:Value)(l:List Nat)(w:World)(h:U64s w v l)(hw:∀s∈l,word s):
 Calls Tryz.prog 86 #[v] w fun e w'=>e=.returned (.bool (valid02 l))/\Ext w w':=by
 have H:=Qq h;have HW:=Qq hw;obtain⟨A,c,rfl,_⟩:=h;clear hw;go_enter Tryz.func86,Tryz.ntmps86;go_wp2_with fail;refine(check02_any _ l _ H.out HW.out).mono ?_;rintro e w2 ⟨rfl,hx⟩;have HX:=Qq hx;clear hx;go_wp2_with fail;go_ret;exact⟨rfl,HX.out⟩
theorem results_cell {P:Program} {fn:Func} {t:Tmp} {ty:TypeId}(h:fn.results=#[.cell t ty])(tmps:Array Value)(w:World) {b o:Nat}(ht:tmps.getD t undef=.pointer (some ⟨b,o,none⟩)) {cs:List Value} {d:TypeDesc}(hc:w.rangeAt b o cs)
 (hu:P.underlying ty=some d)(hd:d.isRow=true)(hi:(P.info? ty).map (·.size)=some cs.length):(results fn tmps).run P w=.ok (.agg cs.toArray) w:=by
 have ht':tmps[t]?.getD undef=.pointer (some ⟨b,o,none⟩):=by rw [<-Array.getD_eq_getD_getElem?];exact ht
 simp [results,h,ht',asAddr,run_loadVar_mid w b o ty cs d hc hu hd hi]
theorem addr_nil(g k:Nat):(⟨g,0,none⟩:Addr).add k=⟨g,k,none⟩:=by unfold Addr.add;cases k <;> simp
def uV(l:List Nat):List Value:=l.map fun(u:Nat)=>Value.int .u64 (u:Int)
theorem tInfoU8:(Tryz.prog.info? 40).map (fun i=>(i.zero,i.size,i.bytes))=some (some (.int .u64 0),1,8):=by kernel_rfl
def MadeU(base:Nat)(w:World)(v:Value)(l:List Nat):Prop:=w.ownsRow base 40 1 v l.length (uV l)
section
variable {base:Nat} {w w':World} {v:Value} {l:List Nat} {g n cap k:Nat}
theorem MadeU.ext(h:MadeU base w v l)(he:Ext w w'):MadeU base w' v l:=row_ext h he
theorem MadeU.nil(base:Nat)(w:World):MadeU base w (.slice none 0 0) []:=World.ownsRow_nil _ _ _ _
theorem MadeU.slice(h:MadeU base w v l)(h0:0 < l.length):∃g cap,v=.slice (some ⟨g,0,none⟩) l.length cap/\g < w.heap.size/\base<=g/\l.length<=cap/\cap<=maxLen/\(∀i,i < l.length->w.cell? ⟨g,i,none⟩=some (.int .u64 ((l.getD i 0:Nat):Int)))/\∀i,w.frozen? ⟨g,i,none⟩=false:=by
 rcases h.2 with⟨_,e0⟩|⟨g,cap,cur,rfl,hb,hg,hnc,hm,hs,ht⟩
 ·omega
 refine⟨g,cap,rfl,lt_heap hg,hb,hnc,hm,fun i hi=> ?_,fun i=>by simp [World.frozen?,hg]⟩;have h1:(uV l)[i]?=some (.int .u64 ((l.getD i 0:Nat):Int)):=by
  unfold uV;rw [List.getElem?_map,Qk,Qv hi];rfl
 rw [<-ht,List.getElem?_take]at h1
 split at h1
 ·have h2:cur[i]?=some (.int .u64 ((l.getD i 0:Nat):Int)):=by simpa using h1
  simp [World.cell?,hg,h2]
 cases h1
theorem MadeU.at_(h:MadeU base w (.slice (some ⟨g,0,none⟩) n cap) l)(h0:0 < l.length):n=l.length/\g < w.heap.size/\base<=g/\n<=cap/\cap<=maxLen/\(∀i,i < l.length->w.cell? ⟨g,i,none⟩=some (.int .u64 ((l.getD i 0:Nat):Int)))/\∀i,w.frozen? ⟨g,i,none⟩=false:=by
 obtain⟨g',cap',e,h1,h2,h3,h4,h5,h6⟩:=h.slice h0;injection e with e1 e2 e3;injection e1 with e1;injection e1 with e1;subst e1 e2 e3;exact⟨rfl,h1,h2,h3,h4,h5,h6⟩
theorem MadeU.u64s(h:MadeU base w v l):U64s w v l:=by
 rcases Nat.eq_zero_or_pos l.length with h0|h0
 ·have:l= []:=List.length_eq_zero_iff.1 h0;subst this;rcases h.2 with⟨e,_⟩|⟨g,cap,cur,rfl,hb,hg,hnc,hm,hs,ht⟩
  ·subst e;exact u64s_nil w
  exact⟨_,cap,rfl,hnc,hm,fun h=>absurd rfl h⟩
 obtain⟨g,cap,rfl,h1,_,h3,h4,h5,_⟩:=h.slice h0;refine⟨_,cap,rfl,h3,h4,fun _=>⟨_,rfl,h1,fun k z hk=> ?_⟩⟩;have hk':=(List.getElem?_eq_some_iff.1 hk).1;have:=h5 k hk';rw [addr_nil,this,Qk,hk];rfl
theorem MadeU.set(h:MadeU base w (.slice (some ⟨g,0,none⟩) n cap) l)(hn:l.length=n)(j s:Nat):MadeU base (w.setCell ⟨g,j,none⟩ (.int .u64 (s:Int))) (.slice (some ⟨g,0,none⟩) n cap) (l.set j s):=by
 subst hn;have h1:=(World.ownsRow.stored h j (.int .u64 (s:Int))).1;unfold MadeU uV;rw [List.length_set,List.map_set];exact h1
theorem row_empty(w:World)(t:TypeId):(w.alloc (.cells #[] t)).ownsRow w.heap.size t 1 (.slice (some ⟨w.heap.size,0,none⟩) 0 0) 0 []:=
 ⟨rfl,.inr ⟨w.heap.size,0,#[],rfl,Nat.le_refl _,heap_alloc_new _ _,Nat.le_refl _,by unfold maxLen;omega,rfl,rfl⟩⟩
theorem row_of_u64 {ad:Addr}(h:∀i,i < l.length->w.cell? (ad.add i)=some (.int .u64 ((l.getD i 0:Nat):Int))):∀(j:Nat) u,(uV l)[j]?=some u->w.cell? (ad.add j)=some u:=fun j u hj=>by
 unfold uV at hj;rw [List.getElem?_map]at hj;cases e:l[j]? with
 |none=>rw [e]at hj;cases hj
 |some x =>
  rw [e]at hj;have hk:=(List.getElem?_eq_some_iff.1 e).1;rw [h j hk,Qk,e];exact hj
theorem uv_one(l:List Nat):∀u∈uV l,u.oneCell'=true:=fun u hu=>by
 obtain⟨x,_,rfl⟩:=List.mem_map.1 hu;rfl
theorem uv_len(l:List Nat):(uV l).length=l.length:=by simp [uV]
end
theorem fold_step {l:List (List Nd)} {k:Nat} {s:List Nd}(h:l[k]?=some s)(a:List Nd):(l.take (k+1)).foldl andN a=andN ((l.take k).foldl andN a) s:=by
 rw [take_succ_eq h,List.foldl_append];rfl
theorem add_succ'(ad:Addr)(k:Nat):ad.add (k+1)=⟨ad.block,ad.off+1+k,none⟩:=by
 unfold Addr.add;simp;omega
theorem drop_get {α:Type} {x:α} {r:List α} {k:Nat} {s:α}(h:r[k]?=some s):(x :: r)[k+1]?=some s:=by simpa using h
theorem joinA_any(v1 v2:Value)(l:List (List Nd))(e0:List Nd)(wb w:World)(h1:Fmls w v1 l)(hm2:Made wb w v2 e0):
 Calls Tryz.prog 156 #[v1,v2,.func (Fn.func 119) #[] #[]] w fun e w'=>∃u,e=.returned u/\Made wb w' u (conjN e0 l):=by
 have H1:=Qq h1;have H2:=Qq hm2;have h2:=hm2.fml;obtain⟨A,c,rfl,hcap,hmax,hr⟩:=h1;obtain⟨A2,c2,rfl,_⟩:=fml_slice h2;unfold maxLen at hmax;have HR:=Qq hr;clear hr h2 hm2;cases l with
 |nil =>
  go_enter Tryz.func156,Tryz.ntmps156;go_wp2_with fail;go_ret;exact⟨_,rfl,H2.out⟩
 |cons f r =>
  obtain⟨ad,rfl,hb1,hc1⟩:=HR.out (by simp);obtain⟨u0,hu0,hf0⟩:=hc1 0 f rfl;have HC:=Qq hc1;have HF0:=Qq hf0;have hu0':w.cell? ad=some u0:=by rw [<-hu0];congr 1
  clear hc1 hf0 HR H1 hu0;obtain⟨m,hm⟩:∃m,m=r.length:=⟨_,rfl⟩;rw [show(f :: r).length=m+1 by simp [hm]]at hcap⊢;have HM:=Qq hm;have hl1:(((m+1:Nat):Int)==0)=false:=by rw [beq_eq_false_iff_ne];omega
  have hl4:(((m:Nat):Int)+1==0)=false:=by rw [beq_eq_false_iff_ne];omega
  have hl2:(0:Int) < ((m+1:Nat):Int):=by omega
  clear hm;by_cases hcc:c=1
  ·subst hcc;obtain rfl:0=m:=by omega
   go_enter Tryz.func156,Tryz.ntmps156;go_wp2_with fail;refine(compactF_any _ f _ HF0.out).mono ?_;rintro e w1 ⟨u,rfl,hm⟩;have HM1:=Qq hm;clear hm;go_wp2_with fail;have HR0:=Qq (List.length_eq_zero_iff.1 HM.out.symm);go_loopw [7,21] (fun vf vi wr=>vi=.int .i64 0/\vf=u/\Hid (Ext w1 wr)) (fun _ i _=>0)
   case atStart=>exact⟨rfl,rfl,Qq Qz⟩
   case round =>
    obtain⟨rfl,rfl,HX⟩:=hrel;go_wp2_with fail;go_ret;exact⟨_,rfl,by rw [HR0.out];exact(HM1.out.before H2.out.ext).after HX.out⟩
  have hcc2:1 < c:=by omega
  go_enter Tryz.func156,Tryz.ntmps156;go_wp2_with fail;refine(compactF_any _ f _ HF0.out).mono ?_;rintro e w1 ⟨u,rfl,hm⟩;have HM1:=Qq hm;clear hm;go_wp2_with fail;go_loopw [7,21] (fun vf vi wr=>∃k:Nat,k<=m/\vi=.int .i64 (k:Int)/\Hid (Made w wr vf ((r.take k).foldl andN (compactN f)))) (fun _ i _=>m - (intOf i).toNat)
  case atStart=>exact⟨0,Nat.zero_le _,rfl,HM1⟩
  case round =>
   obtain⟨k,hk,rfl,HREL⟩:=hrel;have HX:=Qq HREL.out.ext;have HF:=Qq HREL.out.fml;obtain⟨Af,cf,rfl,_⟩:=fml_slice HREL.out.fml;by_cases hlt2:k < m
   ·obtain⟨s,hs⟩:∃s,r[k]?=some s:=⟨_,List.getElem?_eq_getElem (by rw [<-HM.out];exact hlt2)⟩;obtain⟨us,hus,hfs⟩:=HC.out (k+1) s (drop_get hs);rw [add_succ']at hus;have a0:=(HX.out.cell (p:=⟨ad.block,ad.off+1+k,none⟩) hb1).trans hus;have HFS:=Qq (hfs.ext HX.out);have HS:=Qq hs;obtain⟨As,cs,rfl,_⟩:=fml_slice hfs;clear hs hfs hus;go_wp2_with fail;refine(and_any _ _ _ _ _ HF.out HFS.out).mono ?_;rintro e w2 ⟨u2,rfl,hm2⟩;have HM2:=Qq hm2;clear hm2;go_wp2_with fail;go_roundw
    case rel=>exact⟨k+1,by omega,by go_num,Qq (by rw [fold_step HS.out];exact HM2.out.before HX.out)⟩
    case measure=>simp [intOf];omega
   obtain rfl:m=k:=by omega
   have HE:=Qq (show r.take m=r by rw [HM.out];exact List.take_of_length_le (Nat.le_refl _));go_wp2_with fail;go_ret;refine⟨.slice Af ((r.take m).foldl andN (compactN f)).length cf,rfl,?_⟩;have:=HREL.out;rw [HE.out]at this⊢;exact this.before H2.out.ext
theorem all_any(v:Value)(l:List (List Nd))(w:World)(h:Fmls w v l):
 Calls Tryz.prog 118 #[v] w fun e w'=>∃u,e=.returned u/\Made w w' u (allN l):=by
 have H:=Qq h;obtain⟨A,c,rfl,hcap,hmax,hr⟩:=h;clear hcap hmax hr;go_enter Tryz.func118,Tryz.ntmps118;go_wp2_with fail;refine(true_any _).mono ?_;rintro e w1 ⟨u,rfl,hm⟩;have HM:=Qq hm;clear hm;go_wp2_with fail;refine(joinA_any _ _ l _ _ _ (H.out.ext HM.out.ext) HM.out).mono ?_;rintro e w2 ⟨u2,rfl,hm2⟩;have HM2:=Qq hm2;clear hm2;go_wp2_with fail;go_ret;exact⟨_,rfl,HM2.out⟩
theorem setCell_id {w:World} {b j:Nat} {cs:Array Value} {t:TypeId} {fr:Nat×Nat} {v:Value}(h:w.heap[b]?=some (.cells cs t fr))(hv:cs[j]?=some v):w.setCell ⟨b,j,none⟩ v=w:=by
 have e:(w.setCell ⟨b,j,none⟩ v).heap=w.heap:=by
  refine Array.ext_getElem? fun i=> ?_
  simp only [World.setCell,Array.getElem?_modify];by_cases hb:b=i
  ·subst hb;rw [h];simp only [if_true,Option.map_some,Option.some.injEq,Obj.cells.injEq,and_true,Option.isSome_none];show cs.setIfInBounds j v=cs;refine Array.ext_getElem? fun k=> ?_
   rw [Array.getElem?_setIfInBounds];by_cases hk:j=k
   ·subst hk;rw [if_pos rfl]
    split
    ·exact hv.symm
    rename_i hn;rw [Array.getElem?_eq_none (by omega)]
   rw [if_neg hk]
  rw [if_neg hb]
 unfold World.setCell at e⊢;simp only at e⊢;rw [e]
theorem results_ctt {P:Program} {fn:Func} {t u v:Tmp} {ty:TypeId}(h:fn.results=#[.cell t ty,.tmp u,.tmp v])(tmps:Array Value)(w:World) {b o:Nat}(ht:tmps.getD t undef=.pointer (some ⟨b,o,none⟩)) {cs:List Value} {d:TypeDesc}(hc:w.rangeAt b o cs)
 (hu:P.underlying ty=some d)(hd:d.isRow=true)(hi:(P.info? ty).map (·.size)=some cs.length):(results fn tmps).run P w=.ok (.tuple #[.agg cs.toArray,tmps.getD u undef,tmps.getD v undef]) w:=by
 have ht':tmps[t]?.getD undef=.pointer (some ⟨b,o,none⟩):=by rw [<-Array.getD_eq_getD_getElem?];exact ht
 simp [results,h,ht',asAddr,run_loadVar_mid w b o ty cs d hc hu hd hi]
theorem range_of {w:World} {b:Nat} {cs:Array Value} {t:TypeId}(h:w.heap[b]?=some (.cells cs t (0,0))):w.rangeAt b 0 cs.toList:=fun j v hj=>by
 have:cs[j]?=some v:=by simpa using hj
 simp [World.cell?,h,this]
def topA(f:List Nd):List Nd:=bif decide (4<=(lastN f).op)then subN f (lastN f).x else []
def topB(f:List Nd):List Nd:=bif (lastN f).op==13 then subN f (lastN f).y else []
theorem fml_none(w:World):Fml w (.slice none 0 0) []:=⟨⟨none,0,rfl,Nat.le_refl _,by unfold maxLen;omega,fun h=>absurd rfl h⟩,by simp⟩
theorem top_any(v:Value)(f:List Nd)(w:World)(h:Fml w v f)(h0:0 < f.length):
 Calls Tryz.prog 49 #[v] w fun e w'=>∃u1 u2,e=.returned (.tuple #[(lastN f).val,u1,u2])/\Ext w w'/\Fml w' u1 (topA f)/\Fml w' u2 (topB f):=by
 have H:=Qq h;obtain⟨⟨A,c,rfl,hcap,hmax,hread⟩,hok⟩:=h;unfold maxLen at hmax;obtain⟨ad,rfl,hlt,hcells⟩:=hread (by intro e;rw [e]at h0;simp at h0);have hlast:=lastN_get h0;obtain⟨c0,c1,c2,c3,c4,c5⟩:=hcells _ _ hlast;have hi1:((f.length:Int) - 1) < (f.length:Int):=by omega
 have hi0:(0:Int)<=(f.length:Int) - 1:=by omega
 have e1:((f.length:Int) - 1).toNat=f.length - 1:=by omega
 have hblk:(ad.add ((f.length - 1)*6)).block < w.heap.size:=by rw [block_of_add];exact hlt
 clear hread hok hcells hlast;obtain⟨nn,hnn⟩:∃nn,nn=lastN f:=⟨_,rfl⟩;rw [<-hnn]at c0 c1 c2 c3 c4 c5;have HA:=Qq (show topA f=bif decide (4<=nn.op)then subN f nn.x else [] by rw [hnn];rfl);have HB:=Qq (show topB f=bif nn.op==13 then subN f nn.y else [] by rw [hnn];rfl);have HN:=Qq hnn;clear hnn;have HX0:=Qq (show Ext w (w.alloc (.cells #[.int .i64 nn.op,.int .i64 nn.i,.int .i64 nn.e,.int .i64 nn.g,.int .i64 nn.x,.int .i64 nn.y] 93))from Qz.alloc _);have HW0:=Qq (show(w.alloc (.cells #[.int .i64 nn.op,.int .i64 nn.i,.int .i64 nn.e,.int .i64 nn.g,.int .i64 nn.x,.int .i64 nn.y] 93)).heap[w.heap.size]?=some (.cells #[.int .i64 nn.op,.int .i64 nn.i,.int .i64 nn.e,.int .i64 nn.g,.int .i64 nn.x,.int .i64 nn.y] 93 (0,0))from heap_alloc_new _ _)
 have hval:nn.val=.agg [.int .i64 nn.op,.int .i64 nn.i,.int .i64 nn.e,.int .i64 nn.g,.int .i64 nn.x,.int .i64 nn.y].toArray:=rfl;have HV:=Qq hval;clear hval;by_cases h4:4<=nn.op
 ·by_cases h13:nn.op=13
  ·have HR1:=Qq (show topA f=subN f nn.x by rw [HA.out,decide_eq_true h4];rfl);have HR2:=Qq (show topB f=subN f nn.y by rw [HB.out,show(nn.op==13)=true by rw [h13];rfl];rfl);have hd:(nn.op==13)=true:=by rw [h13];rfl
   clear h13;go_enter Tryz.func49,Tryz.ntmps49;go_wp2_with fail;refine(sub_any _ f nn.x _ (H.out.ext HX0.out)).mono ?_;rintro e w1 ⟨u1,rfl,hm1⟩;have HM1:=Qq hm1;obtain⟨⟨k0,k1,k2,k3,k4,k5⟩,_,kb⟩:=cells6 ((hm1.ext.block (by simp)).trans HW0.out);clear hm1;go_wp2_with fail;refine(sub_any _ f nn.y _ (H.out.ext (HX0.out.trans HM1.out.ext))).mono ?_;rintro e w2 ⟨u2,rfl,hm2⟩;have HM2:=Qq hm2;have HZ:=Qq (show w2.heap[w.heap.size]?=some (.cells #[.int .i64 nn.op,.int .i64 nn.i,.int .i64 nn.e,.int .i64 nn.g,.int .i64 nn.x,.int .i64 nn.y] 93 (0,0))from(hm2.ext.block (by omega)).trans ((HM1.out.ext.block (by simp)).trans HW0.out))
   obtain⟨⟨q0,q1,q2,q3,q4,q5⟩,qf,qb⟩:=cells6 HZ.out;clear hm2;go_wp2_with fail
   (try simp only [Exit.inBlock,Exit.then])
   rw [show(w2).setCell ⟨w.heap.size,0,none⟩ (.int .i64 nn.op)=w2 from setCell_id HZ.out rfl,show(w2).setCell ⟨w.heap.size,1,none⟩ (.int .i64 nn.i)=w2 from setCell_id HZ.out rfl,show(w2).setCell ⟨w.heap.size,2,none⟩ (.int .i64 nn.e)=w2 from setCell_id HZ.out rfl,show(w2).setCell ⟨w.heap.size,3,none⟩ (.int .i64 nn.g)=w2 from setCell_id HZ.out rfl,show(w2).setCell ⟨w.heap.size,4,none⟩ (.int .i64 nn.x)=w2 from setCell_id HZ.out rfl,show(w2).setCell ⟨w.heap.size,5,none⟩ (.int .i64 nn.y)=w2 from setCell_id HZ.out rfl];refine bodyPost_ret (results_ctt Tryz.results49 _ _ rfl (range_of HZ.out) Tryz.underlying93 rfl (by kernel_rfl)) rfl ?_
   exact⟨u1,u2,by rw [<-HN.out,HV.out] <;> rfl,HX0.out.trans (HM1.out.ext.trans HM2.out.ext),by rw [HR1.out];exact HM1.out.fml.ext HM2.out.ext,by rw [HR2.out];exact HM2.out.fml⟩
  have hd:(nn.op==13)=false:=by simpa using h13
  have HR1:=Qq (show topA f=subN f nn.x by rw [HA.out,decide_eq_true h4];rfl);have HR2:=Qq (show topB f= [] by rw [HB.out,hd];rfl);clear h13;go_enter Tryz.func49,Tryz.ntmps49;go_wp2_with fail;refine(sub_any _ f nn.x _ (H.out.ext HX0.out)).mono ?_;rintro e w2 ⟨u1,rfl,hm1⟩;have HM1:=Qq hm1;have HZ:=Qq (show w2.heap[w.heap.size]?=some (.cells #[.int .i64 nn.op,.int .i64 nn.i,.int .i64 nn.e,.int .i64 nn.g,.int .i64 nn.x,.int .i64 nn.y] 93 (0,0))from(hm1.ext.block (by simp)).trans HW0.out);obtain⟨⟨q0,q1,q2,q3,q4,q5⟩,qf,kb⟩:=cells6 HZ.out;clear hm1;go_wp2_with fail
  (try simp only [Exit.inBlock,Exit.then])
  rw [show(w2).setCell ⟨w.heap.size,0,none⟩ (.int .i64 nn.op)=w2 from setCell_id HZ.out rfl,show(w2).setCell ⟨w.heap.size,1,none⟩ (.int .i64 nn.i)=w2 from setCell_id HZ.out rfl,show(w2).setCell ⟨w.heap.size,2,none⟩ (.int .i64 nn.e)=w2 from setCell_id HZ.out rfl,show(w2).setCell ⟨w.heap.size,3,none⟩ (.int .i64 nn.g)=w2 from setCell_id HZ.out rfl,show(w2).setCell ⟨w.heap.size,4,none⟩ (.int .i64 nn.x)=w2 from setCell_id HZ.out rfl,show(w2).setCell ⟨w.heap.size,5,none⟩ (.int .i64 nn.y)=w2 from setCell_id HZ.out rfl];refine bodyPost_ret (results_ctt Tryz.results49 _ _ rfl (range_of HZ.out) Tryz.underlying93 rfl (by kernel_rfl)) rfl ?_
  exact⟨u1,_,by rw [<-HN.out,HV.out] <;> rfl,HX0.out.trans HM1.out.ext,by rw [HR1.out];exact HM1.out.fml,by rw [HR2.out];exact fml_none _⟩
 have hd:(nn.op==13)=false:=by rw [beq_eq_false_iff_ne];omega
 have HR1:=Qq (show topA f= [] by rw [HA.out,decide_eq_false h4];rfl);have HR2:=Qq (show topB f= [] by rw [HB.out,hd];rfl);go_enter Tryz.func49,Tryz.ntmps49;go_wp2_with fail
 (try simp only [Exit.inBlock,Exit.then])
 refine bodyPost_ret (results_ctt Tryz.results49 _ _ rfl (range_of HW0.out) Tryz.underlying93 rfl (by kernel_rfl)) rfl ?_;exact⟨_,_,by rw [<-HN.out,HV.out] <;> rfl,HX0.out,by rw [HR1.out];exact fml_none _,by rw [HR2.out];exact fml_none _⟩
def unfS(a:Int)(f:List Nd):List Nd:=knowN a (impN (topA f) (andN (topB f) f))
theorem unfolded_any(a:Int)(ha:i64ok a)(v:Value)(f:List Nd)(w:World)(h:Fml w v f)(h0:0 < f.length):
 Calls Tryz.prog 73 #[.int .i64 a,v] w fun e w'=>∃u,e=.returned u/\Made w w' u (unfS a f):=by
 have H:=Qq h;obtain⟨A,c,rfl,_⟩:=fml_slice h;obtain⟨nn,hnn⟩:∃nn,nn=lastN f:=⟨_,rfl⟩;have HN:=Qq hnn;clear h hnn;go_enter Tryz.func73,Tryz.ntmps73;go_wp2_with fail;refine(top_any _ f _ H.out h0).mono ?_;rintro e w1 ⟨u1,u2,rfl,hx1,hf1,hf2⟩;have HX1:=Qq hx1;have HF1:=Qq hf1;have HF2:=Qq hf2;rw [<-HN.out];unfold Nd.val;obtain⟨A1,c1,rfl,_⟩:=fml_slice hf1;obtain⟨A2,c2,rfl,_⟩:=fml_slice hf2;clear hx1 hf1 hf2;go_wp2_with fail;refine(and_any _ _ _ _ _ (HF2.out.ext (Qz.alloc _)) (H.out.ext (HX1.out.alloc _))).mono ?_;rintro e w2 ⟨u3,rfl,hm3⟩;have HM3:=Qq hm3;clear hm3;go_wp2_with fail;refine(imp_any _ _ _ _ _ (HF1.out.ext ((Qz.alloc _).trans HM3.out.ext)) HM3.out.fml).mono ?_
 rintro e w3 ⟨u4,rfl,hm4⟩;have HM4:=Qq hm4;clear hm4;go_wp2_with fail;refine(know_any a ha _ _ _ HM4.out.fml).mono ?_;rintro e w4 ⟨u5,rfl,hm5⟩;have HM5:=Qq hm5;clear hm5;go_wp2_with fail;go_ret;exact⟨_,rfl,HM5.out.before ((HX1.out.alloc _).trans (HM3.out.ext.trans HM4.out.ext))⟩
theorem index1_any(B:Nat)(u gv:Value)(s g:List Nd)(w:World)(hs:Nds w u s)(hB:w.cell? ⟨B,0,none⟩=some gv)(hg:Nds w gv g):
 Calls Tryz.prog 130 (#[u]++ #[.pointer (some ⟨B,0,none⟩)]) w fun e w'=>e=.returned (.bool (decide (s=g)))/\Ext w w':=by
 have HS:=Qq hs;have HG:=Qq hg;obtain⟨A,c,rfl,_⟩:=hs;obtain⟨A2,c2,rfl,_⟩:=hg;have HE:=Qq (show decide (s=g)=decide (g=s) by rw [decide_eq_decide];exact eq_comm);show Calls Tryz.prog 130 #[.slice A s.length c,.pointer (some ⟨B,0,none⟩)] w _;go_enter Tryz.func130,Tryz.ntmps130;go_wp2_with(go_at_call 131;refine(equalN_any _ _ g s _ (by exact HG.out.ext (by repeat(first|exact Qz|assumption|apply Ext.alloc|apply Ext.drew))) (by exact HS.out.ext (by repeat(first|exact Qz|assumption|apply Ext.alloc|apply Ext.drew)))).mono ?_;rintro e w1 ⟨rfl,hx⟩);go_ret;exact⟨by rw [HE.out] <;> rfl,by first|exact hx|exact Ext.trans (by repeat(first|exact Qz|assumption|apply Ext.alloc|apply Ext.drew)) hx⟩
theorem index_any(v gv:Value)(l:List (List Nd))(g:List Nd)(w:World)(hl:Fmls w v l)(hg:Fml w gv g):
 Calls Tryz.prog 72 #[v,gv] w fun e w'=>e=.returned (.int .i64 (placeN l g))/\Ext w w':=by
 have HL:=Qq hl;have HG:=Qq hg;obtain⟨A,c,rfl,_⟩:=hl;obtain⟨A2,c2,rfl,_⟩:=fml_slice hg;clear hg;go_enter Tryz.func72,Tryz.ntmps72;go_wp2_with fail;refine(indexF_any 130 _ (fun _ _=>rfl) (fun s=>decide (s=g)) _ l _ (HL.out.ext (by repeat(first|exact Qz|assumption|apply Ext.alloc|apply Ext.drew))) (fun W u s hx hs=>index1_any w.heap.size u _ s g W hs.1 ((hx.cell (p:=⟨w.heap.size,0,none⟩) (by simp)).trans (by simp)) (HG.out.1.ext ((Qz.alloc _).trans hx)))).mono ?_;rintro e w1 ⟨rfl,hx⟩;have HX:=Qq hx;clear hx;go_wp2_with fail;go_ret;exact⟨rfl,(Qz.alloc _).trans HX.out⟩
theorem FRow.before {w0 w w':World} {vo:Value} {out:List (List Nd)}(h:FRow w w' vo out)(he:Ext w0 w):FRow w0 w' vo out:=by
 obtain⟨us,hr,hu⟩:=h.row;refine⟨he.trans h.ext,us,row_base hr he.size,fun k s hk=> ?_⟩;obtain⟨u,a,b,c⟩:=hu k s hk;exact⟨u,a,b,fun g hg=>⟨(c g hg).1,(c g hg).2.1,Qx he.size (c g hg).2.2⟩⟩
theorem FRow.get {w0 w:World} {g cap:Nat} {out:List (List Nd)}(h:FRow w0 w (.slice (some ⟨g,0,none⟩) out.length cap) out) {k:Nat} {s:List Nd}(hk:out[k]?=some s):∃u,w.cell? ⟨g,k,none⟩=some u/\Fml w u s/\g < w.heap.size:=by
 obtain⟨us,hr,hu⟩:=h.row;have h0:0 < out.length:=Nat.lt_of_le_of_lt (Nat.zero_le k) (List.getElem?_eq_some_iff.1 hk).1;obtain⟨g',cap',e,hg,_,_,hc⟩:=row1_cellsF hr h0;injection e with e1 _ _;injection e1 with e1;injection e1 with e1;subst e1;obtain⟨u,a,b,_⟩:=hu k s hk;exact⟨u,hc k u a,b,hg⟩
theorem FRow.slice {w0 w:World} {v:Value} {out:List (List Nd)}(h:FRow w0 w v out)(h0:0 < out.length):∃g cap,v=.slice (some ⟨g,0,none⟩) out.length cap/\out.length<=cap/\cap<=maxLen:=by
 obtain⟨us,hr,hu⟩:=h.row;obtain⟨g',cap',e,hg,h1,h2,hc⟩:=row1_cellsF hr h0;exact⟨g',cap',e,h1,h2⟩
theorem group_of {n:Nd}(h:headOk n)(hk:n.op=11\/n.op=13):0<=n.g/\n.g < 16:=by
 obtain⟨_,_,h3,_,_⟩:=h;unfold rangeBad at h3;rcases hk with ho|ho <;>(rw [ho]at h3;simp [outsideB,hasFact,hasAgent,hasEvent,hasGroup]at h3;omega)
theorem range_step'(base:List Nd)(k:Nat):(List.range (k+1)).map (fun(i:Nat)=>subN base i)=(List.range k).map (fun(i:Nat)=>subN base i)++ [subN base k]:=by
 rw [List.range_succ,List.map_append];rfl
theorem subs_any(v:Value)(f:List Nd)(w:World)(h:Fml w v f)(hc:check f=0):
 Calls Tryz.prog 124 #[v] w fun e w'=>∃u,e=.returned u/\FRow w w' u (subsN f):=by
 have H:=Qq h;obtain⟨iI,hiI,hzI0,hzI1,hzI2⟩:=info_parts tInfoF2;obtain⟨A,c,rfl,_⟩:=fml_slice h;have hp:=compactN_props hc;obtain⟨base,hbase⟩:∃b,b=compactN f:=⟨_,rfl⟩;have hcb:check base=0:=hbase▸compactN_check hc;have hlen:base.length<=200:=hbase▸Qx hp.2.1 (check_parts hc).2.1;have HB:=Qq (show subsN f=formulasN base by rw [hbase];rfl);have HBB:=Qq hbase;have HCB:=Qq hcb;clear h hp hbase hcb hc;go_enter Tryz.func124,Tryz.ntmps124;go_wp2_with fail;refine(compactF_any _ f _ H.out).mono ?_;rintro e w0 ⟨uc,rfl,hm0⟩;rw [<-HBB.out]at hm0;have HM0:=Qq hm0;obtain⟨Ac,cc,rfl,hat⟩:=fml_slice hm0.fml;have HAT:=Qq hat
 clear hm0 hat;go_wp2_with fail;go_loopw [3,10] (fun vo vi wr=>∃k:Nat,vi=.int .i64 (k:Int)/\k<=base.length/\Hid (∃out,out=(List.range k).map (fun(i:Nat)=>subN base i)/\FRow w0 wr vo out)) (fun _ v _=>base.length - (intOf v).toNat)
 case atStart=>exact⟨0,rfl,Nat.zero_le _,Qq ⟨[],rfl,FRow.nil _⟩⟩
 case round =>
  obtain⟨k,rfl,hk,HREL⟩:=hrel;obtain⟨out,ho,hfr⟩:=HREL.out;obtain⟨us,hrow,hus⟩:=hfr.row;obtain⟨Ao,co,rfl⟩:=slice_of_row hrow;have HO:=Qq ho;have HFR:=Qq hfr;have HROW:=Qq hrow;have HUS:=Qq hus;have hol:out.length<=1000:=by rw [ho];simp;omega
  clear HREL ho hfr hrow hus;by_cases hlt2:k < base.length
  ·have hk1:(k:Int) < (base.length:Int):=by omega
   have hc3:out.length+1<=maxLen:=by unfold maxLen;omega
   have hc4:(out.length+1)*24<=140737488355328:=by omega
   have HSB:=Qq (show subN base (k:Int)=(finN base k []).1 by
    unfold subN;rw [HCB.out,show(decide ((k:Int) < 0)||decide ((base.length:Int)<=(k:Int)))=false by simp;omega]
    rfl)
   go_wp2_with fail;refine(compact_any base _ _ k _ (check_wf HCB.out) HM0.out.2.1 (by omega) hlt2 (HAT.out.ext HFR.out.ext)).mono ?_;rintro e w1 ⟨u,rfl,hrowc,hoks,hext⟩;have hm:Made wr w1 u (subN base (k:Int)):=by rw [HSB.out];exact⟨hrowc,hoks,hext⟩
   have X1:=Qq (HFR.out.ext.trans hm.2.2);have Y1:=Qq hm.2.2;have HM:=Qq hm;obtain⟨Au,cu,rfl,_⟩:=fml_slice hm.fml;clear hm hrowc hoks hext;go_wp2_with(at_builtin;refine wpList_append_own_at _ rfl _ _ 49 rfl w0.heap.size 22 iI (.slice none 0 0) 1 24 Tryz.underlying49 hiI hzI0 hzI1 hzI2 rfl (by decide) _ out.length us rfl (row_ext HROW.out (Y1.out.alloc _)) ⟨_,0,none⟩ 1 1 [.slice Au (subN base (k:Int)).length cu] rfl rfl (row_new_at _ _ _ (by simp)) (fun u hu=>by rw [List.mem_singleton.1 hu];rfl) hc3 hc4 (Qx HFR.out.ext.size (Y1.out.alloc _).size) ?_);intro v7 w7 hown7 hgrow7 _ hat7;have HPS:=Qq (FRow.push (s:=subN base (k:Int)) (X1.out.alloc _) (row_ext HROW.out (Y1.out.alloc _)) (fun k s hk=>by
    obtain⟨u,a,b,c⟩:=HUS.out k s hk;exact⟨u,a,b.ext (Y1.out.alloc _),c.ext (Y1.out.alloc _)⟩) hown7 hgrow7 (hat7.imp id (fun e=>e.trans (by simp))) (HM.out.fml.ext (Qz.alloc _)) (made_away (Nat.le_refl _) (row_ext HM.out.1 (Qz.alloc _)) HROW.out HFR.out.ext.size))
   obtain⟨A7,c7,rfl⟩:=slice_of_row hown7;clear hown7 hgrow7 hat7;go_wp2_with fail;go_roundw
   case rel=>exact⟨k+1,by go_num,by omega,Qq ⟨_,by rw [range_step',<-HO.out],HPS.out⟩⟩
   case measure=>simp [intOf];omega
  obtain rfl:base.length=k:=by omega
  go_wp2_with fail;go_ret;exact⟨_,rfl,by rw [HB.out,show formulasN base=out from HO.out.symm];exact HFR.out.before HM0.out.ext⟩
end Go.Proofs.YtbfeodammikajaaGreat
