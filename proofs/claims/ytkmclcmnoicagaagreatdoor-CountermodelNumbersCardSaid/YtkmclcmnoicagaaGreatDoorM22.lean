/- types' possible: the walk. -/
import Derived.Test.YtkmclcmnoicagaaGreatDoorM01
import Derived.Test.YtkmclcmnoicagaaGreatDoorM20
import Derived.Test.YtkmclcmnoicagaaGreatDoorM09
import Derived.Test.YtkmclcmnoicagaaGreatDoorM17
import Derived.Deep.DeepCutAuto
import Derived.Deep.CutBlock
import Derived.Deep.RegionHeld3
namespace Go.Proofs.YtkmclcmnoicagaaGreatDoor
set_option maxRecDepth 100000
set_option maxHeartbeats 128000000
open Go.RowKit
theorem Qwb {lg:Int} {ks:List Kn} {a:Int} {t u k:Nat} {n:Kn}(hn:ks[k]?=some n)(h:(n.agent !=a||Ve lg (t.testBit n.place) (n.holds.getD u false) (u.testBit n.place))=false):Ze lg ks a t u=false:=by
 unfold Ze;rw [List.all_eq_false];exact⟨n,List.mem_of_getElem? hn,by rw [h];simp⟩
theorem Qwf {lg:Int} {ks:List Kn} {a:Int} {t u:Nat}(h:∀j n,j < ks.length->ks[j]?=some n->(n.agent !=a||Ve lg (t.testBit n.place) (n.holds.getD u false) (u.testBit n.place))=true):Ze lg ks a t u=true:=by
 unfold Ze;rw [List.all_eq_true];intro n hn;obtain⟨j,hj,e⟩:=List.getElem_of_mem hn;exact h j n hj (by rw [Qv hj,e])
theorem Qro {lg:Int} {a b c:Bool}(h:lg=0\/lg=1\/lg=2):Ve lg a b c=(!a||b):=by
 rcases h with rfl|rfl|rfl <;> rfl
theorem Zzx {lg:Int} {a b c:Bool}(h:lg=3):Ve lg a b c=(!a||(b&&c)):=by subst h;rfl
theorem Zzg {lg:Int} {a b c:Bool}(h:lg=4):Ve lg a b c=(!a||c):=by subst h;rfl
theorem Zzb {lg:Int} {a b c:Bool}(h:lg=6):Ve lg a b c=(a==c):=by subst h;rfl
theorem Zzf {lg:Int} {a b c:Bool}(h:lg=5):Ve lg a b c=((a==c)&&(!a||b)):=by subst h;rfl
theorem Id {w:World} {A:Option Addr} {c:Nat} {l:List Kn}(h:Qqs w A c l) {k:Nat} {n:Kn}(hk:l[k]?=some n):∃ad,A=some ad/\ad.block < w.heap.size/\Qgc w (ad.add (k*3)) n:=by
 obtain⟨ad,e,hb,hc⟩:=h.2.2 (by intro e;rw [e]at hk;simp at hk);exact⟨ad,e,hb,hc k n hk⟩
theorem Qv4 {w:World} {b:Nat} {a0 a1 a2:Value} {t:TypeId}(h:w.heap[b]?=some (.cells #[a0,a1,a2] t (0,0))):
 w.cell? ⟨b,0,none⟩=some a0/\w.cell? ⟨b,1,none⟩=some a1/\w.cell? ⟨b,2,none⟩=some a2/\b < w.heap.size :=
 ⟨by simp [World.cell?,h],by simp [World.cell?,h],by simp [World.cell?,h],Qf h⟩
theorem Sl(b:Nat)(lg:Int)(base:List (List Nd))(root:List Bool)(ks:List Kn)(cs:List Cm)(alive:List Bool)(a:Int)(t u:Nat)(w:World)
 (hE:Eng w b lg base root ks cs alive)(hlg:0<=lg/\lg<=6)(ht:t < 18446744073709551616)(hu:u < 18446744073709551616)(hks:∀k∈ks,k.place < 64/\u < k.holds.length):
 Calls Tryz.prog 70 #[.pointer (some ⟨b,0,none⟩),.int .i64 a,.int .u64 (t:Int),.int .u64 (u:Int)] w fun e w'=>e=.returned (.bool (Ze lg ks a t u))/\Ext w w':=by
 obtain⟨Ab,cb,Ar,cr,Ak,ck,Ac,cc,Aa,ca,d0,d1,d2,d3,d4,d5,hbl,_,_,hkn,_,_⟩:=hE.cells;have HK:=Qq hkn;have hkc:=hkn.1;have hck:=hkn.2.1;unfold maxLen at hck;have HKS:=Qq hks;have D0:=Qq d0;clear hE hkn hks d1 d2 d4 d5 d0;go_enter Tryz.func70,Tryz.ntmps70;go_wp2_with fail;clear d3;go_loopw [19] (fun v wr=>∃k:Nat,v=.int .i64 (k:Int)/\k<=ks.length/\Hid (Ext w wr/\∀j n,j < k->ks[j]?=some n->(n.agent !=a||Ve lg (t.testBit n.place) (n.holds.getD u false) (u.testBit n.place))=true)) (fun v _=>ks.length - (intOf v).toNat)
 case atStart=>exact⟨0,rfl,Nat.zero_le _,Qq ⟨Qz,fun j n hj=>absurd hj (by omega)⟩⟩
 case round =>
  obtain⟨k,rfl,hk,HREL⟩:=hrel;have HX:=Qq HREL.out.1;have HJ:=Qq HREL.out.2;clear HREL;by_cases hlt2:k < ks.length
  ·have hk1:(k:Int) < (ks.length:Int):=by omega
   obtain⟨n,hn⟩:∃n,ks[k]?=some n:=⟨_,Qv hlt2⟩;obtain⟨hpl,hhl⟩:=HKS.out n (List.mem_of_getElem? hn);obtain⟨ad,rfl,hblk,hat⟩:=Id HK.out hn;obtain⟨vh,c0,c1,c2,hbo⟩:=hat.ext HX.out (Qj hblk);obtain⟨Ah,ch,rfl,hbo⟩:=hbo;have hhc:=hbo.1;have hch:=hbo.2.1;unfold maxLen at hch;obtain⟨ah,rfl,hhb,hcell⟩:=Kz hbo hhl;have hblk2:(ad.add (k*3)).block < wr.heap.size:=by rw [Qc];exact Qy hblk HX.out.size
   have hhb2:(ah.add u).block < wr.heap.size:=by rw [Qc];exact hhb
   have hlen1:(u:Int) < (n.holds.length:Int):=by omega
   have hcell':=hcell;have dl0:=(HX.out.cell (p:=⟨b,0,none⟩) hbl).trans D0.out;have hbl2:b < wr.heap.size:=Qy hbl HX.out.size;have HN:=Qq hn;have HNEXT:=Qq (show ∀c:Bool,(n.agent !=a||Ve lg (t.testBit n.place) (n.holds.getD u false) (u.testBit n.place))=c->c=true->∀j m,j < k+1->ks[j]?=some m->(m.agent !=a||Ve lg (t.testBit m.place) (m.holds.getD u false) (u.testBit m.place))=true from fun c hc ht j m hj hm=>by
    by_cases e:j < k
    ·exact HJ.out j m e hm
    have:j=k:=by omega
    subst this;rw [hn]at hm;injection hm with hm;rw [<-hm,hc,ht])
   have hb1:=Bn t n.place ht;have hb2:=Bn u n.place hu;obtain⟨ph,hph⟩:∃x,x=n.holds.getD u false:=⟨_,rfl⟩;obtain⟨p1,hp1⟩:∃x,x=t.testBit n.place:=⟨_,rfl⟩;obtain⟨p2,hp2⟩:∃x,x=u.testBit n.place:=⟨_,rfl⟩;have HPH:=Qq (show(n.agent !=a||Ve lg (t.testBit n.place) (n.holds.getD u false) (u.testBit n.place))=(n.agent !=a||Ve lg p1 ph p2) by rw [hph,hp1,hp2]);rw [<-hph]at hcell;rw [<-hp1]at hb1;rw [<-hp2]at hb2;clear hn hat hbo hcell' hph hp1 hp2;obtain⟨wq,hwq⟩:∃v,v=wr:=⟨_,rfl⟩;subst hwq;cases hag:n.agent !=a
   case true =>
    have HAG:=Qq hag;go_wp2_with fail;go_roundw
    case rel=>exact⟨k+1,by go_num,by omega,Qq ⟨HX.out.trans (Qz.alloc _),HNEXT.out true (by rw [HPH.out,HAG.out];rfl) rfl⟩⟩
    case measure=>simp [intOf];omega
   case false =>
    have HAG:=Qq hag;go_upto_region 5 with(fail);obtain⟨e0,e1,e2,eb⟩:=Qv4 (show(wq.alloc (.cells #[.int .i64 n.agent,.int .i64 (n.place:Int),.slice (some ah) n.holds.length ch] 136)).heap[wq.heap.size]?=some (.cells #[.int .i64 n.agent,.int .i64 (n.place:Int),.slice (some ah) n.holds.length ch] 136 (0,0))from heap_alloc_new _ _);refine wp_region_held_drew (S:=fun w'=>w'.cell? (⟨wq.heap.size,1,none⟩)=some (.int .i64 (n.place:Int))) (by kernel_rfl) (xc eb e1) (fun hHeld=> ?_);refine tk 0 hHeld ?_;refine tk 1 hHeld ?_;refine tk 2 hHeld ?_;refine tk 3 hHeld ?_;refine tk 4 hHeld ?_;refine tk 5 hHeld ?_
    refine tk 6 hHeld ?_;refine tk 7 hHeld ?_;refine tk 8 hHeld ?_;refine tk 9 hHeld ?_;refine tk 10 hHeld ?_;refine tk 11 hHeld ?_;refine tk 12 hHeld ?_;refine tk 13 hHeld ?_;refine wpAnyH_done (by kernel_rfl) ?_ _;have hx0:Ext wq (wq.alloc (.cells #[.int .i64 n.agent,.int .i64 (n.place:Int),.slice (some ah) n.holds.length ch] 136)).drew:=(Qz.alloc _).drew;obtain⟨W0,hW0⟩:∃v,v=(wq.alloc (.cells #[.int .i64 n.agent,.int .i64 (n.place:Int),.slice (some ah) n.holds.length ch] 136)).drew:=⟨_,rfl⟩;have f2:W0.cell? ⟨wq.heap.size,2,none⟩=some (.slice (some ah) n.holds.length ch):=by rw [hW0];exact e2
    have fb:wq.heap.size < W0.heap.size:=by rw [hW0];exact eb
    rw [<-hW0]at hx0⊢;have f0:=(hx0.cell (p:=⟨b,0,none⟩) hbl2).trans dl0;have fc:=(hx0.cell (p:=ah.add u) hhb2).trans hcell;have HX0:=Qq hx0;clear hW0 hx0 e0 e1 e2 eb hcell dl0 hb1 hb2 c0 c1 c2;go_upto_block 2 with(fail);go_cut [13] (fun s13 wx=>s13=.bool (Ve lg p1 ph p2)/\wx=W0)
    case first =>
     have hcx:lg=0\/lg=1\/lg=2\/lg=3\/lg=4\/lg=5\/lg=6:=by omega
     rcases hcx with hl|hl|hl|hl|hl|hl|hl
     ·have HCD:=Qq (show Ve lg p1 ph p2=_ from Qro (.inl hl));have t0:(lg==0)=true:=by rw [hl];rfl
      have t1:(lg==1)=false:=by rw [hl];rfl
      have t2:(lg==2)=false:=by rw [hl];rfl
      have t3:(lg==3)=false:=by rw [hl];rfl
      have t4:(lg==4)=false:=by rw [hl];rfl
      have t6:(lg==6)=false:=by rw [hl];rfl
      have t5:(lg==5)=false:=by rw [hl];rfl
      clear hl;cases p1 <;> cases ph <;> cases p2
      all_goals
       go_wp2_with fail;go_meet;exact⟨by rw [HCD.out] <;> rfl,by first|rfl|trivial⟩
     ·have HCD:=Qq (show Ve lg p1 ph p2=_ from Qro (.inr (.inl hl)));have t0:(lg==0)=false:=by rw [hl];rfl
      have t1:(lg==1)=true:=by rw [hl];rfl
      have t2:(lg==2)=false:=by rw [hl];rfl
      have t3:(lg==3)=false:=by rw [hl];rfl
      have t4:(lg==4)=false:=by rw [hl];rfl
      have t6:(lg==6)=false:=by rw [hl];rfl
      have t5:(lg==5)=false:=by rw [hl];rfl
      clear hl;cases p1 <;> cases ph <;> cases p2
      all_goals
       go_wp2_with fail;go_meet;exact⟨by rw [HCD.out] <;> rfl,by first|rfl|trivial⟩
     ·have HCD:=Qq (show Ve lg p1 ph p2=_ from Qro (.inr (.inr hl)));have t0:(lg==0)=false:=by rw [hl];rfl
      have t1:(lg==1)=false:=by rw [hl];rfl
      have t2:(lg==2)=true:=by rw [hl];rfl
      have t3:(lg==3)=false:=by rw [hl];rfl
      have t4:(lg==4)=false:=by rw [hl];rfl
      have t6:(lg==6)=false:=by rw [hl];rfl
      have t5:(lg==5)=false:=by rw [hl];rfl
      clear hl;cases p1 <;> cases ph <;> cases p2
      all_goals
       go_wp2_with fail;go_meet;exact⟨by rw [HCD.out] <;> rfl,by first|rfl|trivial⟩
     ·have HCD:=Qq (show Ve lg p1 ph p2=_ from Zzx hl);have t0:(lg==0)=false:=by rw [hl];rfl
      have t1:(lg==1)=false:=by rw [hl];rfl
      have t2:(lg==2)=false:=by rw [hl];rfl
      have t3:(lg==3)=true:=by rw [hl];rfl
      have t4:(lg==4)=false:=by rw [hl];rfl
      have t6:(lg==6)=false:=by rw [hl];rfl
      have t5:(lg==5)=false:=by rw [hl];rfl
      clear hl;cases p1 <;> cases ph <;> cases p2
      all_goals
       go_wp2_with fail;go_meet;exact⟨by rw [HCD.out] <;> rfl,by first|rfl|trivial⟩
     ·have HCD:=Qq (show Ve lg p1 ph p2=_ from Zzg hl);have t0:(lg==0)=false:=by rw [hl];rfl
      have t1:(lg==1)=false:=by rw [hl];rfl
      have t2:(lg==2)=false:=by rw [hl];rfl
      have t3:(lg==3)=false:=by rw [hl];rfl
      have t4:(lg==4)=true:=by rw [hl];rfl
      have t6:(lg==6)=false:=by rw [hl];rfl
      have t5:(lg==5)=false:=by rw [hl];rfl
      clear hl;cases p1 <;> cases ph <;> cases p2
      all_goals
       go_wp2_with fail;go_meet;exact⟨by rw [HCD.out] <;> rfl,by first|rfl|trivial⟩
     ·have HCD:=Qq (show Ve lg p1 ph p2=_ from Zzf hl);have t0:(lg==0)=false:=by rw [hl];rfl
      have t1:(lg==1)=false:=by rw [hl];rfl
      have t2:(lg==2)=false:=by rw [hl];rfl
      have t3:(lg==3)=false:=by rw [hl];rfl
      have t4:(lg==4)=false:=by rw [hl];rfl
      have t6:(lg==6)=false:=by rw [hl];rfl
      have t5:(lg==5)=true:=by rw [hl];rfl
      clear hl;cases p1 <;> cases ph <;> cases p2
      all_goals
       go_wp2_with fail;go_meet;exact⟨by rw [HCD.out] <;> rfl,by first|rfl|trivial⟩
     have HCD:=Qq (show Ve lg p1 ph p2=_ from Zzb hl);have t0:(lg==0)=false:=by rw [hl];rfl
     have t1:(lg==1)=false:=by rw [hl];rfl
     have t2:(lg==2)=false:=by rw [hl];rfl
     have t3:(lg==3)=false:=by rw [hl];rfl
     have t4:(lg==4)=false:=by rw [hl];rfl
     have t6:(lg==6)=true:=by rw [hl];rfl
     have t5:(lg==5)=false:=by rw [hl];rfl
     clear hl;cases p1 <;> cases ph <;> cases p2
     all_goals
      go_wp2_with fail;go_meet;exact⟨by rw [HCD.out] <;> rfl,by first|rfl|trivial⟩
    case rest =>
     obtain⟨rfl,rfl⟩:=hcut;cases hcd:Ve lg p1 ph p2
     case true =>
      have HCD:=Qq hcd;clear hcd;go_wp2_with fail;go_roundw
      case rel=>exact⟨k+1,by go_num,by omega,Qq ⟨HX.out.trans HX0.out,HNEXT.out true (by rw [HPH.out,HAG.out,HCD.out];rfl) rfl⟩⟩
      case measure=>simp [intOf];omega
     case false =>
      have HE:=Qq (show Ze lg ks a t u=false from Qwb HN.out (by rw [HPH.out,HAG.out,hcd];rfl));clear hcd;go_wp2_with fail;go_ret;exact⟨by rw [HE.out] <;> rfl,HX.out.trans HX0.out⟩
  obtain rfl:ks.length=k:=by omega
  have HE:=Qq (show Ze lg ks a t u=true from Qwf (fun j n hj=>HJ.out j n hj));go_wp2_with fail;go_ret;exact⟨by rw [HE.out] <;> rfl,HX.out⟩
end Go.Proofs.YtkmclcmnoicagaaGreatDoor
