/- types' possible: the walk. -/
import Derived.Deep.CutBlock
import Derived.Deep.RegionHeld3
import Derived.Lib.Strings
import Derived.Lib.Slices
import Derived.Lib.Small
import Derived.Lib.Walk
import Derived.Lib.BitFns
import Derived.Test.YtkmclcmnoicagaaGreatDoorT29
namespace Go.Proofs.YtkmclcmnoicagaaGreatDoor
set_option maxRecDepth 100000
set_option maxHeartbeats 128000000
open Go.RowKit
theorem Qe4 {lg:Int} {ks:List Kn} {a:Int} {t u k:Nat} {n:Kn}(hn:ks[k]?=some n)(h:(n.agent !=a||Vs lg (t.testBit n.place) (n.holds.getD u false) (u.testBit n.place))=false):Ze lg ks a t u=false:=by
 unfold Ze;rw [List.all_eq_false];exact⟨n,List.mem_of_getElem? hn,by rw [h];simp⟩
theorem Qe3 {lg:Int} {ks:List Kn} {a:Int} {t u:Nat}(h:∀j n,j < ks.length->ks[j]?=some n->(n.agent !=a||Vs lg (t.testBit n.place) (n.holds.getD u false) (u.testBit n.place))=true):Ze lg ks a t u=true:=by
 unfold Ze;rw [List.all_eq_true];intro n hn;obtain⟨j,hj,e⟩:=List.getElem_of_mem hn;exact h j n hj (by rw [Qv hj,e])
theorem Qn8 {lg:Int} {a b c:Bool}(h:lg=0\/lg=1\/lg=2):Vs lg a b c=(!a||b):=by
 rcases h with rfl|rfl|rfl <;> rfl
theorem Zqt {lg:Int} {a b c:Bool}(h:lg=3):Vs lg a b c=(!a||(b&&c)):=by subst h;rfl
theorem Zql {lg:Int} {a b c:Bool}(h:lg=4):Vs lg a b c=(!a||c):=by subst h;rfl
theorem Zqp {lg:Int} {a b c:Bool}(h:lg=6):Vs lg a b c=(a==c):=by subst h;rfl
theorem Zqm {lg:Int} {a b c:Bool}(h:lg=5):Vs lg a b c=((a==c)&&(!a||b)):=by subst h;rfl
theorem Wo {w:World} {A:Option Addr} {c:Nat} {l:List Kn}(h:Id w A c l) {k:Nat} {n:Kn}(hk:l[k]?=some n):∃ad,A=some ad/\ad.block < w.heap.size/\Qxe w (ad.add (k*3)) n:=by
 obtain⟨ad,e,hb,hc⟩:=h.2.2 (by intro e;rw [e]at hk;simp at hk);exact⟨ad,e,hb,hc k n hk⟩
theorem Qvy {w:World} {b:Nat} {a0 a1 a2:Value} {t:TypeId}(h:w.heap[b]?=some (.cells #[a0,a1,a2] t (0,0))):
 w.cell? ⟨b,0,none⟩=some a0/\w.cell? ⟨b,1,none⟩=some a1/\w.cell? ⟨b,2,none⟩=some a2/\b < w.heap.size :=
 ⟨by simp [World.cell?,h],by simp [World.cell?,h],by simp [World.cell?,h],Qm h⟩
theorem Sk(b:Nat)(lg:Int)(base:List (List Nd))(root:List Bool)(ks:List Kn)(cs:List Cm)(alive:List Bool)(a:Int)(t u:Nat)(w:World)
 (hE:Eng w b lg base root ks cs alive)(hlg:0<=lg/\lg<=6)(ht:t < 18446744073709551616)(hu:u < 18446744073709551616)(hks:∀k∈ks,k.place < 64/\u < k.holds.length):
 Calls Tryz.prog 70 #[.pointer (some ⟨b,0,none⟩),.int .i64 a,.int .u64 (t:Int),.int .u64 (u:Int)] w fun e w'=>e=.returned (.bool (Ze lg ks a t u))/\Ext w w':=by
 obtain⟨Ab,cb,Ar,cr,Ak,ck,Ac,cc,Aa,ca,d0,d1,d2,d3,d4,d5,hbl,_,_,hkn,_,_⟩:=hE.cells;have HK:=Qq hkn;have hkc:=hkn.1;have hck:=hkn.2.1;unfold maxLen at hck;have HKS:=Qq hks;have D0:=Qq d0;clear hE hkn hks d1 d2 d4 d5 d0;go_enter Tryz.func70,Tryz.ntmps70;go_wp2_with fail;clear d3;go_loopw [19] (fun v wr=>∃k:Nat,v=.int .i64 (k:Int)/\k<=ks.length/\Hid (Ext w wr/\∀j n,j < k->ks[j]?=some n->(n.agent !=a||Vs lg (t.testBit n.place) (n.holds.getD u false) (u.testBit n.place))=true)) (fun v _=>ks.length - (intOf v).toNat)
 case atStart=>exact⟨0,rfl,Nat.zero_le _,Qq ⟨Qz,fun j n hj=>absurd hj (by omega)⟩⟩
 case round =>
  obtain⟨k,rfl,hk,HREL⟩:=hrel;have HX:=Qq HREL.out.1;have HJ:=Qq HREL.out.2;clear HREL;by_cases hlt2:k < ks.length
  ·have hk1:(k:Int) < (ks.length:Int):=by omega
   obtain⟨n,hn⟩:∃n,ks[k]?=some n:=⟨_,Qv hlt2⟩;obtain⟨hpl,hhl⟩:=HKS.out n (List.mem_of_getElem? hn);obtain⟨ad,rfl,hblk,hat⟩:=Wo HK.out hn;obtain⟨vh,c0,c1,c2,hbo⟩:=hat.ext HX.out (Qj hblk);obtain⟨Ah,ch,rfl,hbo⟩:=hbo;have hhc:=hbo.1;have hch:=hbo.2.1;unfold maxLen at hch;obtain⟨ah,rfl,hhb,hcell⟩:=Vh hbo hhl;have hblk2:(ad.add (k*3)).block < wr.heap.size:=by rw [Qp];exact Qy hblk HX.out.size
   have hhb2:(ah.add u).block < wr.heap.size:=by rw [Qp];exact hhb
   have hlen1:(u:Int) < (n.holds.length:Int):=by omega
   have hcell':=hcell;have dl0:=(HX.out.cell (p:=⟨b,0,none⟩) hbl).trans D0.out;have hbl2:b < wr.heap.size:=Qy hbl HX.out.size;have HN:=Qq hn;have HNEXT:=Qq (show ∀c:Bool,(n.agent !=a||Vs lg (t.testBit n.place) (n.holds.getD u false) (u.testBit n.place))=c->c=true->∀j m,j < k+1->ks[j]?=some m->(m.agent !=a||Vs lg (t.testBit m.place) (m.holds.getD u false) (u.testBit m.place))=true from fun c hc ht j m hj hm=>by
    by_cases e:j < k
    ·exact HJ.out j m e hm
    have:j=k:=by omega
    subst this;rw [hn]at hm;injection hm with hm;rw [<-hm,hc,ht])
   have hb1:=Bt t n.place ht;have hb2:=Bt u n.place hu;obtain⟨ph,hph⟩:∃x,x=n.holds.getD u false:=⟨_,rfl⟩;obtain⟨p1,hp1⟩:∃x,x=t.testBit n.place:=⟨_,rfl⟩;obtain⟨p2,hp2⟩:∃x,x=u.testBit n.place:=⟨_,rfl⟩;have HPH:=Qq (show(n.agent !=a||Vs lg (t.testBit n.place) (n.holds.getD u false) (u.testBit n.place))=(n.agent !=a||Vs lg p1 ph p2) by rw [hph,hp1,hp2]);rw [<-hph]at hcell;rw [<-hp1]at hb1;rw [<-hp2]at hb2;clear hn hat hbo hcell' hph hp1 hp2;obtain⟨wq,hwq⟩:∃v,v=wr:=⟨_,rfl⟩;subst hwq;cases hag:n.agent !=a
   case true =>
    have HAG:=Qq hag;go_wp2_with fail;go_roundw
    case rel=>exact⟨k+1,by go_num,by omega,Qq ⟨HX.out.trans (Qz.alloc _),HNEXT.out true (by rw [HPH.out,HAG.out];rfl) rfl⟩⟩
    case measure=>simp [intOf];omega
   case false =>
    have HAG:=Qq hag;go_upto_region 5 with(fail);obtain⟨e0,e1,e2,eb⟩:=Qvy (show(wq.alloc (.cells #[.int .i64 n.agent,.int .i64 (n.place:Int),.slice (some ah) n.holds.length ch] 136)).heap[wq.heap.size]?=some (.cells #[.int .i64 n.agent,.int .i64 (n.place:Int),.slice (some ah) n.holds.length ch] 136 (0,0))from heap_alloc_new _ _);refine wp_region_held_drew (S:=fun w'=>w'.cell? (⟨wq.heap.size,1,none⟩)=some (.int .i64 (n.place:Int))) (by kernel_rfl) (xc eb e1) (fun hHeld=> ?_);refine tk 0 hHeld ?_;refine tk 1 hHeld ?_;refine tk 2 hHeld ?_;refine tk 3 hHeld ?_;refine tk 4 hHeld ?_;refine tk 5 hHeld ?_
    refine tk 6 hHeld ?_;refine tk 7 hHeld ?_;refine tk 8 hHeld ?_;refine tk 9 hHeld ?_;refine tk 10 hHeld ?_;refine tk 11 hHeld ?_;refine tk 12 hHeld ?_;refine tk 13 hHeld ?_;refine wpAnyH_done (by kernel_rfl) ?_ _;have hx0:Ext wq (wq.alloc (.cells #[.int .i64 n.agent,.int .i64 (n.place:Int),.slice (some ah) n.holds.length ch] 136)).drew:=(Qz.alloc _).drew;obtain⟨W0,hW0⟩:∃v,v=(wq.alloc (.cells #[.int .i64 n.agent,.int .i64 (n.place:Int),.slice (some ah) n.holds.length ch] 136)).drew:=⟨_,rfl⟩;have f2:W0.cell? ⟨wq.heap.size,2,none⟩=some (.slice (some ah) n.holds.length ch):=by rw [hW0];exact e2
    have fb:wq.heap.size < W0.heap.size:=by rw [hW0];exact eb
    rw [<-hW0]at hx0⊢;have f0:=(hx0.cell (p:=⟨b,0,none⟩) hbl2).trans dl0;have fc:=(hx0.cell (p:=ah.add u) hhb2).trans hcell;have HX0:=Qq hx0;clear hW0 hx0 e0 e1 e2 eb hcell dl0 hb1 hb2 c0 c1 c2;go_upto_block 2 with(fail);go_cut [13] (fun s13 wx=>s13=.bool (Vs lg p1 ph p2)/\wx=W0)
    case first =>
     have hcx:lg=0\/lg=1\/lg=2\/lg=3\/lg=4\/lg=5\/lg=6:=by omega
     rcases hcx with hl|hl|hl|hl|hl|hl|hl
     ·have HCD:=Qq (show Vs lg p1 ph p2=_ from Qn8 (.inl hl));have t0:(lg==0)=true:=by rw [hl];rfl
      have t1:(lg==1)=false:=by rw [hl];rfl
      have t2:(lg==2)=false:=by rw [hl];rfl
      have t3:(lg==3)=false:=by rw [hl];rfl
      have t4:(lg==4)=false:=by rw [hl];rfl
      have t6:(lg==6)=false:=by rw [hl];rfl
      have t5:(lg==5)=false:=by rw [hl];rfl
      clear hl;cases p1 <;> cases ph <;> cases p2
      all_goals
       go_wp2_with fail;go_meet;exact⟨by rw [HCD.out] <;> rfl,by first|rfl|trivial⟩
     ·have HCD:=Qq (show Vs lg p1 ph p2=_ from Qn8 (.inr (.inl hl)));have t0:(lg==0)=false:=by rw [hl];rfl
      have t1:(lg==1)=true:=by rw [hl];rfl
      have t2:(lg==2)=false:=by rw [hl];rfl
      have t3:(lg==3)=false:=by rw [hl];rfl
      have t4:(lg==4)=false:=by rw [hl];rfl
      have t6:(lg==6)=false:=by rw [hl];rfl
      have t5:(lg==5)=false:=by rw [hl];rfl
      clear hl;cases p1 <;> cases ph <;> cases p2
      all_goals
       go_wp2_with fail;go_meet;exact⟨by rw [HCD.out] <;> rfl,by first|rfl|trivial⟩
     ·have HCD:=Qq (show Vs lg p1 ph p2=_ from Qn8 (.inr (.inr hl)));have t0:(lg==0)=false:=by rw [hl];rfl
      have t1:(lg==1)=false:=by rw [hl];rfl
      have t2:(lg==2)=true:=by rw [hl];rfl
      have t3:(lg==3)=false:=by rw [hl];rfl
      have t4:(lg==4)=false:=by rw [hl];rfl
      have t6:(lg==6)=false:=by rw [hl];rfl
      have t5:(lg==5)=false:=by rw [hl];rfl
      clear hl;cases p1 <;> cases ph <;> cases p2
      all_goals
       go_wp2_with fail;go_meet;exact⟨by rw [HCD.out] <;> rfl,by first|rfl|trivial⟩
     ·have HCD:=Qq (show Vs lg p1 ph p2=_ from Zqt hl);have t0:(lg==0)=false:=by rw [hl];rfl
      have t1:(lg==1)=false:=by rw [hl];rfl
      have t2:(lg==2)=false:=by rw [hl];rfl
      have t3:(lg==3)=true:=by rw [hl];rfl
      have t4:(lg==4)=false:=by rw [hl];rfl
      have t6:(lg==6)=false:=by rw [hl];rfl
      have t5:(lg==5)=false:=by rw [hl];rfl
      clear hl;cases p1 <;> cases ph <;> cases p2
      all_goals
       go_wp2_with fail;go_meet;exact⟨by rw [HCD.out] <;> rfl,by first|rfl|trivial⟩
     ·have HCD:=Qq (show Vs lg p1 ph p2=_ from Zql hl);have t0:(lg==0)=false:=by rw [hl];rfl
      have t1:(lg==1)=false:=by rw [hl];rfl
      have t2:(lg==2)=false:=by rw [hl];rfl
      have t3:(lg==3)=false:=by rw [hl];rfl
      have t4:(lg==4)=true:=by rw [hl];rfl
      have t6:(lg==6)=false:=by rw [hl];rfl
      have t5:(lg==5)=false:=by rw [hl];rfl
      clear hl;cases p1 <;> cases ph <;> cases p2
      all_goals
       go_wp2_with fail;go_meet;exact⟨by rw [HCD.out] <;> rfl,by first|rfl|trivial⟩
     ·have HCD:=Qq (show Vs lg p1 ph p2=_ from Zqm hl);have t0:(lg==0)=false:=by rw [hl];rfl
      have t1:(lg==1)=false:=by rw [hl];rfl
      have t2:(lg==2)=false:=by rw [hl];rfl
      have t3:(lg==3)=false:=by rw [hl];rfl
      have t4:(lg==4)=false:=by rw [hl];rfl
      have t6:(lg==6)=false:=by rw [hl];rfl
      have t5:(lg==5)=true:=by rw [hl];rfl
      clear hl;cases p1 <;> cases ph <;> cases p2
      all_goals
       go_wp2_with fail;go_meet;exact⟨by rw [HCD.out] <;> rfl,by first|rfl|trivial⟩
     have HCD:=Qq (show Vs lg p1 ph p2=_ from Zqp hl);have t0:(lg==0)=false:=by rw [hl];rfl
     have t1:(lg==1)=false:=by rw [hl];rfl
     have t2:(lg==2)=false:=by rw [hl];rfl
     have t3:(lg==3)=false:=by rw [hl];rfl
     have t4:(lg==4)=false:=by rw [hl];rfl
     have t6:(lg==6)=true:=by rw [hl];rfl
     have t5:(lg==5)=false:=by rw [hl];rfl
     clear hl;cases p1 <;> cases ph <;> cases p2
     all_goals
      go_wp2_with fail;go_meet;exact⟨by rw [HCD.out] <;> rfl,by first|rfl|trivial⟩
    case rest =>
     obtain⟨rfl,rfl⟩:=hcut;cases hcd:Vs lg p1 ph p2
     case true =>
      have HCD:=Qq hcd;clear hcd;go_wp2_with fail;go_roundw
      case rel=>exact⟨k+1,by go_num,by omega,Qq ⟨HX.out.trans HX0.out,HNEXT.out true (by rw [HPH.out,HAG.out,HCD.out];rfl) rfl⟩⟩
      case measure=>simp [intOf];omega
     case false =>
      have HE:=Qq (show Ze lg ks a t u=false from Qe4 HN.out (by rw [HPH.out,HAG.out,hcd];rfl));clear hcd;go_wp2_with fail;go_ret;exact⟨by rw [HE.out] <;> rfl,HX.out.trans HX0.out⟩
  obtain rfl:ks.length=k:=by omega
  have HE:=Qq (show Ze lg ks a t u=true from Qe3 (fun j n hj=>HJ.out j n hj));go_wp2_with fail;go_ret;exact⟨by rw [HE.out] <;> rfl,HX.out⟩
theorem Qvf {p:Nat->Bool} {m k:Nat}(hk:k < m)(h:p k=true)(hn:∀j,j < k->p j=false):(List.range m).find? p=some k:=by
 rw [List.find?_range_eq_some];exact⟨h,List.mem_range.2 hk,fun j hj=>by rw [hn j hj];rfl⟩
theorem Qcc {lg:Int} {ks:List Kn} {al:List Bool} {a:Int} {t k:Nat} {wt:Nat->Bool}(hk:k < al.length)(h:Xz lg ks al a t wt k=true)(hn:∀j,j < k->Xz lg ks al a t wt j=false):Xq lg ks al a t wt=(k:Int):=by
 unfold Xq;rw [Qvf hk h hn]
theorem Ql5 {lg:Int} {ks:List Kn} {al:List Bool} {a:Int} {t:Nat} {wt:Nat->Bool}(hn:∀j,j < al.length->Xz lg ks al a t wt j=false):Xq lg ks al a t wt= -1:=by
 unfold Xq;have:(List.range al.length).find? (Xz lg ks al a t wt)=none:=by
  rw [List.find?_eq_none];intro j hj;rw [hn j (List.mem_range.1 hj)];simp
 rw [this]
theorem Qjq(b:Nat)(lg:Int)(base:List (List Nd))(root:List Bool)(ks:List Kn)(cs:List Cm)(alive:List Bool)(a:Int)(t:Nat)(wanted:Nat->Bool)(g:Nat)(lb:Array Value)(eg:∀args w,(callFunc g args).run Tryz.prog w=.ok (.enter g args) w)(w:World)
 (hE:Eng w b lg base root ks cs alive)(hlg:0<=lg/\lg<=6)(ht:t < 18446744073709551616)(_hm:alive.length<=4096)(hks:∀k∈ks,k.place < 64/\alive.length<=k.holds.length)
 (hw:∀(W:World) (u:Nat),u < alive.length->Ext w W->Calls Tryz.prog g (#[.int .i64 (u:Int)]++lb) W fun e w'=>e=.returned (.bool (wanted u))/\Ext W w'):
 Calls Tryz.prog 136 #[.pointer (some ⟨b,0,none⟩),.int .i64 a,.int .u64 (t:Int),.func (.func g) #[] lb] w fun e w'=>e=.returned (.int .i64 (Xq lg ks alive a t wanted))/\Ext w w':=by
 obtain⟨Ab,cb,Ar,cr,Ak,ck,Ac,cc,Aa,ca,d0,d1,d2,d3,d4,d5,hbl,_,_,hkn,_,hal⟩:=hE.cells;have HE:=Qq hE;have HA:=Qq hal;have hac:=hal.1;have hca:=hal.2.1;unfold maxLen at hca;have HKS:=Qq hks;have HW:=Qq hw;clear hE hal hkn hks hw d0 d1 d2 d3 d4;go_enter Tryz.func136,Tryz.ntmps136;go_wp2_with fail;clear d5;go_loopw [16] (fun v wr=>∃k:Nat,v=.int .i64 (k:Int)/\k<=alive.length/\Hid (Ext w wr/\∀j,j < k->Xz lg ks alive a t wanted j=false)) (fun v _=>alive.length - (intOf v).toNat)
 case atStart=>exact⟨0,rfl,Nat.zero_le _,Qq ⟨Qz,fun j hj=>absurd hj (by omega)⟩⟩
 case round =>
  obtain⟨k,rfl,hk,HREL⟩:=hrel;have HX:=Qq HREL.out.1;have HJ:=Qq HREL.out.2;clear HREL;by_cases hlt2:k < alive.length
  ·have hk1:(k:Int) < (alive.length:Int):=by omega
   obtain⟨ad,rfl,hb1,a0⟩:=Vh (HA.out.ext HX.out) hlt2;have HNEXT:=Qq (show Xz lg ks alive a t wanted k=false->∀j,j < k+1->Xz lg ks alive a t wanted j=false from fun h j hj=>by
    by_cases e:j < k
    ·exact HJ.out j e
    have:j=k:=by omega
    subst this;exact h)
   have HP:=Qq (show Xz lg ks alive a t wanted k=(alive.getD k false&&(wanted k&&Ze lg ks a t k))from rfl);have HWK:=Qq (fun W hW=>HW.out W k hlt2 hW);have HPO:=Qq (fun W (hW:Ext w W)=>Sk b lg base root ks cs alive a t k W (HE.out.ext hW) hlg ht (by omega) (fun n hn=>⟨(HKS.out n hn).1,Qy hlt2 (HKS.out n hn).2⟩));obtain⟨wk,hwk⟩:∃x,x=wanted k:=⟨_,rfl⟩;obtain⟨pk,hpk⟩:∃x,x=Ze lg ks a t k:=⟨_,rfl⟩;obtain⟨ak,hak⟩:∃x,x=alive.getD k false:=⟨_,rfl⟩;rw [<-hwk,<-hpk,<-hak]at HP;rw [<-hwk]at HWK;rw [<-hpk]at HPO;rw [<-hak]at a0;clear hwk hpk hak;cases ak
   ·go_wp2_with fail;go_roundw
    case rel=>exact⟨k+1,by go_num,by omega,Qq ⟨HX.out,HNEXT.out (by rw [HP.out];rfl)⟩⟩
    case measure=>simp [intOf];omega
   cases wk
   ·go_wp2_with fail;refine(HWK.out _ HX.out).mono ?_;rintro e w2 ⟨rfl,hx⟩;have HX2:=Qq hx;clear hx;go_wp2_with fail;go_roundw
    case rel=>exact⟨k+1,by go_num,by omega,Qq ⟨HX.out.trans HX2.out,HNEXT.out (by rw [HP.out];rfl)⟩⟩
    case measure=>simp [intOf];omega
   go_wp2_with fail;refine(HWK.out _ HX.out).mono ?_;rintro e w2 ⟨rfl,hx⟩;have HX2:=Qq hx;clear hx;go_wp2_with fail;refine(HPO.out _ (HX.out.trans HX2.out)).mono ?_;rintro e w3 ⟨rfl,hx⟩;have HX3:=Qq hx;clear hx;cases pk
   ·go_wp2_with fail;go_roundw
    case rel=>exact⟨k+1,by go_num,by omega,Qq ⟨HX.out.trans (HX2.out.trans HX3.out),HNEXT.out (by rw [HP.out];rfl)⟩⟩
    case measure=>simp [intOf];omega
   have HR:=Qq (Qcc hlt2 (by rw [HP.out];rfl) HJ.out);go_wp2_with fail;go_ret;exact⟨by rw [HR.out] <;> rfl,HX.out.trans (HX2.out.trans HX3.out)⟩
  obtain rfl:alive.length=k:=by omega
  have HR:=Qq (Ql5 HJ.out);go_wp2_with fail;go_ret;exact⟨by rw [HR.out] <;> rfl,HX.out⟩
def Ym(m:Nat):Nat:=if m=0 then 0 else m.log2+1
theorem Qet:∀x:Fin 256,Lib.len8 (x.val:Int)=(Ym x.val:Int):=by decide+kernel
theorem Qes(y:Int)(h:y.toNat < Lib.len8tab.size):((Lib.len8tab[y.toNat]'h).toNat:Int)=Lib.len8 y:=by
 unfold Lib.len8;rw [getElem?_pos Lib.len8tab y.toNat h];rfl
theorem Qpq(a:Int)(h0:0<=a)(h1:a<=8):RowKit.wrap64 (RowKit.wrap64 a)=a:=by
 unfold RowKit.wrap64;omega
theorem Qlc(x z:Int)(h0:0<=x)(h1:x < 256)(hz:Hid (Lib.len8 x=z/\0<=z/\z<=8))(w:World):Calls Tryz.prog 141 #[.int .u64 x] w fun e w'=>e=.returned (.int .i64 z)/\w'=w:=by
 go_enter Tryz.func141,Tryz.ntmps141;go_wp2;go_ret;exact⟨by rw [Qes,hz.out.1,Qpq _ hz.out.2.1 hz.out.2.2] <;> rfl,rfl⟩
theorem Qiz {x:Nat}(hx:x < 256):Ym x<=8:=by
 unfold Ym
 split
 ·omega
 rename_i h0;have:=(Nat.log2_lt h0).2 (show x < 2^8 from hx);omega
theorem Qlp(x:Nat)(hx:x < 256)(w:World):Calls Tryz.prog 141 #[.int .u64 (x:Int)] w fun e w'=>e=.returned (.int .i64 (Ym x:Int))/\w'=w :=
 Qlc (x:Int) _ (by omega) (by omega) (Qq ⟨Qet ⟨x,hx⟩,by omega,by have:=Qiz hx;show(Ym x:Int)<=8;omega⟩) w
theorem Qdo(x:Nat)(hx:x < 256)(w:World):Calls Tryz.prog 65 #[.int .u64 (x:Int)] w fun e w'=>e=.returned (.int .i64 (Ym x:Int))/\w'=w:=by
 go_enter Tryz.func65,Tryz.ntmps65;go_wp2_with fail;refine(Qlp x hx _).mono ?_;rintro e w1 ⟨rfl,rfl⟩;go_wp2_with fail;go_ret;exact⟨rfl,rfl⟩
structure InB (A F:Nat) (n:Nd):Prop where
 agent:n.op=9\/n.op=10->0<=n.i/\n.i < A
 group:∀i:Nat,Yl n.g i=true->i < A
 fact:n.op=3->0<=n.i/\n.i < F
section
variable {A F:Nat}
theorem InB.with {n:Nd}(h:InB A F n)(k1 k2:Nat):InB A F (n.with_ k1 k2):=⟨h.agent,h.group,h.fact⟩
theorem Rg {op:Int}(h:op=1\/op=4\/op=5\/op=7):InB A F ⟨op,0,0,0,0,0⟩:=
 ⟨fun e=>by have:op=9\/op=10:=e;omega,fun i hi=>by unfold Yl at hi;simp at hi,fun e=>by have:op=3:=e;omega⟩
theorem Qz5 {i:Int}(h:0<=i/\i < A):InB A F ⟨9,i,0,0,0,0⟩:=
 ⟨fun _=>h,fun i hi=>by unfold Yl at hi;simp at hi,fun e=>by have:(9:Int)=3:=e;omega⟩
theorem Qdq:∀(r:List Tr) (t:Tr),t.all (InB A F)->(∀u∈r,u.all (InB A F))->(Lk t r).all (InB A F)
 |[],_,ht,_=>ht
 |u :: r,t,ht,hr=>Qdq r _ ⟨Rg (by omega),ht,hr u (List.mem_cons_self ..)⟩ (fun v hv=>hr v (List.mem_cons_of_mem _ hv))
theorem Qow:∀(l:List Tr),(∀u∈l,u.all (InB A F))->(Lq l).all (InB A F)
 |[],_=>Rg (by omega)
 |t :: r,h=>Qdq r t (h t (List.mem_cons_self ..)) (fun v hv=>h v (List.mem_cons_of_mem _ hv))
theorem Wm:∀(t:Tr),t.all (InB A F)->(Vq t).all (InB A F)
 |.leaf _,h=>h
 |.one n a,h=>by
  have ih:=Wm a h.2;unfold Vq;by_cases h10:n.op=10
  ·rw [if_pos h10];exact⟨Rg (by omega),Qz5 (h.1.agent (.inr h10)),Rg (by omega),ih⟩
  rw [if_neg h10];by_cases h11:n.op=11
  ·rw [if_pos h11];refine Qow _ fun u hu=> ?_
   obtain⟨i,hi,rfl⟩:=List.mem_map.1 hu;obtain⟨_,h2⟩:=List.mem_filter.1 hi;have:=h.1.group i h2;exact⟨Qz5 ⟨by omega,by omega⟩,ih⟩
  rw [if_neg h11];exact⟨h.1,ih⟩
 |.two n a b,h=>⟨h.1,Wm a h.2.1,Wm b h.2.2⟩
theorem Qwo {i:Nat} {n:Nd} {a b:Tr}(h:(Tr.two n a b).all (InB A F))(hg:Yl n.g i=true):(Xt i n a b).all (InB A F):=by
 have:=h.1.group i hg;exact⟨Qz5 ⟨by omega,by omega⟩,Rg (by omega),h.2.1,Rg (by omega),h.2.2,h⟩
theorem Qh9 {t:Tr}(ht:t.ok)(h:t.all (InB A F)) {k:Nat}(hk:k < (Qf t).length):(tr (Qf t) k).all (InB A F):=
 To (P:=InB A F) (fun _ k1 k2 h=>h.with k1 k2) (Hk ht) (Di (P:=InB A F) (fun _ k1 k2 h=>h.with k1 k2) t [] h (fun n hn=>by cases hn)) k hk
theorem Qap {t:Tr}(h:Xf t)(he:(Vx (Qf t)).2=0)(hin:t.all (InB A F)):∀s∈(Vx (Qf t)).1.map Ql,s.all (InB A F):=by
 have hB:=Qdz h he;intro s hs;obtain⟨hX,hc⟩:=(Yt hB.can).1 hs;unfold Vx at he hc;cases hb:((Yz (Qf t)).flatMap Ye).any (fun u=>decide (u.length=0))||decide (12 < (((Yz (Qf t)).flatMap Ye).foldl Xd (Yz (Qf t))).length)
 case true=>rw [hb]at he;cases he
 rw [hb,cond_false]at hc;rcases(Hc _ _ _).1 hc with h1|h1
 ·obtain⟨k,hk,e,_⟩:=h.mem_base0.1 h1;rw [(hX.inj (h.at hk) e)];exact Qh9 h.xp.1.1 hin hk
 obtain⟨c,hcb,huc⟩:=List.mem_flatMap.1 h1;obtain⟨k,hk,rfl,_⟩:=h.mem_base0.1 hcb;have hx:=h.at hk;have hin2:=Qh9 h.xp.1.1 hin hk;by_cases ho:(tr (Qf t) k).top.op=13
 ·obtain⟨n,a,b,e,ho'⟩:=Ce hx ho;rw [e]at hx huc hin2;obtain⟨i,hi,hg,e2⟩:=(Em hx ho').1 huc;have hlen:(Qf (Xt i n a b)).length<=200:=by
   by_cases e3:(Qf (Xt i n a b)).length<=200
   ·exact e3
   rw [Kf (by omega)]at e2;have hp:=Gv hX.xp.1.1;rw [e2]at hp;simp at hp
  have hX2:Xf (Xt i n a b):=⟨hx.xp.unf hi,hlen⟩;rw [hX.inj hX2 (by rw [e2,Xx hlen])];exact Qwo hin2 hg
 rw [Le hx ho]at huc;cases huc
end
theorem Li(m:Nat):m < 2^Ym m:=by
 unfold Ym
 split
 ·rename_i h;rw [h];decide
 exact Nat.lt_log2_self
theorem Qdw {m k:Nat}(h:m < 2^k):Ym m<=k:=by
 unfold Ym
 split
 ·omega
 rename_i h0;have:=(Nat.log2_lt h0).2 h;omega
theorem Qds {f:List Nd}(hc:check f=0):(Ql f).all (InB (Ym (Jn (Qg f))) (Ym (Je (Qg f)))):=by
 obtain⟨hw,_,hp,hh⟩:=Jf hc;have h:=To (P:=InB (Ym (Jn (Qg f))) (Ym (Je (Qg f)))) (fun _ k1 k2 h=>h.with k1 k2) hw (fun n hn=> ?_) ((Qg f).length - 1) (by omega)
 ·rw [show tr (Qg f) ((Qg f).length - 1)=Ql f from Vc hc]at h;exact h
 have hn1:=hh n hn;have ha:=fun i hi=>Vm (Li (Jn (Qg f))) ((Qj0 (Qg f) 0).2 n hn i hi)
 have hf:=fun i hi=>Vm (Li (Je (Qg f))) ((Qj9 (Qg f) 0).2 n hn i hi)
 refine⟨fun ho=> ?_,fun i hi=>ha i (.inr hi),fun ho=> ?_⟩
 ·have h1:Qe n.op=true:=by rcases ho with h|h <;>(rw [h];rfl)
  have h2:=Xr hn1 h1;have:=ha n.i.toNat (.inl ⟨h1,rfl⟩);exact⟨h2.1,by omega⟩
 have h2:=Fr hn1 ho;have:=hf n.i.toNat ⟨ho,rfl⟩;exact⟨h2.1,by omega⟩
theorem Qtc {lg:Int} {f:List Nd}(h:Uo lg f)(he:Zd lg f=0):∀s∈(Qn f).1.map Ql,s.all (InB (Ym (Jn (Qg f))) (Ym (Je (Qg f)))):=by
 have h4:Qn f=Vx (Qf (Vq (Ql f))):=by
  unfold Zd at he;cases ha:decide (lg < 0)||decide (6 < lg)
  ·rw [ha]at he;rw [<-h.e];exact(Ra he).2.2.2
  rw [ha]at he;cases he
 have h5:(Vx (Qf (Vq (Ql f)))).2=0:=by
  rw [<-h4];unfold Zd at he;cases ha:decide (lg < 0)||decide (6 < lg)
  ·rw [ha]at he;exact he
  rw [ha]at he;cases he
 rw [h4];exact Qap h.x h5 (Wm _ (Qds h.ck))
def Sx(s:Nat)(ws:List Nat):Nat:=Kk ws.length fun i=>s.testBit (ws.getD i 0)
def Gq(md:Md)(ws:List Nat):Md:=⟨(ws.length:Int),md.val.map (fun s=>Sx s ws),md.rel.map fun r=>ws.map fun w=>Sx (r.getD w 0) ws⟩
theorem Qfn(s:Nat)(ws:List Nat)(i:Nat):(Sx s ws).testBit i=(decide (i < ws.length)&&s.testBit (ws.getD i 0)):=Df _ _ _
theorem Qd9(s:Nat)(ws:List Nat):Sx s ws < 2^ws.length:=Bs _ _
theorem Qv0 {md:Md}(h1:1<=md.n)(h2:md.n<=64)(h3:md.rel.length<=4)(h4:md.val.length<=8)(h5:∀r∈md.rel,(r.length:Int)=md.n)
 (h6:∀s∈md.val,s < 2^md.n.toNat)(h7:∀r∈md.rel,∀s∈r,s < 2^md.n.toNat):Zy md=0:=by
 have hb:∀l:List Nat,(∀s∈l,s < 2^md.n.toNat)->Zx l md.n.toNat=false:=fun l hl=>by
  unfold Zx;rw [List.any_eq_false];intro s hs;rw [decide_eq_true (hl s hs)];decide
 unfold Zy;rw [if_neg (by omega),if_neg (by omega),if_neg,if_neg,if_neg]
 ·rw [Bool.not_eq_true,List.any_eq_false];intro r hr;rw [hb r (h7 r hr)];decide
 ·rw [hb _ h6];decide
 rw [Bool.not_eq_true,List.any_eq_false];intro r hr;rw [decide_eq_true (h5 r hr)];decide
theorem Hg {md:Md}(h:Zy md=0):(∀s∈md.val,s < 2^md.n.toNat)/\∀r∈md.rel,∀s∈r,s < 2^md.n.toNat:=by
 obtain⟨_,_,_,_,_,h1,h2⟩:=Jv h;have hb:∀l:List Nat,Zx l md.n.toNat=false->∀s∈l,s < 2^md.n.toNat:=fun l hl s hs=>by
  unfold Zx at hl;rw [List.any_eq_false]at hl;have:=hl s hs;rw [Bool.not_eq_true,Bool.not_eq_false']at this;exact of_decide_eq_true this
 exact⟨hb _ h1,fun r hr=>hb r (h2 r hr)⟩
theorem Qs9 {md:Md} {ws:List Nat}(h:Zy md=0)(h1:1<=ws.length)(h2:ws.length<=64):Zy (Gq md ws)=0:=by
 obtain⟨_,_,h3,h4,_,_,_⟩:=Jv h;refine Qv0 (show(1:Int)<=(ws.length:Int) by omega) (show(ws.length:Int)<=64 by omega) (by simp [Gq];exact h3) (by simp [Gq];exact h4) ?_ ?_ ?_
 ·intro r hr;obtain⟨r0,_,rfl⟩:=List.mem_map.1 hr;rw [List.length_map];rfl
 ·intro s hs;obtain⟨s0,_,rfl⟩:=List.mem_map.1 hs;exact Qd9 _ _
 intro r hr s hs;obtain⟨r0,_,rfl⟩:=List.mem_map.1 hr;obtain⟨w,_,rfl⟩:=List.mem_map.1 hs;exact Qd9 _ _
theorem Qij {md:Md}(h:Zy md=0):md.ok:=by
 obtain⟨h1,h2,_⟩:=Jv h;obtain⟨h3,h4⟩:=Hg h;have h64:2^md.n.toNat<=18446744073709551616:=Nr (by omega);exact⟨by unfold Yj;omega,fun s hs=>Qy (h3 s hs) h64,fun r hr s hs=>Qy (h4 r hr s hs) h64⟩
def Qob(md:Md)(ws:List Nat):Prop:=∀a,a < md.rel.length->∀u∈ws,∀v,((md.rel.getD a []).getD u 0).testBit v=true->v∈ws
theorem Qat {md:Md} {ws:List Nat}(_hlt:∀w∈ws,w < md.n.toNat)(hcl:Qob md ws)(hg:∀i:Fin (Gq md ws).n.toNat,ws.getD i.1 0 < md.n.toNat):
 Emb (Kd (Gq md ws)) (Kd md) md.rel.length md.val.length (fun i:Fin (Gq md ws).n.toNat=>(⟨ws.getD i.1 0,hg i⟩:Fin md.n.toNat)) where
 fact:=fun i h0 h1 u=>by
  have hu:u.1 < ws.length:=u.2;show((md.val.map fun s=>Sx s ws).getD i.toNat 0).testBit u.1=true↔(md.val.getD i.toNat 0).testBit (ws.getD u.1 0)=true;rw [Qk,List.getElem?_map,List.getElem?_eq_getElem (show i.toNat < md.val.length by omega),Qk,List.getElem?_eq_getElem (show i.toNat < md.val.length by omega)];show(Sx _ ws).testBit u.1=true↔_;rw [Qfn,decide_eq_true hu,Bool.true_and];rfl
 rel:=fun i h0 h1 u v=>by
  obtain⟨a,rfl⟩:=Int.eq_ofNat_of_zero_le h0;have ha:a < md.rel.length:=by omega
  have hu:u.1 < ws.length:=u.2;have hv:v.1 < ws.length:=v.2;refine(kmR (md:=Gq md ws) (show a < (Gq md ws).rel.length by simp [Gq];exact ha) u v).trans (Iff.trans ?_ (kmR ha (⟨ws.getD u.1 0,hg u⟩:Fin md.n.toNat) (⟨ws.getD v.1 0,hg v⟩:Fin md.n.toNat)).symm);show((((md.rel.map fun r=>ws.map fun w=>Sx (r.getD w 0) ws).getD a []).getD u.1 0).testBit v.1=true)↔((md.rel.getD a []).getD (ws.getD u.1 0) 0).testBit (ws.getD v.1 0)=true;have e1:(md.rel.map fun r=>ws.map fun w=>Sx (r.getD w 0) ws).getD a []=ws.map fun w=>Sx ((md.rel.getD a []).getD w 0) ws:=by
   rw [Qk,List.getElem?_map,Qv ha,Qk,Qv ha];rfl
  have e2:(ws.map fun w=>Sx ((md.rel.getD a []).getD w 0) ws).getD u.1 0=Sx ((md.rel.getD a []).getD (ws.getD u.1 0) 0) ws:=by
   rw [Qk,List.getElem?_map,Qv hu,Qk (l:=ws),Qv hu];rfl
  rw [e1,e2,Qfn,decide_eq_true hv,Bool.true_and]
 cl:=fun i h0 h1 u y hy=>by
  obtain⟨a,rfl⟩:=Int.eq_ofNat_of_zero_le h0;have ha:a < md.rel.length:=by omega
  have hu:u.1 < ws.length:=u.2;have hm:y.1∈ws:=hcl a ha (ws.getD u.1 0) (by rw [Qk,Qv hu];exact List.getElem_mem _) y.1 ((kmR ha _ _).1 hy);obtain⟨j,hj,e⟩:=List.getElem_of_mem hm;refine⟨⟨j,hj⟩,Fin.ext ?_⟩;show ws.getD j 0=y.1;rw [Qk,Qv hj];exact e
theorem Qdk {md:Md} {f:List Nd}(h:Jr md f=0):(Ql f).all (Qpz md.rel.length md.val.length):=by
 obtain⟨hck,hc,hs,hf⟩:=Ya h;have h2:=Gd hc;have hcc:=Ky hc;have hs2:Yw (Jh (Qg f)) 15=true:=by unfold Jh at hs⊢;rw [h2];exact hs
 have hf2:Yg (Qg f) md.rel.length md.val.length=true:=by
  unfold Yg at hf⊢;rw [h2,hcc];rw [hc]at hf;exact hf
 rw [<-Vc hc];refine To (P:=Qpz md.rel.length md.val.length) (fun n k1 k2 h=>h) (Ja hcc) (fun n hn=> ?_) _ (by have:=(Zm hcc).1;omega);obtain⟨k,hk⟩:=List.mem_iff_getElem?.1 hn;have hkl:=(List.getElem?_eq_some_iff.1 hk).1;have hr:=(Jv hck).2.2.1;have hN:=Qt8 hcc hk (Qzi hcc h2 hs2 hf2 hkl) hr;refine⟨fun h3=>⟨(Fr hN.head h3).1,hN.fact h3⟩,fun h9=>⟨(Xr hN.head (by unfold Qe;rcases h9 with e|e <;> rw [e] <;> rfl)).1,hN.agent h9⟩,fun h11=> ?_⟩;have hg:=hN.group (by omega);refine⟨fun j hj=>Vm hg.2 hj,?_⟩;obtain⟨j,hj⟩:=Nat.exists_testBit_of_ne_zero (show n.g.toNat≠0 by omega)
 have:=Vm hg.2 hj;exact⟨j,by omega,hj⟩
theorem Qpt {md md':Md} {f:List Nd}(h:Jr md f=0)(hc:Zy md'=0)(hr:md'.rel.length=md.rel.length)(hv:md'.val.length=md.val.length):Jr md' f=0:=by
 obtain⟨_,h1,h2,h3⟩:=Ya h;unfold Jr;rw [if_neg (by rw [hc];simp),if_neg (by rw [h1];simp),if_neg (by rw [h2];simp),hr,hv,if_neg (by rw [h3];simp)]
structure Bw (lg:Int) (f:List Nd) (md:Md) (k:Nat):Prop where
 ck:Jr md f=0
 lt:k < md.n.toNat
 good:Fm md lg
 sat:∀w:Fin md.n.toNat,w.1=k->(Kd md).sat (Ql f) w
noncomputable def cmN (lg:Int) (f:List Nd) (md:Md) (wd:Int):Int :=
 if lg < 0\/6 < lg then 1 else if Jr md f≠0 then Jr md f else if wd < 0\/md.n<=wd then 2 else if inG md lg=false then 12 else if(Fe md f).testBit wd.toNat=true then 0 else 11
theorem Qdl {md:Md} {lg:Int} :inG md lg=true↔Fm md lg:=by
 refine⟨fun h=>(Qcf h).2,fun h=> ?_⟩;unfold inG Qxt;rw [decide_eq_true h.ck,decide_eq_true h.lgr,Qg1.2 h.rel];rfl
theorem Qa3 {lg:Int} {f:List Nd} {md:Md} {wd:Int} :cmN lg f md wd=0↔∃k:Nat,wd=(k:Int)/\Bw lg f md k:=by
 unfold cmN;constructor
 ·intro h;by_cases h1:lg < 0\/6 < lg
  ·rw [if_pos h1]at h;cases h
  rw [if_neg h1]at h;by_cases h2:Jr md f≠0
  ·rw [if_pos h2]at h;exact absurd h h2
  rw [if_neg h2]at h;by_cases h3:wd < 0\/md.n<=wd
  ·rw [if_pos h3]at h;cases h
  rw [if_neg h3]at h;by_cases h4:inG md lg=false
  ·rw [if_pos h4]at h;cases h
  rw [if_neg h4]at h;by_cases h5:(Fe md f).testBit wd.toNat=true
  ·have h2':Jr md f=0:=Decidable.not_not.1 h2;refine⟨wd.toNat,by omega,h2',by omega,Qdl.1 (by rw [Bool.not_eq_false]at h4;exact h4),fun w hw=> ?_⟩;exact(Pg h2' w).1 (by rw [hw];exact h5)
  rw [if_neg h5]at h;cases h
 rintro⟨k,rfl,h⟩;have:=h.lt;have h2:=h.good.lgr;rw [if_neg (by omega),if_neg (by rw [h.ck];simp),if_neg (by omega),if_neg (by rw [Qdl.2 h.good];simp),if_pos];exact(Pg h.ck ⟨k,h.lt⟩).2 (h.sat _ rfl)
theorem Bw.part {lg:Int} {f:List Nd} {md:Md} {k:Nat}(h:Bw lg f md k) {ws:List Nat}(hlt:∀w∈ws,w < md.n.toNat)(hcl:Qob md ws)(h64:ws.length<=64) {j:Nat}(hj:ws[j]?=some k):Bw lg f (Gq md ws) j:=by
 obtain⟨hjl,hje⟩:=List.getElem?_eq_some_iff.1 hj;have hg:∀i:Fin (Gq md ws).n.toNat,ws.getD i.1 0 < md.n.toNat:=fun i=>by
  have hi:i.1 < ws.length:=i.2;refine hlt _ ?_;rw [Qk,Qv hi];exact List.getElem_mem _
 have hE:=Qat hlt hcl hg;have hck:=Qs9 h.good.ck (by omega) h64;refine⟨Qpt h.ck hck (by simp [Gq]) (by simp [Gq]),hjl,?_,fun w hw=> ?_⟩
 ·refine(Hi hck h.good.lgr).2 fun a ha=> ?_
  rw [show(Gq md ws).rel.length=md.rel.length by simp [Gq]]at ha;exact hE.frm (by omega) (by omega) ((Hi h.good.ck h.good.lgr).1 h.good a ha)
 refine(hE.sat _ (Qdk h.ck) w).2 (h.sat _ ?_);show ws.getD w.1 0=k;rw [hw,Qk,hj];rfl
theorem Tn {a m b c:Nat}(ha:a < 256)(hm:m < 256):(a+256*b)&&&(m+256*c)=(a&&&m)+256*(b&&&c):=by
 have hs:∀{p q:Nat} (_:p < 256) (i:Nat),(p+256*q).testBit i=if i < 8 then p.testBit i else q.testBit (i - 8):=fun {p q} hp i=>by
  rw [Nat.add_comm,show(256:Nat)=2^8 from rfl,Nat.testBit_two_pow_mul_add _ hp]
 have hl:a&&&m < 256:=Nat.lt_of_le_of_lt Nat.and_le_left ha;refine Nat.eq_of_testBit_eq fun i=> ?_
 rw [Nat.testBit_and,hs ha,hs hm,hs hl];by_cases h:i < 8
 ·rw [if_pos h,if_pos h,if_pos h,Nat.testBit_and]
 rw [if_neg h,if_neg h,if_neg h,Nat.testBit_and]
def Sw(m:Nat):Nat->Nat
 |0=>0
 |k+1=>m+256*Sw m k
def st1(M x:Nat):Nat:=(x / 2&&&M)+(x&&&M)
def st2(M x:Nat):Nat:=(x / 4&&&M)+(x&&&M)
def st3(M x:Nat):Nat:=x / 16+x&&&M
def pc1(d:Nat):Nat:=(d / 2&&&85)+(d&&&85)
def pc2(d:Nat):Nat:=(d / 4&&&51)+(d&&&51)
def pc3(d:Nat):Nat:=d / 16+d&&&15
def pcB(d:Nat):Nat:=pc3 (pc2 (pc1 d))
theorem Zqf:∀d:Fin 256,∀c:Fin 2,(d.1 / 2+128*c.1)&&&85=(d.1 / 2&&&85):=by decide+kernel
theorem Zqb:∀d:Fin 256,∀c:Fin 4,(d.1 / 4+64*c.1)&&&51=(d.1 / 4&&&51):=by decide+kernel
theorem Zqd:∀d:Fin 256,pc1 d.1 < 256/\pc2 (pc1 d.1) % 16<=4/\pc2 (pc1 d.1)<=68/\pcB d.1<=8/\pcB d.1=(List.range 8).countP fun i=>d.1.testBit i:=by decide+kernel
theorem Zqn:∀d:Fin 69,∀c:Fin 5,(d.1 / 16+16*c.1+d.1)&&&15=pc3 d.1:=by decide+kernel
theorem Qme {d y M:Nat}(hd:d < 256):st1 (85+256*M) (d+256*y)=pc1 d+256*st1 M y:=by
 unfold st1 pc1;have e:(d+256*y) / 2=(d / 2+128*(y % 2))+256*(y / 2):=by omega
 have h1:=Zqf ⟨d,hd⟩ ⟨y % 2,Nat.mod_lt _ (by decide)⟩;rw [e,Tn (by omega) (by decide),Tn hd (by decide),show(d / 2+128*(y % 2))&&&85=_ from h1,Nat.mul_add];exact Nat.add_add_add_comm _ _ _ _
theorem Qmw {d y M:Nat}(hd:d < 256):st2 (51+256*M) (d+256*y)=pc2 d+256*st2 M y:=by
 unfold st2 pc2;have e:(d+256*y) / 4=(d / 4+64*(y % 4))+256*(y / 4):=by omega
 have h1:=Zqb ⟨d,hd⟩ ⟨y % 4,Nat.mod_lt _ (by decide)⟩;rw [e,Tn (by omega) (by decide),Tn hd (by decide),show(d / 4+64*(y % 4))&&&51=_ from h1,Nat.mul_add];exact Nat.add_add_add_comm _ _ _ _
theorem Qmo {d y M:Nat}(hd:d<=68)(hy:y % 16<=4):st3 (15+256*M) (d+256*y)=pc3 d+256*st3 M y:=by
 unfold st3;have e:(d+256*y) / 16+(d+256*y)=(d / 16+16*(y % 16)+d)+256*(y / 16+y):=by omega
 have h1:=Zqn ⟨d,by omega⟩ ⟨y % 16,by omega⟩;rw [e,Tn (by omega) (by decide),show(d / 16+16*(y % 16)+d)&&&15=_ from h1]
def Qhr:Nat->Nat->Nat
 |0,_=>0
 |k+1,x=>pcB (x % 256)+256*Qhr k (x / 256)
theorem Yk:∀(k x:Nat),x < 256^k->st2 (Sw 51 k) (st1 (Sw 85 k) x) % 16<=4/\st3 (Sw 15 k) (st2 (Sw 51 k) (st1 (Sw 85 k) x))=Qhr k x
 |0,x,h=>by
  have:x=0:=by simpa using h
  subst this;decide
 |k+1,x,h=>by
  have hd:x % 256 < 256:=Nat.mod_lt _ (by decide);have hx:x / 256 < 256^k:=by rw [Nat.div_lt_iff_lt_mul (by decide),<-Nat.pow_succ];exact h
  obtain⟨ih1,ih2⟩:=Yk k (x / 256) hx;obtain⟨b1,b2,b3,_,_⟩:=Zqd ⟨x % 256,hd⟩;have e:x=x % 256+256*(x / 256):=by omega
  have e1:st1 (Sw 85 (k+1)) x=pc1 (x % 256)+256*st1 (Sw 85 k) (x / 256):=by
   conv=>lhs;rw [e]
   exact Qme hd
  have e2:st2 (Sw 51 (k+1)) (st1 (Sw 85 (k+1)) x)=pc2 (pc1 (x % 256))+256*st2 (Sw 51 k) (st1 (Sw 85 k) (x / 256)):=by
   rw [e1];exact Qmw b1
  rw [e2];refine⟨by show(pc2 (pc1 (x % 256))+_) % 16<=4;have b2':pc2 (pc1 (x % 256)) % 16<=4:=b2;omega,?_⟩;show st3 (15+256*Sw 15 k) _=pc3 (pc2 (pc1 (x % 256)))+256*Qhr k (x / 256);rw [Qmo b3 ih1,ih2]
def Ri(s k:Nat):Nat:=(List.range k).countP fun i=>s.testBit i
def st4(x:Nat):Nat:=x+x / 256
def st5(x:Nat):Nat:=x+x / 65536
def st6(x:Nat):Nat:=x+x / 4294967296
theorem Qgj(s k:Nat):Ri s (k+1)=Ri s k+if s.testBit k=true then 1 else 0:=by
 unfold Ri;rw [List.range_succ,List.countP_append,List.countP_singleton]
theorem Qgt {p:Nat->Bool} :∀(n k:Nat),k < n->p k=true->((List.range n).filter p)[(List.range k).countP p]?=some k:=by
 intro n k hk hp;have e:List.range n=List.range k++k :: List.range' (k+1) (n - k - 1):=by
  have h1:List.range n=List.range' 0 k++List.range' k (n - k):=by
   rw [List.range_eq_range'];have:=List.range'_append (s:=0) (m:=k) (n:=n - k) (step:=1);rw [Nat.zero_add,Nat.one_mul,show k+(n - k)=n by omega]at this;exact this.symm
  rw [h1,<-List.range_eq_range',show n - k=(n - k - 1)+1 by omega,List.range'_succ];rfl
 rw [e,List.filter_append,List.countP_eq_length_filter,List.getElem?_append_right (Nat.le_refl _),Nat.sub_self,List.filter_cons,if_pos hp];rfl
theorem Qms {s w:Nat}(hw:w < 64)(hs:s.testBit w=true):(Kr s)[Ri s w]?=some w:=Qgt 64 w hw hs
structure Qxa (md:Md) (fr out:Nat):Prop where
 sub:∀i,fr.testBit i=true->out.testBit i=true
 cl:∀a,a < md.rel.length->∀u,out.testBit u=true->∀v,((md.rel.getD a []).getD u 0).testBit v=true->out.testBit v=true
 least:∀c:Nat->Prop,(∀i,fr.testBit i=true->c i)->(∀a,a < md.rel.length->∀u,c u->∀v,((md.rel.getD a []).getD u 0).testBit v=true->c v)->∀i,out.testBit i=true->c i
structure Qy8 (md:Md) (fr todo out:Nat):Prop where
 sub:∀i,fr.testBit i=true->out.testBit i=true
 tod:∀i,todo.testBit i=true->out.testBit i=true
 cl:∀a,a < md.rel.length->∀u,out.testBit u=true->todo.testBit u=false->∀v,((md.rel.getD a []).getD u 0).testBit v=true->out.testBit v=true
 least:∀c:Nat->Prop,(∀i,fr.testBit i=true->c i)->(∀a,a < md.rel.length->∀u,c u->∀v,((md.rel.getD a []).getD u 0).testBit v=true->c v)->∀i,out.testBit i=true->c i
theorem Qy8.start(md:Md)(fr:Nat):Qy8 md fr fr fr:=⟨fun _ h=>h,fun _ h=>h,fun _ _ u h1 h2=>(by rw [h1]at h2;cases h2),fun _ h _=>h⟩
theorem Qy8.done {md:Md} {fr out:Nat}(h:Qy8 md fr 0 out):Qxa md fr out:=⟨h.sub,fun a ha u hu=>h.cl a ha u hu (Nat.zero_testBit u),h.least⟩
structure Qnn (md:Md) (fr w k todo out:Nat):Prop where
 sub:∀i,fr.testBit i=true->out.testBit i=true
 tod:∀i,todo.testBit i=true->out.testBit i=true
 here:out.testBit w=true
 cl:∀a,a < md.rel.length->∀u,u≠w->out.testBit u=true->todo.testBit u=false->∀v,((md.rel.getD a []).getD u 0).testBit v=true->out.testBit v=true
 seen:∀a,a < k->∀v,((md.rel.getD a []).getD w 0).testBit v=true->out.testBit v=true
 least:∀c:Nat->Prop,(∀i,fr.testBit i=true->c i)->(∀a,a < md.rel.length->∀u,c u->∀v,((md.rel.getD a []).getD u 0).testBit v=true->c v)->∀i,out.testBit i=true->c i
theorem Qy8.enter {md:Md} {fr todo out:Nat}(h:Qy8 md fr todo out)(hw:Zj todo)(h0:todo≠0):Qnn md fr (Sz todo) 0 (todo&&&(todo - 1)) out:=by
 obtain⟨_,h1,h2⟩:=Hn hw h0;have hb:=Rc h1 h2;refine⟨h.sub,fun i hi=>h.tod i ?_,h.tod _ h1,fun a ha u hu hou htu=>h.cl a ha u hou ?_,fun a ha=>absurd ha (by omega),h.least⟩
 ·rw [hb i,Bool.and_eq_true]at hi;exact hi.1
 rw [hb u,decide_eq_false hu]at htu;simpa using htu
theorem Qnn.step {md:Md} {fr w k todo out:Nat}(h:Qnn md fr w k todo out)(hk:k < md.rel.length):
 Qnn md fr w (k+1) (todo|||Yc ((md.rel.getD k []).getD w 0) out) (out|||(md.rel.getD k []).getD w 0):=by
 refine⟨fun i hi=> ?_,fun i hi=> ?_,?_,fun a ha u hu hou htu v hv=> ?_,fun a ha v hv=> ?_,fun c h1 h2 i hi=> ?_⟩
 ·rw [Nat.testBit_or,h.sub i hi,Bool.true_or]
 ·rw [Nat.testBit_or,Bool.or_eq_true,Gz,Bool.and_eq_true]at hi;rw [Nat.testBit_or,Bool.or_eq_true];rcases hi with hi|hi
  ·exact Or.inl (h.tod i hi)
  exact Or.inr hi.1
 ·rw [Nat.testBit_or,h.here,Bool.true_or]
 ·rw [Nat.testBit_or,Bool.or_eq_false_iff,Gz]at htu;rw [Nat.testBit_or,Bool.or_eq_true]at hou;rw [Nat.testBit_or,Bool.or_eq_true];refine Or.inl ?_;cases ho:out.testBit u
  ·rw [ho]at hou htu;have h3:=hou.resolve_left (by simp);rw [h3]at htu;simp at htu
  exact h.cl a ha u hu ho htu.1 v hv
 ·rw [Nat.testBit_or,Bool.or_eq_true];by_cases e:a=k
  ·rw [<-e];exact Or.inr hv
  exact Or.inl (h.seen a (by omega) v hv)
 rw [Nat.testBit_or,Bool.or_eq_true]at hi;rcases hi with hi|hi
 ·exact h.least c h1 h2 i hi
 exact h2 k hk w (h.least c h1 h2 w h.here) i hi
def Zz4(todo out:Nat):Nat:=((List.range 64).map fun i=>if out.testBit i=true then(if todo.testBit i=true then 1 else 0)else 2).sum
def Ia(md:Md)(w:Nat):Md:=Gq md (Kr (Yc (Zl md.n.toNat) (2^w)))
def Cp(k w:Nat):Nat:=if w < k then k - 1 else k
theorem Qgb(n w i:Nat):(Yc (Zl n) (2^w)).testBit i=(decide (i < n)&& !decide (w=i)):=by
 rw [Gz,Xy,Nat.testBit_two_pow]
theorem Qgd(n w:Nat):∀k,k<=n->Ri (Yc (Zl n) (2^w)) k=if w < k then k - 1 else k
 |0,_=>by simp [Ri]
 |k+1,h=>by
  rw [Qgj,Qgd n w k (by omega),Qgb,decide_eq_true (show k < n by omega),Bool.true_and];by_cases e:w=k
  ·rw [decide_eq_true e,if_neg (by omega),if_neg (by simp),if_pos (by omega)];omega
  rw [decide_eq_false e,if_pos (show(!false)=true from rfl)];by_cases h2:w < k
  ·rw [if_pos h2,if_pos (by omega)];omega
  rw [if_neg h2,if_neg (by omega)]
theorem Qd8(s:Nat):(Kr s).length=Ri s 64:=by
 unfold Kr Ri;rw [List.countP_eq_length_filter]
theorem Qzp {s n:Nat}(hs:s < 2^n):∀k,n<=k->Ri s k=Ri s n
 |0,h=>by rw [show n=0 by omega]
 |k+1,h=>by
  by_cases e:n=k+1
  ·rw [e]
  have hb:s.testBit k=false:=Nat.testBit_lt_two_pow (Qy hs (Nat.pow_le_pow_right (by decide) (by omega)));rw [Qgj,Qzp hs k (by omega),hb,if_neg (by simp),Nat.add_zero]
theorem Qpw(n w:Nat):Yc (Zl n) (2^w) < 2^n:=Nat.lt_pow_two_of_testBit _ fun i hi=>by
 rw [Qgb,decide_eq_false (by omega),Bool.false_and]
theorem Qpe {n w:Nat}(hn:n<=64)(hw:w < n):(Kr (Yc (Zl n) (2^w))).length=n - 1:=by
 rw [Qd8,Qzp (Qpw n w) 64 hn,Qgd n w n (Nat.le_refl _),if_pos hw]
inductive Qzf (lg:Int) (f:List Nd):Md->Nat->Md->Nat->Prop
 |done {md:Md} {k:Nat} :(∀w,w < md.n.toNat->w≠k->cmN lg f (Ia md w) (Cp k w:Nat)≠0)->Qzf lg f md k md k
 |step {md md':Md} {k k' w:Nat} :w < md.n.toNat->w≠k->cmN lg f (Ia md w) (Cp k w:Nat)=0->
  (∀u,w < u->u < md.n.toNat->u≠k->cmN lg f (Ia md u) (Cp k u:Nat)≠0)->Qzf lg f (Ia md w) (Cp k w) md' k'->Qzf lg f md k md' k'
theorem Qzf.ok {lg:Int} {f:List Nd} {md md':Md} {k k':Nat}(h:Qzf lg f md k md' k')(hc:Bw lg f md k):
 Bw lg f md' k'/\md'.n<=md.n/\(∀w,w < md'.n.toNat->w≠k'->cmN lg f (Ia md' w) (Cp k' w:Nat)≠0)/\(md'.n=md.n->md'=md/\k'=k):=by
 induction h with
 |done hd=>exact⟨hc,Int.le_refl _,hd,fun _=>⟨rfl,rfl⟩⟩
 |@step md md' k k' w hw hk hz hn _ ih =>
  obtain⟨j,hj,hok⟩:=Qa3.1 hz;have ej:j=Cp k w:=by omega
  rw [ej]at hok;obtain⟨h1,h2,h3,_⟩:=ih hok;have hn64:=(Jv hc.good.ck).2.1;have hl:(Ia md w).n=((md.n.toNat - 1:Nat):Int):=by
   show((Kr (Yc (Zl md.n.toNat) (2^w))).length:Int)=_;rw [Qpe (by omega) hw]
  rw [hl]at h2;exact⟨h1,by omega,h3,fun e=>by omega⟩
theorem Qxa.part {lg:Int} {f:List Nd} {md:Md} {k out:Nat}(hg:Qxa md (2^k) out)(hc:Bw lg f md k):Bw lg f (Gq md (Kr out)) (Ri out k)/\(Kr out).length<=md.n.toNat/\out < 2^md.n.toNat:=by
 have hn64:=(Jv hc.good.ck).2.1;have hlow:∀i,out.testBit i=true->i < md.n.toNat:=fun i hi=>by
  refine hg.least (fun i=>i < md.n.toNat) (fun i hi=> ?_) (fun a _ u _ v hv=>(Dt hc.good.ck a u v hv).2) i hi;rw [Nat.testBit_two_pow,decide_eq_true_iff]at hi;have:=hc.lt;omega
 have ho:out < 2^md.n.toNat:=Nat.lt_pow_two_of_testBit _ fun i hi=>by
  cases hb:out.testBit i
  ·rfl
  exact absurd (hlow i hb) (by omega)
 have hlt:∀w∈Kr out,w < md.n.toNat:=fun w hw=>hlow w (Qqk.1 hw).2
 have hk:=hc.lt;have hle:(Kr out).length<=md.n.toNat:=by
  rw [Qd8,Qzp ho 64 (by omega)];unfold Ri;exact Qx (List.countP_le_length) (by rw [List.length_range];exact Nat.le_refl _)
 refine⟨hc.part hlt (fun a ha u hu v hv=> ?_) (by omega) (Qms (by omega) (hg.sub k (by rw [Nat.testBit_two_pow];simp))),hle,ho⟩;have:=hg.cl a ha u (Qqk.1 hu).2 v hv;have h2:=hlow v this;exact Qqk.2 ⟨by omega,this⟩
end Go.Proofs.YtkmclcmnoicagaaGreatDoor
