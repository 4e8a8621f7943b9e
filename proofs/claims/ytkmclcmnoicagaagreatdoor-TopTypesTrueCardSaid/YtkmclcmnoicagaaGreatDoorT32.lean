/- types' coherent: the walk. -/
import Derived.Test.YtkmclcmnoicagaaGreatDoorT31
namespace Go.Proofs.YtkmclcmnoicagaaGreatDoor
set_option maxRecDepth 100000
set_option maxHeartbeats 128000000
open Go.RowKit
def Hf(t:Nat)(c:Cm):Bool:=t.testBit c.place==((t&&&c.parts)==c.parts)
def Qzc(lg:Int)(t:Nat)(k:Kn):Bool:= !(Fz lg&&(t.testBit k.place&& !k.holds.getD t false))
theorem Qaz {lg:Int} {ks:List Kn} {cs:List Cm} {t k:Nat} {c:Cm}(hn:cs[k]?=some c)(h:Hf t c=false):Ys lg ks cs t=false:=by
 unfold Ys;have:cs.all (fun c=>t.testBit c.place==((t&&&c.parts)==c.parts))=false:=by
  rw [List.all_eq_false];exact⟨c,List.mem_of_getElem? hn,by show ¬Hf t c=true;rw [h];simp⟩
 rw [this];rfl
theorem Zqs {lg:Int} {ks:List Kn} {cs:List Cm} {t k:Nat} {n:Kn}(hn:ks[k]?=some n)(h:Qzc lg t n=false):Ys lg ks cs t=false:=by
 unfold Ys;have:ks.all (fun k=> !(Fz lg&&(t.testBit k.place&& !k.holds.getD t false)))=false:=by
  rw [List.all_eq_false];exact⟨n,List.mem_of_getElem? hn,by show ¬Qzc lg t n=true;rw [h];simp⟩
 rw [this,Bool.and_false]
theorem Qa4 {lg:Int} {ks:List Kn} {cs:List Cm} {t:Nat}(h1:∀(j:Nat) (c:Cm),j < cs.length->cs[j]?=some c->Hf t c=true)(h2:∀(j:Nat) (n:Kn),j < ks.length->ks[j]?=some n->Qzc lg t n=true):Ys lg ks cs t=true:=by
 unfold Ys;rw [Bool.and_eq_true,List.all_eq_true,List.all_eq_true];constructor
 ·intro c hc;obtain⟨j,hj,e⟩:=List.getElem_of_mem hc;exact h1 j c hj (by rw [Qv hj,e])
 intro c hc;obtain⟨j,hj,e⟩:=List.getElem_of_mem hc;exact h2 j c hj (by rw [Qv hj,e])
theorem Qgz {w:World} {A:Option Addr} {c:Nat} {l:List Cm}(h:If w A c l) {k:Nat} {n:Cm}(hk:l[k]?=some n):∃ad,A=some ad/\ad.block < w.heap.size/\Qxc w (ad.add (k*5)) n:=by
 obtain⟨ad,e,hb,hc⟩:=h.2.2 (by intro e;rw [e]at hk;simp at hk);exact⟨ad,e,hb,hc k n hk⟩
theorem It {w:World} {b:Nat} {a0 a1 a2 a3 a4:Value} {t:TypeId}(h:w.heap[b]?=some (.cells #[a0,a1,a2,a3,a4] t (0,0))):
 w.cell? ⟨b,0,none⟩=some a0/\w.cell? ⟨b,1,none⟩=some a1/\w.cell? ⟨b,2,none⟩=some a2/\w.cell? ⟨b,3,none⟩=some a3/\w.cell? ⟨b,4,none⟩=some a4/\b < w.heap.size :=
 ⟨by simp [World.cell?,h],by simp [World.cell?,h],by simp [World.cell?,h],by simp [World.cell?,h],by simp [World.cell?,h],Qm h⟩
theorem Qs8(t q:Nat)(ht:t < 18446744073709551616)(hq:q < 18446744073709551616):(bits .and .u64 (t:Int) (q:Int)==(q:Int))=((t&&&q)==q):=by
 rw [bits_and_u64_nat _ _ ht hq,Bool.eq_iff_iff,beq_iff_eq,beq_iff_eq];omega
theorem Qgy(b:Nat)(lg:Int)(base:List (List Nd))(root:List Bool)(ks:List Kn)(cs:List Cm)(alive:List Bool)(t:Nat)(w:World)
 (hE:Eng w b lg base root ks cs alive)(ht:t < 4096)(hks:∀k∈ks,k.place < 64/\t < k.holds.length)(hcs:∀c∈cs,c.place < 64/\c.parts < 18446744073709551616):
 Calls Tryz.prog 131 #[.pointer (some ⟨b,0,none⟩),.int .u64 (t:Int)] w fun e w'=>e=.returned (.bool (Ys lg ks cs t))/\Ext w w':=by
 obtain⟨Ab,cb,Ar,cr,Ak,ck,Ac,cc,Aa,ca,d0,d1,d2,d3,d4,d5,hbl,_,_,hkn,hcm,_⟩:=hE.cells;have HK:=Qq hkn;have HC:=Qq hcm;have hkc:=hkn.1;have hck:=hkn.2.1;have hcc:=hcm.1;have hccm:=hcm.2.1;unfold maxLen at hck hccm;have HKS:=Qq hks;have HCS:=Qq hcs;have D0:=Qq d0;have D3:=Qq d3;clear hE hkn hcm hks hcs d1 d2 d3 d5 d0;go_enter Tryz.func131,Tryz.ntmps131;go_wp2_with fail;clear d4;go_loopw [14] (fun v wr=>∃k:Nat,v=.int .i64 (k:Int)/\k<=cs.length/\Hid (Ext w wr/\∀(j:Nat) (c:Cm),j < k->cs[j]?=some c->Hf t c=true)) (fun v _=>cs.length - (intOf v).toNat)
 case atStart=>exact⟨0,rfl,Nat.zero_le _,Qq ⟨Qz,fun j n hj=>absurd hj (by omega)⟩⟩
 case round =>
  obtain⟨k,rfl,hk,HREL⟩:=hrel;have HX:=Qq HREL.out.1;have HJ:=Qq HREL.out.2;clear HREL;by_cases hlt2:k < cs.length
  ·have hk1:(k:Int) < (cs.length:Int):=by omega
   obtain⟨n,hn⟩:∃n,cs[k]?=some n:=⟨_,Qv hlt2⟩;obtain⟨hpl,hpa⟩:=HCS.out n (List.mem_of_getElem? hn);obtain⟨ad,rfl,hblk,hat⟩:=Qgz HC.out hn;obtain⟨vx,vy,c0,c1,c2,c3,c4,hbx,hby⟩:=hat.ext HX.out (Qj hblk);obtain⟨Ax,cx,rfl,_⟩:=hbx;obtain⟨Ay,cy,rfl,_⟩:=hby;have hblk2:(ad.add (k*5)).block < wr.heap.size:=by rw [Qp];exact Qy hblk HX.out.size
   have HN:=Qq hn;have HNEXT:=Qq (show Hf t n=true->∀(j:Nat) (m:Cm),j < k+1->cs[j]?=some m->Hf t m=true from fun hc j m hj hm=>by
    by_cases e:j < k
    ·exact HJ.out j m e hm
    have:j=k:=by omega
    subst this;rw [hn]at hm;injection hm with hm;rw [<-hm];exact hc)
   have hb1:=Bt t n.place (by omega);have hb2:=Qs8 t n.parts (by omega) hpa;obtain⟨p1,hp1⟩:∃x,x=t.testBit n.place:=⟨_,rfl⟩;obtain⟨p2,hp2⟩:∃x,x=((t&&&n.parts)==n.parts):=⟨_,rfl⟩;have HCO:=Qq (show Hf t n=(p1==p2) by rw [hp1,hp2];rfl);rw [<-hp1]at hb1;rw [<-hp2]at hb2;clear hn hat hp1 hp2;obtain⟨wq,hwq⟩:∃v,v=wr:=⟨_,rfl⟩;subst hwq;go_upto_region 4 with(fail);obtain⟨e0,e1,e2,e3,e4,eb⟩:=It (show(wq.alloc (.cells #[.int .i64 (n.place:Int),.int .i64 n.group,.slice Ax n.x.length cx,.slice Ay n.y.length cy,.int .u64 (n.parts:Int)] 138)).heap[wq.heap.size]?=some (.cells #[.int .i64 (n.place:Int),.int .i64 n.group,.slice Ax n.x.length cx,.slice Ay n.y.length cy,.int .u64 (n.parts:Int)] 138 (0,0))from heap_alloc_new _ _)
   cases p1 <;> cases p2
   ·have HT:=Qq (show Hf t n=true by rw [HCO.out];rfl);refine wp_region_held_drew (S:=fun w'=>w'.cell? (⟨wq.heap.size,0,none⟩)=some (.int .i64 (n.place:Int))/\w'.cell? (⟨wq.heap.size,4,none⟩)=some (.int .u64 (n.parts:Int))) (by kernel_rfl) ⟨xc eb e0,xc eb e4⟩ (fun hHeld=> ?_);refine tk 0 hHeld ?_;refine tk 1 hHeld ?_;refine tk 2 hHeld ?_;refine tk 3 hHeld ?_;refine tk 4 hHeld ?_;refine tk 5 hHeld ?_;refine tk 6 hHeld ?_;refine tk 7 hHeld ?_;refine tk 8 hHeld ?_;refine tk 9 hHeld ?_;refine tk 10 hHeld ?_;refine tk 11 hHeld ?_;refine tk 12 hHeld ?_;refine tk 13 hHeld ?_;refine wpAnyH_done (by kernel_rfl) ?_ _
    go_wp2_with fail;go_roundw
    case rel=>exact⟨k+1,by go_num,by omega,Qq ⟨HX.out.trans (Qz.alloc _).drew,HNEXT.out HT.out⟩⟩
    case measure=>simp [intOf];omega
   ·have HE:=Qq (show Ys lg ks cs t=false from Qaz HN.out (by rw [HCO.out];rfl));refine wp_region_held_drew (S:=fun w'=>w'.cell? (⟨wq.heap.size,0,none⟩)=some (.int .i64 (n.place:Int))/\w'.cell? (⟨wq.heap.size,4,none⟩)=some (.int .u64 (n.parts:Int))) (by kernel_rfl) ⟨xc eb e0,xc eb e4⟩ (fun hHeld=> ?_);refine tk 0 hHeld ?_;refine tk 1 hHeld ?_;refine tk 2 hHeld ?_;refine tk 3 hHeld ?_;refine tk 4 hHeld ?_;refine tk 5 hHeld ?_;refine tk 6 hHeld ?_;refine tk 7 hHeld ?_;refine tk 8 hHeld ?_;refine tk 9 hHeld ?_;refine tk 10 hHeld ?_;refine tk 11 hHeld ?_;refine tk 12 hHeld ?_;refine tk 13 hHeld ?_
    refine wpAnyH_done (by kernel_rfl) ?_ _;go_wp2_with fail;go_ret;exact⟨by rw [HE.out] <;> rfl,HX.out.trans (Qz.alloc _).drew⟩
   ·have HE:=Qq (show Ys lg ks cs t=false from Qaz HN.out (by rw [HCO.out];rfl));refine wp_region_held_drew (S:=fun w'=>w'.cell? (⟨wq.heap.size,0,none⟩)=some (.int .i64 (n.place:Int))/\w'.cell? (⟨wq.heap.size,4,none⟩)=some (.int .u64 (n.parts:Int))) (by kernel_rfl) ⟨xc eb e0,xc eb e4⟩ (fun hHeld=> ?_);refine tk 0 hHeld ?_;refine tk 1 hHeld ?_;refine tk 2 hHeld ?_;refine tk 3 hHeld ?_;refine tk 4 hHeld ?_;refine tk 5 hHeld ?_;refine tk 6 hHeld ?_;refine tk 7 hHeld ?_;refine tk 8 hHeld ?_;refine tk 9 hHeld ?_;refine tk 10 hHeld ?_;refine tk 11 hHeld ?_;refine tk 12 hHeld ?_;refine tk 13 hHeld ?_
    refine wpAnyH_done (by kernel_rfl) ?_ _;go_wp2_with fail;go_ret;exact⟨by rw [HE.out] <;> rfl,HX.out.trans (Qz.alloc _).drew⟩
   have HT:=Qq (show Hf t n=true by rw [HCO.out];rfl);refine wp_region_held_drew (S:=fun w'=>w'.cell? (⟨wq.heap.size,0,none⟩)=some (.int .i64 (n.place:Int))/\w'.cell? (⟨wq.heap.size,4,none⟩)=some (.int .u64 (n.parts:Int))) (by kernel_rfl) ⟨xc eb e0,xc eb e4⟩ (fun hHeld=> ?_);refine tk 0 hHeld ?_;refine tk 1 hHeld ?_;refine tk 2 hHeld ?_;refine tk 3 hHeld ?_;refine tk 4 hHeld ?_;refine tk 5 hHeld ?_;refine tk 6 hHeld ?_;refine tk 7 hHeld ?_;refine tk 8 hHeld ?_;refine tk 9 hHeld ?_;refine tk 10 hHeld ?_;refine tk 11 hHeld ?_;refine tk 12 hHeld ?_;refine tk 13 hHeld ?_;refine wpAnyH_done (by kernel_rfl) ?_ _
   go_wp2_with fail;go_roundw
   case rel=>exact⟨k+1,by go_num,by omega,Qq ⟨HX.out.trans (Qz.alloc _).drew,HNEXT.out HT.out⟩⟩
   case measure=>simp [intOf];omega
  obtain rfl:cs.length=k:=by omega
  have HJC:=Qq HJ.out;have HXC:=Qq HX.out;have dw3:=(HX.out.cell (p:=⟨b,3,none⟩) hbl).trans D3.out;clear HJ HX;obtain⟨w1,hw1⟩:∃v,v=wr:=⟨_,rfl⟩;subst hw1;go_wp2_with fail;clear dw3;go_loopw [38] (fun v wr=>∃k:Nat,v=.int .i64 (k:Int)/\k<=ks.length/\Hid (Ext w wr/\∀(j:Nat) (c:Kn),j < k->ks[j]?=some c->Qzc lg t c=true)) (fun v _=>ks.length - (intOf v).toNat)
  case atStart=>exact⟨0,rfl,Nat.zero_le _,Qq ⟨HXC.out,fun j n hj=>absurd hj (by omega)⟩⟩
  case round =>
   obtain⟨k,rfl,hk,HREL⟩:=hrel;have HX:=Qq HREL.out.1;have HJ:=Qq HREL.out.2;clear HREL;by_cases hlt2:k < ks.length
   ·have hk1:(k:Int) < (ks.length:Int):=by omega
    obtain⟨n,hn⟩:∃n,ks[k]?=some n:=⟨_,Qv hlt2⟩;obtain⟨hpl,hhl⟩:=HKS.out n (List.mem_of_getElem? hn);obtain⟨ad,rfl,hblk,hat⟩:=Wo HK.out hn;obtain⟨vh,c0,c1,c2,hbo⟩:=hat.ext HX.out (Qj hblk);obtain⟨Ah,ch,rfl,hbo⟩:=hbo;have hhc:=hbo.1;have hch:=hbo.2.1;unfold maxLen at hch;obtain⟨ah,rfl,hhb,hcell⟩:=Vh hbo hhl;have hblk2:(ad.add (k*3)).block < wr.heap.size:=by rw [Qp];exact Qy hblk HX.out.size
    have hhb2:(ah.add t).block < wr.heap.size:=by rw [Qp];exact hhb
    have hlen1:(t:Int) < (n.holds.length:Int):=by omega
    have dl0:=(HX.out.cell (p:=⟨b,0,none⟩) hbl).trans D0.out;have hbl2:b < wr.heap.size:=Qy hbl HX.out.size;have HN:=Qq hn;have HNEXT:=Qq (show Qzc lg t n=true->∀(j:Nat) (m:Kn),j < k+1->ks[j]?=some m->Qzc lg t m=true from fun hc j m hj hm=>by
     by_cases e:j < k
     ·exact HJ.out j m e hm
     have:j=k:=by omega
     subst this;rw [hn]at hm;injection hm with hm;rw [<-hm];exact hc)
    have hb1:=Bt t n.place (by omega);obtain⟨ph,hph⟩:∃x,x=n.holds.getD t false:=⟨_,rfl⟩;obtain⟨p1,hp1⟩:∃x,x=t.testBit n.place:=⟨_,rfl⟩;obtain⟨pr,hpr⟩:∃x,x=Fz lg:=⟨_,rfl⟩;have HCO:=Qq (show Qzc lg t n= !(pr&&(p1&& !ph)) by rw [hph,hp1,hpr];rfl);have HRF:=Qq (show ∀W,W.cell? ⟨b,0,none⟩=some (.int .i64 lg)->Calls Tryz.prog 184 #[.pointer (some ⟨b,0,none⟩)] W fun e w'=>e=.returned (.bool pr)/\W=w' from fun W hW=>hpr▸Qxf b lg W hW);rw [<-hph]at hcell;rw [<-hp1]at hb1;clear hn hat hbo hph hp1 hpr;obtain⟨wq,hwq⟩:∃v,v=wr:=⟨_,rfl⟩;subst hwq;cases pr
    ·go_wp2_with fail;refine(HRF.out _ ((((Ext.refl wq).alloc _).cell (p:=⟨b,0,none⟩) hbl2).trans dl0)).mono ?_;rintro e w3 ⟨rfl,rfl⟩;go_wp2_with fail;go_roundw
     case rel=>exact⟨k+1,by go_num,by omega,Qq ⟨HX.out.trans (Qz.alloc _),HNEXT.out (by rw [HCO.out];rfl)⟩⟩
     case measure=>simp [intOf];omega
    cases p1
    ·go_wp2_with fail;refine(HRF.out _ ((((Ext.refl wq).alloc _).cell (p:=⟨b,0,none⟩) hbl2).trans dl0)).mono ?_;rintro e w3 ⟨rfl,rfl⟩;go_wp2_with fail;go_roundw
     case rel=>exact⟨k+1,by go_num,by omega,Qq ⟨HX.out.trans (Qz.alloc _),HNEXT.out (by rw [HCO.out];rfl)⟩⟩
     case measure=>simp [intOf];omega
    cases ph
    ·have HE:=Qq (show Ys lg ks cs t=false from Zqs HN.out (by rw [HCO.out];rfl));go_wp2_with fail;refine(HRF.out _ ((((Ext.refl wq).alloc _).cell (p:=⟨b,0,none⟩) hbl2).trans dl0)).mono ?_;rintro e w3 ⟨rfl,rfl⟩;go_wp2_with fail;go_ret;exact⟨by rw [HE.out] <;> rfl,HX.out.trans (Qz.alloc _)⟩
    go_wp2_with fail;refine(HRF.out _ ((((Ext.refl wq).alloc _).cell (p:=⟨b,0,none⟩) hbl2).trans dl0)).mono ?_;rintro e w3 ⟨rfl,rfl⟩;go_wp2_with fail;go_roundw
    case rel=>exact⟨k+1,by go_num,by omega,Qq ⟨HX.out.trans (Qz.alloc _),HNEXT.out (by rw [HCO.out];rfl)⟩⟩
    case measure=>simp [intOf];omega
   obtain rfl:ks.length=k:=by omega
   have HE:=Qq (Qa4 HJC.out HJ.out);go_wp2_with fail;go_ret;exact⟨by rw [HE.out] <;> rfl,HX.out⟩
open Go.Maps (Keyed IsMap Tidy has has_put_same has_put_other atKey_put_same atKey_put_other)
def Gg(w:World)(b:Nat)(q ps:List Nat):Prop :=
 ∃(D:D0) (n:Nat),w.ownsMap Tryz.prog 3 (plainElem Tryz.prog 3) b n D/\n<=q.length/\(∀u:Nat,has D (.int .i64 (u:Int))=decide (u∈q.tail))/\
  (∀j:Nat,1<=j->j < q.length->∀z,D.atKey (.int .i64 ((q.getD j 0:Nat):Int)) z=.lit (.int .i64 ((ps.getD j 0:Nat):Int)))
theorem Gg.made(w:World)(t:Nat):Gg (w.alloc (.map #[] 0)) w.heap.size [t] [0]:=
 ⟨.map [],0,World.ownsMap_made w _ _ _,Nat.zero_le _,fun u=>by simp [has],fun j h1 h2=>by simp at h2;omega⟩
theorem Ee {w w':World} {P:Program} {k:TypeId} {R:Value->Option (D0×List MemPlace)} {b n:Nat} {D:D0}(h:w.ownsMap P k R b n D)(hb:w'.heap[b]?=w.heap[b]?):w'.ownsMap P k R b n D:=by
 obtain⟨es,clock,h1,h2⟩:=h;exact⟨es,clock,hb.trans h1,h2⟩
theorem Gg.lt {w:World} {b:Nat} {q ps:List Nat}(h:Gg w b q ps):b < w.heap.size:=by
 obtain⟨D,n,h1,_⟩:=h;exact h1.lt
theorem Gg.kept {w w':World} {b:Nat} {q ps:List Nat}(h:Gg w b q ps)(hb:w'.heap[b]?=w.heap[b]?):Gg w' b q ps:=by
 obtain⟨D,n,h1,h2⟩:=h;exact⟨D,n,Ee h1 hb,h2⟩
theorem Gg.put {w':World} {b:Nat} {q ps:List Nat} {D:D0} {n u i:Nat}(hD:IsMap D)(hn:n<=q.length)(hh:∀u:Nat,has D (.int .i64 (u:Int))=decide (u∈q.tail))
 (ha:∀j:Nat,1<=j->j < q.length->∀z,D.atKey (.int .i64 ((q.getD j 0:Nat):Int)) z=.lit (.int .i64 ((ps.getD j 0:Nat):Int)))(hp:0 < q.length)(hl:ps.length=q.length)(hu:u∉q.tail)
 (h:w'.ownsMap Tryz.prog 3 (plainElem Tryz.prog 3) b (n+1) (D.put (.int .i64 (u:Int)) (.lit (.int .i64 (i:Int))))):Gg w' b (q++ [u]) (ps++ [i]):=by
 have hkey:WideAt.IsKeyLit (.int .i64 (u:Int)):=trivial;have other:∀v:Nat,v≠u->(Lit.int .i64 (v:Int))≠.int .i64 (u:Int):=fun v e e'=>e (by injection e' with _ e';omega)
 refine⟨_,_,h,by simp;omega,fun v=> ?_,fun j h1 h2 z=> ?_⟩
 ·rw [Tz hp];by_cases e:v=u
  ·subst e;rw [has_put_same hD hkey];simp
  rw [has_put_other (other v e),hh v];simp [e]
 by_cases hj:j < q.length
 ·have hm:=Qz9 h1 hj;have hne:q.getD j 0≠u:=fun e=>hu (e▸hm)
  rw [Dk hj,Dk (by omega),atKey_put_other (other _ hne)];exact ha j h1 hj z
 have e:j=q.length:=by simp at h2;omega
 subst e;have e2:(ps++ [i]).getD q.length 0=i:=by rw [<-hl];exact Rv
 rw [Rv,e2];exact atKey_put_same hD hkey _ z
def Gk(l:List Nat):List Value:=l.map fun(u:Nat)=>Value.int .i64 (u:Int)
structure Nf (w wr:World) (cs:Array Value) (vq:Value) (q ps:List Nat):Prop where
 ext:Ext w wr
 box:wr.heap[w.heap.size]?=some (.cells cs 138 (0,0))
 map:Gg wr (w.heap.size+1) q ps
 row:wr.ownsRow (w.heap.size+2) 3 1 vq q.length (Gk q)
section
variable {w wr W:World} {cs:Array Value} {vq:Value} {q ps:List Nat}
theorem Nf.next(h:Nf w wr cs vq q ps)(he:Ext wr W):Nf w W cs vq q ps :=
 ⟨h.ext.trans he,(he.block (Qm h.box)).trans h.box,h.map.kept (he.block h.map.lt),Zf h.row he⟩
theorem Nf.push {w6 w7 W6:World} {v7:Value} {u i:Nat}(h:Nf w wr cs vq q ps)(hg6:wr.grownBy w6 (some (w.heap.size+1)))(hmap:Gg w6 (w.heap.size+1) (q++ [u]) (ps++ [i]))(he:Ext w6 W6)
 (hown:w7.ownsRow (w.heap.size+2) 3 1 v7 (q.length+1) (Gk q++ [.int .i64 (u:Int)]))(hg7:W6.grownBy w7 vq.ownBlock):Nf w w7 cs v7 (q++ [u]) (ps++ [i]):=by
 have hvq:∀g,vq.ownBlock=some g->w.heap.size+2<=g:=fun g hg=>(h.row.lt g hg).1
 have hb6:=Qm h.box;have s6:wr.heap.size<=w6.heap.size:=hg6.size;refine⟨((h.ext.grown hg6 (fun k hk=>by injection hk with hk;omega)).trans he).grown hg7 (fun g hg=>by have:=hvq g hg;omega),?_,?_,?_⟩
 ·rw [hg7.block _ (Qy hb6 (Qx s6 he.size)) (fun e=>by have:=hvq _ e.symm;omega),he.block (Qy hb6 s6),hg6.block _ hb6 (fun e=>by injection e with e;omega)];exact h.box
 ·refine hmap.kept ?_;rw [hg7.block _ (Qy hmap.lt he.size) (fun e=>by have:=hvq _ e.symm;omega),he.block hmap.lt]
 have e:Gk (q++ [u])=Gk q++ [.int .i64 (u:Int)]:=by unfold Gk;rw [List.map_append];rfl
 rw [e,List.length_append,List.length_singleton];exact hown
theorem Nf.row6 {w6:World}(h:Nf w wr cs vq q ps)(hg6:wr.grownBy w6 (some (w.heap.size+1))):w6.ownsRow (w.heap.size+2) 3 1 vq q.length (Gk q):=
 Zi h.row fun g hg=>hg6.block g (h.row.lt g hg).2 (fun e=>by injection e with e;have:=(h.row.lt g hg).1;omega)
theorem Uk {base n:Nat} {v:Value}(h:w.ownsRow base 3 1 v n (Gk q)) {j:Nat}(hj:j < q.length)(hn:n=q.length):∃g cap,v=.slice (some ⟨g,0,none⟩) n cap/\g < w.heap.size/\base<=g/\n<=cap/\cap<=maxLen/\w.cell? ⟨g,j,none⟩=some (.int .i64 ((q.getD j 0:Nat):Int)):=by
 rcases h.2 with⟨_,h0⟩|⟨g,cap,cur,rfl,hb,hg,hnc,hm,hs,ht⟩
 ·omega
 refine⟨g,cap,rfl,Qm hg,hb,hnc,hm,?_⟩;have hz:(Gk q)[j]?=some (.int .i64 ((q.getD j 0:Nat):Int)):=by
  unfold Gk;rw [List.getElem?_map,Qv hj,Qk,Qv hj];rfl
 rw [<-ht,List.getElem?_take]at hz
 split at hz
 ·have h2:cur[j]?=some (.int .i64 ((q.getD j 0:Nat):Int)):=by simpa using hz
  simp [World.cell?,hg,h2]
 cases hz
theorem Qsm(w:World)(base:Nat)(hb:base<=w.heap.size)(t:Nat):(w.alloc (.cells #[.int .i64 (t:Int)] 3)).ownsRow base 3 1 (.slice (some ⟨w.heap.size,0,none⟩) 1 1) 1 (Gk [t]):=
 ⟨rfl,.inr ⟨w.heap.size,1,#[.int .i64 (t:Int)],rfl,hb,heap_alloc_new _ _,Nat.le_refl _,by unfold maxLen;omega,rfl,rfl⟩⟩
end
end Go.Proofs.YtkmclcmnoicagaaGreatDoor
