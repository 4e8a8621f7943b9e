/- types' coherent: the walk. -/
import Derived.Test.YtkmclcmnoicagaaGreatDoorH21
import Derived.Maps.OwnOps
namespace Go.Proofs.YtkmclcmnoicagaaGreatDoor
set_option maxRecDepth 100000
set_option maxHeartbeats 128000000
open Go.RowKit
def Qqg(t:Nat)(c:Cm):Bool:=t.testBit c.place==((t&&&c.parts)==c.parts)
def Qv1(lg:Int)(t:Nat)(k:Kn):Bool:= !(Bw lg&&(t.testBit k.place&& !k.holds.getD t false))
theorem Qiq {lg:Int} {ks:List Kn} {cs:List Cm} {t k:Nat} {c:Cm}(hn:cs[k]?=some c)(h:Qqg t c=false):Vk lg ks cs t=false:=by
 unfold Vk;have:cs.all (fun c=>t.testBit c.place==((t&&&c.parts)==c.parts))=false:=by
  rw [List.all_eq_false];exact⟨c,List.mem_of_getElem? hn,by show ¬Qqg t c=true;rw [h];simp⟩
 rw [this];rfl
theorem Zve {lg:Int} {ks:List Kn} {cs:List Cm} {t k:Nat} {n:Kn}(hn:ks[k]?=some n)(h:Qv1 lg t n=false):Vk lg ks cs t=false:=by
 unfold Vk;have:ks.all (fun k=> !(Bw lg&&(t.testBit k.place&& !k.holds.getD t false)))=false:=by
  rw [List.all_eq_false];exact⟨n,List.mem_of_getElem? hn,by show ¬Qv1 lg t n=true;rw [h];simp⟩
 rw [this,Bool.and_false]
theorem Qi5 {lg:Int} {ks:List Kn} {cs:List Cm} {t:Nat}(h1:∀(j:Nat) (c:Cm),j < cs.length->cs[j]?=some c->Qqg t c=true)(h2:∀(j:Nat) (n:Kn),j < ks.length->ks[j]?=some n->Qv1 lg t n=true):Vk lg ks cs t=true:=by
 unfold Vk;rw [Bool.and_eq_true,List.all_eq_true,List.all_eq_true];constructor
 ·intro c hc;obtain⟨j,hj,e⟩:=List.getElem_of_mem hc;exact h1 j c hj (by rw [Qv hj,e])
 intro c hc;obtain⟨j,hj,e⟩:=List.getElem_of_mem hc;exact h2 j c hj (by rw [Qv hj,e])
theorem Qdm {w:World} {A:Option Addr} {c:Nat} {l:List Cm}(h:Qyz w A c l) {k:Nat} {n:Cm}(hk:l[k]?=some n):∃ad,A=some ad/\ad.block < w.heap.size/\Qb8 w (ad.add (k*5)) n:=by
 obtain⟨ad,e,hb,hc⟩:=h.2.2 (by intro e;rw [e]at hk;simp at hk);exact⟨ad,e,hb,hc k n hk⟩
theorem Qyb {w:World} {b:Nat} {a0 a1 a2 a3 a4:Value} {t:TypeId}(h:w.heap[b]?=some (.cells #[a0,a1,a2,a3,a4] t (0,0))):
 w.cell? ⟨b,0,none⟩=some a0/\w.cell? ⟨b,1,none⟩=some a1/\w.cell? ⟨b,2,none⟩=some a2/\w.cell? ⟨b,3,none⟩=some a3/\w.cell? ⟨b,4,none⟩=some a4/\b < w.heap.size :=
 ⟨by simp [World.cell?,h],by simp [World.cell?,h],by simp [World.cell?,h],by simp [World.cell?,h],by simp [World.cell?,h],Qn h⟩
theorem Qpg(t q:Nat)(ht:t < 18446744073709551616)(hq:q < 18446744073709551616):(bits .and .u64 (t:Int) (q:Int)==(q:Int))=((t&&&q)==q):=by
 rw [bits_and_u64_nat _ _ ht hq,Bool.eq_iff_iff,beq_iff_eq,beq_iff_eq];omega
theorem Qdc(b:Nat)(lg:Int)(base:List (List Nd))(root:List Bool)(ks:List Kn)(cs:List Cm)(alive:List Bool)(t:Nat)(w:World)
 (hE:Ex w b lg base root ks cs alive)(ht:t < 4096)(qV:∀k∈ks,k.place < 64/\t < k.holds.length)(qA:∀c∈cs,c.place < 64/\c.parts < 18446744073709551616):
 Calls Tryz.prog 131 #[.pointer (some ⟨b,0,none⟩),.int .u64 (t:Int)] w fun e w'=>e=.returned (.bool (Vk lg ks cs t))/\Qg w w':=by
 obtain⟨Ab,cb,Ar,cr,Ak,ck,Ac,cc,Aa,ca,d0,d1,d2,d3,d4,d5,xL,_,_,uX,xY,_⟩:=hE.cells;have HK:=Qq uX;have HC:=Qq xY;have IQ:=uX.1;have zU:=uX.2.1;have wN:=xY.1;have lX:=xY.2.1;unfold maxLen at zU lX;have sW:=Qq qV;have kT:=Qq qA;have D0:=Qq d0;have D3:=Qq d3;clear hE uX xY qV qA d1 d2 d3 d5 d0;go_enter Tryz.func131,Tryz.ntmps131;go_wp2_with fail;clear d4;go_loopw [14] (fun v wr=>∃k:Nat,v=.int .i64 (k:Int)/\k<=cs.length/\Hid (Qg w wr/\∀(j:Nat) (c:Cm),j < k->cs[j]?=some c->Qqg t c=true)) (fun v _=>cs.length - (intOf v).toNat)
 case atStart=>exact⟨0,rfl,Nat.zero_le _,Qq ⟨Qz,fun j n hj=>absurd hj (by omega)⟩⟩
 case round =>
  obtain⟨k,rfl,hk,zY⟩:=hrel;have HX:=Qq zY.out.1;have HJ:=Qq zY.out.2;clear zY;by_cases hlt2:k < cs.length
  ·have yV:(k:Int) < (cs.length:Int):=by omega
   obtain⟨n,hn⟩:∃n,cs[k]?=some n:=⟨_,Qv hlt2⟩;obtain⟨sE,RZ⟩:=kT.out n (List.mem_of_getElem? hn);obtain⟨ad,rfl,yX,yM⟩:=Qdm HC.out hn;obtain⟨vx,vy,c0,c1,c2,c3,c4,vE,qD⟩:=yM.ext HX.out (Qj yX);obtain⟨Ax,cx,rfl,_⟩:=vE;obtain⟨Ay,cy,rfl,_⟩:=qD;have tD:(ad.add (k*5)).block < wr.heap.size:=by rw [Qr];exact Qy yX HX.out.size
   have HN:=Qq hn;have xZ:=Qq (show Qqg t n=true->∀(j:Nat) (m:Cm),j < k+1->cs[j]?=some m->Qqg t m=true from fun hc j m hj hm=>by
    by_cases e:j < k
    ·exact HJ.out j m e hm
    have:j=k:=by omega
    subst this;rw [hn]at hm;injection hm with hm;rw [<-hm];exact hc)
   have yS:=Bc t n.place (by omega);have xA:=Qpg t n.parts (by omega) RZ;obtain⟨p1,lC⟩:∃x,x=t.testBit n.place:=⟨_,rfl⟩;obtain⟨p2,sT⟩:∃x,x=((t&&&n.parts)==n.parts):=⟨_,rfl⟩;have jH:=Qq (show Qqg t n=(p1==p2) by rw [lC,sT];rfl);rw [<-lC]at yS;rw [<-sT]at xA;clear hn yM lC sT;obtain⟨wq,vC⟩:∃v,v=wr:=⟨_,rfl⟩;subst vC;go_upto_region 4 with(fail);obtain⟨e0,e1,e2,e3,e4,eb⟩:=Qyb (show(wq.alloc (.cells #[.int .i64 (n.place:Int),.int .i64 n.group,.slice Ax n.x.length cx,.slice Ay n.y.length cy,.int .u64 (n.parts:Int)] 138)).heap[wq.heap.size]?=some (.cells #[.int .i64 (n.place:Int),.int .i64 n.group,.slice Ax n.x.length cx,.slice Ay n.y.length cy,.int .u64 (n.parts:Int)] 138 (0,0))from heap_alloc_new _ _)
   cases p1 <;> cases p2
   ·have HT:=Qq (show Qqg t n=true by rw [jH.out];rfl);refine wp_region_held_drew (S:=fun w'=>w'.cell? (⟨wq.heap.size,0,none⟩)=some (.int .i64 (n.place:Int))/\w'.cell? (⟨wq.heap.size,4,none⟩)=some (.int .u64 (n.parts:Int))) (by kernel_rfl) ⟨xc eb e0,xc eb e4⟩ (fun zZ=> ?_);refine tk 0 zZ ?_;refine tk 1 zZ ?_;refine tk 2 zZ ?_;refine tk 3 zZ ?_;refine tk 4 zZ ?_;refine tk 5 zZ ?_;refine tk 6 zZ ?_;refine tk 7 zZ ?_;refine tk 8 zZ ?_;refine tk 9 zZ ?_;refine tk 10 zZ ?_;refine tk 11 zZ ?_;refine tk 12 zZ ?_;refine tk 13 zZ ?_;refine wpAnyH_done (by kernel_rfl) ?_ _
    go_wp2_with fail;go_roundw
    case rel=>exact⟨k+1,by go_num,by omega,Qq ⟨HX.out.trans (Qz.alloc _).drew,xZ.out HT.out⟩⟩
    case measure=>simp [intOf];omega
   ·have HE:=Qq (show Vk lg ks cs t=false from Qiq HN.out (by rw [jH.out];rfl));refine wp_region_held_drew (S:=fun w'=>w'.cell? (⟨wq.heap.size,0,none⟩)=some (.int .i64 (n.place:Int))/\w'.cell? (⟨wq.heap.size,4,none⟩)=some (.int .u64 (n.parts:Int))) (by kernel_rfl) ⟨xc eb e0,xc eb e4⟩ (fun zZ=> ?_);refine tk 0 zZ ?_;refine tk 1 zZ ?_;refine tk 2 zZ ?_;refine tk 3 zZ ?_;refine tk 4 zZ ?_;refine tk 5 zZ ?_;refine tk 6 zZ ?_;refine tk 7 zZ ?_;refine tk 8 zZ ?_;refine tk 9 zZ ?_;refine tk 10 zZ ?_;refine tk 11 zZ ?_;refine tk 12 zZ ?_;refine tk 13 zZ ?_
    refine wpAnyH_done (by kernel_rfl) ?_ _;go_wp2_with fail;go_ret;exact⟨by rw [HE.out] <;> rfl,HX.out.trans (Qz.alloc _).drew⟩
   ·have HE:=Qq (show Vk lg ks cs t=false from Qiq HN.out (by rw [jH.out];rfl));refine wp_region_held_drew (S:=fun w'=>w'.cell? (⟨wq.heap.size,0,none⟩)=some (.int .i64 (n.place:Int))/\w'.cell? (⟨wq.heap.size,4,none⟩)=some (.int .u64 (n.parts:Int))) (by kernel_rfl) ⟨xc eb e0,xc eb e4⟩ (fun zZ=> ?_);refine tk 0 zZ ?_;refine tk 1 zZ ?_;refine tk 2 zZ ?_;refine tk 3 zZ ?_;refine tk 4 zZ ?_;refine tk 5 zZ ?_;refine tk 6 zZ ?_;refine tk 7 zZ ?_;refine tk 8 zZ ?_;refine tk 9 zZ ?_;refine tk 10 zZ ?_;refine tk 11 zZ ?_;refine tk 12 zZ ?_;refine tk 13 zZ ?_
    refine wpAnyH_done (by kernel_rfl) ?_ _;go_wp2_with fail;go_ret;exact⟨by rw [HE.out] <;> rfl,HX.out.trans (Qz.alloc _).drew⟩
   have HT:=Qq (show Qqg t n=true by rw [jH.out];rfl);refine wp_region_held_drew (S:=fun w'=>w'.cell? (⟨wq.heap.size,0,none⟩)=some (.int .i64 (n.place:Int))/\w'.cell? (⟨wq.heap.size,4,none⟩)=some (.int .u64 (n.parts:Int))) (by kernel_rfl) ⟨xc eb e0,xc eb e4⟩ (fun zZ=> ?_);refine tk 0 zZ ?_;refine tk 1 zZ ?_;refine tk 2 zZ ?_;refine tk 3 zZ ?_;refine tk 4 zZ ?_;refine tk 5 zZ ?_;refine tk 6 zZ ?_;refine tk 7 zZ ?_;refine tk 8 zZ ?_;refine tk 9 zZ ?_;refine tk 10 zZ ?_;refine tk 11 zZ ?_;refine tk 12 zZ ?_;refine tk 13 zZ ?_;refine wpAnyH_done (by kernel_rfl) ?_ _
   go_wp2_with fail;go_roundw
   case rel=>exact⟨k+1,by go_num,by omega,Qq ⟨HX.out.trans (Qz.alloc _).drew,xZ.out HT.out⟩⟩
   case measure=>simp [intOf];omega
  obtain rfl:cs.length=k:=by omega
  have I1:=Qq HJ.out;have TX:=Qq HX.out;have dw3:=(HX.out.cell (p:=⟨b,3,none⟩) xL).trans D3.out;clear HJ HX;obtain⟨w1,tI⟩:∃v,v=wr:=⟨_,rfl⟩;subst tI;go_wp2_with fail;clear dw3;go_loopw [38] (fun v wr=>∃k:Nat,v=.int .i64 (k:Int)/\k<=ks.length/\Hid (Qg w wr/\∀(j:Nat) (c:Kn),j < k->ks[j]?=some c->Qv1 lg t c=true)) (fun v _=>ks.length - (intOf v).toNat)
  case atStart=>exact⟨0,rfl,Nat.zero_le _,Qq ⟨TX.out,fun j n hj=>absurd hj (by omega)⟩⟩
  case round =>
   obtain⟨k,rfl,hk,zY⟩:=hrel;have HX:=Qq zY.out.1;have HJ:=Qq zY.out.2;clear zY;by_cases hlt2:k < ks.length
   ·have yV:(k:Int) < (ks.length:Int):=by omega
    obtain⟨n,hn⟩:∃n,ks[k]?=some n:=⟨_,Qv hlt2⟩;obtain⟨sE,SU⟩:=sW.out n (List.mem_of_getElem? hn);obtain⟨ad,rfl,yX,yM⟩:=Qjn HK.out hn;obtain⟨vh,c0,c1,c2,qX⟩:=yM.ext HX.out (Qj yX);obtain⟨Ah,ch,rfl,qX⟩:=qX;have hhc:=qX.1;have WY:=qX.2.1;unfold maxLen at WY;obtain⟨ah,rfl,CF,yR⟩:=Xb qX SU;have tD:(ad.add (k*3)).block < wr.heap.size:=by rw [Qr];exact Qy yX HX.out.size
    have LY:(ah.add t).block < wr.heap.size:=by rw [Qr];exact CF
    have LJ:(t:Int) < (n.holds.length:Int):=by omega
    have dl0:=(HX.out.cell (p:=⟨b,0,none⟩) xL).trans D0.out;have rO:b < wr.heap.size:=Qy xL HX.out.size;have HN:=Qq hn;have xZ:=Qq (show Qv1 lg t n=true->∀(j:Nat) (m:Kn),j < k+1->ks[j]?=some m->Qv1 lg t m=true from fun hc j m hj hm=>by
     by_cases e:j < k
     ·exact HJ.out j m e hm
     have:j=k:=by omega
     subst this;rw [hn]at hm;injection hm with hm;rw [<-hm];exact hc)
    have yS:=Bc t n.place (by omega);obtain⟨ph,RX⟩:∃x,x=n.holds.getD t false:=⟨_,rfl⟩;obtain⟨p1,lC⟩:∃x,x=t.testBit n.place:=⟨_,rfl⟩;obtain⟨pr,AU⟩:∃x,x=Bw lg:=⟨_,rfl⟩;have jH:=Qq (show Qv1 lg t n= !(pr&&(p1&& !ph)) by rw [RX,lC,AU];rfl);have JD:=Qq (show ∀W,W.cell? ⟨b,0,none⟩=some (.int .i64 lg)->Calls Tryz.prog 184 #[.pointer (some ⟨b,0,none⟩)] W fun e w'=>e=.returned (.bool pr)/\W=w' from fun W hW=>AU▸Qb0 b lg W hW);rw [<-RX]at yR;rw [<-lC]at yS;clear hn yM qX RX lC AU;obtain⟨wq,vC⟩:∃v,v=wr:=⟨_,rfl⟩;subst vC;cases pr
    ·go_wp2_with fail;refine(JD.out _ ((((Qg.refl wq).alloc _).cell (p:=⟨b,0,none⟩) rO).trans dl0)).mono ?_;rintro e w3 ⟨rfl,rfl⟩;go_wp2_with fail;go_roundw
     case rel=>exact⟨k+1,by go_num,by omega,Qq ⟨HX.out.trans (Qz.alloc _),xZ.out (by rw [jH.out];rfl)⟩⟩
     case measure=>simp [intOf];omega
    cases p1
    ·go_wp2_with fail;refine(JD.out _ ((((Qg.refl wq).alloc _).cell (p:=⟨b,0,none⟩) rO).trans dl0)).mono ?_;rintro e w3 ⟨rfl,rfl⟩;go_wp2_with fail;go_roundw
     case rel=>exact⟨k+1,by go_num,by omega,Qq ⟨HX.out.trans (Qz.alloc _),xZ.out (by rw [jH.out];rfl)⟩⟩
     case measure=>simp [intOf];omega
    cases ph
    ·have HE:=Qq (show Vk lg ks cs t=false from Zve HN.out (by rw [jH.out];rfl));go_wp2_with fail;refine(JD.out _ ((((Qg.refl wq).alloc _).cell (p:=⟨b,0,none⟩) rO).trans dl0)).mono ?_;rintro e w3 ⟨rfl,rfl⟩;go_wp2_with fail;go_ret;exact⟨by rw [HE.out] <;> rfl,HX.out.trans (Qz.alloc _)⟩
    go_wp2_with fail;refine(JD.out _ ((((Qg.refl wq).alloc _).cell (p:=⟨b,0,none⟩) rO).trans dl0)).mono ?_;rintro e w3 ⟨rfl,rfl⟩;go_wp2_with fail;go_roundw
    case rel=>exact⟨k+1,by go_num,by omega,Qq ⟨HX.out.trans (Qz.alloc _),xZ.out (by rw [jH.out];rfl)⟩⟩
    case measure=>simp [intOf];omega
   obtain rfl:ks.length=k:=by omega
   have HE:=Qq (Qi5 I1.out HJ.out);go_wp2_with fail;go_ret;exact⟨by rw [HE.out] <;> rfl,HX.out⟩
open Go.Maps (Keyed IsMap Tidy has has_put_same has_put_other atKey_put_same atKey_put_other)
def Ur(w:World)(b:Nat)(q ps:List Nat):Prop :=
 ∃(D:D0) (n:Nat),w.ownsMap Tryz.prog 3 (plainElem Tryz.prog 3) b n D/\n<=q.length/\(∀u:Nat,has D (.int .i64 (u:Int))=decide (u∈q.tail))/\
  (∀j:Nat,1<=j->j < q.length->∀z,D.atKey (.int .i64 ((q.getD j 0:Nat):Int)) z=.lit (.int .i64 ((ps.getD j 0:Nat):Int)))
theorem Ur.made(w:World)(t:Nat):Ur (w.alloc (.map #[] 0)) w.heap.size [t] [0]:=
 ⟨.map [],0,World.ownsMap_made w _ _ _,Nat.zero_le _,fun u=>by simp [has],fun j h1 h2=>by simp at h2;omega⟩
theorem Qzh {w w':World} {P:Program} {k:TypeId} {R:Value->Option (D0×List MemPlace)} {b n:Nat} {D:D0}(h:w.ownsMap P k R b n D)(hb:w'.heap[b]?=w.heap[b]?):w'.ownsMap P k R b n D:=by
 obtain⟨es,clock,h1,h2⟩:=h;exact⟨es,clock,hb.trans h1,h2⟩
theorem Ur.lt {w:World} {b:Nat} {q ps:List Nat}(h:Ur w b q ps):b < w.heap.size:=by
 obtain⟨D,n,h1,_⟩:=h;exact h1.lt
theorem Ur.kept {w w':World} {b:Nat} {q ps:List Nat}(h:Ur w b q ps)(hb:w'.heap[b]?=w.heap[b]?):Ur w' b q ps:=by
 obtain⟨D,n,h1,h2⟩:=h;exact⟨D,n,Qzh h1 hb,h2⟩
theorem Ur.put {w':World} {b:Nat} {q ps:List Nat} {D:D0} {n u i:Nat}(hD:IsMap D)(hn:n<=q.length)(hh:∀u:Nat,has D (.int .i64 (u:Int))=decide (u∈q.tail))
 (ha:∀j:Nat,1<=j->j < q.length->∀z,D.atKey (.int .i64 ((q.getD j 0:Nat):Int)) z=.lit (.int .i64 ((ps.getD j 0:Nat):Int)))(hp:0 < q.length)(hl:ps.length=q.length)(hu:u∉q.tail)
 (h:w'.ownsMap Tryz.prog 3 (plainElem Tryz.prog 3) b (n+1) (D.put (.int .i64 (u:Int)) (.lit (.int .i64 (i:Int))))):Ur w' b (q++ [u]) (ps++ [i]):=by
 have vW:WideAt.IsKeyLit (.int .i64 (u:Int)):=trivial;have other:∀v:Nat,v≠u->(Lit.int .i64 (v:Int))≠.int .i64 (u:Int):=fun v e e'=>e (by injection e' with _ e';omega)
 refine⟨_,_,h,by simp;omega,fun v=> ?_,fun j h1 h2 z=> ?_⟩
 ·rw [Mi hp];by_cases e:v=u
  ·subst e;rw [has_put_same hD vW];simp
  rw [has_put_other (other v e),hh v];simp [e]
 by_cases hj:j < q.length
 ·have hm:=Qkd h1 hj;have zQ:q.getD j 0≠u:=fun e=>hu (e▸hm)
  rw [Rc hj,Rc (by omega),atKey_put_other (other _ zQ)];exact ha j h1 hj z
 have e:j=q.length:=by simp at h2;omega
 subst e;have e2:(ps++ [i]).getD q.length 0=i:=by rw [<-hl];exact Ti
 rw [Ti,e2];exact atKey_put_same hD vW _ z
def Ge(l:List Nat):List Value:=l.map fun(u:Nat)=>Value.int .i64 (u:Int)
structure Tv (w wr:World) (cs:Array Value) (vq:Value) (q ps:List Nat):Prop where
 ext:Qg w wr
 box:wr.heap[w.heap.size]?=some (.cells cs 138 (0,0))
 map:Ur wr (w.heap.size+1) q ps
 row:wr.ownsRow (w.heap.size+2) 3 1 vq q.length (Ge q)
section
variable {w wr W:World} {cs:Array Value} {vq:Value} {q ps:List Nat}
theorem Tv.next(h:Tv w wr cs vq q ps)(he:Qg wr W):Tv w W cs vq q ps :=
 ⟨h.ext.trans he,(he.block (Qn h.box)).trans h.box,h.map.kept (he.block h.map.lt),Zg h.row he⟩
theorem Tv.push {w6 w7 W6:World} {v7:Value} {u i:Nat}(h:Tv w wr cs vq q ps)(kG:wr.grownBy w6 (some (w.heap.size+1)))(kD:Ur w6 (w.heap.size+1) (q++ [u]) (ps++ [i]))(he:Qg w6 W6)
 (xJ:w7.ownsRow (w.heap.size+2) 3 1 v7 (q.length+1) (Ge q++ [.int .i64 (u:Int)]))(tW:W6.grownBy w7 vq.ownBlock):Tv w w7 cs v7 (q++ [u]) (ps++ [i]):=by
 have YJ:∀g,vq.ownBlock=some g->w.heap.size+2<=g:=fun g hg=>(h.row.lt g hg).1
 have mB:=Qn h.box;have s6:wr.heap.size<=w6.heap.size:=kG.size;refine⟨((h.ext.grown kG (fun k hk=>by injection hk with hk;omega)).trans he).grown tW (fun g hg=>by have:=YJ g hg;omega),?_,?_,?_⟩
 ·rw [tW.block _ (Qy mB (Qx s6 he.size)) (fun e=>by have:=YJ _ e.symm;omega),he.block (Qy mB s6),kG.block _ mB (fun e=>by injection e with e;omega)];exact h.box
 ·refine kD.kept ?_;rw [tW.block _ (Qy kD.lt he.size) (fun e=>by have:=YJ _ e.symm;omega),he.block kD.lt]
 have e:Ge (q++ [u])=Ge q++ [.int .i64 (u:Int)]:=by unfold Ge;rw [List.map_append];rfl
 rw [e,List.length_append,List.length_singleton];exact xJ
theorem Tv.row6 {w6:World}(h:Tv w wr cs vq q ps)(kG:wr.grownBy w6 (some (w.heap.size+1))):w6.ownsRow (w.heap.size+2) 3 1 vq q.length (Ge q):=
 Zp h.row fun g hg=>kG.block g (h.row.lt g hg).2 (fun e=>by injection e with e;have:=(h.row.lt g hg).1;omega)
theorem Up {base n:Nat} {v:Value}(h:w.ownsRow base 3 1 v n (Ge q)) {j:Nat}(hj:j < q.length)(hn:n=q.length):∃g cap,v=.slice (some ⟨g,0,none⟩) n cap/\g < w.heap.size/\base<=g/\n<=cap/\cap<=maxLen/\w.cell? ⟨g,j,none⟩=some (.int .i64 ((q.getD j 0:Nat):Int)):=by
 rcases h.2 with⟨_,h0⟩|⟨g,cap,cur,rfl,hb,hg,gM,hm,hs,ht⟩
 ·omega
 refine⟨g,cap,rfl,Qn hg,hb,gM,hm,?_⟩;have hz:(Ge q)[j]?=some (.int .i64 ((q.getD j 0:Nat):Int)):=by
  unfold Ge;rw [List.getElem?_map,Qv hj,Qk,Qv hj];rfl
 rw [<-ht,List.getElem?_take]at hz
 split at hz
 ·have h2:cur[j]?=some (.int .i64 ((q.getD j 0:Nat):Int)):=by simpa using hz
  simp [World.cell?,hg,h2]
 cases hz
theorem Qma(w:World)(base:Nat)(hb:base<=w.heap.size)(t:Nat):(w.alloc (.cells #[.int .i64 (t:Int)] 3)).ownsRow base 3 1 (.slice (some ⟨w.heap.size,0,none⟩) 1 1) 1 (Ge [t]):=
 ⟨rfl,.inr ⟨w.heap.size,1,#[.int .i64 (t:Int)],rfl,hb,heap_alloc_new _ _,Nat.le_refl _,by unfold maxLen;omega,rfl,rfl⟩⟩
end
open Go.Maps (has)
def Qif(step:Nat->Nat->Bool)(y:Nat->Bool)(t:Nat)(w:World)(e:Ending)(w':World):Prop :=
 (e=.returned (.slice none 0 0)/\Qg w w'/\¬∃u,Kj (fun a b=>step a b=true) t u/\y u=false)\/
 (∃ad c ls,e=.returned (.slice (some ad) ls.length c)/\Qg w w'/\w'.ownsRow w.heap.size 3 1 (.slice (some ad) ls.length c) ls.length (Ge ls)/\ls≠ []/\Wb step t ls/\(∀u,ls[0]?=some u->y u=false)/\∃u,Kj (fun a b=>step a b=true) t u/\y u=false)
theorem Qa5 {P:Nat->Bool}(k:Nat):(List.range (k+1)).any P=((List.range k).any P||P k):=by
 rw [List.range_succ,List.any_append];simp
theorem Qnf(q:List Nat)(u:Nat):Ge (q++ [u])=Ge q++ [.int .i64 (u:Int)]:=by
 unfold Ge;rw [List.map_append];rfl
theorem Ag {a:Nat}(h:a<=1000000):Vp (a:Int):=⟨by omega,by omega⟩
theorem Qnc(b:Nat)(lg:Int)(base:List (List Nd))(root:List Bool)(ks:List Kn)(cs:List Cm)(alive:List Bool)(c:Cm)(t:Nat)(vx vy:Value)(w:World)
 (hE:Ex w b lg base root ks cs alive)(xX:0<=lg/\lg<=6)(ht:t < 4096)(hm:alive.length<=4096)(qV:∀k∈ks,k.place < 64/\alive.length<=k.holds.length)(hx:Kc w vx c.x)(hy:Kc w vy c.y)(uU:c.x.length=alive.length)(jS:c.y.length=alive.length)(bB:0<=c.group/\c.group < 16)(pP:0 < alive.length):
 Calls Tryz.prog 139 #[.pointer (some ⟨b,0,none⟩),.agg #[.int .i64 (c.place:Int),.int .i64 c.group,vx,vy,.int .u64 (c.parts:Int)],.int .u64 (t:Int)] w (Qif (Pm lg ks alive c) (fun u=>c.y.getD u false) t w):=by
 have rH:= @run_makeMap Tryz.prog;obtain⟨Ab,cb,Ar,cr,Ak,ck,Ac,cc,Aa,ca,d0,d1,d2,d3,d4,d5,xL,_,_,uX,_,wJ⟩:=hE.cells;have HE:=Qq hE;obtain⟨ag,rfl,hagb,_⟩:=Xb wJ pP;obtain⟨Ax,cx,rfl,vE⟩:=hx;obtain⟨Ay,cy,rfl,qD⟩:=hy;obtain⟨ax,rfl,rR,_⟩:=Xb vE (show 0 < c.x.length by omega);obtain⟨ay,rfl,aT,_⟩:=Xb qD (show 0 < c.y.length by omega);have HA:=Qq wJ;have wC:=Qq vE;have eV:=Qq qD;have ZI:=wJ.1;have qC:=wJ.2.1;have hxc:=vE.1;have TD:=vE.2.1;have hyc:=qD.1;have hcy:=qD.2.1;unfold maxLen at qC TD hcy;have sW:=Qq qV;obtain⟨gn,vL⟩:=Int.eq_ofNat_of_zero_le bB.1
 have SW:gn < 16:=by omega
 obtain⟨m,pT⟩:∃m,m=alive.length:=⟨_,rfl⟩;have HXL:=Qq (show c.x.length=m by rw [uU,pT]);have S0:=Qq (show c.y.length=m by rw [jS,pT]);rw [<-pT]at hm pP d5 ZI;rw [show c.x.length=m by rw [uU,pT]]at hxc⊢;rw [show c.y.length=m by rw [jS,pT]]at hyc⊢;rw [vL];have mJ:=Qq vL;have HM:=Qq pT;obtain⟨st,wZ⟩:∃s,s=Pm lg ks alive c:=⟨_,rfl⟩;have zA:=Qq wZ;obtain⟨yy,XY⟩:∃s:Nat->Bool,s=fun u=>c.y.getD u false:=⟨_,rfl⟩
 have R9:=Qq XY;rw [<-wZ,<-XY];have vY:=Qq (show ∀a u,st a u=(alive.getD u false&&(c.x.getD u false&&(List.range 4).any fun(i:Nat)=>Vg (gn:Int) i&&Jy lg ks (i:Int) a u))from fun a u=>by rw [wZ];unfold Pm;rw [vL]);obtain⟨iI,pU,vQ,vP,vO⟩:=info_parts Ih;have D5:=Qq d5;clear hE wJ vE qD qV vL pT wZ XY uX uU jS d0 d1 d2 d3 d4 d5 bB;go_enter Tryz.func139,Tryz.ntmps139;go_wp2_with fail
 have bK:=Qq (show Tv w (((w.alloc (.cells #[.int .i64 (c.place:Int),.int .i64 (gn:Int),.slice (some ax) m cx,.slice (some ay) m cy,.int .u64 (c.parts:Int)] 138)).alloc (.map #[] 0)).alloc (.cells #[.int .i64 (t:Int)] 3)) #[.int .i64 (c.place:Int),.int .i64 (gn:Int),.slice (some ax) m cx,.slice (some ay) m cy,.int .u64 (c.parts:Int)] (.slice (some ⟨w.heap.size+1+1,0,none⟩) 1 1) [t] [0]from
  ⟨((Qz.alloc _).alloc _).alloc _,((Qz.alloc _).alloc _).block (by simp)|>.trans (heap_alloc_new _ _),by
    have:=(Ur.made (w.alloc (.cells #[.int .i64 (c.place:Int),.int .i64 (gn:Int),.slice (some ax) m cx,.slice (some ay) m cy,.int .u64 (c.parts:Int)] 138)) t);simp only [World.size_alloc]at this;exact this.kept ((Qz.alloc _).block (by simp)),by
    have:=Qma ((w.alloc (.cells #[.int .i64 (c.place:Int),.int .i64 (gn:Int),.slice (some ax) m cx,.slice (some ay) m cy,.int .u64 (c.parts:Int)] 138)).alloc (.map #[] 0)) (w.heap.size+2) (by simp) t
    simpa using this⟩)
 go_loopw [8,9] (fun vq vi wr=>∃i:Nat,vi=.int .i64 (i:Int)/\i<=m+1/\Hid (∃q ps,Tv w wr #[.int .i64 (c.place:Int),.int .i64 (gn:Int),.slice (some ax) m cx,.slice (some ay) m cy,.int .u64 (c.parts:Int)] vq q ps/\Pp st m t q ps/\i<=q.length/\(∀u∈q.tail,yy u=true)/\∀j,j < i->∀u,st (q.getD j 0) u=true->u∈q.tail)) (fun _ v _=>m+2 - (intOf v).toNat)
 case atStart=>exact⟨0,rfl,Nat.zero_le _,Qq ⟨[t],[0],bK.out,Pp.start _ _ _,Nat.zero_le _,(fun u hu=>by cases hu),(fun j hj=>absurd hj (by omega))⟩⟩
 case round =>
  clear bK;obtain⟨i,rfl,hi,zY⟩:=hrel;obtain⟨q,ps,lB,TN,dE,YA,yU⟩:=zY.out;have nA:=Qq lB;have iE:=Qq TN;have bF:=Qq YA;have uO:=Qq yU;have L3:=TN.qlen;obtain⟨Aq,cq,rfl⟩:=Qt lB.row;clear zY lB TN YA yU;by_cases zJ:i < q.length
  ·have BH:(i:Int) < (q.length:Int):=by omega
   have dl5:=(nA.out.ext.cell (p:=⟨b,5,none⟩) xL).trans D5.out;obtain⟨wo,bV⟩:∃v,v=wr:=⟨_,rfl⟩;subst bV;go_wp2_with fail;clear dl5;go_loopw [8,33] (fun vq vk wr=>∃k:Nat,vk=.int .i64 (k:Int)/\k<=m/\Hid (∃q ps,Tv w wr #[.int .i64 (c.place:Int),.int .i64 (gn:Int),.slice (some ax) m cx,.slice (some ay) m cy,.int .u64 (c.parts:Int)] vq q ps/\Pp st m t q ps/\i < q.length/\(∀u∈q.tail,yy u=true)/\(∀j,j < i->∀u,st (q.getD j 0) u=true->u∈q.tail)/\∀u,u < k->st (q.getD i 0) u=true->u∈q.tail)) (fun _ v _=>m - (intOf v).toNat)
   case atStart=>exact⟨0,rfl,Nat.zero_le _,Qq ⟨q,ps,nA.out,iE.out,zJ,bF.out,uO.out,(fun u hu=>absurd hu (by omega))⟩⟩
   case round =>
    clear nA iE bF uO L3 zJ BH dE;obtain⟨k,rfl,hk,zY⟩:=hrel;obtain⟨q,ps,lB,TN,dE,YA,yU,RZ⟩:=zY.out;have nA:=Qq lB;have iE:=Qq TN;have bF:=Qq YA;have uO:=Qq yU;have T7:=Qq RZ;have L3:=TN.qlen;obtain⟨Aq,cq,rfl⟩:=Qt lB.row;clear zY lB TN YA yU RZ;by_cases hlt2:k < m
    ·have yV:(k:Int) < (m:Int):=by omega
     obtain⟨_,e1,_,a0⟩:=Xb (HA.out.ext nA.out.ext) (show k < alive.length by rw [<-HM.out];exact hlt2);injection e1 with e1;subst e1;obtain⟨_,e1,Z5,x0⟩:=Xb (wC.out.ext nA.out.ext) (show k < c.x.length by rw [HXL.out];exact hlt2);injection e1 with e1;subst e1;obtain⟨_,e1,Z2,y0⟩:=Xb (eV.out.ext nA.out.ext) (show k < c.y.length by rw [S0.out];exact hlt2);injection e1 with e1;subst e1;obtain⟨b0,b1,b2,b3,b4,bl⟩:=Qyb nA.out.box;obtain⟨D,nD,xJ,hnD,SV,WV⟩:=nA.out.map;have vW:=Re (Ag (a:=k) (by omega));have CE:=SV k;have OA:=Qq xJ;have I7:=Qq SV
     have U6:=Qq WV;have lM:=Qq (show ∀u,u < k+1->(u=k->st (q.getD i 0) k=true->k∈q.tail)->st (q.getD i 0) u=true->u∈q.tail from fun u hu h2 h3=>by
      by_cases e:u < k
      ·exact T7.out u e h3
      have:u=k:=by omega
      subst this;exact h2 rfl h3)
     clear SV WV;by_cases hseen:k∈q.tail
     ·have lI:=Qq hseen;rw [decide_eq_true hseen]at CE;clear hseen;go_wp2_with(at_lookup;refine wpList_lookup_own_ok_int _ rfl _ _ 178 rfl 3 3 .i64 Um Tryz.underlying178 Tryz.underlying3 (Lr _) (w.heap.size+1) nD D rfl xJ _ _ rfl vW ?_;intro cc yM tH;clear yM tH);go_roundw
      case rel=>exact⟨k+1,by go_num,by omega,Qq ⟨q,ps,nA.out,iE.out,dE,bF.out,uO.out,fun u hu=>lM.out u hu (fun _ _=>lI.out)⟩⟩
      case measure=>simp [intOf];omega
     have lI:=Qq hseen;rw [decide_eq_false hseen]at CE;clear hseen;have mZ:=Qq (fun a=>vY.out a k);obtain⟨ak,qE⟩:∃x,x=alive.getD k false:=⟨_,rfl⟩;obtain⟨xk,PS⟩:∃x,x=c.x.getD k false:=⟨_,rfl⟩;rw [<-qE,<-PS]at mZ;rw [<-qE]at a0;rw [<-PS]at x0;clear qE PS;cases ak
     ·go_wp2_with(at_lookup;refine wpList_lookup_own_ok_int _ rfl _ _ 178 rfl 3 3 .i64 Um Tryz.underlying178 Tryz.underlying3 (Lr _) (w.heap.size+1) nD D rfl xJ _ _ rfl vW ?_;intro cc yM tH;clear yM tH);go_roundw
      case rel=>exact⟨k+1,by go_num,by omega,Qq ⟨q,ps,nA.out,iE.out,dE,bF.out,uO.out,fun u hu=>lM.out u hu (fun _ h=>by rw [mZ.out]at h;cases h)⟩⟩
      case measure=>simp [intOf];omega
     cases xk
     ·go_wp2_with(at_lookup;refine wpList_lookup_own_ok_int _ rfl _ _ 178 rfl 3 3 .i64 Um Tryz.underlying178 Tryz.underlying3 (Lr _) (w.heap.size+1) nD D rfl xJ _ _ rfl vW ?_;intro cc yM tH;clear yM tH);go_roundw
      case rel=>exact⟨k+1,by go_num,by omega,Qq ⟨q,ps,nA.out,iE.out,dE,bF.out,uO.out,fun u hu=>lM.out u hu (fun _ h=>by rw [mZ.out]at h;cases h)⟩⟩
      case measure=>simp [intOf];omega
     obtain⟨P,hP⟩:∃P:Nat->Bool,P=fun(j:Nat)=>Vg (gn:Int) j&&Jy lg ks (j:Int) (q.getD i 0) k:=⟨_,rfl⟩
     have G2:=Qq hP;have UF:=Qq (show st (q.getD i 0) k=(List.range 4).any P by rw [mZ.out,hP];rfl);have hqi:q.getD i 0 < 4096:=by
      by_cases e:i=0
      ·subst e;have:=iE.out.head;rw [Qk,this];exact ht
      have:=iE.out.lt _ (Qkd (j:=i) (by omega) dE);omega
     clear hP;go_wp2_with(at_lookup;refine wpList_lookup_own_ok_int _ rfl _ _ 178 rfl 3 3 .i64 Um Tryz.underlying178 Tryz.underlying3 (Lr _) (w.heap.size+1) nD D rfl xJ _ _ rfl vW ?_;intro cc yM tH;clear yM tH);obtain⟨wm,hwm⟩:∃v,v=wr:=⟨_,rfl⟩;subst hwm;clear a0 x0 y0 b0 b1 b2 b3 b4 xJ CE Z5 Z2;go_loopw [14,57] (fun vb va wr=>∃j:Nat,va=.int .i64 (j:Int)/\j<=4/\vb=.bool ((List.range j).any P)/\Hid (Qg wm wr)) (fun _ v _=>4 - (intOf v).toNat)
     case atStart=>exact⟨0,rfl,Nat.zero_le _,rfl,Qq Qz⟩
     case round =>
      obtain⟨j,rfl,hj,rfl,HX⟩:=hrel;by_cases IS:j < 4
      ·have oM:(j:Int) < 4:=by omega
       have gV:=Qq (Qa5 (P:=P) j);have HN:=Qq (nA.out.next HX.out);obtain⟨b0,b1,b2,b3,b4,bl⟩:=Qyb HN.out.box;obtain⟨g2,cap2,vR,sU,_,jZ,sR,qB⟩:=Up HN.out.row dE rfl;injection vR with hsl2a _ hsl2b;subst hsl2a hsl2b;unfold maxLen at sR;have hiqi:(i:Int) < (q.length:Int):=by omega
       obtain⟨qi,WP⟩:∃x,x=q.getD i 0:=⟨_,rfl⟩;rw [<-WP]at qB hqi;have HQQ:=Qq WP;have iY:=Qq (Mz b lg base root ks cs alive (j:Int) qi k wr (HE.out.ext HN.out.ext) xX (by omega) (by omega) (fun n hn=>⟨(sW.out n hn).1,by have:=(sW.out n hn).2;rw [<-HM.out]at this;omega⟩));have tC:=Co gn j (by omega);have JH:=Qq (show P j=(gn.testBit j&&Jy lg ks (j:Int) qi k) by rw [G2.out,WP];rfl);clear WP;generalize (List.range j).any P=aj at gV;obtain⟨pj,QB⟩:∃x,x=Jy lg ks (j:Int) qi k:=⟨_,rfl⟩;rw [<-QB]at iY JH;obtain⟨gj,YY⟩:∃x,x=gn.testBit j:=⟨_,rfl⟩;rw [<-YY]at tC JH
       clear QB YY;cases aj
       ·cases gj
        ·go_wp2_with fail;go_roundw
         case rel=>exact⟨j+1,by go_num,by omega,by rw [gV.out,JH.out];rfl,HX⟩
         case measure=>simp [intOf];omega
        go_wp2_with fail;refine iY.out.mono ?_;rintro e w2 ⟨rfl,zS⟩;have zT:=Qq (HX.out.trans zS);clear zS;go_wp2_with fail;go_roundw
        case rel=>exact⟨j+1,by go_num,by omega,by rw [gV.out,JH.out];cases pj <;> rfl,zT⟩
        case measure=>simp [intOf];omega
       go_wp2_with fail;go_roundw
       case rel=>exact⟨j+1,by go_num,by omega,by rw [gV.out];rfl,HX⟩
       case measure=>simp [intOf];omega
      obtain rfl:4=j:=by omega
      have HN:=Qq (nA.out.next HX.out);cases tK:(List.range 4).any P
      ·have ES:=Qq (UF.out.trans tK);clear tK;go_wp2_with fail;go_roundw
       case rel=>exact⟨k+1,by go_num,by omega,Qq ⟨q,ps,HN.out,iE.out,dE,bF.out,uO.out,fun u hu=>lM.out u hu (fun _ h=>by rw [ES.out]at h;cases h)⟩⟩
       case measure=>simp [intOf];omega
      have ES:=Qq (UF.out.trans tK);clear tK;have nZ:=Qq (show Pp st m t (q++ [k]) (ps++ [i])from iE.out.push dE hlt2 lI.out ES.out);obtain⟨D2,nD2,rB,YR,N4,wV⟩:=HN.out.map;have I8:=Qq N4;have H9:=Qq wV;have NZ:=Qq rB;have QM:=Qv5 (Ag (a:=i) (by omega));have wI:=Ag (a:=k) (by omega);have PX:0 < q.length:=by omega
      have qI:=Qq iE.out.len;clear N4 wV;go_upto_region 19 with(at_mapUpdate;refine wpList_mapUpdate_own _ rfl _ _ _ 178 rfl 3 3 Um Tryz.underlying178 _ (w.heap.size+1) nD2 D2 rfl rB (by unfold maxLen;omega) _ _ _ rfl rfl vW _ [] QM ?_;intro w6 pS wS);have JO:=Qq wS;have bM:=Qq (show Ur w6 (w.heap.size+1) (q++ [k]) (ps++ [i])from Ur.put NZ.out.isMap YR I8.out H9.out PX qI.out lI.out pS);have mM:w.heap.size+2<=w6.heap.size:=by
       have h1:=bM.out.lt;have h2:=HN.out.row6 wS;obtain⟨g2,_,_,sU,YZ,_⟩:=Up h2 dE rfl;omega
      have EY:=Qq (HN.out.row6 wS);clear rB pS wS QM vW;have xS:q.length+1<=maxLen:=by unfold maxLen;omega
      have xP:(q.length+1)*8<=140737488355328:=by omega
      go_wp2_with(at_builtin;refine wpList_append_own_at _ rfl _ _ 36 rfl (w.heap.size+2) 3 iI (.int .i64 0) 1 8 Tryz.underlying36 pU vQ vP vO rfl (by decide) _ q.length (Ge q) rfl (Zg EY.out (Qz.alloc _)) ⟨_,0,none⟩ 1 1 [.int .i64 (k:Int)] rfl rfl (Zt _ _ _ (by simp)) (fun u hu=>by rw [List.mem_singleton.1 hu];rfl) xS xP (by simp;omega) ?_);intro v7 w7 zW zX _ zF;have qQ:=Qq (Tv.push HN.out JO.out bM.out (Qz.alloc _) zW zX);obtain⟨A7,c7,rfl⟩:=Qt zW;clear zW zX zF;obtain⟨b0,b1,b2,b3,b4,bl⟩:=Qyb qQ.out.box;obtain⟨_,e1,hyb7,y0⟩:=Xb (eV.out.ext qQ.out.ext) (show k < c.y.length by rw [S0.out];exact hlt2)
      injection e1 with e1;subst e1;have JA:=Qq (show yy k=c.y.getD k false by rw [R9.out]);obtain⟨yk,K1⟩:∃x,x=c.y.getD k false:=⟨_,rfl⟩;rw [<-K1]at y0 JA;clear K1;have T9:=Qq (show ∀u,u∈q.tail->u∈(q++ [k]).tail from fun u hu=>by rw [Mi PX];exact List.mem_append_left _ hu);have H6:=Qq (show k∈(q++ [k]).tail by rw [Mi PX];simp);cases yk
      case true =>
       go_wp2_with fail;go_roundw
       case rel=>exact⟨k+1,by go_num,by omega,Qq ⟨q++ [k],ps++ [i],qQ.out,nZ.out,by simp;omega,(fun u hu=>by
        rw [Mi PX]at hu;rcases List.mem_append.1 hu with hu|hu
        ·exact bF.out u hu
        ·rw [List.mem_singleton.1 hu];exact JA.out),(fun j hj u hu=>by
        rw [Rc (by omega)]at hu;exact T9.out u (uO.out j hj u hu)),(fun u hu h=>by
        rw [Rc dE]at h;by_cases e:u=k
        ·subst e;exact H6.out
        exact T9.out u (lM.out u hu (fun e'=>absurd e' e) h))⟩⟩
       case measure=>simp [intOf];omega
      case false =>
       have UP:=Qq (show ∃u,Kj (fun a b=>st a b=true) t u/\yy u=false from⟨k,by
        have:=nZ.out.reach q.length (by omega) (by simp);rw [Ti]at this;exact this,JA.out⟩)
       have PY:q.length<=4097:=by omega
       go_wp2_with fail;clear y0 b0 b1 b2 b3 b4;go_loopw [16,17] (fun vl vk wr=>∃kk:Nat,vk=.int .i64 (kk:Int)/\kk<=q.length/\Hid (∃ls,wr.ownsRow w7.heap.size 3 1 vl ls.length (Ge ls)/\Qg w7 wr/\Wb st ((q++ [k]).getD kk 0) ls/\(ls= []->kk=q.length)/\(∀u,ls[0]?=some u->u=k)/\ls.length+kk<=q.length)) (fun _ v _=>(intOf v).toNat)
       case atStart=>exact⟨q.length,by go_num,Nat.le_refl _,Qq ⟨[],World.ownsRow_nil _ _ _ _,Qz,trivial,fun _=>rfl,(fun u hu=>by cases hu),by simp⟩⟩
       case round =>
        obtain⟨kk,rfl,hkk,zY⟩:=hrel;obtain⟨ls,wP,uU,aX,iN,LX,IV⟩:=zY.out;have ZX:=Qq wP;have ZO:=Qq uU;have UY:=Qq aX;have bN:=Qq iN;have kP:=Qq LX;have tQ:=Qq (qQ.out.next uU);obtain⟨Al,cl,rfl⟩:=Qt wP;clear zY wP uU aX iN LX;by_cases YV:0 < kk
        ·have hk0i:(0:Int) < (kk:Int):=by omega
         obtain⟨g2,cap2,vR,sU,YZ,jZ,sR,qB⟩:=Up (q:=q++ [k]) (n:=q.length+1) (j:=kk) (by have:=qQ.out.row;rw [List.length_append,List.length_singleton]at this;exact this) (by rw [List.length_append,List.length_singleton];omega) (by rw [List.length_append,List.length_singleton]);injection vR with hsl2a _ hsl2b;subst hsl2a hsl2b;unfold maxLen at sR;have hkki:(kk:Int) < ((q.length:Int)+1):=by omega
         have M4:(kk:Int) < ((q.length+1:Nat):Int):=by omega
         obtain⟨qk,gI⟩:∃x,x=(q++ [k]).getD kk 0:=⟨_,rfl⟩;obtain⟨pk,cK⟩:∃x,x=(ps++ [i]).getD kk 0:=⟨_,rfl⟩;have NY:=Qq (show pk < kk/\st ((q++ [k]).getD pk 0) qk=true by rw [cK,gI];exact nZ.out.par kk (by omega) (by rw [List.length_append,List.length_singleton];omega));have hqk4:qk < 4096:=by
          have:=nZ.out.lt _ (Qkd (j:=kk) (by omega) (by rw [List.length_append,List.length_singleton];omega));rw [<-gI]at this;omega
         have hpk1:=NY.out.1;have FX:=Qq (show ∀W,Qg w7 W->∃(D:D0) (n:Nat),W.ownsMap Tryz.prog 3 (plainElem Tryz.prog 3) (w.heap.size+1) n D/\∀z,D.atKey (.int .i64 (qk:Int)) z=.lit (.int .i64 (pk:Int))from fun W hW=>by
          obtain⟨D,n,h1,_,_,h4⟩:=(qQ.out.next hW).map;refine⟨D,n,h1,fun z=> ?_⟩;have:=h4 kk (by omega) (by rw [List.length_append,List.length_singleton];omega) z;rw [<-gI,<-cK]at this;exact this)
         have FV:=Qq (show Wb st ((q++ [k]).getD pk 0) (ls++ [qk])from Qxc ls qk _ (by rw [gI];exact UY.out) NY.out.2 rfl);have GB:=Qq (show ∀u,(ls++ [qk])[0]?=some u->u=k from fun u hu=>by
          cases YU:ls with
          |nil =>
           rw [YU]at hu;have e:=bN.out YU;rw [e,Ti]at gI;simp at hu;omega
          |cons a r =>
           rw [YU]at hu;refine kP.out u ?_;rw [YU]
           simpa using hu)
         rw [<-gI]at qB;have dI:=(ZO.out.cell (p:=⟨g2,kk,none⟩) sU).trans qB;have hkq:=Re (Ag (a:=qk) (by omega));clear gI cK;have MS:ls.length+1<=maxLen:=by unfold maxLen;omega
         have hc6:(ls.length+1)*8<=140737488355328:=by omega
         go_upto_region 24 with(at_builtin;refine wpList_append_own_at _ rfl _ _ 36 rfl w7.heap.size 3 iI (.int .i64 0) 1 8 Tryz.underlying36 pU vQ vP vO rfl (by decide) _ ls.length (Ge ls) rfl (Zg ZX.out (Qz.alloc _)) ⟨_,0,none⟩ 1 1 [.int .i64 (qk:Int)] rfl rfl (Zt _ _ _ (by simp)) (fun u hu=>by rw [List.mem_singleton.1 hu];rfl) MS hc6 (Qx ZO.out.size (by simp)) ?_;intro v9 w9 pR pV _ ZG);have nU:=Qq (show Qg w7 w9 from Qg.grown (ZO.out.alloc _) pV (fun g hg=>(ZX.out.lt g hg).1));obtain⟨D9,n9,SB,hk9⟩:=FX.out w9 nU.out;have CU:=(nU.out.cell (p:=⟨g2,kk,none⟩) sU).trans qB
         have KL:=Qq pR;obtain⟨A9,c9,rfl⟩:=Qt pR;clear pR pV ZG dI;go_wp2_with(at_lookup;refine wpList_lookup_own_int _ rfl _ _ 178 rfl 3 3 .i64 Um Tryz.underlying178 Tryz.underlying3 (Lr _) (w.heap.size+1) n9 D9 rfl SB _ _ rfl hkq ?_;intro cc yM tH;obtain rfl:cc=(pk:Int):=(by have h1:=hk9 (.lit (.int .i64 0));rw [h1]at yM;injection yM with yM;injection yM with _ yM;exact yM.symm);clear yM tH);go_roundw
         case rel=>exact⟨pk,rfl,by omega,Qq ⟨ls++ [qk],by rw [List.length_append,List.length_singleton,Qnf];exact KL.out,nU.out,FV.out,(fun e=>by simp at e),GB.out,by rw [List.length_append,List.length_singleton];omega⟩⟩
         case measure=>simp [intOf];omega
        obtain rfl:0=kk:=by omega
        have SK:0 < ls.length:=by
         cases YU:ls with
         |nil=>have:=bN.out YU;omega
         |cons a r=>simp
        obtain⟨gl,capl,jY,_,_,_,_,_⟩:=Up ZX.out SK rfl;injection jY with hsl3a _ hsl3b;subst hsl3a hsl3b;have E8:=Qq (show(q++ [k]).getD 0 0=t by rw [Qk,nZ.out.head];rfl);have HW:=Qq (show Qg w w7 from qQ.out.ext);go_wp2_with fail;go_ret;refine .inr ⟨_,_,ls,rfl,HW.out.trans ZO.out,Kp ZX.out HW.out.size,(fun e=>by rw [e]at SK;simp at SK),by rw [<-E8.out];exact UY.out,(fun u hu=>by rw [kP.out u hu];exact JA.out),UP.out⟩
    obtain rfl:m=k:=by omega
    go_wp2_with fail;go_roundw
    case rel=>exact⟨i+1,by go_num,by omega,Qq ⟨q,ps,nA.out,iE.out,by omega,bF.out,fun j hj u hu=>by
     by_cases e:j < i
     ·exact uO.out j e u hu
     have:j=i:=by omega
     subst this;refine T7.out u ?_ hu;rw [vY.out,Bool.and_eq_true]at hu;have:=Xr hu.1;rw [<-HM.out]at this;exact this⟩⟩
    case measure=>simp [intOf];omega
  obtain rfl:q.length=i:=by omega
  have hG:=Qq (show ¬∃u,Kj (fun a b=>st a b=true) t u/\yy u=false by
   rintro⟨u,hr,hu⟩;have:=bF.out u (iE.out.closed uO.out hr);rw [hu]at this;cases this)
  go_wp2_with fail;go_ret;exact .inl ⟨rfl,nA.out.ext,hG.out⟩
open Go.Maps (Keyed IsMap Tidy has has_put_same has_put_other atKey_put_same atKey_put_other)
def Uw(w:World)(b:Nat)(l:List Nat):Prop :=
 ∃(D:D0) (n:Nat),w.ownsMap Tryz.prog 3 (plainElem Tryz.prog 4) b n D/\n<=l.length/\∀(u:Nat) (z:D0),D.atKey (.int .i64 (u:Int)) z=if u∈l then .lit (.bool true)else z
theorem Qo5(w:World):(zeroValue 4).run Tryz.prog w=.ok (.bool false) w:=by kernel_rfl
theorem Qfy(b:Bool):(plainElem Tryz.prog 4 (.bool b):Option (D0×List MemPlace))=some (.lit (.bool b),[]):=plainElem_bool Tryz.underlying4 b
theorem Qfz {v:Value} {b:Bool} {ps:List MemPlace}(h:(plainElem Tryz.prog 4 v:Option (D0×List MemPlace))=some (.lit (.bool b),ps)):v=.bool b:=by
 unfold plainElem at h;rw [Tryz.underlying4]at h;cases v <;> simp at h;rw [h.1]
section
variable {w w':World} {b:Nat} {l:List Nat}
theorem Uw.made(w:World):Uw (w.alloc (.map #[] 0)) w.heap.size []:=
 ⟨.map [],0,World.ownsMap_made w _ _ _,Nat.zero_le _,fun _u _z=>rfl⟩
theorem Uw.lt(h:Uw w b l):b < w.heap.size:=by
 obtain⟨D,n,h1,_⟩:=h;exact h1.lt
theorem Uw.kept(h:Uw w b l)(hb:w'.heap[b]?=w.heap[b]?):Uw w' b l:=by
 obtain⟨D,n,h1,h2⟩:=h;exact⟨D,n,Qzh h1 hb,h2⟩
theorem Uw.look(h:Uw w b l) {t:Nat}(ht:t<=1000000):(Instr.lookup 96 (.map (some b)) (.int .i64 (t:Int)) false).run Tryz.prog w=.ok (.bool (decide (t∈l))) w:=by
 obtain⟨D,n,h1,_,h3⟩:=h;obtain⟨v,ps,AO,hv⟩:=h1.lookup Um Tryz.underlying96 (Qo5 _) (Qfy false) (Re (Ag ht));rw [h3]at hv;rw [AO];by_cases hm:t∈l
 ·rw [if_pos hm]at hv;rw [Qfz hv,decide_eq_true hm]
 rw [if_neg hm]at hv;rw [Qfz hv,decide_eq_false hm]
theorem Uw.put {D:D0} {n t:Nat}(hD:IsMap D)(hn:n<=l.length)(ha:∀(u:Nat) (z:D0),D.atKey (.int .i64 (u:Int)) z=if u∈l then .lit (.bool true)else z)
 (h:w'.ownsMap Tryz.prog 3 (plainElem Tryz.prog 4) b (n+1) (D.put (.int .i64 (t:Int)) (.lit (.bool true)))):Uw w' b (l++ [t]):=by
 have vW:WideAt.IsKeyLit (.int .i64 (t:Int)):=trivial;refine⟨_,_,h,by simp;omega,fun u z=> ?_⟩;by_cases e:u=t
 ·subst e;rw [atKey_put_same hD vW,if_pos (by simp)]
 have zQ:(Lit.int .i64 (u:Int))≠.int .i64 (t:Int):=fun k=>e (by injection k with _ k;omega)
 rw [atKey_put_other zQ,ha u z];by_cases hm:u∈l
 ·rw [if_pos hm,if_pos (List.mem_append_left _ hm)]
 rw [if_neg hm,if_neg (by simp [hm,e])]
end
theorem Qpn {w w4:World} {p:Addr}(h:w4.heap[p.block]?=w.heap[p.block]?):w4.cell? p=w.cell? p:=by
 unfold World.cell?;rw [h]
structure Gh (w0 wr:World) (v:Value) (l:List Nat):Prop where
 ext:Qg w0 wr
 map:Uw wr w0.heap.size l
 box:wr.heap[w0.heap.size+1]?=some (.cells #[v,.map (some w0.heap.size)] 98 (0,0))
 row:wr.ownsRow (w0.heap.size+2) 3 1 v l.length (Ge l)
section
variable {w0 wr W:World} {v:Value} {l:List Nat}
theorem Gh.start(w0:World):Gh w0 ((w0.alloc (.map #[] 0)).alloc (.cells #[.slice none 0 0,.map (some w0.heap.size)] 98)) (.slice none 0 0) []:=
 ⟨(Qz.alloc _).alloc _,(Uw.made w0).kept ((Qz.alloc _).block (by simp)),by
   have:=heap_alloc_new (w0.alloc (.map #[] 0)) (.cells #[.slice none 0 0,.map (some w0.heap.size)] 98)
   simpa using this,World.ownsRow_nil _ _ _ _⟩
theorem Gh.next(h:Gh w0 wr v l)(he:Qg wr W):Gh w0 W v l :=
 ⟨h.ext.trans he,h.map.kept (he.block h.map.lt),(he.block (Qn h.box)).trans h.box,Zg h.row he⟩
theorem Gh.cells(h:Gh w0 wr v l):wr.cell? ⟨w0.heap.size+1,0,none⟩=some v/\wr.cell? ⟨w0.heap.size+1,1,none⟩=some (.map (some w0.heap.size))/\w0.heap.size+1 < wr.heap.size :=
 ⟨by simp [World.cell?,h.box],by simp [World.cell?,h.box],Qn h.box⟩
structure Lm (w0 w:World) (v:Value) (w':World) (v':Value):Prop where
 size:w.heap.size<=w'.heap.size
 blk:∀k,k < w.heap.size->k≠w0.heap.size->k≠w0.heap.size+1->v.ownBlock≠some k->w'.heap[k]?=w.heap[k]?
 own:v'.ownBlock=v.ownBlock\/∃k,v'.ownBlock=some k/\w.heap.size<=k
theorem Lm.of {w w':World}(he:Qg w w'):Lm w0 w v w' v:=⟨he.size,fun _ hk _ _ _=>he.block hk,.inl rfl⟩
theorem Lm.trans {w w' w'':World} {v' v'':Value}(h:Lm w0 w v w' v')(h2:Lm w0 w' v' w'' v''):Lm w0 w v w'' v'':=by
 have s1:=h.size;have s2:=h2.size;refine⟨Qx s1 s2,fun k hk h0 h1 ho=> ?_,?_⟩
 ·rw [h2.blk k (by omega) h0 h1 (fun e=> ?_),h.blk k hk h0 h1 ho];rcases h.own with e2|⟨k2,e2,wV⟩
  ·exact ho (e2▸e)
  rw [e2]at e;injection e with e;omega
 rcases h2.own with e|⟨k,e,hk⟩
 ·rcases h.own with e2|⟨k2,e2,wV⟩
  ·exact .inl (e.trans e2)
  exact .inr ⟨k2,e.trans e2,wV⟩
 exact .inr ⟨k,e,by omega⟩
theorem Gh.box7 {w6 W6 w7:World}(h:Gh w0 wr v l)(kG:wr.grownBy w6 (some w0.heap.size))(he:Qg w6 W6)(tW:W6.grownBy w7 v.ownBlock):
 w7.cell? ⟨w0.heap.size+1,0,none⟩=some v/\w7.frozen? ⟨w0.heap.size+1,0,none⟩=false/\w0.heap.size+1 < w7.heap.size:=by
 have YJ:∀g,v.ownBlock=some g->w0.heap.size+2<=g:=fun g hg=>(h.row.lt g hg).1
 have mB:=Qn h.box;have s6:wr.heap.size<=w6.heap.size:=kG.size;have lY:w7.heap[w0.heap.size+1]?=some (.cells #[v,.map (some w0.heap.size)] 98 (0,0)):=by
  rw [tW.block _ (Qy mB (Qx s6 he.size)) (fun e=>by have:=YJ _ e.symm;omega),he.block (Qy mB s6),kG.block _ mB (fun e=>by injection e with e;omega)];exact h.box
 exact⟨by simp [World.cell?,lY],by simp [World.frozen?,lY],Qn lY⟩
theorem Gh.push {w6 W6 w7:World} {v7:Value} {t:Nat}(h:Gh w0 wr v l)(kG:wr.grownBy w6 (some w0.heap.size))(kD:Uw w6 w0.heap.size (l++ [t]))(he:Qg w6 W6)
 (xJ:w7.ownsRow (w0.heap.size+2) 3 1 v7 (l.length+1) (Ge l++ [.int .i64 (t:Int)]))(tW:W6.grownBy w7 v.ownBlock)(dR:v7.ownBlock=v.ownBlock\/v7.ownBlock=some W6.heap.size):
 Gh w0 (w7.setCell ⟨w0.heap.size+1,0,none⟩ v7) v7 (l++ [t])/\Lm w0 wr v (w7.setCell ⟨w0.heap.size+1,0,none⟩ v7) v7:=by
 have YJ:∀g,v.ownBlock=some g->w0.heap.size+2<=g:=fun g hg=>(h.row.lt g hg).1
 have qL:∀g,v7.ownBlock=some g->w0.heap.size+2<=g:=fun g hg=>(xJ.lt g hg).1
 have mB:=Qn h.box;have s6:wr.heap.size<=w6.heap.size:=kG.size;have jT:Qg w0 w7:=((h.ext.grown kG (fun k hk=>by injection hk with hk;omega)).trans he).grown tW (fun g hg=>by have:=YJ g hg;omega);have xB:∀k,k≠w0.heap.size+1->(w7.setCell ⟨w0.heap.size+1,0,none⟩ v7).heap[k]?=w7.heap[k]?:=fun k e=>Below.heap_setCell _ _ _ _ e
 have lY:w7.heap[w0.heap.size+1]?=some (.cells #[v,.map (some w0.heap.size)] 98 (0,0)):=by
  rw [tW.block _ (Qy mB (Qx s6 he.size)) (fun e=>by have:=YJ _ e.symm;omega),he.block (Qy mB s6),kG.block _ mB (fun e=>by injection e with e;omega)];exact h.box
 have s7:=tW.size;have se:=he.size;have ss:(w7.setCell ⟨w0.heap.size+1,0,none⟩ v7).heap.size=w7.heap.size:=by simp [World.setCell]
 refine⟨⟨jT.setCell (p:=⟨w0.heap.size+1,0,none⟩) (by show w0.heap.size<=w0.heap.size+1;omega) _,?_,?_,?_⟩,⟨by omega,fun k hk h0 h1 ho=> ?_,?_⟩⟩
 ·refine kD.kept ?_;rw [xB _ (by omega),tW.block _ (Qy kD.lt he.size) (fun e=>by have:=YJ _ e.symm;omega),he.block kD.lt]
 ·simp only [World.setCell,Array.getElem?_modify,lY,if_true,Option.map_some];simp
 ·have e:Ge (l++ [t])=Ge l++ [.int .i64 (t:Int)]:=Qnf l t;rw [e,List.length_append,List.length_singleton];exact Zp xJ fun g hg=>xB g (by have:=qL g hg;omega)
 ·rw [xB k h1,tW.block k (by omega) (fun e=>ho e.symm),he.block (by omega),kG.block k hk (fun e=>h0 (by injection e))]
 rcases dR with e|e
 ·exact .inl e
 exact .inr ⟨_,e,by omega⟩
theorem Gh.row6 {w6:World}(h:Gh w0 wr v l)(kG:wr.grownBy w6 (some w0.heap.size)):w6.ownsRow (w0.heap.size+2) 3 1 v l.length (Ge l):=
 Zp h.row fun g hg=>kG.block g (h.row.lt g hg).2 (fun e=>by injection e with e;have:=(h.row.lt g hg).1;omega)
end
def Zja(w0 w:World)(v:Value)(l:List Nat)(e:Ending)(w':World):Prop:=(∃r,e=.returned r)/\∃v',Gh w0 w' v' l/\Lm w0 w v w' v'
theorem Qgx(w0 w:World)(v:Value)(l:List Nat)(t:Int)(h:Gh w0 w v l)(ht:t<=4096)(hl:l.length<=4096):
 Calls Tryz.prog 64 #[.pointer (some ⟨w0.heap.size+1,0,none⟩),.int .i64 t] w (Zja w0 w v (Nt l t)):=by
 have H:=Qq h;obtain⟨e0,e1,el⟩:=h.cells;by_cases h0:0<=t
 ·obtain⟨k,rfl⟩:=Int.eq_ofNat_of_zero_le h0;have dA:=h.map.look (t:=k) (by omega);by_cases hm:k∈l
  ·have HA:=Qq (show Nt l (k:Int)=l from Qss (fun e=>e.2 (by rwa [Int.toNat_natCast])));rw [decide_eq_true hm]at dA;clear h hm;go_enter Tryz.func64,Tryz.ntmps64;go_wp2_with fail;refine bodyPost_end (v:=.tuple #[]) (results_none rfl _ _ _) rfl ?_;exact⟨⟨_,rfl⟩,_,by rw [HA.out];exact H.out,Lm.of Qz⟩
  have HA:=Qq (show Nt l (k:Int)=l++ [k]from Qa1 h0 (by rwa [Int.toNat_natCast]));rw [decide_eq_false hm]at dA;obtain⟨D,n,xJ,hn,yM⟩:=h.map;have jK:=Qq yM;have OA:=Qq xJ;have vW:=Re (Ag (a:=k) (by omega));obtain⟨iI,pU,vQ,vP,vO⟩:=info_parts Ih;clear h hm yM;go_enter Tryz.func64,Tryz.ntmps64;go_upto_region 2 with(at_mapUpdate;refine wpList_mapUpdate_own _ rfl _ _ _ 96 rfl 3 4 Um Tryz.underlying96 _ w0.heap.size n D rfl xJ (by unfold maxLen;omega) _ _ _ rfl rfl vW _ [] (Qfy true) ?_;intro w6 pS wS);have JO:=Qq wS;have bM:=Qq (show Uw w6 w0.heap.size (l++ [k])from Uw.put OA.out.isMap hn jK.out pS)
  have EY:=Qq (H.out.row6 wS);have L1:w0.heap.size+1 < w6.heap.size:=Qy el wS.size;have e06:w6.cell? ⟨w0.heap.size+1,0,none⟩=some v:=(Qpn (p:=⟨w0.heap.size+1,0,none⟩) (wS.block _ el (by simp))).trans e0;obtain⟨A,c,rfl⟩:=Qt H.out.row;clear xJ pS wS vW e0 e1 dA hn;have xS:l.length+1<=maxLen:=by unfold maxLen;omega
  have xP:(l.length+1)*8<=140737488355328:=by omega
  go_wp2_with(at_builtin;refine wpList_append_own_at _ rfl _ _ 36 rfl (w0.heap.size+2) 3 iI (.int .i64 0) 1 8 Tryz.underlying36 pU vQ vP vO rfl (by decide) _ l.length (Ge l) rfl (Zg EY.out (Qz.alloc _)) ⟨_,0,none⟩ 1 1 [.int .i64 (k:Int)] rfl rfl (Zt _ _ _ (by simp)) (fun u hu=>by rw [List.mem_singleton.1 hu];rfl) xS xP (by simp;omega) ?_);intro v7 w7 zW zX sF zF;have qQ:=Qq (Gh.push H.out JO.out bM.out (Qz.alloc _) zW zX (zF.imp_right fun h=>by rw [h];simp));obtain⟨f0,f1,f2⟩:=H.out.box7 JO.out (Qz.alloc _) zX;obtain⟨A7,c7,rfl⟩:=Qt zW
  clear zF zW zX sF;go_wp2_with fail;refine bodyPost_end (v:=.tuple #[]) (results_none rfl _ _ _) rfl ?_;exact⟨⟨_,rfl⟩,_,by rw [HA.out];exact qQ.out.1,qQ.out.2⟩
 have HA:=Qq (show Nt l t=l from Qss (fun e=>h0 e.1));clear h;go_enter Tryz.func64,Tryz.ntmps64;go_wp2_with fail;refine bodyPost_end (v:=.tuple #[]) (results_none rfl _ _ _) rfl ?_;exact⟨⟨_,rfl⟩,_,by rw [HA.out];exact H.out,Lm.of Qz⟩
def Of(lg:Int)(ks:List Kn)(a:Int)(t:Nat)(wanted:Nat->Bool)(u:Nat):Bool:=wanted u&&Jy lg ks a t u
theorem Zjb {lg:Int} {ks:List Kn} {al:List Bool} {a:Int} {t k:Nat} {wanted:Nat->Bool} {l:List Nat}(hk:k < l.length)(h:Of lg ks a t wanted (l.getD k 0)=true):Wy lg ks al a t wanted l=l:=by
 unfold Wy;rw [if_pos];rw [List.any_eq_true];exact⟨l.getD k 0,by rw [Qk,Qv hk];exact List.getElem_mem _,h⟩
theorem Qo0 {lg:Int} {ks:List Kn} {al:List Bool} {a:Int} {t:Nat} {wanted:Nat->Bool} {l:List Nat}(h:∀k,k < l.length->Of lg ks a t wanted (l.getD k 0)=false):Wy lg ks al a t wanted l=Nt l (Xw lg ks al a t wanted):=by
 unfold Wy;rw [if_neg];rw [Bool.not_eq_true,List.any_eq_false];intro u hu;obtain⟨k,hk,e⟩:=List.getElem_of_mem hu;have:=h k hk;rw [Qk,Qv hk,Option.getD_some,e]at this;show ¬Of lg ks a t wanted u=true;rw [this];simp
theorem Zq1 {lg:Int} {ks:List Kn} {al:List Bool} {a:Int} {t:Nat} {wanted:Nat->Bool}(h:al.length<=4096):Xw lg ks al a t wanted<=4096:=by
 unfold Xw;cases e:(List.range al.length).find? (Xo lg ks al a t wanted)with
 |none=>show(-1:Int)<=4096;omega
 |some k =>
  obtain⟨_,h2,_⟩:=List.find?_range_eq_some.1 e;have:=List.mem_range.1 h2;show(k:Int)<=4096;omega
theorem Qvp(b:Nat)(lg:Int)(base:List (List Nd))(root:List Bool)(ks:List Kn)(cs:List Cm)(alive:List Bool)(a:Int)(t:Nat)(wanted:Nat->Bool)(g:Nat)(lb:Array Value)(eg:∀args w,(callFunc g args).run Tryz.prog w=.ok (.enter g args) w)(w0 w:World)(v:Value)(l:List Nat)
 (hE:Ex w b lg base root ks cs alive)(xX:0<=lg/\lg<=6)(ht:t < 18446744073709551616)(hm:alive.length<=4096)(qV:∀k∈ks,k.place < 64/\alive.length<=k.holds.length)
 (hS:Gh w0 w v l)(hl:l.length<=4096)(zJ:∀u∈l,u < alive.length)
 (hw:∀(W:World) (u:Nat),u < alive.length->Qg w W->Calls Tryz.prog g (#[.int .i64 (u:Int)]++lb) W fun e w'=>e=.returned (.bool (wanted u))/\Qg W w'):
 Calls Tryz.prog 144 #[.pointer (some ⟨b,0,none⟩),.pointer (some ⟨w0.heap.size+1,0,none⟩),.int .i64 a,.int .u64 (t:Int),.func (.func g) #[] lb] w (Zja w0 w v (Wy lg ks alive a t wanted l)):=by
 have HE:=Qq hE;have sW:=Qq qV;have HW:=Qq hw;have HS:=Qq hS;have hZ:=Qq zJ;obtain⟨e0,e1,el⟩:=hS.cells;obtain⟨A,c,rfl⟩:=Qt hS.row;clear hE qV hw hS zJ e1;go_enter Tryz.func144,Tryz.ntmps144;go_wp2_with fail;clear e0;go_loopw [17] (fun v wr=>∃k:Nat,v=.int .i64 (k:Int)/\k<=l.length/\Hid (Qg w wr/\∀j,j < k->Of lg ks a t wanted (l.getD j 0)=false)) (fun v _=>l.length - (intOf v).toNat)
 case atStart=>exact⟨0,rfl,Nat.zero_le _,Qq ⟨Qz,fun j hj=>absurd hj (by omega)⟩⟩
 case round =>
  obtain⟨k,rfl,hk,zY⟩:=hrel;have HX:=Qq zY.out.1;have HJ:=Qq zY.out.2;clear zY;by_cases hlt2:k < l.length
  ·have yV:(k:Int) < (l.length:Int):=by omega
   have vK:=Qq (HS.out.next HX.out);obtain⟨g2,cap2,vR,sU,_,jZ,sR,a0⟩:=Up vK.out.row hlt2 rfl;injection vR with hsl2a _ hsl2b;subst hsl2a hsl2b;unfold maxLen at sR;have xZ:=Qq (show Of lg ks a t wanted (l.getD k 0)=false->∀j,j < k+1->Of lg ks a t wanted (l.getD j 0)=false from fun h j hj=>by
    by_cases e:j < k
    ·exact HJ.out j e
    have:j=k:=by omega
    subst this;exact h)
   have oF:l.getD k 0∈l:=by rw [Qk,Qv hlt2];exact List.getElem_mem _
   have rS:=hZ.out _ oF;have ON:=Qq (fun(h:Of lg ks a t wanted (l.getD k 0)=true)=>Zjb (al:=alive) hlt2 h);clear oF;obtain⟨u,hu⟩:∃u,u=l.getD k 0:=⟨_,rfl⟩;rw [<-hu]at a0 rS xZ ON;have HP:=Qq (show Of lg ks a t wanted u=(wanted u&&Jy lg ks a t u)from rfl);have mX:=Qq (fun W hW=>HW.out W u rS hW);have iY:=Qq (fun W (hW:Qg w W)=>Mz b lg base root ks cs alive a t u W (HE.out.ext hW) xX ht (by omega) (fun n hn=>⟨(sW.out n hn).1,Qy rS (sW.out n hn).2⟩));have RH:IntKind.u64.wrap (u:Int)=(u:Int):=by rw [IntKind.wrap_u64];omega
   obtain⟨wk,qR⟩:∃x,x=wanted u:=⟨_,rfl⟩;obtain⟨pk,cK⟩:∃x,x=Jy lg ks a t u:=⟨_,rfl⟩;rw [<-qR,<-cK]at HP;rw [<-qR]at mX;rw [<-cK]at iY;clear qR cK hu;cases wk
   ·go_wp2_with fail;refine(mX.out _ HX.out).mono ?_;rintro e w2 ⟨rfl,hx⟩;have zT:=Qq hx;clear hx;go_wp2_with fail;go_roundw
    case rel=>exact⟨k+1,by go_num,by omega,Qq ⟨HX.out.trans zT.out,xZ.out (by rw [HP.out];rfl)⟩⟩
    case measure=>simp [intOf];omega
   go_wp2_with fail;refine(mX.out _ HX.out).mono ?_;rintro e w2 ⟨rfl,hx⟩;have zT:=Qq hx;clear hx;go_wp2_with fail;refine(iY.out _ (HX.out.trans zT.out)).mono ?_;rintro e w3 ⟨rfl,hx⟩;have zB:=Qq hx;clear hx;cases pk
   ·go_wp2_with fail;go_roundw
    case rel=>exact⟨k+1,by go_num,by omega,Qq ⟨HX.out.trans (zT.out.trans zB.out),xZ.out (by rw [HP.out];rfl)⟩⟩
    case measure=>simp [intOf];omega
   have HR:=Qq (ON.out (by rw [HP.out];rfl));go_wp2_with fail;exact bodyPost_ret (v:=.tuple #[]) (results_none rfl _ _ _) rfl ⟨⟨_,rfl⟩,_,by rw [HR.out];exact HS.out.next (HX.out.trans (zT.out.trans zB.out)),Lm.of (HX.out.trans (zT.out.trans zB.out))⟩
  obtain rfl:l.length=k:=by omega
  have HR:=Qq (Qo0 (al:=alive) HJ.out);have vK:=Qq (HS.out.next HX.out);go_wp2_with fail;refine(Qkn b lg base root ks cs alive a t wanted g lb eg _ (HE.out.ext HX.out) xX ht hm sW.out (fun W u hu hW=>HW.out W u hu (HX.out.trans hW))).mono ?_;rintro e w2 ⟨rfl,hx⟩;have qH:=Qq (vK.out.next hx);have zB:=Qq (HX.out.trans hx);have M0:=Zq1 (lg:=lg) (ks:=ks) (a:=a) (t:=t) (wanted:=wanted) hm;clear hx;obtain⟨z,hz⟩:∃z,z=Xw lg ks alive a t wanted:=⟨_,rfl⟩;rw [<-hz]at HR M0⊢;clear hz;go_wp2_with fail;refine(Qgx w0 _ _ l z qH.out M0 hl).mono ?_;rintro e w3 ⟨⟨r,rfl⟩,v',hs,sQ⟩;have gW:=Qq hs
  have yP:=Qq ((Lm.of zB.out).trans sQ);clear hs sQ;go_wp2_with fail;exact bodyPost_end (v:=.tuple #[]) (results_none rfl _ _ _) rfl ⟨⟨_,rfl⟩,_,by rw [HR.out];exact gW.out,yP.out⟩
theorem Qil {ks:List Kn} {p:Kn->Bool} {k:Nat} {n:Kn}(hn:ks[k]?=some n)(h:p n=true):ks.any p=true:=by
 rw [List.any_eq_true];exact⟨n,List.mem_of_getElem? hn,h⟩
theorem Qa3 {ks:List Kn} {p:Kn->Bool}(h:∀(j:Nat) (n:Kn),j < ks.length->ks[j]?=some n->p n=false):ks.any p=false:=by
 rw [List.any_eq_false];intro n hn;obtain⟨j,hj,e⟩:=List.getElem_of_mem hn;rw [h j n hj (by rw [Qv hj,e])];simp
def Zjl(ks:List Kn)(p:Kn->Bool)(w:World)(e:Ending)(w':World):Prop:=∃z:Int,e=.returned (.int .i64 z)/\Qg w w'/\decide (0<=z)=ks.any p
theorem Ql9(B:Nat)(n:Kn)(z:Int)(Ah:Option Addr)(ch:Nat)(w:World)(hB:w.cell? ⟨B,0,none⟩=some (.int .i64 z))(XF:B < w.heap.size):
 Calls Tryz.prog 135 (#[.agg #[.int .i64 n.agent,.int .i64 (n.place:Int),.slice Ah n.holds.length ch]]++ #[.pointer (some ⟨B,0,none⟩)]) w fun e w'=>e=.returned (.bool (n.agent==z))/\Qg w w':=by
 show Calls Tryz.prog 135 #[.agg #[.int .i64 n.agent,.int .i64 (n.place:Int),.slice Ah n.holds.length ch],.pointer (some ⟨B,0,none⟩)] w _;go_enter Tryz.func135,Tryz.ntmps135;go_wp2_with fail;go_ret;exact⟨rfl,Qz.alloc _⟩
theorem Ql4(v:Value)(ks:List Kn)(z:Int)(B:Nat)(w:World)(hk:Kns w v ks)(hB:w.cell? ⟨B,0,none⟩=some (.int .i64 z))(XF:B < w.heap.size):
 Calls Tryz.prog 191 #[v,.func (.func 135) #[] #[.pointer (some ⟨B,0,none⟩)]] w (Zjl ks (fun k=>k.agent==z) w):=by
 obtain⟨A,c,rfl,uX⟩:=hk;have HK:=Qq uX;have IQ:=uX.1;have zU:=uX.2.1;unfold maxLen at zU;have D0:=Qq hB;clear uX hB;go_enter Tryz.func191,Tryz.ntmps191;go_wp2_with fail;go_loopw [8] (fun v wr=>∃k:Nat,v=.int .i64 (k:Int)/\k<=ks.length/\Hid (Qg w wr/\∀(j:Nat) (n:Kn),j < k->ks[j]?=some n->(n.agent==z)=false)) (fun v _=>ks.length - (intOf v).toNat)
 case atStart=>exact⟨0,rfl,Nat.zero_le _,Qq ⟨Qz,fun j n hj=>absurd hj (by omega)⟩⟩
 case round =>
  obtain⟨k,rfl,hk,zY⟩:=hrel;have HX:=Qq zY.out.1;have HJ:=Qq zY.out.2;clear zY;by_cases hlt2:k < ks.length
  ·have yV:(k:Int) < (ks.length:Int):=by omega
   obtain⟨n,hn⟩:∃n,ks[k]?=some n:=⟨_,Qv hlt2⟩;obtain⟨ad,rfl,yX,yM⟩:=Qjn HK.out hn;obtain⟨vh,c0,c1,c2,qX⟩:=yM.ext HX.out (Qj yX);obtain⟨Ah,ch,rfl,_⟩:=qX;have HN:=Qq hn;have HL:=Qq (Ql9 B n z Ah ch wr ((HX.out.cell (p:=⟨B,0,none⟩) XF).trans D0.out) (Qy XF HX.out.size));have xZ:=Qq (show(n.agent==z)=false->∀(j:Nat) (m:Kn),j < k+1->ks[j]?=some m->(m.agent==z)=false from fun hc j m hj hm=>by
    by_cases e:j < k
    ·exact HJ.out j m e hm
    have:j=k:=by omega
    subst this;rw [hn]at hm;injection hm with hm;rw [<-hm];exact hc)
   clear hn yM;cases uZ:n.agent==z
   ·have gE:=Qq uZ;rw [uZ]at HL;clear uZ;go_wp2_with fail;refine HL.out.mono ?_;rintro e w2 ⟨rfl,hx⟩;have zT:=Qq hx;clear hx;go_wp2_with fail;go_roundw
    case rel=>exact⟨k+1,by go_num,by omega,Qq ⟨HX.out.trans zT.out,xZ.out gE.out⟩⟩
    case measure=>simp [intOf];omega
   have HE:=Qq (Qil (p:=fun k=>k.agent==z) HN.out uZ);rw [uZ]at HL;clear uZ;go_wp2_with fail;refine HL.out.mono ?_;rintro e w2 ⟨rfl,hx⟩;have zT:=Qq hx;clear hx;go_wp2_with fail;go_ret;exact⟨(k:Int),rfl,HX.out.trans zT.out,by rw [HE.out];simp⟩
  obtain rfl:ks.length=k:=by omega
  have HE:=Qq (Qa3 (p:=fun k=>k.agent==z) HJ.out);go_wp2_with fail;go_ret;exact⟨-1,rfl,HX.out,by rw [HE.out];rfl⟩
theorem Qbt(v:Value)(ks:List Kn)(z:Int)(B:Nat)(w:World)(hk:Kns w v ks)(hB:w.cell? ⟨B,0,none⟩=some (.int .i64 z))(XF:B < w.heap.size):
 Calls Tryz.prog 134 #[v,.func (.func 135) #[] #[.pointer (some ⟨B,0,none⟩)]] w fun e w'=>e=.returned (.bool (ks.any fun k=>k.agent==z))/\Qg w w':=by
 have HK:=Qq hk;have D0:=Qq hB;obtain⟨A,c,rfl,_⟩:=hk;clear hB;go_enter Tryz.func134,Tryz.ntmps134;go_wp2_with fail;refine(Ql4 _ ks z B _ HK.out D0.out XF).mono ?_;rintro e w2 ⟨y,rfl,hx,hy⟩;have HX:=Qq hx;have HY:=Qq hy;clear hx;cases XY:decide (0<=y)
 ·rw [XY]at hy;have zJ:y < 0:=by have:=of_decide_eq_false XY;omega
  clear hy XY;go_wp2_with fail;go_ret;exact⟨by rw [<-HY.out,decide_eq_false (by omega)] <;> rfl,HX.out⟩
 have zJ:0<=y:=of_decide_eq_true XY;clear hy XY;go_wp2_with fail;go_ret;exact⟨by rw [<-HY.out,decide_eq_true zJ] <;> rfl,HX.out⟩
theorem Mv(s k:Nat)(hs:s < 18446744073709551616):(bits .and .u64 ((s:Int) / 2^k) 1==0)= !s.testBit k:=by
 have zJ:s / 2^k < 18446744073709551616:=Nat.lt_of_le_of_lt (Nat.div_le_self _ _) hs;rw [Ld,show(1:Int)=((1:Nat):Int)from rfl,bits_and_u64_nat _ 1 zJ (by decide),Nat.and_one_is_mod,Ty];rcases Nat.mod_two_eq_zero_or_one (s / 2^k)with h|h <;> rw [h] <;> rfl
theorem Qcy {ks:List Kn} {z:Int} {k:Nat} {n:Kn}(hn:ks[k]?=some n)(h:((n.place:Int)==z)=true)(hj:∀(j:Nat) (m:Kn),j < k->ks[j]?=some m->((m.place:Int)==z)=false):ks.find? (fun k=>(k.place:Int)==z)=some n:=by
 rw [List.find?_eq_some_iff_getElem];obtain⟨hk,e⟩:=List.getElem?_eq_some_iff.1 hn;refine⟨h,k,hk,e,fun j qO=> ?_⟩;have:=hj j ks[j] qO (List.getElem?_eq_getElem (by omega));rw [this];rfl
theorem Qlh {ks:List Kn} {z:Int}(hj:∀(j:Nat) (m:Kn),j < ks.length->ks[j]?=some m->((m.place:Int)==z)=false):ks.find? (fun k=>(k.place:Int)==z)=none:=by
 rw [List.find?_eq_none];intro n hn;obtain⟨j,lE,e⟩:=List.getElem_of_mem hn;rw [hj j n lE (by rw [Qv lE,e])];simp
theorem Qcj {ks:List Cm} {z:Int} {k:Nat} {n:Cm}(hn:ks[k]?=some n)(h:((n.place:Int)==z)=true)(hj:∀(j:Nat) (m:Cm),j < k->ks[j]?=some m->((m.place:Int)==z)=false):ks.find? (fun k=>(k.place:Int)==z)=some n:=by
 rw [List.find?_eq_some_iff_getElem];obtain⟨hk,e⟩:=List.getElem?_eq_some_iff.1 hn;refine⟨h,k,hk,e,fun j qO=> ?_⟩;have:=hj j ks[j] qO (List.getElem?_eq_getElem (by omega));rw [this];rfl
theorem Qlc {ks:List Cm} {z:Int}(hj:∀(j:Nat) (m:Cm),j < ks.length->ks[j]?=some m->((m.place:Int)==z)=false):ks.find? (fun k=>(k.place:Int)==z)=none:=by
 rw [List.find?_eq_none];intro n hn;obtain⟨j,lE,e⟩:=List.getElem_of_mem hn;rw [hj j n lE (by rw [Qv lE,e])];simp
theorem Qmq(u:Int)(w:World):Calls Tryz.prog 137 (#[.int .i64 u]++ #[]) w fun e w'=>e=.returned (.bool true)/\Qg w w':=by
 show Calls Tryz.prog 137 #[.int .i64 u] w _;go_enter Tryz.func137,Tryz.ntmps137;go_wp2_with fail;go_ret;exact⟨rfl,Qz⟩
theorem Qmz(B u:Nat)(Ah:Option Addr)(ch:Nat)(hs:List Bool)(w:World)(hB:w.cell? ⟨B,2,none⟩=some (.slice Ah hs.length ch))(hb:Sf w Ah ch hs)(hu:u < hs.length):
 Calls Tryz.prog 138 (#[.int .i64 (u:Int)]++ #[.pointer (some ⟨B,0,none⟩)]) w fun e w'=>e=.returned (.bool (!hs.getD u false))/\Qg w w':=by
 show Calls Tryz.prog 138 #[.int .i64 (u:Int),.pointer (some ⟨B,0,none⟩)] w _;obtain⟨ah,rfl,_,hc⟩:=Xb hb hu;have h1:=hb.1;have h2:=hb.2.1;unfold maxLen at h2;have hui:(u:Int) < (hs.length:Int):=by omega
 obtain⟨x,hx⟩:∃x,x=hs.getD u false:=⟨_,rfl⟩;rw [<-hx]at hc⊢;clear hx;go_enter Tryz.func138,Tryz.ntmps138;go_wp2_with fail;go_ret;exact⟨rfl,Qz⟩
theorem Qc0(b:Nat)(lg:Int)(base:List (List Nd))(root:List Bool)(ks:List Kn)(cs:List Cm)(alive:List Bool)(t:Nat)(num:Int)(w:World)
 (hE:Ex w b lg base root ks cs alive)(xX:0<=lg/\lg<=6)(ht:t < alive.length)(hm:alive.length<=4096)(BA:Vp num)(qV:∀k∈ks,k.place < 64/\alive.length<=k.holds.length)(qA:∀c∈cs,c.place < 64/\c.x.length=alive.length/\c.y.length=alive.length/\0<=c.group/\c.group < 16):
 Calls Tryz.prog 63 #[.pointer (some ⟨b,0,none⟩),.int .u64 (t:Int),.int .i64 num] w fun e w'=>e=.returned (.bool (Vr lg ks cs alive t num))/\Qg w w':=by
 obtain⟨Ab,cb,Ar,cr,Ak,ck,Ac,cc,Aa,ca,d0,d1,d2,d3,d4,d5,xL,_,_,uX,xY,_⟩:=hE.cells;have HE:=Qq hE;have sW:=Qq qV;have kT:=Qq qA;have HK:=Qq uX;have HC:=Qq xY;have IQ:=uX.1;have zU:=uX.2.1;have wN:=xY.1;have lX:=xY.2.1;unfold maxLen at zU lX;have D3:=Qq d3;have D4:=Qq d4;unfold Vp at BA;by_cases oW:num < 0
 ·have fY:=Qq (show Vr lg ks cs alive t num=((lg==1||lg==5)&&(ks.any (fun k=>k.agent== -1 - num)&&decide (Xw lg ks alive (-1 - num) t (fun _=>true) < 0))) by unfold Vr;rw [decide_eq_true oW];rfl);have bR:=Qq (fun(W:World) (hW:Qg w W) (hB:W.cell? ⟨w.heap.size,0,none⟩=some (.int .i64 (-1 - num))) (hl:w.heap.size < W.heap.size)=>Qbt (.slice Ak ks.length ck) ks (-1 - num) w.heap.size W ⟨_,_,rfl,HK.out.ext hW⟩ hB hl);have zD:=Qq (fun(W:World) (hW:Qg w W)=>Qkn b lg base root ks cs alive (-1 - num) t (fun _=>true) 137 #[] (fun _ _=>rfl) W (HE.out.ext hW) xX (by omega) hm sW.out (fun W u _ _=>Qmq (u:Int) W))
  clear hE uX xY qV qA d1 d2 d4 d5 HC D4 D3 wN lX;obtain⟨an,DC⟩:∃x,x=ks.any (fun k=>k.agent== -1 - num):=⟨_,rfl⟩;obtain⟨nx,qT⟩:∃x,x=Xw lg ks alive (-1 - num) t (fun _=>true):=⟨_,rfl⟩;rw [<-DC,<-qT]at fY;rw [<-DC]at bR;rw [<-qT]at zD;clear DC qT;cases h1:lg==1
  ·cases h5:lg==5
   ·skip
    have HS:=Qq (show(lg==1||lg==5)=false by rw [h1,h5];rfl);go_enter Tryz.func63,Tryz.ntmps63;go_wp2_with fail;refine(bR.out _ ((Qg.refl w).alloc (.cells #[.int .i64 (-1 - num)] 3)) (by simp) (by simp)).mono ?_;rintro e w2 ⟨rfl,zS⟩;have zT:=Qq (((Qg.refl w).alloc (.cells #[.int .i64 (-1 - num)] 3)).trans zS);have vE:=(zS.cell (p:=⟨w.heap.size,0,none⟩) (by simp)).trans (show(w.alloc (.cells #[.int .i64 (-1 - num)] 3)).cell? ⟨w.heap.size,0,none⟩=some (.int .i64 (-1 - num)) by simp);clear zS;go_wp2_with fail;go_ret;exact⟨by rw [fY.out,HS.out] <;> rfl,zT.out⟩
   skip
   have HS:=Qq (show(lg==1||lg==5)=true by rw [h1,h5];rfl);go_enter Tryz.func63,Tryz.ntmps63;go_wp2_with fail;refine(bR.out _ ((Qg.refl w).alloc (.cells #[.int .i64 (-1 - num)] 3)) (by simp) (by simp)).mono ?_;rintro e w2 ⟨rfl,zS⟩;have zT:=Qq (((Qg.refl w).alloc (.cells #[.int .i64 (-1 - num)] 3)).trans zS);have vE:=(zS.cell (p:=⟨w.heap.size,0,none⟩) (by simp)).trans (show(w.alloc (.cells #[.int .i64 (-1 - num)] 3)).cell? ⟨w.heap.size,0,none⟩=some (.int .i64 (-1 - num)) by simp);clear zS;cases an
   ·go_wp2_with fail;go_ret;exact⟨by rw [fY.out,HS.out] <;> rfl,zT.out⟩
   go_wp2_with fail;refine(zD.out _ zT.out).mono ?_;rintro e w3 ⟨rfl,zC⟩;have zB:=Qq (zT.out.trans zC);clear zC;by_cases qT:nx < 0
   ·have HD:=Qq (decide_eq_true qT);go_wp2_with fail;go_ret;exact⟨by rw [fY.out,HS.out,HD.out] <;> rfl,zB.out⟩
   have HD:=Qq (decide_eq_false qT);go_wp2_with fail;go_ret;exact⟨by rw [fY.out,HS.out,HD.out] <;> rfl,zB.out⟩
  skip
  have HS:=Qq (show(lg==1||lg==5)=true by rw [h1];rfl);go_enter Tryz.func63,Tryz.ntmps63;go_wp2_with fail;refine(bR.out _ ((Qg.refl w).alloc (.cells #[.int .i64 (-1 - num)] 3)) (by simp) (by simp)).mono ?_;rintro e w2 ⟨rfl,zS⟩;have zT:=Qq (((Qg.refl w).alloc (.cells #[.int .i64 (-1 - num)] 3)).trans zS);have vE:=(zS.cell (p:=⟨w.heap.size,0,none⟩) (by simp)).trans (show(w.alloc (.cells #[.int .i64 (-1 - num)] 3)).cell? ⟨w.heap.size,0,none⟩=some (.int .i64 (-1 - num)) by simp);clear zS;cases an
  ·go_wp2_with fail;go_ret;exact⟨by rw [fY.out,HS.out] <;> rfl,zT.out⟩
  go_wp2_with fail;refine(zD.out _ zT.out).mono ?_;rintro e w3 ⟨rfl,zC⟩;have zB:=Qq (zT.out.trans zC);clear zC;by_cases qT:nx < 0
  ·have HD:=Qq (decide_eq_true qT);go_wp2_with fail;go_ret;exact⟨by rw [fY.out,HS.out,HD.out] <;> rfl,zB.out⟩
  have HD:=Qq (decide_eq_false qT);go_wp2_with fail;go_ret;exact⟨by rw [fY.out,HS.out,HD.out] <;> rfl,zB.out⟩
 obtain⟨nn,uD⟩:=Int.eq_ofNat_of_zero_le (show 0<=num by omega);subst uD;have fY:=Qq (decide_eq_false oW);clear hE uX xY qV qA d0 d1 d2 d5 oW;go_enter Tryz.func63,Tryz.ntmps63;go_wp2_with fail;clear d3 d4;go_loopw [52] (fun v wr=>∃k:Nat,v=.int .i64 (k:Int)/\k<=ks.length/\Hid (Qg w wr/\∀(j:Nat) (m:Kn),j < k->ks[j]?=some m->((m.place:Int)==(nn:Int))=false)) (fun v _=>ks.length - (intOf v).toNat)
 case atStart=>exact⟨0,rfl,Nat.zero_le _,Qq ⟨Qz,fun j m hj=>absurd hj (by omega)⟩⟩
 case round =>
  obtain⟨k,rfl,hk,zY⟩:=hrel;have HX:=Qq zY.out.1;have HJ:=Qq zY.out.2;clear zY;by_cases hlt2:k < ks.length
  ·have yV:(k:Int) < (ks.length:Int):=by omega
   obtain⟨n,hn⟩:∃n,ks[k]?=some n:=⟨_,Qv hlt2⟩;obtain⟨sE,SU⟩:=sW.out n (List.mem_of_getElem? hn);obtain⟨ad,rfl,yX,yM⟩:=Qjn HK.out hn;obtain⟨vh,c0,c1,c2,qX⟩:=yM.ext HX.out (Qj yX);obtain⟨Ah,ch,rfl,qX⟩:=qX;have bS:=Qq qX;have tD:(ad.add (k*3)).block < wr.heap.size:=by rw [Qr];exact Qy yX HX.out.size
   have HN:=Qq hn;have xZ:=Qq (show((n.place:Int)==(nn:Int))=false->∀(j:Nat) (m:Kn),j < k+1->ks[j]?=some m->((m.place:Int)==(nn:Int))=false from fun hc j m hj hm=>by
    by_cases e:j < k
    ·exact HJ.out j m e hm
    have:j=k:=by omega
    subst this;rw [hn]at hm;injection hm with hm;rw [<-hm];exact hc)
   clear hn yM qX;obtain⟨wq,vC⟩:∃v,v=wr:=⟨_,rfl⟩;subst vC;by_cases cL:n.place=nn
   ·have lB:((n.place:Int)==(nn:Int))=true:=by rw [cL];simp
    have GJ:=Qq (Qcy HN.out lB HJ.out);have lK:=Qq (show Vr lg ks cs alive t (nn:Int)=(!t.testBit nn&&decide (Xw lg ks alive n.agent t (fun u=> !n.holds.getD u false) < 0)) by
     unfold Vr;rw [fY.out,cond_false,GJ.out]
     rfl)
    have yS:=Mv t nn (by omega);have zL:=Qq (show Qg w (wq.alloc (.cells #[.int .i64 n.agent,.int .i64 (n.place:Int),.slice Ah n.holds.length ch] 136))from HX.out.alloc _);have VR:=Qq (Qgg (show(wq.alloc (.cells #[.int .i64 n.agent,.int .i64 (n.place:Int),.slice Ah n.holds.length ch] 136)).heap[wq.heap.size]?=some (.cells #[.int .i64 n.agent,.int .i64 (n.place:Int),.slice Ah n.holds.length ch] 136 (0,0))from heap_alloc_new _ _));have zD:=Qq (Qkn b lg base root ks cs alive n.agent t (fun u=> !n.holds.getD u false) 138 #[.pointer (some ⟨wq.heap.size,0,none⟩)] (fun _ _=>rfl) _ (HE.out.ext zL.out) xX (by omega) hm sW.out (fun W u hu hW=>Qmz wq.heap.size u Ah ch n.holds W ((hW.cell (p:=⟨wq.heap.size,2,none⟩) (by simp)).trans VR.out.2.2.1) ((bS.out.ext (Qz.alloc _)).ext hW) (Qy hu SU)))
    obtain⟨nx,qT⟩:∃x,x=Xw lg ks alive n.agent t (fun u=> !n.holds.getD u false):=⟨_,rfl⟩;rw [<-qT]at lK zD;obtain⟨tb,yK⟩:∃x,x=t.testBit nn:=⟨_,rfl⟩;rw [<-yK]at lK yS;have aW:∀(fn:Fn) (first cap:Array Value) (w:World),(Instr.makeFunc fn first cap).run Tryz.prog w=.ok (.func fn first cap) w:=fun _ _ _ _=>rfl
    clear qT yK cL;cases tb
    ·simp only [Bool.not_false]at yS;go_wp2_with fail;refine zD.out.mono ?_;rintro e w3 ⟨rfl,zC⟩;have zB:=Qq (zL.out.trans zC);clear zC;by_cases qT:nx < 0
     ·have HD:=Qq (decide_eq_true qT);go_wp2_with fail;go_ret;exact⟨by rw [lK.out,HD.out] <;> rfl,zB.out⟩
     have HD:=Qq (decide_eq_false qT);go_wp2_with fail;go_ret;exact⟨by rw [lK.out,HD.out] <;> rfl,zB.out⟩
    simp only [Bool.not_true]at yS;go_wp2_with fail;go_ret;exact⟨by rw [lK.out] <;> rfl,zL.out⟩
   have lB:((n.place:Int)==(nn:Int))=false:=by rw [beq_eq_false_iff_ne];omega
   clear cL;go_wp2_with fail;go_roundw
   case rel=>exact⟨k+1,by go_num,by omega,Qq ⟨HX.out.alloc _,xZ.out lB⟩⟩
   case measure=>simp [intOf];omega
  obtain rfl:ks.length=k:=by omega
  have jF:=Qq (Qlh HJ.out);have TX:=Qq HX.out;have dw4:=(HX.out.cell (p:=⟨b,4,none⟩) xL).trans D4.out;clear HJ HX;obtain⟨w1,tI⟩:∃v,v=wr:=⟨_,rfl⟩;subst tI;go_wp2_with fail;clear dw4;go_loopw [80] (fun v wr=>∃k:Nat,v=.int .i64 (k:Int)/\k<=cs.length/\Hid (Qg w wr/\∀(j:Nat) (m:Cm),j < k->cs[j]?=some m->((m.place:Int)==(nn:Int))=false)) (fun v _=>cs.length - (intOf v).toNat)
  case atStart=>exact⟨0,rfl,Nat.zero_le _,Qq ⟨TX.out,fun j m hj=>absurd hj (by omega)⟩⟩
  case round =>
   obtain⟨k,rfl,hk,zY⟩:=hrel;have HX:=Qq zY.out.1;have HJ:=Qq zY.out.2;clear zY;by_cases hlt2:k < cs.length
   ·have yV:(k:Int) < (cs.length:Int):=by omega
    obtain⟨n,hn⟩:∃n,cs[k]?=some n:=⟨_,Qv hlt2⟩;obtain⟨sE,uU,jS,bB,vD⟩:=kT.out n (List.mem_of_getElem? hn);obtain⟨ad,rfl,yX,yM⟩:=Qdm HC.out hn;obtain⟨vx,vy,c0,c1,c2,c3,c4,vE,qD⟩:=yM.ext HX.out (Qj yX);have wC:=Qq vE;have eV:=Qq qD;obtain⟨Ax,cx,rfl,_⟩:=vE;obtain⟨Ay,cy,rfl,_⟩:=qD;have tD:(ad.add (k*5)).block < wr.heap.size:=by rw [Qr];exact Qy yX HX.out.size
    have HN:=Qq hn;have xZ:=Qq (show((n.place:Int)==(nn:Int))=false->∀(j:Nat) (m:Cm),j < k+1->cs[j]?=some m->((m.place:Int)==(nn:Int))=false from fun hc j m hj hm=>by
     by_cases e:j < k
     ·exact HJ.out j m e hm
     have:j=k:=by omega
     subst this;rw [hn]at hm;injection hm with hm;rw [<-hm];exact hc)
    clear hn yM;obtain⟨wq,vC⟩:∃v,v=wr:=⟨_,rfl⟩;subst vC;by_cases cL:n.place=nn
    ·have lB:((n.place:Int)==(nn:Int))=true:=by rw [cL];simp
     have yZ:nn < 64:=by omega
     have GJ:=Qq (Qcj HN.out lB HJ.out);have lK:=Qq (show Vr lg ks cs alive t (nn:Int)=(!t.testBit nn&& !Hs lg ks alive n t) by
      unfold Vr;rw [fY.out,cond_false,jF.out,GJ.out]
      rfl)
     have yS:=Mv t nn (by omega);have zL:=Qq (show Qg w (wq.alloc (.cells #[.int .i64 (n.place:Int),.int .i64 n.group,.slice Ax n.x.length cx,.slice Ay n.y.length cy,.int .u64 (n.parts:Int)] 138))from HX.out.alloc _);have eF:=Qq (Qnc b lg base root ks cs alive n t (.slice Ax n.x.length cx) (.slice Ay n.y.length cy) _ (HE.out.ext zL.out) xX (by omega) hm sW.out (wC.out.ext (Qz.alloc _)) (eV.out.ext (Qz.alloc _)) uU jS ⟨bB,vD⟩ (by omega));have hq:=fun(w:World) (a:Option Addr) (n c:Nat)=>Lib.run_eql_slice_nil (P:=Tryz.prog) w 36 3 a n c 0 0 Tryz.underlying36
     obtain⟨tb,yK⟩:∃x,x=t.testBit nn:=⟨_,rfl⟩;rw [<-yK]at lK yS;clear yK cL uU jS bB vD;cases tb
     ·simp only [Bool.not_false]at yS;go_wp2_with fail;refine eF.out.mono ?_;rintro e w3 oU;rcases oU with⟨rfl,zC,oI⟩|⟨ad3,c3',ls,rfl,zC,_,_,_,_,XZ⟩
      ·have zB:=Qq (zL.out.trans zC);have HD:=Qq (show Hs lg ks alive n t=false by
        cases h:Hs lg ks alive n t
        ·rfl
        exact absurd (Eh.1 h) oI)
       clear zC oI;go_wp2_with fail;go_ret;exact⟨by rw [lK.out,HD.out] <;> rfl,zB.out⟩
      have zB:=Qq (zL.out.trans zC);have HD:=Qq (show Hs lg ks alive n t=true from Eh.2 XZ);clear zC XZ;go_wp2_with fail;go_ret;exact⟨by rw [lK.out,HD.out] <;> rfl,zB.out⟩
     simp only [Bool.not_true]at yS;go_wp2_with fail;go_ret;exact⟨by rw [lK.out] <;> rfl,zL.out⟩
    have lB:((n.place:Int)==(nn:Int))=false:=by rw [beq_eq_false_iff_ne];omega
    clear cL uU jS bB vD;go_wp2_with fail;go_roundw
    case rel=>exact⟨k+1,by go_num,by omega,Qq ⟨HX.out.alloc _,xZ.out lB⟩⟩
    case measure=>simp [intOf];omega
   obtain rfl:cs.length=k:=by omega
   have gD:=Qq (Qlc HJ.out);have lK:=Qq (show Vr lg ks cs alive t (nn:Int)=false by
    unfold Vr;rw [fY.out,cond_false,jF.out,gD.out])
   go_wp2_with fail;go_ret;exact⟨by rw [lK.out] <;> rfl,HX.out⟩
end Go.Proofs.YtkmclcmnoicagaaGreatDoor
