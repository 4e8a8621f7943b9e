/- types' coherent: the walk. -/
import Derived.Test.YtkmclcmnoicagaaGreatDoorK22
import Derived.Maps.OwnOps
namespace Go.Proofs.YtkmclcmnoicagaaGreatDoor
set_option maxRecDepth 100000
set_option maxHeartbeats 128000000
open Go.RowKit
def Oz(t:Nat)(c:Cm):Bool:=t.testBit c.place==((t&&&c.parts)==c.parts)
def Qyh(lg:Int)(t:Nat)(k:Kn):Bool:= !(Bx lg&&(t.testBit k.place&& !k.holds.getD t false))
theorem Qwh {lg:Int} {ks:List Kn} {cs:List Cm} {t k:Nat} {c:Cm}(hn:cs[k]?=some c)(h:Oz t c=false):Vz lg ks cs t=false:=by
 unfold Vz;have:cs.all (fun c=>t.testBit c.place==((t&&&c.parts)==c.parts))=false:=by
  rw [List.all_eq_false];exact⟨c,List.mem_of_getElem? hn,by show ¬Oz t c=true;rw [h];simp⟩
 rw [this];rfl
theorem Zyv {lg:Int} {ks:List Kn} {cs:List Cm} {t k:Nat} {n:Kn}(hn:ks[k]?=some n)(h:Qyh lg t n=false):Vz lg ks cs t=false:=by
 unfold Vz;have:ks.all (fun k=> !(Bx lg&&(t.testBit k.place&& !k.holds.getD t false)))=false:=by
  rw [List.all_eq_false];exact⟨n,List.mem_of_getElem? hn,by show ¬Qyh lg t n=true;rw [h];simp⟩
 rw [this,Bool.and_false]
theorem Qot {lg:Int} {ks:List Kn} {cs:List Cm} {t:Nat}(h1:∀(j:Nat) (c:Cm),j < cs.length->cs[j]?=some c->Oz t c=true)(h2:∀(j:Nat) (n:Kn),j < ks.length->ks[j]?=some n->Qyh lg t n=true):Vz lg ks cs t=true:=by
 unfold Vz;rw [Bool.and_eq_true,List.all_eq_true,List.all_eq_true];constructor
 ·intro c hc;obtain⟨j,hj,e⟩:=List.getElem_of_mem hc;exact h1 j c hj (by rw [Qv hj,e])
 intro c hc;obtain⟨j,hj,e⟩:=List.getElem_of_mem hc;exact h2 j c hj (by rw [Qv hj,e])
theorem Qbs {w:World} {A:Option Addr} {c:Nat} {l:List Cm}(h:Qza w A c l) {k:Nat} {n:Cm}(hk:l[k]?=some n):∃ad,A=some ad/\ad.block < w.heap.size/\Qf3 w (ad.add (k*5)) n:=by
 obtain⟨ad,e,hb,hc⟩:=h.2.2 (by intro e;rw [e]at hk;simp at hk);exact⟨ad,e,hb,hc k n hk⟩
theorem Qz3 {w:World} {b:Nat} {a0 a1 a2 a3 a4:Value} {t:TypeId}(h:w.heap[b]?=some (.cells #[a0,a1,a2,a3,a4] t (0,0))):
 w.cell? ⟨b,0,none⟩=some a0/\w.cell? ⟨b,1,none⟩=some a1/\w.cell? ⟨b,2,none⟩=some a2/\w.cell? ⟨b,3,none⟩=some a3/\w.cell? ⟨b,4,none⟩=some a4/\b < w.heap.size :=
 ⟨by simp [World.cell?,h],by simp [World.cell?,h],by simp [World.cell?,h],by simp [World.cell?,h],by simp [World.cell?,h],Qf h⟩
theorem Qmz(t q:Nat)(ht:t < 18446744073709551616)(hq:q < 18446744073709551616):(bits .and .u64 (t:Int) (q:Int)==(q:Int))=((t&&&q)==q):=by
 rw [bits_and_u64_nat _ _ ht hq,Bool.eq_iff_iff,beq_iff_eq,beq_iff_eq];omega
theorem Qbl(b:Nat)(lg:Int)(base:List (List Nd))(root:List Bool)(ks:List Kn)(cs:List Cm)(alive:List Bool)(t:Nat)(w:World)
 (hE:Eng w b lg base root ks cs alive)(ht:t < 4096)(rI:∀k∈ks,k.place < 64/\t < k.holds.length)(qO:∀c∈cs,c.place < 64/\c.parts < 18446744073709551616):
 Calls Tryz.prog 131 #[.pointer (some ⟨b,0,none⟩),.int .u64 (t:Int)] w fun e w'=>e=.returned (.bool (Vz lg ks cs t))/\Ext w w':=by
 obtain⟨Ab,cb,Ar,cr,Ak,ck,Ac,cc,Aa,ca,d0,d1,d2,d3,d4,d5,yW,_,_,uQ,xI,_⟩:=hE.cells;have HK:=Qq uQ;have HC:=Qq xI;have KD:=uQ.1;have zT:=uQ.2.1;have wN:=xI.1;have mQ:=xI.2.1;unfold maxLen at zT mQ;have tL:=Qq rI;have lL:=Qq qO;have D0:=Qq d0;have D3:=Qq d3;clear hE uQ xI rI qO d1 d2 d3 d5 d0;go_enter Tryz.func131,Tryz.ntmps131;go_wp2_with fail;clear d4;go_loopw [14] (fun v wr=>∃k:Nat,v=.int .i64 (k:Int)/\k<=cs.length/\Hid (Ext w wr/\∀(j:Nat) (c:Cm),j < k->cs[j]?=some c->Oz t c=true)) (fun v _=>cs.length - (intOf v).toNat)
 case atStart=>exact⟨0,rfl,Nat.zero_le _,Qq ⟨Qz,fun j n hj=>absurd hj (by omega)⟩⟩
 case round =>
  obtain⟨k,rfl,hk,zY⟩:=hrel;have HX:=Qq zY.out.1;have HJ:=Qq zY.out.2;clear zY;by_cases hlt2:k < cs.length
  ·have yP:(k:Int) < (cs.length:Int):=by omega
   obtain⟨n,hn⟩:∃n,cs[k]?=some n:=⟨_,Qv hlt2⟩;obtain⟨lU,TO⟩:=lL.out n (List.mem_of_getElem? hn);obtain⟨ad,rfl,yZ,yM⟩:=Qbs HC.out hn;obtain⟨vx,vy,c0,c1,c2,c3,c4,wT,qR⟩:=yM.ext HX.out (Qj yZ);obtain⟨Ax,cx,rfl,_⟩:=wT;obtain⟨Ay,cy,rfl,_⟩:=qR;have tQ:(ad.add (k*5)).block < wr.heap.size:=by rw [Qr];exact Qy yZ HX.out.size
   have HN:=Qq hn;have yA:=Qq (show Oz t n=true->∀(j:Nat) (m:Cm),j < k+1->cs[j]?=some m->Oz t m=true from fun hc j m hj hm=>by
    by_cases e:j < k
    ·exact HJ.out j m e hm
    have:j=k:=by omega
    subst this;rw [hn]at hm;injection hm with hm;rw [<-hm];exact hc)
   have yT:=Bz t n.place (by omega);have wZ:=Qmz t n.parts (by omega) TO;obtain⟨p1,lW⟩:∃x,x=t.testBit n.place:=⟨_,rfl⟩;obtain⟨p2,tF⟩:∃x,x=((t&&&n.parts)==n.parts):=⟨_,rfl⟩;have jY:=Qq (show Oz t n=(p1==p2) by rw [lW,tF];rfl);rw [<-lW]at yT;rw [<-tF]at wZ;clear hn yM lW tF;obtain⟨wq,vD⟩:∃v,v=wr:=⟨_,rfl⟩;subst vD;go_upto_region 4 with(fail);obtain⟨e0,e1,e2,e3,e4,eb⟩:=Qz3 (show(wq.alloc (.cells #[.int .i64 (n.place:Int),.int .i64 n.group,.slice Ax n.x.length cx,.slice Ay n.y.length cy,.int .u64 (n.parts:Int)] 138)).heap[wq.heap.size]?=some (.cells #[.int .i64 (n.place:Int),.int .i64 n.group,.slice Ax n.x.length cx,.slice Ay n.y.length cy,.int .u64 (n.parts:Int)] 138 (0,0))from heap_alloc_new _ _)
   cases p1 <;> cases p2
   ·have HT:=Qq (show Oz t n=true by rw [jY.out];rfl);refine wp_region_held_drew (S:=fun w'=>w'.cell? (⟨wq.heap.size,0,none⟩)=some (.int .i64 (n.place:Int))/\w'.cell? (⟨wq.heap.size,4,none⟩)=some (.int .u64 (n.parts:Int))) (by kernel_rfl) ⟨xc eb e0,xc eb e4⟩ (fun zZ=> ?_);refine tk 0 zZ ?_;refine tk 1 zZ ?_;refine tk 2 zZ ?_;refine tk 3 zZ ?_;refine tk 4 zZ ?_;refine tk 5 zZ ?_;refine tk 6 zZ ?_;refine tk 7 zZ ?_;refine tk 8 zZ ?_;refine tk 9 zZ ?_;refine tk 10 zZ ?_;refine tk 11 zZ ?_;refine tk 12 zZ ?_;refine tk 13 zZ ?_;refine wpAnyH_done (by kernel_rfl) ?_ _
    go_wp2_with fail;go_roundw
    case rel=>exact⟨k+1,by go_num,by omega,Qq ⟨HX.out.trans (Qz.alloc _).drew,yA.out HT.out⟩⟩
    case measure=>simp [intOf];omega
   ·have HE:=Qq (show Vz lg ks cs t=false from Qwh HN.out (by rw [jY.out];rfl));refine wp_region_held_drew (S:=fun w'=>w'.cell? (⟨wq.heap.size,0,none⟩)=some (.int .i64 (n.place:Int))/\w'.cell? (⟨wq.heap.size,4,none⟩)=some (.int .u64 (n.parts:Int))) (by kernel_rfl) ⟨xc eb e0,xc eb e4⟩ (fun zZ=> ?_);refine tk 0 zZ ?_;refine tk 1 zZ ?_;refine tk 2 zZ ?_;refine tk 3 zZ ?_;refine tk 4 zZ ?_;refine tk 5 zZ ?_;refine tk 6 zZ ?_;refine tk 7 zZ ?_;refine tk 8 zZ ?_;refine tk 9 zZ ?_;refine tk 10 zZ ?_;refine tk 11 zZ ?_;refine tk 12 zZ ?_;refine tk 13 zZ ?_
    refine wpAnyH_done (by kernel_rfl) ?_ _;go_wp2_with fail;go_ret;exact⟨by rw [HE.out] <;> rfl,HX.out.trans (Qz.alloc _).drew⟩
   ·have HE:=Qq (show Vz lg ks cs t=false from Qwh HN.out (by rw [jY.out];rfl));refine wp_region_held_drew (S:=fun w'=>w'.cell? (⟨wq.heap.size,0,none⟩)=some (.int .i64 (n.place:Int))/\w'.cell? (⟨wq.heap.size,4,none⟩)=some (.int .u64 (n.parts:Int))) (by kernel_rfl) ⟨xc eb e0,xc eb e4⟩ (fun zZ=> ?_);refine tk 0 zZ ?_;refine tk 1 zZ ?_;refine tk 2 zZ ?_;refine tk 3 zZ ?_;refine tk 4 zZ ?_;refine tk 5 zZ ?_;refine tk 6 zZ ?_;refine tk 7 zZ ?_;refine tk 8 zZ ?_;refine tk 9 zZ ?_;refine tk 10 zZ ?_;refine tk 11 zZ ?_;refine tk 12 zZ ?_;refine tk 13 zZ ?_
    refine wpAnyH_done (by kernel_rfl) ?_ _;go_wp2_with fail;go_ret;exact⟨by rw [HE.out] <;> rfl,HX.out.trans (Qz.alloc _).drew⟩
   have HT:=Qq (show Oz t n=true by rw [jY.out];rfl);refine wp_region_held_drew (S:=fun w'=>w'.cell? (⟨wq.heap.size,0,none⟩)=some (.int .i64 (n.place:Int))/\w'.cell? (⟨wq.heap.size,4,none⟩)=some (.int .u64 (n.parts:Int))) (by kernel_rfl) ⟨xc eb e0,xc eb e4⟩ (fun zZ=> ?_);refine tk 0 zZ ?_;refine tk 1 zZ ?_;refine tk 2 zZ ?_;refine tk 3 zZ ?_;refine tk 4 zZ ?_;refine tk 5 zZ ?_;refine tk 6 zZ ?_;refine tk 7 zZ ?_;refine tk 8 zZ ?_;refine tk 9 zZ ?_;refine tk 10 zZ ?_;refine tk 11 zZ ?_;refine tk 12 zZ ?_;refine tk 13 zZ ?_;refine wpAnyH_done (by kernel_rfl) ?_ _
   go_wp2_with fail;go_roundw
   case rel=>exact⟨k+1,by go_num,by omega,Qq ⟨HX.out.trans (Qz.alloc _).drew,yA.out HT.out⟩⟩
   case measure=>simp [intOf];omega
  obtain rfl:cs.length=k:=by omega
  have L9:=Qq HJ.out;have VL:=Qq HX.out;have dw3:=(HX.out.cell (p:=⟨b,3,none⟩) yW).trans D3.out;clear HJ HX;obtain⟨w1,tT⟩:∃v,v=wr:=⟨_,rfl⟩;subst tT;go_wp2_with fail;clear dw3;go_loopw [38] (fun v wr=>∃k:Nat,v=.int .i64 (k:Int)/\k<=ks.length/\Hid (Ext w wr/\∀(j:Nat) (c:Kn),j < k->ks[j]?=some c->Qyh lg t c=true)) (fun v _=>ks.length - (intOf v).toNat)
  case atStart=>exact⟨0,rfl,Nat.zero_le _,Qq ⟨VL.out,fun j n hj=>absurd hj (by omega)⟩⟩
  case round =>
   obtain⟨k,rfl,hk,zY⟩:=hrel;have HX:=Qq zY.out.1;have HJ:=Qq zY.out.2;clear zY;by_cases hlt2:k < ks.length
   ·have yP:(k:Int) < (ks.length:Int):=by omega
    obtain⟨n,hn⟩:∃n,ks[k]?=some n:=⟨_,Qv hlt2⟩;obtain⟨lU,UH⟩:=tL.out n (List.mem_of_getElem? hn);obtain⟨ad,rfl,yZ,yM⟩:=Qq1 HK.out hn;obtain⟨vh,c0,c1,c2,rK⟩:=yM.ext HX.out (Qj yZ);obtain⟨Ah,ch,rfl,rK⟩:=rK;have hhc:=rK.1;have YE:=rK.2.1;unfold maxLen at YE;obtain⟨ah,rfl,DQ,yR⟩:=Xv rK UH;have tQ:(ad.add (k*3)).block < wr.heap.size:=by rw [Qr];exact Qy yZ HX.out.size
    have NI:(ah.add t).block < wr.heap.size:=by rw [Qr];exact DQ
    have MS:(t:Int) < (n.holds.length:Int):=by omega
    have dl0:=(HX.out.cell (p:=⟨b,0,none⟩) yW).trans D0.out;have sG:b < wr.heap.size:=Qy yW HX.out.size;have HN:=Qq hn;have yA:=Qq (show Qyh lg t n=true->∀(j:Nat) (m:Kn),j < k+1->ks[j]?=some m->Qyh lg t m=true from fun hc j m hj hm=>by
     by_cases e:j < k
     ·exact HJ.out j m e hm
     have:j=k:=by omega
     subst this;rw [hn]at hm;injection hm with hm;rw [<-hm];exact hc)
    have yT:=Bz t n.place (by omega);obtain⟨ph,TM⟩:∃x,x=n.holds.getD t false:=⟨_,rfl⟩;obtain⟨p1,lW⟩:∃x,x=t.testBit n.place:=⟨_,rfl⟩;obtain⟨pr,CM⟩:∃x,x=Bx lg:=⟨_,rfl⟩;have jY:=Qq (show Qyh lg t n= !(pr&&(p1&& !ph)) by rw [TM,lW,CM];rfl);have KR:=Qq (show ∀W,W.cell? ⟨b,0,none⟩=some (.int .i64 lg)->Calls Tryz.prog 184 #[.pointer (some ⟨b,0,none⟩)] W fun e w'=>e=.returned (.bool pr)/\W=w' from fun W hW=>CM▸Qfe b lg W hW);rw [<-TM]at yR;rw [<-lW]at yT;clear hn yM rK TM lW CM;obtain⟨wq,vD⟩:∃v,v=wr:=⟨_,rfl⟩;subst vD;cases pr
    ·go_wp2_with fail;refine(KR.out _ ((((Ext.refl wq).alloc _).cell (p:=⟨b,0,none⟩) sG).trans dl0)).mono ?_;rintro e w3 ⟨rfl,rfl⟩;go_wp2_with fail;go_roundw
     case rel=>exact⟨k+1,by go_num,by omega,Qq ⟨HX.out.trans (Qz.alloc _),yA.out (by rw [jY.out];rfl)⟩⟩
     case measure=>simp [intOf];omega
    cases p1
    ·go_wp2_with fail;refine(KR.out _ ((((Ext.refl wq).alloc _).cell (p:=⟨b,0,none⟩) sG).trans dl0)).mono ?_;rintro e w3 ⟨rfl,rfl⟩;go_wp2_with fail;go_roundw
     case rel=>exact⟨k+1,by go_num,by omega,Qq ⟨HX.out.trans (Qz.alloc _),yA.out (by rw [jY.out];rfl)⟩⟩
     case measure=>simp [intOf];omega
    cases ph
    ·have HE:=Qq (show Vz lg ks cs t=false from Zyv HN.out (by rw [jY.out];rfl));go_wp2_with fail;refine(KR.out _ ((((Ext.refl wq).alloc _).cell (p:=⟨b,0,none⟩) sG).trans dl0)).mono ?_;rintro e w3 ⟨rfl,rfl⟩;go_wp2_with fail;go_ret;exact⟨by rw [HE.out] <;> rfl,HX.out.trans (Qz.alloc _)⟩
    go_wp2_with fail;refine(KR.out _ ((((Ext.refl wq).alloc _).cell (p:=⟨b,0,none⟩) sG).trans dl0)).mono ?_;rintro e w3 ⟨rfl,rfl⟩;go_wp2_with fail;go_roundw
    case rel=>exact⟨k+1,by go_num,by omega,Qq ⟨HX.out.trans (Qz.alloc _),yA.out (by rw [jY.out];rfl)⟩⟩
    case measure=>simp [intOf];omega
   obtain rfl:ks.length=k:=by omega
   have HE:=Qq (Qot L9.out HJ.out);go_wp2_with fail;go_ret;exact⟨by rw [HE.out] <;> rfl,HX.out⟩
open Go.Maps (Keyed IsMap Tidy has has_put_same has_put_other atKey_put_same atKey_put_other)
def Ug(w:World)(b:Nat)(q ps:List Nat):Prop :=
 ∃(D:D0) (n:Nat),w.ownsMap Tryz.prog 3 (plainElem Tryz.prog 3) b n D/\n<=q.length/\(∀u:Nat,has D (.int .i64 (u:Int))=decide (u∈q.tail))/\
  (∀j:Nat,1<=j->j < q.length->∀z,D.atKey (.int .i64 ((q.getD j 0:Nat):Int)) z=.lit (.int .i64 ((ps.getD j 0:Nat):Int)))
theorem Ug.made(w:World)(t:Nat):Ug (w.alloc (.map #[] 0)) w.heap.size [t] [0]:=
 ⟨.map [],0,World.ownsMap_made w _ _ _,Nat.zero_le _,fun u=>by simp [has],fun j h1 h2=>by simp at h2;omega⟩
theorem Qqq {w w':World} {P:Program} {k:TypeId} {R:Value->Option (D0×List MemPlace)} {b n:Nat} {D:D0}(h:w.ownsMap P k R b n D)(hb:w'.heap[b]?=w.heap[b]?):w'.ownsMap P k R b n D:=by
 obtain⟨es,clock,h1,h2⟩:=h;exact⟨es,clock,hb.trans h1,h2⟩
theorem Ug.lt {w:World} {b:Nat} {q ps:List Nat}(h:Ug w b q ps):b < w.heap.size:=by
 obtain⟨D,n,h1,_⟩:=h;exact h1.lt
theorem Ug.kept {w w':World} {b:Nat} {q ps:List Nat}(h:Ug w b q ps)(hb:w'.heap[b]?=w.heap[b]?):Ug w' b q ps:=by
 obtain⟨D,n,h1,h2⟩:=h;exact⟨D,n,Qqq h1 hb,h2⟩
theorem Ug.put {w':World} {b:Nat} {q ps:List Nat} {D:D0} {n u i:Nat}(hD:IsMap D)(hn:n<=q.length)(hh:∀u:Nat,has D (.int .i64 (u:Int))=decide (u∈q.tail))
 (ha:∀j:Nat,1<=j->j < q.length->∀z,D.atKey (.int .i64 ((q.getD j 0:Nat):Int)) z=.lit (.int .i64 ((ps.getD j 0:Nat):Int)))(hp:0 < q.length)(hl:ps.length=q.length)(hu:u∉q.tail)
 (h:w'.ownsMap Tryz.prog 3 (plainElem Tryz.prog 3) b (n+1) (D.put (.int .i64 (u:Int)) (.lit (.int .i64 (i:Int))))):Ug w' b (q++ [u]) (ps++ [i]):=by
 have wE:WideAt.IsKeyLit (.int .i64 (u:Int)):=trivial;have other:∀v:Nat,v≠u->(Lit.int .i64 (v:Int))≠.int .i64 (u:Int):=fun v e e'=>e (by injection e' with _ e';omega)
 refine⟨_,_,h,by simp;omega,fun v=> ?_,fun j h1 h2 z=> ?_⟩
 ·rw [Lm hp];by_cases e:v=u
  ·subst e;rw [has_put_same hD wE];simp
  rw [has_put_other (other v e),hh v];simp [e]
 by_cases hj:j < q.length
 ·have hm:=Qvv h1 hj;have zQ:q.getD j 0≠u:=fun e=>hu (e▸hm)
  rw [Nw hj,Nw (by omega),atKey_put_other (other _ zQ)];exact ha j h1 hj z
 have e:j=q.length:=by simp at h2;omega
 subst e;have e2:(ps++ [i]).getD q.length 0=i:=by rw [<-hl];exact Se
 rw [Se,e2];exact atKey_put_same hD wE _ z
def Ga(l:List Nat):List Value:=l.map fun(u:Nat)=>Value.int .i64 (u:Int)
structure Sj (w wr:World) (cs:Array Value) (vq:Value) (q ps:List Nat):Prop where
 ext:Ext w wr
 box:wr.heap[w.heap.size]?=some (.cells cs 138 (0,0))
 map:Ug wr (w.heap.size+1) q ps
 row:wr.ownsRow (w.heap.size+2) 3 1 vq q.length (Ga q)
section
variable {w wr W:World} {cs:Array Value} {vq:Value} {q ps:List Nat}
theorem Sj.next(h:Sj w wr cs vq q ps)(he:Ext wr W):Sj w W cs vq q ps :=
 ⟨h.ext.trans he,(he.block (Qf h.box)).trans h.box,h.map.kept (he.block h.map.lt),Zf h.row he⟩
theorem Sj.push {w6 w7 W6:World} {v7:Value} {u i:Nat}(h:Sj w wr cs vq q ps)(kW:wr.grownBy w6 (some (w.heap.size+1)))(kQ:Ug w6 (w.heap.size+1) (q++ [u]) (ps++ [i]))(he:Ext w6 W6)
 (xL:w7.ownsRow (w.heap.size+2) 3 1 v7 (q.length+1) (Ga q++ [.int .i64 (u:Int)]))(uF:W6.grownBy w7 vq.ownBlock):Sj w w7 cs v7 (q++ [u]) (ps++ [i]):=by
 have ZS:∀g,vq.ownBlock=some g->w.heap.size+2<=g:=fun g hg=>(h.row.lt g hg).1
 have gS:=Qf h.box;have s6:wr.heap.size<=w6.heap.size:=kW.size;refine⟨((h.ext.grown kW (fun k hk=>by injection hk with hk;omega)).trans he).grown uF (fun g hg=>by have:=ZS g hg;omega),?_,?_,?_⟩
 ·rw [uF.block _ (Qy gS (Qx s6 he.size)) (fun e=>by have:=ZS _ e.symm;omega),he.block (Qy gS s6),kW.block _ gS (fun e=>by injection e with e;omega)];exact h.box
 ·refine kQ.kept ?_;rw [uF.block _ (Qy kQ.lt he.size) (fun e=>by have:=ZS _ e.symm;omega),he.block kQ.lt]
 have e:Ga (q++ [u])=Ga q++ [.int .i64 (u:Int)]:=by unfold Ga;rw [List.map_append];rfl
 rw [e,List.length_append,List.length_singleton];exact xL
theorem Sj.row6 {w6:World}(h:Sj w wr cs vq q ps)(kW:wr.grownBy w6 (some (w.heap.size+1))):w6.ownsRow (w.heap.size+2) 3 1 vq q.length (Ga q):=
 Zp h.row fun g hg=>kW.block g (h.row.lt g hg).2 (fun e=>by injection e with e;have:=(h.row.lt g hg).1;omega)
theorem Us {base n:Nat} {v:Value}(h:w.ownsRow base 3 1 v n (Ga q)) {j:Nat}(hj:j < q.length)(hn:n=q.length):∃g cap,v=.slice (some ⟨g,0,none⟩) n cap/\g < w.heap.size/\base<=g/\n<=cap/\cap<=maxLen/\w.cell? ⟨g,j,none⟩=some (.int .i64 ((q.getD j 0:Nat):Int)):=by
 rcases h.2 with⟨_,h0⟩|⟨g,cap,cur,rfl,hb,hg,iG,hm,hs,ht⟩
 ·omega
 refine⟨g,cap,rfl,Qf hg,hb,iG,hm,?_⟩;have hz:(Ga q)[j]?=some (.int .i64 ((q.getD j 0:Nat):Int)):=by
  unfold Ga;rw [List.getElem?_map,Qv hj,Qk,Qv hj];rfl
 rw [<-ht,List.getElem?_take]at hz
 split at hz
 ·have h2:cur[j]?=some (.int .i64 ((q.getD j 0:Nat):Int)):=by simpa using hz
  simp [World.cell?,hg,h2]
 cases hz
theorem Qlc(w:World)(base:Nat)(hb:base<=w.heap.size)(t:Nat):(w.alloc (.cells #[.int .i64 (t:Int)] 3)).ownsRow base 3 1 (.slice (some ⟨w.heap.size,0,none⟩) 1 1) 1 (Ga [t]):=
 ⟨rfl,.inr ⟨w.heap.size,1,#[.int .i64 (t:Int)],rfl,hb,heap_alloc_new _ _,Nat.le_refl _,by unfold maxLen;omega,rfl,rfl⟩⟩
end
open Go.Maps (has)
def Qw2(step:Nat->Nat->Bool)(y:Nat->Bool)(t:Nat)(w:World)(e:Ending)(w':World):Prop :=
 (e=.returned (.slice none 0 0)/\Ext w w'/\¬∃u,Rch (fun a b=>step a b=true) t u/\y u=false)\/
 (∃ad c ls,e=.returned (.slice (some ad) ls.length c)/\Ext w w'/\w'.ownsRow w.heap.size 3 1 (.slice (some ad) ls.length c) ls.length (Ga ls)/\ls≠ []/\Hb step t ls/\(∀u,ls[0]?=some u->y u=false)/\∃u,Rch (fun a b=>step a b=true) t u/\y u=false)
theorem Qhe {P:Nat->Bool}(k:Nat):(List.range (k+1)).any P=((List.range k).any P||P k):=by
 rw [List.range_succ,List.any_append];simp
theorem Qdx(q:List Nat)(u:Nat):Ga (q++ [u])=Ga q++ [.int .i64 (u:Int)]:=by
 unfold Ga;rw [List.map_append];rfl
theorem Cz {a:Nat}(h:a<=1000000):Vs (a:Int):=⟨by omega,by omega⟩
theorem Qdl(b:Nat)(lg:Int)(base:List (List Nd))(root:List Bool)(ks:List Kn)(cs:List Cm)(alive:List Bool)(c:Cm)(t:Nat)(vx vy:Value)(w:World)
 (hE:Eng w b lg base root ks cs alive)(xY:0<=lg/\lg<=6)(ht:t < 4096)(hm:alive.length<=4096)(rI:∀k∈ks,k.place < 64/\alive.length<=k.holds.length)(hx:Kl w vx c.x)(hy:Kl w vy c.y)(vC:c.x.length=alive.length)(kF:c.y.length=alive.length)(xW:0<=c.group/\c.group < 16)(qH:0 < alive.length):
 Calls Tryz.prog 139 #[.pointer (some ⟨b,0,none⟩),.agg #[.int .i64 (c.place:Int),.int .i64 c.group,vx,vy,.int .u64 (c.parts:Int)],.int .u64 (t:Int)] w (Qw2 (Mx lg ks alive c) (fun u=>c.y.getD u false) t w):=by
 have rY:= @run_makeMap Tryz.prog;obtain⟨Ab,cb,Ar,cr,Ak,ck,Ac,cc,Aa,ca,d0,d1,d2,d3,d4,d5,yW,_,_,uQ,_,vS⟩:=hE.cells;have HE:=Qq hE;obtain⟨ag,rfl,E4,_⟩:=Xv vS qH;obtain⟨Ax,cx,rfl,wT⟩:=hx;obtain⟨Ay,cy,rfl,qR⟩:=hy;obtain⟨ax,rfl,wQ,_⟩:=Xv wT (show 0 < c.x.length by omega);obtain⟨ay,rfl,cF,_⟩:=Xv qR (show 0 < c.y.length by omega);have HA:=Qq vS;have xD:=Qq wT;have gC:=Qq qR;have SA:=vS.1;have qQ:=vS.2.1;have hxc:=wT.1;have UR:=wT.2.1;have hyc:=qR.1;have C8:=qR.2.1;unfold maxLen at qQ UR C8;have tL:=Qq rI;obtain⟨gn,vY⟩:=Int.eq_ofNat_of_zero_le xW.1
 have UK:gn < 16:=by omega
 obtain⟨m,qL⟩:∃m,m=alive.length:=⟨_,rfl⟩;have I2:=Qq (show c.x.length=m by rw [vC,qL]);have Y9:=Qq (show c.y.length=m by rw [kF,qL]);rw [<-qL]at hm qH d5 SA;rw [show c.x.length=m by rw [vC,qL]]at hxc⊢;rw [show c.y.length=m by rw [kF,qL]]at hyc⊢;rw [vY];have mZ:=Qq vY;have HM:=Qq qL;obtain⟨st,wX⟩:∃s,s=Mx lg ks alive c:=⟨_,rfl⟩;have yX:=Qq wX;obtain⟨yy,ZF⟩:∃s:Nat->Bool,s=fun u=>c.y.getD u false:=⟨_,rfl⟩
 have Y8:=Qq ZF;rw [<-wX,<-ZF];have wG:=Qq (show ∀a u,st a u=(alive.getD u false&&(c.x.getD u false&&(List.range 4).any fun(i:Nat)=>Vy (gn:Int) i&&Jq lg ks (i:Int) a u))from fun a u=>by rw [wX];unfold Mx;rw [vY]);obtain⟨iI,pK,vO,vN,vM⟩:=info_parts Qzl;have D5:=Qq d5;clear hE vS wT qR rI vY qL wX ZF uQ vC kF d0 d1 d2 d3 d4 d5 xW;go_enter Tryz.func139,Tryz.ntmps139;go_wp2_with fail
 have dA:=Qq (show Sj w (((w.alloc (.cells #[.int .i64 (c.place:Int),.int .i64 (gn:Int),.slice (some ax) m cx,.slice (some ay) m cy,.int .u64 (c.parts:Int)] 138)).alloc (.map #[] 0)).alloc (.cells #[.int .i64 (t:Int)] 3)) #[.int .i64 (c.place:Int),.int .i64 (gn:Int),.slice (some ax) m cx,.slice (some ay) m cy,.int .u64 (c.parts:Int)] (.slice (some ⟨w.heap.size+1+1,0,none⟩) 1 1) [t] [0]from
  ⟨((Qz.alloc _).alloc _).alloc _,((Qz.alloc _).alloc _).block (by simp)|>.trans (heap_alloc_new _ _),by
    have:=(Ug.made (w.alloc (.cells #[.int .i64 (c.place:Int),.int .i64 (gn:Int),.slice (some ax) m cx,.slice (some ay) m cy,.int .u64 (c.parts:Int)] 138)) t);simp only [World.size_alloc]at this;exact this.kept ((Qz.alloc _).block (by simp)),by
    have:=Qlc ((w.alloc (.cells #[.int .i64 (c.place:Int),.int .i64 (gn:Int),.slice (some ax) m cx,.slice (some ay) m cy,.int .u64 (c.parts:Int)] 138)).alloc (.map #[] 0)) (w.heap.size+2) (by simp) t
    simpa using this⟩)
 go_loopw [8,9] (fun vq vi wr=>∃i:Nat,vi=.int .i64 (i:Int)/\i<=m+1/\Hid (∃q ps,Sj w wr #[.int .i64 (c.place:Int),.int .i64 (gn:Int),.slice (some ax) m cx,.slice (some ay) m cy,.int .u64 (c.parts:Int)] vq q ps/\Bfs st m t q ps/\i<=q.length/\(∀u∈q.tail,yy u=true)/\∀j,j < i->∀u,st (q.getD j 0) u=true->u∈q.tail)) (fun _ v _=>m+2 - (intOf v).toNat)
 case atStart=>exact⟨0,rfl,Nat.zero_le _,Qq ⟨[t],[0],dA.out,Bfs.start _ _ _,Nat.zero_le _,(fun u hu=>by cases hu),(fun j hj=>absurd hj (by omega))⟩⟩
 case round =>
  clear dA;obtain⟨i,rfl,hi,zY⟩:=hrel;obtain⟨q,ps,lV,VB,eN,ZH,yS⟩:=zY.out;have nP:=Qq lV;have jA:=Qq VB;have cS:=Qq ZH;have tX:=Qq yS;have Q3:=VB.qlen;obtain⟨Aq,cq,rfl⟩:=Qs lV.row;clear zY lV VB ZH yS;by_cases zG:i < q.length
  ·have CZ:(i:Int) < (q.length:Int):=by omega
   have dl5:=(nP.out.ext.cell (p:=⟨b,5,none⟩) yW).trans D5.out;obtain⟨wo,ZL⟩:∃v,v=wr:=⟨_,rfl⟩;subst ZL;go_wp2_with fail;clear dl5;go_loopw [8,33] (fun vq vk wr=>∃k:Nat,vk=.int .i64 (k:Int)/\k<=m/\Hid (∃q ps,Sj w wr #[.int .i64 (c.place:Int),.int .i64 (gn:Int),.slice (some ax) m cx,.slice (some ay) m cy,.int .u64 (c.parts:Int)] vq q ps/\Bfs st m t q ps/\i < q.length/\(∀u∈q.tail,yy u=true)/\(∀j,j < i->∀u,st (q.getD j 0) u=true->u∈q.tail)/\∀u,u < k->st (q.getD i 0) u=true->u∈q.tail)) (fun _ v _=>m - (intOf v).toNat)
   case atStart=>exact⟨0,rfl,Nat.zero_le _,Qq ⟨q,ps,nP.out,jA.out,zG,cS.out,tX.out,(fun u hu=>absurd hu (by omega))⟩⟩
   case round =>
    clear nP jA cS tX Q3 zG CZ eN;obtain⟨k,rfl,hk,zY⟩:=hrel;obtain⟨q,ps,lV,VB,eN,ZH,yS,TO⟩:=zY.out;have nP:=Qq lV;have jA:=Qq VB;have cS:=Qq ZH;have tX:=Qq yS;have AB:=Qq TO;have Q3:=VB.qlen;obtain⟨Aq,cq,rfl⟩:=Qs lV.row;clear zY lV VB ZH yS TO;by_cases hlt2:k < m
    ·have yP:(k:Int) < (m:Int):=by omega
     obtain⟨_,e1,_,a0⟩:=Xv (HA.out.ext nP.out.ext) (show k < alive.length by rw [<-HM.out];exact hlt2);injection e1 with e1;subst e1;obtain⟨_,e1,BI,x0⟩:=Xv (xD.out.ext nP.out.ext) (show k < c.x.length by rw [I2.out];exact hlt2);injection e1 with e1;subst e1;obtain⟨_,e1,BF,y0⟩:=Xv (gC.out.ext nP.out.ext) (show k < c.y.length by rw [Y9.out];exact hlt2);injection e1 with e1;subst e1;obtain⟨b0,b1,b2,b3,b4,bl⟩:=Qz3 nP.out.box;obtain⟨D,nD,xL,hnD,UI,YB⟩:=nP.out.map;have wE:=Rq (Cz (a:=k) (by omega));have DP:=UI k;have PM:=Qq xL;have M5:=Qq UI
     have AH:=Qq YB;have iY:=Qq (show ∀u,u < k+1->(u=k->st (q.getD i 0) k=true->k∈q.tail)->st (q.getD i 0) u=true->u∈q.tail from fun u hu h2 h3=>by
      by_cases e:u < k
      ·exact AB.out u e h3
      have:u=k:=by omega
      subst this;exact h2 rfl h3)
     clear UI YB;by_cases hseen:k∈q.tail
     ·have mA:=Qq hseen;rw [decide_eq_true hseen]at DP;clear hseen;go_wp2_with(at_lookup;refine wpList_lookup_own_ok_int _ rfl _ _ 178 rfl 3 3 .i64 Ur Tryz.underlying178 Tryz.underlying3 (Tb _) (w.heap.size+1) nD D rfl xL _ _ rfl wE ?_;intro cc yM sP;clear yM sP);go_roundw
      case rel=>exact⟨k+1,by go_num,by omega,Qq ⟨q,ps,nP.out,jA.out,eN,cS.out,tX.out,fun u hu=>iY.out u hu (fun _ _=>mA.out)⟩⟩
      case measure=>simp [intOf];omega
     have mA:=Qq hseen;rw [decide_eq_false hseen]at DP;clear hseen;have nN:=Qq (fun a=>wG.out a k);obtain⟨ak,qS⟩:∃x,x=alive.getD k false:=⟨_,rfl⟩;obtain⟨xk,RH⟩:∃x,x=c.x.getD k false:=⟨_,rfl⟩;rw [<-qS,<-RH]at nN;rw [<-qS]at a0;rw [<-RH]at x0;clear qS RH;cases ak
     ·go_wp2_with(at_lookup;refine wpList_lookup_own_ok_int _ rfl _ _ 178 rfl 3 3 .i64 Ur Tryz.underlying178 Tryz.underlying3 (Tb _) (w.heap.size+1) nD D rfl xL _ _ rfl wE ?_;intro cc yM sP;clear yM sP);go_roundw
      case rel=>exact⟨k+1,by go_num,by omega,Qq ⟨q,ps,nP.out,jA.out,eN,cS.out,tX.out,fun u hu=>iY.out u hu (fun _ h=>by rw [nN.out]at h;cases h)⟩⟩
      case measure=>simp [intOf];omega
     cases xk
     ·go_wp2_with(at_lookup;refine wpList_lookup_own_ok_int _ rfl _ _ 178 rfl 3 3 .i64 Ur Tryz.underlying178 Tryz.underlying3 (Tb _) (w.heap.size+1) nD D rfl xL _ _ rfl wE ?_;intro cc yM sP;clear yM sP);go_roundw
      case rel=>exact⟨k+1,by go_num,by omega,Qq ⟨q,ps,nP.out,jA.out,eN,cS.out,tX.out,fun u hu=>iY.out u hu (fun _ h=>by rw [nN.out]at h;cases h)⟩⟩
      case measure=>simp [intOf];omega
     obtain⟨P,hP⟩:∃P:Nat->Bool,P=fun(j:Nat)=>Vy (gn:Int) j&&Jq lg ks (j:Int) (q.getD i 0) k:=⟨_,rfl⟩
     have K3:=Qq hP;have Z4:=Qq (show st (q.getD i 0) k=(List.range 4).any P by rw [nN.out,hP];rfl);have hqi:q.getD i 0 < 4096:=by
      by_cases e:i=0
      ·subst e;have:=jA.out.head;rw [Qk,this];exact ht
      have:=jA.out.lt _ (Qvv (j:=i) (by omega) eN);omega
     clear hP;go_wp2_with(at_lookup;refine wpList_lookup_own_ok_int _ rfl _ _ 178 rfl 3 3 .i64 Ur Tryz.underlying178 Tryz.underlying3 (Tb _) (w.heap.size+1) nD D rfl xL _ _ rfl wE ?_;intro cc yM sP;clear yM sP);obtain⟨wm,hwm⟩:∃v,v=wr:=⟨_,rfl⟩;subst hwm;clear a0 x0 y0 b0 b1 b2 b3 b4 xL DP BI BF;go_loopw [14,57] (fun vb va wr=>∃j:Nat,va=.int .i64 (j:Int)/\j<=4/\vb=.bool ((List.range j).any P)/\Hid (Ext wm wr)) (fun _ v _=>4 - (intOf v).toNat)
     case atStart=>exact⟨0,rfl,Nat.zero_le _,rfl,Qq Qz⟩
     case round =>
      obtain⟨j,rfl,hj,rfl,HX⟩:=hrel;by_cases hj4:j < 4
      ·have kT:(j:Int) < 4:=by omega
       have iP:=Qq (Qhe (P:=P) j);have HN:=Qq (nP.out.next HX.out);obtain⟨b0,b1,b2,b3,b4,bl⟩:=Qz3 HN.out.box;obtain⟨g2,cap2,wA,tH,_,kM,tE,qP⟩:=Us HN.out.row eN rfl;injection wA with hsl2a _ hsl2b;subst hsl2a hsl2b;unfold maxLen at tE;have hiqi:(i:Int) < (q.length:Int):=by omega
       obtain⟨qi,XT⟩:∃x,x=q.getD i 0:=⟨_,rfl⟩;rw [<-XT]at qP hqi;have HQQ:=Qq XT;have jS:=Qq (Te b lg base root ks cs alive (j:Int) qi k wr (HE.out.ext HN.out.ext) xY (by omega) (by omega) (fun n hn=>⟨(tL.out n hn).1,by have:=(tL.out n hn).2;rw [<-HM.out]at this;omega⟩));have tP:=Pq gn j (by omega);have KV:=Qq (show P j=(gn.testBit j&&Jq lg ks (j:Int) qi k) by rw [K3.out,XT];rfl);clear XT;generalize (List.range j).any P=aj at iP;obtain⟨pj,Q5⟩:∃x,x=Jq lg ks (j:Int) qi k:=⟨_,rfl⟩;rw [<-Q5]at jS KV;obtain⟨gj,aF⟩:∃x,x=gn.testBit j:=⟨_,rfl⟩;rw [<-aF]at tP KV
       clear Q5 aF;cases aj
       ·cases gj
        ·go_wp2_with fail;go_roundw
         case rel=>exact⟨j+1,by go_num,by omega,by rw [iP.out,KV.out];rfl,HX⟩
         case measure=>simp [intOf];omega
        go_wp2_with fail;refine jS.out.mono ?_;rintro e w2 ⟨rfl,zS⟩;have zR:=Qq (HX.out.trans zS);clear zS;go_wp2_with fail;go_roundw
        case rel=>exact⟨j+1,by go_num,by omega,by rw [iP.out,KV.out];cases pj <;> rfl,zR⟩
        case measure=>simp [intOf];omega
       go_wp2_with fail;go_roundw
       case rel=>exact⟨j+1,by go_num,by omega,by rw [iP.out];rfl,HX⟩
       case measure=>simp [intOf];omega
      obtain rfl:4=j:=by omega
      have HN:=Qq (nP.out.next HX.out);cases tV:(List.range 4).any P
      ·have GB:=Qq (Z4.out.trans tV);clear tV;go_wp2_with fail;go_roundw
       case rel=>exact⟨k+1,by go_num,by omega,Qq ⟨q,ps,HN.out,jA.out,eN,cS.out,tX.out,fun u hu=>iY.out u hu (fun _ h=>by rw [GB.out]at h;cases h)⟩⟩
       case measure=>simp [intOf];omega
      have GB:=Qq (Z4.out.trans tV);clear tV;have oL:=Qq (show Bfs st m t (q++ [k]) (ps++ [i])from jA.out.push eN hlt2 mA.out GB.out);obtain⟨D2,nD2,rN,aB,T0,wM⟩:=HN.out.map;have M7:=Qq T0;have L7:=Qq wM;have PL:=Qq rN;have RX:=Qyo (Cz (a:=i) (by omega));have vF:=Cz (a:=k) (by omega);have RL:0 < q.length:=by omega
      have nO:=Qq jA.out.len;clear T0 wM;go_upto_region 19 with(at_mapUpdate;refine wpList_mapUpdate_own _ rfl _ _ _ 178 rfl 3 3 Ur Tryz.underlying178 _ (w.heap.size+1) nD2 D2 rfl rN (by unfold maxLen;omega) _ _ _ rfl rfl wE _ [] RX ?_;intro w6 qJ wP);have KZ:=Qq wP;have dD:=Qq (show Ug w6 (w.heap.size+1) (q++ [k]) (ps++ [i])from Ug.put PL.out.isMap aB M7.out L7.out RL nO.out mA.out qJ);have hZ:w.heap.size+2<=w6.heap.size:=by
       have h1:=dD.out.lt;have h2:=HN.out.row6 wP;obtain⟨g2,_,_,tH,aG,_⟩:=Us h2 eN rfl;omega
      have GJ:=Qq (HN.out.row6 wP);clear rN qJ wP RX wE;have xN:q.length+1<=maxLen:=by unfold maxLen;omega
      have xJ:(q.length+1)*8<=140737488355328:=by omega
      go_wp2_with(at_builtin;refine wpList_append_own_at _ rfl _ _ 36 rfl (w.heap.size+2) 3 iI (.int .i64 0) 1 8 Tryz.underlying36 pK vO vN vM rfl (by decide) _ q.length (Ga q) rfl (Zf GJ.out (Qz.alloc _)) ⟨_,0,none⟩ 1 1 [.int .i64 (k:Int)] rfl rfl (Zm _ _ _ (by simp)) (fun u hu=>by rw [List.mem_singleton.1 hu];rfl) xN xJ (by simp;omega) ?_);intro v7 w7 zW zX _ zF;have oY:=Qq (Sj.push HN.out KZ.out dD.out (Qz.alloc _) zW zX);obtain⟨A7,c7,rfl⟩:=Qs zW;clear zW zX zF;obtain⟨b0,b1,b2,b3,b4,bl⟩:=Qz3 oY.out.box;obtain⟨_,e1,hyb7,y0⟩:=Xv (gC.out.ext oY.out.ext) (show k < c.y.length by rw [Y9.out];exact hlt2)
      injection e1 with e1;subst e1;have KO:=Qq (show yy k=c.y.getD k false by rw [Y8.out]);obtain⟨yk,P2⟩:∃x,x=c.y.getD k false:=⟨_,rfl⟩;rw [<-P2]at y0 KO;clear P2;have AD:=Qq (show ∀u,u∈q.tail->u∈(q++ [k]).tail from fun u hu=>by rw [Lm RL];exact List.mem_append_left _ hu);have L3:=Qq (show k∈(q++ [k]).tail by rw [Lm RL];simp);cases yk
      case true =>
       go_wp2_with fail;go_roundw
       case rel=>exact⟨k+1,by go_num,by omega,Qq ⟨q++ [k],ps++ [i],oY.out,oL.out,by simp;omega,(fun u hu=>by
        rw [Lm RL]at hu;rcases List.mem_append.1 hu with hu|hu
        ·exact cS.out u hu
        ·rw [List.mem_singleton.1 hu];exact KO.out),(fun j hj u hu=>by
        rw [Nw (by omega)]at hu;exact AD.out u (tX.out j hj u hu)),(fun u hu h=>by
        rw [Nw eN]at h;by_cases e:u=k
        ·subst e;exact L3.out
        exact AD.out u (iY.out u hu (fun e'=>absurd e' e) h))⟩⟩
       case measure=>simp [intOf];omega
      case false =>
       have WA:=Qq (show ∃u,Rch (fun a b=>st a b=true) t u/\yy u=false from⟨k,by
        have:=oL.out.reach q.length (by omega) (by simp);rw [Se]at this;exact this,KO.out⟩)
       have RM:q.length<=4097:=by omega
       go_wp2_with fail;clear y0 b0 b1 b2 b3 b4;go_loopw [16,17] (fun vl vk wr=>∃kk:Nat,vk=.int .i64 (kk:Int)/\kk<=q.length/\Hid (∃ls,wr.ownsRow w7.heap.size 3 1 vl ls.length (Ga ls)/\Ext w7 wr/\Hb st ((q++ [k]).getD kk 0) ls/\(ls= []->kk=q.length)/\(∀u,ls[0]?=some u->u=k)/\ls.length+kk<=q.length)) (fun _ v _=>(intOf v).toNat)
       case atStart=>exact⟨q.length,by go_num,Nat.le_refl _,Qq ⟨[],World.ownsRow_nil _ _ _ _,Qz,trivial,fun _=>rfl,(fun u hu=>by cases hu),by simp⟩⟩
       case round =>
        obtain⟨kk,rfl,hkk,zY⟩:=hrel;obtain⟨ls,wC,vC,cN,gP,NH,KH⟩:=zY.out;have bC:=Qq wC;have aR:=Qq vC;have WM:=Qq cN;have YX:=Qq gP;have lE:=Qq NH;have oZ:=Qq (oY.out.next vC);obtain⟨Al,cl,rfl⟩:=Qs wC;clear zY wC vC cN gP NH;by_cases aD:0 < kk
        ·have hk0i:(0:Int) < (kk:Int):=by omega
         obtain⟨g2,cap2,wA,tH,aG,kM,tE,qP⟩:=Us (q:=q++ [k]) (n:=q.length+1) (j:=kk) (by have:=oY.out.row;rw [List.length_append,List.length_singleton]at this;exact this) (by rw [List.length_append,List.length_singleton];omega) (by rw [List.length_append,List.length_singleton]);injection wA with hsl2a _ hsl2b;subst hsl2a hsl2b;unfold maxLen at tE;have hkki:(kk:Int) < ((q.length:Int)+1):=by omega
         have R7:(kk:Int) < ((q.length+1:Nat):Int):=by omega
         obtain⟨qk,TJ⟩:∃x,x=(q++ [k]).getD kk 0:=⟨_,rfl⟩;obtain⟨pk,dZ⟩:∃x,x=(ps++ [i]).getD kk 0:=⟨_,rfl⟩;have PK:=Qq (show pk < kk/\st ((q++ [k]).getD pk 0) qk=true by rw [dZ,TJ];exact oL.out.par kk (by omega) (by rw [List.length_append,List.length_singleton];omega));have hqk4:qk < 4096:=by
          have:=oL.out.lt _ (Qvv (j:=kk) (by omega) (by rw [List.length_append,List.length_singleton];omega));rw [<-TJ]at this;omega
         have hpk1:=PK.out.1;have IG:=Qq (show ∀W,Ext w7 W->∃(D:D0) (n:Nat),W.ownsMap Tryz.prog 3 (plainElem Tryz.prog 3) (w.heap.size+1) n D/\∀z,D.atKey (.int .i64 (qk:Int)) z=.lit (.int .i64 (pk:Int))from fun W hW=>by
          obtain⟨D,n,h1,_,_,h4⟩:=(oY.out.next hW).map;refine⟨D,n,h1,fun z=> ?_⟩;have:=h4 kk (by omega) (by rw [List.length_append,List.length_singleton];omega) z;rw [<-TJ,<-dZ]at this;exact this)
         have IE:=Qq (show Hb st ((q++ [k]).getD pk 0) (ls++ [qk])from Qkp ls qk _ (by rw [TJ];exact WM.out) PK.out.2 rfl);have IM:=Qq (show ∀u,(ls++ [qk])[0]?=some u->u=k from fun u hu=>by
          cases hls:ls with
          |nil =>
           rw [hls]at hu;have e:=YX.out hls;rw [e,Se]at TJ;simp at hu;omega
          |cons a r =>
           rw [hls]at hu;refine lE.out u ?_;rw [hls]
           simpa using hu)
         rw [<-TJ]at qP;have eR:=(aR.out.cell (p:=⟨g2,kk,none⟩) tH).trans qP;have hkq:=Rq (Cz (a:=qk) (by omega));clear TJ dZ;have OC:ls.length+1<=maxLen:=by unfold maxLen;omega
         have D8:(ls.length+1)*8<=140737488355328:=by omega
         go_upto_region 24 with(at_builtin;refine wpList_append_own_at _ rfl _ _ 36 rfl w7.heap.size 3 iI (.int .i64 0) 1 8 Tryz.underlying36 pK vO vN vM rfl (by decide) _ ls.length (Ga ls) rfl (Zf bC.out (Qz.alloc _)) ⟨_,0,none⟩ 1 1 [.int .i64 (qk:Int)] rfl rfl (Zm _ _ _ (by simp)) (fun u hu=>by rw [List.mem_singleton.1 hu];rfl) OC D8 (Qx aR.out.size (by simp)) ?_;intro v9 w9 qI qM _ aM);have cU:=Qq (show Ext w7 w9 from Ext.grown (aR.out.alloc _) qM (fun g hg=>(bC.out.lt g hg).1));obtain⟨D9,n9,TQ,hk9⟩:=IG.out w9 cU.out;have EG:=(cU.out.cell (p:=⟨g2,kk,none⟩) tH).trans qP
         have LU:=Qq qI;obtain⟨A9,c9,rfl⟩:=Qs qI;clear qI qM aM eR;go_wp2_with(at_lookup;refine wpList_lookup_own_int _ rfl _ _ 178 rfl 3 3 .i64 Ur Tryz.underlying178 Tryz.underlying3 (Tb _) (w.heap.size+1) n9 D9 rfl TQ _ _ rfl hkq ?_;intro cc yM sP;obtain rfl:cc=(pk:Int):=(by have h1:=hk9 (.lit (.int .i64 0));rw [h1]at yM;injection yM with yM;injection yM with _ yM;exact yM.symm);clear yM sP);go_roundw
         case rel=>exact⟨pk,rfl,by omega,Qq ⟨ls++ [qk],by rw [List.length_append,List.length_singleton,Qdx];exact LU.out,cU.out,IE.out,(fun e=>by simp at e),IM.out,by rw [List.length_append,List.length_singleton];omega⟩⟩
         case measure=>simp [intOf];omega
        obtain rfl:0=kk:=by omega
        have UA:0 < ls.length:=by
         cases hls:ls with
         |nil=>have:=YX.out hls;omega
         |cons a r=>simp
        obtain⟨gl,capl,kL,_,_,_,_,_⟩:=Us bC.out UA rfl;injection kL with hsl3a _ hsl3b;subst hsl3a hsl3b;have J8:=Qq (show(q++ [k]).getD 0 0=t by rw [Qk,oL.out.head];rfl);have HW:=Qq (show Ext w w7 from oY.out.ext);go_wp2_with fail;go_ret;refine .inr ⟨_,_,ls,rfl,HW.out.trans aR.out,Kt bC.out HW.out.size,(fun e=>by rw [e]at UA;simp at UA),by rw [<-J8.out];exact WM.out,(fun u hu=>by rw [lE.out u hu];exact KO.out),WA.out⟩
    obtain rfl:m=k:=by omega
    go_wp2_with fail;go_roundw
    case rel=>exact⟨i+1,by go_num,by omega,Qq ⟨q,ps,nP.out,jA.out,by omega,cS.out,fun j hj u hu=>by
     by_cases e:j < i
     ·exact tX.out j e u hu
     have:j=i:=by omega
     subst this;refine AB.out u ?_ hu;rw [wG.out,Bool.and_eq_true]at hu;have:=Xg hu.1;rw [<-HM.out]at this;exact this⟩⟩
    case measure=>simp [intOf];omega
  obtain rfl:q.length=i:=by omega
  have fO:=Qq (show ¬∃u,Rch (fun a b=>st a b=true) t u/\yy u=false by
   rintro⟨u,hr,hu⟩;have:=cS.out u (jA.out.closed tX.out hr);rw [hu]at this;cases this)
  go_wp2_with fail;go_ret;exact .inl ⟨rfl,nP.out.ext,fO.out⟩
open Go.Maps (Keyed IsMap Tidy has has_put_same has_put_other atKey_put_same atKey_put_other)
def Uc(w:World)(b:Nat)(l:List Nat):Prop :=
 ∃(D:D0) (n:Nat),w.ownsMap Tryz.prog 3 (plainElem Tryz.prog 4) b n D/\n<=l.length/\∀(u:Nat) (z:D0),D.atKey (.int .i64 (u:Int)) z=if u∈l then .lit (.bool true)else z
theorem Qwt(w:World):(zeroValue 4).run Tryz.prog w=.ok (.bool false) w:=by kernel_rfl
theorem Qgv(b:Bool):(plainElem Tryz.prog 4 (.bool b):Option (D0×List MemPlace))=some (.lit (.bool b),[]):=plainElem_bool Tryz.underlying4 b
theorem Qgj {v:Value} {b:Bool} {ps:List MemPlace}(h:(plainElem Tryz.prog 4 v:Option (D0×List MemPlace))=some (.lit (.bool b),ps)):v=.bool b:=by
 unfold plainElem at h;rw [Tryz.underlying4]at h;cases v <;> simp at h;rw [h.1]
section
variable {w w':World} {b:Nat} {l:List Nat}
theorem Uc.made(w:World):Uc (w.alloc (.map #[] 0)) w.heap.size []:=
 ⟨.map [],0,World.ownsMap_made w _ _ _,Nat.zero_le _,fun _u _z=>rfl⟩
theorem Uc.lt(h:Uc w b l):b < w.heap.size:=by
 obtain⟨D,n,h1,_⟩:=h;exact h1.lt
theorem Uc.kept(h:Uc w b l)(hb:w'.heap[b]?=w.heap[b]?):Uc w' b l:=by
 obtain⟨D,n,h1,h2⟩:=h;exact⟨D,n,Qqq h1 hb,h2⟩
theorem Uc.look(h:Uc w b l) {t:Nat}(ht:t<=1000000):(Instr.lookup 96 (.map (some b)) (.int .i64 (t:Int)) false).run Tryz.prog w=.ok (.bool (decide (t∈l))) w:=by
 obtain⟨D,n,h1,_,h3⟩:=h;obtain⟨v,ps,CG,hv⟩:=h1.lookup Ur Tryz.underlying96 (Qwt _) (Qgv false) (Rq (Cz ht));rw [h3]at hv;rw [CG];by_cases hm:t∈l
 ·rw [if_pos hm]at hv;rw [Qgj hv,decide_eq_true hm]
 rw [if_neg hm]at hv;rw [Qgj hv,decide_eq_false hm]
theorem Uc.put {D:D0} {n t:Nat}(hD:IsMap D)(hn:n<=l.length)(ha:∀(u:Nat) (z:D0),D.atKey (.int .i64 (u:Int)) z=if u∈l then .lit (.bool true)else z)
 (h:w'.ownsMap Tryz.prog 3 (plainElem Tryz.prog 4) b (n+1) (D.put (.int .i64 (t:Int)) (.lit (.bool true)))):Uc w' b (l++ [t]):=by
 have wE:WideAt.IsKeyLit (.int .i64 (t:Int)):=trivial;refine⟨_,_,h,by simp;omega,fun u z=> ?_⟩;by_cases e:u=t
 ·subst e;rw [atKey_put_same hD wE,if_pos (by simp)]
 have zQ:(Lit.int .i64 (u:Int))≠.int .i64 (t:Int):=fun k=>e (by injection k with _ k;omega)
 rw [atKey_put_other zQ,ha u z];by_cases hm:u∈l
 ·rw [if_pos hm,if_pos (List.mem_append_left _ hm)]
 rw [if_neg hm,if_neg (by simp [hm,e])]
end
theorem Qmx {w w4:World} {p:Addr}(h:w4.heap[p.block]?=w.heap[p.block]?):w4.cell? p=w.cell? p:=by
 unfold World.cell?;rw [h]
structure Gl (w0 wr:World) (v:Value) (l:List Nat):Prop where
 ext:Ext w0 wr
 map:Uc wr w0.heap.size l
 box:wr.heap[w0.heap.size+1]?=some (.cells #[v,.map (some w0.heap.size)] 98 (0,0))
 row:wr.ownsRow (w0.heap.size+2) 3 1 v l.length (Ga l)
section
variable {w0 wr W:World} {v:Value} {l:List Nat}
theorem Gl.start(w0:World):Gl w0 ((w0.alloc (.map #[] 0)).alloc (.cells #[.slice none 0 0,.map (some w0.heap.size)] 98)) (.slice none 0 0) []:=
 ⟨(Qz.alloc _).alloc _,(Uc.made w0).kept ((Qz.alloc _).block (by simp)),by
   have:=heap_alloc_new (w0.alloc (.map #[] 0)) (.cells #[.slice none 0 0,.map (some w0.heap.size)] 98)
   simpa using this,World.ownsRow_nil _ _ _ _⟩
theorem Gl.next(h:Gl w0 wr v l)(he:Ext wr W):Gl w0 W v l :=
 ⟨h.ext.trans he,h.map.kept (he.block h.map.lt),(he.block (Qf h.box)).trans h.box,Zf h.row he⟩
theorem Gl.cells(h:Gl w0 wr v l):wr.cell? ⟨w0.heap.size+1,0,none⟩=some v/\wr.cell? ⟨w0.heap.size+1,1,none⟩=some (.map (some w0.heap.size))/\w0.heap.size+1 < wr.heap.size :=
 ⟨by simp [World.cell?,h.box],by simp [World.cell?,h.box],Qf h.box⟩
structure Tt (w0 w:World) (v:Value) (w':World) (v':Value):Prop where
 size:w.heap.size<=w'.heap.size
 blk:∀k,k < w.heap.size->k≠w0.heap.size->k≠w0.heap.size+1->v.ownBlock≠some k->w'.heap[k]?=w.heap[k]?
 own:v'.ownBlock=v.ownBlock\/∃k,v'.ownBlock=some k/\w.heap.size<=k
theorem Tt.of {w w':World}(he:Ext w w'):Tt w0 w v w' v:=⟨he.size,fun _ hk _ _ _=>he.block hk,.inl rfl⟩
theorem Tt.trans {w w' w'':World} {v' v'':Value}(h:Tt w0 w v w' v')(h2:Tt w0 w' v' w'' v''):Tt w0 w v w'' v'':=by
 have s1:=h.size;have s2:=h2.size;refine⟨Qx s1 s2,fun k hk h0 h1 ho=> ?_,?_⟩
 ·rw [h2.blk k (by omega) h0 h1 (fun e=> ?_),h.blk k hk h0 h1 ho];rcases h.own with e2|⟨k2,e2,wM⟩
  ·exact ho (e2▸e)
  rw [e2]at e;injection e with e;omega
 rcases h2.own with e|⟨k,e,hk⟩
 ·rcases h.own with e2|⟨k2,e2,wM⟩
  ·exact .inl (e.trans e2)
  exact .inr ⟨k2,e.trans e2,wM⟩
 exact .inr ⟨k,e,by omega⟩
theorem Gl.box7 {w6 W6 w7:World}(h:Gl w0 wr v l)(kW:wr.grownBy w6 (some w0.heap.size))(he:Ext w6 W6)(uF:W6.grownBy w7 v.ownBlock):
 w7.cell? ⟨w0.heap.size+1,0,none⟩=some v/\w7.frozen? ⟨w0.heap.size+1,0,none⟩=false/\w0.heap.size+1 < w7.heap.size:=by
 have ZS:∀g,v.ownBlock=some g->w0.heap.size+2<=g:=fun g hg=>(h.row.lt g hg).1
 have gS:=Qf h.box;have s6:wr.heap.size<=w6.heap.size:=kW.size;have mS:w7.heap[w0.heap.size+1]?=some (.cells #[v,.map (some w0.heap.size)] 98 (0,0)):=by
  rw [uF.block _ (Qy gS (Qx s6 he.size)) (fun e=>by have:=ZS _ e.symm;omega),he.block (Qy gS s6),kW.block _ gS (fun e=>by injection e with e;omega)];exact h.box
 exact⟨by simp [World.cell?,mS],by simp [World.frozen?,mS],Qf mS⟩
theorem Gl.push {w6 W6 w7:World} {v7:Value} {t:Nat}(h:Gl w0 wr v l)(kW:wr.grownBy w6 (some w0.heap.size))(kQ:Uc w6 w0.heap.size (l++ [t]))(he:Ext w6 W6)
 (xL:w7.ownsRow (w0.heap.size+2) 3 1 v7 (l.length+1) (Ga l++ [.int .i64 (t:Int)]))(uF:W6.grownBy w7 v.ownBlock)(fB:v7.ownBlock=v.ownBlock\/v7.ownBlock=some W6.heap.size):
 Gl w0 (w7.setCell ⟨w0.heap.size+1,0,none⟩ v7) v7 (l++ [t])/\Tt w0 wr v (w7.setCell ⟨w0.heap.size+1,0,none⟩ v7) v7:=by
 have ZS:∀g,v.ownBlock=some g->w0.heap.size+2<=g:=fun g hg=>(h.row.lt g hg).1
 have qZ:∀g,v7.ownBlock=some g->w0.heap.size+2<=g:=fun g hg=>(xL.lt g hg).1
 have gS:=Qf h.box;have s6:wr.heap.size<=w6.heap.size:=kW.size;have kG:Ext w0 w7:=((h.ext.grown kW (fun k hk=>by injection hk with hk;omega)).trans he).grown uF (fun g hg=>by have:=ZS g hg;omega);have wV:∀k,k≠w0.heap.size+1->(w7.setCell ⟨w0.heap.size+1,0,none⟩ v7).heap[k]?=w7.heap[k]?:=fun k e=>Below.heap_setCell _ _ _ _ e
 have mS:w7.heap[w0.heap.size+1]?=some (.cells #[v,.map (some w0.heap.size)] 98 (0,0)):=by
  rw [uF.block _ (Qy gS (Qx s6 he.size)) (fun e=>by have:=ZS _ e.symm;omega),he.block (Qy gS s6),kW.block _ gS (fun e=>by injection e with e;omega)];exact h.box
 have s7:=uF.size;have se:=he.size;have ss:(w7.setCell ⟨w0.heap.size+1,0,none⟩ v7).heap.size=w7.heap.size:=by simp [World.setCell]
 refine⟨⟨kG.setCell (p:=⟨w0.heap.size+1,0,none⟩) (by show w0.heap.size<=w0.heap.size+1;omega) _,?_,?_,?_⟩,⟨by omega,fun k hk h0 h1 ho=> ?_,?_⟩⟩
 ·refine kQ.kept ?_;rw [wV _ (by omega),uF.block _ (Qy kQ.lt he.size) (fun e=>by have:=ZS _ e.symm;omega),he.block kQ.lt]
 ·simp only [World.setCell,Array.getElem?_modify,mS,if_true,Option.map_some];simp
 ·have e:Ga (l++ [t])=Ga l++ [.int .i64 (t:Int)]:=Qdx l t;rw [e,List.length_append,List.length_singleton];exact Zp xL fun g hg=>wV g (by have:=qZ g hg;omega)
 ·rw [wV k h1,uF.block k (by omega) (fun e=>ho e.symm),he.block (by omega),kW.block k hk (fun e=>h0 (by injection e))]
 rcases fB with e|e
 ·exact .inl e
 exact .inr ⟨_,e,by omega⟩
theorem Gl.row6 {w6:World}(h:Gl w0 wr v l)(kW:wr.grownBy w6 (some w0.heap.size)):w6.ownsRow (w0.heap.size+2) 3 1 v l.length (Ga l):=
 Zp h.row fun g hg=>kW.block g (h.row.lt g hg).2 (fun e=>by injection e with e;have:=(h.row.lt g hg).1;omega)
end
def Zzy(w0 w:World)(v:Value)(l:List Nat)(e:Ending)(w':World):Prop:=(∃r,e=.returned r)/\∃v',Gl w0 w' v' l/\Tt w0 w v w' v'
theorem Qxk(w0 w:World)(v:Value)(l:List Nat)(t:Int)(h:Gl w0 w v l)(ht:t<=4096)(hl:l.length<=4096):
 Calls Tryz.prog 64 #[.pointer (some ⟨w0.heap.size+1,0,none⟩),.int .i64 t] w (Zzy w0 w v (Di l t)):=by
 have H:=Qq h;obtain⟨e0,e1,el⟩:=h.cells;by_cases h0:0<=t
 ·obtain⟨k,rfl⟩:=Int.eq_ofNat_of_zero_le h0;have eI:=h.map.look (t:=k) (by omega);by_cases hm:k∈l
  ·have HA:=Qq (show Di l (k:Int)=l from Qrn (fun e=>e.2 (by rwa [Int.toNat_natCast])));rw [decide_eq_true hm]at eI;clear h hm;go_enter Tryz.func64,Tryz.ntmps64;go_wp2_with fail;refine bodyPost_end (v:=.tuple #[]) (results_none rfl _ _ _) rfl ?_;exact⟨⟨_,rfl⟩,_,by rw [HA.out];exact H.out,Tt.of Qz⟩
  have HA:=Qq (show Di l (k:Int)=l++ [k]from Qhp h0 (by rwa [Int.toNat_natCast]));rw [decide_eq_false hm]at eI;obtain⟨D,n,xL,hn,yM⟩:=h.map;have kA:=Qq yM;have PM:=Qq xL;have wE:=Rq (Cz (a:=k) (by omega));obtain⟨iI,pK,vO,vN,vM⟩:=info_parts Qzl;clear h hm yM;go_enter Tryz.func64,Tryz.ntmps64;go_upto_region 2 with(at_mapUpdate;refine wpList_mapUpdate_own _ rfl _ _ _ 96 rfl 3 4 Ur Tryz.underlying96 _ w0.heap.size n D rfl xL (by unfold maxLen;omega) _ _ _ rfl rfl wE _ [] (Qgv true) ?_;intro w6 qJ wP);have KZ:=Qq wP;have dD:=Qq (show Uc w6 w0.heap.size (l++ [k])from Uc.put PM.out.isMap hn kA.out qJ)
  have GJ:=Qq (H.out.row6 wP);have Q1:w0.heap.size+1 < w6.heap.size:=Qy el wP.size;have e06:w6.cell? ⟨w0.heap.size+1,0,none⟩=some v:=(Qmx (p:=⟨w0.heap.size+1,0,none⟩) (wP.block _ el (by simp))).trans e0;obtain⟨A,c,rfl⟩:=Qs H.out.row;clear xL qJ wP wE e0 e1 eI hn;have xN:l.length+1<=maxLen:=by unfold maxLen;omega
  have xJ:(l.length+1)*8<=140737488355328:=by omega
  go_wp2_with(at_builtin;refine wpList_append_own_at _ rfl _ _ 36 rfl (w0.heap.size+2) 3 iI (.int .i64 0) 1 8 Tryz.underlying36 pK vO vN vM rfl (by decide) _ l.length (Ga l) rfl (Zf GJ.out (Qz.alloc _)) ⟨_,0,none⟩ 1 1 [.int .i64 (k:Int)] rfl rfl (Zm _ _ _ (by simp)) (fun u hu=>by rw [List.mem_singleton.1 hu];rfl) xN xJ (by simp;omega) ?_);intro v7 w7 zW zX qK zF;have oY:=Qq (Gl.push H.out KZ.out dD.out (Qz.alloc _) zW zX (zF.imp_right fun h=>by rw [h];simp));obtain⟨f0,f1,f2⟩:=H.out.box7 KZ.out (Qz.alloc _) zX;obtain⟨A7,c7,rfl⟩:=Qs zW
  clear zF zW zX qK;go_wp2_with fail;refine bodyPost_end (v:=.tuple #[]) (results_none rfl _ _ _) rfl ?_;exact⟨⟨_,rfl⟩,_,by rw [HA.out];exact oY.out.1,oY.out.2⟩
 have HA:=Qq (show Di l t=l from Qrn (fun e=>h0 e.1));clear h;go_enter Tryz.func64,Tryz.ntmps64;go_wp2_with fail;refine bodyPost_end (v:=.tuple #[]) (results_none rfl _ _ _) rfl ?_;exact⟨⟨_,rfl⟩,_,by rw [HA.out];exact H.out,Tt.of Qz⟩
def Eg(lg:Int)(ks:List Kn)(a:Int)(t:Nat)(wanted:Nat->Bool)(u:Nat):Bool:=wanted u&&Jq lg ks a t u
theorem Zq2 {lg:Int} {ks:List Kn} {al:List Bool} {a:Int} {t k:Nat} {wanted:Nat->Bool} {l:List Nat}(hk:k < l.length)(h:Eg lg ks a t wanted (l.getD k 0)=true):Hv lg ks al a t wanted l=l:=by
 unfold Hv;rw [if_pos];rw [List.any_eq_true];exact⟨l.getD k 0,by rw [Qk,Qv hk];exact List.getElem_mem _,h⟩
theorem Qwb {lg:Int} {ks:List Kn} {al:List Bool} {a:Int} {t:Nat} {wanted:Nat->Bool} {l:List Nat}(h:∀k,k < l.length->Eg lg ks a t wanted (l.getD k 0)=false):Hv lg ks al a t wanted l=Di l (Xm lg ks al a t wanted):=by
 unfold Hv;rw [if_neg];rw [Bool.not_eq_true,List.any_eq_false];intro u hu;obtain⟨k,hk,e⟩:=List.getElem_of_mem hu;have:=h k hk;rw [Qk,Qv hk,Option.getD_some,e]at this;show ¬Eg lg ks a t wanted u=true;rw [this];simp
theorem Qib {lg:Int} {ks:List Kn} {al:List Bool} {a:Int} {t:Nat} {wanted:Nat->Bool}(h:al.length<=4096):Xm lg ks al a t wanted<=4096:=by
 unfold Xm;cases e:(List.range al.length).find? (Xc lg ks al a t wanted)with
 |none=>show(-1:Int)<=4096;omega
 |some k =>
  obtain⟨_,h2,_⟩:=List.find?_range_eq_some.1 e;have:=List.mem_range.1 h2;show(k:Int)<=4096;omega
theorem Qyd(b:Nat)(lg:Int)(base:List (List Nd))(root:List Bool)(ks:List Kn)(cs:List Cm)(alive:List Bool)(a:Int)(t:Nat)(wanted:Nat->Bool)(g:Nat)(lb:Array Value)(eg:∀args w,(callFunc g args).run Tryz.prog w=.ok (.enter g args) w)(w0 w:World)(v:Value)(l:List Nat)
 (hE:Eng w b lg base root ks cs alive)(xY:0<=lg/\lg<=6)(ht:t < 18446744073709551616)(hm:alive.length<=4096)(rI:∀k∈ks,k.place < 64/\alive.length<=k.holds.length)
 (hS:Gl w0 w v l)(hl:l.length<=4096)(zG:∀u∈l,u < alive.length)
 (hw:∀(W:World) (u:Nat),u < alive.length->Ext w W->Calls Tryz.prog g (#[.int .i64 (u:Int)]++lb) W fun e w'=>e=.returned (.bool (wanted u))/\Ext W w'):
 Calls Tryz.prog 144 #[.pointer (some ⟨b,0,none⟩),.pointer (some ⟨w0.heap.size+1,0,none⟩),.int .i64 a,.int .u64 (t:Int),.func (.func g) #[] lb] w (Zzy w0 w v (Hv lg ks alive a t wanted l)):=by
 have HE:=Qq hE;have tL:=Qq rI;have HW:=Qq hw;have HS:=Qq hS;have fS:=Qq zG;obtain⟨e0,e1,el⟩:=hS.cells;obtain⟨A,c,rfl⟩:=Qs hS.row;clear hE rI hw hS zG e1;go_enter Tryz.func144,Tryz.ntmps144;go_wp2_with fail;clear e0;go_loopw [17] (fun v wr=>∃k:Nat,v=.int .i64 (k:Int)/\k<=l.length/\Hid (Ext w wr/\∀j,j < k->Eg lg ks a t wanted (l.getD j 0)=false)) (fun v _=>l.length - (intOf v).toNat)
 case atStart=>exact⟨0,rfl,Nat.zero_le _,Qq ⟨Qz,fun j hj=>absurd hj (by omega)⟩⟩
 case round =>
  obtain⟨k,rfl,hk,zY⟩:=hrel;have HX:=Qq zY.out.1;have HJ:=Qq zY.out.2;clear zY;by_cases hlt2:k < l.length
  ·have yP:(k:Int) < (l.length:Int):=by omega
   have xE:=Qq (HS.out.next HX.out);obtain⟨g2,cap2,wA,tH,_,kM,tE,a0⟩:=Us xE.out.row hlt2 rfl;injection wA with hsl2a _ hsl2b;subst hsl2a hsl2b;unfold maxLen at tE;have yA:=Qq (show Eg lg ks a t wanted (l.getD k 0)=false->∀j,j < k+1->Eg lg ks a t wanted (l.getD j 0)=false from fun h j hj=>by
    by_cases e:j < k
    ·exact HJ.out j e
    have:j=k:=by omega
    subst this;exact h)
   have nW:l.getD k 0∈l:=by rw [Qk,Qv hlt2];exact List.getElem_mem _
   have qF:=fS.out _ nW;have QE:=Qq (fun(h:Eg lg ks a t wanted (l.getD k 0)=true)=>Zq2 (al:=alive) hlt2 h);clear nW;obtain⟨u,hu⟩:∃u,u=l.getD k 0:=⟨_,rfl⟩;rw [<-hu]at a0 qF yA QE;have HP:=Qq (show Eg lg ks a t wanted u=(wanted u&&Jq lg ks a t u)from rfl);have nM:=Qq (fun W hW=>HW.out W u qF hW);have jS:=Qq (fun W (hW:Ext w W)=>Te b lg base root ks cs alive a t u W (HE.out.ext hW) xY ht (by omega) (fun n hn=>⟨(tL.out n hn).1,Qy qF (tL.out n hn).2⟩));have SY:IntKind.u64.wrap (u:Int)=(u:Int):=by rw [IntKind.wrap_u64];omega
   obtain⟨wk,oP⟩:∃x,x=wanted u:=⟨_,rfl⟩;obtain⟨pk,dZ⟩:∃x,x=Jq lg ks a t u:=⟨_,rfl⟩;rw [<-oP,<-dZ]at HP;rw [<-oP]at nM;rw [<-dZ]at jS;clear oP dZ hu;cases wk
   ·go_wp2_with fail;refine(nM.out _ HX.out).mono ?_;rintro e w2 ⟨rfl,hx⟩;have zR:=Qq hx;clear hx;go_wp2_with fail;go_roundw
    case rel=>exact⟨k+1,by go_num,by omega,Qq ⟨HX.out.trans zR.out,yA.out (by rw [HP.out];rfl)⟩⟩
    case measure=>simp [intOf];omega
   go_wp2_with fail;refine(nM.out _ HX.out).mono ?_;rintro e w2 ⟨rfl,hx⟩;have zR:=Qq hx;clear hx;go_wp2_with fail;refine(jS.out _ (HX.out.trans zR.out)).mono ?_;rintro e w3 ⟨rfl,hx⟩;have zC:=Qq hx;clear hx;cases pk
   ·go_wp2_with fail;go_roundw
    case rel=>exact⟨k+1,by go_num,by omega,Qq ⟨HX.out.trans (zR.out.trans zC.out),yA.out (by rw [HP.out];rfl)⟩⟩
    case measure=>simp [intOf];omega
   have HR:=Qq (QE.out (by rw [HP.out];rfl));go_wp2_with fail;exact bodyPost_ret (v:=.tuple #[]) (results_none rfl _ _ _) rfl ⟨⟨_,rfl⟩,_,by rw [HR.out];exact HS.out.next (HX.out.trans (zR.out.trans zC.out)),Tt.of (HX.out.trans (zR.out.trans zC.out))⟩
  obtain rfl:l.length=k:=by omega
  have HR:=Qq (Qwb (al:=alive) HJ.out);have xE:=Qq (HS.out.next HX.out);go_wp2_with fail;refine(Qvk b lg base root ks cs alive a t wanted g lb eg _ (HE.out.ext HX.out) xY ht hm tL.out (fun W u hu hW=>HW.out W u hu (HX.out.trans hW))).mono ?_;rintro e w2 ⟨rfl,hx⟩;have qU:=Qq (xE.out.next hx);have zC:=Qq (HX.out.trans hx);have R2:=Qib (lg:=lg) (ks:=ks) (a:=a) (t:=t) (wanted:=wanted) hm;clear hx;obtain⟨z,hz⟩:∃z,z=Xm lg ks alive a t wanted:=⟨_,rfl⟩;rw [<-hz]at HR R2⊢;clear hz;go_wp2_with fail;refine(Qxk w0 _ _ l z qU.out R2 hl).mono ?_;rintro e w3 ⟨⟨r,rfl⟩,v',hs,tD⟩;have iQ:=Qq hs
  have yI:=Qq ((Tt.of zC.out).trans tD);clear hs tD;go_wp2_with fail;exact bodyPost_end (v:=.tuple #[]) (results_none rfl _ _ _) rfl ⟨⟨_,rfl⟩,_,by rw [HR.out];exact iQ.out,yI.out⟩
theorem Qw9 {ks:List Kn} {p:Kn->Bool} {k:Nat} {n:Kn}(hn:ks[k]?=some n)(h:p n=true):ks.any p=true:=by
 rw [List.any_eq_true];exact⟨n,List.mem_of_getElem? hn,h⟩
theorem Qhh {ks:List Kn} {p:Kn->Bool}(h:∀(j:Nat) (n:Kn),j < ks.length->ks[j]?=some n->p n=false):ks.any p=false:=by
 rw [List.any_eq_false];intro n hn;obtain⟨j,hj,e⟩:=List.getElem_of_mem hn;rw [h j n hj (by rw [Qv hj,e])];simp
def Zq9(ks:List Kn)(p:Kn->Bool)(w:World)(e:Ending)(w':World):Prop:=∃z:Int,e=.returned (.int .i64 z)/\Ext w w'/\decide (0<=z)=ks.any p
theorem Qt6(B:Nat)(n:Kn)(z:Int)(Ah:Option Addr)(ch:Nat)(w:World)(hB:w.cell? ⟨B,0,none⟩=some (.int .i64 z))(YM:B < w.heap.size):
 Calls Tryz.prog 135 (#[.agg #[.int .i64 n.agent,.int .i64 (n.place:Int),.slice Ah n.holds.length ch]]++ #[.pointer (some ⟨B,0,none⟩)]) w fun e w'=>e=.returned (.bool (n.agent==z))/\Ext w w':=by
 show Calls Tryz.prog 135 #[.agg #[.int .i64 n.agent,.int .i64 (n.place:Int),.slice Ah n.holds.length ch],.pointer (some ⟨B,0,none⟩)] w _;go_enter Tryz.func135,Tryz.ntmps135;go_wp2_with fail;go_ret;exact⟨rfl,Qz.alloc _⟩
theorem Qt1(v:Value)(ks:List Kn)(z:Int)(B:Nat)(w:World)(hk:Kns w v ks)(hB:w.cell? ⟨B,0,none⟩=some (.int .i64 z))(YM:B < w.heap.size):
 Calls Tryz.prog 191 #[v,.func (.func 135) #[] #[.pointer (some ⟨B,0,none⟩)]] w (Zq9 ks (fun k=>k.agent==z) w):=by
 obtain⟨A,c,rfl,uQ⟩:=hk;have HK:=Qq uQ;have KD:=uQ.1;have zT:=uQ.2.1;unfold maxLen at zT;have D0:=Qq hB;clear uQ hB;go_enter Tryz.func191,Tryz.ntmps191;go_wp2_with fail;go_loopw [8] (fun v wr=>∃k:Nat,v=.int .i64 (k:Int)/\k<=ks.length/\Hid (Ext w wr/\∀(j:Nat) (n:Kn),j < k->ks[j]?=some n->(n.agent==z)=false)) (fun v _=>ks.length - (intOf v).toNat)
 case atStart=>exact⟨0,rfl,Nat.zero_le _,Qq ⟨Qz,fun j n hj=>absurd hj (by omega)⟩⟩
 case round =>
  obtain⟨k,rfl,hk,zY⟩:=hrel;have HX:=Qq zY.out.1;have HJ:=Qq zY.out.2;clear zY;by_cases hlt2:k < ks.length
  ·have yP:(k:Int) < (ks.length:Int):=by omega
   obtain⟨n,hn⟩:∃n,ks[k]?=some n:=⟨_,Qv hlt2⟩;obtain⟨ad,rfl,yZ,yM⟩:=Qq1 HK.out hn;obtain⟨vh,c0,c1,c2,rK⟩:=yM.ext HX.out (Qj yZ);obtain⟨Ah,ch,rfl,_⟩:=rK;have HN:=Qq hn;have HL:=Qq (Qt6 B n z Ah ch wr ((HX.out.cell (p:=⟨B,0,none⟩) YM).trans D0.out) (Qy YM HX.out.size));have yA:=Qq (show(n.agent==z)=false->∀(j:Nat) (m:Kn),j < k+1->ks[j]?=some m->(m.agent==z)=false from fun hc j m hj hm=>by
    by_cases e:j < k
    ·exact HJ.out j m e hm
    have:j=k:=by omega
    subst this;rw [hn]at hm;injection hm with hm;rw [<-hm];exact hc)
   clear hn yM;cases vH:n.agent==z
   ·have hO:=Qq vH;rw [vH]at HL;clear vH;go_wp2_with fail;refine HL.out.mono ?_;rintro e w2 ⟨rfl,hx⟩;have zR:=Qq hx;clear hx;go_wp2_with fail;go_roundw
    case rel=>exact⟨k+1,by go_num,by omega,Qq ⟨HX.out.trans zR.out,yA.out hO.out⟩⟩
    case measure=>simp [intOf];omega
   have HE:=Qq (Qw9 (p:=fun k=>k.agent==z) HN.out vH);rw [vH]at HL;clear vH;go_wp2_with fail;refine HL.out.mono ?_;rintro e w2 ⟨rfl,hx⟩;have zR:=Qq hx;clear hx;go_wp2_with fail;go_ret;exact⟨(k:Int),rfl,HX.out.trans zR.out,by rw [HE.out];simp⟩
  obtain rfl:ks.length=k:=by omega
  have HE:=Qq (Qhh (p:=fun k=>k.agent==z) HJ.out);go_wp2_with fail;go_ret;exact⟨-1,rfl,HX.out,by rw [HE.out];rfl⟩
theorem Qfd(v:Value)(ks:List Kn)(z:Int)(B:Nat)(w:World)(hk:Kns w v ks)(hB:w.cell? ⟨B,0,none⟩=some (.int .i64 z))(YM:B < w.heap.size):
 Calls Tryz.prog 134 #[v,.func (.func 135) #[] #[.pointer (some ⟨B,0,none⟩)]] w fun e w'=>e=.returned (.bool (ks.any fun k=>k.agent==z))/\Ext w w':=by
 have HK:=Qq hk;have D0:=Qq hB;obtain⟨A,c,rfl,_⟩:=hk;clear hB;go_enter Tryz.func134,Tryz.ntmps134;go_wp2_with fail;refine(Qt1 _ ks z B _ HK.out D0.out YM).mono ?_;rintro e w2 ⟨y,rfl,hx,hy⟩;have HX:=Qq hx;have HY:=Qq hy;clear hx;cases ZF:decide (0<=y)
 ·rw [ZF]at hy;have zG:y < 0:=by have:=of_decide_eq_false ZF;omega
  clear hy ZF;go_wp2_with fail;go_ret;exact⟨by rw [<-HY.out,decide_eq_false (by omega)] <;> rfl,HX.out⟩
 have zG:0<=y:=of_decide_eq_true ZF;clear hy ZF;go_wp2_with fail;go_ret;exact⟨by rw [<-HY.out,decide_eq_true zG] <;> rfl,HX.out⟩
theorem To(s k:Nat)(hs:s < 18446744073709551616):(bits .and .u64 ((s:Int) / 2^k) 1==0)= !s.testBit k:=by
 have zG:s / 2^k < 18446744073709551616:=Nat.lt_of_le_of_lt (Nat.div_le_self _ _) hs;rw [Tf,show(1:Int)=((1:Nat):Int)from rfl,bits_and_u64_nat _ 1 zG (by decide),Nat.and_one_is_mod,Sz];rcases Nat.mod_two_eq_zero_or_one (s / 2^k)with h|h <;> rw [h] <;> rfl
theorem Qm7 {ks:List Kn} {z:Int} {k:Nat} {n:Kn}(hn:ks[k]?=some n)(h:((n.place:Int)==z)=true)(hj:∀(j:Nat) (m:Kn),j < k->ks[j]?=some m->((m.place:Int)==z)=false):ks.find? (fun k=>(k.place:Int)==z)=some n:=by
 rw [List.find?_eq_some_iff_getElem];obtain⟨hk,e⟩:=List.getElem?_eq_some_iff.1 hn;refine⟨h,k,hk,e,fun j jH=> ?_⟩;have:=hj j ks[j] jH (List.getElem?_eq_getElem (by omega));rw [this];rfl
theorem Qtm {ks:List Kn} {z:Int}(hj:∀(j:Nat) (m:Kn),j < ks.length->ks[j]?=some m->((m.place:Int)==z)=false):ks.find? (fun k=>(k.place:Int)==z)=none:=by
 rw [List.find?_eq_none];intro n hn;obtain⟨j,lX,e⟩:=List.getElem_of_mem hn;rw [hj j n lX (by rw [Qv lX,e])];simp
theorem Qm6 {ks:List Cm} {z:Int} {k:Nat} {n:Cm}(hn:ks[k]?=some n)(h:((n.place:Int)==z)=true)(hj:∀(j:Nat) (m:Cm),j < k->ks[j]?=some m->((m.place:Int)==z)=false):ks.find? (fun k=>(k.place:Int)==z)=some n:=by
 rw [List.find?_eq_some_iff_getElem];obtain⟨hk,e⟩:=List.getElem?_eq_some_iff.1 hn;refine⟨h,k,hk,e,fun j jH=> ?_⟩;have:=hj j ks[j] jH (List.getElem?_eq_getElem (by omega));rw [this];rfl
theorem Qtl {ks:List Cm} {z:Int}(hj:∀(j:Nat) (m:Cm),j < ks.length->ks[j]?=some m->((m.place:Int)==z)=false):ks.find? (fun k=>(k.place:Int)==z)=none:=by
 rw [List.find?_eq_none];intro n hn;obtain⟨j,lX,e⟩:=List.getElem_of_mem hn;rw [hj j n lX (by rw [Qv lX,e])];simp
theorem Qt7(u:Int)(w:World):Calls Tryz.prog 137 (#[.int .i64 u]++ #[]) w fun e w'=>e=.returned (.bool true)/\Ext w w':=by
 show Calls Tryz.prog 137 #[.int .i64 u] w _;go_enter Tryz.func137,Tryz.ntmps137;go_wp2_with fail;go_ret;exact⟨rfl,Qz⟩
theorem Qt8(B u:Nat)(Ah:Option Addr)(ch:Nat)(hs:List Bool)(w:World)(hB:w.cell? ⟨B,2,none⟩=some (.slice Ah hs.length ch))(hb:Rr w Ah ch hs)(hu:u < hs.length):
 Calls Tryz.prog 138 (#[.int .i64 (u:Int)]++ #[.pointer (some ⟨B,0,none⟩)]) w fun e w'=>e=.returned (.bool (!hs.getD u false))/\Ext w w':=by
 show Calls Tryz.prog 138 #[.int .i64 (u:Int),.pointer (some ⟨B,0,none⟩)] w _;obtain⟨ah,rfl,_,hc⟩:=Xv hb hu;have h1:=hb.1;have h2:=hb.2.1;unfold maxLen at h2;have hui:(u:Int) < (hs.length:Int):=by omega
 obtain⟨x,hx⟩:∃x,x=hs.getD u false:=⟨_,rfl⟩;rw [<-hx]at hc⊢;clear hx;go_enter Tryz.func138,Tryz.ntmps138;go_wp2_with fail;go_ret;exact⟨rfl,Qz⟩
theorem Qph(b:Nat)(lg:Int)(base:List (List Nd))(root:List Bool)(ks:List Kn)(cs:List Cm)(alive:List Bool)(t:Nat)(num:Int)(w:World)
 (hE:Eng w b lg base root ks cs alive)(xY:0<=lg/\lg<=6)(ht:t < alive.length)(hm:alive.length<=4096)(CT:Vs num)(rI:∀k∈ks,k.place < 64/\alive.length<=k.holds.length)(qO:∀c∈cs,c.place < 64/\c.x.length=alive.length/\c.y.length=alive.length/\0<=c.group/\c.group < 16):
 Calls Tryz.prog 63 #[.pointer (some ⟨b,0,none⟩),.int .u64 (t:Int),.int .i64 num] w fun e w'=>e=.returned (.bool (Vb lg ks cs alive t num))/\Ext w w':=by
 obtain⟨Ab,cb,Ar,cr,Ak,ck,Ac,cc,Aa,ca,d0,d1,d2,d3,d4,d5,yW,_,_,uQ,xI,_⟩:=hE.cells;have HE:=Qq hE;have tL:=Qq rI;have lL:=Qq qO;have HK:=Qq uQ;have HC:=Qq xI;have KD:=uQ.1;have zT:=uQ.2.1;have wN:=xI.1;have mQ:=xI.2.1;unfold maxLen at zT mQ;have D3:=Qq d3;have D4:=Qq d4;unfold Vs at CT;by_cases pH:num < 0
 ·have gY:=Qq (show Vb lg ks cs alive t num=((lg==1||lg==5)&&(ks.any (fun k=>k.agent== -1 - num)&&decide (Xm lg ks alive (-1 - num) t (fun _=>true) < 0))) by unfold Vb;rw [decide_eq_true pH];rfl);have dH:=Qq (fun(W:World) (hW:Ext w W) (hB:W.cell? ⟨w.heap.size,0,none⟩=some (.int .i64 (-1 - num))) (hl:w.heap.size < W.heap.size)=>Qfd (.slice Ak ks.length ck) ks (-1 - num) w.heap.size W ⟨_,_,rfl,HK.out.ext hW⟩ hB hl);have zA:=Qq (fun(W:World) (hW:Ext w W)=>Qvk b lg base root ks cs alive (-1 - num) t (fun _=>true) 137 #[] (fun _ _=>rfl) W (HE.out.ext hW) xY (by omega) hm tL.out (fun W u _ _=>Qt7 (u:Int) W))
  clear hE uQ xI rI qO d1 d2 d4 d5 HC D4 D3 wN mQ;obtain⟨an,EO⟩:∃x,x=ks.any (fun k=>k.agent== -1 - num):=⟨_,rfl⟩;obtain⟨nx,rG⟩:∃x,x=Xm lg ks alive (-1 - num) t (fun _=>true):=⟨_,rfl⟩;rw [<-EO,<-rG]at gY;rw [<-EO]at dH;rw [<-rG]at zA;clear EO rG;cases h1:lg==1
  ·cases h5:lg==5
   ·skip
    have HS:=Qq (show(lg==1||lg==5)=false by rw [h1,h5];rfl);go_enter Tryz.func63,Tryz.ntmps63;go_wp2_with fail;refine(dH.out _ ((Ext.refl w).alloc (.cells #[.int .i64 (-1 - num)] 3)) (by simp) (by simp)).mono ?_;rintro e w2 ⟨rfl,zS⟩;have zR:=Qq (((Ext.refl w).alloc (.cells #[.int .i64 (-1 - num)] 3)).trans zS);have wT:=(zS.cell (p:=⟨w.heap.size,0,none⟩) (by simp)).trans (show(w.alloc (.cells #[.int .i64 (-1 - num)] 3)).cell? ⟨w.heap.size,0,none⟩=some (.int .i64 (-1 - num)) by simp);clear zS;go_wp2_with fail;go_ret;exact⟨by rw [gY.out,HS.out] <;> rfl,zR.out⟩
   skip
   have HS:=Qq (show(lg==1||lg==5)=true by rw [h1,h5];rfl);go_enter Tryz.func63,Tryz.ntmps63;go_wp2_with fail;refine(dH.out _ ((Ext.refl w).alloc (.cells #[.int .i64 (-1 - num)] 3)) (by simp) (by simp)).mono ?_;rintro e w2 ⟨rfl,zS⟩;have zR:=Qq (((Ext.refl w).alloc (.cells #[.int .i64 (-1 - num)] 3)).trans zS);have wT:=(zS.cell (p:=⟨w.heap.size,0,none⟩) (by simp)).trans (show(w.alloc (.cells #[.int .i64 (-1 - num)] 3)).cell? ⟨w.heap.size,0,none⟩=some (.int .i64 (-1 - num)) by simp);clear zS;cases an
   ·go_wp2_with fail;go_ret;exact⟨by rw [gY.out,HS.out] <;> rfl,zR.out⟩
   go_wp2_with fail;refine(zA.out _ zR.out).mono ?_;rintro e w3 ⟨rfl,zI⟩;have zC:=Qq (zR.out.trans zI);clear zI;by_cases rG:nx < 0
   ·have HD:=Qq (decide_eq_true rG);go_wp2_with fail;go_ret;exact⟨by rw [gY.out,HS.out,HD.out] <;> rfl,zC.out⟩
   have HD:=Qq (decide_eq_false rG);go_wp2_with fail;go_ret;exact⟨by rw [gY.out,HS.out,HD.out] <;> rfl,zC.out⟩
  skip
  have HS:=Qq (show(lg==1||lg==5)=true by rw [h1];rfl);go_enter Tryz.func63,Tryz.ntmps63;go_wp2_with fail;refine(dH.out _ ((Ext.refl w).alloc (.cells #[.int .i64 (-1 - num)] 3)) (by simp) (by simp)).mono ?_;rintro e w2 ⟨rfl,zS⟩;have zR:=Qq (((Ext.refl w).alloc (.cells #[.int .i64 (-1 - num)] 3)).trans zS);have wT:=(zS.cell (p:=⟨w.heap.size,0,none⟩) (by simp)).trans (show(w.alloc (.cells #[.int .i64 (-1 - num)] 3)).cell? ⟨w.heap.size,0,none⟩=some (.int .i64 (-1 - num)) by simp);clear zS;cases an
  ·go_wp2_with fail;go_ret;exact⟨by rw [gY.out,HS.out] <;> rfl,zR.out⟩
  go_wp2_with fail;refine(zA.out _ zR.out).mono ?_;rintro e w3 ⟨rfl,zI⟩;have zC:=Qq (zR.out.trans zI);clear zI;by_cases rG:nx < 0
  ·have HD:=Qq (decide_eq_true rG);go_wp2_with fail;go_ret;exact⟨by rw [gY.out,HS.out,HD.out] <;> rfl,zC.out⟩
  have HD:=Qq (decide_eq_false rG);go_wp2_with fail;go_ret;exact⟨by rw [gY.out,HS.out,HD.out] <;> rfl,zC.out⟩
 obtain⟨nn,uM⟩:=Int.eq_ofNat_of_zero_le (show 0<=num by omega);subst uM;have gY:=Qq (decide_eq_false pH);clear hE uQ xI rI qO d0 d1 d2 d5 pH;go_enter Tryz.func63,Tryz.ntmps63;go_wp2_with fail;clear d3 d4;go_loopw [52] (fun v wr=>∃k:Nat,v=.int .i64 (k:Int)/\k<=ks.length/\Hid (Ext w wr/\∀(j:Nat) (m:Kn),j < k->ks[j]?=some m->((m.place:Int)==(nn:Int))=false)) (fun v _=>ks.length - (intOf v).toNat)
 case atStart=>exact⟨0,rfl,Nat.zero_le _,Qq ⟨Qz,fun j m hj=>absurd hj (by omega)⟩⟩
 case round =>
  obtain⟨k,rfl,hk,zY⟩:=hrel;have HX:=Qq zY.out.1;have HJ:=Qq zY.out.2;clear zY;by_cases hlt2:k < ks.length
  ·have yP:(k:Int) < (ks.length:Int):=by omega
   obtain⟨n,hn⟩:∃n,ks[k]?=some n:=⟨_,Qv hlt2⟩;obtain⟨lU,UH⟩:=tL.out n (List.mem_of_getElem? hn);obtain⟨ad,rfl,yZ,yM⟩:=Qq1 HK.out hn;obtain⟨vh,c0,c1,c2,rK⟩:=yM.ext HX.out (Qj yZ);obtain⟨Ah,ch,rfl,rK⟩:=rK;have QX:=Qq rK;have tQ:(ad.add (k*3)).block < wr.heap.size:=by rw [Qr];exact Qy yZ HX.out.size
   have HN:=Qq hn;have yA:=Qq (show((n.place:Int)==(nn:Int))=false->∀(j:Nat) (m:Kn),j < k+1->ks[j]?=some m->((m.place:Int)==(nn:Int))=false from fun hc j m hj hm=>by
    by_cases e:j < k
    ·exact HJ.out j m e hm
    have:j=k:=by omega
    subst this;rw [hn]at hm;injection hm with hm;rw [<-hm];exact hc)
   clear hn yM rK;obtain⟨wq,vD⟩:∃v,v=wr:=⟨_,rfl⟩;subst vD;by_cases eA:n.place=nn
   ·have lV:((n.place:Int)==(nn:Int))=true:=by rw [eA];simp
    have IW:=Qq (Qm7 HN.out lV HJ.out);have mB:=Qq (show Vb lg ks cs alive t (nn:Int)=(!t.testBit nn&&decide (Xm lg ks alive n.agent t (fun u=> !n.holds.getD u false) < 0)) by
     unfold Vb;rw [gY.out,cond_false,IW.out]
     rfl)
    have yT:=To t nn (by omega);have zK:=Qq (show Ext w (wq.alloc (.cells #[.int .i64 n.agent,.int .i64 (n.place:Int),.slice Ah n.holds.length ch] 136))from HX.out.alloc _);have WY:=Qq (Qxx (show(wq.alloc (.cells #[.int .i64 n.agent,.int .i64 (n.place:Int),.slice Ah n.holds.length ch] 136)).heap[wq.heap.size]?=some (.cells #[.int .i64 n.agent,.int .i64 (n.place:Int),.slice Ah n.holds.length ch] 136 (0,0))from heap_alloc_new _ _));have zA:=Qq (Qvk b lg base root ks cs alive n.agent t (fun u=> !n.holds.getD u false) 138 #[.pointer (some ⟨wq.heap.size,0,none⟩)] (fun _ _=>rfl) _ (HE.out.ext zK.out) xY (by omega) hm tL.out (fun W u hu hW=>Qt8 wq.heap.size u Ah ch n.holds W ((hW.cell (p:=⟨wq.heap.size,2,none⟩) (by simp)).trans WY.out.2.2.1) ((QX.out.ext (Qz.alloc _)).ext hW) (Qy hu UH)))
    obtain⟨nx,rG⟩:∃x,x=Xm lg ks alive n.agent t (fun u=> !n.holds.getD u false):=⟨_,rfl⟩;rw [<-rG]at mB zA;obtain⟨tb,yB⟩:∃x,x=t.testBit nn:=⟨_,rfl⟩;rw [<-yB]at mB yT;have cM:∀(fn:Fn) (first cap:Array Value) (w:World),(Instr.makeFunc fn first cap).run Tryz.prog w=.ok (.func fn first cap) w:=fun _ _ _ _=>rfl
    clear rG yB eA;cases tb
    ·simp only [Bool.not_false]at yT;go_wp2_with fail;refine zA.out.mono ?_;rintro e w3 ⟨rfl,zI⟩;have zC:=Qq (zK.out.trans zI);clear zI;by_cases rG:nx < 0
     ·have HD:=Qq (decide_eq_true rG);go_wp2_with fail;go_ret;exact⟨by rw [mB.out,HD.out] <;> rfl,zC.out⟩
     have HD:=Qq (decide_eq_false rG);go_wp2_with fail;go_ret;exact⟨by rw [mB.out,HD.out] <;> rfl,zC.out⟩
    simp only [Bool.not_true]at yT;go_wp2_with fail;go_ret;exact⟨by rw [mB.out] <;> rfl,zK.out⟩
   have lV:((n.place:Int)==(nn:Int))=false:=by rw [beq_eq_false_iff_ne];omega
   clear eA;go_wp2_with fail;go_roundw
   case rel=>exact⟨k+1,by go_num,by omega,Qq ⟨HX.out.alloc _,yA.out lV⟩⟩
   case measure=>simp [intOf];omega
  obtain rfl:ks.length=k:=by omega
  have mD:=Qq (Qtm HJ.out);have VL:=Qq HX.out;have dw4:=(HX.out.cell (p:=⟨b,4,none⟩) yW).trans D4.out;clear HJ HX;obtain⟨w1,tT⟩:∃v,v=wr:=⟨_,rfl⟩;subst tT;go_wp2_with fail;clear dw4;go_loopw [80] (fun v wr=>∃k:Nat,v=.int .i64 (k:Int)/\k<=cs.length/\Hid (Ext w wr/\∀(j:Nat) (m:Cm),j < k->cs[j]?=some m->((m.place:Int)==(nn:Int))=false)) (fun v _=>cs.length - (intOf v).toNat)
  case atStart=>exact⟨0,rfl,Nat.zero_le _,Qq ⟨VL.out,fun j m hj=>absurd hj (by omega)⟩⟩
  case round =>
   obtain⟨k,rfl,hk,zY⟩:=hrel;have HX:=Qq zY.out.1;have HJ:=Qq zY.out.2;clear zY;by_cases hlt2:k < cs.length
   ·have yP:(k:Int) < (cs.length:Int):=by omega
    obtain⟨n,hn⟩:∃n,cs[k]?=some n:=⟨_,Qv hlt2⟩;obtain⟨lU,vC,kF,xW,vL⟩:=lL.out n (List.mem_of_getElem? hn);obtain⟨ad,rfl,yZ,yM⟩:=Qbs HC.out hn;obtain⟨vx,vy,c0,c1,c2,c3,c4,wT,qR⟩:=yM.ext HX.out (Qj yZ);have xD:=Qq wT;have gC:=Qq qR;obtain⟨Ax,cx,rfl,_⟩:=wT;obtain⟨Ay,cy,rfl,_⟩:=qR;have tQ:(ad.add (k*5)).block < wr.heap.size:=by rw [Qr];exact Qy yZ HX.out.size
    have HN:=Qq hn;have yA:=Qq (show((n.place:Int)==(nn:Int))=false->∀(j:Nat) (m:Cm),j < k+1->cs[j]?=some m->((m.place:Int)==(nn:Int))=false from fun hc j m hj hm=>by
     by_cases e:j < k
     ·exact HJ.out j m e hm
     have:j=k:=by omega
     subst this;rw [hn]at hm;injection hm with hm;rw [<-hm];exact hc)
    clear hn yM;obtain⟨wq,vD⟩:∃v,v=wr:=⟨_,rfl⟩;subst vD;by_cases eA:n.place=nn
    ·have lV:((n.place:Int)==(nn:Int))=true:=by rw [eA];simp
     have yN:nn < 64:=by omega
     have IW:=Qq (Qm6 HN.out lV HJ.out);have mB:=Qq (show Vb lg ks cs alive t (nn:Int)=(!t.testBit nn&& !Pr lg ks alive n t) by
      unfold Vb;rw [gY.out,cond_false,mD.out,IW.out]
      rfl)
     have yT:=To t nn (by omega);have zK:=Qq (show Ext w (wq.alloc (.cells #[.int .i64 (n.place:Int),.int .i64 n.group,.slice Ax n.x.length cx,.slice Ay n.y.length cy,.int .u64 (n.parts:Int)] 138))from HX.out.alloc _);have WD:=Qq (Qdl b lg base root ks cs alive n t (.slice Ax n.x.length cx) (.slice Ay n.y.length cy) _ (HE.out.ext zK.out) xY (by omega) hm tL.out (xD.out.ext (Qz.alloc _)) (gC.out.ext (Qz.alloc _)) vC kF ⟨xW,vL⟩ (by omega));have hq:=fun(w:World) (a:Option Addr) (n c:Nat)=>Lib.run_eql_slice_nil (P:=Tryz.prog) w 36 3 a n c 0 0 Tryz.underlying36
     obtain⟨tb,yB⟩:∃x,x=t.testBit nn:=⟨_,rfl⟩;rw [<-yB]at mB yT;clear yB eA vC kF xW vL;cases tb
     ·simp only [Bool.not_false]at yT;go_wp2_with fail;refine WD.out.mono ?_;rintro e w3 pE;rcases pE with⟨rfl,zI,nF⟩|⟨ad3,c3',ls,rfl,zI,_,_,_,_,ZG⟩
      ·have zC:=Qq (zK.out.trans zI);have HD:=Qq (show Pr lg ks alive n t=false by
        cases h:Pr lg ks alive n t
        ·rfl
        exact absurd (Ca.1 h) nF)
       clear zI nF;go_wp2_with fail;go_ret;exact⟨by rw [mB.out,HD.out] <;> rfl,zC.out⟩
      have zC:=Qq (zK.out.trans zI);have HD:=Qq (show Pr lg ks alive n t=true from Ca.2 ZG);clear zI ZG;go_wp2_with fail;go_ret;exact⟨by rw [mB.out,HD.out] <;> rfl,zC.out⟩
     simp only [Bool.not_true]at yT;go_wp2_with fail;go_ret;exact⟨by rw [mB.out] <;> rfl,zK.out⟩
    have lV:((n.place:Int)==(nn:Int))=false:=by rw [beq_eq_false_iff_ne];omega
    clear eA vC kF xW vL;go_wp2_with fail;go_roundw
    case rel=>exact⟨k+1,by go_num,by omega,Qq ⟨HX.out.alloc _,yA.out lV⟩⟩
    case measure=>simp [intOf];omega
   obtain rfl:cs.length=k:=by omega
   have hG:=Qq (Qtl HJ.out);have mB:=Qq (show Vb lg ks cs alive t (nn:Int)=false by
    unfold Vb;rw [gY.out,cond_false,mD.out,hG.out])
   go_wp2_with fail;go_ret;exact⟨by rw [mB.out] <;> rfl,HX.out⟩
end Go.Proofs.YtkmclcmnoicagaaGreatDoor
