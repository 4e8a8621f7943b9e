/- types' coherent: the walk. -/
import Derived.Test.YtkmclcmnoicagaaGreatDoorL21
import Derived.Maps.OwnOps
namespace Go.Proofs.YtkmclcmnoicagaaGreatDoor
set_option maxRecDepth 100000
set_option maxHeartbeats 128000000
open Go.RowKit
def Ie(t:Nat)(c:Cm):Bool:=t.testBit c.place==((t&&&c.parts)==c.parts)
def Qvn(lg:Int)(t:Nat)(k:Kn):Bool:= !(Bp lg&&(t.testBit k.place&& !k.holds.getD t false))
theorem Qox {lg:Int} {ks:List Kn} {cs:List Cm} {t k:Nat} {c:Cm}(hn:cs[k]?=some c)(h:Ie t c=false):Ye lg ks cs t=false:=by
 unfold Ye;have:cs.all (fun c=>t.testBit c.place==((t&&&c.parts)==c.parts))=false:=by
  rw [List.all_eq_false];exact⟨c,List.mem_of_getElem? hn,by show ¬Ie t c=true;rw [h];simp⟩
 rw [this];rfl
theorem Zyi {lg:Int} {ks:List Kn} {cs:List Cm} {t k:Nat} {n:Kn}(hn:ks[k]?=some n)(h:Qvn lg t n=false):Ye lg ks cs t=false:=by
 unfold Ye;have:ks.all (fun k=> !(Bp lg&&(t.testBit k.place&& !k.holds.getD t false)))=false:=by
  rw [List.all_eq_false];exact⟨n,List.mem_of_getElem? hn,by show ¬Qvn lg t n=true;rw [h];simp⟩
 rw [this,Bool.and_false]
theorem Qiz {lg:Int} {ks:List Kn} {cs:List Cm} {t:Nat}(h1:∀(j:Nat) (c:Cm),j < cs.length->cs[j]?=some c->Ie t c=true)(h2:∀(j:Nat) (n:Kn),j < ks.length->ks[j]?=some n->Qvn lg t n=true):Ye lg ks cs t=true:=by
 unfold Ye;rw [Bool.and_eq_true,List.all_eq_true,List.all_eq_true];constructor
 ·intro c hc;obtain⟨j,hj,e⟩:=List.getElem_of_mem hc;exact h1 j c hj (by rw [Qv hj,e])
 intro c hc;obtain⟨j,hj,e⟩:=List.getElem_of_mem hc;exact h2 j c hj (by rw [Qv hj,e])
theorem Qb8 {w:World} {A:Option Addr} {c:Nat} {l:List Cm}(h:Qjw w A c l) {k:Nat} {n:Cm}(hk:l[k]?=some n):∃ad,A=some ad/\ad.block < w.heap.size/\Qbl w (ad.add (k*5)) n:=by
 obtain⟨ad,e,hb,hc⟩:=h.2.2 (by intro e;rw [e]at hk;simp at hk);exact⟨ad,e,hb,hc k n hk⟩
theorem Qj5 {w:World} {b:Nat} {a0 a1 a2 a3 a4:Value} {t:TypeId}(h:w.heap[b]?=some (.cells #[a0,a1,a2,a3,a4] t (0,0))):
 w.cell? ⟨b,0,none⟩=some a0/\w.cell? ⟨b,1,none⟩=some a1/\w.cell? ⟨b,2,none⟩=some a2/\w.cell? ⟨b,3,none⟩=some a3/\w.cell? ⟨b,4,none⟩=some a4/\b < w.heap.size :=
 ⟨by simp [World.cell?,h],by simp [World.cell?,h],by simp [World.cell?,h],by simp [World.cell?,h],by simp [World.cell?,h],Qn h⟩
theorem Qmi(t q:Nat)(ht:t < 18446744073709551616)(hq:q < 18446744073709551616):(bits .and .u64 (t:Int) (q:Int)==(q:Int))=((t&&&q)==q):=by
 rw [bits_and_u64_nat _ _ ht hq,Bool.eq_iff_iff,beq_iff_eq,beq_iff_eq];omega
theorem Qdq(b:Nat)(lg:Int)(base:List (List Nd))(root:List Bool)(ks:List Kn)(cs:List Cm)(alive:List Bool)(t:Nat)(w:World)
 (hE:Hw w b lg base root ks cs alive)(ht:t < 4096)(rG:∀k∈ks,k.place < 64/\t < k.holds.length)(oU:∀c∈cs,c.place < 64/\c.parts < 18446744073709551616):
 Calls Tryz.prog 131 #[.pointer (some ⟨b,0,none⟩),.int .u64 (t:Int)] w fun e w'=>e=.returned (.bool (Ye lg ks cs t))/\Qg w w':=by
 obtain⟨Ab,cb,Ar,cr,Ak,ck,Ac,cc,Aa,ca,d0,d1,d2,d3,d4,d5,xQ,_,_,uS,xK,_⟩:=hE.cells;have HK:=Qq uS;have HC:=Qq xK;have JZ:=uS.1;have zU:=uS.2.1;have wU:=xK.1;have mS:=xK.2.1;unfold maxLen at zU mS;have tG:=Qq rG;have lR:=Qq oU;have D0:=Qq d0;have D3:=Qq d3;clear hE uS xK rG oU d1 d2 d3 d5 d0;go_enter Tryz.func131,Tryz.ntmps131;go_wp2_with fail;clear d4;go_loopw [14] (fun v wr=>∃k:Nat,v=.int .i64 (k:Int)/\k<=cs.length/\Hid (Qg w wr/\∀(j:Nat) (c:Cm),j < k->cs[j]?=some c->Ie t c=true)) (fun v _=>cs.length - (intOf v).toNat)
 case atStart=>exact⟨0,rfl,Nat.zero_le _,Qq ⟨Qz,fun j n hj=>absurd hj (by omega)⟩⟩
 case round =>
  obtain⟨k,rfl,hk,zY⟩:=hrel;have HX:=Qq zY.out.1;have HJ:=Qq zY.out.2;clear zY;by_cases hlt2:k < cs.length
  ·have yT:(k:Int) < (cs.length:Int):=by omega
   obtain⟨n,hn⟩:∃n,cs[k]?=some n:=⟨_,Qv hlt2⟩;obtain⟨lZ,TO⟩:=lR.out n (List.mem_of_getElem? hn);obtain⟨ad,rfl,zA,yL⟩:=Qb8 HC.out hn;obtain⟨vx,vy,c0,c1,c2,c3,c4,vL,qQ⟩:=yL.ext HX.out (Qj zA);obtain⟨Ax,cx,rfl,_⟩:=vL;obtain⟨Ay,cy,rfl,_⟩:=qQ;have tN:(ad.add (k*5)).block < wr.heap.size:=by rw [Qt];exact Qy zA HX.out.size
   have HN:=Qq hn;have yB:=Qq (show Ie t n=true->∀(j:Nat) (m:Cm),j < k+1->cs[j]?=some m->Ie t m=true from fun hc j m hj hm=>by
    by_cases e:j < k
    ·exact HJ.out j m e hm
    have:j=k:=by omega
    subst this;rw [hn]at hm;injection hm with hm;rw [<-hm];exact hc)
   have yV:=Bn t n.place (by omega);have xC:=Qmi t n.parts (by omega) TO;obtain⟨p1,mB⟩:∃x,x=t.testBit n.place:=⟨_,rfl⟩;obtain⟨p2,uQ⟩:∃x,x=((t&&&n.parts)==n.parts):=⟨_,rfl⟩;have kC:=Qq (show Ie t n=(p1==p2) by rw [mB,uQ];rfl);rw [<-mB]at yV;rw [<-uQ]at xC;clear hn yL mB uQ;obtain⟨wq,vE⟩:∃v,v=wr:=⟨_,rfl⟩;subst vE;go_upto_region 4 with(fail);obtain⟨e0,e1,e2,e3,e4,eb⟩:=Qj5 (show(wq.alloc (.cells #[.int .i64 (n.place:Int),.int .i64 n.group,.slice Ax n.x.length cx,.slice Ay n.y.length cy,.int .u64 (n.parts:Int)] 138)).heap[wq.heap.size]?=some (.cells #[.int .i64 (n.place:Int),.int .i64 n.group,.slice Ax n.x.length cx,.slice Ay n.y.length cy,.int .u64 (n.parts:Int)] 138 (0,0))from heap_alloc_new _ _)
   cases p1 <;> cases p2
   ·have HT:=Qq (show Ie t n=true by rw [kC.out];rfl);refine wp_region_held_drew (S:=fun w'=>w'.cell? (⟨wq.heap.size,0,none⟩)=some (.int .i64 (n.place:Int))/\w'.cell? (⟨wq.heap.size,4,none⟩)=some (.int .u64 (n.parts:Int))) (by kernel_rfl) ⟨xc eb e0,xc eb e4⟩ (fun zZ=> ?_);refine tk 0 zZ ?_;refine tk 1 zZ ?_;refine tk 2 zZ ?_;refine tk 3 zZ ?_;refine tk 4 zZ ?_;refine tk 5 zZ ?_;refine tk 6 zZ ?_;refine tk 7 zZ ?_;refine tk 8 zZ ?_;refine tk 9 zZ ?_;refine tk 10 zZ ?_;refine tk 11 zZ ?_;refine tk 12 zZ ?_;refine tk 13 zZ ?_;refine wpAnyH_done (by kernel_rfl) ?_ _
    go_wp2_with fail;go_roundw
    case rel=>exact⟨k+1,by go_num,by omega,Qq ⟨HX.out.trans (Qz.alloc _).drew,yB.out HT.out⟩⟩
    case measure=>simp [intOf];omega
   ·have HE:=Qq (show Ye lg ks cs t=false from Qox HN.out (by rw [kC.out];rfl));refine wp_region_held_drew (S:=fun w'=>w'.cell? (⟨wq.heap.size,0,none⟩)=some (.int .i64 (n.place:Int))/\w'.cell? (⟨wq.heap.size,4,none⟩)=some (.int .u64 (n.parts:Int))) (by kernel_rfl) ⟨xc eb e0,xc eb e4⟩ (fun zZ=> ?_);refine tk 0 zZ ?_;refine tk 1 zZ ?_;refine tk 2 zZ ?_;refine tk 3 zZ ?_;refine tk 4 zZ ?_;refine tk 5 zZ ?_;refine tk 6 zZ ?_;refine tk 7 zZ ?_;refine tk 8 zZ ?_;refine tk 9 zZ ?_;refine tk 10 zZ ?_;refine tk 11 zZ ?_;refine tk 12 zZ ?_;refine tk 13 zZ ?_
    refine wpAnyH_done (by kernel_rfl) ?_ _;go_wp2_with fail;go_ret;exact⟨by rw [HE.out] <;> rfl,HX.out.trans (Qz.alloc _).drew⟩
   ·have HE:=Qq (show Ye lg ks cs t=false from Qox HN.out (by rw [kC.out];rfl));refine wp_region_held_drew (S:=fun w'=>w'.cell? (⟨wq.heap.size,0,none⟩)=some (.int .i64 (n.place:Int))/\w'.cell? (⟨wq.heap.size,4,none⟩)=some (.int .u64 (n.parts:Int))) (by kernel_rfl) ⟨xc eb e0,xc eb e4⟩ (fun zZ=> ?_);refine tk 0 zZ ?_;refine tk 1 zZ ?_;refine tk 2 zZ ?_;refine tk 3 zZ ?_;refine tk 4 zZ ?_;refine tk 5 zZ ?_;refine tk 6 zZ ?_;refine tk 7 zZ ?_;refine tk 8 zZ ?_;refine tk 9 zZ ?_;refine tk 10 zZ ?_;refine tk 11 zZ ?_;refine tk 12 zZ ?_;refine tk 13 zZ ?_
    refine wpAnyH_done (by kernel_rfl) ?_ _;go_wp2_with fail;go_ret;exact⟨by rw [HE.out] <;> rfl,HX.out.trans (Qz.alloc _).drew⟩
   have HT:=Qq (show Ie t n=true by rw [kC.out];rfl);refine wp_region_held_drew (S:=fun w'=>w'.cell? (⟨wq.heap.size,0,none⟩)=some (.int .i64 (n.place:Int))/\w'.cell? (⟨wq.heap.size,4,none⟩)=some (.int .u64 (n.parts:Int))) (by kernel_rfl) ⟨xc eb e0,xc eb e4⟩ (fun zZ=> ?_);refine tk 0 zZ ?_;refine tk 1 zZ ?_;refine tk 2 zZ ?_;refine tk 3 zZ ?_;refine tk 4 zZ ?_;refine tk 5 zZ ?_;refine tk 6 zZ ?_;refine tk 7 zZ ?_;refine tk 8 zZ ?_;refine tk 9 zZ ?_;refine tk 10 zZ ?_;refine tk 11 zZ ?_;refine tk 12 zZ ?_;refine tk 13 zZ ?_;refine wpAnyH_done (by kernel_rfl) ?_ _
   go_wp2_with fail;go_roundw
   case rel=>exact⟨k+1,by go_num,by omega,Qq ⟨HX.out.trans (Qz.alloc _).drew,yB.out HT.out⟩⟩
   case measure=>simp [intOf];omega
  obtain rfl:cs.length=k:=by omega
  have K6:=Qq HJ.out;have VO:=Qq HX.out;have dw3:=(HX.out.cell (p:=⟨b,3,none⟩) xQ).trans D3.out;clear HJ HX;obtain⟨w1,sY⟩:∃v,v=wr:=⟨_,rfl⟩;subst sY;go_wp2_with fail;clear dw3;go_loopw [38] (fun v wr=>∃k:Nat,v=.int .i64 (k:Int)/\k<=ks.length/\Hid (Qg w wr/\∀(j:Nat) (c:Kn),j < k->ks[j]?=some c->Qvn lg t c=true)) (fun v _=>ks.length - (intOf v).toNat)
  case atStart=>exact⟨0,rfl,Nat.zero_le _,Qq ⟨VO.out,fun j n hj=>absurd hj (by omega)⟩⟩
  case round =>
   obtain⟨k,rfl,hk,zY⟩:=hrel;have HX:=Qq zY.out.1;have HJ:=Qq zY.out.2;clear zY;by_cases hlt2:k < ks.length
   ·have yT:(k:Int) < (ks.length:Int):=by omega
    obtain⟨n,hn⟩:∃n,ks[k]?=some n:=⟨_,Qv hlt2⟩;obtain⟨lZ,UJ⟩:=tG.out n (List.mem_of_getElem? hn);obtain⟨ad,rfl,zA,yL⟩:=Qz8 HK.out hn;obtain⟨vh,c0,c1,c2,rK⟩:=yL.ext HX.out (Qj zA);obtain⟨Ah,ch,rfl,rK⟩:=rK;have hhc:=rK.1;have YJ:=rK.2.1;unfold maxLen at YJ;obtain⟨ah,rfl,DM,yO⟩:=Xx rK UJ;have tN:(ad.add (k*3)).block < wr.heap.size:=by rw [Qt];exact Qy zA HX.out.size
    have NG:(ah.add t).block < wr.heap.size:=by rw [Qt];exact DM
    have MR:(t:Int) < (n.holds.length:Int):=by omega
    have dl0:=(HX.out.cell (p:=⟨b,0,none⟩) xQ).trans D0.out;have sG:b < wr.heap.size:=Qy xQ HX.out.size;have HN:=Qq hn;have yB:=Qq (show Qvn lg t n=true->∀(j:Nat) (m:Kn),j < k+1->ks[j]?=some m->Qvn lg t m=true from fun hc j m hj hm=>by
     by_cases e:j < k
     ·exact HJ.out j m e hm
     have:j=k:=by omega
     subst this;rw [hn]at hm;injection hm with hm;rw [<-hm];exact hc)
    have yV:=Bn t n.place (by omega);obtain⟨ph,TM⟩:∃x,x=n.holds.getD t false:=⟨_,rfl⟩;obtain⟨p1,mB⟩:∃x,x=t.testBit n.place:=⟨_,rfl⟩;obtain⟨pr,CG⟩:∃x,x=Bp lg:=⟨_,rfl⟩;have kC:=Qq (show Qvn lg t n= !(pr&&(p1&& !ph)) by rw [TM,mB,CG];rfl);have KP:=Qq (show ∀W,W.cell? ⟨b,0,none⟩=some (.int .i64 lg)->Calls Tryz.prog 184 #[.pointer (some ⟨b,0,none⟩)] W fun e w'=>e=.returned (.bool pr)/\W=w' from fun W hW=>CG▸Qbb b lg W hW);rw [<-TM]at yO;rw [<-mB]at yV;clear hn yL rK TM mB CG;obtain⟨wq,vE⟩:∃v,v=wr:=⟨_,rfl⟩;subst vE;cases pr
    ·go_wp2_with fail;refine(KP.out _ ((((Qg.refl wq).alloc _).cell (p:=⟨b,0,none⟩) sG).trans dl0)).mono ?_;rintro e w3 ⟨rfl,rfl⟩;go_wp2_with fail;go_roundw
     case rel=>exact⟨k+1,by go_num,by omega,Qq ⟨HX.out.trans (Qz.alloc _),yB.out (by rw [kC.out];rfl)⟩⟩
     case measure=>simp [intOf];omega
    cases p1
    ·go_wp2_with fail;refine(KP.out _ ((((Qg.refl wq).alloc _).cell (p:=⟨b,0,none⟩) sG).trans dl0)).mono ?_;rintro e w3 ⟨rfl,rfl⟩;go_wp2_with fail;go_roundw
     case rel=>exact⟨k+1,by go_num,by omega,Qq ⟨HX.out.trans (Qz.alloc _),yB.out (by rw [kC.out];rfl)⟩⟩
     case measure=>simp [intOf];omega
    cases ph
    ·have HE:=Qq (show Ye lg ks cs t=false from Zyi HN.out (by rw [kC.out];rfl));go_wp2_with fail;refine(KP.out _ ((((Qg.refl wq).alloc _).cell (p:=⟨b,0,none⟩) sG).trans dl0)).mono ?_;rintro e w3 ⟨rfl,rfl⟩;go_wp2_with fail;go_ret;exact⟨by rw [HE.out] <;> rfl,HX.out.trans (Qz.alloc _)⟩
    go_wp2_with fail;refine(KP.out _ ((((Qg.refl wq).alloc _).cell (p:=⟨b,0,none⟩) sG).trans dl0)).mono ?_;rintro e w3 ⟨rfl,rfl⟩;go_wp2_with fail;go_roundw
    case rel=>exact⟨k+1,by go_num,by omega,Qq ⟨HX.out.trans (Qz.alloc _),yB.out (by rw [kC.out];rfl)⟩⟩
    case measure=>simp [intOf];omega
   obtain rfl:ks.length=k:=by omega
   have HE:=Qq (Qiz K6.out HJ.out);go_wp2_with fail;go_ret;exact⟨by rw [HE.out] <;> rfl,HX.out⟩
open Go.Maps (Keyed IsMap Tidy has has_put_same has_put_other atKey_put_same atKey_put_other)
def Uk(w:World)(b:Nat)(q ps:List Nat):Prop :=
 ∃(D:D0) (n:Nat),w.ownsMap Tryz.prog 3 (plainElem Tryz.prog 3) b n D/\n<=q.length/\(∀u:Nat,has D (.int .i64 (u:Int))=decide (u∈q.tail))/\
  (∀j:Nat,1<=j->j < q.length->∀z,D.atKey (.int .i64 ((q.getD j 0:Nat):Int)) z=.lit (.int .i64 ((ps.getD j 0:Nat):Int)))
theorem Uk.made(w:World)(t:Nat):Uk (w.alloc (.map #[] 0)) w.heap.size [t] [0]:=
 ⟨.map [],0,World.ownsMap_made w _ _ _,Nat.zero_le _,fun u=>by simp [has],fun j h1 h2=>by simp at h2;omega⟩
theorem Qzg {w w':World} {P:Program} {k:TypeId} {R:Value->Option (D0×List MemPlace)} {b n:Nat} {D:D0}(h:w.ownsMap P k R b n D)(hb:w'.heap[b]?=w.heap[b]?):w'.ownsMap P k R b n D:=by
 obtain⟨es,clock,h1,h2⟩:=h;exact⟨es,clock,hb.trans h1,h2⟩
theorem Uk.lt {w:World} {b:Nat} {q ps:List Nat}(h:Uk w b q ps):b < w.heap.size:=by
 obtain⟨D,n,h1,_⟩:=h;exact h1.lt
theorem Uk.kept {w w':World} {b:Nat} {q ps:List Nat}(h:Uk w b q ps)(hb:w'.heap[b]?=w.heap[b]?):Uk w' b q ps:=by
 obtain⟨D,n,h1,h2⟩:=h;exact⟨D,n,Qzg h1 hb,h2⟩
theorem Uk.put {w':World} {b:Nat} {q ps:List Nat} {D:D0} {n u i:Nat}(hD:IsMap D)(hn:n<=q.length)(hh:∀u:Nat,has D (.int .i64 (u:Int))=decide (u∈q.tail))
 (ha:∀j:Nat,1<=j->j < q.length->∀z,D.atKey (.int .i64 ((q.getD j 0:Nat):Int)) z=.lit (.int .i64 ((ps.getD j 0:Nat):Int)))(hp:0 < q.length)(hl:ps.length=q.length)(hu:u∉q.tail)
 (h:w'.ownsMap Tryz.prog 3 (plainElem Tryz.prog 3) b (n+1) (D.put (.int .i64 (u:Int)) (.lit (.int .i64 (i:Int))))):Uk w' b (q++ [u]) (ps++ [i]):=by
 have wJ:WideAt.IsKeyLit (.int .i64 (u:Int)):=trivial;have other:∀v:Nat,v≠u->(Lit.int .i64 (v:Int))≠.int .i64 (u:Int):=fun v e e'=>e (by injection e' with _ e';omega)
 refine⟨_,_,h,by simp;omega,fun v=> ?_,fun j h1 h2 z=> ?_⟩
 ·rw [Mh hp];by_cases e:v=u
  ·subst e;rw [has_put_same hD wJ];simp
  rw [has_put_other (other v e),hh v];simp [e]
 by_cases hj:j < q.length
 ·have hm:=Qv6 h1 hj;have zQ:q.getD j 0≠u:=fun e=>hu (e▸hm)
  rw [Re hj,Re (by omega),atKey_put_other (other _ zQ)];exact ha j h1 hj z
 have e:j=q.length:=by simp at h2;omega
 subst e;have e2:(ps++ [i]).getD q.length 0=i:=by rw [<-hl];exact Ti
 rw [Ti,e2];exact atKey_put_same hD wJ _ z
def Gh(l:List Nat):List Value:=l.map fun(u:Nat)=>Value.int .i64 (u:Int)
structure Tk (w wr:World) (cs:Array Value) (vq:Value) (q ps:List Nat):Prop where
 ext:Qg w wr
 box:wr.heap[w.heap.size]?=some (.cells cs 138 (0,0))
 map:Uk wr (w.heap.size+1) q ps
 row:wr.ownsRow (w.heap.size+2) 3 1 vq q.length (Gh q)
section
variable {w wr W:World} {cs:Array Value} {vq:Value} {q ps:List Nat}
theorem Tk.next(h:Tk w wr cs vq q ps)(he:Qg wr W):Tk w W cs vq q ps :=
 ⟨h.ext.trans he,(he.block (Qn h.box)).trans h.box,h.map.kept (he.block h.map.lt),Zk h.row he⟩
theorem Tk.push {w6 w7 W6:World} {v7:Value} {u i:Nat}(h:Tk w wr cs vq q ps)(lF:wr.grownBy w6 (some (w.heap.size+1)))(lA:Uk w6 (w.heap.size+1) (q++ [u]) (ps++ [i]))(he:Qg w6 W6)
 (xN:w7.ownsRow (w.heap.size+2) 3 1 v7 (q.length+1) (Gh q++ [.int .i64 (u:Int)]))(uD:W6.grownBy w7 vq.ownBlock):Tk w w7 cs v7 (q++ [u]) (ps++ [i]):=by
 have ZR:∀g,vq.ownBlock=some g->w.heap.size+2<=g:=fun g hg=>(h.row.lt g hg).1
 have gN:=Qn h.box;have s6:wr.heap.size<=w6.heap.size:=lF.size;refine⟨((h.ext.grown lF (fun k hk=>by injection hk with hk;omega)).trans he).grown uD (fun g hg=>by have:=ZR g hg;omega),?_,?_,?_⟩
 ·rw [uD.block _ (Qy gN (Qx s6 he.size)) (fun e=>by have:=ZR _ e.symm;omega),he.block (Qy gN s6),lF.block _ gN (fun e=>by injection e with e;omega)];exact h.box
 ·refine lA.kept ?_;rw [uD.block _ (Qy lA.lt he.size) (fun e=>by have:=ZR _ e.symm;omega),he.block lA.lt]
 have e:Gh (q++ [u])=Gh q++ [.int .i64 (u:Int)]:=by unfold Gh;rw [List.map_append];rfl
 rw [e,List.length_append,List.length_singleton];exact xN
theorem Tk.row6 {w6:World}(h:Tk w wr cs vq q ps)(lF:wr.grownBy w6 (some (w.heap.size+1))):w6.ownsRow (w.heap.size+2) 3 1 vq q.length (Gh q):=
 Zm h.row fun g hg=>lF.block g (h.row.lt g hg).2 (fun e=>by injection e with e;have:=(h.row.lt g hg).1;omega)
theorem Un {base n:Nat} {v:Value}(h:w.ownsRow base 3 1 v n (Gh q)) {j:Nat}(hj:j < q.length)(hn:n=q.length):∃g cap,v=.slice (some ⟨g,0,none⟩) n cap/\g < w.heap.size/\base<=g/\n<=cap/\cap<=maxLen/\w.cell? ⟨g,j,none⟩=some (.int .i64 ((q.getD j 0:Nat):Int)):=by
 rcases h.2 with⟨_,h0⟩|⟨g,cap,cur,rfl,hb,hg,iE,hm,hs,ht⟩
 ·omega
 refine⟨g,cap,rfl,Qn hg,hb,iE,hm,?_⟩;have hz:(Gh q)[j]?=some (.int .i64 ((q.getD j 0:Nat):Int)):=by
  unfold Gh;rw [List.getElem?_map,Qv hj,Qk,Qv hj];rfl
 rw [<-ht,List.getElem?_take]at hz
 split at hz
 ·have h2:cur[j]?=some (.int .i64 ((q.getD j 0:Nat):Int)):=by simpa using hz
  simp [World.cell?,hg,h2]
 cases hz
theorem Qmx(w:World)(base:Nat)(hb:base<=w.heap.size)(t:Nat):(w.alloc (.cells #[.int .i64 (t:Int)] 3)).ownsRow base 3 1 (.slice (some ⟨w.heap.size,0,none⟩) 1 1) 1 (Gh [t]):=
 ⟨rfl,.inr ⟨w.heap.size,1,#[.int .i64 (t:Int)],rfl,hb,heap_alloc_new _ _,Nat.le_refl _,by unfold maxLen;omega,rfl,rfl⟩⟩
end
open Go.Maps (has)
def Qot(step:Nat->Nat->Bool)(y:Nat->Bool)(t:Nat)(w:World)(e:Ending)(w':World):Prop :=
 (e=.returned (.slice none 0 0)/\Qg w w'/\¬∃u,Vi (fun a b=>step a b=true) t u/\y u=false)\/
 (∃ad c ls,e=.returned (.slice (some ad) ls.length c)/\Qg w w'/\w'.ownsRow w.heap.size 3 1 (.slice (some ad) ls.length c) ls.length (Gh ls)/\ls≠ []/\Ea step t ls/\(∀u,ls[0]?=some u->y u=false)/\∃u,Vi (fun a b=>step a b=true) t u/\y u=false)
theorem Qag {P:Nat->Bool}(k:Nat):(List.range (k+1)).any P=((List.range k).any P||P k):=by
 rw [List.range_succ,List.any_append];simp
theorem Qd2(q:List Nat)(u:Nat):Gh (q++ [u])=Gh q++ [.int .i64 (u:Int)]:=by
 unfold Gh;rw [List.map_append];rfl
theorem Ht {a:Nat}(h:a<=1000000):Vm (a:Int):=⟨by omega,by omega⟩
theorem Qnj(b:Nat)(lg:Int)(base:List (List Nd))(root:List Bool)(ks:List Kn)(cs:List Cm)(alive:List Bool)(c:Cm)(t:Nat)(vx vy:Value)(w:World)
 (hE:Hw w b lg base root ks cs alive)(yA:0<=lg/\lg<=6)(ht:t < 4096)(hm:alive.length<=4096)(rG:∀k∈ks,k.place < 64/\alive.length<=k.holds.length)(hx:Km w vx c.x)(hy:Km w vy c.y)(vD:c.x.length=alive.length)(kN:c.y.length=alive.length)(cF:0<=c.group/\c.group < 16)(qI:0 < alive.length):
 Calls Tryz.prog 139 #[.pointer (some ⟨b,0,none⟩),.agg #[.int .i64 (c.place:Int),.int .i64 c.group,vx,vy,.int .u64 (c.parts:Int)],.int .u64 (t:Int)] w (Qot (Pb lg ks alive c) (fun u=>c.y.getD u false) t w):=by
 have rD:= @run_makeMap Tryz.prog;obtain⟨Ab,cb,Ar,cr,Ak,ck,Ac,cc,Aa,ca,d0,d1,d2,d3,d4,d5,xQ,_,_,uS,_,vS⟩:=hE.cells;have HE:=Qq hE;obtain⟨ag,rfl,B6,_⟩:=Xx vS qI;obtain⟨Ax,cx,rfl,vL⟩:=hx;obtain⟨Ay,cy,rfl,qQ⟩:=hy;obtain⟨ax,rfl,sX,_⟩:=Xx vL (show 0 < c.x.length by omega);obtain⟨ay,rfl,bT,_⟩:=Xx qQ (show 0 < c.y.length by omega);have HA:=Qq vS;have vW:=Qq vL;have fV:=Qq qQ;have SD:=vS.1;have qP:=vS.2.1;have hxc:=vL.1;have UT:=vL.2.1;have hyc:=qQ.1;have hcy:=qQ.2.1;unfold maxLen at qP UT hcy;have tG:=Qq rG;obtain⟨gn,wC⟩:=Int.eq_ofNat_of_zero_le cF.1
 have UM:gn < 16:=by omega
 obtain⟨m,qM⟩:∃m,m=alive.length:=⟨_,rfl⟩;have H3:=Qq (show c.x.length=m by rw [vD,qM]);have V7:=Qq (show c.y.length=m by rw [kN,qM]);rw [<-qM]at hm qI d5 SD;rw [show c.x.length=m by rw [vD,qM]]at hxc⊢;rw [show c.y.length=m by rw [kN,qM]]at hyc⊢;rw [wC];have nB:=Qq wC;have HM:=Qq qM;obtain⟨st,xM⟩:∃s,s=Pb lg ks alive c:=⟨_,rfl⟩;have yY:=Qq xM;obtain⟨yy,ZG⟩:∃s:Nat->Bool,s=fun u=>c.y.getD u false:=⟨_,rfl⟩
 have V6:=Qq ZG;rw [<-xM,<-ZG];have wL:=Qq (show ∀a u,st a u=(alive.getD u false&&(c.x.getD u false&&(List.range 4).any fun(i:Nat)=>Vz (gn:Int) i&&Jz lg ks (i:Int) a u))from fun a u=>by rw [xM];unfold Pb;rw [wC]);obtain⟨iI,pO,vO,vN,vM⟩:=info_parts Qjc;have D5:=Qq d5;clear hE vS vL qQ rG wC qM xM ZG uS vD kN d0 d1 d2 d3 d4 d5 cF;go_enter Tryz.func139,Tryz.ntmps139;go_wp2_with fail
 have cO:=Qq (show Tk w (((w.alloc (.cells #[.int .i64 (c.place:Int),.int .i64 (gn:Int),.slice (some ax) m cx,.slice (some ay) m cy,.int .u64 (c.parts:Int)] 138)).alloc (.map #[] 0)).alloc (.cells #[.int .i64 (t:Int)] 3)) #[.int .i64 (c.place:Int),.int .i64 (gn:Int),.slice (some ax) m cx,.slice (some ay) m cy,.int .u64 (c.parts:Int)] (.slice (some ⟨w.heap.size+1+1,0,none⟩) 1 1) [t] [0]from
  ⟨((Qz.alloc _).alloc _).alloc _,((Qz.alloc _).alloc _).block (by simp)|>.trans (heap_alloc_new _ _),by
    have:=(Uk.made (w.alloc (.cells #[.int .i64 (c.place:Int),.int .i64 (gn:Int),.slice (some ax) m cx,.slice (some ay) m cy,.int .u64 (c.parts:Int)] 138)) t);simp only [World.size_alloc]at this;exact this.kept ((Qz.alloc _).block (by simp)),by
    have:=Qmx ((w.alloc (.cells #[.int .i64 (c.place:Int),.int .i64 (gn:Int),.slice (some ax) m cx,.slice (some ay) m cy,.int .u64 (c.parts:Int)] 138)).alloc (.map #[] 0)) (w.heap.size+2) (by simp) t
    simpa using this⟩)
 go_loopw [8,9] (fun vq vi wr=>∃i:Nat,vi=.int .i64 (i:Int)/\i<=m+1/\Hid (∃q ps,Tk w wr #[.int .i64 (c.place:Int),.int .i64 (gn:Int),.slice (some ax) m cx,.slice (some ay) m cy,.int .u64 (c.parts:Int)] vq q ps/\Pd st m t q ps/\i<=q.length/\(∀u∈q.tail,yy u=true)/\∀j,j < i->∀u,st (q.getD j 0) u=true->u∈q.tail)) (fun _ v _=>m+2 - (intOf v).toNat)
 case atStart=>exact⟨0,rfl,Nat.zero_le _,Qq ⟨[t],[0],cO.out,Pd.start _ _ _,Nat.zero_le _,(fun u hu=>by cases hu),(fun j hj=>absurd hj (by omega))⟩⟩
 case round =>
  clear cO;obtain⟨i,rfl,hi,zY⟩:=hrel;obtain⟨q,ps,mA,VC,eD,ZI,yR⟩:=zY.out;have nT:=Qq mA;have iY:=Qq VC;have cI:=Qq ZI;have tV:=Qq yR;have P3:=VC.qlen;obtain⟨Aq,cq,rfl⟩:=Qs mA.row;clear zY mA VC ZI yR;by_cases zI:i < q.length
  ·have CT:(i:Int) < (q.length:Int):=by omega
   have dl5:=(nT.out.ext.cell (p:=⟨b,5,none⟩) xQ).trans D5.out;obtain⟨wo,cZ⟩:∃v,v=wr:=⟨_,rfl⟩;subst cZ;go_wp2_with fail;clear dl5;go_loopw [8,33] (fun vq vk wr=>∃k:Nat,vk=.int .i64 (k:Int)/\k<=m/\Hid (∃q ps,Tk w wr #[.int .i64 (c.place:Int),.int .i64 (gn:Int),.slice (some ax) m cx,.slice (some ay) m cy,.int .u64 (c.parts:Int)] vq q ps/\Pd st m t q ps/\i < q.length/\(∀u∈q.tail,yy u=true)/\(∀j,j < i->∀u,st (q.getD j 0) u=true->u∈q.tail)/\∀u,u < k->st (q.getD i 0) u=true->u∈q.tail)) (fun _ v _=>m - (intOf v).toNat)
   case atStart=>exact⟨0,rfl,Nat.zero_le _,Qq ⟨q,ps,nT.out,iY.out,zI,cI.out,tV.out,(fun u hu=>absurd hu (by omega))⟩⟩
   case round =>
    clear nT iY cI tV P3 zI CT eD;obtain⟨k,rfl,hk,zY⟩:=hrel;obtain⟨q,ps,mA,VC,eD,ZI,yR,TO⟩:=zY.out;have nT:=Qq mA;have iY:=Qq VC;have cI:=Qq ZI;have tV:=Qq yR;have Z2:=Qq TO;have P3:=VC.qlen;obtain⟨Aq,cq,rfl⟩:=Qs mA.row;clear zY mA VC ZI yR TO;by_cases hlt2:k < m
    ·have yT:(k:Int) < (m:Int):=by omega
     obtain⟨_,e1,_,a0⟩:=Xx (HA.out.ext nT.out.ext) (show k < alive.length by rw [<-HM.out];exact hlt2);injection e1 with e1;subst e1;obtain⟨_,e1,BB,x0⟩:=Xx (vW.out.ext nT.out.ext) (show k < c.x.length by rw [H3.out];exact hlt2);injection e1 with e1;subst e1;obtain⟨_,e1,AY,y0⟩:=Xx (fV.out.ext nT.out.ext) (show k < c.y.length by rw [V7.out];exact hlt2);injection e1 with e1;subst e1;obtain⟨b0,b1,b2,b3,b4,bl⟩:=Qj5 nT.out.box;obtain⟨D,nD,xN,hnD,UK,YG⟩:=nT.out.map;have wJ:=Ro (Ht (a:=k) (by omega));have DL:=UK k;have PK:=Qq xN;have L2:=Qq UK
     have Z8:=Qq YG;have iX:=Qq (show ∀u,u < k+1->(u=k->st (q.getD i 0) k=true->k∈q.tail)->st (q.getD i 0) u=true->u∈q.tail from fun u hu h2 h3=>by
      by_cases e:u < k
      ·exact Z2.out u e h3
      have:u=k:=by omega
      subst this;exact h2 rfl h3)
     clear UK YG;by_cases hseen:k∈q.tail
     ·have mG:=Qq hseen;rw [decide_eq_true hseen]at DL;clear hseen;go_wp2_with(at_lookup;refine wpList_lookup_own_ok_int _ rfl _ _ 178 rfl 3 3 .i64 Ud Tryz.underlying178 Tryz.underlying3 (Ln _) (w.heap.size+1) nD D rfl xN _ _ rfl wJ ?_;intro cc yL sL;clear yL sL);go_roundw
      case rel=>exact⟨k+1,by go_num,by omega,Qq ⟨q,ps,nT.out,iY.out,eD,cI.out,tV.out,fun u hu=>iX.out u hu (fun _ _=>mG.out)⟩⟩
      case measure=>simp [intOf];omega
     have mG:=Qq hseen;rw [decide_eq_false hseen]at DL;clear hseen;have nQ:=Qq (fun a=>wL.out a k);obtain⟨ak,qR⟩:∃x,x=alive.getD k false:=⟨_,rfl⟩;obtain⟨xk,RK⟩:∃x,x=c.x.getD k false:=⟨_,rfl⟩;rw [<-qR,<-RK]at nQ;rw [<-qR]at a0;rw [<-RK]at x0;clear qR RK;cases ak
     ·go_wp2_with(at_lookup;refine wpList_lookup_own_ok_int _ rfl _ _ 178 rfl 3 3 .i64 Ud Tryz.underlying178 Tryz.underlying3 (Ln _) (w.heap.size+1) nD D rfl xN _ _ rfl wJ ?_;intro cc yL sL;clear yL sL);go_roundw
      case rel=>exact⟨k+1,by go_num,by omega,Qq ⟨q,ps,nT.out,iY.out,eD,cI.out,tV.out,fun u hu=>iX.out u hu (fun _ h=>by rw [nQ.out]at h;cases h)⟩⟩
      case measure=>simp [intOf];omega
     cases xk
     ·go_wp2_with(at_lookup;refine wpList_lookup_own_ok_int _ rfl _ _ 178 rfl 3 3 .i64 Ud Tryz.underlying178 Tryz.underlying3 (Ln _) (w.heap.size+1) nD D rfl xN _ _ rfl wJ ?_;intro cc yL sL;clear yL sL);go_roundw
      case rel=>exact⟨k+1,by go_num,by omega,Qq ⟨q,ps,nT.out,iY.out,eD,cI.out,tV.out,fun u hu=>iX.out u hu (fun _ h=>by rw [nQ.out]at h;cases h)⟩⟩
      case measure=>simp [intOf];omega
     obtain⟨P,hP⟩:∃P:Nat->Bool,P=fun(j:Nat)=>Vz (gn:Int) j&&Jz lg ks (j:Int) (q.getD i 0) k:=⟨_,rfl⟩
     have J3:=Qq hP;have Y4:=Qq (show st (q.getD i 0) k=(List.range 4).any P by rw [nQ.out,hP];rfl);have hqi:q.getD i 0 < 4096:=by
      by_cases e:i=0
      ·subst e;have:=iY.out.head;rw [Qk,this];exact ht
      have:=iY.out.lt _ (Qv6 (j:=i) (by omega) eD);omega
     clear hP;go_wp2_with(at_lookup;refine wpList_lookup_own_ok_int _ rfl _ _ 178 rfl 3 3 .i64 Ud Tryz.underlying178 Tryz.underlying3 (Ln _) (w.heap.size+1) nD D rfl xN _ _ rfl wJ ?_;intro cc yL sL;clear yL sL);obtain⟨wm,hwm⟩:∃v,v=wr:=⟨_,rfl⟩;subst hwm;clear a0 x0 y0 b0 b1 b2 b3 b4 xN DL BB AY;go_loopw [14,57] (fun vb va wr=>∃j:Nat,va=.int .i64 (j:Int)/\j<=4/\vb=.bool ((List.range j).any P)/\Hid (Qg wm wr)) (fun _ v _=>4 - (intOf v).toNat)
     case atStart=>exact⟨0,rfl,Nat.zero_le _,rfl,Qq Qz⟩
     case round =>
      obtain⟨j,rfl,hj,rfl,HX⟩:=hrel;by_cases hj4:j < 4
      ·have lD:(j:Int) < 4:=by omega
       have iO:=Qq (Qag (P:=P) j);have HN:=Qq (nT.out.next HX.out);obtain⟨b0,b1,b2,b3,b4,bl⟩:=Qj5 HN.out.box;obtain⟨g2,cap2,wF,tD,_,kW,tC,qO⟩:=Un HN.out.row eD rfl;injection wF with hsl2a _ hsl2b;subst hsl2a hsl2b;unfold maxLen at tC;have hiqi:(i:Int) < (q.length:Int):=by omega
       obtain⟨qi,lY⟩:∃x,x=q.getD i 0:=⟨_,rfl⟩;rw [<-lY]at qO hqi;have KR:=Qq lY;have jV:=Qq (Li b lg base root ks cs alive (j:Int) qi k wr (HE.out.ext HN.out.ext) yA (by omega) (by omega) (fun n hn=>⟨(tG.out n hn).1,by have:=(tG.out n hn).2;rw [<-HM.out]at this;omega⟩));have tM:=Cd gn j (by omega);have KV:=Qq (show P j=(gn.testBit j&&Jz lg ks (j:Int) qi k) by rw [J3.out,lY];rfl);clear lY;generalize (List.range j).any P=aj at iO;obtain⟨pj,P4⟩:∃x,x=Jz lg ks (j:Int) qi k:=⟨_,rfl⟩;rw [<-P4]at jV KV;obtain⟨gj,aD⟩:∃x,x=gn.testBit j:=⟨_,rfl⟩;rw [<-aD]at tM KV
       clear P4 aD;cases aj
       ·cases gj
        ·go_wp2_with fail;go_roundw
         case rel=>exact⟨j+1,by go_num,by omega,by rw [iO.out,KV.out];rfl,HX⟩
         case measure=>simp [intOf];omega
        go_wp2_with fail;refine jV.out.mono ?_;rintro e w2 ⟨rfl,zT⟩;have zS:=Qq (HX.out.trans zT);clear zT;go_wp2_with fail;go_roundw
        case rel=>exact⟨j+1,by go_num,by omega,by rw [iO.out,KV.out];cases pj <;> rfl,zS⟩
        case measure=>simp [intOf];omega
       go_wp2_with fail;go_roundw
       case rel=>exact⟨j+1,by go_num,by omega,by rw [iO.out];rfl,HX⟩
       case measure=>simp [intOf];omega
      obtain rfl:4=j:=by omega
      have HN:=Qq (nT.out.next HX.out);cases tS:(List.range 4).any P
      ·have FY:=Qq (Y4.out.trans tS);clear tS;go_wp2_with fail;go_roundw
       case rel=>exact⟨k+1,by go_num,by omega,Qq ⟨q,ps,HN.out,iY.out,eD,cI.out,tV.out,fun u hu=>iX.out u hu (fun _ h=>by rw [FY.out]at h;cases h)⟩⟩
       case measure=>simp [intOf];omega
      have FY:=Qq (Y4.out.trans tS);clear tS;have oO:=Qq (show Pd st m t (q++ [k]) (ps++ [i])from iY.out.push eD hlt2 mG.out FY.out);obtain⟨D2,nD2,rQ,ZZ,R4,wW⟩:=HN.out.map;have L3:=Qq R4;have K4:=Qq wW;have PJ:=Qq rQ;have SA:=Qvl (Ht (a:=i) (by omega));have vG:=Ht (a:=k) (by omega);have RP:0 < q.length:=by omega
      have nR:=Qq iY.out.len;clear R4 wW;go_upto_region 19 with(at_mapUpdate;refine wpList_mapUpdate_own _ rfl _ _ _ 178 rfl 3 3 Ud Tryz.underlying178 _ (w.heap.size+1) nD2 D2 rfl rQ (by unfold maxLen;omega) _ _ _ rfl rfl wJ _ [] SA ?_;intro w6 qK wV);have LA:=Qq wV;have cR:=Qq (show Uk w6 (w.heap.size+1) (q++ [k]) (ps++ [i])from Uk.put PJ.out.isMap ZZ L3.out K4.out RP nR.out mG.out qK);have hH:w.heap.size+2<=w6.heap.size:=by
       have h1:=cR.out.lt;have h2:=HN.out.row6 wV;obtain⟨g2,_,_,tD,aE,_⟩:=Un h2 eD rfl;omega
      have GG:=Qq (HN.out.row6 wV);clear rQ qK wV SA wJ;have xS:q.length+1<=maxLen:=by unfold maxLen;omega
      have xR:(q.length+1)*8<=140737488355328:=by omega
      go_wp2_with(at_builtin;refine wpList_append_own_at _ rfl _ _ 36 rfl (w.heap.size+2) 3 iI (.int .i64 0) 1 8 Tryz.underlying36 pO vO vN vM rfl (by decide) _ q.length (Gh q) rfl (Zk GG.out (Qz.alloc _)) ⟨_,0,none⟩ 1 1 [.int .i64 (k:Int)] rfl rfl (Zt _ _ _ (by simp)) (fun u hu=>by rw [List.mem_singleton.1 hu];rfl) xS xR (by simp;omega) ?_);intro v7 w7 zW zX _ zH;have qZ:=Qq (Tk.push HN.out LA.out cR.out (Qz.alloc _) zW zX);obtain⟨A7,c7,rfl⟩:=Qs zW;clear zW zX zH;obtain⟨b0,b1,b2,b3,b4,bl⟩:=Qj5 qZ.out.box;obtain⟨_,e1,hyb7,y0⟩:=Xx (fV.out.ext qZ.out.ext) (show k < c.y.length by rw [V7.out];exact hlt2)
      injection e1 with e1;subst e1;have KL:=Qq (show yy k=c.y.getD k false by rw [V6.out]);obtain⟨yk,N0⟩:∃x,x=c.y.getD k false:=⟨_,rfl⟩;rw [<-N0]at y0 KL;clear N0;have Z5:=Qq (show ∀u,u∈q.tail->u∈(q++ [k]).tail from fun u hu=>by rw [Mh RP];exact List.mem_append_left _ hu);have K1:=Qq (show k∈(q++ [k]).tail by rw [Mh RP];simp);cases yk
      case true =>
       go_wp2_with fail;go_roundw
       case rel=>exact⟨k+1,by go_num,by omega,Qq ⟨q++ [k],ps++ [i],qZ.out,oO.out,by simp;omega,(fun u hu=>by
        rw [Mh RP]at hu;rcases List.mem_append.1 hu with hu|hu
        ·exact cI.out u hu
        ·rw [List.mem_singleton.1 hu];exact KL.out),(fun j hj u hu=>by
        rw [Re (by omega)]at hu;exact Z5.out u (tV.out j hj u hu)),(fun u hu h=>by
        rw [Re eD]at h;by_cases e:u=k
        ·subst e;exact K1.out
        exact Z5.out u (iX.out u hu (fun e'=>absurd e' e) h))⟩⟩
       case measure=>simp [intOf];omega
      case false =>
       have WF:=Qq (show ∃u,Vi (fun a b=>st a b=true) t u/\yy u=false from⟨k,by
        have:=oO.out.reach q.length (by omega) (by simp);rw [Ti]at this;exact this,KL.out⟩)
       have RQ:q.length<=4097:=by omega
       go_wp2_with fail;clear y0 b0 b1 b2 b3 b4;go_loopw [16,17] (fun vl vk wr=>∃kk:Nat,vk=.int .i64 (kk:Int)/\kk<=q.length/\Hid (∃ls,wr.ownsRow w7.heap.size 3 1 vl ls.length (Gh ls)/\Qg w7 wr/\Ea st ((q++ [k]).getD kk 0) ls/\(ls= []->kk=q.length)/\(∀u,ls[0]?=some u->u=k)/\ls.length+kk<=q.length)) (fun _ v _=>(intOf v).toNat)
       case atStart=>exact⟨q.length,by go_num,Nat.le_refl _,Qq ⟨[],World.ownsRow_nil _ _ _ _,Qz,trivial,fun _=>rfl,(fun u hu=>by cases hu),by simp⟩⟩
       case round =>
        obtain⟨kk,rfl,hkk,zY⟩:=hrel;obtain⟨ls,wG,vD,cC,gK,NF,KE⟩:=zY.out;have aZ:=Qq wG;have aP:=Qq vD;have WR:=Qq cC;have fN:=Qq gK;have lN:=Qq NF;have rM:=Qq (qZ.out.next vD);obtain⟨Al,cl,rfl⟩:=Qs wG;clear zY wG vD cC gK NF;by_cases aB:0 < kk
        ·have hk0i:(0:Int) < (kk:Int):=by omega
         obtain⟨g2,cap2,wF,tD,aE,kW,tC,qO⟩:=Un (q:=q++ [k]) (n:=q.length+1) (j:=kk) (by have:=qZ.out.row;rw [List.length_append,List.length_singleton]at this;exact this) (by rw [List.length_append,List.length_singleton];omega) (by rw [List.length_append,List.length_singleton]);injection wF with hsl2a _ hsl2b;subst hsl2a hsl2b;unfold maxLen at tC;have hkki:(kk:Int) < ((q.length:Int)+1):=by omega
         have Q4:(kk:Int) < ((q.length+1:Nat):Int):=by omega
         obtain⟨qk,TJ⟩:∃x,x=(q++ [k]).getD kk 0:=⟨_,rfl⟩;obtain⟨pk,dO⟩:∃x,x=(ps++ [i]).getD kk 0:=⟨_,rfl⟩;have PI:=Qq (show pk < kk/\st ((q++ [k]).getD pk 0) qk=true by rw [dO,TJ];exact oO.out.par kk (by omega) (by rw [List.length_append,List.length_singleton];omega));have hqk4:qk < 4096:=by
          have:=oO.out.lt _ (Qv6 (j:=kk) (by omega) (by rw [List.length_append,List.length_singleton];omega));rw [<-TJ]at this;omega
         have hpk1:=PI.out.1;have IE:=Qq (show ∀W,Qg w7 W->∃(D:D0) (n:Nat),W.ownsMap Tryz.prog 3 (plainElem Tryz.prog 3) (w.heap.size+1) n D/\∀z,D.atKey (.int .i64 (qk:Int)) z=.lit (.int .i64 (pk:Int))from fun W hW=>by
          obtain⟨D,n,h1,_,_,h4⟩:=(qZ.out.next hW).map;refine⟨D,n,h1,fun z=> ?_⟩;have:=h4 kk (by omega) (by rw [List.length_append,List.length_singleton];omega) z;rw [<-TJ,<-dO]at this;exact this)
         have IC:=Qq (show Ea st ((q++ [k]).getD pk 0) (ls++ [qk])from Qxy ls qk _ (by rw [TJ];exact WR.out) PI.out.2 rfl);have IK:=Qq (show ∀u,(ls++ [qk])[0]?=some u->u=k from fun u hu=>by
          cases hls:ls with
          |nil =>
           rw [hls]at hu;have e:=fN.out hls;rw [e,Ti]at TJ;simp at hu;omega
          |cons a r =>
           rw [hls]at hu;refine lN.out u ?_;rw [hls]
           simpa using hu)
         rw [<-TJ]at qO;have eI:=(aP.out.cell (p:=⟨g2,kk,none⟩) tD).trans qO;have hkq:=Ro (Ht (a:=qk) (by omega));clear TJ dO;have OB:ls.length+1<=maxLen:=by unfold maxLen;omega
         have hc6:(ls.length+1)*8<=140737488355328:=by omega
         go_upto_region 24 with(at_builtin;refine wpList_append_own_at _ rfl _ _ 36 rfl w7.heap.size 3 iI (.int .i64 0) 1 8 Tryz.underlying36 pO vO vN vM rfl (by decide) _ ls.length (Gh ls) rfl (Zk aZ.out (Qz.alloc _)) ⟨_,0,none⟩ 1 1 [.int .i64 (qk:Int)] rfl rfl (Zt _ _ _ (by simp)) (fun u hu=>by rw [List.mem_singleton.1 hu];rfl) OB hc6 (Qx aP.out.size (by simp)) ?_;intro v9 w9 qJ qN _ aJ);have cJ:=Qq (show Qg w7 w9 from Qg.grown (aP.out.alloc _) qN (fun g hg=>(aZ.out.lt g hg).1));obtain⟨D9,n9,TQ,hk9⟩:=IE.out w9 cJ.out;have EC:=(cJ.out.cell (p:=⟨g2,kk,none⟩) tD).trans qO
         have LT:=Qq qJ;obtain⟨A9,c9,rfl⟩:=Qs qJ;clear qJ qN aJ eI;go_wp2_with(at_lookup;refine wpList_lookup_own_int _ rfl _ _ 178 rfl 3 3 .i64 Ud Tryz.underlying178 Tryz.underlying3 (Ln _) (w.heap.size+1) n9 D9 rfl TQ _ _ rfl hkq ?_;intro cc yL sL;obtain rfl:cc=(pk:Int):=(by have h1:=hk9 (.lit (.int .i64 0));rw [h1]at yL;injection yL with yL;injection yL with _ yL;exact yL.symm);clear yL sL);go_roundw
         case rel=>exact⟨pk,rfl,by omega,Qq ⟨ls++ [qk],by rw [List.length_append,List.length_singleton,Qd2];exact LT.out,cJ.out,IC.out,(fun e=>by simp at e),IK.out,by rw [List.length_append,List.length_singleton];omega⟩⟩
         case measure=>simp [intOf];omega
        obtain rfl:0=kk:=by omega
        have UA:0 < ls.length:=by
         cases hls:ls with
         |nil=>have:=fN.out hls;omega
         |cons a r=>simp
        obtain⟨gl,capl,kV,_,_,_,_,_⟩:=Un aZ.out UA rfl;injection kV with hsl3a _ hsl3b;subst hsl3a hsl3b;have I8:=Qq (show(q++ [k]).getD 0 0=t by rw [Qk,oO.out.head];rfl);have HW:=Qq (show Qg w w7 from qZ.out.ext);go_wp2_with fail;go_ret;refine .inr ⟨_,_,ls,rfl,HW.out.trans aP.out,Kl aZ.out HW.out.size,(fun e=>by rw [e]at UA;simp at UA),by rw [<-I8.out];exact WR.out,(fun u hu=>by rw [lN.out u hu];exact KL.out),WF.out⟩
    obtain rfl:m=k:=by omega
    go_wp2_with fail;go_roundw
    case rel=>exact⟨i+1,by go_num,by omega,Qq ⟨q,ps,nT.out,iY.out,by omega,cI.out,fun j hj u hu=>by
     by_cases e:j < i
     ·exact tV.out j e u hu
     have:j=i:=by omega
     subst this;refine Z2.out u ?_ hu;rw [wL.out,Bool.and_eq_true]at hu;have:=Xd hu.1;rw [<-HM.out]at this;exact this⟩⟩
    case measure=>simp [intOf];omega
  obtain rfl:q.length=i:=by omega
  have fH:=Qq (show ¬∃u,Vi (fun a b=>st a b=true) t u/\yy u=false by
   rintro⟨u,hr,hu⟩;have:=cI.out u (iY.out.closed tV.out hr);rw [hu]at this;cases this)
  go_wp2_with fail;go_ret;exact .inl ⟨rfl,nT.out.ext,fH.out⟩
open Go.Maps (Keyed IsMap Tidy has has_put_same has_put_other atKey_put_same atKey_put_other)
def Uc(w:World)(b:Nat)(l:List Nat):Prop :=
 ∃(D:D0) (n:Nat),w.ownsMap Tryz.prog 3 (plainElem Tryz.prog 4) b n D/\n<=l.length/\∀(u:Nat) (z:D0),D.atKey (.int .i64 (u:Int)) z=if u∈l then .lit (.bool true)else z
theorem Qoz(w:World):(zeroValue 4).run Tryz.prog w=.ok (.bool false) w:=by kernel_rfl
theorem Qgo(b:Bool):(plainElem Tryz.prog 4 (.bool b):Option (D0×List MemPlace))=some (.lit (.bool b),[]):=plainElem_bool Tryz.underlying4 b
theorem Qge {v:Value} {b:Bool} {ps:List MemPlace}(h:(plainElem Tryz.prog 4 v:Option (D0×List MemPlace))=some (.lit (.bool b),ps)):v=.bool b:=by
 unfold plainElem at h;rw [Tryz.underlying4]at h;cases v <;> simp at h;rw [h.1]
section
variable {w w':World} {b:Nat} {l:List Nat}
theorem Uc.made(w:World):Uc (w.alloc (.map #[] 0)) w.heap.size []:=
 ⟨.map [],0,World.ownsMap_made w _ _ _,Nat.zero_le _,fun _u _z=>rfl⟩
theorem Uc.lt(h:Uc w b l):b < w.heap.size:=by
 obtain⟨D,n,h1,_⟩:=h;exact h1.lt
theorem Uc.kept(h:Uc w b l)(hb:w'.heap[b]?=w.heap[b]?):Uc w' b l:=by
 obtain⟨D,n,h1,h2⟩:=h;exact⟨D,n,Qzg h1 hb,h2⟩
theorem Uc.look(h:Uc w b l) {t:Nat}(ht:t<=1000000):(Instr.lookup 96 (.map (some b)) (.int .i64 (t:Int)) false).run Tryz.prog w=.ok (.bool (decide (t∈l))) w:=by
 obtain⟨D,n,h1,_,h3⟩:=h;obtain⟨v,ps,BY,hv⟩:=h1.lookup Ud Tryz.underlying96 (Qoz _) (Qgo false) (Ro (Ht ht));rw [h3]at hv;rw [BY];by_cases hm:t∈l
 ·rw [if_pos hm]at hv;rw [Qge hv,decide_eq_true hm]
 rw [if_neg hm]at hv;rw [Qge hv,decide_eq_false hm]
theorem Uc.put {D:D0} {n t:Nat}(hD:IsMap D)(hn:n<=l.length)(ha:∀(u:Nat) (z:D0),D.atKey (.int .i64 (u:Int)) z=if u∈l then .lit (.bool true)else z)
 (h:w'.ownsMap Tryz.prog 3 (plainElem Tryz.prog 4) b (n+1) (D.put (.int .i64 (t:Int)) (.lit (.bool true)))):Uc w' b (l++ [t]):=by
 have wJ:WideAt.IsKeyLit (.int .i64 (t:Int)):=trivial;refine⟨_,_,h,by simp;omega,fun u z=> ?_⟩;by_cases e:u=t
 ·subst e;rw [atKey_put_same hD wJ,if_pos (by simp)]
 have zQ:(Lit.int .i64 (u:Int))≠.int .i64 (t:Int):=fun k=>e (by injection k with _ k;omega)
 rw [atKey_put_other zQ,ha u z];by_cases hm:u∈l
 ·rw [if_pos hm,if_pos (List.mem_append_left _ hm)]
 rw [if_neg hm,if_neg (by simp [hm,e])]
end
theorem Qm4 {w w4:World} {p:Addr}(h:w4.heap[p.block]?=w.heap[p.block]?):w4.cell? p=w.cell? p:=by
 unfold World.cell?;rw [h]
structure Gt (w0 wr:World) (v:Value) (l:List Nat):Prop where
 ext:Qg w0 wr
 map:Uc wr w0.heap.size l
 box:wr.heap[w0.heap.size+1]?=some (.cells #[v,.map (some w0.heap.size)] 98 (0,0))
 row:wr.ownsRow (w0.heap.size+2) 3 1 v l.length (Gh l)
section
variable {w0 wr W:World} {v:Value} {l:List Nat}
theorem Gt.start(w0:World):Gt w0 ((w0.alloc (.map #[] 0)).alloc (.cells #[.slice none 0 0,.map (some w0.heap.size)] 98)) (.slice none 0 0) []:=
 ⟨(Qz.alloc _).alloc _,(Uc.made w0).kept ((Qz.alloc _).block (by simp)),by
   have:=heap_alloc_new (w0.alloc (.map #[] 0)) (.cells #[.slice none 0 0,.map (some w0.heap.size)] 98)
   simpa using this,World.ownsRow_nil _ _ _ _⟩
theorem Gt.next(h:Gt w0 wr v l)(he:Qg wr W):Gt w0 W v l :=
 ⟨h.ext.trans he,h.map.kept (he.block h.map.lt),(he.block (Qn h.box)).trans h.box,Zk h.row he⟩
theorem Gt.cells(h:Gt w0 wr v l):wr.cell? ⟨w0.heap.size+1,0,none⟩=some v/\wr.cell? ⟨w0.heap.size+1,1,none⟩=some (.map (some w0.heap.size))/\w0.heap.size+1 < wr.heap.size :=
 ⟨by simp [World.cell?,h.box],by simp [World.cell?,h.box],Qn h.box⟩
structure Lt (w0 w:World) (v:Value) (w':World) (v':Value):Prop where
 size:w.heap.size<=w'.heap.size
 blk:∀k,k < w.heap.size->k≠w0.heap.size->k≠w0.heap.size+1->v.ownBlock≠some k->w'.heap[k]?=w.heap[k]?
 own:v'.ownBlock=v.ownBlock\/∃k,v'.ownBlock=some k/\w.heap.size<=k
theorem Lt.of {w w':World}(he:Qg w w'):Lt w0 w v w' v:=⟨he.size,fun _ hk _ _ _=>he.block hk,.inl rfl⟩
theorem Lt.trans {w w' w'':World} {v' v'':Value}(h:Lt w0 w v w' v')(h2:Lt w0 w' v' w'' v''):Lt w0 w v w'' v'':=by
 have s1:=h.size;have s2:=h2.size;refine⟨Qx s1 s2,fun k hk h0 h1 ho=> ?_,?_⟩
 ·rw [h2.blk k (by omega) h0 h1 (fun e=> ?_),h.blk k hk h0 h1 ho];rcases h.own with e2|⟨k2,e2,wW⟩
  ·exact ho (e2▸e)
  rw [e2]at e;injection e with e;omega
 rcases h2.own with e|⟨k,e,hk⟩
 ·rcases h.own with e2|⟨k2,e2,wW⟩
  ·exact .inl (e.trans e2)
  exact .inr ⟨k2,e.trans e2,wW⟩
 exact .inr ⟨k,e,by omega⟩
theorem Gt.box7 {w6 W6 w7:World}(h:Gt w0 wr v l)(lF:wr.grownBy w6 (some w0.heap.size))(he:Qg w6 W6)(uD:W6.grownBy w7 v.ownBlock):
 w7.cell? ⟨w0.heap.size+1,0,none⟩=some v/\w7.frozen? ⟨w0.heap.size+1,0,none⟩=false/\w0.heap.size+1 < w7.heap.size:=by
 have ZR:∀g,v.ownBlock=some g->w0.heap.size+2<=g:=fun g hg=>(h.row.lt g hg).1
 have gN:=Qn h.box;have s6:wr.heap.size<=w6.heap.size:=lF.size;have mT:w7.heap[w0.heap.size+1]?=some (.cells #[v,.map (some w0.heap.size)] 98 (0,0)):=by
  rw [uD.block _ (Qy gN (Qx s6 he.size)) (fun e=>by have:=ZR _ e.symm;omega),he.block (Qy gN s6),lF.block _ gN (fun e=>by injection e with e;omega)];exact h.box
 exact⟨by simp [World.cell?,mT],by simp [World.frozen?,mT],Qn mT⟩
theorem Gt.push {w6 W6 w7:World} {v7:Value} {t:Nat}(h:Gt w0 wr v l)(lF:wr.grownBy w6 (some w0.heap.size))(lA:Uc w6 w0.heap.size (l++ [t]))(he:Qg w6 W6)
 (xN:w7.ownsRow (w0.heap.size+2) 3 1 v7 (l.length+1) (Gh l++ [.int .i64 (t:Int)]))(uD:W6.grownBy w7 v.ownBlock)(eQ:v7.ownBlock=v.ownBlock\/v7.ownBlock=some W6.heap.size):
 Gt w0 (w7.setCell ⟨w0.heap.size+1,0,none⟩ v7) v7 (l++ [t])/\Lt w0 wr v (w7.setCell ⟨w0.heap.size+1,0,none⟩ v7) v7:=by
 have ZR:∀g,v.ownBlock=some g->w0.heap.size+2<=g:=fun g hg=>(h.row.lt g hg).1
 have qA:∀g,v7.ownBlock=some g->w0.heap.size+2<=g:=fun g hg=>(xN.lt g hg).1
 have gN:=Qn h.box;have s6:wr.heap.size<=w6.heap.size:=lF.size;have kO:Qg w0 w7:=((h.ext.grown lF (fun k hk=>by injection hk with hk;omega)).trans he).grown uD (fun g hg=>by have:=ZR g hg;omega);have xA:∀k,k≠w0.heap.size+1->(w7.setCell ⟨w0.heap.size+1,0,none⟩ v7).heap[k]?=w7.heap[k]?:=fun k e=>Below.heap_setCell _ _ _ _ e
 have mT:w7.heap[w0.heap.size+1]?=some (.cells #[v,.map (some w0.heap.size)] 98 (0,0)):=by
  rw [uD.block _ (Qy gN (Qx s6 he.size)) (fun e=>by have:=ZR _ e.symm;omega),he.block (Qy gN s6),lF.block _ gN (fun e=>by injection e with e;omega)];exact h.box
 have s7:=uD.size;have se:=he.size;have ss:(w7.setCell ⟨w0.heap.size+1,0,none⟩ v7).heap.size=w7.heap.size:=by simp [World.setCell]
 refine⟨⟨kO.setCell (p:=⟨w0.heap.size+1,0,none⟩) (by show w0.heap.size<=w0.heap.size+1;omega) _,?_,?_,?_⟩,⟨by omega,fun k hk h0 h1 ho=> ?_,?_⟩⟩
 ·refine lA.kept ?_;rw [xA _ (by omega),uD.block _ (Qy lA.lt he.size) (fun e=>by have:=ZR _ e.symm;omega),he.block lA.lt]
 ·simp only [World.setCell,Array.getElem?_modify,mT,if_true,Option.map_some];simp
 ·have e:Gh (l++ [t])=Gh l++ [.int .i64 (t:Int)]:=Qd2 l t;rw [e,List.length_append,List.length_singleton];exact Zm xN fun g hg=>xA g (by have:=qA g hg;omega)
 ·rw [xA k h1,uD.block k (by omega) (fun e=>ho e.symm),he.block (by omega),lF.block k hk (fun e=>h0 (by injection e))]
 rcases eQ with e|e
 ·exact .inl e
 exact .inr ⟨_,e,by omega⟩
theorem Gt.row6 {w6:World}(h:Gt w0 wr v l)(lF:wr.grownBy w6 (some w0.heap.size)):w6.ownsRow (w0.heap.size+2) 3 1 v l.length (Gh l):=
 Zm h.row fun g hg=>lF.block g (h.row.lt g hg).2 (fun e=>by injection e with e;have:=(h.row.lt g hg).1;omega)
end
def Zz1(w0 w:World)(v:Value)(l:List Nat)(e:Ending)(w':World):Prop:=(∃r,e=.returned r)/\∃v',Gt w0 w' v' l/\Lt w0 w v w' v'
theorem Qx1(w0 w:World)(v:Value)(l:List Nat)(t:Int)(h:Gt w0 w v l)(ht:t<=4096)(hl:l.length<=4096):
 Calls Tryz.prog 64 #[.pointer (some ⟨w0.heap.size+1,0,none⟩),.int .i64 t] w (Zz1 w0 w v (Nh l t)):=by
 have H:=Qq h;obtain⟨e0,e1,el⟩:=h.cells;by_cases h0:0<=t
 ·obtain⟨k,rfl⟩:=Int.eq_ofNat_of_zero_le h0;have eA:=h.map.look (t:=k) (by omega);by_cases hm:k∈l
  ·have HA:=Qq (show Nh l (k:Int)=l from Qr7 (fun e=>e.2 (by rwa [Int.toNat_natCast])));rw [decide_eq_true hm]at eA;clear h hm;go_enter Tryz.func64,Tryz.ntmps64;go_wp2_with fail;refine bodyPost_end (v:=.tuple #[]) (results_none rfl _ _ _) rfl ?_;exact⟨⟨_,rfl⟩,_,by rw [HA.out];exact H.out,Lt.of Qz⟩
  have HA:=Qq (show Nh l (k:Int)=l++ [k]from Qay h0 (by rwa [Int.toNat_natCast]));rw [decide_eq_false hm]at eA;obtain⟨D,n,xN,hn,yL⟩:=h.map;have kE:=Qq yL;have PK:=Qq xN;have wJ:=Ro (Ht (a:=k) (by omega));obtain⟨iI,pO,vO,vN,vM⟩:=info_parts Qjc;clear h hm yL;go_enter Tryz.func64,Tryz.ntmps64;go_upto_region 2 with(at_mapUpdate;refine wpList_mapUpdate_own _ rfl _ _ _ 96 rfl 3 4 Ud Tryz.underlying96 _ w0.heap.size n D rfl xN (by unfold maxLen;omega) _ _ _ rfl rfl wJ _ [] (Qgo true) ?_;intro w6 qK wV);have LA:=Qq wV;have cR:=Qq (show Uc w6 w0.heap.size (l++ [k])from Uc.put PK.out.isMap hn kE.out qK)
  have GG:=Qq (H.out.row6 wV);have P0:w0.heap.size+1 < w6.heap.size:=Qy el wV.size;have e06:w6.cell? ⟨w0.heap.size+1,0,none⟩=some v:=(Qm4 (p:=⟨w0.heap.size+1,0,none⟩) (wV.block _ el (by simp))).trans e0;obtain⟨A,c,rfl⟩:=Qs H.out.row;clear xN qK wV wJ e0 e1 eA hn;have xS:l.length+1<=maxLen:=by unfold maxLen;omega
  have xR:(l.length+1)*8<=140737488355328:=by omega
  go_wp2_with(at_builtin;refine wpList_append_own_at _ rfl _ _ 36 rfl (w0.heap.size+2) 3 iI (.int .i64 0) 1 8 Tryz.underlying36 pO vO vN vM rfl (by decide) _ l.length (Gh l) rfl (Zk GG.out (Qz.alloc _)) ⟨_,0,none⟩ 1 1 [.int .i64 (k:Int)] rfl rfl (Zt _ _ _ (by simp)) (fun u hu=>by rw [List.mem_singleton.1 hu];rfl) xS xR (by simp;omega) ?_);intro v7 w7 zW zX sQ zH;have qZ:=Qq (Gt.push H.out LA.out cR.out (Qz.alloc _) zW zX (zH.imp_right fun h=>by rw [h];simp));obtain⟨f0,f1,f2⟩:=H.out.box7 LA.out (Qz.alloc _) zX;obtain⟨A7,c7,rfl⟩:=Qs zW
  clear zH zW zX sQ;go_wp2_with fail;refine bodyPost_end (v:=.tuple #[]) (results_none rfl _ _ _) rfl ?_;exact⟨⟨_,rfl⟩,_,by rw [HA.out];exact qZ.out.1,qZ.out.2⟩
 have HA:=Qq (show Nh l t=l from Qr7 (fun e=>h0 e.1));clear h;go_enter Tryz.func64,Tryz.ntmps64;go_wp2_with fail;refine bodyPost_end (v:=.tuple #[]) (results_none rfl _ _ _) rfl ?_;exact⟨⟨_,rfl⟩,_,by rw [HA.out];exact H.out,Lt.of Qz⟩
def Wa(lg:Int)(ks:List Kn)(a:Int)(t:Nat)(wanted:Nat->Bool)(u:Nat):Bool:=wanted u&&Jz lg ks a t u
theorem Zzt {lg:Int} {ks:List Kn} {al:List Bool} {a:Int} {t k:Nat} {wanted:Nat->Bool} {l:List Nat}(hk:k < l.length)(h:Wa lg ks a t wanted (l.getD k 0)=true):El lg ks al a t wanted l=l:=by
 unfold El;rw [if_pos];rw [List.any_eq_true];exact⟨l.getD k 0,by rw [Qk,Qv hk];exact List.getElem_mem _,h⟩
theorem Qw6 {lg:Int} {ks:List Kn} {al:List Bool} {a:Int} {t:Nat} {wanted:Nat->Bool} {l:List Nat}(h:∀k,k < l.length->Wa lg ks a t wanted (l.getD k 0)=false):El lg ks al a t wanted l=Nh l (Xa lg ks al a t wanted):=by
 unfold El;rw [if_neg];rw [Bool.not_eq_true,List.any_eq_false];intro u hu;obtain⟨k,hk,e⟩:=List.getElem_of_mem hu;have:=h k hk;rw [Qk,Qv hk,Option.getD_some,e]at this;show ¬Wa lg ks a t wanted u=true;rw [this];simp
theorem Qi6 {lg:Int} {ks:List Kn} {al:List Bool} {a:Int} {t:Nat} {wanted:Nat->Bool}(h:al.length<=4096):Xa lg ks al a t wanted<=4096:=by
 unfold Xa;cases e:(List.range al.length).find? (Xe lg ks al a t wanted)with
 |none=>show(-1:Int)<=4096;omega
 |some k =>
  obtain⟨_,h2,_⟩:=List.find?_range_eq_some.1 e;have:=List.mem_range.1 h2;show(k:Int)<=4096;omega
theorem Qvj(b:Nat)(lg:Int)(base:List (List Nd))(root:List Bool)(ks:List Kn)(cs:List Cm)(alive:List Bool)(a:Int)(t:Nat)(wanted:Nat->Bool)(g:Nat)(lb:Array Value)(eg:∀args w,(callFunc g args).run Tryz.prog w=.ok (.enter g args) w)(w0 w:World)(v:Value)(l:List Nat)
 (hE:Hw w b lg base root ks cs alive)(yA:0<=lg/\lg<=6)(ht:t < 18446744073709551616)(hm:alive.length<=4096)(rG:∀k∈ks,k.place < 64/\alive.length<=k.holds.length)
 (hS:Gt w0 w v l)(hl:l.length<=4096)(zI:∀u∈l,u < alive.length)
 (hw:∀(W:World) (u:Nat),u < alive.length->Qg w W->Calls Tryz.prog g (#[.int .i64 (u:Int)]++lb) W fun e w'=>e=.returned (.bool (wanted u))/\Qg W w'):
 Calls Tryz.prog 144 #[.pointer (some ⟨b,0,none⟩),.pointer (some ⟨w0.heap.size+1,0,none⟩),.int .i64 a,.int .u64 (t:Int),.func (.func g) #[] lb] w (Zz1 w0 w v (El lg ks alive a t wanted l)):=by
 have HE:=Qq hE;have tG:=Qq rG;have HW:=Qq hw;have HS:=Qq hS;have fL:=Qq zI;obtain⟨e0,e1,el⟩:=hS.cells;obtain⟨A,c,rfl⟩:=Qs hS.row;clear hE rG hw hS zI e1;go_enter Tryz.func144,Tryz.ntmps144;go_wp2_with fail;clear e0;go_loopw [17] (fun v wr=>∃k:Nat,v=.int .i64 (k:Int)/\k<=l.length/\Hid (Qg w wr/\∀j,j < k->Wa lg ks a t wanted (l.getD j 0)=false)) (fun v _=>l.length - (intOf v).toNat)
 case atStart=>exact⟨0,rfl,Nat.zero_le _,Qq ⟨Qz,fun j hj=>absurd hj (by omega)⟩⟩
 case round =>
  obtain⟨k,rfl,hk,zY⟩:=hrel;have HX:=Qq zY.out.1;have HJ:=Qq zY.out.2;clear zY;by_cases hlt2:k < l.length
  ·have yT:(k:Int) < (l.length:Int):=by omega
   have wP:=Qq (HS.out.next HX.out);obtain⟨g2,cap2,wF,tD,_,kW,tC,a0⟩:=Un wP.out.row hlt2 rfl;injection wF with hsl2a _ hsl2b;subst hsl2a hsl2b;unfold maxLen at tC;have yB:=Qq (show Wa lg ks a t wanted (l.getD k 0)=false->∀j,j < k+1->Wa lg ks a t wanted (l.getD j 0)=false from fun h j hj=>by
    by_cases e:j < k
    ·exact HJ.out j e
    have:j=k:=by omega
    subst this;exact h)
   have oC:l.getD k 0∈l:=by rw [Qk,Qv hlt2];exact List.getElem_mem _
   have qH:=fL.out _ oC;have QF:=Qq (fun(h:Wa lg ks a t wanted (l.getD k 0)=true)=>Zzt (al:=alive) hlt2 h);clear oC;obtain⟨u,hu⟩:∃u,u=l.getD k 0:=⟨_,rfl⟩;rw [<-hu]at a0 qH yB QF;have HP:=Qq (show Wa lg ks a t wanted u=(wanted u&&Jz lg ks a t u)from rfl);have nO:=Qq (fun W hW=>HW.out W u qH hW);have jV:=Qq (fun W (hW:Qg w W)=>Li b lg base root ks cs alive a t u W (HE.out.ext hW) yA ht (by omega) (fun n hn=>⟨(tG.out n hn).1,Qy qH (tG.out n hn).2⟩));have ZM:IntKind.u64.wrap (u:Int)=(u:Int):=by rw [IntKind.wrap_u64];omega
   obtain⟨wk,pG⟩:∃x,x=wanted u:=⟨_,rfl⟩;obtain⟨pk,dO⟩:∃x,x=Jz lg ks a t u:=⟨_,rfl⟩;rw [<-pG,<-dO]at HP;rw [<-pG]at nO;rw [<-dO]at jV;clear pG dO hu;cases wk
   ·go_wp2_with fail;refine(nO.out _ HX.out).mono ?_;rintro e w2 ⟨rfl,hx⟩;have zS:=Qq hx;clear hx;go_wp2_with fail;go_roundw
    case rel=>exact⟨k+1,by go_num,by omega,Qq ⟨HX.out.trans zS.out,yB.out (by rw [HP.out];rfl)⟩⟩
    case measure=>simp [intOf];omega
   go_wp2_with fail;refine(nO.out _ HX.out).mono ?_;rintro e w2 ⟨rfl,hx⟩;have zS:=Qq hx;clear hx;go_wp2_with fail;refine(jV.out _ (HX.out.trans zS.out)).mono ?_;rintro e w3 ⟨rfl,hx⟩;have zD:=Qq hx;clear hx;cases pk
   ·go_wp2_with fail;go_roundw
    case rel=>exact⟨k+1,by go_num,by omega,Qq ⟨HX.out.trans (zS.out.trans zD.out),yB.out (by rw [HP.out];rfl)⟩⟩
    case measure=>simp [intOf];omega
   have HR:=Qq (QF.out (by rw [HP.out];rfl));go_wp2_with fail;exact bodyPost_ret (v:=.tuple #[]) (results_none rfl _ _ _) rfl ⟨⟨_,rfl⟩,_,by rw [HR.out];exact HS.out.next (HX.out.trans (zS.out.trans zD.out)),Lt.of (HX.out.trans (zS.out.trans zD.out))⟩
  obtain rfl:l.length=k:=by omega
  have HR:=Qq (Qw6 (al:=alive) HJ.out);have wP:=Qq (HS.out.next HX.out);go_wp2_with fail;refine(Qv7 b lg base root ks cs alive a t wanted g lb eg _ (HE.out.ext HX.out) yA ht hm tG.out (fun W u hu hW=>HW.out W u hu (HX.out.trans hW))).mono ?_;rintro e w2 ⟨rfl,hx⟩;have qT:=Qq (wP.out.next hx);have zD:=Qq (HX.out.trans hx);have P9:=Qi6 (lg:=lg) (ks:=ks) (a:=a) (t:=t) (wanted:=wanted) hm;clear hx;obtain⟨z,hz⟩:∃z,z=Xa lg ks alive a t wanted:=⟨_,rfl⟩;rw [<-hz]at HR P9⊢;clear hz;go_wp2_with fail;refine(Qx1 w0 _ _ l z qT.out P9 hl).mono ?_;rintro e w3 ⟨⟨r,rfl⟩,v',hs,tB⟩;have iP:=Qq hs
  have yN:=Qq ((Lt.of zD.out).trans tB);clear hs tB;go_wp2_with fail;exact bodyPost_end (v:=.tuple #[]) (results_none rfl _ _ _) rfl ⟨⟨_,rfl⟩,_,by rw [HR.out];exact iP.out,yN.out⟩
theorem Qoe {ks:List Kn} {p:Kn->Bool} {k:Nat} {n:Kn}(hn:ks[k]?=some n)(h:p n=true):ks.any p=true:=by
 rw [List.any_eq_true];exact⟨n,List.mem_of_getElem? hn,h⟩
theorem Qak {ks:List Kn} {p:Kn->Bool}(h:∀(j:Nat) (n:Kn),j < ks.length->ks[j]?=some n->p n=false):ks.any p=false:=by
 rw [List.any_eq_false];intro n hn;obtain⟨j,hj,e⟩:=List.getElem_of_mem hn;rw [h j n hj (by rw [Qv hj,e])];simp
def Zze(ks:List Kn)(p:Kn->Bool)(w:World)(e:Ending)(w':World):Prop:=∃z:Int,e=.returned (.int .i64 z)/\Qg w w'/\decide (0<=z)=ks.any p
theorem Qlh(B:Nat)(n:Kn)(z:Int)(Ah:Option Addr)(ch:Nat)(w:World)(hB:w.cell? ⟨B,0,none⟩=some (.int .i64 z))(YQ:B < w.heap.size):
 Calls Tryz.prog 135 (#[.agg #[.int .i64 n.agent,.int .i64 (n.place:Int),.slice Ah n.holds.length ch]]++ #[.pointer (some ⟨B,0,none⟩)]) w fun e w'=>e=.returned (.bool (n.agent==z))/\Qg w w':=by
 show Calls Tryz.prog 135 #[.agg #[.int .i64 n.agent,.int .i64 (n.place:Int),.slice Ah n.holds.length ch],.pointer (some ⟨B,0,none⟩)] w _;go_enter Tryz.func135,Tryz.ntmps135;go_wp2_with fail;go_ret;exact⟨rfl,Qz.alloc _⟩
theorem Qlt(v:Value)(ks:List Kn)(z:Int)(B:Nat)(w:World)(hk:Kns w v ks)(hB:w.cell? ⟨B,0,none⟩=some (.int .i64 z))(YQ:B < w.heap.size):
 Calls Tryz.prog 191 #[v,.func (.func 135) #[] #[.pointer (some ⟨B,0,none⟩)]] w (Zze ks (fun k=>k.agent==z) w):=by
 obtain⟨A,c,rfl,uS⟩:=hk;have HK:=Qq uS;have JZ:=uS.1;have zU:=uS.2.1;unfold maxLen at zU;have D0:=Qq hB;clear uS hB;go_enter Tryz.func191,Tryz.ntmps191;go_wp2_with fail;go_loopw [8] (fun v wr=>∃k:Nat,v=.int .i64 (k:Int)/\k<=ks.length/\Hid (Qg w wr/\∀(j:Nat) (n:Kn),j < k->ks[j]?=some n->(n.agent==z)=false)) (fun v _=>ks.length - (intOf v).toNat)
 case atStart=>exact⟨0,rfl,Nat.zero_le _,Qq ⟨Qz,fun j n hj=>absurd hj (by omega)⟩⟩
 case round =>
  obtain⟨k,rfl,hk,zY⟩:=hrel;have HX:=Qq zY.out.1;have HJ:=Qq zY.out.2;clear zY;by_cases hlt2:k < ks.length
  ·have yT:(k:Int) < (ks.length:Int):=by omega
   obtain⟨n,hn⟩:∃n,ks[k]?=some n:=⟨_,Qv hlt2⟩;obtain⟨ad,rfl,zA,yL⟩:=Qz8 HK.out hn;obtain⟨vh,c0,c1,c2,rK⟩:=yL.ext HX.out (Qj zA);obtain⟨Ah,ch,rfl,_⟩:=rK;have HN:=Qq hn;have HL:=Qq (Qlh B n z Ah ch wr ((HX.out.cell (p:=⟨B,0,none⟩) YQ).trans D0.out) (Qy YQ HX.out.size));have yB:=Qq (show(n.agent==z)=false->∀(j:Nat) (m:Kn),j < k+1->ks[j]?=some m->(m.agent==z)=false from fun hc j m hj hm=>by
    by_cases e:j < k
    ·exact HJ.out j m e hm
    have:j=k:=by omega
    subst this;rw [hn]at hm;injection hm with hm;rw [<-hm];exact hc)
   clear hn yL;cases vZ:n.agent==z
   ·have kF:=Qq vZ;rw [vZ]at HL;clear vZ;go_wp2_with fail;refine HL.out.mono ?_;rintro e w2 ⟨rfl,hx⟩;have zS:=Qq hx;clear hx;go_wp2_with fail;go_roundw
    case rel=>exact⟨k+1,by go_num,by omega,Qq ⟨HX.out.trans zS.out,yB.out kF.out⟩⟩
    case measure=>simp [intOf];omega
   have HE:=Qq (Qoe (p:=fun k=>k.agent==z) HN.out vZ);rw [vZ]at HL;clear vZ;go_wp2_with fail;refine HL.out.mono ?_;rintro e w2 ⟨rfl,hx⟩;have zS:=Qq hx;clear hx;go_wp2_with fail;go_ret;exact⟨(k:Int),rfl,HX.out.trans zS.out,by rw [HE.out];simp⟩
  obtain rfl:ks.length=k:=by omega
  have HE:=Qq (Qak (p:=fun k=>k.agent==z) HJ.out);go_wp2_with fail;go_ret;exact⟨-1,rfl,HX.out,by rw [HE.out];rfl⟩
theorem Qf8(v:Value)(ks:List Kn)(z:Int)(B:Nat)(w:World)(hk:Kns w v ks)(hB:w.cell? ⟨B,0,none⟩=some (.int .i64 z))(YQ:B < w.heap.size):
 Calls Tryz.prog 134 #[v,.func (.func 135) #[] #[.pointer (some ⟨B,0,none⟩)]] w fun e w'=>e=.returned (.bool (ks.any fun k=>k.agent==z))/\Qg w w':=by
 have HK:=Qq hk;have D0:=Qq hB;obtain⟨A,c,rfl,_⟩:=hk;clear hB;go_enter Tryz.func134,Tryz.ntmps134;go_wp2_with fail;refine(Qlt _ ks z B _ HK.out D0.out YQ).mono ?_;rintro e w2 ⟨y,rfl,hx,hy⟩;have HX:=Qq hx;have HY:=Qq hy;clear hx;cases ZG:decide (0<=y)
 ·rw [ZG]at hy;have zI:y < 0:=by have:=of_decide_eq_false ZG;omega
  clear hy ZG;go_wp2_with fail;go_ret;exact⟨by rw [<-HY.out,decide_eq_false (by omega)] <;> rfl,HX.out⟩
 have zI:0<=y:=of_decide_eq_true ZG;clear hy ZG;go_wp2_with fail;go_ret;exact⟨by rw [<-HY.out,decide_eq_true zI] <;> rfl,HX.out⟩
theorem Mq(s k:Nat)(hs:s < 18446744073709551616):(bits .and .u64 ((s:Int) / 2^k) 1==0)= !s.testBit k:=by
 have zI:s / 2^k < 18446744073709551616:=Nat.lt_of_le_of_lt (Nat.div_le_self _ _) hs;rw [Dq,show(1:Int)=((1:Nat):Int)from rfl,bits_and_u64_nat _ 1 zI (by decide),Nat.and_one_is_mod,Tv];rcases Nat.mod_two_eq_zero_or_one (s / 2^k)with h|h <;> rw [h] <;> rfl
theorem Qph {ks:List Kn} {z:Int} {k:Nat} {n:Kn}(hn:ks[k]?=some n)(h:((n.place:Int)==z)=true)(hj:∀(j:Nat) (m:Kn),j < k->ks[j]?=some m->((m.place:Int)==z)=false):ks.find? (fun k=>(k.place:Int)==z)=some n:=by
 rw [List.find?_eq_some_iff_getElem];obtain⟨hk,e⟩:=List.getElem?_eq_some_iff.1 hn;refine⟨h,k,hk,e,fun j jJ=> ?_⟩;have:=hj j ks[j] jJ (List.getElem?_eq_getElem (by omega));rw [this];rfl
theorem Qly {ks:List Kn} {z:Int}(hj:∀(j:Nat) (m:Kn),j < ks.length->ks[j]?=some m->((m.place:Int)==z)=false):ks.find? (fun k=>(k.place:Int)==z)=none:=by
 rw [List.find?_eq_none];intro n hn;obtain⟨j,mC,e⟩:=List.getElem_of_mem hn;rw [hj j n mC (by rw [Qv mC,e])];simp
theorem Qpc {ks:List Cm} {z:Int} {k:Nat} {n:Cm}(hn:ks[k]?=some n)(h:((n.place:Int)==z)=true)(hj:∀(j:Nat) (m:Cm),j < k->ks[j]?=some m->((m.place:Int)==z)=false):ks.find? (fun k=>(k.place:Int)==z)=some n:=by
 rw [List.find?_eq_some_iff_getElem];obtain⟨hk,e⟩:=List.getElem?_eq_some_iff.1 hn;refine⟨h,k,hk,e,fun j jJ=> ?_⟩;have:=hj j ks[j] jJ (List.getElem?_eq_getElem (by omega));rw [this];rfl
theorem Qlj {ks:List Cm} {z:Int}(hj:∀(j:Nat) (m:Cm),j < ks.length->ks[j]?=some m->((m.place:Int)==z)=false):ks.find? (fun k=>(k.place:Int)==z)=none:=by
 rw [List.find?_eq_none];intro n hn;obtain⟨j,mC,e⟩:=List.getElem_of_mem hn;rw [hj j n mC (by rw [Qv mC,e])];simp
theorem Qla(u:Int)(w:World):Calls Tryz.prog 137 (#[.int .i64 u]++ #[]) w fun e w'=>e=.returned (.bool true)/\Qg w w':=by
 show Calls Tryz.prog 137 #[.int .i64 u] w _;go_enter Tryz.func137,Tryz.ntmps137;go_wp2_with fail;go_ret;exact⟨rfl,Qz⟩
theorem Qle(B u:Nat)(Ah:Option Addr)(ch:Nat)(hs:List Bool)(w:World)(hB:w.cell? ⟨B,2,none⟩=some (.slice Ah hs.length ch))(hb:Sn w Ah ch hs)(hu:u < hs.length):
 Calls Tryz.prog 138 (#[.int .i64 (u:Int)]++ #[.pointer (some ⟨B,0,none⟩)]) w fun e w'=>e=.returned (.bool (!hs.getD u false))/\Qg w w':=by
 show Calls Tryz.prog 138 #[.int .i64 (u:Int),.pointer (some ⟨B,0,none⟩)] w _;obtain⟨ah,rfl,_,hc⟩:=Xx hb hu;have h1:=hb.1;have h2:=hb.2.1;unfold maxLen at h2;have hui:(u:Int) < (hs.length:Int):=by omega
 obtain⟨x,hx⟩:∃x,x=hs.getD u false:=⟨_,rfl⟩;rw [<-hx]at hc⊢;clear hx;go_enter Tryz.func138,Tryz.ntmps138;go_wp2_with fail;go_ret;exact⟨rfl,Qz⟩
theorem Qck(b:Nat)(lg:Int)(base:List (List Nd))(root:List Bool)(ks:List Kn)(cs:List Cm)(alive:List Bool)(t:Nat)(num:Int)(w:World)
 (hE:Hw w b lg base root ks cs alive)(yA:0<=lg/\lg<=6)(ht:t < alive.length)(hm:alive.length<=4096)(CN:Vm num)(rG:∀k∈ks,k.place < 64/\alive.length<=k.holds.length)(oU:∀c∈cs,c.place < 64/\c.x.length=alive.length/\c.y.length=alive.length/\0<=c.group/\c.group < 16):
 Calls Tryz.prog 63 #[.pointer (some ⟨b,0,none⟩),.int .u64 (t:Int),.int .i64 num] w fun e w'=>e=.returned (.bool (Vx lg ks cs alive t num))/\Qg w w':=by
 obtain⟨Ab,cb,Ar,cr,Ak,ck,Ac,cc,Aa,ca,d0,d1,d2,d3,d4,d5,xQ,_,_,uS,xK,_⟩:=hE.cells;have HE:=Qq hE;have tG:=Qq rG;have lR:=Qq oU;have HK:=Qq uS;have HC:=Qq xK;have JZ:=uS.1;have zU:=uS.2.1;have wU:=xK.1;have mS:=xK.2.1;unfold maxLen at zU mS;have D3:=Qq d3;have D4:=Qq d4;unfold Vm at CN;by_cases pK:num < 0
 ·have gU:=Qq (show Vx lg ks cs alive t num=((lg==1||lg==5)&&(ks.any (fun k=>k.agent== -1 - num)&&decide (Xa lg ks alive (-1 - num) t (fun _=>true) < 0))) by unfold Vx;rw [decide_eq_true pK];rfl);have cW:=Qq (fun(W:World) (hW:Qg w W) (hB:W.cell? ⟨w.heap.size,0,none⟩=some (.int .i64 (-1 - num))) (hl:w.heap.size < W.heap.size)=>Qf8 (.slice Ak ks.length ck) ks (-1 - num) w.heap.size W ⟨_,_,rfl,HK.out.ext hW⟩ hB hl);have zE:=Qq (fun(W:World) (hW:Qg w W)=>Qv7 b lg base root ks cs alive (-1 - num) t (fun _=>true) 137 #[] (fun _ _=>rfl) W (HE.out.ext hW) yA (by omega) hm tG.out (fun W u _ _=>Qla (u:Int) W))
  clear hE uS xK rG oU d1 d2 d4 d5 HC D4 D3 wU mS;obtain⟨an,EK⟩:∃x,x=ks.any (fun k=>k.agent== -1 - num):=⟨_,rfl⟩;obtain⟨nx,rC⟩:∃x,x=Xa lg ks alive (-1 - num) t (fun _=>true):=⟨_,rfl⟩;rw [<-EK,<-rC]at gU;rw [<-EK]at cW;rw [<-rC]at zE;clear EK rC;cases h1:lg==1
  ·cases h5:lg==5
   ·skip
    have HS:=Qq (show(lg==1||lg==5)=false by rw [h1,h5];rfl);go_enter Tryz.func63,Tryz.ntmps63;go_wp2_with fail;refine(cW.out _ ((Qg.refl w).alloc (.cells #[.int .i64 (-1 - num)] 3)) (by simp) (by simp)).mono ?_;rintro e w2 ⟨rfl,zT⟩;have zS:=Qq (((Qg.refl w).alloc (.cells #[.int .i64 (-1 - num)] 3)).trans zT);have vL:=(zT.cell (p:=⟨w.heap.size,0,none⟩) (by simp)).trans (show(w.alloc (.cells #[.int .i64 (-1 - num)] 3)).cell? ⟨w.heap.size,0,none⟩=some (.int .i64 (-1 - num)) by simp);clear zT;go_wp2_with fail;go_ret;exact⟨by rw [gU.out,HS.out] <;> rfl,zS.out⟩
   skip
   have HS:=Qq (show(lg==1||lg==5)=true by rw [h1,h5];rfl);go_enter Tryz.func63,Tryz.ntmps63;go_wp2_with fail;refine(cW.out _ ((Qg.refl w).alloc (.cells #[.int .i64 (-1 - num)] 3)) (by simp) (by simp)).mono ?_;rintro e w2 ⟨rfl,zT⟩;have zS:=Qq (((Qg.refl w).alloc (.cells #[.int .i64 (-1 - num)] 3)).trans zT);have vL:=(zT.cell (p:=⟨w.heap.size,0,none⟩) (by simp)).trans (show(w.alloc (.cells #[.int .i64 (-1 - num)] 3)).cell? ⟨w.heap.size,0,none⟩=some (.int .i64 (-1 - num)) by simp);clear zT;cases an
   ·go_wp2_with fail;go_ret;exact⟨by rw [gU.out,HS.out] <;> rfl,zS.out⟩
   go_wp2_with fail;refine(zE.out _ zS.out).mono ?_;rintro e w3 ⟨rfl,zF⟩;have zD:=Qq (zS.out.trans zF);clear zF;by_cases rC:nx < 0
   ·have HD:=Qq (decide_eq_true rC);go_wp2_with fail;go_ret;exact⟨by rw [gU.out,HS.out,HD.out] <;> rfl,zD.out⟩
   have HD:=Qq (decide_eq_false rC);go_wp2_with fail;go_ret;exact⟨by rw [gU.out,HS.out,HD.out] <;> rfl,zD.out⟩
  skip
  have HS:=Qq (show(lg==1||lg==5)=true by rw [h1];rfl);go_enter Tryz.func63,Tryz.ntmps63;go_wp2_with fail;refine(cW.out _ ((Qg.refl w).alloc (.cells #[.int .i64 (-1 - num)] 3)) (by simp) (by simp)).mono ?_;rintro e w2 ⟨rfl,zT⟩;have zS:=Qq (((Qg.refl w).alloc (.cells #[.int .i64 (-1 - num)] 3)).trans zT);have vL:=(zT.cell (p:=⟨w.heap.size,0,none⟩) (by simp)).trans (show(w.alloc (.cells #[.int .i64 (-1 - num)] 3)).cell? ⟨w.heap.size,0,none⟩=some (.int .i64 (-1 - num)) by simp);clear zT;cases an
  ·go_wp2_with fail;go_ret;exact⟨by rw [gU.out,HS.out] <;> rfl,zS.out⟩
  go_wp2_with fail;refine(zE.out _ zS.out).mono ?_;rintro e w3 ⟨rfl,zF⟩;have zD:=Qq (zS.out.trans zF);clear zF;by_cases rC:nx < 0
  ·have HD:=Qq (decide_eq_true rC);go_wp2_with fail;go_ret;exact⟨by rw [gU.out,HS.out,HD.out] <;> rfl,zD.out⟩
  have HD:=Qq (decide_eq_false rC);go_wp2_with fail;go_ret;exact⟨by rw [gU.out,HS.out,HD.out] <;> rfl,zD.out⟩
 obtain⟨nn,uN⟩:=Int.eq_ofNat_of_zero_le (show 0<=num by omega);subst uN;have gU:=Qq (decide_eq_false pK);clear hE uS xK rG oU d0 d1 d2 d5 pK;go_enter Tryz.func63,Tryz.ntmps63;go_wp2_with fail;clear d3 d4;go_loopw [52] (fun v wr=>∃k:Nat,v=.int .i64 (k:Int)/\k<=ks.length/\Hid (Qg w wr/\∀(j:Nat) (m:Kn),j < k->ks[j]?=some m->((m.place:Int)==(nn:Int))=false)) (fun v _=>ks.length - (intOf v).toNat)
 case atStart=>exact⟨0,rfl,Nat.zero_le _,Qq ⟨Qz,fun j m hj=>absurd hj (by omega)⟩⟩
 case round =>
  obtain⟨k,rfl,hk,zY⟩:=hrel;have HX:=Qq zY.out.1;have HJ:=Qq zY.out.2;clear zY;by_cases hlt2:k < ks.length
  ·have yT:(k:Int) < (ks.length:Int):=by omega
   obtain⟨n,hn⟩:∃n,ks[k]?=some n:=⟨_,Qv hlt2⟩;obtain⟨lZ,UJ⟩:=tG.out n (List.mem_of_getElem? hn);obtain⟨ad,rfl,zA,yL⟩:=Qz8 HK.out hn;obtain⟨vh,c0,c1,c2,rK⟩:=yL.ext HX.out (Qj zA);obtain⟨Ah,ch,rfl,rK⟩:=rK;have RB:=Qq rK;have tN:(ad.add (k*3)).block < wr.heap.size:=by rw [Qt];exact Qy zA HX.out.size
   have HN:=Qq hn;have yB:=Qq (show((n.place:Int)==(nn:Int))=false->∀(j:Nat) (m:Kn),j < k+1->ks[j]?=some m->((m.place:Int)==(nn:Int))=false from fun hc j m hj hm=>by
    by_cases e:j < k
    ·exact HJ.out j m e hm
    have:j=k:=by omega
    subst this;rw [hn]at hm;injection hm with hm;rw [<-hm];exact hc)
   clear hn yL rK;obtain⟨wq,vE⟩:∃v,v=wr:=⟨_,rfl⟩;subst vE;by_cases dP:n.place=nn
   ·have mA:((n.place:Int)==(nn:Int))=true:=by rw [dP];simp
    have IU:=Qq (Qph HN.out mA HJ.out);have mI:=Qq (show Vx lg ks cs alive t (nn:Int)=(!t.testBit nn&&decide (Xa lg ks alive n.agent t (fun u=> !n.holds.getD u false) < 0)) by
     unfold Vx;rw [gU.out,cond_false,IU.out]
     rfl)
    have yV:=Mq t nn (by omega);have zL:=Qq (show Qg w (wq.alloc (.cells #[.int .i64 n.agent,.int .i64 (n.place:Int),.slice Ah n.holds.length ch] 136))from HX.out.alloc _);have XH:=Qq (Qx2 (show(wq.alloc (.cells #[.int .i64 n.agent,.int .i64 (n.place:Int),.slice Ah n.holds.length ch] 136)).heap[wq.heap.size]?=some (.cells #[.int .i64 n.agent,.int .i64 (n.place:Int),.slice Ah n.holds.length ch] 136 (0,0))from heap_alloc_new _ _));have zE:=Qq (Qv7 b lg base root ks cs alive n.agent t (fun u=> !n.holds.getD u false) 138 #[.pointer (some ⟨wq.heap.size,0,none⟩)] (fun _ _=>rfl) _ (HE.out.ext zL.out) yA (by omega) hm tG.out (fun W u hu hW=>Qle wq.heap.size u Ah ch n.holds W ((hW.cell (p:=⟨wq.heap.size,2,none⟩) (by simp)).trans XH.out.2.2.1) ((RB.out.ext (Qz.alloc _)).ext hW) (Qy hu UJ)))
    obtain⟨nx,rC⟩:∃x,x=Xa lg ks alive n.agent t (fun u=> !n.holds.getD u false):=⟨_,rfl⟩;rw [<-rC]at mI zE;obtain⟨tb,yC⟩:∃x,x=t.testBit nn:=⟨_,rfl⟩;rw [<-yC]at mI yV;have cA:∀(fn:Fn) (first cap:Array Value) (w:World),(Instr.makeFunc fn first cap).run Tryz.prog w=.ok (.func fn first cap) w:=fun _ _ _ _=>rfl
    clear rC yC dP;cases tb
    ·simp only [Bool.not_false]at yV;go_wp2_with fail;refine zE.out.mono ?_;rintro e w3 ⟨rfl,zF⟩;have zD:=Qq (zL.out.trans zF);clear zF;by_cases rC:nx < 0
     ·have HD:=Qq (decide_eq_true rC);go_wp2_with fail;go_ret;exact⟨by rw [mI.out,HD.out] <;> rfl,zD.out⟩
     have HD:=Qq (decide_eq_false rC);go_wp2_with fail;go_ret;exact⟨by rw [mI.out,HD.out] <;> rfl,zD.out⟩
    simp only [Bool.not_true]at yV;go_wp2_with fail;go_ret;exact⟨by rw [mI.out] <;> rfl,zL.out⟩
   have mA:((n.place:Int)==(nn:Int))=false:=by rw [beq_eq_false_iff_ne];omega
   clear dP;go_wp2_with fail;go_roundw
   case rel=>exact⟨k+1,by go_num,by omega,Qq ⟨HX.out.alloc _,yB.out mA⟩⟩
   case measure=>simp [intOf];omega
  obtain rfl:ks.length=k:=by omega
  have kB:=Qq (Qly HJ.out);have VO:=Qq HX.out;have dw4:=(HX.out.cell (p:=⟨b,4,none⟩) xQ).trans D4.out;clear HJ HX;obtain⟨w1,sY⟩:∃v,v=wr:=⟨_,rfl⟩;subst sY;go_wp2_with fail;clear dw4;go_loopw [80] (fun v wr=>∃k:Nat,v=.int .i64 (k:Int)/\k<=cs.length/\Hid (Qg w wr/\∀(j:Nat) (m:Cm),j < k->cs[j]?=some m->((m.place:Int)==(nn:Int))=false)) (fun v _=>cs.length - (intOf v).toNat)
  case atStart=>exact⟨0,rfl,Nat.zero_le _,Qq ⟨VO.out,fun j m hj=>absurd hj (by omega)⟩⟩
  case round =>
   obtain⟨k,rfl,hk,zY⟩:=hrel;have HX:=Qq zY.out.1;have HJ:=Qq zY.out.2;clear zY;by_cases hlt2:k < cs.length
   ·have yT:(k:Int) < (cs.length:Int):=by omega
    obtain⟨n,hn⟩:∃n,cs[k]?=some n:=⟨_,Qv hlt2⟩;obtain⟨lZ,vD,kN,cF,vK⟩:=lR.out n (List.mem_of_getElem? hn);obtain⟨ad,rfl,zA,yL⟩:=Qb8 HC.out hn;obtain⟨vx,vy,c0,c1,c2,c3,c4,vL,qQ⟩:=yL.ext HX.out (Qj zA);have vW:=Qq vL;have fV:=Qq qQ;obtain⟨Ax,cx,rfl,_⟩:=vL;obtain⟨Ay,cy,rfl,_⟩:=qQ;have tN:(ad.add (k*5)).block < wr.heap.size:=by rw [Qt];exact Qy zA HX.out.size
    have HN:=Qq hn;have yB:=Qq (show((n.place:Int)==(nn:Int))=false->∀(j:Nat) (m:Cm),j < k+1->cs[j]?=some m->((m.place:Int)==(nn:Int))=false from fun hc j m hj hm=>by
     by_cases e:j < k
     ·exact HJ.out j m e hm
     have:j=k:=by omega
     subst this;rw [hn]at hm;injection hm with hm;rw [<-hm];exact hc)
    clear hn yL;obtain⟨wq,vE⟩:∃v,v=wr:=⟨_,rfl⟩;subst vE;by_cases dP:n.place=nn
    ·have mA:((n.place:Int)==(nn:Int))=true:=by rw [dP];simp
     have yW:nn < 64:=by omega
     have IU:=Qq (Qpc HN.out mA HJ.out);have mI:=Qq (show Vx lg ks cs alive t (nn:Int)=(!t.testBit nn&& !Hq lg ks alive n t) by
      unfold Vx;rw [gU.out,cond_false,kB.out,IU.out]
      rfl)
     have yV:=Mq t nn (by omega);have zL:=Qq (show Qg w (wq.alloc (.cells #[.int .i64 (n.place:Int),.int .i64 n.group,.slice Ax n.x.length cx,.slice Ay n.y.length cy,.int .u64 (n.parts:Int)] 138))from HX.out.alloc _);have WI:=Qq (Qnj b lg base root ks cs alive n t (.slice Ax n.x.length cx) (.slice Ay n.y.length cy) _ (HE.out.ext zL.out) yA (by omega) hm tG.out (vW.out.ext (Qz.alloc _)) (fV.out.ext (Qz.alloc _)) vD kN ⟨cF,vK⟩ (by omega));have hq:=fun(w:World) (a:Option Addr) (n c:Nat)=>Lib.run_eql_slice_nil (P:=Tryz.prog) w 36 3 a n c 0 0 Tryz.underlying36
     obtain⟨tb,yC⟩:∃x,x=t.testBit nn:=⟨_,rfl⟩;rw [<-yC]at mI yV;clear yC dP vD kN cF vK;cases tb
     ·simp only [Bool.not_false]at yV;go_wp2_with fail;refine WI.out.mono ?_;rintro e w3 pI;rcases pI with⟨rfl,zF,nH⟩|⟨ad3,c3',ls,rfl,zF,_,_,_,_,ZH⟩
      ·have zD:=Qq (zL.out.trans zF);have HD:=Qq (show Hq lg ks alive n t=false by
        cases h:Hq lg ks alive n t
        ·rfl
        exact absurd (Ek.1 h) nH)
       clear zF nH;go_wp2_with fail;go_ret;exact⟨by rw [mI.out,HD.out] <;> rfl,zD.out⟩
      have zD:=Qq (zL.out.trans zF);have HD:=Qq (show Hq lg ks alive n t=true from Ek.2 ZH);clear zF ZH;go_wp2_with fail;go_ret;exact⟨by rw [mI.out,HD.out] <;> rfl,zD.out⟩
     simp only [Bool.not_true]at yV;go_wp2_with fail;go_ret;exact⟨by rw [mI.out] <;> rfl,zL.out⟩
    have mA:((n.place:Int)==(nn:Int))=false:=by rw [beq_eq_false_iff_ne];omega
    clear dP vD kN cF vK;go_wp2_with fail;go_roundw
    case rel=>exact⟨k+1,by go_num,by omega,Qq ⟨HX.out.alloc _,yB.out mA⟩⟩
    case measure=>simp [intOf];omega
   obtain rfl:cs.length=k:=by omega
   have lQ:=Qq (Qlj HJ.out);have mI:=Qq (show Vx lg ks cs alive t (nn:Int)=false by
    unfold Vx;rw [gU.out,cond_false,kB.out,lQ.out])
   go_wp2_with fail;go_ret;exact⟨by rw [mI.out] <;> rfl,HX.out⟩
end Go.Proofs.YtkmclcmnoicagaaGreatDoor
