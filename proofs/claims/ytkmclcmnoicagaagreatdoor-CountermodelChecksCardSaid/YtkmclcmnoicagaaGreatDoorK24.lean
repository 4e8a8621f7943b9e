/- The engine's choose: what a type requires is selected. -/
import Derived.Test.YtkmclcmnoicagaaGreatDoorK23
namespace Go.Proofs.YtkmclcmnoicagaaGreatDoor
set_option maxRecDepth 100000
set_option maxHeartbeats 128000000
open Go.RowKit
structure SOk (al:List Bool) (l:List Nat):Prop where
 nd:l.Nodup
 al:∀u∈l,al.getD u false=true
theorem SOk.grow {al:List Bool} {l l':List Nat}(h:SOk al l)(g:Ke al l l'):SOk al l':=⟨g.nd h.nd,g.al h.al⟩
theorem SOk.lt {al:List Bool} {l:List Nat}(h:SOk al l):∀u∈l,u < al.length:=fun u hu=>Xg (h.al u hu)
theorem SOk.len {al:List Bool} {l:List Nat}(h:SOk al l):l.length<=al.length:=Hw al.length l h.nd h.lt
theorem Qnf {l ls:List Nat} {j:Nat}(hj:j < ls.length):Db l (ls.take (j+1))=Di (Db l (ls.take j)) ((ls.getD j 0:Nat):Int):=by
 unfold Db;rw [List.take_add_one,Qv hj,List.foldl_append,Qk,Qv hj];rfl
def Zj2(w0:World)(lg:Int)(ks:List Kn)(cs:List Cm)(al:List Bool)(agents:Nat)(l:List Nat)(t:Nat)(e:Ending)(w':World):Prop :=
 (∃r,e=.returned r)/\∃v' l',Gl w0 w' v' l'/\Ke al l l'/\Sel lg ks cs al agents l' t
theorem Qnm(u:Int)(w:World):Calls Tryz.prog 146 (#[.int .i64 u]++ #[]) w fun e w'=>e=.returned (.bool true)/\Ext w w':=by
 show Calls Tryz.prog 146 #[.int .i64 u] w _;go_enter Tryz.func146,Tryz.ntmps146;go_wp2_with fail;go_ret;exact⟨rfl,Qz⟩
theorem Qnl(B u:Nat)(Ah:Option Addr)(ch:Nat)(hs:List Bool)(w:World)(hB:w.cell? ⟨B,2,none⟩=some (.slice Ah hs.length ch))(hb:Rr w Ah ch hs)(hu:u < hs.length):
 Calls Tryz.prog 145 (#[.int .i64 (u:Int)]++ #[.pointer (some ⟨B,0,none⟩)]) w fun e w'=>e=.returned (.bool (!hs.getD u false))/\Ext w w':=by
 show Calls Tryz.prog 145 #[.int .i64 (u:Int),.pointer (some ⟨B,0,none⟩)] w _;obtain⟨ah,rfl,_,hc⟩:=Xv hb hu;have h1:=hb.1;have h2:=hb.2.1;unfold maxLen at h2;have hui:(u:Int) < (hs.length:Int):=by omega
 obtain⟨x,hx⟩:∃x,x=hs.getD u false:=⟨_,rfl⟩;rw [<-hx]at hc⊢;clear hx;go_enter Tryz.func145,Tryz.ntmps145;go_wp2_with fail;go_ret;exact⟨rfl,Qz⟩
theorem Qs8(b:Nat)(lg:Int)(base:List (List Nd))(root:List Bool)(ks:List Kn)(cs:List Cm)(alive:List Bool)(agents t:Nat)(w0 w:World)(v:Value)(l:List Nat)
 (hE:Eng w0 b lg base root ks cs alive)(xY:0<=lg/\lg<=6)(ht:t < alive.length)(hm:alive.length<=4096)(rI:∀k∈ks,k.place < 64/\alive.length<=k.holds.length)(qO:∀c∈cs,c.place < 64/\c.x.length=alive.length/\c.y.length=alive.length/\0<=c.group/\c.group < 16)
 (vH:agents<=4)(hL:Qfo lg ks cs alive t)(hS:Gl w0 w v l)(zO:SOk alive l):
 Calls Tryz.prog 68 #[.pointer (some ⟨b,0,none⟩),.pointer (some ⟨w0.heap.size+1,0,none⟩),.int .u64 (t:Int),.int .i64 (agents:Int)] w (Zj2 w0 lg ks cs alive agents l t):=by
 obtain⟨Ab,cb,Ar,cr,Ak,ck,Ac,cc,Aa,ca,d0,d1,d2,d3,d4,d5,yW,_,_,uQ,xI,_⟩:=hE.cells;have HE:=Qq hE;have tL:=Qq rI;have lL:=Qq qO;have HK:=Qq uQ;have HC:=Qq xI;have WK:=Qq hL;have HS:=Qq hS;have zD:=Qq zO;have KD:=uQ.1;have zT:=uQ.2.1;have wN:=xI.1;have mQ:=xI.2.1;unfold maxLen at zT mQ;have D0':=Qq d0;have D4:=Qq d4;have x3:=(hS.ext.cell (p:=⟨b,3,none⟩) yW).trans d3;have xl:=Qy yW hS.ext.size;have tB:=Qq yW;have cM:∀(fn:Fn) (first cap:Array Value) (w:World),(Instr.makeFunc fn first cap).run Tryz.prog w=.ok (.func fn first cap) w:=fun _ _ _ _=>rfl
 clear hE uQ xI rI qO hL hS zO d0 d1 d2 d3 d4 d5 yW;go_enter Tryz.func68,Tryz.ntmps68;go_wp2_with fail;clear x3 xl;go_loopw [20] (fun v wr=>∃k:Nat,v=.int .i64 (k:Int)/\k<=ks.length/\Hid (∃v' l',Gl w0 wr v' l'/\Ke alive l l'/\∀(j:Nat) (m:Kn),j < k->ks[j]?=some m->Lo lg ks l' t m)) (fun v _=>ks.length - (intOf v).toNat)
 case atStart=>exact⟨0,rfl,Nat.zero_le _,Qq ⟨v,l,HS.out,Ke.refl,fun j m hj=>absurd hj (by omega)⟩⟩
 case round =>
  obtain⟨k,rfl,hk,zY⟩:=hrel;obtain⟨v1,l1,wB,vL,kT⟩:=zY.out;have gW:=Qq wB;have WP:=Qq vL;have IJ:=Qq kT;have vA:=Qq (zD.out.grow vL);clear zY wB vL kT;by_cases hlt2:k < ks.length
  ·have yP:(k:Int) < (ks.length:Int):=by omega
   obtain⟨n,hn⟩:∃n,ks[k]?=some n:=⟨_,Qv hlt2⟩;have aA:=List.mem_of_getElem? hn;obtain⟨lU,UH⟩:=tL.out n aA;obtain⟨ad,rfl,yZ,yM⟩:=Qq1 HK.out hn;obtain⟨vh,c0,c1,c2,rK⟩:=yM.ext gW.out.ext (Qj yZ);obtain⟨Ah,ch,rfl,rK⟩:=rK;have QX:=Qq rK;have tQ:(ad.add (k*3)).block < wr.heap.size:=by rw [Qr];exact Qy yZ gW.out.ext.size
   have HN:=Qq hn;have GT:=Qq (WK.out.know n aA);have lZ:=Qq (show ∀l2,(∀u∈l1,u∈l2)->Lo lg ks l2 t n->∀(j:Nat) (m:Kn),j < k+1->ks[j]?=some m->Lo lg ks l2 t m from fun l2 hs hc j m hj hm=>by
    by_cases e:j < k
    ·exact(IJ.out j m e hm).mono hs
    have:j=k:=by omega
    subst this;rw [HN.out]at hm;injection hm with hm;rw [<-hm];exact hc)
   clear hn yM rK aA;obtain⟨wq,vD⟩:∃v,v=wr:=⟨_,rfl⟩;subst vD;have yT:=To t n.place (by omega);have zK:=Qq (show Ext wq (wq.alloc (.cells #[.int .i64 n.agent,.int .i64 (n.place:Int),.slice Ah n.holds.length ch] 136))from Qz.alloc _);have WY:=Qq (Qxx (show(wq.alloc (.cells #[.int .i64 n.agent,.int .i64 (n.place:Int),.slice Ah n.holds.length ch] 136)).heap[wq.heap.size]?=some (.cells #[.int .i64 n.agent,.int .i64 (n.place:Int),.slice Ah n.holds.length ch] 136 (0,0))from heap_alloc_new _ _));have xE:=Qq (gW.out.next zK.out);have SD:=Qq (Qyd b lg base root ks cs alive n.agent t (fun u=> !n.holds.getD u false) 145 #[.pointer (some ⟨wq.heap.size,0,none⟩)] (fun _ _=>rfl) w0 _ v1 l1 (HE.out.ext xE.out.ext) xY (by omega) hm tL.out xE.out (Qx vA.out.len hm) vA.out.lt (fun W u hu hW=>Qnl wq.heap.size u Ah ch n.holds W ((hW.cell (p:=⟨wq.heap.size,2,none⟩) (by simp)).trans WY.out.2.2.1) ((QX.out.ext (Qz.alloc _)).ext hW) (Qy hu UH)))
   have OU:=Qq (fun h=>Qsp (al:=alive) (l:=l1) (lg:=lg) (ks:=ks) (a:=n.agent) (t:=t) (wanted:=fun u=> !n.holds.getD u false) h);have aS:=Qq (Qnx (al:=alive) (l:=l1) (lg:=lg) (ks:=ks) (a:=n.agent) (t:=t) (wanted:=fun u=> !n.holds.getD u false));obtain⟨l2,sX⟩:∃x,x=Hv lg ks alive n.agent t (fun u=> !n.holds.getD u false) l1:=⟨_,rfl⟩;rw [<-sX]at SD OU aS;clear sX;cases yB:t.testBit n.place
   ·rw [yB]at yT;simp only [Bool.not_false]at yT;have lC:=Qq (show Lo lg ks l2 t n from fun hf=>by
     obtain⟨u,h1,h2,h3⟩:=OU.out (GT.out hf);exact⟨u,h1,by simpa using h2,h3⟩)
    clear yB;go_wp2_with fail;refine SD.out.mono ?_;rintro e w3 ⟨⟨r,rfl⟩,v2,xP,_⟩;have qU:=Qq xP;clear xP;go_wp2_with fail;go_roundw
    case rel=>exact⟨k+1,by go_num,by omega,Qq ⟨v2,l2,qU.out,WP.out.trans aS.out,lZ.out l2 aS.out.sub lC.out⟩⟩
    case measure=>simp [intOf];omega
   rw [yB]at yT;simp only [Bool.not_true]at yT;have lC:=Qq (show Lo lg ks l1 t n from fun hf=>by rw [yB]at hf;cases hf);clear yB;go_wp2_with fail;go_roundw
   case rel=>exact⟨k+1,by go_num,by omega,Qq ⟨v1,l1,xE.out,WP.out,lZ.out l1 (fun _ h=>h) lC.out⟩⟩
   case measure=>simp [intOf];omega
  obtain rfl:ks.length=k:=by omega
  have RB:=Qq (show ∀m∈ks,Lo lg ks l1 t m from fun m hm=>by
   obtain⟨j,hj,e⟩:=List.getElem_of_mem hm;exact IJ.out j m hj (by rw [Qv hj,e]))
  have x4:=(gW.out.ext.cell (p:=⟨b,4,none⟩) tB.out).trans D4.out;have xl:=Qy tB.out gW.out.ext.size;clear IJ;obtain⟨w1,tT⟩:∃v,v=wr:=⟨_,rfl⟩;subst tT;go_wp2_with fail;clear x4 xl;go_loopw [43] (fun v wr=>∃k:Nat,v=.int .i64 (k:Int)/\k<=cs.length/\Hid (∃v' l',Gl w0 wr v' l'/\Ke alive l1 l'/\∀(j:Nat) (m:Cm),j < k->cs[j]?=some m->Lw lg ks alive l' t m)) (fun v _=>cs.length - (intOf v).toNat)
  case atStart=>exact⟨0,rfl,Nat.zero_le _,Qq ⟨v1,l1,gW.out,Ke.refl,fun j m hj=>absurd hj (by omega)⟩⟩
  case round =>
   clear gW;obtain⟨k,rfl,hk,zY⟩:=hrel;obtain⟨v2,l2,xP,uO,iH⟩:=zY.out;have xE:=Qq xP;have dF:=Qq uO;have II:=Qq iH;have YS:=Qq (vA.out.grow uO);clear zY xP uO iH;by_cases hlt2:k < cs.length
   ·have yP:(k:Int) < (cs.length:Int):=by omega
    obtain⟨n,hn⟩:∃n,cs[k]?=some n:=⟨_,Qv hlt2⟩;have aA:=List.mem_of_getElem? hn;obtain⟨lU,vC,kF,xW,vL⟩:=lL.out n aA;obtain⟨ad,rfl,yZ,yM⟩:=Qbs HC.out hn;obtain⟨vx,vy,c0,c1,c2,c3,c4,wT,qR⟩:=yM.ext xE.out.ext (Qj yZ);have xD:=Qq wT;have gC:=Qq qR;obtain⟨Ax,cx,rfl,_⟩:=wT;obtain⟨Ay,cy,rfl,_⟩:=qR;have tQ:(ad.add (k*5)).block < wr.heap.size:=by rw [Qr];exact Qy yZ xE.out.ext.size
    have HN:=Qq hn;have GM:=Qq (WK.out.com n aA);have lZ:=Qq (show ∀l3,(∀u∈l2,u∈l3)->Lw lg ks alive l3 t n->∀(j:Nat) (m:Cm),j < k+1->cs[j]?=some m->Lw lg ks alive l3 t m from fun l3 hs hc j m hj hm=>by
     by_cases e:j < k
     ·exact(II.out j m e hm).mono hs
     have:j=k:=by omega
     subst this;rw [HN.out]at hm;injection hm with hm;rw [<-hm];exact hc)
    clear hn yM aA;obtain⟨wq,vD⟩:∃v,v=wr:=⟨_,rfl⟩;subst vD;have yN:n.place < 64:=lU;have yT:=To t n.place (by omega);have zK:=Qq (show Ext wq (wq.alloc (.cells #[.int .i64 (n.place:Int),.int .i64 n.group,.slice Ax n.x.length cx,.slice Ay n.y.length cy,.int .u64 (n.parts:Int)] 138))from Qz.alloc _);have qU:=Qq (xE.out.next zK.out);have WD:=Qq (Qdl b lg base root ks cs alive n t (.slice Ax n.x.length cx) (.slice Ay n.y.length cy) _ (HE.out.ext qU.out.ext) xY (by omega) hm tL.out (xD.out.ext (Qz.alloc _)) (gC.out.ext (Qz.alloc _)) vC kF ⟨xW,vL⟩ (by omega));cases yB:t.testBit n.place
    ·rw [yB]at yT;simp only [Bool.not_false]at yT;have FJ:=Qq (Ca.1 (GM.out yB));clear yB vC kF xW vL;go_wp2_with fail;refine WD.out.mono ?_;rintro e w3 pE;rcases pE with⟨rfl,zI,nF⟩|⟨ad3,c3',ls,rfl,zI,zP,zQ,cN,NH,ZG⟩
     ·exact absurd FJ.out nF
     have zC:=Qq zI;have tJ:=Qq zP;have WM:=Qq cN;have lE:=Qq NH;have iQ:=Qq (qU.out.next zI);have fU:=Qq (show ∀u∈ls,alive.getD u false=true from fun u hu=>by
      obtain⟨a,ha⟩:=Qgs ls cN u hu;exact Qi9 ha)
     obtain⟨pg,cap2,wA,tH,aG,kM,tE,_⟩:=Us zP (j:=0) (by cases ls;exact absurd rfl zQ;exact Nat.succ_pos _) rfl;injection wA with hsl2a _ hsl2b;injection hsl2a with hsl2a;subst hsl2a hsl2b;unfold maxLen at tE;have GO:=Qq (show w0.heap.size+1 < pg/\v2.ownBlock≠some pg by
      have h1:=Qf xE.out.box;have h2:(wq.alloc (.cells #[.int .i64 (n.place:Int),.int .i64 n.group,.slice Ax n.x.length cx,.slice Ay n.y.length cy,.int .u64 (n.parts:Int)] 138)).heap.size=wq.heap.size+1:=by simp
      rw [h2]at aG;refine⟨by omega,fun e=> ?_⟩;have:=(xE.out.row.lt _ e).2
      omega)
     have J5:=Qq (show ∃u,ls[0]?=some u by cases ls;exact absurd rfl zQ;exact⟨_,rfl⟩);have SH:=Qq tH;clear zP cN NH ZG zI zQ aG tH;go_wp2_with fail;go_loopw [58] (fun v wr=>∃k:Nat,v=.int .i64 (k:Int)/\k<=ls.length/\Hid (∃v',Gl w0 wr v' (Db l2 (ls.take k))/\Tt w0 w3 v2 wr v')) (fun v _=>ls.length - (intOf v).toNat)
     case atStart=>exact⟨0,rfl,Nat.zero_le _,Qq ⟨v2,iQ.out,Tt.of Qz⟩⟩
     case round =>
      clear iQ;obtain⟨j,rfl,hj,zY⟩:=hrel;obtain⟨v4,XO,T6⟩:=zY.out;have iQ:=Qq XO;have SM:=Qq T6;have QI:=Qq (Qj3 (al:=alive) (ls.take j) l2 (fun u hu=>fU.out u (List.mem_of_mem_take hu)));have GS:=Qq (YS.out.grow QI.out);clear zY XO T6;by_cases lX:j < ls.length
      ·have kT:(j:Int) < (ls.length:Int):=by omega
       have Q2:=Zp tJ.out (w':=wr) fun g hg=>by
        injection hg with hg;subst hg;exact SM.out.blk pg SH.out (show pg≠w0.heap.size by have:=GO.out.1;omega) (show pg≠w0.heap.size+1 by have:=GO.out.1;omega) GO.out.2
       obtain⟨g2,cap3,kL,aE,_,_,_,a0⟩:=Us Q2 lX rfl;injection kL with hsl3a _ hsl3b;injection hsl3a with hsl3a;injection hsl3a with hsl3a;subst hsl3a hsl3b;have nW:ls.getD j 0∈ls:=by rw [Qk,Qv lX];exact List.getElem_mem _
       have qF:=Xg (fU.out _ nW);have cW:=Qq (show Db l2 (ls.take (j+1))=Di (Db l2 (ls.take j)) ((ls.getD j 0:Nat):Int)from Qnf lX);clear nW Q2;obtain⟨u,hu⟩:∃u,u=ls.getD j 0:=⟨_,rfl⟩;rw [<-hu]at a0 qF cW;have hu4:(u:Int)<=4096:=by omega
       have cO:(Db l2 (ls.take j)).length<=4096:=Qx GS.out.len hm;obtain⟨l4,MU⟩:∃x,x=Db l2 (ls.take j):=⟨_,rfl⟩;rw [<-MU]at iQ cW cO;clear MU hu QI GS;go_wp2_with fail;refine(Qxk w0 _ v4 l4 (u:Int) iQ.out hu4 cO).mono ?_;rintro e w5 ⟨⟨r,rfl⟩,v5,RK,xF⟩;have VU:=Qq RK;have QO:=Qq (SM.out.trans xF);clear RK xF;go_wp2_with fail;go_roundw
       case rel=>exact⟨j+1,by go_num,by omega,Qq ⟨v5,by rw [cW.out];exact VU.out,QO.out⟩⟩
       case measure=>simp [intOf];omega
      obtain rfl:ls.length=j:=by omega
      have lC:=Qq (show Lw lg ks alive (Db l2 ls) t n from fun _=>by
       obtain⟨u,hu⟩:=J5.out;exact⟨u,(Qgt ls u hu WM.out).mono (fun a b h=>⟨h.1,Qv7 ls l2 b (Or.inl h.2)⟩),lE.out u hu⟩)
      rw [List.take_length]at iQ QI;clear GS;go_wp2_with fail;go_roundw
      case rel=>exact⟨k+1,by go_num,by omega,Qq ⟨v4,Db l2 ls,iQ.out,dF.out.trans QI.out,lZ.out _ QI.out.sub lC.out⟩⟩
      case measure=>simp [intOf];omega
    rw [yB]at yT;simp only [Bool.not_true]at yT;have lC:=Qq (show Lw lg ks alive l2 t n from fun hf=>by rw [yB]at hf;cases hf);clear yB vC kF xW vL;go_wp2_with fail;go_roundw
    case rel=>exact⟨k+1,by go_num,by omega,Qq ⟨v2,l2,qU.out,dF.out,lZ.out l2 (fun _ h=>h) lC.out⟩⟩
    case measure=>simp [intOf];omega
   obtain rfl:cs.length=k:=by omega
   have RC:=Qq (show ∀m∈cs,Lw lg ks alive l2 t m from fun m hm=>by
    obtain⟨j,hj,e⟩:=List.getElem_of_mem hm;exact II.out j m hj (by rw [Qv hj,e]))
   clear II;obtain⟨w2,lR⟩:∃v,v=wr:=⟨_,rfl⟩;subst lR;go_wp2_with fail;go_loopw [68] (fun v wr=>∃k:Nat,v=.int .i64 (k:Int)/\k<=agents/\Hid (∃v' l',Gl w0 wr v' l'/\Ke alive l2 l'/\∀j,j < k->Pz lg ks l' t j)) (fun v _=>agents - (intOf v).toNat)
   case atStart=>exact⟨0,rfl,Nat.zero_le _,Qq ⟨v2,l2,xE.out,Ke.refl,fun j hj=>absurd hj (by omega)⟩⟩
   case round =>
    clear xE;obtain⟨k,rfl,hk,zY⟩:=hrel;obtain⟨v3,l3,rM,NP,R9⟩:=zY.out;have qU:=Qq rM;have SK:=Qq NP;have AI:=Qq R9;have PO:=Qq (YS.out.grow NP);clear zY rM NP R9;by_cases hlt2:k < agents
    ·have yP:(k:Int) < (agents:Int):=by omega
     have x0:=(qU.out.ext.cell (p:=⟨b,0,none⟩) tB.out).trans D0'.out;have xl:=Qy tB.out qU.out.ext.size;have lZ:=Qq (show ∀l4,(∀u∈l3,u∈l4)->Pz lg ks l4 t k->∀j,j < k+1->Pz lg ks l4 t j from fun l4 hs hc j hj=>by
      by_cases e:j < k
      ·exact(AI.out j e).mono hs
      have:j=k:=by omega
      subst this;exact hc)
     have SD:=Qq (fun W (hW:Ext wr W)=>Qyd b lg base root ks cs alive (k:Int) t (fun _=>true) 146 #[] (fun _ _=>rfl) w0 W v3 l3 (HE.out.ext (qU.out.next hW).ext) xY (by omega) hm tL.out (qU.out.next hW) (Qx PO.out.len hm) PO.out.lt (fun W u _ _=>Qnm (u:Int) W));have OU:=Qq (fun h=>Qsp (al:=alive) (l:=l3) (lg:=lg) (ks:=ks) (a:=(k:Int)) (t:=t) (wanted:=fun _=>true) h);have aS:=Qq (Qnx (al:=alive) (l:=l3) (lg:=lg) (ks:=ks) (a:=(k:Int)) (t:=t) (wanted:=fun _=>true));have gV:=Qq (fun h=>WK.out.ser h k (by omega));obtain⟨l4,cO⟩:∃x,x=Hv lg ks alive (k:Int) t (fun _=>true) l3:=⟨_,rfl⟩
     rw [<-cO]at SD OU aS;clear cO;have lC:=Qq (show Pz lg ks l4 t k from fun hf=>by
      obtain⟨u,h1,_,h3⟩:=OU.out (gV.out hf);exact⟨u,h1,h3⟩)
     cases h1:lg==1
     ·cases h5:lg==5
      ·have fO:=Qq (show Pz lg ks l3 t k from fun hf=>by
        rcases hf with e|e
        ·rw [e]at h1;cases h1
        rw [e]at h5;cases h5)
       go_wp2_with fail;go_roundw
       case rel=>exact⟨k+1,by go_num,by omega,Qq ⟨v3,l3,qU.out,SK.out,lZ.out l3 (fun _ h=>h) fO.out⟩⟩
       case measure=>simp [intOf];omega
      go_wp2_with fail;refine(SD.out _ Qz).mono ?_;rintro e w5 ⟨⟨r,rfl⟩,v4,XO,_⟩;have iQ:=Qq XO;clear XO;go_wp2_with fail;go_roundw
      case rel=>exact⟨k+1,by go_num,by omega,Qq ⟨v4,l4,iQ.out,SK.out.trans aS.out,lZ.out l4 aS.out.sub lC.out⟩⟩
      case measure=>simp [intOf];omega
     go_wp2_with fail;refine(SD.out _ Qz).mono ?_;rintro e w5 ⟨⟨r,rfl⟩,v4,XO,_⟩;have iQ:=Qq XO;clear XO;go_wp2_with fail;go_roundw
     case rel=>exact⟨k+1,by go_num,by omega,Qq ⟨v4,l4,iQ.out,SK.out.trans aS.out,lZ.out l4 aS.out.sub lC.out⟩⟩
     case measure=>simp [intOf];omega
    obtain rfl:agents=k:=by omega
    go_wp2_with fail;exact bodyPost_end (v:=.tuple #[]) (results_none rfl _ _ _) rfl ⟨⟨_,rfl⟩,v3,l3,qU.out,WP.out.trans (dF.out.trans SK.out),fun m hm=>(RB.out m hm).mono (dF.out.trans SK.out).sub,fun m hm=>(RC.out m hm).mono SK.out.sub,AI.out⟩
theorem Qpq {l:List (List Nd)} {k:Nat} {s:List Nd}(h:l[k]?=some s)(a:List Nd):(l.take (k+1)).foldl Fo a=Fo ((l.take k).foldl Fo a) s:=by
 rw [Kk h,List.foldl_append];rfl
theorem Ql6(ad:Addr)(k:Nat):ad.add (k+1)=⟨ad.block,ad.off+1+k,none⟩:=by
 unfold Addr.add;simp;omega
theorem Qh7 {α:Type} {x:α} {r:List α} {k:Nat} {s:α}(h:r[k]?=some s):(x :: r)[k+1]?=some s:=by simpa using h
theorem Qpt(v1 v2:Value)(l:List (List Nd))(e0:List Nd)(wb w:World)(h1:Bp w v1 l)(xM:Yo wb w v2 e0):
 Calls Tryz.prog 177 #[v1,v2,.func (Fn.func 71) #[] #[]] w fun e w'=>∃u,e=.returned u/\Yo wb w' u (Qfi e0 l):=by
 have H1:=Qq h1;have H2:=Qq xM;have h2:=xM.fml;obtain⟨A,c,rfl,xR,yO,hr⟩:=h1;obtain⟨A2,c2,rfl,_⟩:=Qh h2;unfold maxLen at yO;have HR:=Qq hr;clear hr h2 xM;cases l with
 |nil =>
  go_enter Tryz.func177,Tryz.ntmps177;go_wp2_with fail;go_ret;exact⟨_,rfl,H2.out⟩
 |cons f r =>
  obtain⟨ad,rfl,yT,xS⟩:=HR.out (by simp);obtain⟨u0,JO,T7⟩:=xS 0 f rfl;have HC:=Qq xS;have WU:=Qq T7;have hu0':w.cell? ad=some u0:=by rw [<-JO];congr 1
  clear xS T7 HR H1 JO;obtain⟨m,hm⟩:∃m,m=r.length:=⟨_,rfl⟩;rw [show(f :: r).length=m+1 by simp [hm]]at xR⊢;have HM:=Qq hm;have rC:(((m+1:Nat):Int)==0)=false:=by rw [beq_eq_false_iff_ne];omega
  have cO:(((m:Nat):Int)+1==0)=false:=by rw [beq_eq_false_iff_ne];omega
  have sX:(0:Int) < ((m+1:Nat):Int):=by omega
  clear hm;by_cases wN:c=1
  ·subst wN;obtain rfl:0=m:=by omega
   go_enter Tryz.func177,Tryz.ntmps177;go_wp2_with fail;refine(Fv _ f _ WU.out).mono ?_;rintro e w1 ⟨u,rfl,hm⟩;have oN:=Qq hm;clear hm;go_wp2_with fail;have bG:=Qq (List.length_eq_zero_iff.1 HM.out.symm);go_loopw [7,21] (fun vf vi wr=>vi=.int .i64 0/\vf=u/\Hid (Ext w1 wr)) (fun _ i _=>0)
   case atStart=>exact⟨rfl,rfl,Qq Qz⟩
   case round =>
    obtain⟨rfl,rfl,HX⟩:=hrel;go_wp2_with fail;go_ret;exact⟨_,rfl,by rw [bG.out];exact(oN.out.before H2.out.ext).after HX.out⟩
  have UU:1 < c:=by omega
  go_enter Tryz.func177,Tryz.ntmps177;go_wp2_with fail;refine(Fv _ f _ WU.out).mono ?_;rintro e w1 ⟨u,rfl,hm⟩;have oN:=Qq hm;clear hm;go_wp2_with fail;go_loopw [7,21] (fun vf vi wr=>∃k:Nat,k<=m/\vi=.int .i64 (k:Int)/\Hid (Yo w wr vf ((r.take k).foldl Fo (Qg f)))) (fun _ i _=>m - (intOf i).toNat)
  case atStart=>exact⟨0,Nat.zero_le _,rfl,oN⟩
  case round =>
   obtain⟨k,hk,rfl,zY⟩:=hrel;have HX:=Qq zY.out.ext;have HF:=Qq zY.out.fml;obtain⟨Af,cf,rfl,_⟩:=Qh zY.out.fml;by_cases hlt2:k < m
   ·obtain⟨s,hs⟩:∃s,r[k]?=some s:=⟨_,List.getElem?_eq_getElem (by rw [<-HM.out];exact hlt2)⟩;obtain⟨us,sR,kX⟩:=HC.out (k+1) s (Qh7 hs);rw [Ql6]at sR;have a0:=(HX.out.cell (p:=⟨ad.block,ad.off+1+k,none⟩) yT).trans sR;have bS:=Qq (kX.ext HX.out);have HS:=Qq hs;obtain⟨As,cs,rfl,_⟩:=Qh kX;clear hs kX sR;go_wp2_with fail;refine(Qzo _ _ _ _ _ HF.out bS.out).mono ?_;rintro e w2 ⟨u2,rfl,xM⟩;have vU:=Qq xM;clear xM;go_wp2_with fail;go_roundw
    case rel=>exact⟨k+1,by omega,by go_num,Qq (by rw [Qpq HS.out];exact vU.out.before HX.out)⟩
    case measure=>simp [intOf];omega
   obtain rfl:m=k:=by omega
   have HE:=Qq (show r.take m=r by rw [HM.out];exact List.take_of_length_le (Nat.le_refl _));go_wp2_with fail;go_ret;refine⟨.slice Af ((r.take m).foldl Fo (Qg f)).length cf,rfl,?_⟩;have:=zY.out;rw [HE.out]at this⊢;exact this.before H2.out.ext
theorem Qw4(v:Value)(l:List (List Nd))(w:World)(h:Bp w v l):
 Calls Tryz.prog 122 #[v] w fun e w'=>∃u,e=.returned u/\Yo w w' u (Qys l):=by
 have H:=Qq h;obtain⟨A,c,rfl,xR,yO,hr⟩:=h;clear xR yO hr;go_enter Tryz.func122,Tryz.ntmps122;go_wp2_with fail;refine(Qny _).mono ?_;rintro e w1 ⟨u,rfl,hm⟩;have HM:=Qq hm;clear hm;go_wp2_with fail;refine(Qpt _ _ l _ _ _ (H.out.ext HM.out.ext) HM.out).mono ?_;rintro e w2 ⟨u2,rfl,xM⟩;have vU:=Qq xM;clear xM;go_wp2_with fail;go_ret;exact⟨_,rfl,vU.out⟩
theorem Xh {w:World} {b j:Nat} {cs:Array Value} {t:TypeId} {fr:Nat×Nat} {v:Value}(h:w.heap[b]?=some (.cells cs t fr))(hv:cs[j]?=some v):w.setCell ⟨b,j,none⟩ v=w:=by
 have e:(w.setCell ⟨b,j,none⟩ v).heap=w.heap:=by
  refine Array.ext_getElem? fun i=> ?_
  simp only [World.setCell,Array.getElem?_modify];by_cases hb:b=i
  ·subst hb;rw [h];simp only [if_true,Option.map_some,Option.some.injEq,Obj.cells.injEq,and_true,Option.isSome_none];show cs.setIfInBounds j v=cs;refine Array.ext_getElem? fun k=> ?_
   rw [Array.getElem?_setIfInBounds];by_cases hk:j=k
   ·subst hk;rw [if_pos rfl]
    split
    ·exact hv.symm
    rename_i hn;rw [Array.getElem?_eq_none (by omega)]
   rw [if_neg hk]
  rw [if_neg hb]
 unfold World.setCell at e⊢;simp only at e⊢;rw [e]
theorem Yh {P:Program} {fn:Func} {t u v:Tmp} {ty:TypeId}(h:fn.results=#[.cell t ty,.tmp u,.tmp v])(tmps:Array Value)(w:World) {b o:Nat}(ht:tmps.getD t undef=.pointer (some ⟨b,o,none⟩)) {cs:List Value} {d:TypeDesc}(hc:w.rangeAt b o cs)
 (hu:P.underlying ty=some d)(hd:d.isRow=true)(hi:(P.info? ty).map (·.size)=some cs.length):(results fn tmps).run P w=.ok (.tuple #[.agg cs.toArray,tmps.getD u undef,tmps.getD v undef]) w:=by
 have mI:tmps[t]?.getD undef=.pointer (some ⟨b,o,none⟩):=by rw [<-Array.getD_eq_getD_getElem?];exact ht
 simp [results,h,mI,asAddr,run_loadVar_mid w b o ty cs d hc hu hd hi]
theorem Ze {w:World} {b:Nat} {cs:Array Value} {t:TypeId}(h:w.heap[b]?=some (.cells cs t (0,0))):w.rangeAt b 0 cs.toList:=fun j v hj=>by
 have:cs[j]?=some v:=by simpa using hj
 simp [World.cell?,h,this]
def Ux(f:List Nd):List Nd:=bif decide (4<=(Zz f).op)then Jn f (Zz f).x else []
def Dx(f:List Nd):List Nd:=bif (Zz f).op==13 then Jn f (Zz f).y else []
theorem Lg(w:World):Fml w (.slice none 0 0) []:=⟨⟨none,0,rfl,Nat.le_refl _,by unfold maxLen;omega,fun h=>absurd rfl h⟩,by simp⟩
theorem Wt(v:Value)(f:List Nd)(w:World)(h:Fml w v f)(h0:0 < f.length):
 Calls Tryz.prog 69 #[v] w fun e w'=>∃u1 u2,e=.returned (.tuple #[(Zz f).val,u1,u2])/\Ext w w'/\Fml w' u1 (Ux f)/\Fml w' u2 (Dx f):=by
 have H:=Qq h;obtain⟨⟨A,c,rfl,xR,yO,zM⟩,zO⟩:=h;unfold maxLen at yO;obtain⟨ad,rfl,zG,zJ⟩:=zM (by intro e;rw [e]at h0;simp at h0);have eJ:=Ty h0;obtain⟨c0,c1,c2,c3,c4,c5⟩:=zJ _ _ eJ;have iJ:((f.length:Int) - 1) < (f.length:Int):=by omega
 have jI:(0:Int)<=(f.length:Int) - 1:=by omega
 have e1:((f.length:Int) - 1).toNat=f.length - 1:=by omega
 have yZ:(ad.add ((f.length - 1)*6)).block < w.heap.size:=by rw [Qr];exact zG
 clear zM zO zJ eJ;obtain⟨nn,uM⟩:∃nn,nn=Zz f:=⟨_,rfl⟩;rw [<-uM]at c0 c1 c2 c3 c4 c5;have HA:=Qq (show Ux f=bif decide (4<=nn.op)then Jn f nn.x else [] by rw [uM];rfl);have HB:=Qq (show Dx f=bif nn.op==13 then Jn f nn.y else [] by rw [uM];rfl);have HN:=Qq uM;clear uM;have zK:=Qq (show Ext w (w.alloc (.cells #[.int .i64 nn.op,.int .i64 nn.i,.int .i64 nn.e,.int .i64 nn.g,.int .i64 nn.x,.int .i64 nn.y] 71))from Qz.alloc _);have lY:=Qq (show(w.alloc (.cells #[.int .i64 nn.op,.int .i64 nn.i,.int .i64 nn.e,.int .i64 nn.g,.int .i64 nn.x,.int .i64 nn.y] 71)).heap[w.heap.size]?=some (.cells #[.int .i64 nn.op,.int .i64 nn.i,.int .i64 nn.e,.int .i64 nn.g,.int .i64 nn.x,.int .i64 nn.y] 71 (0,0))from heap_alloc_new _ _)
 have rW:nn.val=.agg [.int .i64 nn.op,.int .i64 nn.i,.int .i64 nn.e,.int .i64 nn.g,.int .i64 nn.x,.int .i64 nn.y].toArray:=rfl;have HV:=Qq rW;clear rW;by_cases h4:4<=nn.op
 ·by_cases xK:nn.op=13
  ·have bF:=Qq (show Ux f=Jn f nn.x by rw [HA.out,decide_eq_true h4];rfl);have bE:=Qq (show Dx f=Jn f nn.y by rw [HB.out,show(nn.op==13)=true by rw [xK];rfl];rfl);have hd:(nn.op==13)=true:=by rw [xK];rfl
   clear xK;go_enter Tryz.func69,Tryz.ntmps69;go_wp2_with fail;refine(Ws _ f nn.x _ (H.out.ext zK.out)).mono ?_;rintro e w1 ⟨u1,rfl,uY⟩;have oN:=Qq uY;obtain⟨⟨k0,k1,k2,k3,k4,k5⟩,_,kb⟩:=Vm ((uY.ext.block (by simp)).trans lY.out);clear uY;go_wp2_with fail;refine(Ws _ f nn.y _ (H.out.ext (zK.out.trans oN.out.ext))).mono ?_;rintro e w2 ⟨u2,rfl,xM⟩;have vU:=Qq xM;have HZ:=Qq (show w2.heap[w.heap.size]?=some (.cells #[.int .i64 nn.op,.int .i64 nn.i,.int .i64 nn.e,.int .i64 nn.g,.int .i64 nn.x,.int .i64 nn.y] 71 (0,0))from(xM.ext.block (by omega)).trans ((oN.out.ext.block (by simp)).trans lY.out))
   obtain⟨⟨q0,q1,q2,q3,q4,q5⟩,qf,qb⟩:=Vm HZ.out;clear xM;go_wp2_with fail
   (try simp only [Exit.inBlock,Exit.then])
   rw [show(w2).setCell ⟨w.heap.size,0,none⟩ (.int .i64 nn.op)=w2 from Xh HZ.out rfl,show(w2).setCell ⟨w.heap.size,1,none⟩ (.int .i64 nn.i)=w2 from Xh HZ.out rfl,show(w2).setCell ⟨w.heap.size,2,none⟩ (.int .i64 nn.e)=w2 from Xh HZ.out rfl,show(w2).setCell ⟨w.heap.size,3,none⟩ (.int .i64 nn.g)=w2 from Xh HZ.out rfl,show(w2).setCell ⟨w.heap.size,4,none⟩ (.int .i64 nn.x)=w2 from Xh HZ.out rfl,show(w2).setCell ⟨w.heap.size,5,none⟩ (.int .i64 nn.y)=w2 from Xh HZ.out rfl];refine bodyPost_ret (Yh Tryz.results69 _ _ rfl (Ze HZ.out) Tryz.underlying71 rfl (by kernel_rfl)) rfl ?_
   exact⟨u1,u2,by rw [<-HN.out,HV.out] <;> rfl,zK.out.trans (oN.out.ext.trans vU.out.ext),by rw [bF.out];exact oN.out.fml.ext vU.out.ext,by rw [bE.out];exact vU.out.fml⟩
  have hd:(nn.op==13)=false:=by simpa using xK
  have bF:=Qq (show Ux f=Jn f nn.x by rw [HA.out,decide_eq_true h4];rfl);have bE:=Qq (show Dx f= [] by rw [HB.out,hd];rfl);clear xK;go_enter Tryz.func69,Tryz.ntmps69;go_wp2_with fail;refine(Ws _ f nn.x _ (H.out.ext zK.out)).mono ?_;rintro e w2 ⟨u1,rfl,uY⟩;have oN:=Qq uY;have HZ:=Qq (show w2.heap[w.heap.size]?=some (.cells #[.int .i64 nn.op,.int .i64 nn.i,.int .i64 nn.e,.int .i64 nn.g,.int .i64 nn.x,.int .i64 nn.y] 71 (0,0))from(uY.ext.block (by simp)).trans lY.out);obtain⟨⟨q0,q1,q2,q3,q4,q5⟩,qf,kb⟩:=Vm HZ.out;clear uY;go_wp2_with fail
  (try simp only [Exit.inBlock,Exit.then])
  rw [show(w2).setCell ⟨w.heap.size,0,none⟩ (.int .i64 nn.op)=w2 from Xh HZ.out rfl,show(w2).setCell ⟨w.heap.size,1,none⟩ (.int .i64 nn.i)=w2 from Xh HZ.out rfl,show(w2).setCell ⟨w.heap.size,2,none⟩ (.int .i64 nn.e)=w2 from Xh HZ.out rfl,show(w2).setCell ⟨w.heap.size,3,none⟩ (.int .i64 nn.g)=w2 from Xh HZ.out rfl,show(w2).setCell ⟨w.heap.size,4,none⟩ (.int .i64 nn.x)=w2 from Xh HZ.out rfl,show(w2).setCell ⟨w.heap.size,5,none⟩ (.int .i64 nn.y)=w2 from Xh HZ.out rfl];refine bodyPost_ret (Yh Tryz.results69 _ _ rfl (Ze HZ.out) Tryz.underlying71 rfl (by kernel_rfl)) rfl ?_
  exact⟨u1,_,by rw [<-HN.out,HV.out] <;> rfl,zK.out.trans oN.out.ext,by rw [bF.out];exact oN.out.fml,by rw [bE.out];exact Lg _⟩
 have hd:(nn.op==13)=false:=by rw [beq_eq_false_iff_ne];omega
 have bF:=Qq (show Ux f= [] by rw [HA.out,decide_eq_false h4];rfl);have bE:=Qq (show Dx f= [] by rw [HB.out,hd];rfl);go_enter Tryz.func69,Tryz.ntmps69;go_wp2_with fail
 (try simp only [Exit.inBlock,Exit.then])
 refine bodyPost_ret (Yh Tryz.results69 _ _ rfl (Ze lY.out) Tryz.underlying71 rfl (by kernel_rfl)) rfl ?_;exact⟨_,_,by rw [<-HN.out,HV.out] <;> rfl,zK.out,by rw [bF.out];exact Lg _,by rw [bE.out];exact Lg _⟩
def Ql2(a:Int)(f:List Nd):List Nd:=Gc a (Qy7 (Ux f) (Fo (Dx f) f))
theorem Qzc(a:Int)(ha:Vs a)(v:Value)(f:List Nd)(w:World)(h:Fml w v f)(h0:0 < f.length):
 Calls Tryz.prog 127 #[.int .i64 a,v] w fun e w'=>∃u,e=.returned u/\Yo w w' u (Ql2 a f):=by
 have H:=Qq h;obtain⟨A,c,rfl,_⟩:=Qh h;obtain⟨nn,uM⟩:∃nn,nn=Zz f:=⟨_,rfl⟩;have HN:=Qq uM;clear h uM;go_enter Tryz.func127,Tryz.ntmps127;go_wp2_with fail;refine(Wt _ f _ H.out h0).mono ?_;rintro e w1 ⟨u1,u2,rfl,zN,nJ,rJ⟩;have zL:=Qq zN;have WT:=Qq nJ;have QP:=Qq rJ;rw [<-HN.out];unfold Nd.val;obtain⟨A1,c1,rfl,_⟩:=Qh nJ;obtain⟨A2,c2,rfl,_⟩:=Qh rJ;clear zN nJ rJ;go_wp2_with fail;refine(Qzo _ _ _ _ _ (QP.out.ext (Qz.alloc _)) (H.out.ext (zL.out.alloc _))).mono ?_;rintro e w2 ⟨u3,rfl,jG⟩;have mX:=Qq jG;clear jG;go_wp2_with fail;refine(Qxc _ _ _ _ _ (WT.out.ext ((Qz.alloc _).trans mX.out.ext)) mX.out.fml).mono ?_
 rintro e w3 ⟨u4,rfl,oD⟩;have fR:=Qq oD;clear oD;go_wp2_with fail;refine(Lr a ha _ _ _ fR.out.fml).mono ?_;rintro e w4 ⟨u5,rfl,MQ⟩;have YW:=Qq MQ;clear MQ;go_wp2_with fail;go_ret;exact⟨_,rfl,YW.out.before ((zL.out.alloc _).trans (mX.out.ext.trans fR.out.ext))⟩
theorem Qti(B:Nat)(u gv:Value)(s g:List Nd)(w:World)(hs:Nds w u s)(hB:w.cell? ⟨B,0,none⟩=some gv)(hg:Nds w gv g):
 Calls Tryz.prog 179 (#[u]++ #[.pointer (some ⟨B,0,none⟩)]) w fun e w'=>e=.returned (.bool (decide (s=g)))/\Ext w w':=by
 have HS:=Qq hs;have HG:=Qq hg;obtain⟨A,c,rfl,_⟩:=hs;obtain⟨A2,c2,rfl,_⟩:=hg;have HE:=Qq (show decide (s=g)=decide (g=s) by rw [decide_eq_decide];exact eq_comm);show Calls Tryz.prog 179 #[.slice A s.length c,.pointer (some ⟨B,0,none⟩)] w _;go_enter Tryz.func179,Tryz.ntmps179;go_wp2_with(go_at_call 180;refine(Qtd _ _ g s _ (by exact HG.out.ext (by repeat(first|exact Qz|assumption|apply Ext.alloc|apply Ext.drew))) (by exact HS.out.ext (by repeat(first|exact Qz|assumption|apply Ext.alloc|apply Ext.drew)))).mono ?_;rintro e w1 ⟨rfl,hx⟩);go_ret;exact⟨by rw [HE.out] <;> rfl,by first|exact hx|exact Ext.trans (by repeat(first|exact Qz|assumption|apply Ext.alloc|apply Ext.drew)) hx⟩
theorem Qq0(v gv:Value)(l:List (List Nd))(g:List Nd)(w:World)(hl:Bp w v l)(hg:Fml w gv g):
 Calls Tryz.prog 128 #[v,gv] w fun e w'=>e=.returned (.int .i64 (Yn l g))/\Ext w w':=by
 have HL:=Qq hl;have HG:=Qq hg;obtain⟨A,c,rfl,_⟩:=hl;obtain⟨A2,c2,rfl,_⟩:=Qh hg;clear hg;go_enter Tryz.func128,Tryz.ntmps128;go_wp2_with fail;refine(Qt0 179 _ (fun _ _=>rfl) (fun s=>decide (s=g)) _ l _ (HL.out.ext (by repeat(first|exact Qz|assumption|apply Ext.alloc|apply Ext.drew))) (fun W u s hx hs=>Qti w.heap.size u _ s g W hs.1 ((hx.cell (p:=⟨w.heap.size,0,none⟩) (by simp)).trans (by simp)) (HG.out.1.ext ((Qz.alloc _).trans hx)))).mono ?_;rintro e w1 ⟨rfl,hx⟩;have HX:=Qq hx;clear hx;go_wp2_with fail;go_ret;exact⟨rfl,(Qz.alloc _).trans HX.out⟩
theorem Vo.before {w0 w w':World} {vo:Value} {out:List (List Nd)}(h:Vo w w' vo out)(he:Ext w0 w):Vo w0 w' vo out:=by
 obtain⟨us,hr,hu⟩:=h.row;refine⟨he.trans h.ext,us,Kt hr he.size,fun k s hk=> ?_⟩;obtain⟨u,a,b,c⟩:=hu k s hk;exact⟨u,a,b,fun g hg=>⟨(c g hg).1,(c g hg).2.1,Qx he.size (c g hg).2.2⟩⟩
theorem Vo.get {w0 w:World} {g cap:Nat} {out:List (List Nd)}(h:Vo w0 w (.slice (some ⟨g,0,none⟩) out.length cap) out) {k:Nat} {s:List Nd}(hk:out[k]?=some s):∃u,w.cell? ⟨g,k,none⟩=some u/\Fml w u s/\g < w.heap.size:=by
 obtain⟨us,hr,hu⟩:=h.row;have h0:0 < out.length:=Nat.lt_of_le_of_lt (Nat.zero_le k) (List.getElem?_eq_some_iff.1 hk).1;obtain⟨g',cap',e,hg,_,_,hc⟩:=Mv hr h0;injection e with e1 _ _;injection e1 with e1;injection e1 with e1;subst e1;obtain⟨u,a,b,_⟩:=hu k s hk;exact⟨u,hc k u a,b,hg⟩
theorem Vo.slice {w0 w:World} {v:Value} {out:List (List Nd)}(h:Vo w0 w v out)(h0:0 < out.length):∃g cap,v=.slice (some ⟨g,0,none⟩) out.length cap/\out.length<=cap/\cap<=maxLen:=by
 obtain⟨us,hr,hu⟩:=h.row;obtain⟨g',cap',e,hg,h1,h2,hc⟩:=Mv hr h0;exact⟨g',cap',e,h1,h2⟩
theorem Qy5 {n:Nd}(h:Zh n)(hk:n.op=11\/n.op=13):0<=n.g/\n.g < 16:=by
 obtain⟨_,_,h3,_,_⟩:=h;unfold Jt at h3;rcases hk with ho|ho <;>(rw [ho]at h3;simp [Qt,Zg,Qo,Qi,Zk]at h3;omega)
theorem Qrz(base:List Nd)(k:Nat):(List.range (k+1)).map (fun(i:Nat)=>Jn base i)=(List.range k).map (fun(i:Nat)=>Jn base i)++ [Jn base k]:=by
 rw [List.range_succ,List.map_append];rfl
theorem Qe5(v:Value)(f:List Nd)(w:World)(h:Fml w v f)(hc:check f=0):
 Calls Tryz.prog 126 #[v] w fun e w'=>∃u,e=.returned u/\Vo w w' u (Qjs f):=by
 have H:=Qq h;obtain⟨iI,pK,vO,vN,vM⟩:=info_parts Qx4;obtain⟨A,c,rfl,_⟩:=Qh h;have hp:=Jf hc;obtain⟨base,tR⟩:∃b,b=Qg f:=⟨_,rfl⟩;have sF:check base=0:=tR▸Xi hc;have zH:base.length<=200:=tR▸Qx hp.2.1 (Jg hc).2.1;have HB:=Qq (show Qjs f=Nh base by rw [tR];rfl);have rU:=Qq tR;have QU:=Qq sF;clear h hp tR sF hc;go_enter Tryz.func126,Tryz.ntmps126;go_wp2_with fail;refine(Fv _ f _ H.out).mono ?_;rintro e w0 ⟨uc,rfl,pI⟩;rw [<-rU.out]at pI;have jW:=Qq pI;obtain⟨Ac,cc,rfl,yM⟩:=Qh pI.fml;have kA:=Qq yM
 clear pI yM;go_wp2_with fail;go_loopw [3,10] (fun vo vi wr=>∃k:Nat,vi=.int .i64 (k:Int)/\k<=base.length/\Hid (∃out,out=(List.range k).map (fun(i:Nat)=>Jn base i)/\Vo w0 wr vo out)) (fun _ v _=>base.length - (intOf v).toNat)
 case atStart=>exact⟨0,rfl,Nat.zero_le _,Qq ⟨[],rfl,Vo.nil _⟩⟩
 case round =>
  obtain⟨k,rfl,hk,zY⟩:=hrel;obtain⟨out,ho,yF⟩:=zY.out;obtain⟨us,zP,sR⟩:=yF.row;obtain⟨Ao,co,rfl⟩:=Qs zP;have HO:=Qq ho;have wS:=Qq yF;have yJ:=Qq zP;have jO:=Qq sR;have tG:out.length<=1000:=by rw [ho];simp;omega
  clear zY ho yF zP sR;by_cases hlt2:k < base.length
  ·have yP:(k:Int) < (base.length:Int):=by omega
   have xN:out.length+1<=maxLen:=by unfold maxLen;omega
   have xJ:(out.length+1)*24<=140737488355328:=by omega
   have cY:=Qq (show Jn base (k:Int)=(Za base k []).1 by
    unfold Jn;rw [QU.out,show(decide ((k:Int) < 0)||decide ((base.length:Int)<=(k:Int)))=false by simp;omega]
    rfl)
   go_wp2_with fail;refine(El base _ _ k _ (Ym QU.out) jW.out.2.1 (by omega) hlt2 (kA.out.ext wS.out.ext)).mono ?_;rintro e w1 ⟨u,rfl,XQ,eC,yU⟩;have hm:Yo wr w1 u (Jn base (k:Int)):=by rw [cY.out];exact⟨XQ,eC,yU⟩
   have X1:=Qq (wS.out.ext.trans hm.2.2);have Y1:=Qq hm.2.2;have HM:=Qq hm;obtain⟨Au,cu,rfl,_⟩:=Qh hm.fml;clear hm XQ eC yU;go_wp2_with(at_builtin;refine wpList_append_own_at _ rfl _ _ 32 rfl w0.heap.size 22 iI (.slice none 0 0) 1 24 Tryz.underlying32 pK vO vN vM rfl (by decide) _ out.length us rfl (Zf yJ.out (Y1.out.alloc _)) ⟨_,0,none⟩ 1 1 [.slice Au (Jn base (k:Int)).length cu] rfl rfl (Zm _ _ _ (by simp)) (fun u hu=>by rw [List.mem_singleton.1 hu];rfl) xN xJ (Qx wS.out.ext.size (Y1.out.alloc _).size) ?_);intro v7 w7 zW zX _ zF;have pP:=Qq (Vo.push (s:=Jn base (k:Int)) (X1.out.alloc _) (Zf yJ.out (Y1.out.alloc _)) (fun k s hk=>by
    obtain⟨u,a,b,c⟩:=jO.out k s hk;exact⟨u,a,b.ext (Y1.out.alloc _),c.ext (Y1.out.alloc _)⟩) zW zX (zF.imp id (fun e=>e.trans (by simp))) (HM.out.fml.ext (Qz.alloc _)) (Tv (Nat.le_refl _) (Zf HM.out.1 (Qz.alloc _)) yJ.out wS.out.ext.size))
   obtain⟨A7,c7,rfl⟩:=Qs zW;clear zW zX zF;go_wp2_with fail;go_roundw
   case rel=>exact⟨k+1,by go_num,by omega,Qq ⟨_,by rw [Qrz,<-HO.out],pP.out⟩⟩
   case measure=>simp [intOf];omega
  obtain rfl:base.length=k:=by omega
  go_wp2_with fail;go_ret;exact⟨_,rfl,by rw [HB.out,show Nh base=out from HO.out.symm];exact wS.out.before jW.out.ext⟩
theorem Zjg:(Tryz.prog.info? 3).map (fun i=>(i.zero,i.size,i.bytes))=some (some (.int .i64 0),1,8):=by kernel_rfl
structure Cir (w wr:World) (B:Nat) (vf vo:Value) (out:List Int):Prop where
 ext:Ext w wr
 blk:wr.heap[B]?=some (.cells #[vf,vo] 173 (0,0))
 row:wr.ownsRow (B+1) 3 1 vo out.length (out.map (Value.int .i64))
 res:wr.heap[B - 1]?=some (.cells #[.slice none 0 0,.slice none 0 0] 173 (0,0))
section
variable {w wr:World} {B:Nat} {vf vo:Value} {out:List Int}
theorem Cir.next {w4:World}(h:Cir w wr B vf vo out)(he:Ext wr w4):Cir w w4 B vf vo out :=
 ⟨h.ext.trans he,(he.block (Qf h.blk)).trans h.blk,Zf h.row he,(he.block (Qf h.res)).trans h.res⟩
theorem Cir.push {w7:World} {v7:Value} {z:Int}(h:Cir w wr B vf vo out)(hB:w.heap.size < B)
 (xL:w7.ownsRow (B+1) 3 1 v7 (out.length+1) (out.map (Value.int .i64)++ [.int .i64 z]))(hg:wr.grownBy w7 vo.ownBlock):
 Cir w (w7.setCell ⟨B,1,none⟩ v7) B vf v7 (out++ [z]):=by
 have BR:∀g,vo.ownBlock=some g->B+1<=g:=fun g vZ=>(h.row.lt g vZ).1
 have hb:w7.heap[B]?=wr.heap[B]?:=hg.block B (Qf h.blk) (fun e=>by have:=BR B e.symm;omega);have qZ:v7.ownBlock≠some B:=fun e=>by have:=(xL.lt B e).1;omega
 refine⟨(h.ext.grown hg (fun g vZ=>by have:=BR g vZ;omega)).setCell (Nat.le_of_lt hB) _,Is (hb.trans h.blk) v7,?_,?_⟩
 ·have hr:w7.ownsRow (B+1) 3 1 v7 (out++ [z]).length ((out++ [z]).map (Value.int .i64)):=by
   rw [List.length_append,List.map_append];exact xL
  exact ownsRow_setCell_other (a:=⟨B,1,none⟩) hr qZ _
 rw [Below.heap_setCell _ _ _ _ (show B - 1≠B by omega),hg.block _ (Qf h.res) (fun e=>by have:=BR _ e.symm;omega)];exact h.res
end
theorem Qyg {base:List (List Nd)} {f:List Nd} {k:Nat} {n:Nd}(hn:f[k]?=some n):(Ks base f).take (k+1)=(Ks base f).take k++ [bif Jh n then Yn base (Jn f (k:Int))else -1]:=Kk (Qk2 hn)
theorem Qfb(vb vf:Value)(base:List (List Nd))(f:List Nd)(w:World)(hb:Bp w vb base)(hf:Fml w vf f)(hl:f.length<=200):
 Calls Tryz.prog 182 #[vb,vf] w fun e w'=>∃ui,e=.returned (.agg #[vf,ui])/\Ext w w'/\Bc w' ui (Ks base f):=by
 have HB:=Qq hb;have HF:=Qq hf;obtain⟨iI,pK,vO,vN,vM⟩:=info_parts Zjg;obtain⟨Ab,cb,rfl,_⟩:=hb;obtain⟨⟨Af,cf,rfl,xR,yO,zM⟩,zO⟩:=hf;unfold maxLen at yO;have uJ:=Qq zM;clear zM zO;go_enter Tryz.func182,Tryz.ntmps182;go_wp2_with fail;go_loopw [13] (fun vi wr=>∃k:Nat,vi=.int .i64 (k:Int)/\k<=f.length/\Hid (∃vo out,out=(Ks base f).take k/\Cir w wr (w.heap.size+1) (.slice Af f.length cf) vo out)) (fun v _=>f.length - (intOf v).toNat)
 case atStart=>exact⟨0,rfl,Nat.zero_le _,Qq ⟨.slice none 0 0,[],rfl,(Qz.alloc _).alloc _,(by have:=heap_alloc_new (w.alloc (.cells #[.slice none 0 0,.slice none 0 0] 173)) (.cells #[.slice Af f.length cf,.slice none 0 0] 173);simpa using this),World.ownsRow_nil _ _ _ _,((Qz.alloc _).block (by simp)).trans (heap_alloc_new _ _)⟩⟩
 case round =>
  obtain⟨k,rfl,hk,zY⟩:=hrel;obtain⟨vo,out,tG,aJ⟩:=zY.out;have pZ:=Qq tG;have HC:=Qq aJ;obtain⟨Ao,co,rfl⟩:=Qs aJ.row;have TT:out.length<=200:=by rw [tG,List.length_take];omega
  obtain⟨d0,d1,df,dl⟩:=Gh aJ.blk;clear zY tG aJ;by_cases hlt2:k < f.length
  ·have yP:(k:Int) < (f.length:Int):=by omega
   obtain⟨n,hn⟩:∃n,f[k]?=some n:=⟨_,Qv hlt2⟩;obtain⟨ad,rfl,yZ,zJ⟩:=uJ.out (by intro e;rw [e]at hlt2;simp at hlt2);obtain⟨c0,c1,c2,c3,c4,c5⟩:=(zJ k n hn).keep fun p hp=>HC.out.ext.cell (p:=p) (by rw [hp,Qr];exact yZ)
   have tQ:(ad.add (k*6)).block < wr.heap.size:=by rw [Qr];exact Qy yZ HC.out.ext.size
   have HN:=Qq hn;clear hn zJ;obtain⟨wq,vD⟩:∃v,v=wr:=⟨_,rfl⟩;subst vD;have xN:out.length+1<=maxLen:=by unfold maxLen;omega
   have xJ:(out.length+1)*8<=140737488355328:=by omega
   have zK:=Qq (show Ext wq (wq.alloc (.cells #[.int .i64 n.op,.int .i64 n.i,.int .i64 n.e,.int .i64 n.g,.int .i64 n.x,.int .i64 n.y] 71))from Qz.alloc _);rcases Qkj n with zV|⟨t3,t9,t13⟩
   ·have rU:=Qq (show(bif Jh n then Yn base (Jn f (k:Int))else -1)=Yn base (Jn f (k:Int)) by rw [show Jh n=true by unfold Jh;rcases zV with e|e|e <;> rw [e] <;> rfl];rfl);have SF:=Qq (show((n.op==3)=true)\/((n.op==3)=false/\(n.op==9)=true)\/((n.op==3)=false/\(n.op==9)=false/\(n.op==13)=true) by rcases zV with e|e|e <;> rw [e] <;> simp);clear zV;rcases SF.out with t3|⟨t3,t9⟩|⟨t3,t9,t13⟩
    all_goals
     go_wp2_with fail;refine(Ws _ f (k:Int) _ (HF.out.ext (HC.out.ext.trans zK.out))).mono ?_;rintro e w2 ⟨u2,rfl,xM⟩;have vU:=Qq xM;clear xM;go_wp2_with fail;refine(Qq0 _ _ base _ _ (HB.out.ext (HC.out.ext.trans (zK.out.trans vU.out.ext))) vU.out.fml).mono ?_;rintro e w3 ⟨rfl,zI⟩;have jZ:=Qq (HC.out.next (zK.out.trans (vU.out.ext.trans zI)));obtain⟨q0,q1,qf,qb⟩:=Gh jZ.out.blk;clear zI d0 d1 df dl;go_wp2_with(at_builtin;refine wpList_append_own_at _ rfl _ _ 36 rfl (w.heap.size+1+1) 3 iI (.int .i64 0) 1 8 Tryz.underlying36 pK vO vN vM rfl (by decide) _ out.length (out.map (Value.int .i64)) rfl (jZ.out.next (Qz.alloc _)).row ⟨_,0,none⟩ 1 1 [.int .i64 (Yn base (Jn f (k:Int)))] rfl rfl (Zm _ _ _ (by simp)) (fun u hu=>by rw [List.mem_singleton.1 hu];rfl) xN xJ (by have:=qb;simp;omega) ?_)
     intro v7 w7 zW zX _ zF;obtain⟨d0,d1,df,dl⟩:=Gh ((zX.block (w.heap.size+1) (by simp;omega) (fun e=>by have:=(jZ.out.row.lt _ e.symm).1;omega)).trans ((jZ.out.next (Qz.alloc (.cells #[.int .i64 (Yn base (Jn f (k:Int)))] 3))).blk));have HP:=Qq (Cir.push (jZ.out.next (Qz.alloc _)) (by omega) zW zX);obtain⟨A7,c7,rfl⟩:=Qs zW;clear zW zX zF;go_wp2_with fail;go_roundw
     case rel=>exact⟨k+1,by go_num,by omega,Qq ⟨_,_,by rw [Qyg HN.out,<-pZ.out,rU.out],HP.out⟩⟩
     case measure=>simp [intOf];omega
   have rU:=Qq (show(bif Jh n then Yn base (Jn f (k:Int))else -1)= -1 by rw [show Jh n=false by unfold Jh;rw [t3,t9,t13];rfl];rfl);have jZ:=Qq (HC.out.next zK.out);have qb:=Qf jZ.out.blk;go_wp2_with(at_builtin;refine wpList_append_own_at _ rfl _ _ 36 rfl (w.heap.size+1+1) 3 iI (.int .i64 0) 1 8 Tryz.underlying36 pK vO vN vM rfl (by decide) _ out.length (out.map (Value.int .i64)) rfl (jZ.out.next (Qz.alloc _)).row ⟨_,0,none⟩ 1 1 [.int .i64 (-1)] rfl rfl (Zm _ _ _ (by simp)) (fun u hu=>by rw [List.mem_singleton.1 hu];rfl) xN xJ (by have:=qb;simp;omega) ?_)
   intro v7 w7 zW zX _ zF;obtain⟨q0,q1,qf,ql⟩:=Gh ((zX.block (w.heap.size+1) (by simp;omega) (fun e=>by have:=(jZ.out.row.lt _ e.symm).1;omega)).trans ((jZ.out.next (Qz.alloc (.cells #[.int .i64 (-1)] 3))).blk));have HP:=Qq (Cir.push (jZ.out.next (Qz.alloc _)) (by omega) zW zX);obtain⟨A7,c7,rfl⟩:=Qs zW;clear zW zX zF;go_wp2_with fail;go_roundw
   case rel=>exact⟨k+1,by go_num,by omega,Qq ⟨_,_,by rw [Qyg HN.out,<-pZ.out,rU.out],HP.out⟩⟩
   case measure=>simp [intOf];omega
  obtain rfl:f.length=k:=by omega
  have HR:=Qq (show wr.heap[w.heap.size]?=some (.cells #[.slice none 0 0,.slice none 0 0] 173 (0,0)) by have:=HC.out.res;rw [Nat.add_sub_cancel]at this;exact this);obtain⟨r0,r1,rf,rl⟩:=Gh HR.out;have HE:=Qq (show out=Ks base f by rw [pZ.out,List.take_of_length_le (by rw [Qk3];exact Nat.le_refl _)]);have HS:=Qq (Is (Qg4 HR.out (.slice Af f.length cf)) (.slice Ao out.length co));go_wp2_with fail
  (try simp only [Exit.inBlock,Exit.then])
  refine bodyPost_ret (Cw Tryz.results182 _ _ rfl (Ze HS.out) Tryz.underlying173 rfl (by kernel_rfl)) rfl ?_;have zQ:(Value.slice Ao out.length co).ownBlock≠some w.heap.size:=fun e=>by have:=(HC.out.row.lt _ e).1;omega
  exact⟨_,rfl,(HC.out.ext.setCell (by simp) _).setCell (by simp) _,by rw [<-HE.out];exact Qno (ownsRow_setCell_other (a:=⟨w.heap.size,1,none⟩) (ownsRow_setCell_other (a:=⟨w.heap.size,0,none⟩) HC.out.row zQ _) zQ _)⟩
theorem Qd9:(Tryz.prog.info? 4).map (fun i=>(i.zero,i.size,i.bytes))=some (some (.bool false),1,1):=by kernel_rfl
theorem Qi0 {pre:List Bool} {m j:Nat}(h:j < pre.length):(pre++List.replicate m false)[j]?=some (pre.getD j false):=by
 rw [List.getElem?_append_left h,Qk,Qv h];rfl
theorem Qxw {pre:List Bool} {k m:Nat} {b:Bool}(h:pre.length=k):(pre++List.replicate (m+1) false).set k b=(pre++ [b])++List.replicate m false:=by
 subst h;rw [List.set_append_right _ _ (Nat.le_refl _),Nat.sub_self,List.replicate_succ,List.set_cons_zero,List.append_assoc];rfl
theorem Qes {pre:List Bool} {m:Nat} :pre++List.replicate (m+1) false=(pre++ [false])++List.replicate m false:=by
 rw [List.replicate_succ,List.append_assoc];rfl
theorem Qgz {t:Nat} {f:List Nd} {ps:List Int} {k:Nat} {n:Nd} {z:Int}(hn:f[k]?=some n)(hz:ps[k]?=some z)(v:List Bool):
 Qqx t (f.drop k) (ps.drop k) v=Qqx t (f.drop (k+1)) (ps.drop (k+1)) (v++ [Kx n z t v]):=by
 obtain⟨h1,e1⟩:=List.getElem?_eq_some_iff.1 hn;obtain⟨h2,e2⟩:=List.getElem?_eq_some_iff.1 hz;rw [List.drop_eq_getElem_cons h1,List.drop_eq_getElem_cons h2,e1,e2];rfl
theorem Eh(n:Nat):(madeCells #[Value.bool false] n).toList=(List.replicate n false).map Value.bool:=by
 have:=Qlj n
 simpa [Value.cells]using this
structure AtI (w wr:World) (vf vi:Value) (f:List Nd) (ps:List Int) (t k:Nat) (pre:List Bool):Prop where
 len:pre.length=k
 go:Qqx t (f.drop k) (ps.drop k) pre=Qqx t f ps []
 ext:Ext w wr
 box:wr.heap[w.heap.size]?=some (.cells #[vf,vi] 173 (0,0))
 row:Kg (w.heap.size+1) wr (w.heap.size+1) (pre++List.replicate (f.length - k) false)
section
variable {w wr W:World} {vf vi:Value} {f:List Nd} {ps:List Int} {t k:Nat} {pre:List Bool} {n:Nd} {z:Int} {b:Bool}
theorem AtI.keep(h:AtI w wr vf vi f ps t k pre)(hn:f[k]?=some n)(hz:ps[k]?=some z)(hb:Kx n z t pre=false)(he:Ext wr W):AtI w W vf vi f ps t (k+1) (pre++ [false]):=by
 have hk:=(List.getElem?_eq_some_iff.1 hn).1;refine⟨by simp [h.len],by rw [<-h.go,Qgz hn hz,hb],h.ext.trans he,(he.block (Qf h.box)).trans h.box,?_⟩;have:=h.row.ext he;rw [show f.length - k=(f.length - (k+1))+1 by omega,Qes]at this;exact this
theorem AtI.store(h:AtI w wr vf vi f ps t k pre)(hn:f[k]?=some n)(hz:ps[k]?=some z)(hb:Kx n z t pre=b)(he:Ext wr W):AtI w (W.setCell ⟨w.heap.size+1,k,none⟩ (.bool b)) vf vi f ps t (k+1) (pre++ [b]):=by
 have hk:=(List.getElem?_eq_some_iff.1 hn).1;refine⟨by simp [h.len],by rw [<-h.go,Qgz hn hz,hb],(h.ext.trans he).setCell (by simp) _,?_,?_⟩
 ·rw [Below.heap_setCell _ _ _ _ (show w.heap.size≠w.heap.size+1 by omega)];exact(he.block (Qf h.box)).trans h.box
 have:=((h.row.ext he).set k b).1;rw [show f.length - k=(f.length - (k+1))+1 by omega,Qxw h.len]at this;exact this
theorem AtI.next(h:AtI w wr vf vi f ps t k pre)(he:Ext wr W):AtI w W vf vi f ps t k pre:=⟨h.len,h.go,h.ext.trans he,(he.block (Qf h.box)).trans h.box,h.row.ext he⟩
theorem AtI.drew(h:AtI w wr vf vi f ps t k pre):AtI w wr.drew vf vi f ps t k pre:=⟨h.len,h.go,h.ext.drew,h.box,h.row.ext Qz.drew⟩
theorem AtI.cell(h:AtI w wr vf vi f ps t k pre) {j:Nat}(hj:j < k):wr.cell? ⟨w.heap.size+1,j,none⟩=some (.bool (pre.getD j false)):=h.row.cell (Qi0 (by rw [h.len];exact hj))
end
theorem Zzd(vf vi:Value)(f:List Nd)(ps:List Int)(t:Nat)(w:World)(ht:t < 18446744073709551616)(hf:Fml w vf f)(hi:Bc w vi ps)(vP:ps.length=f.length)(hp:∀z∈ps,z < 64)(lQ:Wf f)(h0:0 < f.length)(hl:f.length<=200):
 Calls Tryz.prog 183 #[.agg #[vf,vi],.int .u64 (t:Int)] w fun e w'=>e=.returned (.bool (atN f ps t))/\Ext w w':=by
 obtain⟨⟨Af,cf,rfl,xR,yO,zM⟩,zO⟩:=hf;obtain⟨Ai,ci,rfl,YF,eH,dW⟩:=hi;unfold maxLen at yO eH;obtain⟨ad,rfl,yZ,zJ⟩:=zM (by intro e;rw [e]at h0;simp at h0);obtain⟨ai,rfl,YG,YC⟩:=dW (by intro e;rw [e]at vP;simp at vP;omega);have qW:=Qq zJ;have QC:=Qq YC;have iN:=Qq lQ;have HP:=Qq hp;have pP:=Qq vP;rw [vP]at YF⊢;obtain⟨iB,UG,kD,kC,kB⟩:=info_parts Qd9;clear zM zO dW lQ hp vP zJ YC;go_enter Tryz.func183,Tryz.ntmps183;go_wp2_with(refine wpList_make_full _ rfl _ _ 89 rfl (w.heap.size+1) 4 iB (.bool false) 1 Tryz.underlying89 UG kD kC .i64 .i64 (f.length:Int) (f.length:Int) f.length rfl rfl rfl rfl (by rw [kB];omega) (by unfold maxLen;omega) (by simp) ?_)
 intro W1 uA sC;have zL:=Qq (show Ext w W1 from((Ext.refl w).alloc (.cells #[.slice (some ad) f.length cf,.slice (some ai) f.length ci] 173)).grown sC (fun k e=>by cases e));have xD:=Qq (show W1.heap[w.heap.size]?=some (.cells #[.slice (some ad) f.length cf,.slice (some ai) f.length ci] 173 (0,0))from(sC.block _ (by simp) (fun e=>by cases e)).trans (heap_alloc_new _ _));have HI:=Qq (show AtI w W1 (.slice (some ad) f.length cf) (.slice (some ai) f.length ci) f ps t 0 []from⟨rfl,rfl,zL.out,xD.out,by
  have h1:=uA;rw [Eh]at h1;unfold Kg;simp only [List.nil_append,Nat.sub_zero,List.length_replicate];exact h1⟩)
 obtain⟨d0,d1,df,dl⟩:=Gh xD.out;clear uA sC;go_wp2_with fail;clear d0 d1 df dl;go_loopw [16] (fun vi wr=>∃k:Nat,vi=.int .i64 (k:Int)/\k<=f.length/\Hid (∃pre,AtI w wr (.slice (some ad) f.length cf) (.slice (some ai) f.length ci) f ps t k pre)) (fun v _=>f.length - (intOf v).toNat)
 case atStart=>exact⟨0,rfl,Nat.zero_le _,Qq ⟨[],HI.out⟩⟩
 case round =>
  obtain⟨k,rfl,hk,zY⟩:=hrel;obtain⟨pre,rF⟩:=zY.out;have HA:=Qq rF;obtain⟨d0,d1,df,dl⟩:=Gh rF.box;clear zY rF;by_cases hlt2:k < f.length
  ·have yP:(k:Int) < (f.length:Int):=by omega
   obtain⟨n,hn⟩:∃n,f[k]?=some n:=⟨_,Qv hlt2⟩;obtain⟨z,hz⟩:∃z,ps[k]?=some z:=⟨_,List.getElem?_eq_getElem (by rw [pP.out];exact hlt2)⟩;obtain⟨c0,c1,c2,c3,c4,c5⟩:=(qW.out k n hn).keep fun p hp=>HA.out.ext.cell (p:=p) (by rw [hp,Qr];exact yZ)
   have z0:=(HA.out.ext.cell (p:=ai.add k) (Qj YG)).trans (QC.out k z hz);have tQ:(ad.add (k*6)).block < wr.heap.size:=by rw [Qr];exact Qy yZ HA.out.ext.size
   have V0:(ai.add k).block < wr.heap.size:=by rw [Qr];exact Qy YG HA.out.ext.size
   have xO:w.heap.size+1 < wr.heap.size:=HA.out.row.lt.2;have gfr:=HA.out.row.frozen k;have gc:wr.cell? ⟨w.heap.size+1,k,none⟩=some (.bool false):=HA.out.row.cell (by rw [List.getElem?_append_right (by rw [HA.out.len];exact Nat.le_refl _),HA.out.len,Nat.sub_self,List.getElem?_replicate,if_pos (by omega)]);have HN:=Qq hn;have HZ:=Qq hz;have SC:=Qq (iN.out k n hn);have hz64:=HP.out z (List.mem_of_getElem? hz);clear hn hz;obtain⟨wq,vD⟩:∃v,v=wr:=⟨_,rfl⟩;subst vD;by_cases zB:0<=z
   ·obtain⟨zn,rfl⟩:=Int.eq_ofNat_of_zero_le zB;have hzn:zn < 64:=by omega
    have tP:=Bz t zn ht;cases hb:t.testBit zn
    case false =>
     rw [hb]at tP;have yX:=Qq (show Kx n (zn:Int) t pre=false by unfold Kx;rw [decide_eq_true zB,cond_true,Int.toNat_natCast];exact hb);clear hb;go_wp2_with fail;go_roundw
     case rel=>exact⟨k+1,by go_num,by omega,Qq ⟨_,(HA.out.store HN.out HZ.out yX.out Qz).next (Qz.alloc _)⟩⟩
     case measure=>simp [intOf];omega
    case true =>
     rw [hb]at tP;have yX:=Qq (show Kx n (zn:Int) t pre=true by unfold Kx;rw [decide_eq_true zB,cond_true,Int.toNat_natCast];exact hb);clear hb;go_wp2_with fail;go_roundw
     case rel=>exact⟨k+1,by go_num,by omega,Qq ⟨_,(HA.out.store HN.out HZ.out yX.out Qz).next (Qz.alloc _)⟩⟩
     case measure=>simp [intOf];omega
   have nU:z < 0:=by omega
   have VJ:=Qq (show decide (0<=z)=false by simpa using nU);have UR:n.op=1\/(n.op=4\/n.op=5\/n.op=6\/n.op=7\/n.op=8)\/(n.op≠1/\n.op≠4/\n.op≠5/\n.op≠6/\n.op≠7/\n.op≠8):=by omega
   rcases UR with zV|zV|zV
   ·have yX:=Qq (show Kx n z t pre=true by unfold Kx;rw [VJ.out,zV];rfl);have t1:(n.op==1)=true:=by rw [zV];rfl
    have t4:(n.op==4)=false:=by rw [zV];rfl
    have t5:(n.op==5)=false:=by rw [zV];rfl
    have t6:(n.op==6)=false:=by rw [zV];rfl
    have t7:(n.op==7)=false:=by rw [zV];rfl
    have t8:(n.op==8)=false:=by rw [zV];rfl
    clear zV;go_wp2_with fail;go_roundw
    case rel=>exact⟨k+1,by go_num,by omega,Qq ⟨_,(HA.out.store HN.out HZ.out yX.out Qz).next (Qz.alloc _)⟩⟩
    case measure=>simp [intOf];omega
   ·have hX:0<=n.x/\n.x < k:=SC.out.1 (by rcases zV with e|e|e|e|e <;> rw [e] <;> rfl);obtain⟨jx,DG⟩:=Int.eq_ofNat_of_zero_le hX.1;have jH:jx < k:=by omega
    have gx:=HA.out.cell jH;have SJ:=Qq (show pre.getD n.x.toNat false=pre.getD jx false by rw [DG,Int.toNat_natCast]);rw [DG]at c4;have lX:(jx:Int) < (f.length:Int):=by omega
    clear hX DG;obtain⟨bx,wT⟩:∃b,b=pre.getD jx false:=⟨_,rfl⟩;rw [<-wT]at gx SJ;clear wT;rcases zV with zV|zV
    ·have yX:=Qq (show Kx n z t pre= !bx by unfold Kx;rw [VJ.out,zV,<-SJ.out];rfl);have t1:(n.op==1)=false:=by rw [zV];rfl
     have t4:(n.op==4)=true:=by rw [zV];rfl
     have t5:(n.op==5)=false:=by rw [zV];rfl
     have t6:(n.op==6)=false:=by rw [zV];rfl
     have t7:(n.op==7)=false:=by rw [zV];rfl
     have t8:(n.op==8)=false:=by rw [zV];rfl
     clear zV;cases bx
     all_goals
      go_wp2_with fail;go_roundw
      case rel=>exact⟨k+1,by go_num,by omega,Qq ⟨_,(HA.out.store HN.out HZ.out yX.out Qz).next (Qz.alloc _)⟩⟩
      case measure=>simp [intOf];omega
    have hY:0<=n.y/\n.y < k:=SC.out.2 (by rcases zV with e|e|e|e <;> rw [e] <;> rfl);obtain⟨jy,DF⟩:=Int.eq_ofNat_of_zero_le hY.1;have DI:jy < k:=by omega
    have gy:=HA.out.cell DI;have QF:=Qq (show pre.getD n.y.toNat false=pre.getD jy false by rw [DF,Int.toNat_natCast]);rw [DF]at c5;have DH:(jy:Int) < (f.length:Int):=by omega
    clear hY DF;obtain⟨b2,wZ⟩:∃b,b=pre.getD jy false:=⟨_,rfl⟩;rw [<-wZ]at gy QF;clear wZ;rcases zV with zV|zV|zV|zV
    ·have yX:=Qq (show Kx n z t pre=(bx&&b2) by unfold Kx;rw [VJ.out,zV,<-SJ.out,<-QF.out];rfl);have t1:(n.op==1)=false:=by rw [zV];rfl
     have t4:(n.op==4)=false:=by rw [zV];rfl
     have t5:(n.op==5)=true:=by rw [zV];rfl
     have t6:(n.op==6)=false:=by rw [zV];rfl
     have t7:(n.op==7)=false:=by rw [zV];rfl
     have t8:(n.op==8)=false:=by rw [zV];rfl
     clear zV;cases bx <;> cases b2
     all_goals
      go_wp2_with fail;go_roundw
      case rel=>exact⟨k+1,by go_num,by omega,Qq ⟨_,(HA.out.store HN.out HZ.out yX.out Qz).next (Qz.alloc _)⟩⟩
      case measure=>simp [intOf];omega
    ·have yX:=Qq (show Kx n z t pre=(bx||b2) by unfold Kx;rw [VJ.out,zV,<-SJ.out,<-QF.out];rfl);have t1:(n.op==1)=false:=by rw [zV];rfl
     have t4:(n.op==4)=false:=by rw [zV];rfl
     have t5:(n.op==5)=false:=by rw [zV];rfl
     have t6:(n.op==6)=true:=by rw [zV];rfl
     have t7:(n.op==7)=false:=by rw [zV];rfl
     have t8:(n.op==8)=false:=by rw [zV];rfl
     clear zV;cases bx <;> cases b2
     all_goals
      go_wp2_with fail;go_roundw
      case rel=>exact⟨k+1,by go_num,by omega,Qq ⟨_,(HA.out.store HN.out HZ.out yX.out Qz).next (Qz.alloc _)⟩⟩
      case measure=>simp [intOf];omega
    ·have yX:=Qq (show Kx n z t pre=(!bx||b2) by unfold Kx;rw [VJ.out,zV,<-SJ.out,<-QF.out];rfl);have t1:(n.op==1)=false:=by rw [zV];rfl
     have t4:(n.op==4)=false:=by rw [zV];rfl
     have t5:(n.op==5)=false:=by rw [zV];rfl
     have t6:(n.op==6)=false:=by rw [zV];rfl
     have t7:(n.op==7)=true:=by rw [zV];rfl
     have t8:(n.op==8)=false:=by rw [zV];rfl
     clear zV;cases bx <;> cases b2
     all_goals
      go_wp2_with fail;go_roundw
      case rel=>exact⟨k+1,by go_num,by omega,Qq ⟨_,(HA.out.store HN.out HZ.out yX.out Qz).next (Qz.alloc _)⟩⟩
      case measure=>simp [intOf];omega
    have yX:=Qq (show Kx n z t pre=(bx==b2) by unfold Kx;rw [VJ.out,zV,<-SJ.out,<-QF.out];rfl);have t1:(n.op==1)=false:=by rw [zV];rfl
    have t4:(n.op==4)=false:=by rw [zV];rfl
    have t5:(n.op==5)=false:=by rw [zV];rfl
    have t6:(n.op==6)=false:=by rw [zV];rfl
    have t7:(n.op==7)=false:=by rw [zV];rfl
    have t8:(n.op==8)=true:=by rw [zV];rfl
    clear zV;go_wp2_with fail;obtain⟨⟨_,_,_,_,e4,e5⟩,_,eb⟩:=Vm (show(wq.alloc (.cells #[.int .i64 n.op,.int .i64 n.i,.int .i64 n.e,.int .i64 n.g,.int .i64 (jx:Int),.int .i64 (jy:Int)] 71)).heap[wq.heap.size]?=some (.cells #[.int .i64 n.op,.int .i64 n.i,.int .i64 n.e,.int .i64 n.g,.int .i64 (jx:Int),.int .i64 (jy:Int)] 71 (0,0))from heap_alloc_new _ _);refine Yd 14 (fun w'=>w'.cell? (⟨wq.heap.size,4,none⟩)=some (.int .i64 (jx:Int))/\w'.cell? (⟨wq.heap.size,5,none⟩)=some (.int .i64 (jy:Int))/\w'.cell? (⟨w.heap.size+1,jx,none⟩)=some (.bool bx)/\w'.cell? (⟨w.heap.size+1,jy,none⟩)=some (.bool b2)) (by kernel_rfl) ⟨xd eb e4,xd eb e5,xd xO gx,xd xO gy⟩ (fun zZ=> ?_)
    refine utk 0 zZ ?_;refine utk 1 zZ ?_;refine utk 2 zZ ?_;refine utk 3 zZ ?_;refine utk 4 zZ ?_;refine utk 5 zZ ?_;refine utk 6 zZ ?_;refine utk 7 zZ ?_;refine utk 8 zZ ?_;refine utk 9 zZ ?_;refine utk 10 zZ ?_;refine utk 11 zZ ?_;refine utk 12 zZ ?_;refine utk 13 zZ ?_;refine Yt (by kernel_rfl) rfl (fun K hK=> ?_);go_simp;refine hK.out _ _ ?_;clear hK K;refine Qb ?_;refine Ys (by kernel_rfl) ?_ _;go_wp2_with fail;go_roundw
    case rel =>
     exact⟨k+1,by go_num,by omega,Qq ⟨pre++ [bx==b2],((HA.out.store HN.out HZ.out yX.out Qz).next (Qz.alloc _)).drew⟩⟩
    case measure=>simp [intOf];omega
   obtain⟨e1,e4,e5,e6,e7,e8⟩:=zV;have t1:(n.op==1)=false:=by simpa using e1
   have t4:(n.op==4)=false:=by simpa using e4
   have t5:(n.op==5)=false:=by simpa using e5
   have t6:(n.op==6)=false:=by simpa using e6
   have t7:(n.op==7)=false:=by simpa using e7
   have t8:(n.op==8)=false:=by simpa using e8
   have yX:=Qq (show Kx n z t pre=false by unfold Kx;rw [VJ.out,t1,t4,t5,t6,t7,t8];rfl);clear e1 e4 e5 e6 e7 e8;go_wp2_with fail;go_roundw
   case rel=>exact⟨k+1,by go_num,by omega,Qq ⟨_,HA.out.keep HN.out HZ.out yX.out (Qz.alloc _)⟩⟩
   case measure=>simp [intOf];omega
  obtain rfl:f.length=k:=by omega
  have iJ:((f.length:Int) - 1) < (f.length:Int):=by omega
  have jI:(0:Int)<=(f.length:Int) - 1:=by omega
  have e1:((f.length:Int) - 1).toNat=f.length - 1:=by omega
  have HE:=Qq (show atN f ps t=pre.getD (f.length - 1) false by
   have h1:=HA.out.go;rw [List.drop_length]at h1;unfold atN;rw [<-h1];show pre.getLastD false=_;rw [List.getLastD_eq_getLast?,List.getLast?_eq_getElem?,HA.out.len,Qk])
  have gx:=HA.out.cell (show f.length - 1 < f.length by omega);go_wp2_with fail;go_ret;exact⟨by rw [HE.out] <;> rfl,HA.out.ext⟩
theorem Ig {base:List (List Nd)}(h:base.length<=12)(g:List Nd):Yn base g < 64:=by
 unfold Yn;cases hf:base.findIdx? fun f=>decide (f=g)with
 |none=>show(-1:Int) < 64;decide
 |some j =>
  have:=(List.findIdx?_eq_some_iff_findIdx_eq.1 hf).1;show(j:Int) < 64;omega
theorem Qca {base:List (List Nd)}(h:base.length<=12)(f:List Nd):∀z∈Ks base f,z < 64:=by
 intro z hz;unfold Ks at hz;obtain⟨i,_,rfl⟩:=List.mem_map.1 hz;cases Jh (f.getD i Nd.zero)
 ·show(-1:Int) < 64;decide
 exact Ig h _
theorem Wd {α:Type}(g:Nat->α)(k:Nat):(List.range (k+1)).map g=(List.range k).map g++ [g k]:=by
 rw [List.range_succ,List.map_append];rfl
structure Qbq (w1 wr:World) (g B:Nat) (vf ui:Value) (h:Nat->Bool) (m k:Nat):Prop where
 ext:Ext w1 wr
 box:wr.heap[B]?=some (.cells #[vf,ui] 173 (0,0))
 row:Kg w1.heap.size wr g ((List.range k).map h++List.replicate (m - k) false)
theorem Qbq.store {w1 wr W:World} {g B:Nat} {vf ui:Value} {h:Nat->Bool} {m k:Nat}(i:Qbq w1 wr g B vf ui h m k)(hk:k < m)(hB:B≠g)(he:Ext wr W) {b:Bool}(hb:h k=b):Qbq w1 (W.setCell ⟨g,k,none⟩ (.bool b)) g B vf ui h m (k+1):=by
 have hg:=i.row.lt;refine⟨(i.ext.trans he).setCell hg.1 _,?_,?_⟩
 ·rw [Below.heap_setCell _ _ _ _ hB];exact(he.block (Qf i.box)).trans i.box
 have:=((i.row.ext he).set k b).1;rw [show m - k=(m - (k+1))+1 by omega,Qxw (by simp),<-hb,<-Wd]at this;rw [<-hb];exact this
theorem Rn(b:Nat)(lg:Int)(base:List (List Nd))(root:List Bool)(ks:List Kn)(cs:List Cm)(alive:List Bool)(vf:Value)(f:List Nd)(w:World)
 (hE:Eng w b lg base root ks cs alive)(hl:base.length<=12)(hm:alive.length=2^base.length)(hf:Fml w vf f)(hc:check f=0):
 Calls Tryz.prog 130 #[.pointer (some ⟨b,0,none⟩),vf] w fun e w'=>∃g,e=.returned (.slice (some ⟨g,0,none⟩) (2^base.length) (2^base.length))/\Ext w w'/\Kg w.heap.size w' g (Vq base f):=by
 obtain⟨Ab,cb,Ar,cr,Ak,ck,Ac,cc,Aa,ca,d0,d1,d2,d3,d4,d5,yW,tR,_,_,_,vS⟩:=hE.cells;have QZ:=Qq tR;have HF:=Qq hf;have HC:=Qq hc;have tF:=Qf0 hl;have UA:=Jg hc;obtain⟨m,rY⟩:∃m,m=2^base.length:=⟨_,rfl⟩;have sN:=Qq rY;rw [<-rY]at hm tF⊢;obtain⟨Af,cf,rfl,_⟩:=Qh hf;obtain⟨iB,UG,kD,kC,kB⟩:=info_parts Qd9;have iV:=Qq UA.1;have iT:=Qq UA.2.1;have SA:=vS.1;have qQ:=vS.2.1;unfold maxLen at qQ;rw [hm]at d5 SA;have uS:=Qq hl;have HM:=Qq hm;clear hE tR vS hf hc rY UA hm hl d0 d2 d3 d4;go_enter Tryz.func130,Tryz.ntmps130;go_wp2_with fail;refine(Qfb _ _ base f _ QZ.out HF.out iT.out).mono ?_
 rintro e w1 ⟨ui,rfl,zN,iJ⟩;have zL:=Qq zN;have M2:=Qq iJ;obtain⟨Ai,ci,rfl,_⟩:=iJ;have d5':=(zN.cell (p:=⟨b,5,none⟩) yW).trans d5;have E2:b < w1.heap.size:=Qy yW zN.size;clear zN d1 d5;go_wp2_with(refine wpList_make_full _ rfl _ _ 89 rfl (w1.heap.size+1) 4 iB (.bool false) 1 Tryz.underlying89 UG kD kC .i64 .i64 (m:Int) (m:Int) m rfl rfl rfl rfl (by rw [kB];omega) (by unfold maxLen;omega) (by simp) ?_);intro W1 uA sC;have yY:=Qq (show Ext w1 W1 from((Ext.refl w1).alloc (.cells #[.slice Af f.length cf,.slice Ai (Ks base f).length ci] 173)).grown sC (fun k e=>by cases e))
 have xD:=Qq (show W1.heap[w1.heap.size]?=some (.cells #[.slice Af f.length cf,.slice Ai (Ks base f).length ci] 173 (0,0))from(sC.block _ (by simp) (fun e=>by cases e)).trans (heap_alloc_new _ _));have HT:=Qq (show Kg (w1.heap.size+1) W1 (w1.heap.size+1) (List.replicate m false) by
  have h1:=uA;rw [Eh]at h1;unfold Kg;simp only [List.length_replicate];exact h1)
 clear uA sC d5';have J7:=Qq (show Qbq w1 W1 (w1.heap.size+1) w1.heap.size (.slice Af f.length cf) (.slice Ai (Ks base f).length ci) (atN f (Ks base f)) m 0 from⟨yY.out,xD.out,by rw [List.range_zero,List.map_nil,List.nil_append,Nat.sub_zero];exact HT.out.base_ (Nat.le_succ _)⟩);go_wp2_with fail;go_loopw [22] (fun v wr=>∃k:Nat,v=.int .i64 (k:Int)/\k<=m/\Hid (Qbq w1 wr (w1.heap.size+1) w1.heap.size (.slice Af f.length cf) (.slice Ai (Ks base f).length ci) (atN f (Ks base f)) m k)) (fun v _=>m - (intOf v).toNat)
 case atStart=>exact⟨0,rfl,Nat.zero_le _,J7⟩
 case round =>
  obtain⟨k,rfl,hk,HI⟩:=hrel;obtain⟨e0,e1,ef,el⟩:=Gh HI.out.box;by_cases hlt2:k < m
  ·have yP:(k:Int) < (m:Int):=by omega
   have xO:w1.heap.size+1 < wr.heap.size:=HI.out.row.lt.2;have gfr:=HI.out.row.frozen k;have gc:wr.cell? ⟨w1.heap.size+1,k,none⟩=some (.bool false):=HI.out.row.cell (by rw [List.getElem?_append_right (by simp),List.length_map,List.length_range,Nat.sub_self,List.getElem?_replicate,if_pos (by omega)]);obtain⟨wq,vD⟩:∃v,v=wr:=⟨_,rfl⟩;subst vD;go_wp2_with fail;refine(Zzd _ _ f (Ks base f) k _ (by omega) (HF.out.ext (zL.out.trans HI.out.ext)) (M2.out.ext HI.out.ext) (Qk3 _ _) (Qca uS.out f) (Ym HC.out) iV.out iT.out).mono ?_;rintro e w2 ⟨rfl,zS⟩;have zR:=Qq zS;have gfr2:=(zS.frozen (p:=⟨w1.heap.size+1,k,none⟩) xO).trans gfr
   have gc2:=(zS.cell (p:=⟨w1.heap.size+1,k,none⟩) xO).trans gc;have tH:w1.heap.size+1 < w2.heap.size:=Qy xO zS.size;clear zS gfr gc;go_wp2_with fail;go_roundw
   case rel=>exact⟨k+1,by go_num,by omega,Qq (HI.out.store hlt2 (by omega) zR.out rfl)⟩
   case measure=>simp [intOf];omega
  obtain rfl:m=k:=by omega
  go_wp2_with fail;go_ret;refine⟨_,rfl,zL.out.trans HI.out.ext,?_⟩;have h1:=HI.out.row.base_ (b':=w.heap.size) zL.out.size;rw [Nat.sub_self,List.replicate_zero,List.append_nil]at h1;unfold Vq;rw [<-sN.out];exact h1
end Go.Proofs.YtkmclcmnoicagaaGreatDoor
