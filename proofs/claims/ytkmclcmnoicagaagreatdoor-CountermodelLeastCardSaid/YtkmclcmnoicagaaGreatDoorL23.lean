/- The engine's choose: what a type requires is selected. -/
import Derived.Test.YtkmclcmnoicagaaGreatDoorL22
namespace Go.Proofs.YtkmclcmnoicagaaGreatDoor
set_option maxRecDepth 100000
set_option maxHeartbeats 128000000
open Go.RowKit
structure SOk (al:List Bool) (l:List Nat):Prop where
 nd:l.Nodup
 al:∀u∈l,al.getD u false=true
theorem SOk.grow {al:List Bool} {l l':List Nat}(h:SOk al l)(g:Ko al l l'):SOk al l':=⟨g.nd h.nd,g.al h.al⟩
theorem SOk.lt {al:List Bool} {l:List Nat}(h:SOk al l):∀u∈l,u < al.length:=fun u hu=>Xd (h.al u hu)
theorem SOk.len {al:List Bool} {l:List Nat}(h:SOk al l):l.length<=al.length:=Wb al.length l h.nd h.lt
theorem Qn5 {l ls:List Nat} {j:Nat}(hj:j < ls.length):Nz l (ls.take (j+1))=Nh (Nz l (ls.take j)) ((ls.getD j 0:Nat):Int):=by
 unfold Nz;rw [List.take_add_one,Qv hj,List.foldl_append,Qk,Qv hj];rfl
def Zyr(w0:World)(lg:Int)(ks:List Kn)(cs:List Cm)(al:List Bool)(agents:Nat)(l:List Nat)(t:Nat)(e:Ending)(w':World):Prop :=
 (∃r,e=.returned r)/\∃v' l',Gt w0 w' v' l'/\Ko al l l'/\Sel lg ks cs al agents l' t
theorem Qrj(u:Int)(w:World):Calls Tryz.prog 146 (#[.int .i64 u]++ #[]) w fun e w'=>e=.returned (.bool true)/\Qg w w':=by
 show Calls Tryz.prog 146 #[.int .i64 u] w _;go_enter Tryz.func146,Tryz.ntmps146;go_wp2_with fail;go_ret;exact⟨rfl,Qz⟩
theorem Qrz(B u:Nat)(Ah:Option Addr)(ch:Nat)(hs:List Bool)(w:World)(hB:w.cell? ⟨B,2,none⟩=some (.slice Ah hs.length ch))(hb:Sn w Ah ch hs)(hu:u < hs.length):
 Calls Tryz.prog 145 (#[.int .i64 (u:Int)]++ #[.pointer (some ⟨B,0,none⟩)]) w fun e w'=>e=.returned (.bool (!hs.getD u false))/\Qg w w':=by
 show Calls Tryz.prog 145 #[.int .i64 (u:Int),.pointer (some ⟨B,0,none⟩)] w _;obtain⟨ah,rfl,_,hc⟩:=Xx hb hu;have h1:=hb.1;have h2:=hb.2.1;unfold maxLen at h2;have hui:(u:Int) < (hs.length:Int):=by omega
 obtain⟨x,hx⟩:∃x,x=hs.getD u false:=⟨_,rfl⟩;rw [<-hx]at hc⊢;clear hx;go_enter Tryz.func145,Tryz.ntmps145;go_wp2_with fail;go_ret;exact⟨rfl,Qz⟩
theorem Qte(b:Nat)(lg:Int)(base:List (List Nd))(root:List Bool)(ks:List Kn)(cs:List Cm)(alive:List Bool)(agents t:Nat)(w0 w:World)(v:Value)(l:List Nat)
 (hE:Hw w0 b lg base root ks cs alive)(yA:0<=lg/\lg<=6)(ht:t < alive.length)(hm:alive.length<=4096)(rG:∀k∈ks,k.place < 64/\alive.length<=k.holds.length)(oU:∀c∈cs,c.place < 64/\c.x.length=alive.length/\c.y.length=alive.length/\0<=c.group/\c.group < 16)
 (vZ:agents<=4)(hL:Qbd lg ks cs alive t)(hS:Gt w0 w v l)(zO:SOk alive l):
 Calls Tryz.prog 68 #[.pointer (some ⟨b,0,none⟩),.pointer (some ⟨w0.heap.size+1,0,none⟩),.int .u64 (t:Int),.int .i64 (agents:Int)] w (Zyr w0 lg ks cs alive agents l t):=by
 obtain⟨Ab,cb,Ar,cr,Ak,ck,Ac,cc,Aa,ca,d0,d1,d2,d3,d4,d5,xQ,_,_,uS,xK,_⟩:=hE.cells;have HE:=Qq hE;have tG:=Qq rG;have lR:=Qq oU;have HK:=Qq uS;have HC:=Qq xK;have WP:=Qq hL;have HS:=Qq hS;have zC:=Qq zO;have JZ:=uS.1;have zU:=uS.2.1;have wU:=xK.1;have mS:=xK.2.1;unfold maxLen at zU mS;have D0':=Qq d0;have D4:=Qq d4;have x3:=(hS.ext.cell (p:=⟨b,3,none⟩) xQ).trans d3;have xl:=Qy xQ hS.ext.size;have rA:=Qq xQ;have cA:∀(fn:Fn) (first cap:Array Value) (w:World),(Instr.makeFunc fn first cap).run Tryz.prog w=.ok (.func fn first cap) w:=fun _ _ _ _=>rfl
 clear hE uS xK rG oU hL hS zO d0 d1 d2 d3 d4 d5 xQ;go_enter Tryz.func68,Tryz.ntmps68;go_wp2_with fail;clear x3 xl;go_loopw [20] (fun v wr=>∃k:Nat,v=.int .i64 (k:Int)/\k<=ks.length/\Hid (∃v' l',Gt w0 wr v' l'/\Ko alive l l'/\∀(j:Nat) (m:Kn),j < k->ks[j]?=some m->Pz lg ks l' t m)) (fun v _=>ks.length - (intOf v).toNat)
 case atStart=>exact⟨0,rfl,Nat.zero_le _,Qq ⟨v,l,HS.out,Ko.refl,fun j m hj=>absurd hj (by omega)⟩⟩
 case round =>
  obtain⟨k,rfl,hk,zY⟩:=hrel;obtain⟨v1,l1,wQ,vK,lD⟩:=zY.out;have gS:=Qq wQ;have WV:=Qq vK;have IG:=Qq lD;have vC:=Qq (zC.out.grow vK);clear zY wQ vK lD;by_cases hlt2:k < ks.length
  ·have yT:(k:Int) < (ks.length:Int):=by omega
   obtain⟨n,hn⟩:∃n,ks[k]?=some n:=⟨_,Qv hlt2⟩;have ZY:=List.mem_of_getElem? hn;obtain⟨lZ,UJ⟩:=tG.out n ZY;obtain⟨ad,rfl,zA,yL⟩:=Qz8 HK.out hn;obtain⟨vh,c0,c1,c2,rK⟩:=yL.ext gS.out.ext (Qj zA);obtain⟨Ah,ch,rfl,rK⟩:=rK;have RB:=Qq rK;have tN:(ad.add (k*3)).block < wr.heap.size:=by rw [Qt];exact Qy zA gS.out.ext.size
   have HN:=Qq hn;have GP:=Qq (WP.out.know n ZY);have mF:=Qq (show ∀l2,(∀u∈l1,u∈l2)->Pz lg ks l2 t n->∀(j:Nat) (m:Kn),j < k+1->ks[j]?=some m->Pz lg ks l2 t m from fun l2 hs hc j m hj hm=>by
    by_cases e:j < k
    ·exact(IG.out j m e hm).mono hs
    have:j=k:=by omega
    subst this;rw [HN.out]at hm;injection hm with hm;rw [<-hm];exact hc)
   clear hn yL rK ZY;obtain⟨wq,vE⟩:∃v,v=wr:=⟨_,rfl⟩;subst vE;have yV:=Mq t n.place (by omega);have zL:=Qq (show Qg wq (wq.alloc (.cells #[.int .i64 n.agent,.int .i64 (n.place:Int),.slice Ah n.holds.length ch] 136))from Qz.alloc _);have XH:=Qq (Qx2 (show(wq.alloc (.cells #[.int .i64 n.agent,.int .i64 (n.place:Int),.slice Ah n.holds.length ch] 136)).heap[wq.heap.size]?=some (.cells #[.int .i64 n.agent,.int .i64 (n.place:Int),.slice Ah n.holds.length ch] 136 (0,0))from heap_alloc_new _ _));have wP:=Qq (gS.out.next zL.out);have SG:=Qq (Qvj b lg base root ks cs alive n.agent t (fun u=> !n.holds.getD u false) 145 #[.pointer (some ⟨wq.heap.size,0,none⟩)] (fun _ _=>rfl) w0 _ v1 l1 (HE.out.ext wP.out.ext) yA (by omega) hm tG.out wP.out (Qx vC.out.len hm) vC.out.lt (fun W u hu hW=>Qrz wq.heap.size u Ah ch n.holds W ((hW.cell (p:=⟨wq.heap.size,2,none⟩) (by simp)).trans XH.out.2.2.1) ((RB.out.ext (Qz.alloc _)).ext hW) (Qy hu UJ)))
   have OS:=Qq (fun h=>Qtk (al:=alive) (l:=l1) (lg:=lg) (ks:=ks) (a:=n.agent) (t:=t) (wanted:=fun u=> !n.holds.getD u false) h);have aQ:=Qq (Qn4 (al:=alive) (l:=l1) (lg:=lg) (ks:=ks) (a:=n.agent) (t:=t) (wanted:=fun u=> !n.holds.getD u false));obtain⟨l2,pM⟩:∃x,x=El lg ks alive n.agent t (fun u=> !n.holds.getD u false) l1:=⟨_,rfl⟩;rw [<-pM]at SG OS aQ;clear pM;cases yC:t.testBit n.place
   ·rw [yC]at yV;simp only [Bool.not_false]at yV;have lL:=Qq (show Pz lg ks l2 t n from fun hf=>by
     obtain⟨u,h1,h2,h3⟩:=OS.out (GP.out hf);exact⟨u,h1,by simpa using h2,h3⟩)
    clear yC;go_wp2_with fail;refine SG.out.mono ?_;rintro e w3 ⟨⟨r,rfl⟩,v2,yD,_⟩;have qT:=Qq yD;clear yD;go_wp2_with fail;go_roundw
    case rel=>exact⟨k+1,by go_num,by omega,Qq ⟨v2,l2,qT.out,WV.out.trans aQ.out,mF.out l2 aQ.out.sub lL.out⟩⟩
    case measure=>simp [intOf];omega
   rw [yC]at yV;simp only [Bool.not_true]at yV;have lL:=Qq (show Pz lg ks l1 t n from fun hf=>by rw [yC]at hf;cases hf);clear yC;go_wp2_with fail;go_roundw
   case rel=>exact⟨k+1,by go_num,by omega,Qq ⟨v1,l1,wP.out,WV.out,mF.out l1 (fun _ h=>h) lL.out⟩⟩
   case measure=>simp [intOf];omega
  obtain rfl:ks.length=k:=by omega
  have RF:=Qq (show ∀m∈ks,Pz lg ks l1 t m from fun m hm=>by
   obtain⟨j,hj,e⟩:=List.getElem_of_mem hm;exact IG.out j m hj (by rw [Qv hj,e]))
  have x4:=(gS.out.ext.cell (p:=⟨b,4,none⟩) rA.out).trans D4.out;have xl:=Qy rA.out gS.out.ext.size;clear IG;obtain⟨w1,sY⟩:∃v,v=wr:=⟨_,rfl⟩;subst sY;go_wp2_with fail;clear x4 xl;go_loopw [43] (fun v wr=>∃k:Nat,v=.int .i64 (k:Int)/\k<=cs.length/\Hid (∃v' l',Gt w0 wr v' l'/\Ko alive l1 l'/\∀(j:Nat) (m:Cm),j < k->cs[j]?=some m->Pq lg ks alive l' t m)) (fun v _=>cs.length - (intOf v).toNat)
  case atStart=>exact⟨0,rfl,Nat.zero_le _,Qq ⟨v1,l1,gS.out,Ko.refl,fun j m hj=>absurd hj (by omega)⟩⟩
  case round =>
   clear gS;obtain⟨k,rfl,hk,zY⟩:=hrel;obtain⟨v2,l2,yD,uP,iF⟩:=zY.out;have wP:=Qq yD;have cT:=Qq uP;have IF:=Qq iF;have YX:=Qq (vC.out.grow uP);clear zY yD uP iF;by_cases hlt2:k < cs.length
   ·have yT:(k:Int) < (cs.length:Int):=by omega
    obtain⟨n,hn⟩:∃n,cs[k]?=some n:=⟨_,Qv hlt2⟩;have ZY:=List.mem_of_getElem? hn;obtain⟨lZ,vD,kN,cF,vK⟩:=lR.out n ZY;obtain⟨ad,rfl,zA,yL⟩:=Qb8 HC.out hn;obtain⟨vx,vy,c0,c1,c2,c3,c4,vL,qQ⟩:=yL.ext wP.out.ext (Qj zA);have vW:=Qq vL;have fV:=Qq qQ;obtain⟨Ax,cx,rfl,_⟩:=vL;obtain⟨Ay,cy,rfl,_⟩:=qQ;have tN:(ad.add (k*5)).block < wr.heap.size:=by rw [Qt];exact Qy zA wP.out.ext.size
    have HN:=Qq hn;have fD:=Qq (WP.out.com n ZY);have mF:=Qq (show ∀l3,(∀u∈l2,u∈l3)->Pq lg ks alive l3 t n->∀(j:Nat) (m:Cm),j < k+1->cs[j]?=some m->Pq lg ks alive l3 t m from fun l3 hs hc j m hj hm=>by
     by_cases e:j < k
     ·exact(IF.out j m e hm).mono hs
     have:j=k:=by omega
     subst this;rw [HN.out]at hm;injection hm with hm;rw [<-hm];exact hc)
    clear hn yL ZY;obtain⟨wq,vE⟩:∃v,v=wr:=⟨_,rfl⟩;subst vE;have yW:n.place < 64:=lZ;have yV:=Mq t n.place (by omega);have zL:=Qq (show Qg wq (wq.alloc (.cells #[.int .i64 (n.place:Int),.int .i64 n.group,.slice Ax n.x.length cx,.slice Ay n.y.length cy,.int .u64 (n.parts:Int)] 138))from Qz.alloc _);have qT:=Qq (wP.out.next zL.out);have WI:=Qq (Qnj b lg base root ks cs alive n t (.slice Ax n.x.length cx) (.slice Ay n.y.length cy) _ (HE.out.ext qT.out.ext) yA (by omega) hm tG.out (vW.out.ext (Qz.alloc _)) (fV.out.ext (Qz.alloc _)) vD kN ⟨cF,vK⟩ (by omega));cases yC:t.testBit n.place
    ·rw [yC]at yV;simp only [Bool.not_false]at yV;have FE:=Qq (Ek.1 (fD.out yC));clear yC vD kN cF vK;go_wp2_with fail;refine WI.out.mono ?_;rintro e w3 pI;rcases pI with⟨rfl,zF,nH⟩|⟨ad3,c3',ls,rfl,zF,zR,zQ,cC,NF,ZH⟩
     ·exact absurd FE.out nH
     have zD:=Qq zF;have tE:=Qq zR;have WR:=Qq cC;have lN:=Qq NF;have iP:=Qq (qT.out.next zF);have gV:=Qq (show ∀u∈ls,alive.getD u false=true from fun u hu=>by
      obtain⟨a,ha⟩:=Qg8 ls cC u hu;exact Zqe ha)
     obtain⟨pg,cap2,wF,tD,aE,kW,tC,_⟩:=Un zR (j:=0) (by cases ls;exact absurd rfl zQ;exact Nat.succ_pos _) rfl;injection wF with hsl2a _ hsl2b;injection hsl2a with hsl2a;subst hsl2a hsl2b;unfold maxLen at tC;have GK:=Qq (show w0.heap.size+1 < pg/\v2.ownBlock≠some pg by
      have h1:=Qn wP.out.box;have h2:(wq.alloc (.cells #[.int .i64 (n.place:Int),.int .i64 n.group,.slice Ax n.x.length cx,.slice Ay n.y.length cy,.int .u64 (n.parts:Int)] 138)).heap.size=wq.heap.size+1:=by simp
      rw [h2]at aE;refine⟨by omega,fun e=> ?_⟩;have:=(wP.out.row.lt _ e).2
      omega)
     have I5:=Qq (show ∃u,ls[0]?=some u by cases ls;exact absurd rfl zQ;exact⟨_,rfl⟩);have KT:=Qq tD;clear zR cC NF ZH zF zQ aE tD;go_wp2_with fail;go_loopw [58] (fun v wr=>∃k:Nat,v=.int .i64 (k:Int)/\k<=ls.length/\Hid (∃v',Gt w0 wr v' (Nz l2 (ls.take k))/\Lt w0 w3 v2 wr v')) (fun v _=>ls.length - (intOf v).toNat)
     case atStart=>exact⟨0,rfl,Nat.zero_le _,Qq ⟨v2,iP.out,Lt.of Qz⟩⟩
     case round =>
      clear iP;obtain⟨j,rfl,hj,zY⟩:=hrel;obtain⟨v4,XV,S0⟩:=zY.out;have iP:=Qq XV;have cV:=Qq S0;have QJ:=Qq (Qyh (al:=alive) (ls.take j) l2 (fun u hu=>gV.out u (List.mem_of_mem_take hu)));have GO:=Qq (YX.out.grow QJ.out);clear zY XV S0;by_cases mC:j < ls.length
      ·have lD:(j:Int) < (ls.length:Int):=by omega
       have P1:=Zm tE.out (w':=wr) fun g hg=>by
        injection hg with hg;subst hg;exact cV.out.blk pg KT.out (show pg≠w0.heap.size by have:=GK.out.1;omega) (show pg≠w0.heap.size+1 by have:=GK.out.1;omega) GK.out.2
       obtain⟨g2,cap3,kV,aC,_,_,_,a0⟩:=Un P1 mC rfl;injection kV with hsl3a _ hsl3b;injection hsl3a with hsl3a;injection hsl3a with hsl3a;subst hsl3a hsl3b;have oC:ls.getD j 0∈ls:=by rw [Qk,Qv mC];exact List.getElem_mem _
       have qH:=Xd (gV.out _ oC);have cL:=Qq (show Nz l2 (ls.take (j+1))=Nh (Nz l2 (ls.take j)) ((ls.getD j 0:Nat):Int)from Qn5 mC);clear oC P1;obtain⟨u,hu⟩:∃u,u=ls.getD j 0:=⟨_,rfl⟩;rw [<-hu]at a0 qH cL;have hu4:(u:Int)<=4096:=by omega
       have cD:(Nz l2 (ls.take j)).length<=4096:=Qx GO.out.len hm;obtain⟨l4,MT⟩:∃x,x=Nz l2 (ls.take j):=⟨_,rfl⟩;rw [<-MT]at iP cL cD;clear MT hu QJ GO;go_wp2_with fail;refine(Qx1 w0 _ v4 l4 (u:Int) iP.out hu4 cD).mono ?_;rintro e w5 ⟨⟨r,rfl⟩,v5,RO,xH⟩;have VZ:=Qq RO;have QQ:=Qq (cV.out.trans xH);clear RO xH;go_wp2_with fail;go_roundw
       case rel=>exact⟨j+1,by go_num,by omega,Qq ⟨v5,by rw [cL.out];exact VZ.out,QQ.out⟩⟩
       case measure=>simp [intOf];omega
      obtain rfl:ls.length=j:=by omega
      have lL:=Qq (show Pq lg ks alive (Nz l2 ls) t n from fun _=>by
       obtain⟨u,hu⟩:=I5.out;exact⟨u,(Qg9 ls u hu WR.out).mono (fun a b h=>⟨h.1,Qkp ls l2 b (Or.inl h.2)⟩),lN.out u hu⟩)
      rw [List.take_length]at iP QJ;clear GO;go_wp2_with fail;go_roundw
      case rel=>exact⟨k+1,by go_num,by omega,Qq ⟨v4,Nz l2 ls,iP.out,cT.out.trans QJ.out,mF.out _ QJ.out.sub lL.out⟩⟩
      case measure=>simp [intOf];omega
    rw [yC]at yV;simp only [Bool.not_true]at yV;have lL:=Qq (show Pq lg ks alive l2 t n from fun hf=>by rw [yC]at hf;cases hf);clear yC vD kN cF vK;go_wp2_with fail;go_roundw
    case rel=>exact⟨k+1,by go_num,by omega,Qq ⟨v2,l2,qT.out,cT.out,mF.out l2 (fun _ h=>h) lL.out⟩⟩
    case measure=>simp [intOf];omega
   obtain rfl:cs.length=k:=by omega
   have RG:=Qq (show ∀m∈cs,Pq lg ks alive l2 t m from fun m hm=>by
    obtain⟨j,hj,e⟩:=List.getElem_of_mem hm;exact IF.out j m hj (by rw [Qv hj,e]))
   clear IF;obtain⟨w2,jC⟩:∃v,v=wr:=⟨_,rfl⟩;subst jC;go_wp2_with fail;go_loopw [68] (fun v wr=>∃k:Nat,v=.int .i64 (k:Int)/\k<=agents/\Hid (∃v' l',Gt w0 wr v' l'/\Ko alive l2 l'/\∀j,j < k->Cs lg ks l' t j)) (fun v _=>agents - (intOf v).toNat)
   case atStart=>exact⟨0,rfl,Nat.zero_le _,Qq ⟨v2,l2,wP.out,Ko.refl,fun j hj=>absurd hj (by omega)⟩⟩
   case round =>
    clear wP;obtain⟨k,rfl,hk,zY⟩:=hrel;obtain⟨v3,l3,rO,NN,Q6⟩:=zY.out;have qT:=Qq rO;have SM:=Qq NN;have AA:=Qq Q6;have PO:=Qq (YX.out.grow NN);clear zY rO NN Q6;by_cases hlt2:k < agents
    ·have yT:(k:Int) < (agents:Int):=by omega
     have x0:=(qT.out.ext.cell (p:=⟨b,0,none⟩) rA.out).trans D0'.out;have xl:=Qy rA.out qT.out.ext.size;have mF:=Qq (show ∀l4,(∀u∈l3,u∈l4)->Cs lg ks l4 t k->∀j,j < k+1->Cs lg ks l4 t j from fun l4 hs hc j hj=>by
      by_cases e:j < k
      ·exact(AA.out j e).mono hs
      have:j=k:=by omega
      subst this;exact hc)
     have SG:=Qq (fun W (hW:Qg wr W)=>Qvj b lg base root ks cs alive (k:Int) t (fun _=>true) 146 #[] (fun _ _=>rfl) w0 W v3 l3 (HE.out.ext (qT.out.next hW).ext) yA (by omega) hm tG.out (qT.out.next hW) (Qx PO.out.len hm) PO.out.lt (fun W u _ _=>Qrj (u:Int) W));have OS:=Qq (fun h=>Qtk (al:=alive) (l:=l3) (lg:=lg) (ks:=ks) (a:=(k:Int)) (t:=t) (wanted:=fun _=>true) h);have aQ:=Qq (Qn4 (al:=alive) (l:=l3) (lg:=lg) (ks:=ks) (a:=(k:Int)) (t:=t) (wanted:=fun _=>true));have gR:=Qq (fun h=>WP.out.ser h k (by omega));obtain⟨l4,cD⟩:∃x,x=El lg ks alive (k:Int) t (fun _=>true) l3:=⟨_,rfl⟩
     rw [<-cD]at SG OS aQ;clear cD;have lL:=Qq (show Cs lg ks l4 t k from fun hf=>by
      obtain⟨u,h1,_,h3⟩:=OS.out (gR.out hf);exact⟨u,h1,h3⟩)
     cases h1:lg==1
     ·cases h5:lg==5
      ·have fH:=Qq (show Cs lg ks l3 t k from fun hf=>by
        rcases hf with e|e
        ·rw [e]at h1;cases h1
        rw [e]at h5;cases h5)
       go_wp2_with fail;go_roundw
       case rel=>exact⟨k+1,by go_num,by omega,Qq ⟨v3,l3,qT.out,SM.out,mF.out l3 (fun _ h=>h) fH.out⟩⟩
       case measure=>simp [intOf];omega
      go_wp2_with fail;refine(SG.out _ Qz).mono ?_;rintro e w5 ⟨⟨r,rfl⟩,v4,XV,_⟩;have iP:=Qq XV;clear XV;go_wp2_with fail;go_roundw
      case rel=>exact⟨k+1,by go_num,by omega,Qq ⟨v4,l4,iP.out,SM.out.trans aQ.out,mF.out l4 aQ.out.sub lL.out⟩⟩
      case measure=>simp [intOf];omega
     go_wp2_with fail;refine(SG.out _ Qz).mono ?_;rintro e w5 ⟨⟨r,rfl⟩,v4,XV,_⟩;have iP:=Qq XV;clear XV;go_wp2_with fail;go_roundw
     case rel=>exact⟨k+1,by go_num,by omega,Qq ⟨v4,l4,iP.out,SM.out.trans aQ.out,mF.out l4 aQ.out.sub lL.out⟩⟩
     case measure=>simp [intOf];omega
    obtain rfl:agents=k:=by omega
    go_wp2_with fail;exact bodyPost_end (v:=.tuple #[]) (results_none rfl _ _ _) rfl ⟨⟨_,rfl⟩,v3,l3,qT.out,WV.out.trans (cT.out.trans SM.out),fun m hm=>(RF.out m hm).mono (cT.out.trans SM.out).sub,fun m hm=>(RG.out m hm).mono SM.out.sub,AA.out⟩
theorem Qpw {l:List (List Nd)} {k:Nat} {s:List Nd}(h:l[k]?=some s)(a:List Nd):(l.take (k+1)).foldl Bf a=Bf ((l.take k).foldl Bf a) s:=by
 rw [Kx h,List.foldl_append];rfl
theorem Qmh(ad:Addr)(k:Nat):ad.add (k+1)=⟨ad.block,ad.off+1+k,none⟩:=by
 unfold Addr.add;simp;omega
theorem Qah {α:Type} {x:α} {r:List α} {k:Nat} {s:α}(h:r[k]?=some s):(x :: r)[k+1]?=some s:=by simpa using h
theorem Qcz(v1 v2:Value)(l:List (List Nd))(e0:List Nd)(wb w:World)(h1:Df w v1 l)(xO:Yc wb w v2 e0):
 Calls Tryz.prog 177 #[v1,v2,.func (Fn.func 71) #[] #[]] w fun e w'=>∃u,e=.returned u/\Yc wb w' u (Qbn e0 l):=by
 have H1:=Qq h1;have H2:=Qq xO;have h2:=xO.fml;obtain⟨A,c,rfl,xU,yP,hr⟩:=h1;obtain⟨A2,c2,rfl,_⟩:=Qc h2;unfold maxLen at yP;have HR:=Qq hr;clear hr h2 xO;cases l with
 |nil =>
  go_enter Tryz.func177,Tryz.ntmps177;go_wp2_with fail;go_ret;exact⟨_,rfl,H2.out⟩
 |cons f r =>
  obtain⟨ad,rfl,yV,xV⟩:=HR.out (by simp);obtain⟨u0,JM,S1⟩:=xV 0 f rfl;have HC:=Qq xV;have XC:=Qq S1;have hu0':w.cell? ad=some u0:=by rw [<-JM];congr 1
  clear xV S1 HR H1 JM;obtain⟨m,hm⟩:∃m,m=r.length:=⟨_,rfl⟩;rw [show(f :: r).length=m+1 by simp [hm]]at xU⊢;have HM:=Qq hm;have lC:(((m+1:Nat):Int)==0)=false:=by rw [beq_eq_false_iff_ne];omega
  have cD:(((m:Nat):Int)+1==0)=false:=by rw [beq_eq_false_iff_ne];omega
  have pM:(0:Int) < ((m+1:Nat):Int):=by omega
  clear hm;by_cases wU:c=1
  ·subst wU;obtain rfl:0=m:=by omega
   go_enter Tryz.func177,Tryz.ntmps177;go_wp2_with fail;refine(Fk _ f _ XC.out).mono ?_;rintro e w1 ⟨u,rfl,hm⟩;have oQ:=Qq hm;clear hm;go_wp2_with fail;have fC:=Qq (List.length_eq_zero_iff.1 HM.out.symm);go_loopw [7,21] (fun vf vi wr=>vi=.int .i64 0/\vf=u/\Hid (Qg w1 wr)) (fun _ i _=>0)
   case atStart=>exact⟨rfl,rfl,Qq Qz⟩
   case round =>
    obtain⟨rfl,rfl,HX⟩:=hrel;go_wp2_with fail;go_ret;exact⟨_,rfl,by rw [fC.out];exact(oQ.out.before H2.out.ext).after HX.out⟩
  have UW:1 < c:=by omega
  go_enter Tryz.func177,Tryz.ntmps177;go_wp2_with fail;refine(Fk _ f _ XC.out).mono ?_;rintro e w1 ⟨u,rfl,hm⟩;have oQ:=Qq hm;clear hm;go_wp2_with fail;go_loopw [7,21] (fun vf vi wr=>∃k:Nat,k<=m/\vi=.int .i64 (k:Int)/\Hid (Yc w wr vf ((r.take k).foldl Bf (Qf f)))) (fun _ i _=>m - (intOf i).toNat)
  case atStart=>exact⟨0,Nat.zero_le _,rfl,oQ⟩
  case round =>
   obtain⟨k,hk,rfl,zY⟩:=hrel;have HX:=Qq zY.out.ext;have HF:=Qq zY.out.fml;obtain⟨Af,cf,rfl,_⟩:=Qc zY.out.fml;by_cases hlt2:k < m
   ·obtain⟨s,hs⟩:∃s,r[k]?=some s:=⟨_,List.getElem?_eq_getElem (by rw [<-HM.out];exact hlt2)⟩;obtain⟨us,tQ,eG⟩:=HC.out (k+1) s (Qah hs);rw [Qmh]at tQ;have a0:=(HX.out.cell (p:=⟨ad.block,ad.off+1+k,none⟩) yV).trans tQ;have WX:=Qq (eG.ext HX.out);have HS:=Qq hs;obtain⟨As,cs,rfl,_⟩:=Qc eG;clear hs eG tQ;go_wp2_with fail;refine(Qj0 _ _ _ _ _ HF.out WX.out).mono ?_;rintro e w2 ⟨u2,rfl,xO⟩;have vV:=Qq xO;clear xO;go_wp2_with fail;go_roundw
    case rel=>exact⟨k+1,by omega,by go_num,Qq (by rw [Qpw HS.out];exact vV.out.before HX.out)⟩
    case measure=>simp [intOf];omega
   obtain rfl:m=k:=by omega
   have HE:=Qq (show r.take m=r by rw [HM.out];exact List.take_of_length_le (Nat.le_refl _));go_wp2_with fail;go_ret;refine⟨.slice Af ((r.take m).foldl Bf (Qf f)).length cf,rfl,?_⟩;have:=zY.out;rw [HE.out]at this⊢;exact this.before H2.out.ext
theorem Qom(v:Value)(l:List (List Nd))(w:World)(h:Df w v l):
 Calls Tryz.prog 122 #[v] w fun e w'=>∃u,e=.returned u/\Yc w w' u (Qvk l):=by
 have H:=Qq h;obtain⟨A,c,rfl,xU,yP,hr⟩:=h;clear xU yP hr;go_enter Tryz.func122,Tryz.ntmps122;go_wp2_with fail;refine(Qn0 _).mono ?_;rintro e w1 ⟨u,rfl,hm⟩;have HM:=Qq hm;clear hm;go_wp2_with fail;refine(Qcz _ _ l _ _ _ (H.out.ext HM.out.ext) HM.out).mono ?_;rintro e w2 ⟨u2,rfl,xO⟩;have vV:=Qq xO;clear xO;go_wp2_with fail;go_ret;exact⟨_,rfl,vV.out⟩
theorem Xw {w:World} {b j:Nat} {cs:Array Value} {t:TypeId} {fr:Nat×Nat} {v:Value}(h:w.heap[b]?=some (.cells cs t fr))(hv:cs[j]?=some v):w.setCell ⟨b,j,none⟩ v=w:=by
 have e:(w.setCell ⟨b,j,none⟩ v).heap=w.heap:=by
  refine Array.ext_getElem? fun i=> ?_
  simp only [World.setCell,Array.getElem?_modify];by_cases hb:b=i
  ·subst hb;rw [h];simp only [if_true,Option.map_some,Option.some.injEq,Obj.cells.injEq,and_true,Option.isSome_none];show cs.setIfInBounds j v=cs;refine Array.ext_getElem? fun k=> ?_
   rw [Array.getElem?_setIfInBounds];by_cases hk:j=k
   ·subst hk;rw [if_pos rfl]
    split
    ·exact hv.symm
    rename_i hn;rw [Array.getElem?_eq_none (by omega)]
   rw [if_neg hk]
  rw [if_neg hb]
 unfold World.setCell at e⊢;simp only at e⊢;rw [e]
theorem Yn {P:Program} {fn:Func} {t u v:Tmp} {ty:TypeId}(h:fn.results=#[.cell t ty,.tmp u,.tmp v])(tmps:Array Value)(w:World) {b o:Nat}(ht:tmps.getD t undef=.pointer (some ⟨b,o,none⟩)) {cs:List Value} {d:TypeDesc}(hc:w.rangeAt b o cs)
 (hu:P.underlying ty=some d)(hd:d.isRow=true)(hi:(P.info? ty).map (·.size)=some cs.length):(results fn tmps).run P w=.ok (.tuple #[.agg cs.toArray,tmps.getD u undef,tmps.getD v undef]) w:=by
 have kS:tmps[t]?.getD undef=.pointer (some ⟨b,o,none⟩):=by rw [<-Array.getD_eq_getD_getElem?];exact ht
 simp [results,h,kS,asAddr,run_loadVar_mid w b o ty cs d hc hu hd hi]
theorem Jv {w:World} {b:Nat} {cs:Array Value} {t:TypeId}(h:w.heap[b]?=some (.cells cs t (0,0))):w.rangeAt b 0 cs.toList:=fun j v hj=>by
 have:cs[j]?=some v:=by simpa using hj
 simp [World.cell?,h,this]
def Uv(f:List Nd):List Nd:=bif decide (4<=(Qw f).op)then Jn f (Qw f).x else []
def Dw(f:List Nd):List Nd:=bif (Qw f).op==13 then Jn f (Qw f).y else []
theorem Mb(w:World):Jo w (.slice none 0 0) []:=⟨⟨none,0,rfl,Nat.le_refl _,by unfold maxLen;omega,fun h=>absurd rfl h⟩,by simp⟩
theorem Ig(v:Value)(f:List Nd)(w:World)(h:Jo w v f)(h0:0 < f.length):
 Calls Tryz.prog 69 #[v] w fun e w'=>∃u1 u2,e=.returned (.tuple #[(Qw f).val,u1,u2])/\Qg w w'/\Jo w' u1 (Uv f)/\Jo w' u2 (Dw f):=by
 have H:=Qq h;obtain⟨⟨A,c,rfl,xU,yP,zN⟩,zO⟩:=h;unfold maxLen at yP;obtain⟨ad,rfl,zI,zJ⟩:=zN (by intro e;rw [e]at h0;simp at h0);have eB:=Lx h0;obtain⟨c0,c1,c2,c3,c4,c5⟩:=zJ _ _ eB;have iG:((f.length:Int) - 1) < (f.length:Int):=by omega
 have jL:(0:Int)<=(f.length:Int) - 1:=by omega
 have e1:((f.length:Int) - 1).toNat=f.length - 1:=by omega
 have zA:(ad.add ((f.length - 1)*6)).block < w.heap.size:=by rw [Qt];exact zI
 clear zN zO zJ eB;obtain⟨nn,uN⟩:∃nn,nn=Qw f:=⟨_,rfl⟩;rw [<-uN]at c0 c1 c2 c3 c4 c5;have HA:=Qq (show Uv f=bif decide (4<=nn.op)then Jn f nn.x else [] by rw [uN];rfl);have HB:=Qq (show Dw f=bif nn.op==13 then Jn f nn.y else [] by rw [uN];rfl);have HN:=Qq uN;clear uN;have zL:=Qq (show Qg w (w.alloc (.cells #[.int .i64 nn.op,.int .i64 nn.i,.int .i64 nn.e,.int .i64 nn.g,.int .i64 nn.x,.int .i64 nn.y] 71))from Qz.alloc _);have mD:=Qq (show(w.alloc (.cells #[.int .i64 nn.op,.int .i64 nn.i,.int .i64 nn.e,.int .i64 nn.g,.int .i64 nn.x,.int .i64 nn.y] 71)).heap[w.heap.size]?=some (.cells #[.int .i64 nn.op,.int .i64 nn.i,.int .i64 nn.e,.int .i64 nn.g,.int .i64 nn.x,.int .i64 nn.y] 71 (0,0))from heap_alloc_new _ _)
 have sM:nn.val=.agg [.int .i64 nn.op,.int .i64 nn.i,.int .i64 nn.e,.int .i64 nn.g,.int .i64 nn.x,.int .i64 nn.y].toArray:=rfl;have HV:=Qq sM;clear sM;by_cases h4:4<=nn.op
 ·by_cases xL:nn.op=13
  ·have bC:=Qq (show Uv f=Jn f nn.x by rw [HA.out,decide_eq_true h4];rfl);have bB:=Qq (show Dw f=Jn f nn.y by rw [HB.out,show(nn.op==13)=true by rw [xL];rfl];rfl);have hd:(nn.op==13)=true:=by rw [xL];rfl
   clear xL;go_enter Tryz.func69,Tryz.ntmps69;go_wp2_with fail;refine(Ik _ f nn.x _ (H.out.ext zL.out)).mono ?_;rintro e w1 ⟨u1,rfl,uR⟩;have oQ:=Qq uR;obtain⟨⟨k0,k1,k2,k3,k4,k5⟩,_,kb⟩:=Vs ((uR.ext.block (by simp)).trans mD.out);clear uR;go_wp2_with fail;refine(Ik _ f nn.y _ (H.out.ext (zL.out.trans oQ.out.ext))).mono ?_;rintro e w2 ⟨u2,rfl,xO⟩;have vV:=Qq xO;have HZ:=Qq (show w2.heap[w.heap.size]?=some (.cells #[.int .i64 nn.op,.int .i64 nn.i,.int .i64 nn.e,.int .i64 nn.g,.int .i64 nn.x,.int .i64 nn.y] 71 (0,0))from(xO.ext.block (by omega)).trans ((oQ.out.ext.block (by simp)).trans mD.out))
   obtain⟨⟨q0,q1,q2,q3,q4,q5⟩,qf,qb⟩:=Vs HZ.out;clear xO;go_wp2_with fail
   (try simp only [Exit.inBlock,Exit.then])
   rw [show(w2).setCell ⟨w.heap.size,0,none⟩ (.int .i64 nn.op)=w2 from Xw HZ.out rfl,show(w2).setCell ⟨w.heap.size,1,none⟩ (.int .i64 nn.i)=w2 from Xw HZ.out rfl,show(w2).setCell ⟨w.heap.size,2,none⟩ (.int .i64 nn.e)=w2 from Xw HZ.out rfl,show(w2).setCell ⟨w.heap.size,3,none⟩ (.int .i64 nn.g)=w2 from Xw HZ.out rfl,show(w2).setCell ⟨w.heap.size,4,none⟩ (.int .i64 nn.x)=w2 from Xw HZ.out rfl,show(w2).setCell ⟨w.heap.size,5,none⟩ (.int .i64 nn.y)=w2 from Xw HZ.out rfl];refine bodyPost_ret (Yn Tryz.results69 _ _ rfl (Jv HZ.out) Tryz.underlying71 rfl (by kernel_rfl)) rfl ?_
   exact⟨u1,u2,by rw [<-HN.out,HV.out] <;> rfl,zL.out.trans (oQ.out.ext.trans vV.out.ext),by rw [bC.out];exact oQ.out.fml.ext vV.out.ext,by rw [bB.out];exact vV.out.fml⟩
  have hd:(nn.op==13)=false:=by simpa using xL
  have bC:=Qq (show Uv f=Jn f nn.x by rw [HA.out,decide_eq_true h4];rfl);have bB:=Qq (show Dw f= [] by rw [HB.out,hd];rfl);clear xL;go_enter Tryz.func69,Tryz.ntmps69;go_wp2_with fail;refine(Ik _ f nn.x _ (H.out.ext zL.out)).mono ?_;rintro e w2 ⟨u1,rfl,uR⟩;have oQ:=Qq uR;have HZ:=Qq (show w2.heap[w.heap.size]?=some (.cells #[.int .i64 nn.op,.int .i64 nn.i,.int .i64 nn.e,.int .i64 nn.g,.int .i64 nn.x,.int .i64 nn.y] 71 (0,0))from(uR.ext.block (by simp)).trans mD.out);obtain⟨⟨q0,q1,q2,q3,q4,q5⟩,qf,kb⟩:=Vs HZ.out;clear uR;go_wp2_with fail
  (try simp only [Exit.inBlock,Exit.then])
  rw [show(w2).setCell ⟨w.heap.size,0,none⟩ (.int .i64 nn.op)=w2 from Xw HZ.out rfl,show(w2).setCell ⟨w.heap.size,1,none⟩ (.int .i64 nn.i)=w2 from Xw HZ.out rfl,show(w2).setCell ⟨w.heap.size,2,none⟩ (.int .i64 nn.e)=w2 from Xw HZ.out rfl,show(w2).setCell ⟨w.heap.size,3,none⟩ (.int .i64 nn.g)=w2 from Xw HZ.out rfl,show(w2).setCell ⟨w.heap.size,4,none⟩ (.int .i64 nn.x)=w2 from Xw HZ.out rfl,show(w2).setCell ⟨w.heap.size,5,none⟩ (.int .i64 nn.y)=w2 from Xw HZ.out rfl];refine bodyPost_ret (Yn Tryz.results69 _ _ rfl (Jv HZ.out) Tryz.underlying71 rfl (by kernel_rfl)) rfl ?_
  exact⟨u1,_,by rw [<-HN.out,HV.out] <;> rfl,zL.out.trans oQ.out.ext,by rw [bC.out];exact oQ.out.fml,by rw [bB.out];exact Mb _⟩
 have hd:(nn.op==13)=false:=by rw [beq_eq_false_iff_ne];omega
 have bC:=Qq (show Uv f= [] by rw [HA.out,decide_eq_false h4];rfl);have bB:=Qq (show Dw f= [] by rw [HB.out,hd];rfl);go_enter Tryz.func69,Tryz.ntmps69;go_wp2_with fail
 (try simp only [Exit.inBlock,Exit.then])
 refine bodyPost_ret (Yn Tryz.results69 _ _ rfl (Jv mD.out) Tryz.underlying71 rfl (by kernel_rfl)) rfl ?_;exact⟨_,_,by rw [<-HN.out,HV.out] <;> rfl,zL.out,by rw [bC.out];exact Mb _,by rw [bB.out];exact Mb _⟩
def Qml(a:Int)(f:List Nd):List Nd:=Gp a (Qvi (Uv f) (Bf (Dw f) f))
theorem Qja(a:Int)(ha:Vm a)(v:Value)(f:List Nd)(w:World)(h:Jo w v f)(h0:0 < f.length):
 Calls Tryz.prog 127 #[.int .i64 a,v] w fun e w'=>∃u,e=.returned u/\Yc w w' u (Qml a f):=by
 have H:=Qq h;obtain⟨A,c,rfl,_⟩:=Qc h;obtain⟨nn,uN⟩:∃nn,nn=Qw f:=⟨_,rfl⟩;have HN:=Qq uN;clear h uN;go_enter Tryz.func127,Tryz.ntmps127;go_wp2_with fail;refine(Ig _ f _ H.out h0).mono ?_;rintro e w1 ⟨u1,u2,rfl,zP,nL,rI⟩;have zM:=Qq zP;have XB:=Qq nL;have XA:=Qq rI;rw [<-HN.out];unfold Nd.val;obtain⟨A1,c1,rfl,_⟩:=Qc nL;obtain⟨A2,c2,rfl,_⟩:=Qc rI;clear zP nL rI;go_wp2_with fail;refine(Qj0 _ _ _ _ _ (XA.out.ext (Qz.alloc _)) (H.out.ext (zM.out.alloc _))).mono ?_;rintro e w2 ⟨u3,rfl,jH⟩;have mY:=Qq jH;clear jH;go_wp2_with fail;refine(Qgy _ _ _ _ _ (XB.out.ext ((Qz.alloc _).trans mY.out.ext)) mY.out.fml).mono ?_
 rintro e w3 ⟨u4,rfl,oH⟩;have fK:=Qq oH;clear oH;go_wp2_with fail;refine(Ml a ha _ _ _ fK.out.fml).mono ?_;rintro e w4 ⟨u5,rfl,MP⟩;have YZ:=Qq MP;clear MP;go_wp2_with fail;go_ret;exact⟨_,rfl,YZ.out.before ((zM.out.alloc _).trans (mY.out.ext.trans fK.out.ext))⟩
theorem Qlr(B:Nat)(u gv:Value)(s g:List Nd)(w:World)(hs:Ew w u s)(hB:w.cell? ⟨B,0,none⟩=some gv)(hg:Ew w gv g):
 Calls Tryz.prog 179 (#[u]++ #[.pointer (some ⟨B,0,none⟩)]) w fun e w'=>e=.returned (.bool (decide (s=g)))/\Qg w w':=by
 have HS:=Qq hs;have HG:=Qq hg;obtain⟨A,c,rfl,_⟩:=hs;obtain⟨A2,c2,rfl,_⟩:=hg;have HE:=Qq (show decide (s=g)=decide (g=s) by rw [decide_eq_decide];exact eq_comm);show Calls Tryz.prog 179 #[.slice A s.length c,.pointer (some ⟨B,0,none⟩)] w _;go_enter Tryz.func179,Tryz.ntmps179;go_wp2_with(go_at_call 180;refine(Qt7 _ _ g s _ (by exact HG.out.ext (by repeat(first|exact Qz|assumption|apply Qg.alloc|apply Qg.drew))) (by exact HS.out.ext (by repeat(first|exact Qz|assumption|apply Qg.alloc|apply Qg.drew)))).mono ?_;rintro e w1 ⟨rfl,hx⟩);go_ret;exact⟨by rw [HE.out] <;> rfl,by first|exact hx|exact Qg.trans (by repeat(first|exact Qz|assumption|apply Qg.alloc|apply Qg.drew)) hx⟩
theorem Qz7(v gv:Value)(l:List (List Nd))(g:List Nd)(w:World)(hl:Df w v l)(hg:Jo w gv g):
 Calls Tryz.prog 128 #[v,gv] w fun e w'=>e=.returned (.int .i64 (Yx l g))/\Qg w w':=by
 have HL:=Qq hl;have HG:=Qq hg;obtain⟨A,c,rfl,_⟩:=hl;obtain⟨A2,c2,rfl,_⟩:=Qc hg;clear hg;go_enter Tryz.func128,Tryz.ntmps128;go_wp2_with fail;refine(Qls 179 _ (fun _ _=>rfl) (fun s=>decide (s=g)) _ l _ (HL.out.ext (by repeat(first|exact Qz|assumption|apply Qg.alloc|apply Qg.drew))) (fun W u s hx hs=>Qlr w.heap.size u _ s g W hs.1 ((hx.cell (p:=⟨w.heap.size,0,none⟩) (by simp)).trans (by simp)) (HG.out.1.ext ((Qz.alloc _).trans hx)))).mono ?_;rintro e w1 ⟨rfl,hx⟩;have HX:=Qq hx;clear hx;go_wp2_with fail;go_ret;exact⟨rfl,(Qz.alloc _).trans HX.out⟩
theorem Kq.before {w0 w w':World} {vo:Value} {out:List (List Nd)}(h:Kq w w' vo out)(he:Qg w0 w):Kq w0 w' vo out:=by
 obtain⟨us,hr,hu⟩:=h.row;refine⟨he.trans h.ext,us,Kl hr he.size,fun k s hk=> ?_⟩;obtain⟨u,a,b,c⟩:=hu k s hk;exact⟨u,a,b,fun g hg=>⟨(c g hg).1,(c g hg).2.1,Qx he.size (c g hg).2.2⟩⟩
theorem Kq.get {w0 w:World} {g cap:Nat} {out:List (List Nd)}(h:Kq w0 w (.slice (some ⟨g,0,none⟩) out.length cap) out) {k:Nat} {s:List Nd}(hk:out[k]?=some s):∃u,w.cell? ⟨g,k,none⟩=some u/\Jo w u s/\g < w.heap.size:=by
 obtain⟨us,hr,hu⟩:=h.row;have h0:0 < out.length:=Nat.lt_of_le_of_lt (Nat.zero_le k) (List.getElem?_eq_some_iff.1 hk).1;obtain⟨g',cap',e,hg,_,_,hc⟩:=Pf hr h0;injection e with e1 _ _;injection e1 with e1;injection e1 with e1;subst e1;obtain⟨u,a,b,_⟩:=hu k s hk;exact⟨u,hc k u a,b,hg⟩
theorem Kq.slice {w0 w:World} {v:Value} {out:List (List Nd)}(h:Kq w0 w v out)(h0:0 < out.length):∃g cap,v=.slice (some ⟨g,0,none⟩) out.length cap/\out.length<=cap/\cap<=maxLen:=by
 obtain⟨us,hr,hu⟩:=h.row;obtain⟨g',cap',e,hg,h1,h2,hc⟩:=Pf hr h0;exact⟨g',cap',e,h1,h2⟩
theorem Qvw {n:Nd}(h:Za n)(hk:n.op=11\/n.op=13):0<=n.g/\n.g < 16:=by
 obtain⟨_,_,h3,_,_⟩:=h;unfold Ys at h3;rcases hk with ho|ho <;>(rw [ho]at h3;simp [Ql,Zw,Zx,Zg,Zl]at h3;omega)
theorem Qrw(base:List Nd)(k:Nat):(List.range (k+1)).map (fun(i:Nat)=>Jn base i)=(List.range k).map (fun(i:Nat)=>Jn base i)++ [Jn base k]:=by
 rw [List.range_succ,List.map_append];rfl
theorem Qwp(v:Value)(f:List Nd)(w:World)(h:Jo w v f)(hc:check f=0):
 Calls Tryz.prog 126 #[v] w fun e w'=>∃u,e=.returned u/\Kq w w' u (Qyl f):=by
 have H:=Qq h;obtain⟨iI,pO,vO,vN,vM⟩:=info_parts Qgs;obtain⟨A,c,rfl,_⟩:=Qc h;have hp:=Jj hc;obtain⟨base,tO⟩:∃b,b=Qf f:=⟨_,rfl⟩;have sF:check base=0:=tO▸Gj hc;have zG:base.length<=200:=tO▸Qx hp.2.1 (Jf hc).2.1;have HB:=Qq (show Qyl f=Rc base by rw [tO];rfl);have rX:=Qq tO;have QW:=Qq sF;clear h hp tO sF hc;go_enter Tryz.func126,Tryz.ntmps126;go_wp2_with fail;refine(Fk _ f _ H.out).mono ?_;rintro e w0 ⟨uc,rfl,pL⟩;rw [<-rX.out]at pL;have jY:=Qq pL;obtain⟨Ac,cc,rfl,yL⟩:=Qc pL.fml;have kE:=Qq yL
 clear pL yL;go_wp2_with fail;go_loopw [3,10] (fun vo vi wr=>∃k:Nat,vi=.int .i64 (k:Int)/\k<=base.length/\Hid (∃out,out=(List.range k).map (fun(i:Nat)=>Jn base i)/\Kq w0 wr vo out)) (fun _ v _=>base.length - (intOf v).toNat)
 case atStart=>exact⟨0,rfl,Nat.zero_le _,Qq ⟨[],rfl,Kq.nil _⟩⟩
 case round =>
  obtain⟨k,rfl,hk,zY⟩:=hrel;obtain⟨out,ho,xJ⟩:=zY.out;obtain⟨us,zR,tQ⟩:=xJ.row;obtain⟨Ao,co,rfl⟩:=Qs zR;have HO:=Qq ho;have wY:=Qq xJ;have yS:=Qq zR;have mE:=Qq tQ;have tJ:out.length<=1000:=by rw [ho];simp;omega
  clear zY ho xJ zR tQ;by_cases hlt2:k < base.length
  ·have yT:(k:Int) < (base.length:Int):=by omega
   have xS:out.length+1<=maxLen:=by unfold maxLen;omega
   have xR:(out.length+1)*24<=140737488355328:=by omega
   have lJ:=Qq (show Jn base (k:Int)=(Ze base k []).1 by
    unfold Jn;rw [QW.out,show(decide ((k:Int) < 0)||decide ((base.length:Int)<=(k:Int)))=false by simp;omega]
    rfl)
   go_wp2_with fail;refine(Oj base _ _ k _ (Yb QW.out) jY.out.2.1 (by omega) hlt2 (kE.out.ext wY.out.ext)).mono ?_;rintro e w1 ⟨u,rfl,XX,dS,yX⟩;have hm:Yc wr w1 u (Jn base (k:Int)):=by rw [lJ.out];exact⟨XX,dS,yX⟩
   have X1:=Qq (wY.out.ext.trans hm.2.2);have Y1:=Qq hm.2.2;have HM:=Qq hm;obtain⟨Au,cu,rfl,_⟩:=Qc hm.fml;clear hm XX dS yX;go_wp2_with(at_builtin;refine wpList_append_own_at _ rfl _ _ 32 rfl w0.heap.size 22 iI (.slice none 0 0) 1 24 Tryz.underlying32 pO vO vN vM rfl (by decide) _ out.length us rfl (Zk yS.out (Y1.out.alloc _)) ⟨_,0,none⟩ 1 1 [.slice Au (Jn base (k:Int)).length cu] rfl rfl (Zt _ _ _ (by simp)) (fun u hu=>by rw [List.mem_singleton.1 hu];rfl) xS xR (Qx wY.out.ext.size (Y1.out.alloc _).size) ?_);intro v7 w7 zW zX _ zH;have pV:=Qq (Kq.push (s:=Jn base (k:Int)) (X1.out.alloc _) (Zk yS.out (Y1.out.alloc _)) (fun k s hk=>by
    obtain⟨u,a,b,c⟩:=mE.out k s hk;exact⟨u,a,b.ext (Y1.out.alloc _),c.ext (Y1.out.alloc _)⟩) zW zX (zH.imp id (fun e=>e.trans (by simp))) (HM.out.fml.ext (Qz.alloc _)) (Lg (Nat.le_refl _) (Zk HM.out.1 (Qz.alloc _)) yS.out wY.out.ext.size))
   obtain⟨A7,c7,rfl⟩:=Qs zW;clear zW zX zH;go_wp2_with fail;go_roundw
   case rel=>exact⟨k+1,by go_num,by omega,Qq ⟨_,by rw [Qrw,<-HO.out],pV.out⟩⟩
   case measure=>simp [intOf];omega
  obtain rfl:base.length=k:=by omega
  go_wp2_with fail;go_ret;exact⟨_,rfl,by rw [HB.out,show Rc base=out from HO.out.symm];exact wY.out.before jY.out.ext⟩
theorem Zj2:(Tryz.prog.info? 3).map (fun i=>(i.zero,i.size,i.bytes))=some (some (.int .i64 0),1,8):=by kernel_rfl
structure Cir (w wr:World) (B:Nat) (vf vo:Value) (out:List Int):Prop where
 ext:Qg w wr
 blk:wr.heap[B]?=some (.cells #[vf,vo] 173 (0,0))
 row:wr.ownsRow (B+1) 3 1 vo out.length (out.map (Value.int .i64))
 res:wr.heap[B - 1]?=some (.cells #[.slice none 0 0,.slice none 0 0] 173 (0,0))
section
variable {w wr:World} {B:Nat} {vf vo:Value} {out:List Int}
theorem Cir.next {w4:World}(h:Cir w wr B vf vo out)(he:Qg wr w4):Cir w w4 B vf vo out :=
 ⟨h.ext.trans he,(he.block (Qn h.blk)).trans h.blk,Zk h.row he,(he.block (Qn h.res)).trans h.res⟩
theorem Cir.push {w7:World} {v7:Value} {z:Int}(h:Cir w wr B vf vo out)(hB:w.heap.size < B)
 (xN:w7.ownsRow (B+1) 3 1 v7 (out.length+1) (out.map (Value.int .i64)++ [.int .i64 z]))(hg:wr.grownBy w7 vo.ownBlock):
 Cir w (w7.setCell ⟨B,1,none⟩ v7) B vf v7 (out++ [z]):=by
 have BH:∀g,vo.ownBlock=some g->B+1<=g:=fun g wD=>(h.row.lt g wD).1
 have hb:w7.heap[B]?=wr.heap[B]?:=hg.block B (Qn h.blk) (fun e=>by have:=BH B e.symm;omega);have qA:v7.ownBlock≠some B:=fun e=>by have:=(xN.lt B e).1;omega
 refine⟨(h.ext.grown hg (fun g wD=>by have:=BH g wD;omega)).setCell (Nat.le_of_lt hB) _,Qq4 (hb.trans h.blk) v7,?_,?_⟩
 ·have hr:w7.ownsRow (B+1) 3 1 v7 (out++ [z]).length ((out++ [z]).map (Value.int .i64)):=by
   rw [List.length_append,List.map_append];exact xN
  exact ownsRow_setCell_other (a:=⟨B,1,none⟩) hr qA _
 rw [Below.heap_setCell _ _ _ _ (show B - 1≠B by omega),hg.block _ (Qn h.res) (fun e=>by have:=BH _ e.symm;omega)];exact h.res
end
theorem Qy8 {base:List (List Nd)} {f:List Nd} {k:Nat} {n:Nd}(hn:f[k]?=some n):(Kt base f).take (k+1)=(Kt base f).take k++ [bif Jm n then Yx base (Jn f (k:Int))else -1]:=Kx (Qxs hn)
theorem Qf7(vb vf:Value)(base:List (List Nd))(f:List Nd)(w:World)(hb:Df w vb base)(hf:Jo w vf f)(hl:f.length<=200):
 Calls Tryz.prog 182 #[vb,vf] w fun e w'=>∃ui,e=.returned (.agg #[vf,ui])/\Qg w w'/\Db w' ui (Kt base f):=by
 have HB:=Qq hb;have HF:=Qq hf;obtain⟨iI,pO,vO,vN,vM⟩:=info_parts Zj2;obtain⟨Ab,cb,rfl,_⟩:=hb;obtain⟨⟨Af,cf,rfl,xU,yP,zN⟩,zO⟩:=hf;unfold maxLen at yP;have uJ:=Qq zN;clear zN zO;go_enter Tryz.func182,Tryz.ntmps182;go_wp2_with fail;go_loopw [13] (fun vi wr=>∃k:Nat,vi=.int .i64 (k:Int)/\k<=f.length/\Hid (∃vo out,out=(Kt base f).take k/\Cir w wr (w.heap.size+1) (.slice Af f.length cf) vo out)) (fun v _=>f.length - (intOf v).toNat)
 case atStart=>exact⟨0,rfl,Nat.zero_le _,Qq ⟨.slice none 0 0,[],rfl,(Qz.alloc _).alloc _,(by have:=heap_alloc_new (w.alloc (.cells #[.slice none 0 0,.slice none 0 0] 173)) (.cells #[.slice Af f.length cf,.slice none 0 0] 173);simpa using this),World.ownsRow_nil _ _ _ _,((Qz.alloc _).block (by simp)).trans (heap_alloc_new _ _)⟩⟩
 case round =>
  obtain⟨k,rfl,hk,zY⟩:=hrel;obtain⟨vo,out,tJ,aG⟩:=zY.out;have qC:=Qq tJ;have HC:=Qq aG;obtain⟨Ao,co,rfl⟩:=Qs aG.row;have TT:out.length<=200:=by rw [tJ,List.length_take];omega
  obtain⟨d0,d1,df,dl⟩:=Gc aG.blk;clear zY tJ aG;by_cases hlt2:k < f.length
  ·have yT:(k:Int) < (f.length:Int):=by omega
   obtain⟨n,hn⟩:∃n,f[k]?=some n:=⟨_,Qv hlt2⟩;obtain⟨ad,rfl,zA,zJ⟩:=uJ.out (by intro e;rw [e]at hlt2;simp at hlt2);obtain⟨c0,c1,c2,c3,c4,c5⟩:=(zJ k n hn).keep fun p hp=>HC.out.ext.cell (p:=p) (by rw [hp,Qt];exact zA)
   have tN:(ad.add (k*6)).block < wr.heap.size:=by rw [Qt];exact Qy zA HC.out.ext.size
   have HN:=Qq hn;clear hn zJ;obtain⟨wq,vE⟩:∃v,v=wr:=⟨_,rfl⟩;subst vE;have xS:out.length+1<=maxLen:=by unfold maxLen;omega
   have xR:(out.length+1)*8<=140737488355328:=by omega
   have zL:=Qq (show Qg wq (wq.alloc (.cells #[.int .i64 n.op,.int .i64 n.i,.int .i64 n.e,.int .i64 n.g,.int .i64 n.x,.int .i64 n.y] 71))from Qz.alloc _);rcases Qkw n with zK|⟨t3,t9,t13⟩
   ·have rX:=Qq (show(bif Jm n then Yx base (Jn f (k:Int))else -1)=Yx base (Jn f (k:Int)) by rw [show Jm n=true by unfold Jm;rcases zK with e|e|e <;> rw [e] <;> rfl];rfl);have SI:=Qq (show((n.op==3)=true)\/((n.op==3)=false/\(n.op==9)=true)\/((n.op==3)=false/\(n.op==9)=false/\(n.op==13)=true) by rcases zK with e|e|e <;> rw [e] <;> simp);clear zK;rcases SI.out with t3|⟨t3,t9⟩|⟨t3,t9,t13⟩
    all_goals
     go_wp2_with fail;refine(Ik _ f (k:Int) _ (HF.out.ext (HC.out.ext.trans zL.out))).mono ?_;rintro e w2 ⟨u2,rfl,xO⟩;have vV:=Qq xO;clear xO;go_wp2_with fail;refine(Qz7 _ _ base _ _ (HB.out.ext (HC.out.ext.trans (zL.out.trans vV.out.ext))) vV.out.fml).mono ?_;rintro e w3 ⟨rfl,zF⟩;have kD:=Qq (HC.out.next (zL.out.trans (vV.out.ext.trans zF)));obtain⟨q0,q1,qf,qb⟩:=Gc kD.out.blk;clear zF d0 d1 df dl;go_wp2_with(at_builtin;refine wpList_append_own_at _ rfl _ _ 36 rfl (w.heap.size+1+1) 3 iI (.int .i64 0) 1 8 Tryz.underlying36 pO vO vN vM rfl (by decide) _ out.length (out.map (Value.int .i64)) rfl (kD.out.next (Qz.alloc _)).row ⟨_,0,none⟩ 1 1 [.int .i64 (Yx base (Jn f (k:Int)))] rfl rfl (Zt _ _ _ (by simp)) (fun u hu=>by rw [List.mem_singleton.1 hu];rfl) xS xR (by have:=qb;simp;omega) ?_)
     intro v7 w7 zW zX _ zH;obtain⟨d0,d1,df,dl⟩:=Gc ((zX.block (w.heap.size+1) (by simp;omega) (fun e=>by have:=(kD.out.row.lt _ e.symm).1;omega)).trans ((kD.out.next (Qz.alloc (.cells #[.int .i64 (Yx base (Jn f (k:Int)))] 3))).blk));have HP:=Qq (Cir.push (kD.out.next (Qz.alloc _)) (by omega) zW zX);obtain⟨A7,c7,rfl⟩:=Qs zW;clear zW zX zH;go_wp2_with fail;go_roundw
     case rel=>exact⟨k+1,by go_num,by omega,Qq ⟨_,_,by rw [Qy8 HN.out,<-qC.out,rX.out],HP.out⟩⟩
     case measure=>simp [intOf];omega
   have rX:=Qq (show(bif Jm n then Yx base (Jn f (k:Int))else -1)= -1 by rw [show Jm n=false by unfold Jm;rw [t3,t9,t13];rfl];rfl);have kD:=Qq (HC.out.next zL.out);have qb:=Qn kD.out.blk;go_wp2_with(at_builtin;refine wpList_append_own_at _ rfl _ _ 36 rfl (w.heap.size+1+1) 3 iI (.int .i64 0) 1 8 Tryz.underlying36 pO vO vN vM rfl (by decide) _ out.length (out.map (Value.int .i64)) rfl (kD.out.next (Qz.alloc _)).row ⟨_,0,none⟩ 1 1 [.int .i64 (-1)] rfl rfl (Zt _ _ _ (by simp)) (fun u hu=>by rw [List.mem_singleton.1 hu];rfl) xS xR (by have:=qb;simp;omega) ?_)
   intro v7 w7 zW zX _ zH;obtain⟨q0,q1,qf,ql⟩:=Gc ((zX.block (w.heap.size+1) (by simp;omega) (fun e=>by have:=(kD.out.row.lt _ e.symm).1;omega)).trans ((kD.out.next (Qz.alloc (.cells #[.int .i64 (-1)] 3))).blk));have HP:=Qq (Cir.push (kD.out.next (Qz.alloc _)) (by omega) zW zX);obtain⟨A7,c7,rfl⟩:=Qs zW;clear zW zX zH;go_wp2_with fail;go_roundw
   case rel=>exact⟨k+1,by go_num,by omega,Qq ⟨_,_,by rw [Qy8 HN.out,<-qC.out,rX.out],HP.out⟩⟩
   case measure=>simp [intOf];omega
  obtain rfl:f.length=k:=by omega
  have HR:=Qq (show wr.heap[w.heap.size]?=some (.cells #[.slice none 0 0,.slice none 0 0] 173 (0,0)) by have:=HC.out.res;rw [Nat.add_sub_cancel]at this;exact this);obtain⟨r0,r1,rf,rl⟩:=Gc HR.out;have HE:=Qq (show out=Kt base f by rw [qC.out,List.take_of_length_le (by rw [Qxt];exact Nat.le_refl _)]);have HS:=Qq (Qq4 (Qfm HR.out (.slice Af f.length cf)) (.slice Ao out.length co));go_wp2_with fail
  (try simp only [Exit.inBlock,Exit.then])
  refine bodyPost_ret (Eg Tryz.results182 _ _ rfl (Jv HS.out) Tryz.underlying173 rfl (by kernel_rfl)) rfl ?_;have zQ:(Value.slice Ao out.length co).ownBlock≠some w.heap.size:=fun e=>by have:=(HC.out.row.lt _ e).1;omega
  exact⟨_,rfl,(HC.out.ext.setCell (by simp) _).setCell (by simp) _,by rw [<-HE.out];exact Qrb (ownsRow_setCell_other (a:=⟨w.heap.size,1,none⟩) (ownsRow_setCell_other (a:=⟨w.heap.size,0,none⟩) HC.out.row zQ _) zQ _)⟩
theorem Qgk {o c:Int}(h:o=c):(o==1)=(c==1)/\(o==4)=(c==4)/\(o==5)=(c==5)/\(o==6)=(c==6)/\(o==7)=(c==7)/\(o==8)=(c==8):=by
 subst h;exact⟨rfl,rfl,rfl,rfl,rfl,rfl⟩
theorem Qnw:(Tryz.prog.info? 4).map (fun i=>(i.zero,i.size,i.bytes))=some (some (.bool false),1,1):=by kernel_rfl
theorem Zqr {pre:List Bool} {m j:Nat}(h:j < pre.length):(pre++List.replicate m false)[j]?=some (pre.getD j false):=by
 rw [List.getElem?_append_left h,Qk,Qv h];rfl
theorem Qgx {pre:List Bool} {k m:Nat} {b:Bool}(h:pre.length=k):(pre++List.replicate (m+1) false).set k b=(pre++ [b])++List.replicate m false:=by
 subst h;rw [List.set_append_right _ _ (Nat.le_refl _),Nat.sub_self,List.replicate_succ,List.set_cons_zero,List.append_assoc];rfl
theorem Qwq {pre:List Bool} {m:Nat} :pre++List.replicate (m+1) false=(pre++ [false])++List.replicate m false:=by
 rw [List.replicate_succ,List.append_assoc];rfl
theorem Qga {t:Nat} {f:List Nd} {ps:List Int} {k:Nat} {n:Nd} {z:Int}(hn:f[k]?=some n)(hz:ps[k]?=some z)(v:List Bool):
 Qzs t (f.drop k) (ps.drop k) v=Qzs t (f.drop (k+1)) (ps.drop (k+1)) (v++ [Kg n z t v]):=by
 obtain⟨h1,e1⟩:=List.getElem?_eq_some_iff.1 hn;obtain⟨h2,e2⟩:=List.getElem?_eq_some_iff.1 hz;rw [List.drop_eq_getElem_cons h1,List.drop_eq_getElem_cons h2,e1,e2];rfl
theorem Og(n:Nat):(madeCells #[Value.bool false] n).toList=(List.replicate n false).map Value.bool:=by
 have:=Ql0 n
 simpa [Value.cells]using this
structure Cn (w wr:World) (vf vi:Value) (f:List Nd) (ps:List Int) (t k:Nat) (pre:List Bool):Prop where
 len:pre.length=k
 go:Qzs t (f.drop k) (ps.drop k) pre=Qzs t f ps []
 ext:Qg w wr
 box:wr.heap[w.heap.size]?=some (.cells #[vf,vi] 173 (0,0))
 row:Kf (w.heap.size+1) wr (w.heap.size+1) (pre++List.replicate (f.length - k) false)
section
variable {w wr W:World} {vf vi:Value} {f:List Nd} {ps:List Int} {t k:Nat} {pre:List Bool} {n:Nd} {z:Int} {b:Bool}
theorem Cn.keep(h:Cn w wr vf vi f ps t k pre)(hn:f[k]?=some n)(hz:ps[k]?=some z)(hb:Kg n z t pre=false)(he:Qg wr W):Cn w W vf vi f ps t (k+1) (pre++ [false]):=by
 have hk:=(List.getElem?_eq_some_iff.1 hn).1;refine⟨by simp [h.len],by rw [<-h.go,Qga hn hz,hb],h.ext.trans he,(he.block (Qn h.box)).trans h.box,?_⟩;have:=h.row.ext he;rw [show f.length - k=(f.length - (k+1))+1 by omega,Qwq]at this;exact this
theorem Cn.store(h:Cn w wr vf vi f ps t k pre)(hn:f[k]?=some n)(hz:ps[k]?=some z)(hb:Kg n z t pre=b)(he:Qg wr W):Cn w (W.setCell ⟨w.heap.size+1,k,none⟩ (.bool b)) vf vi f ps t (k+1) (pre++ [b]):=by
 have hk:=(List.getElem?_eq_some_iff.1 hn).1;refine⟨by simp [h.len],by rw [<-h.go,Qga hn hz,hb],(h.ext.trans he).setCell (by simp) _,?_,?_⟩
 ·rw [Below.heap_setCell _ _ _ _ (show w.heap.size≠w.heap.size+1 by omega)];exact(he.block (Qn h.box)).trans h.box
 have:=((h.row.ext he).set k b).1;rw [show f.length - k=(f.length - (k+1))+1 by omega,Qgx h.len]at this;exact this
theorem Cn.next(h:Cn w wr vf vi f ps t k pre)(he:Qg wr W):Cn w W vf vi f ps t k pre:=⟨h.len,h.go,h.ext.trans he,(he.block (Qn h.box)).trans h.box,h.row.ext he⟩
theorem Cn.drew(h:Cn w wr vf vi f ps t k pre):Cn w wr.drew vf vi f ps t k pre:=⟨h.len,h.go,h.ext.drew,h.box,h.row.ext Qz.drew⟩
theorem Cn.cell(h:Cn w wr vf vi f ps t k pre) {j:Nat}(hj:j < k):wr.cell? ⟨w.heap.size+1,j,none⟩=some (.bool (pre.getD j false)):=h.row.cell (Zqr (by rw [h.len];exact hj))
end
theorem Zz7(vf vi:Value)(f:List Nd)(ps:List Int)(t:Nat)(w:World)(ht:t < 18446744073709551616)(hf:Jo w vf f)(hi:Db w vi ps)(vP:ps.length=f.length)(hp:∀z∈ps,z < 64)(kR:Wf f)(h0:0 < f.length)(hl:f.length<=200):
 Calls Tryz.prog 183 #[.agg #[vf,vi],.int .u64 (t:Int)] w fun e w'=>e=.returned (.bool (atN f ps t))/\Qg w w':=by
 obtain⟨⟨Af,cf,rfl,xU,yP,zN⟩,zO⟩:=hf;obtain⟨Ai,ci,rfl,YK,dZ,dL⟩:=hi;unfold maxLen at yP dZ;obtain⟨ad,rfl,zA,zJ⟩:=zN (by intro e;rw [e]at h0;simp at h0);obtain⟨ai,rfl,YL,YH⟩:=dL (by intro e;rw [e]at vP;simp at vP;omega);have qU:=Qq zJ;have QD:=Qq YH;have iM:=Qq kR;have HP:=Qq hp;have pV:=Qq vP;rw [vP]at YK⊢;obtain⟨iB,UI,kL,kK,kJ⟩:=info_parts Qnw;clear zN zO dL kR hp vP zJ YH;go_enter Tryz.func183,Tryz.ntmps183;go_wp2_with(refine wpList_make_full _ rfl _ _ 89 rfl (w.heap.size+1) 4 iB (.bool false) 1 Tryz.underlying89 UI kL kK .i64 .i64 (f.length:Int) (f.length:Int) f.length rfl rfl rfl rfl (by rw [kJ];omega) (by unfold maxLen;omega) (by simp) ?_)
 intro W1 tZ sC;have zM:=Qq (show Qg w W1 from((Qg.refl w).alloc (.cells #[.slice (some ad) f.length cf,.slice (some ai) f.length ci] 173)).grown sC (fun k e=>by cases e));have vW:=Qq (show W1.heap[w.heap.size]?=some (.cells #[.slice (some ad) f.length cf,.slice (some ai) f.length ci] 173 (0,0))from(sC.block _ (by simp) (fun e=>by cases e)).trans (heap_alloc_new _ _));have HI:=Qq (show Cn w W1 (.slice (some ad) f.length cf) (.slice (some ai) f.length ci) f ps t 0 []from⟨rfl,rfl,zM.out,vW.out,by
  have h1:=tZ;rw [Og]at h1;unfold Kf;simp only [List.nil_append,Nat.sub_zero,List.length_replicate];exact h1⟩)
 obtain⟨d0,d1,df,dl⟩:=Gc vW.out;clear tZ sC;go_wp2_with fail;clear d0 d1 df dl;go_loopw [16] (fun vi wr=>∃k:Nat,vi=.int .i64 (k:Int)/\k<=f.length/\Hid (∃pre,Cn w wr (.slice (some ad) f.length cf) (.slice (some ai) f.length ci) f ps t k pre)) (fun v _=>f.length - (intOf v).toNat)
 case atStart=>exact⟨0,rfl,Nat.zero_le _,Qq ⟨[],HI.out⟩⟩
 case round =>
  obtain⟨k,rfl,hk,zY⟩:=hrel;obtain⟨pre,rB⟩:=zY.out;have HA:=Qq rB;obtain⟨d0,d1,df,dl⟩:=Gc rB.box;clear zY rB;by_cases hlt2:k < f.length
  ·have yT:(k:Int) < (f.length:Int):=by omega
   obtain⟨n,hn⟩:∃n,f[k]?=some n:=⟨_,Qv hlt2⟩;obtain⟨z,hz⟩:∃z,ps[k]?=some z:=⟨_,List.getElem?_eq_getElem (by rw [pV.out];exact hlt2)⟩;obtain⟨c0,c1,c2,c3,c4,c5⟩:=(qU.out k n hn).keep fun p hp=>HA.out.ext.cell (p:=p) (by rw [hp,Qt];exact zA)
   have z0:=(HA.out.ext.cell (p:=ai.add k) (Qj YL)).trans (QD.out k z hz);have tN:(ad.add (k*6)).block < wr.heap.size:=by rw [Qt];exact Qy zA HA.out.ext.size
   have T5:(ai.add k).block < wr.heap.size:=by rw [Qt];exact Qy YL HA.out.ext.size
   have xP:w.heap.size+1 < wr.heap.size:=HA.out.row.lt.2;have gfr:=HA.out.row.frozen k;have gc:wr.cell? ⟨w.heap.size+1,k,none⟩=some (.bool false):=HA.out.row.cell (by rw [List.getElem?_append_right (by rw [HA.out.len];exact Nat.le_refl _),HA.out.len,Nat.sub_self,List.getElem?_replicate,if_pos (by omega)]);have HN:=Qq hn;have HZ:=Qq hz;have SF:=Qq (iM.out k n hn);have hz64:=HP.out z (List.mem_of_getElem? hz);clear hn hz;obtain⟨wq,vE⟩:∃v,v=wr:=⟨_,rfl⟩;subst vE;by_cases wZ:0<=z
   ·obtain⟨zn,rfl⟩:=Int.eq_ofNat_of_zero_le wZ;have hzn:zn < 64:=by omega
    have tM:=Bn t zn ht;cases hb:t.testBit zn
    case false =>
     rw [hb]at tM;have yY:=Qq (show Kg n (zn:Int) t pre=false by unfold Kg;rw [decide_eq_true wZ,cond_true,Int.toNat_natCast];exact hb);clear hb;go_wp2_with fail;go_roundw
     case rel=>exact⟨k+1,by go_num,by omega,Qq ⟨_,(HA.out.store HN.out HZ.out yY.out Qz).next (Qz.alloc _)⟩⟩
     case measure=>simp [intOf];omega
    case true =>
     rw [hb]at tM;have yY:=Qq (show Kg n (zn:Int) t pre=true by unfold Kg;rw [decide_eq_true wZ,cond_true,Int.toNat_natCast];exact hb);clear hb;go_wp2_with fail;go_roundw
     case rel=>exact⟨k+1,by go_num,by omega,Qq ⟨_,(HA.out.store HN.out HZ.out yY.out Qz).next (Qz.alloc _)⟩⟩
     case measure=>simp [intOf];omega
   have oA:z < 0:=by omega
   have VM:=Qq (show decide (0<=z)=false by simpa using oA);have UT:n.op=1\/(n.op=4\/n.op=5\/n.op=6\/n.op=7\/n.op=8)\/(n.op≠1/\n.op≠4/\n.op≠5/\n.op≠6/\n.op≠7/\n.op≠8):=by omega
   rcases UT with zK|zK|zK
   ·have yY:=Qq (show Kg n z t pre=true by unfold Kg;rw [VM.out,zK];rfl);obtain⟨t1,t4,t5,t6,t7,t8⟩:=Qgk zK;clear zK;go_wp2_with fail;go_roundw
    case rel=>exact⟨k+1,by go_num,by omega,Qq ⟨_,(HA.out.store HN.out HZ.out yY.out Qz).next (Qz.alloc _)⟩⟩
    case measure=>simp [intOf];omega
   ·have hX:0<=n.x/\n.x < k:=SF.out.1 (by rcases zK with e|e|e|e|e <;> rw [e] <;> rfl);obtain⟨jx,DC⟩:=Int.eq_ofNat_of_zero_le hX.1;have jJ:jx < k:=by omega
    have gx:=HA.out.cell jJ;have SL:=Qq (show pre.getD n.x.toNat false=pre.getD jx false by rw [DC,Int.toNat_natCast]);rw [DC]at c4;have mC:(jx:Int) < (f.length:Int):=by omega
    clear hX DC;obtain⟨bx,vL⟩:∃b,b=pre.getD jx false:=⟨_,rfl⟩;rw [<-vL]at gx SL;clear vL;rcases zK with zK|zK
    ·have yY:=Qq (show Kg n z t pre= !bx by unfold Kg;rw [VM.out,zK,<-SL.out];rfl);obtain⟨t1,t4,t5,t6,t7,t8⟩:=Qgk zK;clear zK;cases bx
     all_goals
      go_wp2_with fail;go_roundw
      case rel=>exact⟨k+1,by go_num,by omega,Qq ⟨_,(HA.out.store HN.out HZ.out yY.out Qz).next (Qz.alloc _)⟩⟩
      case measure=>simp [intOf];omega
    have hY:0<=n.y/\n.y < k:=SF.out.2 (by rcases zK with e|e|e|e <;> rw [e] <;> rfl);obtain⟨jy,DB⟩:=Int.eq_ofNat_of_zero_le hY.1;have DE:jy < k:=by omega
    have gy:=HA.out.cell DE;have QG:=Qq (show pre.getD n.y.toNat false=pre.getD jy false by rw [DB,Int.toNat_natCast]);rw [DB]at c5;have DD:(jy:Int) < (f.length:Int):=by omega
    clear hY DB;obtain⟨b2,xC⟩:∃b,b=pre.getD jy false:=⟨_,rfl⟩;rw [<-xC]at gy QG;clear xC;rcases zK with zK|zK|zK|zK
    ·have yY:=Qq (show Kg n z t pre=(bx&&b2) by unfold Kg;rw [VM.out,zK,<-SL.out,<-QG.out];rfl);obtain⟨t1,t4,t5,t6,t7,t8⟩:=Qgk zK;clear zK;cases bx <;> cases b2
     all_goals
      go_wp2_with fail;go_roundw
      case rel=>exact⟨k+1,by go_num,by omega,Qq ⟨_,(HA.out.store HN.out HZ.out yY.out Qz).next (Qz.alloc _)⟩⟩
      case measure=>simp [intOf];omega
    ·have yY:=Qq (show Kg n z t pre=(bx||b2) by unfold Kg;rw [VM.out,zK,<-SL.out,<-QG.out];rfl);obtain⟨t1,t4,t5,t6,t7,t8⟩:=Qgk zK;clear zK;cases bx <;> cases b2
     all_goals
      go_wp2_with fail;go_roundw
      case rel=>exact⟨k+1,by go_num,by omega,Qq ⟨_,(HA.out.store HN.out HZ.out yY.out Qz).next (Qz.alloc _)⟩⟩
      case measure=>simp [intOf];omega
    ·have yY:=Qq (show Kg n z t pre=(!bx||b2) by unfold Kg;rw [VM.out,zK,<-SL.out,<-QG.out];rfl);obtain⟨t1,t4,t5,t6,t7,t8⟩:=Qgk zK;clear zK;cases bx <;> cases b2
     all_goals
      go_wp2_with fail;go_roundw
      case rel=>exact⟨k+1,by go_num,by omega,Qq ⟨_,(HA.out.store HN.out HZ.out yY.out Qz).next (Qz.alloc _)⟩⟩
      case measure=>simp [intOf];omega
    have yY:=Qq (show Kg n z t pre=(bx==b2) by unfold Kg;rw [VM.out,zK,<-SL.out,<-QG.out];rfl);obtain⟨t1,t4,t5,t6,t7,t8⟩:=Qgk zK;clear zK;go_wp2_with fail;obtain⟨⟨_,_,_,_,e4,e5⟩,_,eb⟩:=Vs (show(wq.alloc (.cells #[.int .i64 n.op,.int .i64 n.i,.int .i64 n.e,.int .i64 n.g,.int .i64 (jx:Int),.int .i64 (jy:Int)] 71)).heap[wq.heap.size]?=some (.cells #[.int .i64 n.op,.int .i64 n.i,.int .i64 n.e,.int .i64 n.g,.int .i64 (jx:Int),.int .i64 (jy:Int)] 71 (0,0))from heap_alloc_new _ _);refine Yp 14 (fun w'=>w'.cell? (⟨wq.heap.size,4,none⟩)=some (.int .i64 (jx:Int))/\w'.cell? (⟨wq.heap.size,5,none⟩)=some (.int .i64 (jy:Int))/\w'.cell? (⟨w.heap.size+1,jx,none⟩)=some (.bool bx)/\w'.cell? (⟨w.heap.size+1,jy,none⟩)=some (.bool b2)) (by kernel_rfl) ⟨xd eb e4,xd eb e5,xd xP gx,xd xP gy⟩ (fun zZ=> ?_)
    refine Zz 0 zZ ?_;refine Zz 1 zZ ?_;refine Zz 2 zZ ?_;refine Zz 3 zZ ?_;refine Zz 4 zZ ?_;refine Zz 5 zZ ?_;refine Zz 6 zZ ?_;refine Zz 7 zZ ?_;refine Zz 8 zZ ?_;refine Zz 9 zZ ?_;refine Zz 10 zZ ?_;refine Zz 11 zZ ?_;refine Zz 12 zZ ?_;refine Zz 13 zZ ?_;refine Yi (by kernel_rfl) rfl (fun K hK=> ?_);go_simp;refine hK.out _ _ ?_;clear hK K;refine Qb ?_;refine Yo (by kernel_rfl) ?_ _;go_wp2_with fail;go_roundw
    case rel =>
     exact⟨k+1,by go_num,by omega,Qq ⟨pre++ [bx==b2],((HA.out.store HN.out HZ.out yY.out Qz).next (Qz.alloc _)).drew⟩⟩
    case measure=>simp [intOf];omega
   obtain⟨e1,e4,e5,e6,e7,e8⟩:=zK;have t1:(n.op==1)=false:=by simpa using e1
   have t4:(n.op==4)=false:=by simpa using e4
   have t5:(n.op==5)=false:=by simpa using e5
   have t6:(n.op==6)=false:=by simpa using e6
   have t7:(n.op==7)=false:=by simpa using e7
   have t8:(n.op==8)=false:=by simpa using e8
   have yY:=Qq (show Kg n z t pre=false by unfold Kg;rw [VM.out,t1,t4,t5,t6,t7,t8];rfl);clear e1 e4 e5 e6 e7 e8;go_wp2_with fail;go_roundw
   case rel=>exact⟨k+1,by go_num,by omega,Qq ⟨_,HA.out.keep HN.out HZ.out yY.out (Qz.alloc _)⟩⟩
   case measure=>simp [intOf];omega
  obtain rfl:f.length=k:=by omega
  have iG:((f.length:Int) - 1) < (f.length:Int):=by omega
  have jL:(0:Int)<=(f.length:Int) - 1:=by omega
  have e1:((f.length:Int) - 1).toNat=f.length - 1:=by omega
  have HE:=Qq (show atN f ps t=pre.getD (f.length - 1) false by
   have h1:=HA.out.go;rw [List.drop_length]at h1;unfold atN;rw [<-h1];show pre.getLastD false=_;rw [List.getLastD_eq_getLast?,List.getLast?_eq_getElem?,HA.out.len,Qk])
  have gx:=HA.out.cell (show f.length - 1 < f.length by omega);go_wp2_with fail;go_ret;exact⟨by rw [HE.out] <;> rfl,HA.out.ext⟩
theorem Qq0 {base:List (List Nd)}(h:base.length<=12)(g:List Nd):Yx base g < 64:=by
 unfold Yx;cases hf:base.findIdx? fun f=>decide (f=g)with
 |none=>show(-1:Int) < 64;decide
 |some j =>
  have:=(List.findIdx?_eq_some_iff_findIdx_eq.1 hf).1;show(j:Int) < 64;omega
theorem Qhx {base:List (List Nd)}(h:base.length<=12)(f:List Nd):∀z∈Kt base f,z < 64:=by
 intro z hz;unfold Kt at hz;obtain⟨i,_,rfl⟩:=List.mem_map.1 hz;cases Jm (f.getD i Nd.zero)
 ·show(-1:Int) < 64;decide
 exact Qq0 h _
theorem Ij {α:Type}(g:Nat->α)(k:Nat):(List.range (k+1)).map g=(List.range k).map g++ [g k]:=by
 rw [List.range_succ,List.map_append];rfl
structure Qbe (w1 wr:World) (g B:Nat) (vf ui:Value) (h:Nat->Bool) (m k:Nat):Prop where
 ext:Qg w1 wr
 box:wr.heap[B]?=some (.cells #[vf,ui] 173 (0,0))
 row:Kf w1.heap.size wr g ((List.range k).map h++List.replicate (m - k) false)
theorem Qbe.store {w1 wr W:World} {g B:Nat} {vf ui:Value} {h:Nat->Bool} {m k:Nat}(i:Qbe w1 wr g B vf ui h m k)(hk:k < m)(hB:B≠g)(he:Qg wr W) {b:Bool}(hb:h k=b):Qbe w1 (W.setCell ⟨g,k,none⟩ (.bool b)) g B vf ui h m (k+1):=by
 have hg:=i.row.lt;refine⟨(i.ext.trans he).setCell hg.1 _,?_,?_⟩
 ·rw [Below.heap_setCell _ _ _ _ hB];exact(he.block (Qn i.box)).trans i.box
 have:=((i.row.ext he).set k b).1;rw [show m - k=(m - (k+1))+1 by omega,Qgx (by simp),<-hb,<-Ij]at this;rw [<-hb];exact this
theorem Sb(b:Nat)(lg:Int)(base:List (List Nd))(root:List Bool)(ks:List Kn)(cs:List Cm)(alive:List Bool)(vf:Value)(f:List Nd)(w:World)
 (hE:Hw w b lg base root ks cs alive)(hl:base.length<=12)(hm:alive.length=2^base.length)(hf:Jo w vf f)(hc:check f=0):
 Calls Tryz.prog 130 #[.pointer (some ⟨b,0,none⟩),vf] w fun e w'=>∃g,e=.returned (.slice (some ⟨g,0,none⟩) (2^base.length) (2^base.length))/\Qg w w'/\Kf w.heap.size w' g (Ya base f):=by
 obtain⟨Ab,cb,Ar,cr,Ak,ck,Ac,cc,Aa,ca,d0,d1,d2,d3,d4,d5,xQ,tO,_,_,_,vS⟩:=hE.cells;have RD:=Qq tO;have HF:=Qq hf;have HC:=Qq hc;have uQ:=Qbr hl;have UA:=Jf hc;obtain⟨m,rD⟩:∃m,m=2^base.length:=⟨_,rfl⟩;have tP:=Qq rD;rw [<-rD]at hm uQ⊢;obtain⟨Af,cf,rfl,_⟩:=Qc hf;obtain⟨iB,UI,kL,kK,kJ⟩:=info_parts Qnw;have iT:=Qq UA.1;have iR:=Qq UA.2.1;have SD:=vS.1;have qP:=vS.2.1;unfold maxLen at qP;rw [hm]at d5 SD;have wA:=Qq hl;have HM:=Qq hm;clear hE tO vS hf hc rD UA hm hl d0 d2 d3 d4;go_enter Tryz.func130,Tryz.ntmps130;go_wp2_with fail;refine(Qf7 _ _ base f _ RD.out HF.out iR.out).mono ?_
 rintro e w1 ⟨ui,rfl,zP,iG⟩;have zM:=Qq zP;have K9:=Qq iG;obtain⟨Ai,ci,rfl,_⟩:=iG;have d5':=(zP.cell (p:=⟨b,5,none⟩) xQ).trans d5;have hbl1:b < w1.heap.size:=Qy xQ zP.size;clear zP d1 d5;go_wp2_with(refine wpList_make_full _ rfl _ _ 89 rfl (w1.heap.size+1) 4 iB (.bool false) 1 Tryz.underlying89 UI kL kK .i64 .i64 (m:Int) (m:Int) m rfl rfl rfl rfl (by rw [kJ];omega) (by unfold maxLen;omega) (by simp) ?_);intro W1 tZ sC;have yZ:=Qq (show Qg w1 W1 from((Qg.refl w1).alloc (.cells #[.slice Af f.length cf,.slice Ai (Kt base f).length ci] 173)).grown sC (fun k e=>by cases e))
 have vW:=Qq (show W1.heap[w1.heap.size]?=some (.cells #[.slice Af f.length cf,.slice Ai (Kt base f).length ci] 173 (0,0))from(sC.block _ (by simp) (fun e=>by cases e)).trans (heap_alloc_new _ _));have HT:=Qq (show Kf (w1.heap.size+1) W1 (w1.heap.size+1) (List.replicate m false) by
  have h1:=tZ;rw [Og]at h1;unfold Kf;simp only [List.length_replicate];exact h1)
 clear tZ sC d5';have I7:=Qq (show Qbe w1 W1 (w1.heap.size+1) w1.heap.size (.slice Af f.length cf) (.slice Ai (Kt base f).length ci) (atN f (Kt base f)) m 0 from⟨yZ.out,vW.out,by rw [List.range_zero,List.map_nil,List.nil_append,Nat.sub_zero];exact HT.out.base_ (Nat.le_succ _)⟩);go_wp2_with fail;go_loopw [22] (fun v wr=>∃k:Nat,v=.int .i64 (k:Int)/\k<=m/\Hid (Qbe w1 wr (w1.heap.size+1) w1.heap.size (.slice Af f.length cf) (.slice Ai (Kt base f).length ci) (atN f (Kt base f)) m k)) (fun v _=>m - (intOf v).toNat)
 case atStart=>exact⟨0,rfl,Nat.zero_le _,I7⟩
 case round =>
  obtain⟨k,rfl,hk,HI⟩:=hrel;obtain⟨e0,e1,ef,el⟩:=Gc HI.out.box;by_cases hlt2:k < m
  ·have yT:(k:Int) < (m:Int):=by omega
   have xP:w1.heap.size+1 < wr.heap.size:=HI.out.row.lt.2;have gfr:=HI.out.row.frozen k;have gc:wr.cell? ⟨w1.heap.size+1,k,none⟩=some (.bool false):=HI.out.row.cell (by rw [List.getElem?_append_right (by simp),List.length_map,List.length_range,Nat.sub_self,List.getElem?_replicate,if_pos (by omega)]);obtain⟨wq,vE⟩:∃v,v=wr:=⟨_,rfl⟩;subst vE;go_wp2_with fail;refine(Zz7 _ _ f (Kt base f) k _ (by omega) (HF.out.ext (zM.out.trans HI.out.ext)) (K9.out.ext HI.out.ext) (Qxt _ _) (Qhx wA.out f) (Yb HC.out) iT.out iR.out).mono ?_;rintro e w2 ⟨rfl,zT⟩;have zS:=Qq zT;have gfr2:=(zT.frozen (p:=⟨w1.heap.size+1,k,none⟩) xP).trans gfr
   have gc2:=(zT.cell (p:=⟨w1.heap.size+1,k,none⟩) xP).trans gc;have tD:w1.heap.size+1 < w2.heap.size:=Qy xP zT.size;clear zT gfr gc;go_wp2_with fail;go_roundw
   case rel=>exact⟨k+1,by go_num,by omega,Qq (HI.out.store hlt2 (by omega) zS.out rfl)⟩
   case measure=>simp [intOf];omega
  obtain rfl:m=k:=by omega
  go_wp2_with fail;go_ret;refine⟨_,rfl,zM.out.trans HI.out.ext,?_⟩;have h1:=HI.out.row.base_ (b':=w.heap.size) zM.out.size;rw [Nat.sub_self,List.replicate_zero,List.append_nil]at h1;unfold Ya;rw [<-tP.out];exact h1
end Go.Proofs.YtkmclcmnoicagaaGreatDoor
