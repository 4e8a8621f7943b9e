/- The engine's choose: what a type requires is selected. -/
import Derived.Test.YtkmclcmnoicagaaGreatDoorH22
namespace Go.Proofs.YtkmclcmnoicagaaGreatDoor
set_option maxRecDepth 100000
set_option maxHeartbeats 128000000
open Go.RowKit
structure SOk (al:List Bool) (l:List Nat):Prop where
 nd:l.Nodup
 al:∀u∈l,al.getD u false=true
theorem SOk.grow {al:List Bool} {l l':List Nat}(h:SOk al l)(g:Ki al l l'):SOk al l':=⟨g.nd h.nd,g.al h.al⟩
theorem SOk.lt {al:List Bool} {l:List Nat}(h:SOk al l):∀u∈l,u < al.length:=fun u hu=>Xr (h.al u hu)
theorem SOk.len {al:List Bool} {l:List Nat}(h:SOk al l):l.length<=al.length:=Ww al.length l h.nd h.lt
theorem Qrn {l ls:List Nat} {j:Nat}(hj:j < ls.length):Nz l (ls.take (j+1))=Nt (Nz l (ls.take j)) ((ls.getD j 0:Nat):Int):=by
 unfold Nz;rw [List.take_add_one,Qv hj,List.foldl_append,Qk,Qv hj];rfl
def Zvb(w0:World)(lg:Int)(ks:List Kn)(cs:List Cm)(al:List Bool)(agents:Nat)(l:List Nat)(t:Nat)(e:Ending)(w':World):Prop :=
 (∃r,e=.returned r)/\∃v' l',Gh w0 w' v' l'/\Ki al l l'/\Sel lg ks cs al agents l' t
theorem Qrh(u:Int)(w:World):Calls Tryz.prog 146 (#[.int .i64 u]++ #[]) w fun e w'=>e=.returned (.bool true)/\Qg w w':=by
 show Calls Tryz.prog 146 #[.int .i64 u] w _;go_enter Tryz.func146,Tryz.ntmps146;go_wp2_with fail;go_ret;exact⟨rfl,Qz⟩
theorem Qrc(B u:Nat)(Ah:Option Addr)(ch:Nat)(hs:List Bool)(w:World)(hB:w.cell? ⟨B,2,none⟩=some (.slice Ah hs.length ch))(hb:Sf w Ah ch hs)(hu:u < hs.length):
 Calls Tryz.prog 145 (#[.int .i64 (u:Int)]++ #[.pointer (some ⟨B,0,none⟩)]) w fun e w'=>e=.returned (.bool (!hs.getD u false))/\Qg w w':=by
 show Calls Tryz.prog 145 #[.int .i64 (u:Int),.pointer (some ⟨B,0,none⟩)] w _;obtain⟨ah,rfl,_,hc⟩:=Xb hb hu;have h1:=hb.1;have h2:=hb.2.1;unfold maxLen at h2;have hui:(u:Int) < (hs.length:Int):=by omega
 obtain⟨x,hx⟩:∃x,x=hs.getD u false:=⟨_,rfl⟩;rw [<-hx]at hc⊢;clear hx;go_enter Tryz.func145,Tryz.ntmps145;go_wp2_with fail;go_ret;exact⟨rfl,Qz⟩
theorem Qlz(b:Nat)(lg:Int)(base:List (List Nd))(root:List Bool)(ks:List Kn)(cs:List Cm)(alive:List Bool)(agents t:Nat)(w0 w:World)(v:Value)(l:List Nat)
 (hE:Ex w0 b lg base root ks cs alive)(xX:0<=lg/\lg<=6)(ht:t < alive.length)(hm:alive.length<=4096)(qV:∀k∈ks,k.place < 64/\alive.length<=k.holds.length)(qA:∀c∈cs,c.place < 64/\c.x.length=alive.length/\c.y.length=alive.length/\0<=c.group/\c.group < 16)
 (uZ:agents<=4)(hL:Qb3 lg ks cs alive t)(hS:Gh w0 w v l)(zP:SOk alive l):
 Calls Tryz.prog 68 #[.pointer (some ⟨b,0,none⟩),.pointer (some ⟨w0.heap.size+1,0,none⟩),.int .u64 (t:Int),.int .i64 (agents:Int)] w (Zvb w0 lg ks cs alive agents l t):=by
 obtain⟨Ab,cb,Ar,cr,Ak,ck,Ac,cc,Aa,ca,d0,d1,d2,d3,d4,d5,xL,_,_,uX,xY,_⟩:=hE.cells;have HE:=Qq hE;have sW:=Qq qV;have kT:=Qq qA;have HK:=Qq uX;have HC:=Qq xY;have UW:=Qq hL;have HS:=Qq hS;have zE:=Qq zP;have IQ:=uX.1;have zU:=uX.2.1;have wN:=xY.1;have lX:=xY.2.1;unfold maxLen at zU lX;have D0':=Qq d0;have D4:=Qq d4;have x3:=(hS.ext.cell (p:=⟨b,3,none⟩) xL).trans d3;have xl:=Qy xL hS.ext.size;have sM:=Qq xL;have aW:∀(fn:Fn) (first cap:Array Value) (w:World),(Instr.makeFunc fn first cap).run Tryz.prog w=.ok (.func fn first cap) w:=fun _ _ _ _=>rfl
 clear hE uX xY qV qA hL hS zP d0 d1 d2 d3 d4 d5 xL;go_enter Tryz.func68,Tryz.ntmps68;go_wp2_with fail;clear x3 xl;go_loopw [20] (fun v wr=>∃k:Nat,v=.int .i64 (k:Int)/\k<=ks.length/\Hid (∃v' l',Gh w0 wr v' l'/\Ki alive l l'/\∀(j:Nat) (m:Kn),j < k->ks[j]?=some m->Pk lg ks l' t m)) (fun v _=>ks.length - (intOf v).toNat)
 case atStart=>exact⟨0,rfl,Nat.zero_le _,Qq ⟨v,l,HS.out,Ki.refl,fun j m hj=>absurd hj (by omega)⟩⟩
 case round =>
  obtain⟨k,rfl,hk,zY⟩:=hrel;obtain⟨v1,l1,vS,vD,oM⟩:=zY.out;have fW:=Qq vS;have VF:=Qq vD;have JL:=Qq oM;have uT:=Qq (zE.out.grow vD);clear zY vS vD oM;by_cases hlt2:k < ks.length
  ·have yV:(k:Int) < (ks.length:Int):=by omega
   obtain⟨n,hn⟩:∃n,ks[k]?=some n:=⟨_,Qv hlt2⟩;have YQ:=List.mem_of_getElem? hn;obtain⟨sE,SU⟩:=sW.out n YQ;obtain⟨ad,rfl,yX,yM⟩:=Qjn HK.out hn;obtain⟨vh,c0,c1,c2,qX⟩:=yM.ext fW.out.ext (Qj yX);obtain⟨Ah,ch,rfl,qX⟩:=qX;have bS:=Qq qX;have tD:(ad.add (k*3)).block < wr.heap.size:=by rw [Qr];exact Qy yX fW.out.ext.size
   have HN:=Qq hn;have FI:=Qq (UW.out.know n YQ);have lH:=Qq (show ∀l2,(∀u∈l1,u∈l2)->Pk lg ks l2 t n->∀(j:Nat) (m:Kn),j < k+1->ks[j]?=some m->Pk lg ks l2 t m from fun l2 hs hc j m hj hm=>by
    by_cases e:j < k
    ·exact(JL.out j m e hm).mono hs
    have:j=k:=by omega
    subst this;rw [HN.out]at hm;injection hm with hm;rw [<-hm];exact hc)
   clear hn yM qX YQ;obtain⟨wq,vC⟩:∃v,v=wr:=⟨_,rfl⟩;subst vC;have yS:=Mv t n.place (by omega);have zL:=Qq (show Qg wq (wq.alloc (.cells #[.int .i64 n.agent,.int .i64 (n.place:Int),.slice Ah n.holds.length ch] 136))from Qz.alloc _);have VR:=Qq (Qgg (show(wq.alloc (.cells #[.int .i64 n.agent,.int .i64 (n.place:Int),.slice Ah n.holds.length ch] 136)).heap[wq.heap.size]?=some (.cells #[.int .i64 n.agent,.int .i64 (n.place:Int),.slice Ah n.holds.length ch] 136 (0,0))from heap_alloc_new _ _));have vK:=Qq (fW.out.next zL.out);have QP:=Qq (Qvp b lg base root ks cs alive n.agent t (fun u=> !n.holds.getD u false) 145 #[.pointer (some ⟨wq.heap.size,0,none⟩)] (fun _ _=>rfl) w0 _ v1 l1 (HE.out.ext vK.out.ext) xX (by omega) hm sW.out vK.out (Qx uT.out.len hm) uT.out.lt (fun W u hu hW=>Qrc wq.heap.size u Ah ch n.holds W ((hW.cell (p:=⟨wq.heap.size,2,none⟩) (by simp)).trans VR.out.2.2.1) ((bS.out.ext (Qz.alloc _)).ext hW) (Qy hu SU)))
   have NL:=Qq (fun h=>Qta (al:=alive) (l:=l1) (lg:=lg) (ks:=ks) (a:=n.agent) (t:=t) (wanted:=fun u=> !n.holds.getD u false) h);have ZP:=Qq (Qrb (al:=alive) (l:=l1) (lg:=lg) (ks:=ks) (a:=n.agent) (t:=t) (wanted:=fun u=> !n.holds.getD u false));obtain⟨l2,qN⟩:∃x,x=Wy lg ks alive n.agent t (fun u=> !n.holds.getD u false) l1:=⟨_,rfl⟩;rw [<-qN]at QP NL ZP;clear qN;cases yK:t.testBit n.place
   ·rw [yK]at yS;simp only [Bool.not_false]at yS;have kM:=Qq (show Pk lg ks l2 t n from fun hf=>by
     obtain⟨u,h1,h2,h3⟩:=NL.out (FI.out hf);exact⟨u,h1,by simpa using h2,h3⟩)
    clear yK;go_wp2_with fail;refine QP.out.mono ?_;rintro e w3 ⟨⟨r,rfl⟩,v2,xN,_⟩;have qH:=Qq xN;clear xN;go_wp2_with fail;go_roundw
    case rel=>exact⟨k+1,by go_num,by omega,Qq ⟨v2,l2,qH.out,VF.out.trans ZP.out,lH.out l2 ZP.out.sub kM.out⟩⟩
    case measure=>simp [intOf];omega
   rw [yK]at yS;simp only [Bool.not_true]at yS;have kM:=Qq (show Pk lg ks l1 t n from fun hf=>by rw [yK]at hf;cases hf);clear yK;go_wp2_with fail;go_roundw
   case rel=>exact⟨k+1,by go_num,by omega,Qq ⟨v1,l1,vK.out,VF.out,lH.out l1 (fun _ h=>h) kM.out⟩⟩
   case measure=>simp [intOf];omega
  obtain rfl:ks.length=k:=by omega
  have PM:=Qq (show ∀m∈ks,Pk lg ks l1 t m from fun m hm=>by
   obtain⟨j,hj,e⟩:=List.getElem_of_mem hm;exact JL.out j m hj (by rw [Qv hj,e]))
  have x4:=(fW.out.ext.cell (p:=⟨b,4,none⟩) sM.out).trans D4.out;have xl:=Qy sM.out fW.out.ext.size;clear JL;obtain⟨w1,tI⟩:∃v,v=wr:=⟨_,rfl⟩;subst tI;go_wp2_with fail;clear x4 xl;go_loopw [43] (fun v wr=>∃k:Nat,v=.int .i64 (k:Int)/\k<=cs.length/\Hid (∃v' l',Gh w0 wr v' l'/\Ki alive l1 l'/\∀(j:Nat) (m:Cm),j < k->cs[j]?=some m->Pv lg ks alive l' t m)) (fun v _=>cs.length - (intOf v).toNat)
  case atStart=>exact⟨0,rfl,Nat.zero_le _,Qq ⟨v1,l1,fW.out,Ki.refl,fun j m hj=>absurd hj (by omega)⟩⟩
  case round =>
   clear fW;obtain⟨k,rfl,hk,zY⟩:=hrel;obtain⟨v2,l2,xN,uF,lS⟩:=zY.out;have vK:=Qq xN;have bP:=Qq uF;have JK:=Qq lS;have XN:=Qq (uT.out.grow uF);clear zY xN uF lS;by_cases hlt2:k < cs.length
   ·have yV:(k:Int) < (cs.length:Int):=by omega
    obtain⟨n,hn⟩:∃n,cs[k]?=some n:=⟨_,Qv hlt2⟩;have YQ:=List.mem_of_getElem? hn;obtain⟨sE,uU,jS,bB,vD⟩:=kT.out n YQ;obtain⟨ad,rfl,yX,yM⟩:=Qdm HC.out hn;obtain⟨vx,vy,c0,c1,c2,c3,c4,vE,qD⟩:=yM.ext vK.out.ext (Qj yX);have wC:=Qq vE;have eV:=Qq qD;obtain⟨Ax,cx,rfl,_⟩:=vE;obtain⟨Ay,cy,rfl,_⟩:=qD;have tD:(ad.add (k*5)).block < wr.heap.size:=by rw [Qr];exact Qy yX vK.out.ext.size
    have HN:=Qq hn;have FB:=Qq (UW.out.com n YQ);have lH:=Qq (show ∀l3,(∀u∈l2,u∈l3)->Pv lg ks alive l3 t n->∀(j:Nat) (m:Cm),j < k+1->cs[j]?=some m->Pv lg ks alive l3 t m from fun l3 hs hc j m hj hm=>by
     by_cases e:j < k
     ·exact(JK.out j m e hm).mono hs
     have:j=k:=by omega
     subst this;rw [HN.out]at hm;injection hm with hm;rw [<-hm];exact hc)
    clear hn yM YQ;obtain⟨wq,vC⟩:∃v,v=wr:=⟨_,rfl⟩;subst vC;have yZ:n.place < 64:=sE;have yS:=Mv t n.place (by omega);have zL:=Qq (show Qg wq (wq.alloc (.cells #[.int .i64 (n.place:Int),.int .i64 n.group,.slice Ax n.x.length cx,.slice Ay n.y.length cy,.int .u64 (n.parts:Int)] 138))from Qz.alloc _);have qH:=Qq (vK.out.next zL.out);have eF:=Qq (Qnc b lg base root ks cs alive n t (.slice Ax n.x.length cx) (.slice Ay n.y.length cy) _ (HE.out.ext qH.out.ext) xX (by omega) hm sW.out (wC.out.ext (Qz.alloc _)) (eV.out.ext (Qz.alloc _)) uU jS ⟨bB,vD⟩ (by omega));cases yK:t.testBit n.place
    ·rw [yK]at yS;simp only [Bool.not_false]at yS;have DW:=Qq (Eh.1 (FB.out yK));clear yK uU jS bB vD;go_wp2_with fail;refine eF.out.mono ?_;rintro e w3 oU;rcases oU with⟨rfl,zC,oI⟩|⟨ad3,c3',ls,rfl,zC,zR,zQ,aX,LX,XZ⟩
     ·exact absurd DW.out oI
     have zB:=Qq zC;have tM:=Qq zR;have UY:=Qq aX;have kP:=Qq LX;have gW:=Qq (qH.out.next zC);have aJ:=Qq (show ∀u∈ls,alive.getD u false=true from fun u hu=>by
      obtain⟨a,ha⟩:=Qfr ls aX u hu;exact Zzm ha)
     obtain⟨pg,cap2,vR,sU,YZ,jZ,sR,_⟩:=Up zR (j:=0) (by cases ls;exact absurd rfl zQ;exact Nat.succ_pos _) rfl;injection vR with hsl2a _ hsl2b;injection hsl2a with hsl2a;subst hsl2a hsl2b;unfold maxLen at sR;have FD:=Qq (show w0.heap.size+1 < pg/\v2.ownBlock≠some pg by
      have h1:=Qn vK.out.box;have h2:(wq.alloc (.cells #[.int .i64 (n.place:Int),.int .i64 n.group,.slice Ax n.x.length cx,.slice Ay n.y.length cy,.int .u64 (n.parts:Int)] 138)).heap.size=wq.heap.size+1:=by simp
      rw [h2]at YZ;refine⟨by omega,fun e=> ?_⟩;have:=(vK.out.row.lt _ e).2
      omega)
     have E2:=Qq (show ∃u,ls[0]?=some u by cases ls;exact absurd rfl zQ;exact⟨_,rfl⟩);have bJ:=Qq sU;clear zR aX LX XZ zC zQ YZ sU;go_wp2_with fail;go_loopw [58] (fun v wr=>∃k:Nat,v=.int .i64 (k:Int)/\k<=ls.length/\Hid (∃v',Gh w0 wr v' (Nz l2 (ls.take k))/\Lm w0 w3 v2 wr v')) (fun v _=>ls.length - (intOf v).toNat)
     case atStart=>exact⟨0,rfl,Nat.zero_le _,Qq ⟨v2,gW.out,Lm.of Qz⟩⟩
     case round =>
      clear gW;obtain⟨j,rfl,hj,zY⟩:=hrel;obtain⟨v4,WK,P0⟩:=zY.out;have gW:=Qq WK;have eT:=Qq P0;have OR:=Qq (Qy8 (al:=alive) (ls.take j) l2 (fun u hu=>aJ.out u (List.mem_of_mem_take hu)));have FH:=Qq (XN.out.grow OR.out);clear zY WK P0;by_cases lE:j < ls.length
      ·have oM:(j:Int) < (ls.length:Int):=by omega
       have L2:=Zp tM.out (w':=wr) fun g hg=>by
        injection hg with hg;subst hg;exact eT.out.blk pg bJ.out (show pg≠w0.heap.size by have:=FD.out.1;omega) (show pg≠w0.heap.size+1 by have:=FD.out.1;omega) FD.out.2
       obtain⟨g2,cap3,jY,YX,_,_,_,a0⟩:=Up L2 lE rfl;injection jY with hsl3a _ hsl3b;injection hsl3a with hsl3a;injection hsl3a with hsl3a;subst hsl3a hsl3b;have oF:ls.getD j 0∈ls:=by rw [Qk,Qv lE];exact List.getElem_mem _
       have rS:=Xr (aJ.out _ oF);have gU:=Qq (show Nz l2 (ls.take (j+1))=Nt (Nz l2 (ls.take j)) ((ls.getD j 0:Nat):Int)from Qrn lE);clear oF L2;obtain⟨u,hu⟩:∃u,u=ls.getD j 0:=⟨_,rfl⟩;rw [<-hu]at a0 rS gU;have hu4:(u:Int)<=4096:=by omega
       have aY:(Nz l2 (ls.take j)).length<=4096:=Qx FH.out.len hm;obtain⟨l4,LL⟩:∃x,x=Nz l2 (ls.take j):=⟨_,rfl⟩;rw [<-LL]at gW gU aY;clear LL hu OR FH;go_wp2_with fail;refine(Qgx w0 _ v4 l4 (u:Int) gW.out hu4 aY).mono ?_;rintro e w5 ⟨⟨r,rfl⟩,v5,PW,xG⟩;have UJ:=Qq PW;have VJ:=Qq (eT.out.trans xG);clear PW xG;go_wp2_with fail;go_roundw
       case rel=>exact⟨j+1,by go_num,by omega,Qq ⟨v5,by rw [gU.out];exact UJ.out,VJ.out⟩⟩
       case measure=>simp [intOf];omega
      obtain rfl:ls.length=j:=by omega
      have kM:=Qq (show Pv lg ks alive (Nz l2 ls) t n from fun _=>by
       obtain⟨u,hu⟩:=E2.out;exact⟨u,(Qfs ls u hu UY.out).mono (fun a b h=>⟨h.1,Qk6 ls l2 b (Or.inl h.2)⟩),kP.out u hu⟩)
      rw [List.take_length]at gW OR;clear FH;go_wp2_with fail;go_roundw
      case rel=>exact⟨k+1,by go_num,by omega,Qq ⟨v4,Nz l2 ls,gW.out,bP.out.trans OR.out,lH.out _ OR.out.sub kM.out⟩⟩
      case measure=>simp [intOf];omega
    rw [yK]at yS;simp only [Bool.not_true]at yS;have kM:=Qq (show Pv lg ks alive l2 t n from fun hf=>by rw [yK]at hf;cases hf);clear yK uU jS bB vD;go_wp2_with fail;go_roundw
    case rel=>exact⟨k+1,by go_num,by omega,Qq ⟨v2,l2,qH.out,bP.out,lH.out l2 (fun _ h=>h) kM.out⟩⟩
    case measure=>simp [intOf];omega
   obtain rfl:cs.length=k:=by omega
   have PN:=Qq (show ∀m∈cs,Pv lg ks alive l2 t m from fun m hm=>by
    obtain⟨j,hj,e⟩:=List.getElem_of_mem hm;exact JK.out j m hj (by rw [Qv hj,e]))
   clear JK;obtain⟨w2,mN⟩:∃v,v=wr:=⟨_,rfl⟩;subst mN;go_wp2_with fail;go_loopw [68] (fun v wr=>∃k:Nat,v=.int .i64 (k:Int)/\k<=agents/\Hid (∃v' l',Gh w0 wr v' l'/\Ki alive l2 l'/\∀j,j < k->Hq lg ks l' t j)) (fun v _=>agents - (intOf v).toNat)
   case atStart=>exact⟨0,rfl,Nat.zero_le _,Qq ⟨v2,l2,vK.out,Ki.refl,fun j hj=>absurd hj (by omega)⟩⟩
   case round =>
    clear vK;obtain⟨k,rfl,hk,zY⟩:=hrel;obtain⟨v3,l3,qZ,MF,SO⟩:=zY.out;have qH:=Qq qZ;have QV:=Qq MF;have FY:=Qq SO;have XM:=Qq (XN.out.grow MF);clear zY qZ MF SO;by_cases hlt2:k < agents
    ·have yV:(k:Int) < (agents:Int):=by omega
     have x0:=(qH.out.ext.cell (p:=⟨b,0,none⟩) sM.out).trans D0'.out;have xl:=Qy sM.out qH.out.ext.size;have lH:=Qq (show ∀l4,(∀u∈l3,u∈l4)->Hq lg ks l4 t k->∀j,j < k+1->Hq lg ks l4 t j from fun l4 hs hc j hj=>by
      by_cases e:j < k
      ·exact(FY.out j e).mono hs
      have:j=k:=by omega
      subst this;exact hc)
     have QP:=Qq (fun W (hW:Qg wr W)=>Qvp b lg base root ks cs alive (k:Int) t (fun _=>true) 146 #[] (fun _ _=>rfl) w0 W v3 l3 (HE.out.ext (qH.out.next hW).ext) xX (by omega) hm sW.out (qH.out.next hW) (Qx XM.out.len hm) XM.out.lt (fun W u _ _=>Qrh (u:Int) W));have NL:=Qq (fun h=>Qta (al:=alive) (l:=l3) (lg:=lg) (ks:=ks) (a:=(k:Int)) (t:=t) (wanted:=fun _=>true) h);have ZP:=Qq (Qrb (al:=alive) (l:=l3) (lg:=lg) (ks:=ks) (a:=(k:Int)) (t:=t) (wanted:=fun _=>true));have fT:=Qq (fun h=>UW.out.ser h k (by omega));obtain⟨l4,aY⟩:∃x,x=Wy lg ks alive (k:Int) t (fun _=>true) l3:=⟨_,rfl⟩
     rw [<-aY]at QP NL ZP;clear aY;have kM:=Qq (show Hq lg ks l4 t k from fun hf=>by
      obtain⟨u,h1,_,h3⟩:=NL.out (fT.out hf);exact⟨u,h1,h3⟩)
     cases h1:lg==1
     ·cases h5:lg==5
      ·have hG:=Qq (show Hq lg ks l3 t k from fun hf=>by
        rcases hf with e|e
        ·rw [e]at h1;cases h1
        rw [e]at h5;cases h5)
       go_wp2_with fail;go_roundw
       case rel=>exact⟨k+1,by go_num,by omega,Qq ⟨v3,l3,qH.out,QV.out,lH.out l3 (fun _ h=>h) hG.out⟩⟩
       case measure=>simp [intOf];omega
      go_wp2_with fail;refine(QP.out _ Qz).mono ?_;rintro e w5 ⟨⟨r,rfl⟩,v4,WK,_⟩;have gW:=Qq WK;clear WK;go_wp2_with fail;go_roundw
      case rel=>exact⟨k+1,by go_num,by omega,Qq ⟨v4,l4,gW.out,QV.out.trans ZP.out,lH.out l4 ZP.out.sub kM.out⟩⟩
      case measure=>simp [intOf];omega
     go_wp2_with fail;refine(QP.out _ Qz).mono ?_;rintro e w5 ⟨⟨r,rfl⟩,v4,WK,_⟩;have gW:=Qq WK;clear WK;go_wp2_with fail;go_roundw
     case rel=>exact⟨k+1,by go_num,by omega,Qq ⟨v4,l4,gW.out,QV.out.trans ZP.out,lH.out l4 ZP.out.sub kM.out⟩⟩
     case measure=>simp [intOf];omega
    obtain rfl:agents=k:=by omega
    go_wp2_with fail;exact bodyPost_end (v:=.tuple #[]) (results_none rfl _ _ _) rfl ⟨⟨_,rfl⟩,v3,l3,qH.out,VF.out.trans (bP.out.trans QV.out),fun m hm=>(PM.out m hm).mono (bP.out.trans QV.out).sub,fun m hm=>(PN.out m hm).mono QV.out.sub,FY.out⟩
theorem Qcx {l:List (List Nd)} {k:Nat} {s:List Nd}(h:l[k]?=some s)(a:List Nd):(l.take (k+1)).foldl Bt a=Bt ((l.take k).foldl Bt a) s:=by
 rw [Kd h,List.foldl_append];rfl
theorem Qpq(ad:Addr)(k:Nat):ad.add (k+1)=⟨ad.block,ad.off+1+k,none⟩:=by
 unfold Addr.add;simp;omega
theorem Qeg {α:Type} {x:α} {r:List α} {k:Nat} {s:α}(h:r[k]?=some s):(x :: r)[k+1]?=some s:=by simpa using h
theorem Qca(v1 v2:Value)(l:List (List Nd))(e0:List Nd)(wb w:World)(h1:Dd w v1 l)(xO:Vq wb w v2 e0):
 Calls Tryz.prog 177 #[v1,v2,.func (Fn.func 71) #[] #[]] w fun e w'=>∃u,e=.returned u/\Vq wb w' u (Qb4 e0 l):=by
 have H1:=Qq h1;have H2:=Qq xO;have h2:=xO.fml;obtain⟨A,c,rfl,xR,yN,hr⟩:=h1;obtain⟨A2,c2,rfl,_⟩:=Qc h2;unfold maxLen at yN;have HR:=Qq hr;clear hr h2 xO;cases l with
 |nil =>
  go_enter Tryz.func177,Tryz.ntmps177;go_wp2_with fail;go_ret;exact⟨_,rfl,H2.out⟩
 |cons f r =>
  obtain⟨ad,rfl,yS,xV⟩:=HR.out (by simp);obtain⟨u0,IC,P1⟩:=xV 0 f rfl;have HC:=Qq xV;have VM:=Qq P1;have hu0':w.cell? ad=some u0:=by rw [<-IC];congr 1
  clear xV P1 HR H1 IC;obtain⟨m,hm⟩:∃m,m=r.length:=⟨_,rfl⟩;rw [show(f :: r).length=m+1 by simp [hm]]at xR⊢;have HM:=Qq hm;have mU:(((m+1:Nat):Int)==0)=false:=by rw [beq_eq_false_iff_ne];omega
  have aY:(((m:Nat):Int)+1==0)=false:=by rw [beq_eq_false_iff_ne];omega
  have qN:(0:Int) < ((m+1:Nat):Int):=by omega
  clear hm;by_cases wN:c=1
  ·subst wN;obtain rfl:0=m:=by omega
   go_enter Tryz.func177,Tryz.ntmps177;go_wp2_with fail;refine(Fs _ f _ VM.out).mono ?_;rintro e w1 ⟨u,rfl,hm⟩;have pE:=Qq hm;clear hm;go_wp2_with fail;have aB:=Qq (List.length_eq_zero_iff.1 HM.out.symm);go_loopw [7,21] (fun vf vi wr=>vi=.int .i64 0/\vf=u/\Hid (Qg w1 wr)) (fun _ i _=>0)
   case atStart=>exact⟨rfl,rfl,Qq Qz⟩
   case round =>
    obtain⟨rfl,rfl,HX⟩:=hrel;go_wp2_with fail;go_ret;exact⟨_,rfl,by rw [aB.out];exact(pE.out.before H2.out.ext).after HX.out⟩
  have TG:1 < c:=by omega
  go_enter Tryz.func177,Tryz.ntmps177;go_wp2_with fail;refine(Fs _ f _ VM.out).mono ?_;rintro e w1 ⟨u,rfl,hm⟩;have pE:=Qq hm;clear hm;go_wp2_with fail;go_loopw [7,21] (fun vf vi wr=>∃k:Nat,k<=m/\vi=.int .i64 (k:Int)/\Hid (Vq w wr vf ((r.take k).foldl Bt (Qf f)))) (fun _ i _=>m - (intOf i).toNat)
  case atStart=>exact⟨0,Nat.zero_le _,rfl,pE⟩
  case round =>
   obtain⟨k,hk,rfl,zY⟩:=hrel;have HX:=Qq zY.out.ext;have HF:=Qq zY.out.fml;obtain⟨Af,cf,rfl,_⟩:=Qc zY.out.fml;by_cases hlt2:k < m
   ·obtain⟨s,hs⟩:∃s,r[k]?=some s:=⟨_,List.getElem?_eq_getElem (by rw [<-HM.out];exact hlt2)⟩;obtain⟨us,tJ,pW⟩:=HC.out (k+1) s (Qeg hs);rw [Qpq]at tJ;have a0:=(HX.out.cell (p:=⟨ad.block,ad.off+1+k,none⟩) yS).trans tJ;have eQ:=Qq (pW.ext HX.out);have HS:=Qq hs;obtain⟨As,cs,rfl,_⟩:=Qc pW;clear hs pW tJ;go_wp2_with fail;refine(Qyv _ _ _ _ _ HF.out eQ.out).mono ?_;rintro e w2 ⟨u2,rfl,xO⟩;have wE:=Qq xO;clear xO;go_wp2_with fail;go_roundw
    case rel=>exact⟨k+1,by omega,by go_num,Qq (by rw [Qcx HS.out];exact wE.out.before HX.out)⟩
    case measure=>simp [intOf];omega
   obtain rfl:m=k:=by omega
   have HE:=Qq (show r.take m=r by rw [HM.out];exact List.take_of_length_le (Nat.le_refl _));go_wp2_with fail;go_ret;refine⟨.slice Af ((r.take m).foldl Bt (Qf f)).length cf,rfl,?_⟩;have:=zY.out;rw [HE.out]at this⊢;exact this.before H2.out.ext
theorem Qid(v:Value)(l:List (List Nd))(w:World)(h:Dd w v l):
 Calls Tryz.prog 122 #[v] w fun e w'=>∃u,e=.returned u/\Vq w w' u (Qva l):=by
 have H:=Qq h;obtain⟨A,c,rfl,xR,yN,hr⟩:=h;clear xR yN hr;go_enter Tryz.func122,Tryz.ntmps122;go_wp2_with fail;refine(Qrx _).mono ?_;rintro e w1 ⟨u,rfl,hm⟩;have HM:=Qq hm;clear hm;go_wp2_with fail;refine(Qca _ _ l _ _ _ (H.out.ext HM.out.ext) HM.out).mono ?_;rintro e w2 ⟨u2,rfl,xO⟩;have wE:=Qq xO;clear xO;go_wp2_with fail;go_ret;exact⟨_,rfl,wE.out⟩
theorem Xi {w:World} {b j:Nat} {cs:Array Value} {t:TypeId} {fr:Nat×Nat} {v:Value}(h:w.heap[b]?=some (.cells cs t fr))(hv:cs[j]?=some v):w.setCell ⟨b,j,none⟩ v=w:=by
 have e:(w.setCell ⟨b,j,none⟩ v).heap=w.heap:=by
  refine Array.ext_getElem? fun i=> ?_
  simp only [World.setCell,Array.getElem?_modify];by_cases hb:b=i
  ·subst hb;rw [h];simp only [if_true,Option.map_some,Option.some.injEq,Obj.cells.injEq,and_true,Option.isSome_none];show cs.setIfInBounds j v=cs;refine Array.ext_getElem? fun k=> ?_
   rw [Array.getElem?_setIfInBounds];by_cases hk:j=k
   ·subst hk;rw [if_pos rfl]
    split
    ·exact hv.symm
    rename_i hn;rw [Array.getElem?_eq_none (by omega)]
   rw [if_neg hk]
  rw [if_neg hb]
 unfold World.setCell at e⊢;simp only at e⊢;rw [e]
theorem Jd {P:Program} {fn:Func} {t u v:Tmp} {ty:TypeId}(h:fn.results=#[.cell t ty,.tmp u,.tmp v])(tmps:Array Value)(w:World) {b o:Nat}(ht:tmps.getD t undef=.pointer (some ⟨b,o,none⟩)) {cs:List Value} {d:TypeDesc}(hc:w.rangeAt b o cs)
 (hu:P.underlying ty=some d)(hd:d.isRow=true)(hi:(P.info? ty).map (·.size)=some cs.length):(results fn tmps).run P w=.ok (.tuple #[.agg cs.toArray,tmps.getD u undef,tmps.getD v undef]) w:=by
 have lO:tmps[t]?.getD undef=.pointer (some ⟨b,o,none⟩):=by rw [<-Array.getD_eq_getD_getElem?];exact ht
 simp [results,h,lO,asAddr,run_loadVar_mid w b o ty cs d hc hu hd hi]
theorem Jj {w:World} {b:Nat} {cs:Array Value} {t:TypeId}(h:w.heap[b]?=some (.cells cs t (0,0))):w.rangeAt b 0 cs.toList:=fun j v hj=>by
 have:cs[j]?=some v:=by simpa using hj
 simp [World.cell?,h,this]
def Un(f:List Nd):List Nd:=bif decide (4<=(Qi f).op)then Js f (Qi f).x else []
def Dw(f:List Nd):List Nd:=bif (Qi f).op==13 then Js f (Qi f).y else []
theorem Ms(w:World):Yq w (.slice none 0 0) []:=⟨⟨none,0,rfl,Nat.le_refl _,by unfold maxLen;omega,fun h=>absurd rfl h⟩,by simp⟩
theorem Ia(v:Value)(f:List Nd)(w:World)(h:Yq w v f)(h0:0 < f.length):
 Calls Tryz.prog 69 #[v] w fun e w'=>∃u1 u2,e=.returned (.tuple #[(Qi f).val,u1,u2])/\Qg w w'/\Yq w' u1 (Un f)/\Yq w' u2 (Dw f):=by
 have H:=Qq h;obtain⟨⟨A,c,rfl,xR,yN,zM⟩,zP⟩:=h;unfold maxLen at yN;obtain⟨ad,rfl,zJ,zH⟩:=zM (by intro e;rw [e]at h0;simp at h0);have dB:=Lx h0;obtain⟨c0,c1,c2,c3,c4,c5⟩:=zH _ _ dB;have gN:((f.length:Int) - 1) < (f.length:Int):=by omega
 have iO:(0:Int)<=(f.length:Int) - 1:=by omega
 have e1:((f.length:Int) - 1).toNat=f.length - 1:=by omega
 have yX:(ad.add ((f.length - 1)*6)).block < w.heap.size:=by rw [Qr];exact zJ
 clear zM zP zH dB;obtain⟨nn,uD⟩:∃nn,nn=Qi f:=⟨_,rfl⟩;rw [<-uD]at c0 c1 c2 c3 c4 c5;have HA:=Qq (show Un f=bif decide (4<=nn.op)then Js f nn.x else [] by rw [uD];rfl);have HB:=Qq (show Dw f=bif nn.op==13 then Js f nn.y else [] by rw [uD];rfl);have HN:=Qq uD;clear uD;have zL:=Qq (show Qg w (w.alloc (.cells #[.int .i64 nn.op,.int .i64 nn.i,.int .i64 nn.e,.int .i64 nn.g,.int .i64 nn.x,.int .i64 nn.y] 71))from Qz.alloc _);have lF:=Qq (show(w.alloc (.cells #[.int .i64 nn.op,.int .i64 nn.i,.int .i64 nn.e,.int .i64 nn.g,.int .i64 nn.x,.int .i64 nn.y] 71)).heap[w.heap.size]?=some (.cells #[.int .i64 nn.op,.int .i64 nn.i,.int .i64 nn.e,.int .i64 nn.g,.int .i64 nn.x,.int .i64 nn.y] 71 (0,0))from heap_alloc_new _ _)
 have uJ:nn.val=.agg [.int .i64 nn.op,.int .i64 nn.i,.int .i64 nn.e,.int .i64 nn.g,.int .i64 nn.x,.int .i64 nn.y].toArray:=rfl;have HV:=Qq uJ;clear uJ;by_cases h4:4<=nn.op
 ·by_cases xI:nn.op=13
  ·have aA:=Qq (show Un f=Js f nn.x by rw [HA.out,decide_eq_true h4];rfl);have ZZ:=Qq (show Dw f=Js f nn.y by rw [HB.out,show(nn.op==13)=true by rw [xI];rfl];rfl);have hd:(nn.op==13)=true:=by rw [xI];rfl
   clear xI;go_enter Tryz.func69,Tryz.ntmps69;go_wp2_with fail;refine(Ic _ f nn.x _ (H.out.ext zL.out)).mono ?_;rintro e w1 ⟨u1,rfl,uS⟩;have pE:=Qq uS;obtain⟨⟨k0,k1,k2,k3,k4,k5⟩,_,kb⟩:=Vc ((uS.ext.block (by simp)).trans lF.out);clear uS;go_wp2_with fail;refine(Ic _ f nn.y _ (H.out.ext (zL.out.trans pE.out.ext))).mono ?_;rintro e w2 ⟨u2,rfl,xO⟩;have wE:=Qq xO;have HZ:=Qq (show w2.heap[w.heap.size]?=some (.cells #[.int .i64 nn.op,.int .i64 nn.i,.int .i64 nn.e,.int .i64 nn.g,.int .i64 nn.x,.int .i64 nn.y] 71 (0,0))from(xO.ext.block (by omega)).trans ((pE.out.ext.block (by simp)).trans lF.out))
   obtain⟨⟨q0,q1,q2,q3,q4,q5⟩,qf,qb⟩:=Vc HZ.out;clear xO;go_wp2_with fail
   (try simp only [Exit.inBlock,Exit.then])
   rw [show(w2).setCell ⟨w.heap.size,0,none⟩ (.int .i64 nn.op)=w2 from Xi HZ.out rfl,show(w2).setCell ⟨w.heap.size,1,none⟩ (.int .i64 nn.i)=w2 from Xi HZ.out rfl,show(w2).setCell ⟨w.heap.size,2,none⟩ (.int .i64 nn.e)=w2 from Xi HZ.out rfl,show(w2).setCell ⟨w.heap.size,3,none⟩ (.int .i64 nn.g)=w2 from Xi HZ.out rfl,show(w2).setCell ⟨w.heap.size,4,none⟩ (.int .i64 nn.x)=w2 from Xi HZ.out rfl,show(w2).setCell ⟨w.heap.size,5,none⟩ (.int .i64 nn.y)=w2 from Xi HZ.out rfl];refine bodyPost_ret (Jd Tryz.results69 _ _ rfl (Jj HZ.out) Tryz.underlying71 rfl (by kernel_rfl)) rfl ?_
   exact⟨u1,u2,by rw [<-HN.out,HV.out] <;> rfl,zL.out.trans (pE.out.ext.trans wE.out.ext),by rw [aA.out];exact pE.out.fml.ext wE.out.ext,by rw [ZZ.out];exact wE.out.fml⟩
  have hd:(nn.op==13)=false:=by simpa using xI
  have aA:=Qq (show Un f=Js f nn.x by rw [HA.out,decide_eq_true h4];rfl);have ZZ:=Qq (show Dw f= [] by rw [HB.out,hd];rfl);clear xI;go_enter Tryz.func69,Tryz.ntmps69;go_wp2_with fail;refine(Ic _ f nn.x _ (H.out.ext zL.out)).mono ?_;rintro e w2 ⟨u1,rfl,uS⟩;have pE:=Qq uS;have HZ:=Qq (show w2.heap[w.heap.size]?=some (.cells #[.int .i64 nn.op,.int .i64 nn.i,.int .i64 nn.e,.int .i64 nn.g,.int .i64 nn.x,.int .i64 nn.y] 71 (0,0))from(uS.ext.block (by simp)).trans lF.out);obtain⟨⟨q0,q1,q2,q3,q4,q5⟩,qf,kb⟩:=Vc HZ.out;clear uS;go_wp2_with fail
  (try simp only [Exit.inBlock,Exit.then])
  rw [show(w2).setCell ⟨w.heap.size,0,none⟩ (.int .i64 nn.op)=w2 from Xi HZ.out rfl,show(w2).setCell ⟨w.heap.size,1,none⟩ (.int .i64 nn.i)=w2 from Xi HZ.out rfl,show(w2).setCell ⟨w.heap.size,2,none⟩ (.int .i64 nn.e)=w2 from Xi HZ.out rfl,show(w2).setCell ⟨w.heap.size,3,none⟩ (.int .i64 nn.g)=w2 from Xi HZ.out rfl,show(w2).setCell ⟨w.heap.size,4,none⟩ (.int .i64 nn.x)=w2 from Xi HZ.out rfl,show(w2).setCell ⟨w.heap.size,5,none⟩ (.int .i64 nn.y)=w2 from Xi HZ.out rfl];refine bodyPost_ret (Jd Tryz.results69 _ _ rfl (Jj HZ.out) Tryz.underlying71 rfl (by kernel_rfl)) rfl ?_
  exact⟨u1,_,by rw [<-HN.out,HV.out] <;> rfl,zL.out.trans pE.out.ext,by rw [aA.out];exact pE.out.fml,by rw [ZZ.out];exact Ms _⟩
 have hd:(nn.op==13)=false:=by rw [beq_eq_false_iff_ne];omega
 have aA:=Qq (show Un f= [] by rw [HA.out,decide_eq_false h4];rfl);have ZZ:=Qq (show Dw f= [] by rw [HB.out,hd];rfl);go_enter Tryz.func69,Tryz.ntmps69;go_wp2_with fail
 (try simp only [Exit.inBlock,Exit.then])
 refine bodyPost_ret (Jd Tryz.results69 _ _ rfl (Jj lF.out) Tryz.underlying71 rfl (by kernel_rfl)) rfl ?_;exact⟨_,_,by rw [<-HN.out,HV.out] <;> rfl,zL.out,by rw [aA.out];exact Ms _,by rw [ZZ.out];exact Ms _⟩
def Qm5(a:Int)(f:List Nd):List Nd:=Uq a (Qkv (Un f) (Bt (Dw f) f))
theorem Qj9(a:Int)(ha:Vp a)(v:Value)(f:List Nd)(w:World)(h:Yq w v f)(h0:0 < f.length):
 Calls Tryz.prog 127 #[.int .i64 a,v] w fun e w'=>∃u,e=.returned u/\Vq w w' u (Qm5 a f):=by
 have H:=Qq h;obtain⟨A,c,rfl,_⟩:=Qc h;obtain⟨nn,uD⟩:∃nn,nn=Qi f:=⟨_,rfl⟩;have HN:=Qq uD;clear h uD;go_enter Tryz.func127,Tryz.ntmps127;go_wp2_with fail;refine(Ia _ f _ H.out h0).mono ?_;rintro e w1 ⟨u1,u2,rfl,zN,mW,qW⟩;have zO:=Qq zN;have VL:=Qq mW;have VK:=Qq qW;rw [<-HN.out];unfold Nd.val;obtain⟨A1,c1,rfl,_⟩:=Qc mW;obtain⟨A2,c2,rfl,_⟩:=Qc qW;clear zN mW qW;go_wp2_with fail;refine(Qyv _ _ _ _ _ (VK.out.ext (Qz.alloc _)) (H.out.ext (zO.out.alloc _))).mono ?_;rintro e w2 ⟨u3,rfl,lQ⟩;have mH:=Qq lQ;clear lQ;go_wp2_with fail;refine(Qgc _ _ _ _ _ (VL.out.ext ((Qz.alloc _).trans mH.out.ext)) mH.out.fml).mono ?_
 rintro e w3 ⟨u4,rfl,nL⟩;have eM:=Qq nL;clear nL;go_wp2_with fail;refine(Mc a ha _ _ _ eM.out.fml).mono ?_;rintro e w4 ⟨u5,rfl,LF⟩;have XQ:=Qq LF;clear LF;go_wp2_with fail;go_ret;exact⟨_,rfl,XQ.out.before ((zO.out.alloc _).trans (mH.out.ext.trans eM.out.ext))⟩
theorem Ql2(B:Nat)(u gv:Value)(s g:List Nd)(w:World)(hs:Wn w u s)(hB:w.cell? ⟨B,0,none⟩=some gv)(hg:Wn w gv g):
 Calls Tryz.prog 179 (#[u]++ #[.pointer (some ⟨B,0,none⟩)]) w fun e w'=>e=.returned (.bool (decide (s=g)))/\Qg w w':=by
 have HS:=Qq hs;have HG:=Qq hg;obtain⟨A,c,rfl,_⟩:=hs;obtain⟨A2,c2,rfl,_⟩:=hg;have HE:=Qq (show decide (s=g)=decide (g=s) by rw [decide_eq_decide];exact eq_comm);show Calls Tryz.prog 179 #[.slice A s.length c,.pointer (some ⟨B,0,none⟩)] w _;go_enter Tryz.func179,Tryz.ntmps179;go_wp2_with(go_at_call 180;refine(Qls _ _ g s _ (by exact HG.out.ext (by repeat(first|exact Qz|assumption|apply Qg.alloc|apply Qg.drew))) (by exact HS.out.ext (by repeat(first|exact Qz|assumption|apply Qg.alloc|apply Qg.drew)))).mono ?_;rintro e w1 ⟨rfl,hx⟩);go_ret;exact⟨by rw [HE.out] <;> rfl,by first|exact hx|exact Qg.trans (by repeat(first|exact Qz|assumption|apply Qg.alloc|apply Qg.drew)) hx⟩
theorem Qjd(v gv:Value)(l:List (List Nd))(g:List Nd)(w:World)(hl:Dd w v l)(hg:Yq w gv g):
 Calls Tryz.prog 128 #[v,gv] w fun e w'=>e=.returned (.int .i64 (Yr l g))/\Qg w w':=by
 have HL:=Qq hl;have HG:=Qq hg;obtain⟨A,c,rfl,_⟩:=hl;obtain⟨A2,c2,rfl,_⟩:=Qc hg;clear hg;go_enter Tryz.func128,Tryz.ntmps128;go_wp2_with fail;refine(Ql3 179 _ (fun _ _=>rfl) (fun s=>decide (s=g)) _ l _ (HL.out.ext (by repeat(first|exact Qz|assumption|apply Qg.alloc|apply Qg.drew))) (fun W u s hx hs=>Ql2 w.heap.size u _ s g W hs.1 ((hx.cell (p:=⟨w.heap.size,0,none⟩) (by simp)).trans (by simp)) (HG.out.1.ext ((Qz.alloc _).trans hx)))).mono ?_;rintro e w1 ⟨rfl,hx⟩;have HX:=Qq hx;clear hx;go_wp2_with fail;go_ret;exact⟨rfl,(Qz.alloc _).trans HX.out⟩
theorem Ky.before {w0 w w':World} {vo:Value} {out:List (List Nd)}(h:Ky w w' vo out)(he:Qg w0 w):Ky w0 w' vo out:=by
 obtain⟨us,hr,hu⟩:=h.row;refine⟨he.trans h.ext,us,Kp hr he.size,fun k s hk=> ?_⟩;obtain⟨u,a,b,c⟩:=hu k s hk;exact⟨u,a,b,fun g hg=>⟨(c g hg).1,(c g hg).2.1,Qx he.size (c g hg).2.2⟩⟩
theorem Ky.get {w0 w:World} {g cap:Nat} {out:List (List Nd)}(h:Ky w0 w (.slice (some ⟨g,0,none⟩) out.length cap) out) {k:Nat} {s:List Nd}(hk:out[k]?=some s):∃u,w.cell? ⟨g,k,none⟩=some u/\Yq w u s/\g < w.heap.size:=by
 obtain⟨us,hr,hu⟩:=h.row;have h0:0 < out.length:=Nat.lt_of_le_of_lt (Nat.zero_le k) (List.getElem?_eq_some_iff.1 hk).1;obtain⟨g',cap',e,hg,_,_,hc⟩:=Ps hr h0;injection e with e1 _ _;injection e1 with e1;injection e1 with e1;subst e1;obtain⟨u,a,b,_⟩:=hu k s hk;exact⟨u,hc k u a,b,hg⟩
theorem Ky.slice {w0 w:World} {v:Value} {out:List (List Nd)}(h:Ky w0 w v out)(h0:0 < out.length):∃g cap,v=.slice (some ⟨g,0,none⟩) out.length cap/\out.length<=cap/\cap<=maxLen:=by
 obtain⟨us,hr,hu⟩:=h.row;obtain⟨g',cap',e,hg,h1,h2,hc⟩:=Ps hr h0;exact⟨g',cap',e,h1,h2⟩
theorem Qkj {n:Nd}(h:Ze n)(hk:n.op=11\/n.op=13):0<=n.g/\n.g < 16:=by
 obtain⟨_,_,h3,_,_⟩:=h;unfold Ya at h3;rcases hk with ho|ho <;>(rw [ho]at h3;simp [Ql,Zo,Zb,Zd,Zm]at h3;omega)
theorem Qsv(base:List Nd)(k:Nat):(List.range (k+1)).map (fun(i:Nat)=>Js base i)=(List.range k).map (fun(i:Nat)=>Js base i)++ [Js base k]:=by
 rw [List.range_succ,List.map_append];rfl
theorem Qon(v:Value)(f:List Nd)(w:World)(h:Yq w v f)(hc:check f=0):
 Calls Tryz.prog 126 #[v] w fun e w'=>∃u,e=.returned u/\Ky w w' u (Qy4 f):=by
 have H:=Qq h;obtain⟨iI,pU,vQ,vP,vO⟩:=info_parts Qg3;obtain⟨A,c,rfl,_⟩:=Qc h;have hp:=Jb hc;obtain⟨base,tE⟩:∃b,b=Qf f:=⟨_,rfl⟩;have rN:check base=0:=tE▸Gv hc;have zG:base.length<=200:=tE▸Qx hp.2.1 (Jf hc).2.1;have HB:=Qq (show Qy4 f=Rm base by rw [tE];rfl);have rX:=Qq tE;have PD:=Qq rN;clear h hp tE rN hc;go_enter Tryz.func126,Tryz.ntmps126;go_wp2_with fail;refine(Fs _ f _ H.out).mono ?_;rintro e w0 ⟨uc,rfl,oX⟩;rw [<-rX.out]at oX;have jC:=Qq oX;obtain⟨Ac,cc,rfl,yM⟩:=Qc oX.fml;have jK:=Qq yM
 clear oX yM;go_wp2_with fail;go_loopw [3,10] (fun vo vi wr=>∃k:Nat,vi=.int .i64 (k:Int)/\k<=base.length/\Hid (∃out,out=(List.range k).map (fun(i:Nat)=>Js base i)/\Ky w0 wr vo out)) (fun _ v _=>base.length - (intOf v).toNat)
 case atStart=>exact⟨0,rfl,Nat.zero_le _,Qq ⟨[],rfl,Ky.nil _⟩⟩
 case round =>
  obtain⟨k,rfl,hk,zY⟩:=hrel;obtain⟨out,ho,xM⟩:=zY.out;obtain⟨us,zR,tJ⟩:=xM.row;obtain⟨Ao,co,rfl⟩:=Qt zR;have HO:=Qq ho;have wW:=Qq xM;have yO:=Qq zR;have lG:=Qq tJ;have sZ:out.length<=1000:=by rw [ho];simp;omega
  clear zY ho xM zR tJ;by_cases hlt2:k < base.length
  ·have yV:(k:Int) < (base.length:Int):=by omega
   have xS:out.length+1<=maxLen:=by unfold maxLen;omega
   have xP:(out.length+1)*24<=140737488355328:=by omega
   have fV:=Qq (show Js base (k:Int)=(Zw base k []).1 by
    unfold Js;rw [PD.out,show(decide ((k:Int) < 0)||decide ((base.length:Int)<=(k:Int)))=false by simp;omega]
    rfl)
   go_wp2_with fail;refine(Oh base _ _ k _ (Yt PD.out) jC.out.2.1 (by omega) hlt2 (jK.out.ext wW.out.ext)).mono ?_;rintro e w1 ⟨u,rfl,WM,cP,yT⟩;have hm:Vq wr w1 u (Js base (k:Int)):=by rw [fV.out];exact⟨WM,cP,yT⟩
   have X1:=Qq (wW.out.ext.trans hm.2.2);have Y1:=Qq hm.2.2;have HM:=Qq hm;obtain⟨Au,cu,rfl,_⟩:=Qc hm.fml;clear hm WM cP yT;go_wp2_with(at_builtin;refine wpList_append_own_at _ rfl _ _ 32 rfl w0.heap.size 22 iI (.slice none 0 0) 1 24 Tryz.underlying32 pU vQ vP vO rfl (by decide) _ out.length us rfl (Zg yO.out (Y1.out.alloc _)) ⟨_,0,none⟩ 1 1 [.slice Au (Js base (k:Int)).length cu] rfl rfl (Zt _ _ _ (by simp)) (fun u hu=>by rw [List.mem_singleton.1 hu];rfl) xS xP (Qx wW.out.ext.size (Y1.out.alloc _).size) ?_);intro v7 w7 zW zX _ zF;have pC:=Qq (Ky.push (s:=Js base (k:Int)) (X1.out.alloc _) (Zg yO.out (Y1.out.alloc _)) (fun k s hk=>by
    obtain⟨u,a,b,c⟩:=lG.out k s hk;exact⟨u,a,b.ext (Y1.out.alloc _),c.ext (Y1.out.alloc _)⟩) zW zX (zF.imp id (fun e=>e.trans (by simp))) (HM.out.fml.ext (Qz.alloc _)) (Lg (Nat.le_refl _) (Zg HM.out.1 (Qz.alloc _)) yO.out wW.out.ext.size))
   obtain⟨A7,c7,rfl⟩:=Qt zW;clear zW zX zF;go_wp2_with fail;go_roundw
   case rel=>exact⟨k+1,by go_num,by omega,Qq ⟨_,by rw [Qsv,<-HO.out],pC.out⟩⟩
   case measure=>simp [intOf];omega
  obtain rfl:base.length=k:=by omega
  go_wp2_with fail;go_ret;exact⟨_,rfl,by rw [HB.out,show Rm base=out from HO.out.symm];exact wW.out.before jC.out.ext⟩
theorem Zyi:(Tryz.prog.info? 3).map (fun i=>(i.zero,i.size,i.bytes))=some (some (.int .i64 0),1,8):=by kernel_rfl
structure Cir (w wr:World) (B:Nat) (vf vo:Value) (out:List Int):Prop where
 ext:Qg w wr
 blk:wr.heap[B]?=some (.cells #[vf,vo] 173 (0,0))
 row:wr.ownsRow (B+1) 3 1 vo out.length (out.map (Value.int .i64))
 res:wr.heap[B - 1]?=some (.cells #[.slice none 0 0,.slice none 0 0] 173 (0,0))
section
variable {w wr:World} {B:Nat} {vf vo:Value} {out:List Int}
theorem Cir.next {w4:World}(h:Cir w wr B vf vo out)(he:Qg wr w4):Cir w w4 B vf vo out :=
 ⟨h.ext.trans he,(he.block (Qn h.blk)).trans h.blk,Zg h.row he,(he.block (Qn h.res)).trans h.res⟩
theorem Cir.push {w7:World} {v7:Value} {z:Int}(h:Cir w wr B vf vo out)(hB:w.heap.size < B)
 (xJ:w7.ownsRow (B+1) 3 1 v7 (out.length+1) (out.map (Value.int .i64)++ [.int .i64 z]))(hg:wr.grownBy w7 vo.ownBlock):
 Cir w (w7.setCell ⟨B,1,none⟩ v7) B vf v7 (out++ [z]):=by
 have AB:∀g,vo.ownBlock=some g->B+1<=g:=fun g vM=>(h.row.lt g vM).1
 have hb:w7.heap[B]?=wr.heap[B]?:=hg.block B (Qn h.blk) (fun e=>by have:=AB B e.symm;omega);have qL:v7.ownBlock≠some B:=fun e=>by have:=(xJ.lt B e).1;omega
 refine⟨(h.ext.grown hg (fun g vM=>by have:=AB g vM;omega)).setCell (Nat.le_of_lt hB) _,Qzg (hb.trans h.blk) v7,?_,?_⟩
 ·have hr:w7.ownsRow (B+1) 3 1 v7 (out++ [z]).length ((out++ [z]).map (Value.int .i64)):=by
   rw [List.length_append,List.map_append];exact xJ
  exact ownsRow_setCell_other (a:=⟨B,1,none⟩) hr qL _
 rw [Below.heap_setCell _ _ _ _ (show B - 1≠B by omega),hg.block _ (Qn h.res) (fun e=>by have:=AB _ e.symm;omega)];exact h.res
end
theorem Qvn {base:List (List Nd)} {f:List Nd} {k:Nat} {n:Nd}(hn:f[k]?=some n):(Km base f).take (k+1)=(Km base f).take k++ [bif Jh n then Yr base (Js f (k:Int))else -1]:=Kd (Qx3 hn)
theorem Qbs(vb vf:Value)(base:List (List Nd))(f:List Nd)(w:World)(hb:Dd w vb base)(hf:Yq w vf f)(hl:f.length<=200):
 Calls Tryz.prog 182 #[vb,vf] w fun e w'=>∃ui,e=.returned (.agg #[vf,ui])/\Qg w w'/\Dn w' ui (Km base f):=by
 have HB:=Qq hb;have HF:=Qq hf;obtain⟨iI,pU,vQ,vP,vO⟩:=info_parts Zyi;obtain⟨Ab,cb,rfl,_⟩:=hb;obtain⟨⟨Af,cf,rfl,xR,yN,zM⟩,zP⟩:=hf;unfold maxLen at yN;have uA:=Qq zM;clear zM zP;go_enter Tryz.func182,Tryz.ntmps182;go_wp2_with fail;go_loopw [13] (fun vi wr=>∃k:Nat,vi=.int .i64 (k:Int)/\k<=f.length/\Hid (∃vo out,out=(Km base f).take k/\Cir w wr (w.heap.size+1) (.slice Af f.length cf) vo out)) (fun v _=>f.length - (intOf v).toNat)
 case atStart=>exact⟨0,rfl,Nat.zero_le _,Qq ⟨.slice none 0 0,[],rfl,(Qz.alloc _).alloc _,(by have:=heap_alloc_new (w.alloc (.cells #[.slice none 0 0,.slice none 0 0] 173)) (.cells #[.slice Af f.length cf,.slice none 0 0] 173);simpa using this),World.ownsRow_nil _ _ _ _,((Qz.alloc _).block (by simp)).trans (heap_alloc_new _ _)⟩⟩
 case round =>
  obtain⟨k,rfl,hk,zY⟩:=hrel;obtain⟨vo,out,sZ,ZC⟩:=zY.out;have pK:=Qq sZ;have HC:=Qq ZC;obtain⟨Ao,co,rfl⟩:=Qt ZC.row;have SE:out.length<=200:=by rw [sZ,List.length_take];omega
  obtain⟨d0,d1,df,dl⟩:=Uz ZC.blk;clear zY sZ ZC;by_cases hlt2:k < f.length
  ·have yV:(k:Int) < (f.length:Int):=by omega
   obtain⟨n,hn⟩:∃n,f[k]?=some n:=⟨_,Qv hlt2⟩;obtain⟨ad,rfl,yX,zH⟩:=uA.out (by intro e;rw [e]at hlt2;simp at hlt2);obtain⟨c0,c1,c2,c3,c4,c5⟩:=(zH k n hn).keep fun p hp=>HC.out.ext.cell (p:=p) (by rw [hp,Qr];exact yX)
   have tD:(ad.add (k*6)).block < wr.heap.size:=by rw [Qr];exact Qy yX HC.out.ext.size
   have HN:=Qq hn;clear hn zH;obtain⟨wq,vC⟩:∃v,v=wr:=⟨_,rfl⟩;subst vC;have xS:out.length+1<=maxLen:=by unfold maxLen;omega
   have xP:(out.length+1)*8<=140737488355328:=by omega
   have zL:=Qq (show Qg wq (wq.alloc (.cells #[.int .i64 n.op,.int .i64 n.i,.int .i64 n.e,.int .i64 n.g,.int .i64 n.x,.int .i64 n.y] 71))from Qz.alloc _);rcases Qxz n with zI|⟨t3,t9,t13⟩
   ·have rX:=Qq (show(bif Jh n then Yr base (Js f (k:Int))else -1)=Yr base (Js f (k:Int)) by rw [show Jh n=true by unfold Jh;rcases zI with e|e|e <;> rw [e] <;> rfl];rfl);have QR:=Qq (show((n.op==3)=true)\/((n.op==3)=false/\(n.op==9)=true)\/((n.op==3)=false/\(n.op==9)=false/\(n.op==13)=true) by rcases zI with e|e|e <;> rw [e] <;> simp);clear zI;rcases QR.out with t3|⟨t3,t9⟩|⟨t3,t9,t13⟩
    all_goals
     go_wp2_with fail;refine(Ic _ f (k:Int) _ (HF.out.ext (HC.out.ext.trans zL.out))).mono ?_;rintro e w2 ⟨u2,rfl,xO⟩;have wE:=Qq xO;clear xO;go_wp2_with fail;refine(Qjd _ _ base _ _ (HB.out.ext (HC.out.ext.trans (zL.out.trans wE.out.ext))) wE.out.fml).mono ?_;rintro e w3 ⟨rfl,zC⟩;have jI:=Qq (HC.out.next (zL.out.trans (wE.out.ext.trans zC)));obtain⟨q0,q1,qf,qb⟩:=Uz jI.out.blk;clear zC d0 d1 df dl;go_wp2_with(at_builtin;refine wpList_append_own_at _ rfl _ _ 36 rfl (w.heap.size+1+1) 3 iI (.int .i64 0) 1 8 Tryz.underlying36 pU vQ vP vO rfl (by decide) _ out.length (out.map (Value.int .i64)) rfl (jI.out.next (Qz.alloc _)).row ⟨_,0,none⟩ 1 1 [.int .i64 (Yr base (Js f (k:Int)))] rfl rfl (Zt _ _ _ (by simp)) (fun u hu=>by rw [List.mem_singleton.1 hu];rfl) xS xP (by have:=qb;simp;omega) ?_)
     intro v7 w7 zW zX _ zF;obtain⟨d0,d1,df,dl⟩:=Uz ((zX.block (w.heap.size+1) (by simp;omega) (fun e=>by have:=(jI.out.row.lt _ e.symm).1;omega)).trans ((jI.out.next (Qz.alloc (.cells #[.int .i64 (Yr base (Js f (k:Int)))] 3))).blk));have HP:=Qq (Cir.push (jI.out.next (Qz.alloc _)) (by omega) zW zX);obtain⟨A7,c7,rfl⟩:=Qt zW;clear zW zX zF;go_wp2_with fail;go_roundw
     case rel=>exact⟨k+1,by go_num,by omega,Qq ⟨_,_,by rw [Qvn HN.out,<-pK.out,rX.out],HP.out⟩⟩
     case measure=>simp [intOf];omega
   have rX:=Qq (show(bif Jh n then Yr base (Js f (k:Int))else -1)= -1 by rw [show Jh n=false by unfold Jh;rw [t3,t9,t13];rfl];rfl);have jI:=Qq (HC.out.next zL.out);have qb:=Qn jI.out.blk;go_wp2_with(at_builtin;refine wpList_append_own_at _ rfl _ _ 36 rfl (w.heap.size+1+1) 3 iI (.int .i64 0) 1 8 Tryz.underlying36 pU vQ vP vO rfl (by decide) _ out.length (out.map (Value.int .i64)) rfl (jI.out.next (Qz.alloc _)).row ⟨_,0,none⟩ 1 1 [.int .i64 (-1)] rfl rfl (Zt _ _ _ (by simp)) (fun u hu=>by rw [List.mem_singleton.1 hu];rfl) xS xP (by have:=qb;simp;omega) ?_)
   intro v7 w7 zW zX _ zF;obtain⟨q0,q1,qf,ql⟩:=Uz ((zX.block (w.heap.size+1) (by simp;omega) (fun e=>by have:=(jI.out.row.lt _ e.symm).1;omega)).trans ((jI.out.next (Qz.alloc (.cells #[.int .i64 (-1)] 3))).blk));have HP:=Qq (Cir.push (jI.out.next (Qz.alloc _)) (by omega) zW zX);obtain⟨A7,c7,rfl⟩:=Qt zW;clear zW zX zF;go_wp2_with fail;go_roundw
   case rel=>exact⟨k+1,by go_num,by omega,Qq ⟨_,_,by rw [Qvn HN.out,<-pK.out,rX.out],HP.out⟩⟩
   case measure=>simp [intOf];omega
  obtain rfl:f.length=k:=by omega
  have HR:=Qq (show wr.heap[w.heap.size]?=some (.cells #[.slice none 0 0,.slice none 0 0] 173 (0,0)) by have:=HC.out.res;rw [Nat.add_sub_cancel]at this;exact this);obtain⟨r0,r1,rf,rl⟩:=Uz HR.out;have HE:=Qq (show out=Km base f by rw [pK.out,List.take_of_length_le (by rw [Qx4];exact Nat.le_refl _)]);have HS:=Qq (Qzg (Qf6 HR.out (.slice Af f.length cf)) (.slice Ao out.length co));go_wp2_with fail
  (try simp only [Exit.inBlock,Exit.then])
  refine bodyPost_ret (My Tryz.results182 _ _ rfl (Jj HS.out) Tryz.underlying173 rfl (by kernel_rfl)) rfl ?_;have zQ:(Value.slice Ao out.length co).ownBlock≠some w.heap.size:=fun e=>by have:=(HC.out.row.lt _ e).1;omega
  exact⟨_,rfl,(HC.out.ext.setCell (by simp) _).setCell (by simp) _,by rw [<-HE.out];exact Qr1 (ownsRow_setCell_other (a:=⟨w.heap.size,1,none⟩) (ownsRow_setCell_other (a:=⟨w.heap.size,0,none⟩) HC.out.row zQ _) zQ _)⟩
theorem Qge {o c:Int}(h:o=c):(o==1)=(c==1)/\(o==4)=(c==4)/\(o==5)=(c==5)/\(o==6)=(c==6)/\(o==7)=(c==7)/\(o==8)=(c==8):=by
 subst h;exact⟨rfl,rfl,rfl,rfl,rfl,rfl⟩
theorem Qry:(Tryz.prog.info? 4).map (fun i=>(i.zero,i.size,i.bytes))=some (some (.bool false),1,1):=by kernel_rfl
theorem Zzg {pre:List Bool} {m j:Nat}(h:j < pre.length):(pre++List.replicate m false)[j]?=some (pre.getD j false):=by
 rw [List.getElem?_append_left h,Qk,Qv h];rfl
theorem Qgw {pre:List Bool} {k m:Nat} {b:Bool}(h:pre.length=k):(pre++List.replicate (m+1) false).set k b=(pre++ [b])++List.replicate m false:=by
 subst h;rw [List.set_append_right _ _ (Nat.le_refl _),Nat.sub_self,List.replicate_succ,List.set_cons_zero,List.append_assoc];rfl
theorem Qw3 {pre:List Bool} {m:Nat} :pre++List.replicate (m+1) false=(pre++ [false])++List.replicate m false:=by
 rw [List.replicate_succ,List.append_assoc];rfl
theorem Qg9 {t:Nat} {f:List Nd} {ps:List Int} {k:Nat} {n:Nd} {z:Int}(hn:f[k]?=some n)(hz:ps[k]?=some z)(v:List Bool):
 Qz1 t (f.drop k) (ps.drop k) v=Qz1 t (f.drop (k+1)) (ps.drop (k+1)) (v++ [Kr n z t v]):=by
 obtain⟨h1,e1⟩:=List.getElem?_eq_some_iff.1 hn;obtain⟨h2,e2⟩:=List.getElem?_eq_some_iff.1 hz;rw [List.drop_eq_getElem_cons h1,List.drop_eq_getElem_cons h2,e1,e2];rfl
theorem Oo(n:Nat):(madeCells #[Value.bool false] n).toList=(List.replicate n false).map Value.bool:=by
 have:=Qmk n
 simpa [Value.cells]using this
structure Ci (w wr:World) (vf vi:Value) (f:List Nd) (ps:List Int) (t k:Nat) (pre:List Bool):Prop where
 len:pre.length=k
 go:Qz1 t (f.drop k) (ps.drop k) pre=Qz1 t f ps []
 ext:Qg w wr
 box:wr.heap[w.heap.size]?=some (.cells #[vf,vi] 173 (0,0))
 row:Ks (w.heap.size+1) wr (w.heap.size+1) (pre++List.replicate (f.length - k) false)
section
variable {w wr W:World} {vf vi:Value} {f:List Nd} {ps:List Int} {t k:Nat} {pre:List Bool} {n:Nd} {z:Int} {b:Bool}
theorem Ci.keep(h:Ci w wr vf vi f ps t k pre)(hn:f[k]?=some n)(hz:ps[k]?=some z)(hb:Kr n z t pre=false)(he:Qg wr W):Ci w W vf vi f ps t (k+1) (pre++ [false]):=by
 have hk:=(List.getElem?_eq_some_iff.1 hn).1;refine⟨by simp [h.len],by rw [<-h.go,Qg9 hn hz,hb],h.ext.trans he,(he.block (Qn h.box)).trans h.box,?_⟩;have:=h.row.ext he;rw [show f.length - k=(f.length - (k+1))+1 by omega,Qw3]at this;exact this
theorem Ci.store(h:Ci w wr vf vi f ps t k pre)(hn:f[k]?=some n)(hz:ps[k]?=some z)(hb:Kr n z t pre=b)(he:Qg wr W):Ci w (W.setCell ⟨w.heap.size+1,k,none⟩ (.bool b)) vf vi f ps t (k+1) (pre++ [b]):=by
 have hk:=(List.getElem?_eq_some_iff.1 hn).1;refine⟨by simp [h.len],by rw [<-h.go,Qg9 hn hz,hb],(h.ext.trans he).setCell (by simp) _,?_,?_⟩
 ·rw [Below.heap_setCell _ _ _ _ (show w.heap.size≠w.heap.size+1 by omega)];exact(he.block (Qn h.box)).trans h.box
 have:=((h.row.ext he).set k b).1;rw [show f.length - k=(f.length - (k+1))+1 by omega,Qgw h.len]at this;exact this
theorem Ci.next(h:Ci w wr vf vi f ps t k pre)(he:Qg wr W):Ci w W vf vi f ps t k pre:=⟨h.len,h.go,h.ext.trans he,(he.block (Qn h.box)).trans h.box,h.row.ext he⟩
theorem Ci.drew(h:Ci w wr vf vi f ps t k pre):Ci w wr.drew vf vi f ps t k pre:=⟨h.len,h.go,h.ext.drew,h.box,h.row.ext Qz.drew⟩
theorem Ci.cell(h:Ci w wr vf vi f ps t k pre) {j:Nat}(hj:j < k):wr.cell? ⟨w.heap.size+1,j,none⟩=some (.bool (pre.getD j false)):=h.row.cell (Zzg (by rw [h.len];exact hj))
end
theorem Zj2(vf vi:Value)(f:List Nd)(ps:List Int)(t:Nat)(w:World)(ht:t < 18446744073709551616)(hf:Yq w vf f)(hi:Dn w vi ps)(vF:ps.length=f.length)(hp:∀z∈ps,z < 64)(kY:Wf f)(h0:0 < f.length)(hl:f.length<=200):
 Calls Tryz.prog 183 #[.agg #[vf,vi],.int .u64 (t:Int)] w fun e w'=>e=.returned (.bool (atN f ps t))/\Qg w w':=by
 obtain⟨⟨Af,cf,rfl,xR,yN,zM⟩,zP⟩:=hf;obtain⟨Ai,ci,rfl,WZ,cY,cH⟩:=hi;unfold maxLen at yN cY;obtain⟨ad,rfl,yX,zH⟩:=zM (by intro e;rw [e]at h0;simp at h0);obtain⟨ai,rfl,XA,WW⟩:=cH (by intro e;rw [e]at vF;simp at vF;omega);have qJ:=Qq zH;have OL:=Qq WW;have gS:=Qq kY;have HP:=Qq hp;have pC:=Qq vF;rw [vF]at WZ⊢;obtain⟨iB,SS,jQ,jP,jO⟩:=info_parts Qry;clear zM zP cH kY hp vF zH WW;go_enter Tryz.func183,Tryz.ntmps183;go_wp2_with(refine wpList_make_full _ rfl _ _ 89 rfl (w.heap.size+1) 4 iB (.bool false) 1 Tryz.underlying89 SS jQ jP .i64 .i64 (f.length:Int) (f.length:Int) f.length rfl rfl rfl rfl (by rw [jO];omega) (by unfold maxLen;omega) (by simp) ?_)
 intro W1 tS rL;have zO:=Qq (show Qg w W1 from((Qg.refl w).alloc (.cells #[.slice (some ad) f.length cf,.slice (some ai) f.length ci] 173)).grown rL (fun k e=>by cases e));have wC:=Qq (show W1.heap[w.heap.size]?=some (.cells #[.slice (some ad) f.length cf,.slice (some ai) f.length ci] 173 (0,0))from(rL.block _ (by simp) (fun e=>by cases e)).trans (heap_alloc_new _ _));have HI:=Qq (show Ci w W1 (.slice (some ad) f.length cf) (.slice (some ai) f.length ci) f ps t 0 []from⟨rfl,rfl,zO.out,wC.out,by
  have h1:=tS;rw [Oo]at h1;unfold Ks;simp only [List.nil_append,Nat.sub_zero,List.length_replicate];exact h1⟩)
 obtain⟨d0,d1,df,dl⟩:=Uz wC.out;clear tS rL;go_wp2_with fail;clear d0 d1 df dl;go_loopw [16] (fun vi wr=>∃k:Nat,vi=.int .i64 (k:Int)/\k<=f.length/\Hid (∃pre,Ci w wr (.slice (some ad) f.length cf) (.slice (some ai) f.length ci) f ps t k pre)) (fun v _=>f.length - (intOf v).toNat)
 case atStart=>exact⟨0,rfl,Nat.zero_le _,Qq ⟨[],HI.out⟩⟩
 case round =>
  obtain⟨k,rfl,hk,zY⟩:=hrel;obtain⟨pre,sS⟩:=zY.out;have HA:=Qq sS;obtain⟨d0,d1,df,dl⟩:=Uz sS.box;clear zY sS;by_cases hlt2:k < f.length
  ·have yV:(k:Int) < (f.length:Int):=by omega
   obtain⟨n,hn⟩:∃n,f[k]?=some n:=⟨_,Qv hlt2⟩;obtain⟨z,hz⟩:∃z,ps[k]?=some z:=⟨_,List.getElem?_eq_getElem (by rw [pC.out];exact hlt2)⟩;obtain⟨c0,c1,c2,c3,c4,c5⟩:=(qJ.out k n hn).keep fun p hp=>HA.out.ext.cell (p:=p) (by rw [hp,Qr];exact yX)
   have z0:=(HA.out.ext.cell (p:=ai.add k) (Qj XA)).trans (OL.out k z hz);have tD:(ad.add (k*6)).block < wr.heap.size:=by rw [Qr];exact Qy yX HA.out.ext.size
   have Q0:(ai.add k).block < wr.heap.size:=by rw [Qr];exact Qy XA HA.out.ext.size
   have xK:w.heap.size+1 < wr.heap.size:=HA.out.row.lt.2;have gfr:=HA.out.row.frozen k;have gc:wr.cell? ⟨w.heap.size+1,k,none⟩=some (.bool false):=HA.out.row.cell (by rw [List.getElem?_append_right (by rw [HA.out.len];exact Nat.le_refl _),HA.out.len,Nat.sub_self,List.getElem?_replicate,if_pos (by omega)]);have HN:=Qq hn;have HZ:=Qq hz;have QO:=Qq (gS.out k n hn);have hz64:=HP.out z (List.mem_of_getElem? hz);clear hn hz;obtain⟨wq,vC⟩:∃v,v=wr:=⟨_,rfl⟩;subst vC;by_cases xH:0<=z
   ·obtain⟨zn,rfl⟩:=Int.eq_ofNat_of_zero_le xH;have hzn:zn < 64:=by omega
    have tC:=Bc t zn ht;cases hb:t.testBit zn
    case false =>
     rw [hb]at tC;have zA:=Qq (show Kr n (zn:Int) t pre=false by unfold Kr;rw [decide_eq_true xH,cond_true,Int.toNat_natCast];exact hb);clear hb;go_wp2_with fail;go_roundw
     case rel=>exact⟨k+1,by go_num,by omega,Qq ⟨_,(HA.out.store HN.out HZ.out zA.out Qz).next (Qz.alloc _)⟩⟩
     case measure=>simp [intOf];omega
    case true =>
     rw [hb]at tC;have zA:=Qq (show Kr n (zn:Int) t pre=true by unfold Kr;rw [decide_eq_true xH,cond_true,Int.toNat_natCast];exact hb);clear hb;go_wp2_with fail;go_roundw
     case rel=>exact⟨k+1,by go_num,by omega,Qq ⟨_,(HA.out.store HN.out HZ.out zA.out Qz).next (Qz.alloc _)⟩⟩
     case measure=>simp [intOf];omega
   have oE:z < 0:=by omega
   have TV:=Qq (show decide (0<=z)=false by simpa using oE);have TD:n.op=1\/(n.op=4\/n.op=5\/n.op=6\/n.op=7\/n.op=8)\/(n.op≠1/\n.op≠4/\n.op≠5/\n.op≠6/\n.op≠7/\n.op≠8):=by omega
   rcases TD with zI|zI|zI
   ·have zA:=Qq (show Kr n z t pre=true by unfold Kr;rw [TV.out,zI];rfl);obtain⟨t1,t4,t5,t6,t7,t8⟩:=Qge zI;clear zI;go_wp2_with fail;go_roundw
    case rel=>exact⟨k+1,by go_num,by omega,Qq ⟨_,(HA.out.store HN.out HZ.out zA.out Qz).next (Qz.alloc _)⟩⟩
    case measure=>simp [intOf];omega
   ·have hX:0<=n.x/\n.x < k:=QO.out.1 (by rcases zI with e|e|e|e|e <;> rw [e] <;> rfl);obtain⟨jx,BS⟩:=Int.eq_ofNat_of_zero_le hX.1;have qO:jx < k:=by omega
    have gx:=HA.out.cell qO;have QU:=Qq (show pre.getD n.x.toNat false=pre.getD jx false by rw [BS,Int.toNat_natCast]);rw [BS]at c4;have lE:(jx:Int) < (f.length:Int):=by omega
    clear hX BS;obtain⟨bx,vE⟩:∃b,b=pre.getD jx false:=⟨_,rfl⟩;rw [<-vE]at gx QU;clear vE;rcases zI with zI|zI
    ·have zA:=Qq (show Kr n z t pre= !bx by unfold Kr;rw [TV.out,zI,<-QU.out];rfl);obtain⟨t1,t4,t5,t6,t7,t8⟩:=Qge zI;clear zI;cases bx
     all_goals
      go_wp2_with fail;go_roundw
      case rel=>exact⟨k+1,by go_num,by omega,Qq ⟨_,(HA.out.store HN.out HZ.out zA.out Qz).next (Qz.alloc _)⟩⟩
      case measure=>simp [intOf];omega
    have hY:0<=n.y/\n.y < k:=QO.out.2 (by rcases zI with e|e|e|e <;> rw [e] <;> rfl);obtain⟨jy,BR⟩:=Int.eq_ofNat_of_zero_le hY.1;have BU:jy < k:=by omega
    have gy:=HA.out.cell BU;have OO:=Qq (show pre.getD n.y.toNat false=pre.getD jy false by rw [BR,Int.toNat_natCast]);rw [BR]at c5;have BT:(jy:Int) < (f.length:Int):=by omega
    clear hY BR;obtain⟨b2,xA⟩:∃b,b=pre.getD jy false:=⟨_,rfl⟩;rw [<-xA]at gy OO;clear xA;rcases zI with zI|zI|zI|zI
    ·have zA:=Qq (show Kr n z t pre=(bx&&b2) by unfold Kr;rw [TV.out,zI,<-QU.out,<-OO.out];rfl);obtain⟨t1,t4,t5,t6,t7,t8⟩:=Qge zI;clear zI;cases bx <;> cases b2
     all_goals
      go_wp2_with fail;go_roundw
      case rel=>exact⟨k+1,by go_num,by omega,Qq ⟨_,(HA.out.store HN.out HZ.out zA.out Qz).next (Qz.alloc _)⟩⟩
      case measure=>simp [intOf];omega
    ·have zA:=Qq (show Kr n z t pre=(bx||b2) by unfold Kr;rw [TV.out,zI,<-QU.out,<-OO.out];rfl);obtain⟨t1,t4,t5,t6,t7,t8⟩:=Qge zI;clear zI;cases bx <;> cases b2
     all_goals
      go_wp2_with fail;go_roundw
      case rel=>exact⟨k+1,by go_num,by omega,Qq ⟨_,(HA.out.store HN.out HZ.out zA.out Qz).next (Qz.alloc _)⟩⟩
      case measure=>simp [intOf];omega
    ·have zA:=Qq (show Kr n z t pre=(!bx||b2) by unfold Kr;rw [TV.out,zI,<-QU.out,<-OO.out];rfl);obtain⟨t1,t4,t5,t6,t7,t8⟩:=Qge zI;clear zI;cases bx <;> cases b2
     all_goals
      go_wp2_with fail;go_roundw
      case rel=>exact⟨k+1,by go_num,by omega,Qq ⟨_,(HA.out.store HN.out HZ.out zA.out Qz).next (Qz.alloc _)⟩⟩
      case measure=>simp [intOf];omega
    have zA:=Qq (show Kr n z t pre=(bx==b2) by unfold Kr;rw [TV.out,zI,<-QU.out,<-OO.out];rfl);obtain⟨t1,t4,t5,t6,t7,t8⟩:=Qge zI;clear zI;go_wp2_with fail;obtain⟨⟨_,_,_,_,e4,e5⟩,_,eb⟩:=Vc (show(wq.alloc (.cells #[.int .i64 n.op,.int .i64 n.i,.int .i64 n.e,.int .i64 n.g,.int .i64 (jx:Int),.int .i64 (jy:Int)] 71)).heap[wq.heap.size]?=some (.cells #[.int .i64 n.op,.int .i64 n.i,.int .i64 n.e,.int .i64 n.g,.int .i64 (jx:Int),.int .i64 (jy:Int)] 71 (0,0))from heap_alloc_new _ _);refine Ym 14 (fun w'=>w'.cell? (⟨wq.heap.size,4,none⟩)=some (.int .i64 (jx:Int))/\w'.cell? (⟨wq.heap.size,5,none⟩)=some (.int .i64 (jy:Int))/\w'.cell? (⟨w.heap.size+1,jx,none⟩)=some (.bool bx)/\w'.cell? (⟨w.heap.size+1,jy,none⟩)=some (.bool b2)) (by kernel_rfl) ⟨xd eb e4,xd eb e5,xd xK gx,xd xK gy⟩ (fun zZ=> ?_)
    refine Qo 0 zZ ?_;refine Qo 1 zZ ?_;refine Qo 2 zZ ?_;refine Qo 3 zZ ?_;refine Qo 4 zZ ?_;refine Qo 5 zZ ?_;refine Qo 6 zZ ?_;refine Qo 7 zZ ?_;refine Qo 8 zZ ?_;refine Qo 9 zZ ?_;refine Qo 10 zZ ?_;refine Qo 11 zZ ?_;refine Qo 12 zZ ?_;refine Qo 13 zZ ?_;refine Yh (by kernel_rfl) rfl (fun K hK=> ?_);go_simp;refine hK.out _ _ ?_;clear hK K;refine Qb ?_;refine Yc (by kernel_rfl) ?_ _;go_wp2_with fail;go_roundw
    case rel =>
     exact⟨k+1,by go_num,by omega,Qq ⟨pre++ [bx==b2],((HA.out.store HN.out HZ.out zA.out Qz).next (Qz.alloc _)).drew⟩⟩
    case measure=>simp [intOf];omega
   obtain⟨e1,e4,e5,e6,e7,e8⟩:=zI;have t1:(n.op==1)=false:=by simpa using e1
   have t4:(n.op==4)=false:=by simpa using e4
   have t5:(n.op==5)=false:=by simpa using e5
   have t6:(n.op==6)=false:=by simpa using e6
   have t7:(n.op==7)=false:=by simpa using e7
   have t8:(n.op==8)=false:=by simpa using e8
   have zA:=Qq (show Kr n z t pre=false by unfold Kr;rw [TV.out,t1,t4,t5,t6,t7,t8];rfl);clear e1 e4 e5 e6 e7 e8;go_wp2_with fail;go_roundw
   case rel=>exact⟨k+1,by go_num,by omega,Qq ⟨_,HA.out.keep HN.out HZ.out zA.out (Qz.alloc _)⟩⟩
   case measure=>simp [intOf];omega
  obtain rfl:f.length=k:=by omega
  have gN:((f.length:Int) - 1) < (f.length:Int):=by omega
  have iO:(0:Int)<=(f.length:Int) - 1:=by omega
  have e1:((f.length:Int) - 1).toNat=f.length - 1:=by omega
  have HE:=Qq (show atN f ps t=pre.getD (f.length - 1) false by
   have h1:=HA.out.go;rw [List.drop_length]at h1;unfold atN;rw [<-h1];show pre.getLastD false=_;rw [List.getLastD_eq_getLast?,List.getLast?_eq_getElem?,HA.out.len,Qk])
  have gx:=HA.out.cell (show f.length - 1 < f.length by omega);go_wp2_with fail;go_ret;exact⟨by rw [HE.out] <;> rfl,HA.out.ext⟩
theorem Qzz {base:List (List Nd)}(h:base.length<=12)(g:List Nd):Yr base g < 64:=by
 unfold Yr;cases hf:base.findIdx? fun f=>decide (f=g)with
 |none=>show(-1:Int) < 64;decide
 |some j =>
  have:=(List.findIdx?_eq_some_iff_findIdx_eq.1 hf).1;show(j:Int) < 64;omega
theorem Qh1 {base:List (List Nd)}(h:base.length<=12)(f:List Nd):∀z∈Km base f,z < 64:=by
 intro z hz;unfold Km at hz;obtain⟨i,_,rfl⟩:=List.mem_map.1 hz;cases Jh (f.getD i Nd.zero)
 ·show(-1:Int) < 64;decide
 exact Qzz h _
theorem Il {α:Type}(g:Nat->α)(k:Nat):(List.range (k+1)).map g=(List.range k).map g++ [g k]:=by
 rw [List.range_succ,List.map_append];rfl
structure Qdv (w1 wr:World) (g B:Nat) (vf ui:Value) (h:Nat->Bool) (m k:Nat):Prop where
 ext:Qg w1 wr
 box:wr.heap[B]?=some (.cells #[vf,ui] 173 (0,0))
 row:Ks w1.heap.size wr g ((List.range k).map h++List.replicate (m - k) false)
theorem Qdv.store {w1 wr W:World} {g B:Nat} {vf ui:Value} {h:Nat->Bool} {m k:Nat}(i:Qdv w1 wr g B vf ui h m k)(hk:k < m)(hB:B≠g)(he:Qg wr W) {b:Bool}(hb:h k=b):Qdv w1 (W.setCell ⟨g,k,none⟩ (.bool b)) g B vf ui h m (k+1):=by
 have hg:=i.row.lt;refine⟨(i.ext.trans he).setCell hg.1 _,?_,?_⟩
 ·rw [Below.heap_setCell _ _ _ _ hB];exact(he.block (Qn i.box)).trans i.box
 have:=((i.row.ext he).set k b).1;rw [show m - k=(m - (k+1))+1 by omega,Qgw (by simp),<-hb,<-Il]at this;rw [<-hb];exact this
theorem Sx(b:Nat)(lg:Int)(base:List (List Nd))(root:List Bool)(ks:List Kn)(cs:List Cm)(alive:List Bool)(vf:Value)(f:List Nd)(w:World)
 (hE:Ex w b lg base root ks cs alive)(hl:base.length<=12)(hm:alive.length=2^base.length)(hf:Yq w vf f)(hc:check f=0):
 Calls Tryz.prog 130 #[.pointer (some ⟨b,0,none⟩),vf] w fun e w'=>∃g,e=.returned (.slice (some ⟨g,0,none⟩) (2^base.length) (2^base.length))/\Qg w w'/\Ks w.heap.size w' g (Vv base f):=by
 obtain⟨Ab,cb,Ar,cr,Ak,ck,Ac,cc,Aa,ca,d0,d1,d2,d3,d4,d5,xL,tE,_,_,_,wJ⟩:=hE.cells;have PK:=Qq tE;have HF:=Qq hf;have HC:=Qq hc;have sT:=Qb5 hl;have SK:=Jf hc;obtain⟨m,rH⟩:∃m,m=2^base.length:=⟨_,rfl⟩;have rW:=Qq rH;rw [<-rH]at hm sT⊢;obtain⟨Af,cf,rfl,_⟩:=Qc hf;obtain⟨iB,SS,jQ,jP,jO⟩:=info_parts Qry;have gZ:=Qq SK.1;have gY:=Qq SK.2.1;have ZI:=wJ.1;have qC:=wJ.2.1;unfold maxLen at qC;rw [hm]at d5 ZI;have uN:=Qq hl;have HM:=Qq hm;clear hE tE wJ hf hc rH SK hm hl d0 d2 d3 d4;go_enter Tryz.func130,Tryz.ntmps130;go_wp2_with fail;refine(Qbs _ _ base f _ PK.out HF.out gY.out).mono ?_
 rintro e w1 ⟨ui,rfl,zN,gN⟩;have zO:=Qq zN;have I4:=Qq gN;obtain⟨Ai,ci,rfl,_⟩:=gN;have d5':=(zN.cell (p:=⟨b,5,none⟩) xL).trans d5;have hbl1:b < w1.heap.size:=Qy xL zN.size;clear zN d1 d5;go_wp2_with(refine wpList_make_full _ rfl _ _ 89 rfl (w1.heap.size+1) 4 iB (.bool false) 1 Tryz.underlying89 SS jQ jP .i64 .i64 (m:Int) (m:Int) m rfl rfl rfl rfl (by rw [jO];omega) (by unfold maxLen;omega) (by simp) ?_);intro W1 tS rL;have yY:=Qq (show Qg w1 W1 from((Qg.refl w1).alloc (.cells #[.slice Af f.length cf,.slice Ai (Km base f).length ci] 173)).grown rL (fun k e=>by cases e))
 have wC:=Qq (show W1.heap[w1.heap.size]?=some (.cells #[.slice Af f.length cf,.slice Ai (Km base f).length ci] 173 (0,0))from(rL.block _ (by simp) (fun e=>by cases e)).trans (heap_alloc_new _ _));have HT:=Qq (show Ks (w1.heap.size+1) W1 (w1.heap.size+1) (List.replicate m false) by
  have h1:=tS;rw [Oo]at h1;unfold Ks;simp only [List.length_replicate];exact h1)
 clear tS rL d5';have E7:=Qq (show Qdv w1 W1 (w1.heap.size+1) w1.heap.size (.slice Af f.length cf) (.slice Ai (Km base f).length ci) (atN f (Km base f)) m 0 from⟨yY.out,wC.out,by rw [List.range_zero,List.map_nil,List.nil_append,Nat.sub_zero];exact HT.out.base_ (Nat.le_succ _)⟩);go_wp2_with fail;go_loopw [22] (fun v wr=>∃k:Nat,v=.int .i64 (k:Int)/\k<=m/\Hid (Qdv w1 wr (w1.heap.size+1) w1.heap.size (.slice Af f.length cf) (.slice Ai (Km base f).length ci) (atN f (Km base f)) m k)) (fun v _=>m - (intOf v).toNat)
 case atStart=>exact⟨0,rfl,Nat.zero_le _,E7⟩
 case round =>
  obtain⟨k,rfl,hk,HI⟩:=hrel;obtain⟨e0,e1,ef,el⟩:=Uz HI.out.box;by_cases hlt2:k < m
  ·have yV:(k:Int) < (m:Int):=by omega
   have xK:w1.heap.size+1 < wr.heap.size:=HI.out.row.lt.2;have gfr:=HI.out.row.frozen k;have gc:wr.cell? ⟨w1.heap.size+1,k,none⟩=some (.bool false):=HI.out.row.cell (by rw [List.getElem?_append_right (by simp),List.length_map,List.length_range,Nat.sub_self,List.getElem?_replicate,if_pos (by omega)]);obtain⟨wq,vC⟩:∃v,v=wr:=⟨_,rfl⟩;subst vC;go_wp2_with fail;refine(Zj2 _ _ f (Km base f) k _ (by omega) (HF.out.ext (zO.out.trans HI.out.ext)) (I4.out.ext HI.out.ext) (Qx4 _ _) (Qh1 uN.out f) (Yt HC.out) gZ.out gY.out).mono ?_;rintro e w2 ⟨rfl,zS⟩;have zT:=Qq zS;have gfr2:=(zS.frozen (p:=⟨w1.heap.size+1,k,none⟩) xK).trans gfr
   have gc2:=(zS.cell (p:=⟨w1.heap.size+1,k,none⟩) xK).trans gc;have sU:w1.heap.size+1 < w2.heap.size:=Qy xK zS.size;clear zS gfr gc;go_wp2_with fail;go_roundw
   case rel=>exact⟨k+1,by go_num,by omega,Qq (HI.out.store hlt2 (by omega) zT.out rfl)⟩
   case measure=>simp [intOf];omega
  obtain rfl:m=k:=by omega
  go_wp2_with fail;go_ret;refine⟨_,rfl,zO.out.trans HI.out.ext,?_⟩;have h1:=HI.out.row.base_ (b':=w.heap.size) zO.out.size;rw [Nat.sub_self,List.replicate_zero,List.append_nil]at h1;unfold Vv;rw [<-rW.out];exact h1
end Go.Proofs.YtkmclcmnoicagaaGreatDoor
