/- types' eliminate: the walk. -/
import Derived.Outline
import Derived.Test.YtkmclcmnoicagaaGreatDoorH26
namespace Go.Proofs.YtkmclcmnoicagaaGreatDoor
set_option maxRecDepth 100000
set_option maxHeartbeats 128000000
open Go.RowKit
theorem Zy1:(Tryz.prog.info? 41).map (fun i=>(i.zero,i.size,i.bytes))=some (some (.int .u64 0),1,8):=by kernel_rfl
def Qig(w:World)(b g:Nat)(lg:Int)(base:List (List Nd))(root:List Bool)(ks:List Kn)(cs:List Cm)(s:List Bool×List (Nat×Int))(e:Ending)(w':World):Prop :=
 ∃vt vw,e=.returned (.tuple #[vt,vw])/\w.grownBy w' (some g)/\Bd w' b g lg base root ks cs s.1/\w'.ownsRow w.heap.size 41 1 vt s.2.length (Qkw (s.2.map Prod.fst))/\w'.ownsRow w.heap.size 3 1 vw s.2.length (Qkx (s.2.map Prod.snd))
structure ElI (w wr:World) (g m:Nat) (vt vw:Value) (s:List Bool×List (Nat×Int)):Prop where
 grown:w.grownBy wr (some g)
 row:Ks g wr g s.1
 ts:wr.ownsRow w.heap.size 41 1 vt s.2.length (Qkw (s.2.map Prod.fst))
 ws:wr.ownsRow w.heap.size 3 1 vw s.2.length (Qkx (s.2.map Prod.snd))
 len:s.1.length=m
 apart:∀k,vt.ownBlock=some k->vw.ownBlock≠some k
theorem Qfv {why:List Bool->Nat->Option Int}(k:Nat)(s:List Bool×List (Nat×Int)):Sb why (k+1) s=(bif (Xj why (List.range s.1.length) s).2.length==s.2.length then s else Sb why k (Xj why (List.range s.1.length) s)):=rfl
def Qmy(v:Value):Nat:=match v with| .slice _ n _=>n|_=>0
def Zj9(v:Value):Nat:=match v with| .bool true=>1|_=>0
section
variable {w wr W:World} {b g:Nat} {lg:Int} {base:List (List Nd)} {root:List Bool} {ks:List Kn} {cs:List Cm} {m:Nat} {vt vw:Value} {s:List Bool×List (Nat×Int)} {alive:List Bool}
theorem ElI.next(h:ElI w wr g m vt vw s)(he:Qg wr W):ElI w W g m vt vw s :=
 ⟨⟨he.os.trans h.grown.os,he.tape.trans h.grown.tape,he.output.trans h.grown.output,Qx h.grown.size he.size,fun k hk hn=>(he.block (Qy hk h.grown.size)).trans (h.grown.block k hk hn)⟩,h.row.ext he,Zg h.ts he,Zg h.ws he,h.len,h.apart⟩
theorem ElI.eng(h:ElI w wr g m vt vw s)(hE:Bd w b g lg base root ks cs alive)(hm:alive.length=m):Bd wr b g lg base root ks cs s.1:=by
 refine⟨fun w' h1 h2=> ?_,h.row⟩;rw [h.len,<-hm];exact hE.keep w' (Qx h.grown.size h1) (fun k hk hl=>(h2 k hk (Qy hl h.grown.size)).trans (h.grown.block k hl (fun e=>hk (by injection e))))
theorem ElI.take {w7 w9:World} {c1 c2:Obj} {v7 v9:Value} {t:Nat} {i:Int}(h:ElI w wr g m vt vw s)(hg:g < w.heap.size)
 (h7:w7.ownsRow w.heap.size 41 1 v7 (s.2.length+1) (Qkw (s.2.map Prod.fst)++ [.int .u64 (t:Int)]))(g7:((wr.setCell ⟨g,t,none⟩ (.bool false)).alloc c1).grownBy w7 vt.ownBlock)
 (h9:w9.ownsRow w.heap.size 3 1 v9 (s.2.length+1) (Qkx (s.2.map Prod.snd)++ [.int .i64 i]))(g9:(w7.alloc c2).grownBy w9 vw.ownBlock)
 (a7:v7.ownBlock=vt.ownBlock\/v7.ownBlock=some ((wr.setCell ⟨g,t,none⟩ (.bool false)).alloc c1).heap.size)(a9:v9.ownBlock=vw.ownBlock\/v9.ownBlock=some (w7.alloc c2).heap.size):
 ElI w w9 g m v7 v9 (s.1.set t false,s.2++ [(t,i)]):=by
 have K6:∀k,vt.ownBlock=some k->w.heap.size<=k:=fun k hk=>(h.ts.lt k hk).1
 have PU:∀k,vw.ownBlock=some k->w.heap.size<=k:=fun k hk=>(h.ws.lt k hk).1
 have hs:=(h.row.set t false).2;have s1:(wr.setCell ⟨g,t,none⟩ (.bool false)).heap.size=wr.heap.size:=by simp [World.setCell]
 have s2:((wr.setCell ⟨g,t,none⟩ (.bool false)).alloc c1).heap.size=wr.heap.size+1:=by simp [s1]
 have s7:=g7.size;rw [s2]at s7;have s8:(w7.alloc c2).heap.size=w7.heap.size+1:=by simp
 have s9:=g9.size;rw [s8]at s9;have iP:=h.row.lt.2;have blk:∀k,k < wr.heap.size->k≠g->vt.ownBlock≠some k->vw.ownBlock≠some k->w9.heap[k]?=wr.heap[k]?:=fun k hk QF hkt M2=>by
  rw [g9.block k (by omega) (fun e=>M2 e.symm),((Qg.refl w7).alloc c2).block (by omega),g7.block k (by omega) (fun e=>hkt e.symm),((Qg.refl (wr.setCell ⟨g,t,none⟩ (.bool false))).alloc c1).block (by omega)];exact Below.heap_setCell _ _ _ _ QF
 have blkg:w9.heap[g]?=(wr.setCell ⟨g,t,none⟩ (.bool false)).heap[g]?:=by
  rw [g9.block g (by omega) (fun e=>by have:=PU g e.symm;omega),((Qg.refl w7).alloc c2).block (by omega),g7.block g (by omega) (fun e=>by have:=K6 g e.symm;omega),((Qg.refl (wr.setCell ⟨g,t,none⟩ (.bool false))).alloc c1).block (by omega)]
 have RG:vw.ownBlock≠v7.ownBlock\/vw.ownBlock=none:=by
  cases hv:vw.ownBlock with
  |none=>exact .inr rfl
  |some k =>
   refine .inl fun e=> ?_
   rcases a7 with e1|e1
   ·exact h.apart k (e1▸e.symm) hv
   rw [e1,s2]at e;injection e with e;have:=(h.ws.lt k hv).2;omega
 have R5:w9.ownsRow w.heap.size 41 1 v7 (s.2.length+1) (Qkw (s.2.map Prod.fst)++ [.int .u64 (t:Int)]):=Zp h7 fun k hk=>by
  rw [g9.block k (by have:=(h7.lt k hk).2;omega) (fun e=>by
   rcases RG with e1|e1
   ·exact e1 (e.symm.trans hk.symm)
   rw [e1]at e;cases e)]
  exact((Qg.refl w7).alloc c2).block (h7.lt k hk).2
 refine⟨⟨?_,?_,?_,by have:=h.grown.size;omega,fun k hk hn=> ?_⟩,?_,?_,?_,by rw [List.length_set];exact h.len,fun k hk wV=> ?_⟩
 ·exact(g9.os.trans (g7.os.trans hs.os)).trans h.grown.os
 ·exact(g9.tape.trans (g7.tape.trans hs.tape)).trans h.grown.tape
 ·exact(g9.output.trans (g7.output.trans hs.output)).trans h.grown.output
 ·rw [blk k (Qy hk h.grown.size) (fun e=>hn (by rw [e])) (fun e=>by have:=K6 k e;omega) (fun e=>by have:=PU k e;omega)];exact h.grown.block k hk hn
 ·exact Zp (h.row.set t false).1 fun k hk=>by
   have:k=g:=by injection hk with hk;exact hk.symm
   subst this;exact blkg
 ·rw [List.length_append,List.length_singleton,List.map_append];unfold Qkw at R5⊢;rw [List.map_append];exact R5
 ·rw [List.length_append,List.length_singleton,List.map_append];unfold Qkx at h9⊢;rw [List.map_append];exact h9
 rcases a9 with e1|e1
 ·rw [e1]at wV;rcases RG with e2|e2
  ·exact e2 (wV.trans hk.symm)
  rw [e2]at wV;cases wV
 rw [e1,s8]at wV;injection wV with wV;have:=(h7.lt k hk).2;omega
end
theorem Qbp(b g:Nat)(lg:Int)(base:List (List Nd))(root:List Bool)(ks:List Kn)(cs:List Cm)(alive:List Bool)(w:World)
 (hE:Bd w b g lg base root ks cs alive)(xX:0<=lg/\lg<=6)(hm:alive.length<=4096)(hb:base.length<=12)(qV:∀k∈ks,k.place < 64/\alive.length<=k.holds.length)(qA:∀c∈cs,c.place < 64/\c.x.length=alive.length/\c.y.length=alive.length/\0<=c.group/\c.group < 16):
 Calls Tryz.prog 60 #[.pointer (some ⟨b,0,none⟩)] w (Qig w b g lg base root ks cs (Qxk lg ks cs base.length alive)):=by
 have HE:=Qq hE;have sW:=Qq qV;have kT:=Qq qA;have xK:=hE.row.lt.2;obtain⟨iU,sG,xF,xE,xD⟩:=info_parts Zy1;obtain⟨iI,pU,vQ,vP,vO⟩:=info_parts Ih;obtain⟨Lw,wX⟩:∃f,f=Qxk lg ks cs base.length alive:=⟨_,rfl⟩;have wB:=Qq wX;obtain⟨why,JY⟩:∃f,f=Tc lg ks cs base.length:=⟨_,rfl⟩;have TY:=Qq JY;obtain⟨m,rH⟩:∃m,m=alive.length:=⟨_,rfl⟩;have rW:=Qq rH;rw [<-wX];rw [<-rH]at hm;have iA:=Qq (show ElI w w g m (.slice none 0 0) (.slice none 0 0) (alive,[])from⟨World.grownBy.refl _ _,hE.row,World.ownsRow_nil _ _ _ _,World.ownsRow_nil _ _ _ _,rH.symm,fun k hk=>by cases hk⟩)
 clear hE qV qA wX JY rH;go_enter Tryz.func60,Tryz.ntmps60;go_wp2_with fail;go_loopw [2,3,4] (fun vt vw vc wr=>∃(fl:Bool) (n:Nat),vc=.bool fl/\n<=m/\Qmy vt=n/\Hid (∃s,ElI w wr g m vt vw s/\s.2.length=n/\Pa s.1+s.2.length<=m/\(fl=true->∃k,Pa s.1 < k/\Sb why k s=Lw)/\(fl=false->s=Lw))) (fun vt _ vc _=>2*(m - Qmy vt)+Zj9 vc)
 case atStart=>exact⟨true,0,rfl,Nat.zero_le _,rfl,Qq ⟨(alive,[]),iA.out,rfl,by show Pa alive+0<=m;rw [rW.out];exact Qxv alive,(fun _=>⟨alive.length+1,by show Pa alive < _;have:=Qxv alive;omega,by rw [wB.out,TY.out];rfl⟩),(fun e=>by cases e)⟩⟩
 case round =>
  clear iA;obtain⟨fl,n,rfl,hn,IK,zY⟩:=hrel;obtain⟨s,hs,L0,hcnt,MG,nO⟩:=zY.out;have HS:=Qq hs;have lH:=Qq L0;have VG:=Qq MG;have GI:=Qq nO;obtain⟨At,ct,rfl⟩:=Qt hs.ts;obtain⟨Aw,cw,rfl⟩:=Qt hs.ws;clear zY hs L0 MG nO;cases fl
  ·go_wp2_with fail;go_ret2;have e:=GI.out (by trivial);exact⟨_,_,rfl,HS.out.grown,by rw [<-e];exact HS.out.eng HE.out rW.out.symm,by rw [<-e];exact HS.out.ts,by rw [<-e];exact HS.out.ws⟩
  obtain⟨_,_,_,_,x0,x1,x2,x5,xl⟩:=(HS.out.eng HE.out rW.out.symm).cells;rw [HS.out.len]at x5;go_wp2_with fail;go_step3;go_wp2_with fail;go_step3;go_wp2_with fail;clear x0 x1 x2 x5 xl;go_loopw [2,3,4,14] (fun vt vw vc vi wr=>∃t:Nat,vi=.int .i64 (t:Int)/\t<=m/\∃(fl:Bool) (n2:Nat),vc=.bool fl/\n2<=m/\n<=n2/\Qmy vt=n2/\(fl=true↔n < n2)/\Hid (ElI w wr g m vt vw (Xj why (List.range t) s)/\(Xj why (List.range t) s).2.length=n2)) (fun _ _ _ vi _=>m - (intOf vi).toNat)
  case atStart=>exact⟨0,rfl,Nat.zero_le _,false,n,rfl,hn,Nat.le_refl _,by exact lH.out,(by simp),Qq ⟨HS.out,lH.out⟩⟩
  case round =>
   obtain⟨t,rfl,ht,fl,n2,rfl,YR,uD,SL,gO,zY⟩:=hrel;obtain⟨xN,KH⟩:=zY.out;have vK:=Qq xN;have pA:=Qq KH;obtain⟨s2,RQ⟩:∃x,x=Xj why (List.range t) s:=⟨_,rfl⟩;have mF:=Qq RQ;rw [<-RQ]at vK pA xN;obtain⟨At2,ct2,rfl⟩:=Qt xN.ts;obtain⟨Aw2,cw2,rfl⟩:=Qt xN.ws;have OT:=Qq gO;clear zY xN KH RQ gO;by_cases hlt2:t < m
   ·have yV:(t:Int) < (m:Int):=by omega
    have sU:g < wr.heap.size:=Qy xK vK.out.grown.size;have gfr:=vK.out.row.frozen t;obtain⟨at_,yM⟩:∃x,x=s2.1.getD t false:=⟨_,rfl⟩;have gc:wr.cell? ⟨g,t,none⟩=some (.bool at_):=vK.out.row.cell (by rw [yM,Qk,List.getElem?_eq_getElem (by rw [vK.out.len];exact hlt2)];rfl);have jK:=Qq yM;have zD:=Qq (show Xj why (List.range (t+1)) s=Ub why s2 t by rw [Qhi,<-mF.out]);clear yM;obtain⟨_,cb,_,_,x0,x1,x2,x5,xl⟩:=(vK.out.eng HE.out rW.out.symm).cells;rw [vK.out.len]at x5;go_wp2_with fail;cases at_
    ·have zA:=Qq (show Ub why s2 t=s2 by unfold Ub;rw [<-jK.out];rfl);go_loopw [2,3,4,7] (fun v2 v3 v4 vi wr2=>v2=.slice At2 s2.2.length ct2/\v3=.slice Aw2 s2.2.length cw2/\v4=.bool fl/\vi=.int .i64 (-4)/\wr2=wr) (fun _ _ _ _ _=>0)
     case atStart=>exact⟨rfl,rfl,rfl,rfl,rfl⟩
     case round =>
      obtain⟨rfl,rfl,rfl,rfl,rfl⟩:=hrel;go_wp2_with fail;go_roundw
      case rel=>exact⟨t+1,by go_num,by omega,fl,n2,rfl,YR,uD,SL,OT.out,Qq (by rw [zD.out,zA.out];exact⟨vK.out,pA.out⟩)⟩
      case measure=>simp [intOf];omega
    obtain⟨wq,vC⟩:∃v,v=wr:=⟨_,rfl⟩;subst vC;clear x0 x1 x2 x5;go_loopw [2,3,4,7] (fun v2 v3 v4 vi wr2=>v2=.slice At2 s2.2.length ct2/\v3=.slice Aw2 s2.2.length cw2/\v4=.bool fl/\∃z:Int,vi=.int .i64 z/\ -4<=z/\z<=(base.length:Int)/\Hid (Qg wq wr2/\∀j:Int,-4<=j->j < z->Vr lg ks cs s2.1 t j=false)) (fun _ _ _ vi _=>((base.length:Int) - intOf vi).toNat)
    case atStart=>exact⟨rfl,rfl,rfl,-4,rfl,by omega,by omega,Qq ⟨Qz,fun j h1 h2=>by omega⟩⟩
    case round =>
     obtain⟨rfl,rfl,rfl,z,rfl,xH,oE,zY⟩:=hrel;have HX:=Qq zY.out.1;have HJ:=Qq zY.out.2;clear zY;have tQ:=Qq (vK.out.next HX.out);have V2:=Qq (tQ.out.eng HE.out rW.out.symm);obtain⟨_,cb2,_,_,x0,x1,x2,x5,xl2⟩:=V2.out.cells;rw [vK.out.len]at x5;by_cases J9:z < (base.length:Int)
     ·have UY:=Qq (Qc0 b lg base root ks cs s2.1 t z wr V2.out.eng xX (by rw [vK.out.len];exact hlt2) (by rw [vK.out.len];exact hm) ⟨by omega,by omega⟩ (by rw [vK.out.len,rW.out];exact sW.out) (by rw [vK.out.len,rW.out];exact kT.out));obtain⟨lk,aX⟩:∃x,x=Vr lg ks cs s2.1 t z:=⟨_,rfl⟩;have OI:=Qq aX;rw [<-aX]at UY;clear aX;go_wp2_with fail;refine UY.out.mono ?_;rintro e w3 ⟨rfl,zC⟩;have zB:=Qq (HX.out.trans zC);have eJ:=Qq (tQ.out.next zC);clear zC x0 x1 x2 x5;obtain⟨_,cb3,_,_,y0,y1,y2,y5,yl⟩:=(eJ.out.eng HE.out rW.out.symm).cells;rw [vK.out.len]at y5;have YX:g < w3.heap.size:=Qy xK eJ.out.grown.size
      have gfr3:=eJ.out.row.frozen t;have gc3:w3.cell? ⟨g,t,none⟩=some (.bool true):=eJ.out.row.cell (by rw [jK.out,Qk,List.getElem?_eq_getElem (by rw [vK.out.len];exact hlt2)];rfl);cases lk
      ·go_wp2_with fail;go_roundw
       case rel=>exact⟨by first|rfl|trivial,by first|rfl|trivial,by first|rfl|trivial,z+1,rfl,by omega,by omega,Qq ⟨zB.out,fun j h1 h2=>by
        by_cases e:j < z
        ·exact HJ.out j h1 e
        have:j=z:=by omega
        subst this;exact OI.out.symm⟩⟩
       case measure=>simp [intOf];omega
      have A0:=Qq (show why s2.1 t=some z by rw [TY.out];exact Zjf xH J9 OI.out.symm HJ.out);have zA:=Qq (show Ub why s2 t=(s2.1.set t false,s2.2++ [(t,z)]) by
       unfold Ub;rw [<-jK.out,A0.out]
       rfl)
      have YQ:s2.2.length+1<=m:=by
       have h1:=Qn8 (why:=why) s2 t;rw [zA.out]at h1;have h2:=Ec (why:=why) (List.range t) s;rw [<-mF.out]at h2;simp only [List.length_append,List.length_singleton]at h1;omega
      have xS:s2.2.length+1<=maxLen:=by unfold maxLen;omega
      have xP:(s2.2.length+1)*8<=140737488355328:=by omega
      have mP:(w3.setCell ⟨g,t,none⟩ (.bool false)).heap.size=w3.heap.size:=by simp [World.setCell]
      have UO:=Qq (show(w3.setCell ⟨g,t,none⟩ (.bool false)).ownsRow w.heap.size 41 1 (.slice At2 s2.2.length ct2) s2.2.length (Qkw (s2.2.map Prod.fst))from ownsRow_setCell_other (a:=⟨g,t,none⟩) eJ.out.ts (fun e=>by have:=(eJ.out.ts.lt g e).1;omega) _);have tM:=Qq (show(w3.setCell ⟨g,t,none⟩ (.bool false)).ownsRow w.heap.size 3 1 (.slice Aw2 s2.2.length cw2) s2.2.length (Qkx (s2.2.map Prod.snd))from ownsRow_setCell_other (a:=⟨g,t,none⟩) eJ.out.ws (fun e=>by have:=(eJ.out.ws.lt g e).1;omega) _);have hws3:w.heap.size<=w3.heap.size:=eJ.out.grown.size;have hgl4:=YX;go_upto_region 12 with(fail)
      go_wp2_with(at_builtin;refine wpList_append_own_at _ rfl _ _ 23 rfl w.heap.size 41 iU (.int .u64 0) 1 8 Tryz.underlying23 sG xF xE xD rfl (by decide) _ s2.2.length (Qkw (s2.2.map Prod.fst)) rfl (Zg UO.out (Qz.alloc _)) ⟨_,0,none⟩ 1 1 [.int .u64 (t:Int)] rfl rfl (Zt _ _ _ (by simp)) (fun u hu=>by rw [List.mem_singleton.1 hu];rfl) xS xP (by simp [World.setCell];omega) ?_);intro v7 w7 zW zX _ zF;have I9:=Qq zX;have G4:=Qq zW;have EV:=Qq (show w7.ownsRow w.heap.size 3 1 (.slice Aw2 s2.2.length cw2) s2.2.length (Qkx (s2.2.map Prod.snd))from Zp tM.out fun k hk=>by
       rw [zX.block k (by have:=(tM.out.lt k hk).2;simp;omega) (fun e=>eJ.out.apart k e.symm hk)];exact(Qz.alloc _).block (tM.out.lt k hk).2)
      have R4:=zX.size;obtain⟨A7,c7,rfl⟩:=Qt zW;have kX:=Qq zF;clear zW zX zF;have h7s2:w.heap.size<=w7.heap.size:=by simp [World.setCell]at R4;omega
      clear R4;go_wp2_with(at_builtin;refine wpList_append_own_at _ rfl _ _ 36 rfl w.heap.size 3 iI (.int .i64 0) 1 8 Tryz.underlying36 pU vQ vP vO rfl (by decide) _ s2.2.length (Qkx (s2.2.map Prod.snd)) rfl (Zg EV.out (Qz.alloc _)) ⟨_,0,none⟩ 1 1 [.int .i64 z] rfl rfl (Zt _ _ _ (by simp)) (fun u hu=>by rw [List.mem_singleton.1 hu];rfl) xS xP (by simp;omega) ?_);intro v9 w9 pR pV _ ZG;have HT:=Qq (eJ.out.take xK G4.out I9.out pR pV (kX.out.imp_right fun h=>by rw [h];simp [World.setCell]) (ZG.imp_right fun h=>by rw [h];simp));obtain⟨A9,c9,rfl⟩:=Qt pR
      clear pR pV ZG;go_wp2_with fail;go_roundw
      case rel=>exact⟨t+1,by go_num,by omega,true,s2.2.length+1,rfl,YQ,by have:=pA.out;omega,rfl,⟨fun _=>by have:=pA.out;omega,fun _=>rfl⟩,Qq (by rw [zD.out,zA.out];exact⟨HT.out,by simp⟩)⟩
      case measure=>simp [intOf];omega
     obtain rfl:(base.length:Int)=z:=by omega
     have zA:=Qq (show Ub why s2 t=s2 by
      unfold Ub;rw [<-jK.out,TY.out,Qoi (fun j h1 h2=>HJ.out j h1 h2)]
      rfl)
     go_wp2_with fail;go_roundw
     case rel=>exact⟨t+1,by go_num,by omega,fl,n2,rfl,YR,uD,SL,OT.out,Qq (by rw [zD.out,zA.out];exact⟨tQ.out,pA.out⟩)⟩
     case measure=>simp [intOf];omega
   obtain rfl:m=t:=by omega
   go_wp2_with fail;simp only [Exit.noGoto_normal];have FB:=Qq (Qja (why:=why) (List.range m) s);have V3:=Qq (Ec (why:=why) (List.range m) s);have CQ:Pa s2.1+s2.2.length<=m:=by rw [mF.out];have:=V3.out.1;omega
   go_roundw
   case rel =>
    iterate 50 apply Exists.intro
    refine⟨?_,rfl⟩;refine⟨fl,n2,rfl,YR,SL,Qq ⟨s2,vK.out,pA.out,CQ,fun gO=> ?_,fun gO=> ?_⟩⟩
    ·obtain⟨k,hk,he⟩:=VG.out (by trivial);have yW:=OT.out.1 gO;cases k with
     |zero=>omega
     |succ k =>
      refine⟨k,?_,?_⟩
      ·have h1:=V3.out.1;rw [<-mF.out]at h1;have h3:=pA.out;have h4:=lH.out;omega
      rw [<-he];rw [Qfv];rw [HS.out.len,<-mF.out];have:(s2.2.length==s.2.length)=false:=by
       rw [beq_eq_false_iff_ne];have h3:=pA.out;have h4:=lH.out;omega
      rw [this];rfl
    obtain⟨k,hk,he⟩:=VG.out (by trivial);have QJ:¬n < n2:=fun h=>by rw [OT.out.2 h]at gO;cases gO
    have h3:=pA.out;have h4:=lH.out;have h5:=(FB.out (by rw [<-mF.out];omega)).1;rw [<-mF.out]at h5;rw [h5];cases k with
    |zero=>omega
    |succ k =>
     rw [<-he];rw [Qfv];rw [HS.out.len,<-mF.out];have:(s2.2.length==s.2.length)=true:=by
      rw [beq_iff_eq];omega
     rw [this];rfl
   case measure =>
    have h3:=OT.out;have h4:=pA.out;have h5:=lH.out;cases fl
    ·show 2*(m - s2.2.length)+0 < 2*(m - s.2.length)+1;have:¬n < n2:=fun h=>by have:=h3.2 h;cases this
     omega
    show 2*(m - s2.2.length)+1 < 2*(m - s.2.length)+1;have:=h3.1 rfl;omega
def Elm(w:World)(v:Value)(lg:Int)(ts:List Nat)(ws:List Int):Prop:=∃vt vw,v=.agg #[.int .i64 lg,vt,vw]/\Jn w vt ts/\Dn w vw ws
theorem Elm.ext {w w':World} {v:Value} {lg:Int} {ts:List Nat} {ws:List Int}(h:Elm w v lg ts ws)(he:Qg w w'):Elm w' v lg ts ws:=by
 obtain⟨vt,vw,e,h1,h2⟩:=h;exact⟨vt,vw,e,h1.ext he,h2.ext he⟩
structure Zjt (lg:Int) (f:List Nd):Prop where
 lgr:0<=lg/\lg<=6
 len:(Qp f).1.length<=12
 al:(Kh lg (Qp f).1).length=2^(Qp f).1.length
 le:(Kh lg (Qp f).1).length<=4096
 root:(Na f).length=2^(Qp f).1.length
 ks:∀k∈Zs (Qp f).1,k.place < 64/\k.holds.length=2^(Qp f).1.length
 cs:∀c∈Jm (Qp f).1,c.place < 64/\c.x.length=2^(Qp f).1.length/\c.y.length=2^(Qp f).1.length/\0<=c.group/\c.group < 16
theorem Zqy {lg:Int} {f:List Nd}(h:Ba lg f):Zjt lg f:=by
 have hl:=h.b.len;refine⟨⟨h.l0,h.l6⟩,hl,Te _ _,by rw [Te];exact Qb5 hl,Xs _ _,fun k hk=> ?_,fun c hc=> ?_⟩
 ·have:=Qs6 hk;exact⟨by omega,this.2⟩
 obtain⟨i,hi,hk⟩:=List.mem_flatMap.1 hc;have hi:=List.mem_range.1 hi;unfold Mf at hk;cases ho:(Qi ((Qp f).1.getD i [])).op==13
 ·rw [ho]at hk;cases hk
 rw [ho]at hk;rw [List.mem_singleton.1 hk];have hg:(Qp f).1[i]?=some ((Qp f).1.getD i []):=by rw [Qk,Qv hi];rfl
 obtain⟨t,ht,hc,_⟩:=h.b.can _ (List.mem_of_getElem? hg);obtain⟨gn,e,zJ⟩:=Qfb ht (by rw [<-hc];simpa using ho);rw [<-hc]at e;exact⟨by show i < 64;omega,Xs _ _,Xs _ _,by show 0<=(Qi _).g/\(Qi _).g < 16;rw [e];omega⟩
theorem Fz {P:Program} {fn:Func} {t u:Tmp} {ty:TypeId}(h:fn.results=#[.cell t ty,.tmp u])(tmps:Array Value)(w:World) {b o:Nat}(ht:tmps.getD t undef=.pointer (some ⟨b,o,none⟩)) {cs:List Value} {d:TypeDesc}(hc:w.rangeAt b o cs)
 (hu:P.underlying ty=some d)(hd:d.isRow=true)(hi:(P.info? ty).map (·.size)=some cs.length):(results fn tmps).run P w=.ok (.tuple #[.agg cs.toArray,tmps.getD u undef]) w:=by
 have lO:tmps[t]?.getD undef=.pointer (some ⟨b,o,none⟩):=by rw [<-Array.getD_eq_getD_getElem?];exact ht
 simp [results,h,lO,asAddr,run_loadVar_mid w b o ty cs d hc hu hd hi]
theorem Zc {w:World} {b:Nat} {a0 a1 a2:Value} {t:TypeId}(h:w.heap[b]?=some (.cells #[a0,a1,a2] t (0,0))):
 (w.cell? ⟨b,0,none⟩=some a0/\w.cell? ⟨b,1,none⟩=some a1/\w.cell? ⟨b,2,none⟩=some a2)/\(w.frozen? ⟨b,0,none⟩=false/\w.frozen? ⟨b,1,none⟩=false/\w.frozen? ⟨b,2,none⟩=false)/\b < w.heap.size :=
 ⟨⟨by simp [World.cell?,h],by simp [World.cell?,h],by simp [World.cell?,h]⟩,⟨by simp [World.frozen?,h],by simp [World.frozen?,h],by simp [World.frozen?,h]⟩,Qn h⟩
theorem Yn {w:World} {b:Nat} {a0 a1 a2:Value} {t:TypeId}(h:w.heap[b]?=some (.cells #[a0,a1,a2] t (0,0)))(v0 v1 v2:Value):
 (((w.setCell ⟨b,0,none⟩ v0).setCell ⟨b,1,none⟩ v1).setCell ⟨b,2,none⟩ v2).heap[b]?=some (.cells #[v0,v1,v2] t (0,0)):=by
 simp only [World.setCell,Array.getElem?_modify,h,if_true,Option.map_some];simp
theorem Yb {w w':World} {b:Nat}(h:Qg w w')(hb:w.heap.size<=b)(v0 v1 v2:Value):Qg w (((w'.setCell ⟨b,0,none⟩ v0).setCell ⟨b,1,none⟩ v1).setCell ⟨b,2,none⟩ v2):=
 ((h.setCell (p:=⟨b,0,none⟩) hb v0).setCell (p:=⟨b,1,none⟩) hb v1).setCell (p:=⟨b,2,none⟩) hb v2
theorem Kx {w:World} {b k:Nat}(h:k≠b)(v0 v1 v2:Value):(((w.setCell ⟨b,0,none⟩ v0).setCell ⟨b,1,none⟩ v1).setCell ⟨b,2,none⟩ v2).heap[k]?=w.heap[k]?:=by
 rw [Below.heap_setCell _ _ _ _ h,Below.heap_setCell _ _ _ _ h,Below.heap_setCell _ _ _ _ h]
def spm(lo mb:Nat)(vr:Value)(k:Nat):Prop:=k < lo\/k=mb\/vr.ownBlock=some k
structure Rq (w5 wr:World) (mb vb n facts:Nat) (vals:List Nat) (vr:Value) (rows:List (List Nat)):Prop where
 ext:Qg w5 wr
 lo:w5.heap.size<=mb/\mb≠vb
 cell:wr.heap[mb]?=some (.cells #[.int .i64 (n:Int),.slice (some ⟨vb,0,none⟩) facts facts,vr] 26 (0,0))
 row:Zf w5.heap.size wr (.slice (some ⟨vb,0,none⟩) facts facts) vals
 len:vals.length=facts
 rel:∃us:List Value,us.length=rows.length/\wr.ownsRow w5.heap.size 23 1 vr us.length us/\∀(k:Nat) u r,us[k]?=some u->rows[k]?=some r->Vs (spm w5.heap.size mb vr) wr (fun w'=>Jn w' u r)
 dr:vr.ownBlock≠some mb/\vr.ownBlock≠some vb
section
variable {w5 wr W:World} {mb vb n facts:Nat} {vals:List Nat} {vr:Value} {rows:List (List Nat)}
theorem Rq.next(h:Rq w5 wr mb vb n facts vals vr rows)(he:Qg wr W):Rq w5 W mb vb n facts vals vr rows:=by
 obtain⟨us,e,h1,h2⟩:=h.rel;exact⟨h.ext.trans he,h.lo,(he.block (Qn h.cell)).trans h.cell,h.row.ext he,h.len,⟨us,e,Zg h1 he,fun k u r hu hr=>(h2 k u r hu hr).next (Yv.of_ext he) fun _ _ h=>h⟩,h.dr⟩
theorem Rq.mlt(h:Rq w5 wr mb vb n facts vals vr rows):mb < wr.heap.size:=Qn h.cell
theorem Rq.cells(h:Rq w5 wr mb vb n facts vals vr rows):(wr.cell? ⟨mb,0,none⟩=some (.int .i64 (n:Int))/\wr.cell? ⟨mb,1,none⟩=some (.slice (some ⟨vb,0,none⟩) facts facts)/\wr.cell? ⟨mb,2,none⟩=some vr)/\(wr.frozen? ⟨mb,0,none⟩=false/\wr.frozen? ⟨mb,1,none⟩=false/\wr.frozen? ⟨mb,2,none⟩=false)/\mb < wr.heap.size :=
 Zc h.cell
theorem Rq.setVal(h:Rq w5 wr mb vb n facts vals (.slice none 0 0) [])(p s:Nat):Rq w5 (wr.setCell ⟨vb,p,none⟩ (.int .u64 (s:Int))) mb vb n facts (vals.set p s) (.slice none 0 0) []:=by
 have KA:w5.heap.size<=vb:=(h.row.lt vb rfl).1;refine⟨h.ext.setCell (p:=⟨vb,p,none⟩) KA _,h.lo,(Below.heap_setCell _ _ _ _ h.lo.2).trans h.cell,h.row.set h.len p s,by rw [List.length_set];exact h.len,⟨[],rfl,World.ownsRow_nil _ _ _ _,fun k u r hu _=>by simp at hu⟩,h.dr⟩
theorem Rq.push {wa w7 W6:World} {v7:Value} {u:Value} {r:List Nat} {us:List Value}(h:Rq w5 wa mb vb n facts vals vr rows)(e:us.length=rows.length)(xT:wa.ownsRow w5.heap.size 23 1 vr us.length us)(ZL:∀(k:Nat) u r,us[k]?=some u->rows[k]?=some r->Vs (spm w5.heap.size mb vr) wa (fun w'=>Jn w' u r))(hx:Qg wa wr)(hu:Zf wa.heap.size wr u r)(uP:Qg wr W6)
 (ho:w7.ownsRow w5.heap.size 23 1 v7 (us.length+1) (us++ [u]))(tW:W6.grownBy w7 vr.ownBlock)(dR:v7.ownBlock=vr.ownBlock\/v7.ownBlock=some W6.heap.size):
 Rq w5 (w7.setCell ⟨mb,2,none⟩ v7) mb vb n facts vals v7 (rows++ [r]):=by
 have h6:=h.next (hx.trans uP);have h1:=Zg xT (hx.trans uP);have h2:=fun k u r hu hr=>(ZL k u r hu hr).next (X':=spm w5.heap.size mb vr) (Yv.of_ext (hx.trans uP)) fun _ _ h=>h
 have sN:=fun k hk=>(h1.lt k hk)
 have nJ:=h6.mlt;have KA:=h6.row.lt vb rfl;have s7:=tW.size;have jT:Qg w5 w7:=h6.ext.grown tW (fun k hk=>(sN k hk).1);have xB:∀k,k≠mb->(w7.setCell ⟨mb,2,none⟩ v7).heap[k]?=w7.heap[k]?:=fun k e=>Below.heap_setCell _ _ _ _ e
 have SI:w7.heap[mb]?=some (.cells #[.int .i64 (n:Int),.slice (some ⟨vb,0,none⟩) facts facts,vr] 26 (0,0)):=(tW.block mb nJ (fun e=>h.dr.1 e.symm)).trans h6.cell;have P5:v7.ownBlock≠some mb/\v7.ownBlock≠some vb:=by
  rcases dR with e|e
  ·rw [e];exact h.dr
  rw [e];exact⟨fun e=>by injection e with e;omega,fun e=>by injection e with e;omega⟩
 have cD:(w7.setCell ⟨mb,2,none⟩ v7).heap.size=w7.heap.size:=by simp [World.setCell]
 have cF:Yv (spm w5.heap.size mb vr) W6 (w7.setCell ⟨mb,2,none⟩ v7):=⟨by omega,fun k hk hl=>by
  rw [xB k (fun e=>hk (.inr (.inl e))),tW.block k hl (fun e=>hk (.inr (.inr e.symm)))]⟩
 have RN:∀k,k < W6.heap.size->spm w5.heap.size mb v7 k->spm w5.heap.size mb vr k:=fun k hk hs=>by
  rcases hs with e|e|e
  ·exact .inl e
  ·exact .inr (.inl e)
  rcases dR with e2|e2
  ·exact .inr (.inr (e2▸e))
  rw [e2]at e;injection e with e;omega
 refine⟨jT.setCell (p:=⟨mb,2,none⟩) h.lo.1 _,h.lo,?_,?_,h.len,⟨us++ [u],by simp [e],?_,fun k x y hx hy=> ?_⟩,P5⟩
 ·simp only [World.setCell,Array.getElem?_modify,SI,if_true,Option.map_some];simp
 ·exact Zp h6.row fun k hk=>by
   have e:k=vb:=by injection hk with hk;exact hk.symm
   subst e;rw [xB k (fun e=>h.lo.2 e.symm),tW.block k KA.2 (fun e=>h.dr.2 e.symm)]
 ·rw [List.length_append,List.length_singleton];exact Zp ho fun k hk=>xB k (fun e=>P5.1 (e▸hk))
 by_cases hk:k < us.length
 ·rw [List.getElem?_append_left hk]at hx;rw [List.getElem?_append_left (by omega)]at hy;exact(h2 k x y hx hy).next cF RN
 have wR:=(List.getElem?_eq_some_iff.1 hx).1;rw [List.length_append,List.length_singleton]at wR;have ek:k=us.length:=by omega
 subst ek;rw [List.getElem?_append_right (Nat.le_refl _),Nat.sub_self]at hx;rw [e,List.getElem?_append_right (Nat.le_refl _),Nat.sub_self]at hy;obtain rfl:u=x:=by simpa using hx
 obtain rfl:r=y:=by simpa using hy
 intro w' AA;have YL:=fun g hg=>(hu.lt g hg)
 have mP:=h.mlt;have PU:=h.row.lt vb rfl;have:Zf wa.heap.size w' u r:=Zp hu fun g hg=>by
  have vD:=YL g hg;have N6:g≠mb:=by omega
  have hgv:∀o,v7.ownBlock=some o->g≠o:=fun o gK e=>by
   subst e;rcases dR with e2|e2
   ·rw [e2]at gK;obtain⟨us0,_,xT,_⟩:=h.rel;have:=(xT.lt _ gK).2;omega
   rw [e2]at gK;injection gK with gK;have:=uP.size;omega
  have CH:vr.ownBlock≠some g:=fun e=>by
   have:=(xT.lt _ e).2;omega
  have hl6:=uP.size;have KG:¬spm w5.heap.size mb v7 g:=fun hs=>by
   rcases hs with e|e|e
   ·have:=h.ext.size;omega
   ·exact N6 e
   exact hgv g e rfl
  rw [AA.2 g KG (by omega),xB g N6,tW.block g (by omega) (fun e=>CH e.symm),uP.block vD.2]
 exact this.u64s
theorem Rq.mdv {w':World}(h:Rq w5 wr mb vb n facts vals vr rows)(hs:Yv (fun k=>k < w5.heap.size) wr w'):Jk w' (.agg #[.int .i64 (n:Int),.slice (some ⟨vb,0,none⟩) facts facts,vr]) ⟨n,vals,rows⟩:=by
 have KA:=h.row.lt vb rfl;have zR:Zf w5.heap.size w' (.slice (some ⟨vb,0,none⟩) facts facts) vals:=Zp h.row fun k hk=>by
  have e:k=vb:=by injection hk with hk;exact hk.symm
  subst e;exact hs.2 k (by omega) KA.2
 refine⟨_,_,rfl,zR.u64s,?_⟩;obtain⟨us,e,xT,h2⟩:=h.rel;have h1:=Zp (w':=w') xT fun k hk=>hs.2 k (by have:=(xT.lt k hk).1;omega) (xT.lt k hk).2
 have sQ:Yv (spm w5.heap.size mb vr) wr w':=⟨hs.1,fun k hk hl=>hs.2 k (fun e=>hk (.inl e)) hl⟩;rcases h1.2 with⟨ev,e0⟩|⟨g,cap,cur,ev,hb,hg,gM,hm,WL,ht⟩
 ·subst ev;have:rows= []:=List.length_eq_zero_iff.1 (by omega);subst this;exact⟨none,0,rfl,Nat.le_refl _,by unfold maxLen;omega,fun h=>absurd rfl h⟩
 subst ev;refine⟨_,cap,by rw [e],by show rows.length<=cap;omega,hm,fun _=>⟨_,rfl,Qn hg,fun k s hk=> ?_⟩⟩;have wR:k < rows.length:=(List.getElem?_eq_some_iff.1 hk).1;obtain⟨u,hu⟩:∃u,us[k]?=some u:=⟨_,List.getElem?_eq_getElem (by omega)⟩;refine⟨u,?_,h2 k u s hu hk w' sQ⟩;rw [Qqq];have h3:=hu;rw [<-ht,List.getElem?_take]at h3
 split at h3
 ·have h4:cur[k]?=some u:=by simpa using h3
  simp [World.cell?,hg,h4]
 cases h3
end
def Tp(g:Nd->Nat)(l:List Nd):Nat:=l.foldl (fun m n=>m|||g n) 0
theorem Qal(g:Nd->Nat)(l:List Nd)(n:Nd):Tp g (l++ [n])=Tp g l|||g n:=by simp [Tp,List.foldl_append]
theorem Zz3 {g:Nd->Nat} :∀(l:List Nd),(∀n∈l,g n < 512)->Tp g l < 512:=by
 have:∀(l:List Nd) (m:Nat),(∀n∈l,g n < 512)->m < 512->l.foldl (fun m n=>m|||g n) m < 512:=by
  intro l
  induction l with
  |nil=>intro m _ h;exact h
  |cons a r ih =>
   intro m hl h;exact ih _ (fun n hn=>hl n (List.mem_cons_of_mem _ hn)) (Nat.or_lt_two_pow (n:=9) h (hl a (List.mem_cons_self ..)))
 exact fun l hl=>this l 0 hl (by omega)
def agU(n:Nd):Nat:=if Zb n.op then 2^n.i.toNat else n.g.toNat
def faU(n:Nd):Nat:=if Zo n.op then 2^n.i.toNat else 0
theorem Qbr {n:Nd}(h:Ze n)(ha:Zb n.op=true):n.g=0:=by
 have hg:Zm n.op=false:=by
  unfold Zb at ha;unfold Zm;simp at ha;rcases ha with((h|h)|h)|h <;>(rw [h];rfl)
 obtain⟨_,h3,_,_,_⟩:=h;unfold Zh at h3;simp [hg]at h3;exact h3.2
theorem Zvs {n:Nd}(h:Ze n)(s:Nat):Tq s n=s|||agU n:=by
 unfold Tq agU;cases ha:Zb n.op
 ·rw [if_neg (by simp),if_neg (by simp),Nat.or_zero]
 rw [if_pos rfl,if_pos rfl,Qbr h ha];exact Nat.or_zero _
theorem Qqr(op:Int):Zo op=true↔op=3:=by unfold Zo;simp
theorem Zv3 {n:Nd}(s:Nat):Tz s n=s|||faU n:=by
 unfold Tz faU;by_cases h:n.op=3
 ·rw [if_pos h,if_pos ((Qqr _).2 h)]
 rw [if_neg h,if_neg (fun e=>h ((Qqr _).1 e)),Nat.or_zero]
theorem El {f g:Nat->Nd->Nat} :∀(l:List Nd) (s:Nat),(∀n∈l,∀s,f s n=g s n)->l.foldl f s=l.foldl g s
 |[],_,_=>rfl
 |a :: r,s,h=>by
  show r.foldl f (f s a)=r.foldl g (g s a);rw [h a (List.mem_cons_self ..) s];exact El r _ (fun n hn=>h n (List.mem_cons_of_mem _ hn))
theorem Qt2 {l:List Nd}(h:∀n∈l,Ze n):Jl l=Tp agU l:=El l 0 (fun n hn s=>Zvs (h n hn) s)
theorem Qp6 {l:List Nd} :Yy l=Tp faU l:=El l 0 (fun _ _ s=>Zv3 s)
theorem Zjo {n:Nd}(h:Ze n):agU n < 512:=by
 unfold agU;have h1:=Ui h
 split
 ·rename_i ho;have:=Xz h ho;exact Nat.pow_lt_pow_right (by decide) (show n.i.toNat < 9 by omega)
 omega
theorem Zj8 {n:Nd}(h:Ze n):faU n < 512:=by
 unfold faU
 split
 ·rename_i ho;have:=By h ((Qqr _).1 ho);exact Nat.pow_lt_pow_right (by decide) (show n.i.toNat < 9 by omega)
 decide
theorem Qrr(n:Nd)(h:Ze n)(u0 u1 u2 u4 u5:Bool)(g:Int)(w:World):
 Calls Tryz.prog 142 #[.agg #[.int .i64 n.op,.int .i64 n.i,.int .i64 n.e,.int .i64 n.g,.int .i64 n.x,.int .i64 n.y],.agg #[.bool u0,.bool u1,.bool u2,.bool (Zb n.op),.bool u4,.bool u5,.int .i64 g]] w
  fun e w'=>e=.returned (.int .i64 ((agU n:Nat):Int))/\Qg w w':=by
 have hg:=Ui h;cases ha:Zb n.op
 ·have HE:=Qq (show((agU n:Nat):Int)=n.g by unfold agU;rw [if_neg (by rw [ha];simp)];omega);clear h hg;go_enter Tryz.func142,Tryz.ntmps142;go_wp2_with fail;go_ret;exact⟨by rw [HE.out] <;> rfl,(Qz.alloc _).alloc _⟩
 obtain⟨h0,h1⟩:=Xz h ha;obtain⟨k,hk⟩:=Int.eq_ofNat_of_zero_le h0;have hw:=Di (k:=k) (by omega);have BO:k < 64:=by omega
 have fN:min k 64=k:=by omega
 have HE:=Qq (show((agU n:Nat):Int)=wrap64 ((2:Int)^k) by rw [hw];unfold agU;rw [if_pos ha,hk,Int.toNat_natCast]);rw [hk];clear h hg h0 h1 hk hw;go_enter Tryz.func142,Tryz.ntmps142;go_wp2_with fail;go_ret;exact⟨by rw [HE.out] <;> rfl,(Qz.alloc _).alloc _⟩
theorem Qlm(n:Nd)(h:Ze n)(u0 u1 u3 u4 u5:Bool)(g:Int)(w:World):
 Calls Tryz.prog 143 #[.agg #[.int .i64 n.op,.int .i64 n.i,.int .i64 n.e,.int .i64 n.g,.int .i64 n.x,.int .i64 n.y],.agg #[.bool u0,.bool u1,.bool (Zo n.op),.bool u3,.bool u4,.bool u5,.int .i64 g]] w
  fun e w'=>e=.returned (.int .i64 ((faU n:Nat):Int))/\Qg w w':=by
 cases ha:Zo n.op
 ·have HE:=Qq (show((faU n:Nat):Int)=0 by unfold faU;rw [if_neg (by rw [ha];simp)];rfl);clear h;go_enter Tryz.func143,Tryz.ntmps143;go_wp2_with fail;go_ret;exact⟨by rw [HE.out] <;> rfl,(Qz.alloc _).alloc _⟩
 obtain⟨h0,h1⟩:=By h ((Qqr _).1 ha);obtain⟨k,hk⟩:=Int.eq_ofNat_of_zero_le h0;have hw:=Di (k:=k) (by omega);have BO:k < 64:=by omega
 have fN:min k 64=k:=by omega
 have HE:=Qq (show((faU n:Nat):Int)=wrap64 ((2:Int)^k) by rw [hw];unfold faU;rw [if_pos ha,hk,Int.toNat_natCast]);rw [hk];clear h h0 h1 hk hw;go_enter Tryz.func143,Tryz.ntmps143;go_wp2_with fail;go_ret;exact⟨by rw [HE.out] <;> rfl,(Qz.alloc _).alloc _⟩
theorem Zz2(g:Nd->Nat)(l:List Nd)(hg:∀n∈l,g n < 512)(k:Nat):Tp g (l.take k) < 512:=Zz3 _ (fun n hn=>hg n (List.mem_of_mem_take hn))
theorem Qgj(fn:Nat)(eg:∀args w,(callFunc fn args).run Tryz.prog w=.ok (.enter fn args) w)(g:Nd->Nat)(v:Value)(l:List Nd)(w:World)(h:Yq w v l)(_hc:check l=0)(hg:∀n∈Qf l,g n < 512)
 (hf:∀n∈Qf l,∀W,Calls Tryz.prog fn #[.agg #[.int .i64 n.op,.int .i64 n.i,.int .i64 n.e,.int .i64 n.g,.int .i64 n.x,.int .i64 n.y],.agg #[.bool (Zq n.op),.bool (Qw n.op),.bool (Zo n.op),.bool (Zb n.op),.bool (Zm n.op),.bool (Zd n.op),.int .i64 (Vn n.op)]] W fun e w'=>e=.returned (.int .i64 ((g n:Nat):Int))/\Qg W w'):
 Calls Tryz.prog 116 #[v,.func (Fn.func fn) #[] #[]] w fun e w'=>e=.returned (.int .i64 (Tp g (Qf l):Nat))/\Qg w w':=by
 have H:=Qq h;have HG:=Qq hg;have HF:=Qq hf;clear h hg hf;go_enter Tryz.func116,Tryz.ntmps116;go_wp2_with fail;refine(Fs _ l _ H.out).mono ?_;rintro e w1 ⟨u,rfl,hm⟩;have HX:=Qq hm.2.2;obtain⟨A,c,rfl,xR,yN,zM⟩:=hm.fml.1;unfold maxLen at yN;have HR:=Qq zM;obtain⟨cl,yU⟩:∃cl,cl=Qf l:=⟨_,rfl⟩;have uO:=Qq (show Tp g (Qf l)=Tp g cl by rw [yU]);rw [<-yU]at HR xR HG HF;rw [<-yU];clear hm zM yU;go_wp2_with fail;go_loopw [5,13] (fun out i wr=>∃k:Nat,k<=cl.length/\i=.int .i64 k/\out=.int .i64 (Tp g (cl.take k):Nat)/\Qg w1 wr) (fun _ i _=>cl.length - (intOf i).toNat)
 case atStart=>exact⟨0,Nat.zero_le _,rfl,rfl,Qz⟩
 case round =>
  obtain⟨k,hk,rfl,rfl,yT⟩:=hrel;by_cases hlt2:k < cl.length
  ·obtain⟨a,ha⟩:∃a,cl[k]?=some a:=⟨_,Qv hlt2⟩;have dO:=List.mem_of_getElem? ha;obtain⟨ad,rfl,yS,xV⟩:=HR.out (by intro e;rw [e]at hlt2;simp at hlt2);obtain⟨a0,a1,a2,a3,a4,a5⟩:=(xV k a ha).keep fun p hp=>yT.cell (p:=p) (by rw [hp,Qr];exact yS)
   have uW:=Dp (Tp g (cl.take k)) (g a) (by have:=Zz2 g cl HG.out k;omega) (by have:=HG.out a dO;omega);have HS:Hid (Tp g (cl.take (k+1))=(Tp g (cl.take k)|||g a)):=Qq (by rw [Kd ha,Qal]);have kS:=Qq (HF.out a dO);obtain⟨ga,bA⟩:∃x,x=g a:=⟨_,rfl⟩;rw [<-bA]at uW HS kS;generalize Tp g (cl.take k)=m at uW HS;clear ha xV dO bA;go_wp2_with fail;refine(Nn _ _ _ _ _ _ _ _ rfl rfl rfl rfl rfl rfl rfl _).mono ?_;rintro e w2 ⟨rfl,hb⟩;have HB:=Qq hb;obtain⟨wN,_,xH⟩:=hb.facts;clear hb;have hz:wr.heap.size < w2.heap.size:=by { simp at xH;omega }
   clear xH;go_wp2_with fail;refine(kS.out _).mono ?_;rintro e w3 ⟨rfl,vH⟩;go_wp2_with fail;go_roundw
   case rel=>exact⟨k+1,by omega,by go_num,by rw [HS.out],(((yT.alloc _).trans HB.out).alloc _).trans vH⟩
   case measure=>simp [intOf];omega
  obtain rfl:cl.length=k:=by omega
  go_wp2_with fail;go_ret;exact⟨Ko (by rw [uO.out,List.take_of_length_le (Nat.le_refl _)]),HX.out.trans yT⟩
theorem Ot(v:Value)(l:List Nd)(w:World)(h:Yq w v l)(hc:check l=0):
 Calls Tryz.prog 66 #[v] w fun e w'=>e=.returned (.int .i64 ((Jl (Qf l):Nat):Int))/\Qg w w':=by
 have H:=Qq h;have hh:=(Jb hc).2.2.2;have HU:=Qq (Qgj 142 (fun _ _=>rfl) agU v l w h hc (fun n hn=>Zjo (hh n hn)) (fun n hn W=>Qrr n (hh n hn) _ _ _ _ _ _ W));have HE:=Qq (Qt2 hh);rw [HE.out];clear h hh hc;go_enter Tryz.func66,Tryz.ntmps66;go_wp2_with fail;refine HU.out.mono ?_;rintro e w1 ⟨rfl,hx⟩;go_wp2_with fail;go_ret;exact⟨rfl,hx⟩
theorem Qqs(v:Value)(l:List Nd)(w:World)(h:Yq w v l)(hc:check l=0):
 Calls Tryz.prog 67 #[v] w fun e w'=>e=.returned (.int .i64 ((Yy (Qf l):Nat):Int))/\Qg w w':=by
 have H:=Qq h;have hh:=(Jb hc).2.2.2;have HU:=Qq (Qgj 143 (fun _ _=>rfl) faU v l w h hc (fun n hn=>Zj8 (hh n hn)) (fun n hn W=>Qlm n (hh n hn) _ _ _ _ _ _ W));rw [Qp6];clear h hh hc;go_enter Tryz.func67,Tryz.ntmps67;go_wp2_with fail;refine HU.out.mono ?_;rintro e w1 ⟨rfl,hx⟩;go_wp2_with fail;go_ret;exact⟨rfl,hx⟩
theorem Qgt {lg:Int} {f:List Nd}(h:Ba lg f)(he:Yj lg f=0) {i:Nat}(hi:i < (Qp f).1.length)(ho:(Qi ((Qp f).1.getD i [])).op=3):
 ∃p:Nat,(Qi ((Qp f).1.getD i [])).i=(p:Int)/\p < Ye (Yy (Qf f))/\(Qp f).1.getD i []= [⟨3,(p:Int),0,0,0,0⟩]:=by
 obtain⟨c,hc⟩:∃c,(Qp f).1[i]?=some c:=⟨_,Qv hi⟩;have fP:(Qp f).1.getD i []=c:=by rw [Qk,hc];rfl
 rw [fP]at ho⊢;obtain⟨s,hX,rfl,_,hm⟩:=Qvw h.b hc;rw [hX.last]at ho;have rK:=Qp2 h he s hm;cases s with
 |leaf n =>
  have h3:n.op=3:=ho;have hf:=hX.xp.fact h3;have h0:=rK.fact h3;have hl:Qi (Qs (.leaf n))=n:=rfl;rw [hl];refine⟨n.i.toNat,by omega,by omega,?_⟩;show [n]=_;rw [show((n.i.toNat:Nat):Int)=n.i by omega];rw [hf]
 |one n a=>exact absurd (ho▸hX.xp.1.1.1) (by decide)
 |two n a b=>exact absurd (ho▸hX.xp.1.1.1) (by decide)
theorem Qp5 {lg:Int} {f:List Nd}(h:Ba lg f)(he:Yj lg f=0) {i j p:Nat}(hi:i < (Qp f).1.length)(hj:j < (Qp f).1.length)(ho:(Qi ((Qp f).1.getD i [])).op=3)(hp:(Qi ((Qp f).1.getD i [])).i=(p:Int))
 (fL:(Qi ((Qp f).1.getD j [])).op=3)(sT:(Qi ((Qp f).1.getD j [])).i=(p:Int)):i=j:=by
 obtain⟨q,hq,_,e1⟩:=Qgt h he hi ho;obtain⟨q2,RV,_,e2⟩:=Qgt h he hj fL;have PX:q=p:=by omega
 have AR:q2=p:=by omega
 subst PX AR;have hg:∀k,k < (Qp f).1.length->(Qp f).1[k]?=some ((Qp f).1.getD k []):=fun k hk=>by rw [Qk,Qv hk];rfl
 have h1:=Gz h.b.nodup (hg i hi);have h2:=Gz h.b.nodup (hg j hj);rw [e1,<-e2,h2]at h1;omega
structure Lt (base:List (List Nd)) (S:List Nat) (i:Nat) (vals:List Nat):Prop where
 low:∀s∈vals,s < 2^S.length
 bit:∀j p:Nat,j < i->(Qi (base.getD j [])).op=3->(Qi (base.getD j [])).i=(p:Int)->∀w,w < S.length->(vals.getD p 0).testBit w=(S.getD w 0).testBit j
 zero:∀p:Nat,(∀j,j < i->¬((Qi (base.getD j [])).op=3/\(Qi (base.getD j [])).i=(p:Int)))->vals.getD p 0=0
theorem Qfg(n i:Nat):(List.replicate n 0).getD i 0=0:=by
 rw [Qk,List.getElem?_replicate]
 split <;> rfl
theorem Lt.start(base:List (List Nd))(S:List Nat)(n:Nat):Lt base S 0 (List.replicate n 0):=
 ⟨fun s hs=>by rw [(List.mem_replicate.1 hs).2];exact Nat.two_pow_pos _,fun j p hj=>absurd hj (by omega),fun p _=>Qfg n p⟩
structure Wr (S:List Nat) (i k x:Nat):Prop where
 low:x < 2^S.length
 bit:∀w,x.testBit w=(decide (w < k)&&(S.getD w 0).testBit i)
theorem Wr.start(S:List Nat)(i:Nat):Wr S i 0 0:=⟨Nat.two_pow_pos _,fun w=>by simp⟩
theorem Wr.step {S:List Nat} {i k x:Nat}(h:Wr S i k x)(hk:k < S.length):Wr S i (k+1) (x|||(if(S.getD k 0).testBit i then 2^k else 0)):=by
 refine⟨Nat.or_lt_two_pow h.low ?_,fun w=> ?_⟩
 ·split
  ·exact Nat.pow_lt_pow_right (by decide) hk
  exact Nat.two_pow_pos _
 rw [Nat.testBit_or,h.bit w];cases hb:(S.getD k 0).testBit i
 ·rw [if_neg (by simp),Nat.zero_testBit,Bool.or_false];by_cases e:w=k
  ·subst e;rw [hb];simp
  have:decide (w < k+1)=decide (w < k):=by rw [decide_eq_decide];omega
  rw [this]
 rw [if_pos rfl,Nat.testBit_two_pow];by_cases e:w=k
 ·subst e;rw [hb];simp
 have h1:decide (k=w)=false:=decide_eq_false (fun q=>e q.symm);have h2:decide (w < k+1)=decide (w < k):=by rw [decide_eq_decide];omega
 rw [h1,h2,Bool.or_false]
theorem Wc {l:List Nat} {p x q:Nat} :(l.set p x).getD q 0=if p=q/\p < l.length then x else l.getD q 0:=by
 rw [Qk,Qk,List.getElem?_set];by_cases e:p=q
 ·subst e;by_cases hl:p < l.length
  ·rw [if_pos rfl,if_pos hl,if_pos ⟨rfl,hl⟩];rfl
  rw [if_pos rfl,if_neg hl,if_neg (fun h=>hl h.2),List.getElem?_eq_none (by omega)]
 rw [if_neg e,if_neg (fun h=>e h.1)]
section
variable {base:List (List Nd)} {S vals:List Nat} {i:Nat}
theorem Lt.other(h:Lt base S i vals)(ho:(Qi (base.getD i [])).op≠3):Lt base S (i+1) vals :=
 ⟨h.low,fun j p hj h1 h2 w hw=>by
  by_cases e:j=i
  ·subst e;exact absurd h1 ho
  exact h.bit j p (by omega) h1 h2 w hw,fun p hp=>h.zero p (fun j hj=>hp j (by omega))⟩
theorem Lt.next {p x:Nat}(h:Lt base S i vals)(hu:∀j,j < i->¬((Qi (base.getD j [])).op=3/\(Qi (base.getD j [])).i=(p:Int)))(ho:(Qi (base.getD i [])).op=3)(hi:(Qi (base.getD i [])).i=(p:Int))(hp:p < vals.length)(hx:Wr S i S.length x):Lt base S (i+1) (vals.set p x):=by
 refine⟨fun s hs=> ?_,fun j q hj h1 h2 w hw=> ?_,fun q hq=> ?_⟩
 ·rcases List.mem_or_eq_of_mem_set hs with h1|h1
  ·exact h.low s h1
  rw [h1];exact hx.low
 ·rw [Wc];by_cases e:p=q
  ·subst e;rw [if_pos ⟨rfl,hp⟩];by_cases e2:j=i
   ·subst e2;rw [hx.bit,decide_eq_true hw,Bool.true_and]
   exact absurd ⟨h1,h2⟩ (hu j (by omega))
  rw [if_neg (fun h=>e h.1)];by_cases e2:j=i
  ·subst e2;exact absurd (by omega) e
  exact h.bit j q (by omega) h1 h2 w hw
 rw [Wc];by_cases e:p=q
 ·subst e;exact absurd ⟨ho,hi⟩ (hq i (by omega))
 rw [if_neg (fun h=>e h.1)];exact h.zero q (fun j hj=>hq j (by omega))
end
structure Ns (n:Nat) (P:Nat->Nat->Bool) (v w:Nat) (r:List Nat):Prop where
 len:r.length=n
 val:∀x,x < n->r.getD x 0=if x < v then Yi n (P x)else if x=v then Yi w (P v)else 0
theorem Ns.start(n:Nat)(P:Nat->Nat->Bool):Ns n P 0 0 (List.replicate n 0):=⟨by simp,fun x hx=>by
 rw [Qfg,if_neg (by omega)]
 split <;> rfl⟩
theorem Ns.no {n:Nat} {P:Nat->Nat->Bool} {v w:Nat} {r:List Nat}(h:Ns n P v w r)(hp:P v w=false):Ns n P v (w+1) r :=
 ⟨h.len,fun x hx=>by rw [h.val x hx,Bk,hp];rfl⟩
theorem Ns.yes {n:Nat} {P:Nat->Nat->Bool} {v w:Nat} {r:List Nat}(h:Ns n P v w r)(hv:v < n)(hp:P v w=true):Ns n P v (w+1) (r.set v (r.getD v 0|||2^w)):=by
 refine⟨by rw [List.length_set];exact h.len,fun x hx=> ?_⟩;rw [Wc];by_cases e:v=x
 ·subst e;rw [if_pos ⟨rfl,by rw [h.len];exact hv⟩,h.val v hv,if_neg (by omega),if_pos rfl,if_neg (by omega),if_pos rfl,Bk,hp];rfl
 rw [if_neg (fun h=>e h.1),h.val x hx];by_cases h1:x < v
 ·rw [if_pos h1,if_pos h1]
 rw [if_neg h1,if_neg h1,if_neg (fun e2=>e e2.symm),if_neg (fun e2=>e e2.symm)]
theorem Ns.turn {n:Nat} {P:Nat->Nat->Bool} {v:Nat} {r:List Nat}(h:Ns n P v n r):Ns n P (v+1) 0 r:=by
 refine⟨h.len,fun x hx=> ?_⟩;rw [h.val x hx];by_cases h1:x < v
 ·rw [if_pos h1,if_pos (by omega)]
 rw [if_neg h1];by_cases h2:x=v
 ·subst h2;rw [if_pos rfl,if_pos (by omega)]
 rw [if_neg h2,if_neg (by omega)]
 split <;> rfl
theorem Ns.done {n:Nat} {P:Nat->Nat->Bool} {r:List Nat}(h:Ns n P n 0 r):r=(List.range n).map fun v=>Yi n (P v):=by
 refine List.ext_getElem (by simp [h.len]) fun x h1 h2=> ?_
 have hx:x < n:=by rw [h.len]at h1;exact h1
 have:=h.val x hx;rw [if_pos hx,Qk,Qv h1]at this;rw [List.getElem_map,List.getElem_range];exact this
theorem Ns.low {n:Nat} {P:Nat->Nat->Bool} {v w:Nat} {r:List Nat}(h:Ns n P v w r)(hw:w<=n)(hv:v < n):r.getD v 0 < 2^n:=by
 rw [h.val v hv,if_neg (by omega),if_pos rfl];exact Qy (Nb _ _) (Nat.pow_le_pow_right (by decide) hw)
end Go.Proofs.YtkmclcmnoicagaaGreatDoor
