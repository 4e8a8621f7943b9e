/- types' eliminate: the walk. -/
import Derived.Outline
import Derived.Test.YtkmclcmnoicagaaGreatDoorK27
namespace Go.Proofs.YtkmclcmnoicagaaGreatDoor
set_option maxRecDepth 100000
set_option maxHeartbeats 128000000
open Go.RowKit
theorem Zjb:(Tryz.prog.info? 41).map (fun i=>(i.zero,i.size,i.bytes))=some (some (.int .u64 0),1,8):=by kernel_rfl
def Qw1(w:World)(b g:Nat)(lg:Int)(base:List (List Nd))(root:List Bool)(ks:List Kn)(cs:List Cm)(s:List Bool×List (Nat×Int))(e:Ending)(w':World):Prop :=
 ∃vt vw,e=.returned (.tuple #[vt,vw])/\w.grownBy w' (some g)/\Fe w' b g lg base root ks cs s.1/\w'.ownsRow w.heap.size 41 1 vt s.2.length (Qvo (s.2.map Prod.fst))/\w'.ownsRow w.heap.size 3 1 vw s.2.length (Qy9 (s.2.map Prod.snd))
structure ElI (w wr:World) (g m:Nat) (vt vw:Value) (s:List Bool×List (Nat×Int)):Prop where
 grown:w.grownBy wr (some g)
 row:Kg g wr g s.1
 ts:wr.ownsRow w.heap.size 41 1 vt s.2.length (Qvo (s.2.map Prod.fst))
 ws:wr.ownsRow w.heap.size 3 1 vw s.2.length (Qy9 (s.2.map Prod.snd))
 len:s.1.length=m
 apart:∀k,vt.ownBlock=some k->vw.ownBlock≠some k
theorem Qgk {why:List Bool->Nat->Option Int}(k:Nat)(s:List Bool×List (Nat×Int)):Rs why (k+1) s=(bif (Ko why (List.range s.1.length) s).2.length==s.2.length then s else Rs why k (Ko why (List.range s.1.length) s)):=rfl
def Qlq(v:Value):Nat:=match v with| .slice _ n _=>n|_=>0
def Zzp(v:Value):Nat:=match v with| .bool true=>1|_=>0
section
variable {w wr W:World} {b g:Nat} {lg:Int} {base:List (List Nd)} {root:List Bool} {ks:List Kn} {cs:List Cm} {m:Nat} {vt vw:Value} {s:List Bool×List (Nat×Int)} {alive:List Bool}
theorem ElI.next(h:ElI w wr g m vt vw s)(he:Ext wr W):ElI w W g m vt vw s :=
 ⟨⟨he.os.trans h.grown.os,he.tape.trans h.grown.tape,he.output.trans h.grown.output,Qx h.grown.size he.size,fun k hk hn=>(he.block (Qy hk h.grown.size)).trans (h.grown.block k hk hn)⟩,h.row.ext he,Zf h.ts he,Zf h.ws he,h.len,h.apart⟩
theorem ElI.eng(h:ElI w wr g m vt vw s)(hE:Fe w b g lg base root ks cs alive)(hm:alive.length=m):Fe wr b g lg base root ks cs s.1:=by
 refine⟨fun w' h1 h2=> ?_,h.row⟩;rw [h.len,<-hm];exact hE.keep w' (Qx h.grown.size h1) (fun k hk hl=>(h2 k hk (Qy hl h.grown.size)).trans (h.grown.block k hl (fun e=>hk (by injection e))))
theorem ElI.take {w7 w9:World} {c1 c2:Obj} {v7 v9:Value} {t:Nat} {i:Int}(h:ElI w wr g m vt vw s)(hg:g < w.heap.size)
 (h7:w7.ownsRow w.heap.size 41 1 v7 (s.2.length+1) (Qvo (s.2.map Prod.fst)++ [.int .u64 (t:Int)]))(g7:((wr.setCell ⟨g,t,none⟩ (.bool false)).alloc c1).grownBy w7 vt.ownBlock)
 (h9:w9.ownsRow w.heap.size 3 1 v9 (s.2.length+1) (Qy9 (s.2.map Prod.snd)++ [.int .i64 i]))(g9:(w7.alloc c2).grownBy w9 vw.ownBlock)
 (a7:v7.ownBlock=vt.ownBlock\/v7.ownBlock=some ((wr.setCell ⟨g,t,none⟩ (.bool false)).alloc c1).heap.size)(a9:v9.ownBlock=vw.ownBlock\/v9.ownBlock=some (w7.alloc c2).heap.size):
 ElI w w9 g m v7 v9 (s.1.set t false,s.2++ [(t,i)]):=by
 have P5:∀k,vt.ownBlock=some k->w.heap.size<=k:=fun k hk=>(h.ts.lt k hk).1
 have RJ:∀k,vw.ownBlock=some k->w.heap.size<=k:=fun k hk=>(h.ws.lt k hk).1
 have hs:=(h.row.set t false).2;have s1:(wr.setCell ⟨g,t,none⟩ (.bool false)).heap.size=wr.heap.size:=by simp [World.setCell]
 have s2:((wr.setCell ⟨g,t,none⟩ (.bool false)).alloc c1).heap.size=wr.heap.size+1:=by simp [s1]
 have s7:=g7.size;rw [s2]at s7;have s8:(w7.alloc c2).heap.size=w7.heap.size+1:=by simp
 have s9:=g9.size;rw [s8]at s9;have jJ:=h.row.lt.2;have blk:∀k,k < wr.heap.size->k≠g->vt.ownBlock≠some k->vw.ownBlock≠some k->w9.heap[k]?=wr.heap[k]?:=fun k hk pJ hkt R6=>by
  rw [g9.block k (by omega) (fun e=>R6 e.symm),((Ext.refl w7).alloc c2).block (by omega),g7.block k (by omega) (fun e=>hkt e.symm),((Ext.refl (wr.setCell ⟨g,t,none⟩ (.bool false))).alloc c1).block (by omega)];exact Below.heap_setCell _ _ _ _ pJ
 have blkg:w9.heap[g]?=(wr.setCell ⟨g,t,none⟩ (.bool false)).heap[g]?:=by
  rw [g9.block g (by omega) (fun e=>by have:=RJ g e.symm;omega),((Ext.refl w7).alloc c2).block (by omega),g7.block g (by omega) (fun e=>by have:=P5 g e.symm;omega),((Ext.refl (wr.setCell ⟨g,t,none⟩ (.bool false))).alloc c1).block (by omega)]
 have SX:vw.ownBlock≠v7.ownBlock\/vw.ownBlock=none:=by
  cases hv:vw.ownBlock with
  |none=>exact .inr rfl
  |some k =>
   refine .inl fun e=> ?_
   rcases a7 with e1|e1
   ·exact h.apart k (e1▸e.symm) hv
   rw [e1,s2]at e;injection e with e;have:=(h.ws.lt k hv).2;omega
 have Y4:w9.ownsRow w.heap.size 41 1 v7 (s.2.length+1) (Qvo (s.2.map Prod.fst)++ [.int .u64 (t:Int)]):=Zp h7 fun k hk=>by
  rw [g9.block k (by have:=(h7.lt k hk).2;omega) (fun e=>by
   rcases SX with e1|e1
   ·exact e1 (e.symm.trans hk.symm)
   rw [e1]at e;cases e)]
  exact((Ext.refl w7).alloc c2).block (h7.lt k hk).2
 refine⟨⟨?_,?_,?_,by have:=h.grown.size;omega,fun k hk hn=> ?_⟩,?_,?_,?_,by rw [List.length_set];exact h.len,fun k hk wM=> ?_⟩
 ·exact(g9.os.trans (g7.os.trans hs.os)).trans h.grown.os
 ·exact(g9.tape.trans (g7.tape.trans hs.tape)).trans h.grown.tape
 ·exact(g9.output.trans (g7.output.trans hs.output)).trans h.grown.output
 ·rw [blk k (Qy hk h.grown.size) (fun e=>hn (by rw [e])) (fun e=>by have:=P5 k e;omega) (fun e=>by have:=RJ k e;omega)];exact h.grown.block k hk hn
 ·exact Zp (h.row.set t false).1 fun k hk=>by
   have:k=g:=by injection hk with hk;exact hk.symm
   subst this;exact blkg
 ·rw [List.length_append,List.length_singleton,List.map_append];unfold Qvo at Y4⊢;rw [List.map_append];exact Y4
 ·rw [List.length_append,List.length_singleton,List.map_append];unfold Qy9 at h9⊢;rw [List.map_append];exact h9
 rcases a9 with e1|e1
 ·rw [e1]at wM;rcases SX with e2|e2
  ·exact e2 (wM.trans hk.symm)
  rw [e2]at wM;cases wM
 rw [e1,s8]at wM;injection wM with wM;have:=(h7.lt k hk).2;omega
end
theorem Qfs(b g:Nat)(lg:Int)(base:List (List Nd))(root:List Bool)(ks:List Kn)(cs:List Cm)(alive:List Bool)(w:World)
 (hE:Fe w b g lg base root ks cs alive)(xY:0<=lg/\lg<=6)(hm:alive.length<=4096)(hb:base.length<=12)(rI:∀k∈ks,k.place < 64/\alive.length<=k.holds.length)(qO:∀c∈cs,c.place < 64/\c.x.length=alive.length/\c.y.length=alive.length/\0<=c.group/\c.group < 16):
 Calls Tryz.prog 60 #[.pointer (some ⟨b,0,none⟩)] w (Qw1 w b g lg base root ks cs (Qkx lg ks cs base.length alive)):=by
 have HE:=Qq hE;have tL:=Qq rI;have lL:=Qq qO;have xO:=hE.row.lt.2;obtain⟨iU,sK,xC,xB,xA⟩:=info_parts Zjb;obtain⟨iI,pK,vO,vN,vM⟩:=info_parts Qzl;obtain⟨fin,wW⟩:∃f,f=Qkx lg ks cs base.length alive:=⟨_,rfl⟩;have vB:=Qq wW;obtain⟨why,LJ⟩:∃f,f=Sm lg ks cs base.length:=⟨_,rfl⟩;have VM:=Qq LJ;obtain⟨m,rY⟩:∃m,m=alive.length:=⟨_,rfl⟩;have sN:=Qq rY;rw [<-wW];rw [<-rY]at hm;have bR:=Qq (show ElI w w g m (.slice none 0 0) (.slice none 0 0) (alive,[])from⟨World.grownBy.refl _ _,hE.row,World.ownsRow_nil _ _ _ _,World.ownsRow_nil _ _ _ _,rY.symm,fun k hk=>by cases hk⟩)
 clear hE rI qO wW LJ rY;go_enter Tryz.func60,Tryz.ntmps60;go_wp2_with fail;go_loopw [2,3,4] (fun vt vw vc wr=>∃(fl:Bool) (n:Nat),vc=.bool fl/\n<=m/\Qlq vt=n/\Hid (∃s,ElI w wr g m vt vw s/\s.2.length=n/\cnt s.1+s.2.length<=m/\(fl=true->∃k,cnt s.1 < k/\Rs why k s=fin)/\(fl=false->s=fin))) (fun vt _ vc _=>2*(m - Qlq vt)+Zzp vc)
 case atStart=>exact⟨true,0,rfl,Nat.zero_le _,rfl,Qq ⟨(alive,[]),bR.out,rfl,by show cnt alive+0<=m;rw [sN.out];exact Qkk alive,(fun _=>⟨alive.length+1,by show cnt alive < _;have:=Qkk alive;omega,by rw [vB.out,VM.out];rfl⟩),(fun e=>by cases e)⟩⟩
 case round =>
  clear bR;obtain⟨fl,n,rfl,hn,JW,zY⟩:=hrel;obtain⟨s,hs,Q0,C9,NQ,oF⟩:=zY.out;have HS:=Qq hs;have lZ:=Qq Q0;have WQ:=Qq NQ;have IV:=Qq oF;obtain⟨At,ct,rfl⟩:=Qs hs.ts;obtain⟨Aw,cw,rfl⟩:=Qs hs.ws;clear zY hs Q0 NQ oF;cases fl
  ·go_wp2_with fail;go_ret2;have e:=IV.out (by trivial);exact⟨_,_,rfl,HS.out.grown,by rw [<-e];exact HS.out.eng HE.out sN.out.symm,by rw [<-e];exact HS.out.ts,by rw [<-e];exact HS.out.ws⟩
  obtain⟨_,_,_,_,x0,x1,x2,x5,xl⟩:=(HS.out.eng HE.out sN.out.symm).cells;rw [HS.out.len]at x5;go_wp2_with fail;go_step3;go_wp2_with fail;go_step3;go_wp2_with fail;clear x0 x1 x2 x5 xl;go_loopw [2,3,4,14] (fun vt vw vc vi wr=>∃t:Nat,vi=.int .i64 (t:Int)/\t<=m/\∃(fl:Bool) (n2:Nat),vc=.bool fl/\n2<=m/\n<=n2/\Qlq vt=n2/\(fl=true↔n < n2)/\Hid (ElI w wr g m vt vw (Ko why (List.range t) s)/\(Ko why (List.range t) s).2.length=n2)) (fun _ _ _ vi _=>m - (intOf vi).toNat)
  case atStart=>exact⟨0,rfl,Nat.zero_le _,false,n,rfl,hn,Nat.le_refl _,by exact lZ.out,(by simp),Qq ⟨HS.out,lZ.out⟩⟩
  case round =>
   obtain⟨t,rfl,ht,fl,n2,rfl,aB,uM,UB,iL,zY⟩:=hrel;obtain⟨xP,LR⟩:=zY.out;have xE:=Qq xP;have pN:=Qq LR;obtain⟨s2,TG⟩:∃x,x=Ko why (List.range t) s:=⟨_,rfl⟩;have mW:=Qq TG;rw [<-TG]at xE pN xP;obtain⟨At2,ct2,rfl⟩:=Qs xP.ts;obtain⟨Aw2,cw2,rfl⟩:=Qs xP.ws;have QK:=Qq iL;clear zY xP LR TG iL;by_cases hlt2:t < m
   ·have yP:(t:Int) < (m:Int):=by omega
    have tH:g < wr.heap.size:=Qy xO xE.out.grown.size;have gfr:=xE.out.row.frozen t;obtain⟨at_,yM⟩:∃x,x=s2.1.getD t false:=⟨_,rfl⟩;have gc:wr.cell? ⟨g,t,none⟩=some (.bool at_):=xE.out.row.cell (by rw [yM,Qk,List.getElem?_eq_getElem (by rw [xE.out.len];exact hlt2)];rfl);have kA:=Qq yM;have zA:=Qq (show Ko why (List.range (t+1)) s=Uy why s2 t by rw [Qcc,<-mW.out]);clear yM;obtain⟨_,cb,_,_,x0,x1,x2,x5,xl⟩:=(xE.out.eng HE.out sN.out.symm).cells;rw [xE.out.len]at x5;go_wp2_with fail;cases at_
    ·have yX:=Qq (show Uy why s2 t=s2 by unfold Uy;rw [<-kA.out];rfl);go_loopw [2,3,4,7] (fun v2 v3 v4 vi wr2=>v2=.slice At2 s2.2.length ct2/\v3=.slice Aw2 s2.2.length cw2/\v4=.bool fl/\vi=.int .i64 (-4)/\wr2=wr) (fun _ _ _ _ _=>0)
     case atStart=>exact⟨rfl,rfl,rfl,rfl,rfl⟩
     case round =>
      obtain⟨rfl,rfl,rfl,rfl,rfl⟩:=hrel;go_wp2_with fail;go_roundw
      case rel=>exact⟨t+1,by go_num,by omega,fl,n2,rfl,aB,uM,UB,QK.out,Qq (by rw [zA.out,yX.out];exact⟨xE.out,pN.out⟩)⟩
      case measure=>simp [intOf];omega
    obtain⟨wq,vD⟩:∃v,v=wr:=⟨_,rfl⟩;subst vD;clear x0 x1 x2 x5;go_loopw [2,3,4,7] (fun v2 v3 v4 vi wr2=>v2=.slice At2 s2.2.length ct2/\v3=.slice Aw2 s2.2.length cw2/\v4=.bool fl/\∃z:Int,vi=.int .i64 z/\ -4<=z/\z<=(base.length:Int)/\Hid (Ext wq wr2/\∀j:Int,-4<=j->j < z->Vb lg ks cs s2.1 t j=false)) (fun _ _ _ vi _=>((base.length:Int) - intOf vi).toNat)
    case atStart=>exact⟨rfl,rfl,rfl,-4,rfl,by omega,by omega,Qq ⟨Qz,fun j h1 h2=>by omega⟩⟩
    case round =>
     obtain⟨rfl,rfl,rfl,z,rfl,zB,nU,zY⟩:=hrel;have HX:=Qq zY.out.1;have HJ:=Qq zY.out.2;clear zY;have oZ:=Qq (xE.out.next HX.out);have AL:=Qq (oZ.out.eng HE.out sN.out.symm);obtain⟨_,cb2,_,_,x0,x1,x2,x5,xl2⟩:=AL.out.cells;rw [xE.out.len]at x5;by_cases P0:z < (base.length:Int)
     ·have WM:=Qq (Qph b lg base root ks cs s2.1 t z wr AL.out.eng xY (by rw [xE.out.len];exact hlt2) (by rw [xE.out.len];exact hm) ⟨by omega,by omega⟩ (by rw [xE.out.len,sN.out];exact tL.out) (by rw [xE.out.len,sN.out];exact lL.out));obtain⟨lk,cN⟩:∃x,x=Vb lg ks cs s2.1 t z:=⟨_,rfl⟩;have PW:=Qq cN;rw [<-cN]at WM;clear cN;go_wp2_with fail;refine WM.out.mono ?_;rintro e w3 ⟨rfl,zI⟩;have zC:=Qq (HX.out.trans zI);have fQ:=Qq (oZ.out.next zI);clear zI x0 x1 x2 x5;obtain⟨_,cb3,_,_,y0,y1,y2,y5,yl⟩:=(fQ.out.eng HE.out sN.out.symm).cells;rw [xE.out.len]at y5;have aE:g < w3.heap.size:=Qy xO fQ.out.grown.size
      have gfr3:=fQ.out.row.frozen t;have gc3:w3.cell? ⟨g,t,none⟩=some (.bool true):=fQ.out.row.cell (by rw [kA.out,Qk,List.getElem?_eq_getElem (by rw [xE.out.len];exact hlt2)];rfl);cases lk
      ·go_wp2_with fail;go_roundw
       case rel=>exact⟨by first|rfl|trivial,by first|rfl|trivial,by first|rfl|trivial,z+1,rfl,by omega,by omega,Qq ⟨zC.out,fun j h1 h2=>by
        by_cases e:j < z
        ·exact HJ.out j h1 e
        have:j=z:=by omega
        subst this;exact PW.out.symm⟩⟩
       case measure=>simp [intOf];omega
      have I4:=Qq (show why s2.1 t=some z by rw [VM.out];exact Zq1 zB P0 PW.out.symm HJ.out);have yX:=Qq (show Uy why s2 t=(s2.1.set t false,s2.2++ [(t,z)]) by
       unfold Uy;rw [<-kA.out,I4.out]
       rfl)
      have aA:s2.2.length+1<=m:=by
       have h1:=Qd4 (why:=why) s2 t;rw [yX.out]at h1;have h2:=Ch (why:=why) (List.range t) s;rw [<-mW.out]at h2;simp only [List.length_append,List.length_singleton]at h1;omega
      have xN:s2.2.length+1<=maxLen:=by unfold maxLen;omega
      have xJ:(s2.2.length+1)*8<=140737488355328:=by omega
      have pC:(w3.setCell ⟨g,t,none⟩ (.bool false)).heap.size=w3.heap.size:=by simp [World.setCell]
      have VZ:=Qq (show(w3.setCell ⟨g,t,none⟩ (.bool false)).ownsRow w.heap.size 41 1 (.slice At2 s2.2.length ct2) s2.2.length (Qvo (s2.2.map Prod.fst))from ownsRow_setCell_other (a:=⟨g,t,none⟩) fQ.out.ts (fun e=>by have:=(fQ.out.ts.lt g e).1;omega) _);have tJ:=Qq (show(w3.setCell ⟨g,t,none⟩ (.bool false)).ownsRow w.heap.size 3 1 (.slice Aw2 s2.2.length cw2) s2.2.length (Qy9 (s2.2.map Prod.snd))from ownsRow_setCell_other (a:=⟨g,t,none⟩) fQ.out.ws (fun e=>by have:=(fQ.out.ws.lt g e).1;omega) _);have hws3:w.heap.size<=w3.heap.size:=fQ.out.grown.size;have B6:=aE;go_upto_region 12 with(fail)
      go_wp2_with(at_builtin;refine wpList_append_own_at _ rfl _ _ 23 rfl w.heap.size 41 iU (.int .u64 0) 1 8 Tryz.underlying23 sK xC xB xA rfl (by decide) _ s2.2.length (Qvo (s2.2.map Prod.fst)) rfl (Zf VZ.out (Qz.alloc _)) ⟨_,0,none⟩ 1 1 [.int .u64 (t:Int)] rfl rfl (Zm _ _ _ (by simp)) (fun u hu=>by rw [List.mem_singleton.1 hu];rfl) xN xJ (by simp [World.setCell];omega) ?_);intro v7 w7 zW zX _ zF;have N1:=Qq zX;have K4:=Qq zW;have GF:=Qq (show w7.ownsRow w.heap.size 3 1 (.slice Aw2 s2.2.length cw2) s2.2.length (Qy9 (s2.2.map Prod.snd))from Zp tJ.out fun k hk=>by
       rw [zX.block k (by have:=(tJ.out.lt k hk).2;simp;omega) (fun e=>fQ.out.apart k e.symm hk)];exact(Qz.alloc _).block (tJ.out.lt k hk).2)
      have Y3:=zX.size;obtain⟨A7,c7,rfl⟩:=Qs zW;have lP:=Qq zF;clear zW zX zF;have G5:w.heap.size<=w7.heap.size:=by simp [World.setCell]at Y3;omega
      clear Y3;go_wp2_with(at_builtin;refine wpList_append_own_at _ rfl _ _ 36 rfl w.heap.size 3 iI (.int .i64 0) 1 8 Tryz.underlying36 pK vO vN vM rfl (by decide) _ s2.2.length (Qy9 (s2.2.map Prod.snd)) rfl (Zf GF.out (Qz.alloc _)) ⟨_,0,none⟩ 1 1 [.int .i64 z] rfl rfl (Zm _ _ _ (by simp)) (fun u hu=>by rw [List.mem_singleton.1 hu];rfl) xN xJ (by simp;omega) ?_);intro v9 w9 qI qM _ aM;have HT:=Qq (fQ.out.take xO K4.out N1.out qI qM (lP.out.imp_right fun h=>by rw [h];simp [World.setCell]) (aM.imp_right fun h=>by rw [h];simp));obtain⟨A9,c9,rfl⟩:=Qs qI
      clear qI qM aM;go_wp2_with fail;go_roundw
      case rel=>exact⟨t+1,by go_num,by omega,true,s2.2.length+1,rfl,aA,by have:=pN.out;omega,rfl,⟨fun _=>by have:=pN.out;omega,fun _=>rfl⟩,Qq (by rw [zA.out,yX.out];exact⟨HT.out,by simp⟩)⟩
      case measure=>simp [intOf];omega
     obtain rfl:(base.length:Int)=z:=by omega
     have yX:=Qq (show Uy why s2 t=s2 by
      unfold Uy;rw [<-kA.out,VM.out,Qwf (fun j h1 h2=>HJ.out j h1 h2)]
      rfl)
     go_wp2_with fail;go_roundw
     case rel=>exact⟨t+1,by go_num,by omega,fl,n2,rfl,aB,uM,UB,QK.out,Qq (by rw [zA.out,yX.out];exact⟨oZ.out,pN.out⟩)⟩
     case measure=>simp [intOf];omega
   obtain rfl:m=t:=by omega
   go_wp2_with fail;simp only [Exit.noGoto_normal];have GM:=Qq (Qzk (why:=why) (List.range m) s);have AM:=Qq (Ch (why:=why) (List.range m) s);have EC:cnt s2.1+s2.2.length<=m:=by rw [mW.out];have:=AM.out.1;omega
   go_roundw
   case rel =>
    iterate 50 apply Exists.intro
    refine⟨?_,rfl⟩;refine⟨fl,n2,rfl,aB,UB,Qq ⟨s2,xE.out,pN.out,EC,fun iL=> ?_,fun iL=> ?_⟩⟩
    ·obtain⟨k,hk,he⟩:=WQ.out (by trivial);have yK:=QK.out.1 iL;cases k with
     |zero=>omega
     |succ k =>
      refine⟨k,?_,?_⟩
      ·have h1:=AM.out.1;rw [<-mW.out]at h1;have h3:=pN.out;have h4:=lZ.out;omega
      rw [<-he];rw [Qgk];rw [HS.out.len,<-mW.out];have:(s2.2.length==s.2.length)=false:=by
       rw [beq_eq_false_iff_ne];have h3:=pN.out;have h4:=lZ.out;omega
      rw [this];rfl
    obtain⟨k,hk,he⟩:=WQ.out (by trivial);have RU:¬n < n2:=fun h=>by rw [QK.out.2 h]at iL;cases iL
    have h3:=pN.out;have h4:=lZ.out;have h5:=(GM.out (by rw [<-mW.out];omega)).1;rw [<-mW.out]at h5;rw [h5];cases k with
    |zero=>omega
    |succ k =>
     rw [<-he];rw [Qgk];rw [HS.out.len,<-mW.out];have:(s2.2.length==s.2.length)=true:=by
      rw [beq_iff_eq];omega
     rw [this];rfl
   case measure =>
    have h3:=QK.out;have h4:=pN.out;have h5:=lZ.out;cases fl
    ·show 2*(m - s2.2.length)+0 < 2*(m - s.2.length)+1;have:¬n < n2:=fun h=>by have:=h3.2 h;cases this
     omega
    show 2*(m - s2.2.length)+1 < 2*(m - s.2.length)+1;have:=h3.1 rfl;omega
def Elm(w:World)(v:Value)(lg:Int)(ts:List Nat)(ws:List Int):Prop:=∃vt vw,v=.agg #[.int .i64 lg,vt,vw]/\Jb w vt ts/\Bc w vw ws
theorem Elm.ext {w w':World} {v:Value} {lg:Int} {ts:List Nat} {ws:List Int}(h:Elm w v lg ts ws)(he:Ext w w'):Elm w' v lg ts ws:=by
 obtain⟨vt,vw,e,h1,h2⟩:=h;exact⟨vt,vw,e,h1.ext he,h2.ext he⟩
structure Zq8 (lg:Int) (f:List Nd):Prop where
 lgr:0<=lg/\lg<=6
 len:(Qm f).1.length<=12
 al:(Km lg (Qm f).1).length=2^(Qm f).1.length
 le:(Km lg (Qm f).1).length<=4096
 root:(Nx f).length=2^(Qm f).1.length
 ks:∀k∈Zl (Qm f).1,k.place < 64/\k.holds.length=2^(Qm f).1.length
 cs:∀c∈Jl (Qm f).1,c.place < 64/\c.x.length=2^(Qm f).1.length/\c.y.length=2^(Qm f).1.length/\0<=c.group/\c.group < 16
theorem Qow {lg:Int} {f:List Nd}(h:By lg f):Zq8 lg f:=by
 have hl:=h.b.len;refine⟨⟨h.l0,h.l6⟩,hl,Sc _ _,by rw [Sc];exact Qf0 hl,Xb _ _,fun k hk=> ?_,fun c hc=> ?_⟩
 ·have:=Qr4 hk;exact⟨by omega,this.2⟩
 obtain⟨i,hi,hk⟩:=List.mem_flatMap.1 hc;have hi:=List.mem_range.1 hi;unfold Lj at hk;cases ho:(Zz ((Qm f).1.getD i [])).op==13
 ·rw [ho]at hk;cases hk
 rw [ho]at hk;rw [List.mem_singleton.1 hk];have hg:(Qm f).1[i]?=some ((Qm f).1.getD i []):=by rw [Qk,Qv hi];rfl
 obtain⟨t,ht,hc,_⟩:=h.b.can _ (List.mem_of_getElem? hg);obtain⟨gn,e,zG⟩:=Qgd ht (by rw [<-hc];simpa using ho);rw [<-hc]at e;exact⟨by show i < 64;omega,Xb _ _,Xb _ _,by show 0<=(Zz _).g/\(Zz _).g < 16;rw [e];omega⟩
theorem Vk {P:Program} {fn:Func} {t u:Tmp} {ty:TypeId}(h:fn.results=#[.cell t ty,.tmp u])(tmps:Array Value)(w:World) {b o:Nat}(ht:tmps.getD t undef=.pointer (some ⟨b,o,none⟩)) {cs:List Value} {d:TypeDesc}(hc:w.rangeAt b o cs)
 (hu:P.underlying ty=some d)(hd:d.isRow=true)(hi:(P.info? ty).map (·.size)=some cs.length):(results fn tmps).run P w=.ok (.tuple #[.agg cs.toArray,tmps.getD u undef]) w:=by
 have mI:tmps[t]?.getD undef=.pointer (some ⟨b,o,none⟩):=by rw [<-Array.getD_eq_getD_getElem?];exact ht
 simp [results,h,mI,asAddr,run_loadVar_mid w b o ty cs d hc hu hd hi]
theorem Zc {w:World} {b:Nat} {a0 a1 a2:Value} {t:TypeId}(h:w.heap[b]?=some (.cells #[a0,a1,a2] t (0,0))):
 (w.cell? ⟨b,0,none⟩=some a0/\w.cell? ⟨b,1,none⟩=some a1/\w.cell? ⟨b,2,none⟩=some a2)/\(w.frozen? ⟨b,0,none⟩=false/\w.frozen? ⟨b,1,none⟩=false/\w.frozen? ⟨b,2,none⟩=false)/\b < w.heap.size :=
 ⟨⟨by simp [World.cell?,h],by simp [World.cell?,h],by simp [World.cell?,h]⟩,⟨by simp [World.frozen?,h],by simp [World.frozen?,h],by simp [World.frozen?,h]⟩,Qf h⟩
theorem Yx {w:World} {b:Nat} {a0 a1 a2:Value} {t:TypeId}(h:w.heap[b]?=some (.cells #[a0,a1,a2] t (0,0)))(v0 v1 v2:Value):
 (((w.setCell ⟨b,0,none⟩ v0).setCell ⟨b,1,none⟩ v1).setCell ⟨b,2,none⟩ v2).heap[b]?=some (.cells #[v0,v1,v2] t (0,0)):=by
 simp only [World.setCell,Array.getElem?_modify,h,if_true,Option.map_some];simp
theorem Yv {w w':World} {b:Nat}(h:Ext w w')(hb:w.heap.size<=b)(v0 v1 v2:Value):Ext w (((w'.setCell ⟨b,0,none⟩ v0).setCell ⟨b,1,none⟩ v1).setCell ⟨b,2,none⟩ v2):=
 ((h.setCell (p:=⟨b,0,none⟩) hb v0).setCell (p:=⟨b,1,none⟩) hb v1).setCell (p:=⟨b,2,none⟩) hb v2
theorem Kv {w:World} {b k:Nat}(h:k≠b)(v0 v1 v2:Value):(((w.setCell ⟨b,0,none⟩ v0).setCell ⟨b,1,none⟩ v1).setCell ⟨b,2,none⟩ v2).heap[k]?=w.heap[k]?:=by
 rw [Below.heap_setCell _ _ _ _ h,Below.heap_setCell _ _ _ _ h,Below.heap_setCell _ _ _ _ h]
def spm(lo mb:Nat)(vr:Value)(k:Nat):Prop:=k < lo\/k=mb\/vr.ownBlock=some k
structure MoI (w5 wr:World) (mb vb n facts:Nat) (vals:List Nat) (vr:Value) (rows:List (List Nat)):Prop where
 ext:Ext w5 wr
 lo:w5.heap.size<=mb/\mb≠vb
 cell:wr.heap[mb]?=some (.cells #[.int .i64 (n:Int),.slice (some ⟨vb,0,none⟩) facts facts,vr] 26 (0,0))
 row:Zx w5.heap.size wr (.slice (some ⟨vb,0,none⟩) facts facts) vals
 len:vals.length=facts
 rel:∃us:List Value,us.length=rows.length/\wr.ownsRow w5.heap.size 23 1 vr us.length us/\∀(k:Nat) u r,us[k]?=some u->rows[k]?=some r->Frz (spm w5.heap.size mb vr) wr (fun w'=>Jb w' u r)
 dr:vr.ownBlock≠some mb/\vr.ownBlock≠some vb
section
variable {w5 wr W:World} {mb vb n facts:Nat} {vals:List Nat} {vr:Value} {rows:List (List Nat)}
theorem MoI.next(h:MoI w5 wr mb vb n facts vals vr rows)(he:Ext wr W):MoI w5 W mb vb n facts vals vr rows:=by
 obtain⟨us,e,h1,h2⟩:=h.rel;exact⟨h.ext.trans he,h.lo,(he.block (Qf h.cell)).trans h.cell,h.row.ext he,h.len,⟨us,e,Zf h1 he,fun k u r hu hr=>(h2 k u r hu hr).next (Yp.of_ext he) fun _ _ h=>h⟩,h.dr⟩
theorem MoI.mlt(h:MoI w5 wr mb vb n facts vals vr rows):mb < wr.heap.size:=Qf h.cell
theorem MoI.cells(h:MoI w5 wr mb vb n facts vals vr rows):(wr.cell? ⟨mb,0,none⟩=some (.int .i64 (n:Int))/\wr.cell? ⟨mb,1,none⟩=some (.slice (some ⟨vb,0,none⟩) facts facts)/\wr.cell? ⟨mb,2,none⟩=some vr)/\(wr.frozen? ⟨mb,0,none⟩=false/\wr.frozen? ⟨mb,1,none⟩=false/\wr.frozen? ⟨mb,2,none⟩=false)/\mb < wr.heap.size :=
 Zc h.cell
theorem MoI.setVal(h:MoI w5 wr mb vb n facts vals (.slice none 0 0) [])(p s:Nat):MoI w5 (wr.setCell ⟨vb,p,none⟩ (.int .u64 (s:Int))) mb vb n facts (vals.set p s) (.slice none 0 0) []:=by
 have LM:w5.heap.size<=vb:=(h.row.lt vb rfl).1;refine⟨h.ext.setCell (p:=⟨vb,p,none⟩) LM _,h.lo,(Below.heap_setCell _ _ _ _ h.lo.2).trans h.cell,h.row.set h.len p s,by rw [List.length_set];exact h.len,⟨[],rfl,World.ownsRow_nil _ _ _ _,fun k u r hu _=>by simp at hu⟩,h.dr⟩
theorem MoI.push {wa w7 W6:World} {v7:Value} {u:Value} {r:List Nat} {us:List Value}(h:MoI w5 wa mb vb n facts vals vr rows)(e:us.length=rows.length)(xQ:wa.ownsRow w5.heap.size 23 1 vr us.length us)(aP:∀(k:Nat) u r,us[k]?=some u->rows[k]?=some r->Frz (spm w5.heap.size mb vr) wa (fun w'=>Jb w' u r))(hx:Ext wa wr)(hu:Zx wa.heap.size wr u r)(uT:Ext wr W6)
 (ho:w7.ownsRow w5.heap.size 23 1 v7 (us.length+1) (us++ [u]))(uF:W6.grownBy w7 vr.ownBlock)(fB:v7.ownBlock=vr.ownBlock\/v7.ownBlock=some W6.heap.size):
 MoI w5 (w7.setCell ⟨mb,2,none⟩ v7) mb vb n facts vals v7 (rows++ [r]):=by
 have h6:=h.next (hx.trans uT);have h1:=Zf xQ (hx.trans uT);have h2:=fun k u r hu hr=>(aP k u r hu hr).next (X':=spm w5.heap.size mb vr) (Yp.of_ext (hx.trans uT)) fun _ _ h=>h
 have pT:=fun k hk=>(h1.lt k hk)
 have jE:=h6.mlt;have LM:=h6.row.lt vb rfl;have s7:=uF.size;have kG:Ext w5 w7:=h6.ext.grown uF (fun k hk=>(pT k hk).1);have wV:∀k,k≠mb->(w7.setCell ⟨mb,2,none⟩ v7).heap[k]?=w7.heap[k]?:=fun k e=>Below.heap_setCell _ _ _ _ e
 have TY:w7.heap[mb]?=some (.cells #[.int .i64 (n:Int),.slice (some ⟨vb,0,none⟩) facts facts,vr] 26 (0,0)):=(uF.block mb jE (fun e=>h.dr.1 e.symm)).trans h6.cell;have U3:v7.ownBlock≠some mb/\v7.ownBlock≠some vb:=by
  rcases fB with e|e
  ·rw [e];exact h.dr
  rw [e];exact⟨fun e=>by injection e with e;omega,fun e=>by injection e with e;omega⟩
 have jC:(w7.setCell ⟨mb,2,none⟩ v7).heap.size=w7.heap.size:=by simp [World.setCell]
 have dT:Yp (spm w5.heap.size mb vr) W6 (w7.setCell ⟨mb,2,none⟩ v7):=⟨by omega,fun k hk hl=>by
  rw [wV k (fun e=>hk (.inr (.inl e))),uF.block k hl (fun e=>hk (.inr (.inr e.symm)))]⟩
 have TE:∀k,k < W6.heap.size->spm w5.heap.size mb v7 k->spm w5.heap.size mb vr k:=fun k hk hs=>by
  rcases hs with e|e|e
  ·exact .inl e
  ·exact .inr (.inl e)
  rcases fB with e2|e2
  ·exact .inr (.inr (e2▸e))
  rw [e2]at e;injection e with e;omega
 refine⟨kG.setCell (p:=⟨mb,2,none⟩) h.lo.1 _,h.lo,?_,?_,h.len,⟨us++ [u],by simp [e],?_,fun k x y hx hy=> ?_⟩,U3⟩
 ·simp only [World.setCell,Array.getElem?_modify,TY,if_true,Option.map_some];simp
 ·exact Zp h6.row fun k hk=>by
   have e:k=vb:=by injection hk with hk;exact hk.symm
   subst e;rw [wV k (fun e=>h.lo.2 e.symm),uF.block k LM.2 (fun e=>h.dr.2 e.symm)]
 ·rw [List.length_append,List.length_singleton];exact Zp ho fun k hk=>wV k (fun e=>U3.1 (e▸hk))
 by_cases hk:k < us.length
 ·rw [List.getElem?_append_left hk]at hx;rw [List.getElem?_append_left (by omega)]at hy;exact(h2 k x y hx hy).next dT TE
 have wO:=(List.getElem?_eq_some_iff.1 hx).1;rw [List.length_append,List.length_singleton]at wO;have ek:k=us.length:=by omega
 subst ek;rw [List.getElem?_append_right (Nat.le_refl _),Nat.sub_self]at hx;rw [e,List.getElem?_append_right (Nat.le_refl _),Nat.sub_self]at hy;obtain rfl:u=x:=by simpa using hx
 obtain rfl:r=y:=by simpa using hy
 intro w' BQ;have ZV:=fun g hg=>(hu.lt g hg)
 have pC:=h.mlt;have RJ:=h.row.lt vb rfl;have:Zx wa.heap.size w' u r:=Zp hu fun g hg=>by
  have vL:=ZV g hg;have T2:g≠mb:=by omega
  have hgv:∀o,v7.ownBlock=some o->g≠o:=fun o iE e=>by
   subst e;rcases fB with e2|e2
   ·rw [e2]at iE;obtain⟨us0,_,xQ,_⟩:=h.rel;have:=(xQ.lt _ iE).2;omega
   rw [e2]at iE;injection iE with iE;have:=uT.size;omega
  have DS:vr.ownBlock≠some g:=fun e=>by
   have:=(xQ.lt _ e).2;omega
  have hl6:=uT.size;have LQ:¬spm w5.heap.size mb v7 g:=fun hs=>by
   rcases hs with e|e|e
   ·have:=h.ext.size;omega
   ·exact T2 e
   exact hgv g e rfl
  rw [BQ.2 g LQ (by omega),wV g T2,uF.block g (by omega) (fun e=>DS e.symm),uT.block vL.2]
 exact this.u64s
theorem MoI.mdv {w':World}(h:MoI w5 wr mb vb n facts vals vr rows)(hs:Yp (fun k=>k < w5.heap.size) wr w'):MdV w' (.agg #[.int .i64 (n:Int),.slice (some ⟨vb,0,none⟩) facts facts,vr]) ⟨n,vals,rows⟩:=by
 have LM:=h.row.lt vb rfl;have zP:Zx w5.heap.size w' (.slice (some ⟨vb,0,none⟩) facts facts) vals:=Zp h.row fun k hk=>by
  have e:k=vb:=by injection hk with hk;exact hk.symm
  subst e;exact hs.2 k (by omega) LM.2
 refine⟨_,_,rfl,zP.u64s,?_⟩;obtain⟨us,e,xQ,h2⟩:=h.rel;have h1:=Zp (w':=w') xQ fun k hk=>hs.2 k (by have:=(xQ.lt k hk).1;omega) (xQ.lt k hk).2
 have tD:Yp (spm w5.heap.size mb vr) wr w':=⟨hs.1,fun k hk hl=>hs.2 k (fun e=>hk (.inl e)) hl⟩;rcases h1.2 with⟨ev,e0⟩|⟨g,cap,cur,ev,hb,hg,iG,hm,XP,ht⟩
 ·subst ev;have:rows= []:=List.length_eq_zero_iff.1 (by omega);subst this;exact⟨none,0,rfl,Nat.le_refl _,by unfold maxLen;omega,fun h=>absurd rfl h⟩
 subst ev;refine⟨_,cap,by rw [e],by show rows.length<=cap;omega,hm,fun _=>⟨_,rfl,Qf hg,fun k s hk=> ?_⟩⟩;have wO:k < rows.length:=(List.getElem?_eq_some_iff.1 hk).1;obtain⟨u,hu⟩:∃u,us[k]?=some u:=⟨_,List.getElem?_eq_getElem (by omega)⟩;refine⟨u,?_,h2 k u s hu hk w' tD⟩;rw [Wc];have h3:=hu;rw [<-ht,List.getElem?_take]at h3
 split at h3
 ·have h4:cur[k]?=some u:=by simpa using h3
  simp [World.cell?,hg,h4]
 cases h3
end
def Sl(g:Nd->Nat)(l:List Nd):Nat:=l.foldl (fun m n=>m|||g n) 0
theorem Qhf(g:Nd->Nat)(l:List Nd)(n:Nd):Sl g (l++ [n])=Sl g l|||g n:=by simp [Sl,List.foldl_append]
theorem Zqn {g:Nd->Nat} :∀(l:List Nd),(∀n∈l,g n < 512)->Sl g l < 512:=by
 have:∀(l:List Nd) (m:Nat),(∀n∈l,g n < 512)->m < 512->l.foldl (fun m n=>m|||g n) m < 512:=by
  intro l
  induction l with
  |nil=>intro m _ h;exact h
  |cons a r ih =>
   intro m hl h;exact ih _ (fun n hn=>hl n (List.mem_cons_of_mem _ hn)) (Nat.or_lt_two_pow (n:=9) h (hl a (List.mem_cons_self ..)))
 exact fun l hl=>this l 0 hl (by omega)
def agU(n:Nd):Nat:=if Qo n.op then 2^n.i.toNat else n.g.toNat
def faU(n:Nd):Nat:=if Zg n.op then 2^n.i.toNat else 0
theorem Qff {n:Nd}(h:Zh n)(ha:Qo n.op=true):n.g=0:=by
 have hg:Zk n.op=false:=by
  unfold Qo at ha;unfold Zk;simp at ha;rcases ha with((h|h)|h)|h <;>(rw [h];rfl)
 obtain⟨_,h3,_,_,_⟩:=h;unfold Zd at h3;simp [hg]at h3;exact h3.2
theorem Zj6 {n:Nd}(h:Zh n)(s:Nat):agS s n=s|||agU n:=by
 unfold agS agU;cases ha:Qo n.op
 ·rw [if_neg (by simp),if_neg (by simp),Nat.or_zero]
 rw [if_pos rfl,if_pos rfl,Qff h ha];exact Nat.or_zero _
theorem Og(op:Int):Zg op=true↔op=3:=by unfold Zg;simp
theorem Zyn {n:Nd}(s:Nat):faS s n=s|||faU n:=by
 unfold faS faU;by_cases h:n.op=3
 ·rw [if_pos h,if_pos ((Og _).2 h)]
 rw [if_neg h,if_neg (fun e=>h ((Og _).1 e)),Nat.or_zero]
theorem Cp {f g:Nat->Nd->Nat} :∀(l:List Nd) (s:Nat),(∀n∈l,∀s,f s n=g s n)->l.foldl f s=l.foldl g s
 |[],_,_=>rfl
 |a :: r,s,h=>by
  show r.foldl f (f s a)=r.foldl g (g s a);rw [h a (List.mem_cons_self ..) s];exact Cp r _ (fun n hn=>h n (List.mem_cons_of_mem _ hn))
theorem Qsi {l:List Nd}(h:∀n∈l,Zh n):Jr l=Sl agU l:=Cp l 0 (fun n hn s=>Zj6 (h n hn) s)
theorem Qm0 {l:List Nd} :Yy l=Sl faU l:=Cp l 0 (fun _ _ s=>Zyn s)
theorem Zzx {n:Nd}(h:Zh n):agU n < 512:=by
 unfold agU;have h1:=Ue h
 split
 ·rename_i ho;have:=Kw h ho;exact Nat.pow_lt_pow_right (by decide) (show n.i.toNat < 9 by omega)
 omega
theorem Zzm {n:Nd}(h:Zh n):faU n < 512:=by
 unfold faU
 split
 ·rename_i ho;have:=Fm h ((Og _).1 ho);exact Nat.pow_lt_pow_right (by decide) (show n.i.toNat < 9 by omega)
 decide
theorem Qnb(n:Nd)(h:Zh n)(u0 u1 u2 u4 u5:Bool)(g:Int)(w:World):
 Calls Tryz.prog 142 #[.agg #[.int .i64 n.op,.int .i64 n.i,.int .i64 n.e,.int .i64 n.g,.int .i64 n.x,.int .i64 n.y],.agg #[.bool u0,.bool u1,.bool u2,.bool (Qo n.op),.bool u4,.bool u5,.int .i64 g]] w
  fun e w'=>e=.returned (.int .i64 ((agU n:Nat):Int))/\Ext w w':=by
 have hg:=Ue h;cases ha:Qo n.op
 ·have HE:=Qq (show((agU n:Nat):Int)=n.g by unfold agU;rw [if_neg (by rw [ha];simp)];omega);clear h hg;go_enter Tryz.func142,Tryz.ntmps142;go_wp2_with fail;go_ret;exact⟨by rw [HE.out] <;> rfl,(Qz.alloc _).alloc _⟩
 obtain⟨h0,h1⟩:=Kw h ha;obtain⟨k,hk⟩:=Int.eq_ofNat_of_zero_le h0;have hw:=Df (k:=k) (by omega);have hk8:k < 64:=by omega
 have cL:min k 64=k:=by omega
 have HE:=Qq (show((agU n:Nat):Int)=wrap64 ((2:Int)^k) by rw [hw];unfold agU;rw [if_pos ha,hk,Int.toNat_natCast]);rw [hk];clear h hg h0 h1 hk hw;go_enter Tryz.func142,Tryz.ntmps142;go_wp2_with fail;go_ret;exact⟨by rw [HE.out] <;> rfl,(Qz.alloc _).alloc _⟩
theorem Qts(n:Nd)(h:Zh n)(u0 u1 u3 u4 u5:Bool)(g:Int)(w:World):
 Calls Tryz.prog 143 #[.agg #[.int .i64 n.op,.int .i64 n.i,.int .i64 n.e,.int .i64 n.g,.int .i64 n.x,.int .i64 n.y],.agg #[.bool u0,.bool u1,.bool (Zg n.op),.bool u3,.bool u4,.bool u5,.int .i64 g]] w
  fun e w'=>e=.returned (.int .i64 ((faU n:Nat):Int))/\Ext w w':=by
 cases ha:Zg n.op
 ·have HE:=Qq (show((faU n:Nat):Int)=0 by unfold faU;rw [if_neg (by rw [ha];simp)];rfl);clear h;go_enter Tryz.func143,Tryz.ntmps143;go_wp2_with fail;go_ret;exact⟨by rw [HE.out] <;> rfl,(Qz.alloc _).alloc _⟩
 obtain⟨h0,h1⟩:=Fm h ((Og _).1 ha);obtain⟨k,hk⟩:=Int.eq_ofNat_of_zero_le h0;have hw:=Df (k:=k) (by omega);have hk8:k < 64:=by omega
 have cL:min k 64=k:=by omega
 have HE:=Qq (show((faU n:Nat):Int)=wrap64 ((2:Int)^k) by rw [hw];unfold faU;rw [if_pos ha,hk,Int.toNat_natCast]);rw [hk];clear h h0 h1 hk hw;go_enter Tryz.func143,Tryz.ntmps143;go_wp2_with fail;go_ret;exact⟨by rw [HE.out] <;> rfl,(Qz.alloc _).alloc _⟩
theorem Zqd(g:Nd->Nat)(l:List Nd)(hg:∀n∈l,g n < 512)(k:Nat):Sl g (l.take k) < 512:=Zqn _ (fun n hn=>hg n (List.mem_of_mem_take hn))
theorem Qxz(fn:Nat)(eg:∀args w,(callFunc fn args).run Tryz.prog w=.ok (.enter fn args) w)(g:Nd->Nat)(v:Value)(l:List Nd)(w:World)(h:Fml w v l)(_hc:check l=0)(hg:∀n∈Qg l,g n < 512)
 (hf:∀n∈Qg l,∀W,Calls Tryz.prog fn #[.agg #[.int .i64 n.op,.int .i64 n.i,.int .i64 n.e,.int .i64 n.g,.int .i64 n.x,.int .i64 n.y],.agg #[.bool (Qw n.op),.bool (Qc n.op),.bool (Zg n.op),.bool (Qo n.op),.bool (Zk n.op),.bool (Qi n.op),.int .i64 (Vf n.op)]] W fun e w'=>e=.returned (.int .i64 ((g n:Nat):Int))/\Ext W w'):
 Calls Tryz.prog 116 #[v,.func (Fn.func fn) #[] #[]] w fun e w'=>e=.returned (.int .i64 (Sl g (Qg l):Nat))/\Ext w w':=by
 have H:=Qq h;have HG:=Qq hg;have HF:=Qq hf;clear h hg hf;go_enter Tryz.func116,Tryz.ntmps116;go_wp2_with fail;refine(Fv _ l _ H.out).mono ?_;rintro e w1 ⟨u,rfl,hm⟩;have HX:=Qq hm.2.2;obtain⟨A,c,rfl,xR,yO,zM⟩:=hm.fml.1;unfold maxLen at yO;have HR:=Qq zM;obtain⟨cl,yS⟩:∃cl,cl=Qg l:=⟨_,rfl⟩;have tX:=Qq (show Sl g (Qg l)=Sl g cl by rw [yS]);rw [<-yS]at HR xR HG HF;rw [<-yS];clear hm zM yS;go_wp2_with fail;go_loopw [5,13] (fun out i wr=>∃k:Nat,k<=cl.length/\i=.int .i64 k/\out=.int .i64 (Sl g (cl.take k):Nat)/\Ext w1 wr) (fun _ i _=>cl.length - (intOf i).toNat)
 case atStart=>exact⟨0,Nat.zero_le _,rfl,rfl,Qz⟩
 case round =>
  obtain⟨k,hk,rfl,rfl,yU⟩:=hrel;by_cases hlt2:k < cl.length
  ·obtain⟨a,ha⟩:∃a,cl[k]?=some a:=⟨_,Qv hlt2⟩;have eZ:=List.mem_of_getElem? ha;obtain⟨ad,rfl,yT,xS⟩:=HR.out (by intro e;rw [e]at hlt2;simp at hlt2);obtain⟨a0,a1,a2,a3,a4,a5⟩:=(xS k a ha).keep fun p hp=>yU.cell (p:=p) (by rw [hp,Qr];exact yT)
   have uL:=Bi (Sl g (cl.take k)) (g a) (by have:=Zqd g cl HG.out k;omega) (by have:=HG.out a eZ;omega);have HS:Hid (Sl g (cl.take (k+1))=(Sl g (cl.take k)|||g a)):=Qq (by rw [Kk ha,Qhf]);have lH:=Qq (HF.out a eZ);obtain⟨ga,cP⟩:∃x,x=g a:=⟨_,rfl⟩;rw [<-cP]at uL HS lH;generalize Sl g (cl.take k)=m at uL HS;clear ha xS eZ cP;go_wp2_with fail;refine(Yw _ _ _ _ _ _ _ _ rfl rfl rfl rfl rfl rfl rfl _).mono ?_;rintro e w2 ⟨rfl,hb⟩;have HB:=Qq hb;obtain⟨wN,_,zB⟩:=hb.facts;clear hb;have hz:wr.heap.size < w2.heap.size:=by { simp at zB;omega }
   clear zB;go_wp2_with fail;refine(lH.out _).mono ?_;rintro e w3 ⟨rfl,uZ⟩;go_wp2_with fail;go_roundw
   case rel=>exact⟨k+1,by omega,by go_num,by rw [HS.out],(((yU.alloc _).trans HB.out).alloc _).trans uZ⟩
   case measure=>simp [intOf];omega
  obtain rfl:cl.length=k:=by omega
  go_wp2_with fail;go_ret;exact⟨Kh (by rw [tX.out,List.take_of_length_le (Nat.le_refl _)]),HX.out.trans yU⟩
theorem En(v:Value)(l:List Nd)(w:World)(h:Fml w v l)(hc:check l=0):
 Calls Tryz.prog 66 #[v] w fun e w'=>e=.returned (.int .i64 ((Jr (Qg l):Nat):Int))/\Ext w w':=by
 have H:=Qq h;have hh:=(Jf hc).2.2.2;have HU:=Qq (Qxz 142 (fun _ _=>rfl) agU v l w h hc (fun n hn=>Zzx (hh n hn)) (fun n hn W=>Qnb n (hh n hn) _ _ _ _ _ _ W));have HE:=Qq (Qsi hh);rw [HE.out];clear h hh hc;go_enter Tryz.func66,Tryz.ntmps66;go_wp2_with fail;refine HU.out.mono ?_;rintro e w1 ⟨rfl,hx⟩;go_wp2_with fail;go_ret;exact⟨rfl,hx⟩
theorem Of(v:Value)(l:List Nd)(w:World)(h:Fml w v l)(hc:check l=0):
 Calls Tryz.prog 67 #[v] w fun e w'=>e=.returned (.int .i64 ((Yy (Qg l):Nat):Int))/\Ext w w':=by
 have H:=Qq h;have hh:=(Jf hc).2.2.2;have HU:=Qq (Qxz 143 (fun _ _=>rfl) faU v l w h hc (fun n hn=>Zzm (hh n hn)) (fun n hn W=>Qts n (hh n hn) _ _ _ _ _ _ W));rw [Qm0];clear h hh hc;go_enter Tryz.func67,Tryz.ntmps67;go_wp2_with fail;refine HU.out.mono ?_;rintro e w1 ⟨rfl,hx⟩;go_wp2_with fail;go_ret;exact⟨rfl,hx⟩
theorem Qxt {lg:Int} {f:List Nd}(h:By lg f)(he:Yj lg f=0) {i:Nat}(hi:i < (Qm f).1.length)(ho:(Zz ((Qm f).1.getD i [])).op=3):
 ∃p:Nat,(Zz ((Qm f).1.getD i [])).i=(p:Int)/\p < Ya (Yy (Qg f))/\(Qm f).1.getD i []= [⟨3,(p:Int),0,0,0,0⟩]:=by
 obtain⟨c,hc⟩:∃c,(Qm f).1[i]?=some c:=⟨_,Qv hi⟩;have gR:(Qm f).1.getD i []=c:=by rw [Qk,hc];rfl
 rw [gR]at ho⊢;obtain⟨s,hX,rfl,_,hm⟩:=Qyl h.b hc;rw [hX.last]at ho;have sB:=Qme h he s hm;cases s with
 |leaf n =>
  have h3:n.op=3:=ho;have hf:=hX.xp.fact h3;have h0:=sB.fact h3;have hl:Zz (Qn (.leaf n))=n:=rfl;rw [hl];refine⟨n.i.toNat,by omega,by omega,?_⟩;show [n]=_;rw [show((n.i.toNat:Nat):Int)=n.i by omega];rw [hf]
 |one n a=>exact absurd (ho▸hX.xp.1.1.1) (by decide)
 |two n a b=>exact absurd (ho▸hX.xp.1.1.1) (by decide)
theorem Qmi {lg:Int} {f:List Nd}(h:By lg f)(he:Yj lg f=0) {i j p:Nat}(hi:i < (Qm f).1.length)(hj:j < (Qm f).1.length)(ho:(Zz ((Qm f).1.getD i [])).op=3)(hp:(Zz ((Qm f).1.getD i [])).i=(p:Int))
 (gN:(Zz ((Qm f).1.getD j [])).op=3)(tF:(Zz ((Qm f).1.getD j [])).i=(p:Int)):i=j:=by
 obtain⟨q,hq,_,e1⟩:=Qxt h he hi ho;obtain⟨q2,TK,_,e2⟩:=Qxt h he hj gN;have RL:q=p:=by omega
 have CJ:q2=p:=by omega
 subst RL CJ;have hg:∀k,k < (Qm f).1.length->(Qm f).1[k]?=some ((Qm f).1.getD k []):=fun k hk=>by rw [Qk,Qv hk];rfl
 have h1:=Xe h.b.nodup (hg i hi);have h2:=Xe h.b.nodup (hg j hj);rw [e1,<-e2,h2]at h1;omega
structure Tn (base:List (List Nd)) (S:List Nat) (i:Nat) (vals:List Nat):Prop where
 low:∀s∈vals,s < 2^S.length
 bit:∀j p:Nat,j < i->(Zz (base.getD j [])).op=3->(Zz (base.getD j [])).i=(p:Int)->∀w,w < S.length->(vals.getD p 0).testBit w=(S.getD w 0).testBit j
 zero:∀p:Nat,(∀j,j < i->¬((Zz (base.getD j [])).op=3/\(Zz (base.getD j [])).i=(p:Int)))->vals.getD p 0=0
theorem Qgf(n i:Nat):(List.replicate n 0).getD i 0=0:=by
 rw [Qk,List.getElem?_replicate]
 split <;> rfl
theorem Tn.start(base:List (List Nd))(S:List Nat)(n:Nat):Tn base S 0 (List.replicate n 0):=
 ⟨fun s hs=>by rw [(List.mem_replicate.1 hs).2];exact Nat.two_pow_pos _,fun j p hj=>absurd hj (by omega),fun p _=>Qgf n p⟩
structure Hr (S:List Nat) (i k x:Nat):Prop where
 low:x < 2^S.length
 bit:∀w,x.testBit w=(decide (w < k)&&(S.getD w 0).testBit i)
theorem Hr.start(S:List Nat)(i:Nat):Hr S i 0 0:=⟨Nat.two_pow_pos _,fun w=>by simp⟩
theorem Hr.step {S:List Nat} {i k x:Nat}(h:Hr S i k x)(hk:k < S.length):Hr S i (k+1) (x|||(if(S.getD k 0).testBit i then 2^k else 0)):=by
 refine⟨Nat.or_lt_two_pow h.low ?_,fun w=> ?_⟩
 ·split
  ·exact Nat.pow_lt_pow_right (by decide) hk
  exact Nat.two_pow_pos _
 rw [Nat.testBit_or,h.bit w];cases hb:(S.getD k 0).testBit i
 ·rw [if_neg (by simp),Nat.zero_testBit,Bool.or_false];by_cases e:w=k
  ·subst e;rw [hb];simp
  have:decide (w < k+1)=decide (w < k):=by rw [decide_eq_decide];omega
  rw [this]
 rw [if_pos rfl,Nat.testBit_two_pow];by_cases e:w=k
 ·subst e;rw [hb];simp
 have h1:decide (k=w)=false:=decide_eq_false (fun q=>e q.symm);have h2:decide (w < k+1)=decide (w < k):=by rw [decide_eq_decide];omega
 rw [h1,h2,Bool.or_false]
theorem Hc {l:List Nat} {p x q:Nat} :(l.set p x).getD q 0=if p=q/\p < l.length then x else l.getD q 0:=by
 rw [Qk,Qk,List.getElem?_set];by_cases e:p=q
 ·subst e;by_cases hl:p < l.length
  ·rw [if_pos rfl,if_pos hl,if_pos ⟨rfl,hl⟩];rfl
  rw [if_pos rfl,if_neg hl,if_neg (fun h=>hl h.2),List.getElem?_eq_none (by omega)]
 rw [if_neg e,if_neg (fun h=>e h.1)]
section
variable {base:List (List Nd)} {S vals:List Nat} {i:Nat}
theorem Tn.other(h:Tn base S i vals)(ho:(Zz (base.getD i [])).op≠3):Tn base S (i+1) vals :=
 ⟨h.low,fun j p hj h1 h2 w hw=>by
  by_cases e:j=i
  ·subst e;exact absurd h1 ho
  exact h.bit j p (by omega) h1 h2 w hw,fun p hp=>h.zero p (fun j hj=>hp j (by omega))⟩
theorem Tn.next {p x:Nat}(h:Tn base S i vals)(hu:∀j,j < i->¬((Zz (base.getD j [])).op=3/\(Zz (base.getD j [])).i=(p:Int)))(ho:(Zz (base.getD i [])).op=3)(hi:(Zz (base.getD i [])).i=(p:Int))(hp:p < vals.length)(hx:Hr S i S.length x):Tn base S (i+1) (vals.set p x):=by
 refine⟨fun s hs=> ?_,fun j q hj h1 h2 w hw=> ?_,fun q hq=> ?_⟩
 ·rcases List.mem_or_eq_of_mem_set hs with h1|h1
  ·exact h.low s h1
  rw [h1];exact hx.low
 ·rw [Hc];by_cases e:p=q
  ·subst e;rw [if_pos ⟨rfl,hp⟩];by_cases e2:j=i
   ·subst e2;rw [hx.bit,decide_eq_true hw,Bool.true_and]
   exact absurd ⟨h1,h2⟩ (hu j (by omega))
  rw [if_neg (fun h=>e h.1)];by_cases e2:j=i
  ·subst e2;exact absurd (by omega) e
  exact h.bit j q (by omega) h1 h2 w hw
 rw [Hc];by_cases e:p=q
 ·subst e;exact absurd ⟨ho,hi⟩ (hq i (by omega))
 rw [if_neg (fun h=>e h.1)];exact h.zero q (fun j hj=>hq j (by omega))
end
structure Do (n:Nat) (P:Nat->Nat->Bool) (v w:Nat) (r:List Nat):Prop where
 len:r.length=n
 val:∀x,x < n->r.getD x 0=if x < v then Vt n (P x)else if x=v then Vt w (P v)else 0
theorem Do.start(n:Nat)(P:Nat->Nat->Bool):Do n P 0 0 (List.replicate n 0):=⟨by simp,fun x hx=>by
 rw [Qgf,if_neg (by omega)]
 split <;> rfl⟩
theorem Do.no {n:Nat} {P:Nat->Nat->Bool} {v w:Nat} {r:List Nat}(h:Do n P v w r)(hp:P v w=false):Do n P v (w+1) r :=
 ⟨h.len,fun x hx=>by rw [h.val x hx,Bl,hp];rfl⟩
theorem Do.yes {n:Nat} {P:Nat->Nat->Bool} {v w:Nat} {r:List Nat}(h:Do n P v w r)(hv:v < n)(hp:P v w=true):Do n P v (w+1) (r.set v (r.getD v 0|||2^w)):=by
 refine⟨by rw [List.length_set];exact h.len,fun x hx=> ?_⟩;rw [Hc];by_cases e:v=x
 ·subst e;rw [if_pos ⟨rfl,by rw [h.len];exact hv⟩,h.val v hv,if_neg (by omega),if_pos rfl,if_neg (by omega),if_pos rfl,Bl,hp];rfl
 rw [if_neg (fun h=>e h.1),h.val x hx];by_cases h1:x < v
 ·rw [if_pos h1,if_pos h1]
 rw [if_neg h1,if_neg h1,if_neg (fun e2=>e e2.symm),if_neg (fun e2=>e e2.symm)]
theorem Do.turn {n:Nat} {P:Nat->Nat->Bool} {v:Nat} {r:List Nat}(h:Do n P v n r):Do n P (v+1) 0 r:=by
 refine⟨h.len,fun x hx=> ?_⟩;rw [h.val x hx];by_cases h1:x < v
 ·rw [if_pos h1,if_pos (by omega)]
 rw [if_neg h1];by_cases h2:x=v
 ·subst h2;rw [if_pos rfl,if_pos (by omega)]
 rw [if_neg h2,if_neg (by omega)]
 split <;> rfl
theorem Do.done {n:Nat} {P:Nat->Nat->Bool} {r:List Nat}(h:Do n P n 0 r):r=(List.range n).map fun v=>Vt n (P v):=by
 refine List.ext_getElem (by simp [h.len]) fun x h1 h2=> ?_
 have hx:x < n:=by rw [h.len]at h1;exact h1
 have:=h.val x hx;rw [if_pos hx,Qk,Qv h1]at this;rw [List.getElem_map,List.getElem_range];exact this
theorem Do.low {n:Nat} {P:Nat->Nat->Bool} {v w:Nat} {r:List Nat}(h:Do n P v w r)(hw:w<=n)(hv:v < n):r.getD v 0 < 2^n:=by
 rw [h.val v hv,if_neg (by omega),if_pos rfl];exact Qy (Dh _ _) (Nat.pow_le_pow_right (by decide) hw)
end Go.Proofs.YtkmclcmnoicagaaGreatDoor
