/- types' eliminate: the walk. -/
import Derived.Outline
import Derived.Test.YtkmclcmnoicagaaGreatDoorL26
namespace Go.Proofs.YtkmclcmnoicagaaGreatDoor
set_option maxRecDepth 100000
set_option maxHeartbeats 128000000
open Go.RowKit
theorem Zj4:(Tryz.prog.info? 41).map (fun i=>(i.zero,i.size,i.bytes))=some (some (.int .u64 0),1,8):=by kernel_rfl
def Qos(w:World)(b g:Nat)(lg:Int)(base:List (List Nd))(root:List Bool)(ks:List Kn)(cs:List Cm)(s:List Bool×List (Nat×Int))(e:Ending)(w':World):Prop :=
 ∃vt vw,e=.returned (.tuple #[vt,vw])/\w.grownBy w' (some g)/\Bk w' b g lg base root ks cs s.1/\w'.ownsRow w.heap.size 41 1 vt s.2.length (Qkb (s.2.map Prod.fst))/\w'.ownsRow w.heap.size 3 1 vw s.2.length (Qv1 (s.2.map Prod.snd))
structure ElI (w wr:World) (g m:Nat) (vt vw:Value) (s:List Bool×List (Nat×Int)):Prop where
 grown:w.grownBy wr (some g)
 row:Kf g wr g s.1
 ts:wr.ownsRow w.heap.size 41 1 vt s.2.length (Qkb (s.2.map Prod.fst))
 ws:wr.ownsRow w.heap.size 3 1 vw s.2.length (Qv1 (s.2.map Prod.snd))
 len:s.1.length=m
 apart:∀k,vt.ownBlock=some k->vw.ownBlock≠some k
theorem Qgi {why:List Bool->Nat->Option Int}(k:Nat)(s:List Bool×List (Nat×Int)):Ss why (k+1) s=(bif (Xq why (List.range s.1.length) s).2.length==s.2.length then s else Ss why k (Xq why (List.range s.1.length) s)):=rfl
def Qlo(v:Value):Nat:=match v with| .slice _ n _=>n|_=>0
def Zjv(v:Value):Nat:=match v with| .bool true=>1|_=>0
section
variable {w wr W:World} {b g:Nat} {lg:Int} {base:List (List Nd)} {root:List Bool} {ks:List Kn} {cs:List Cm} {m:Nat} {vt vw:Value} {s:List Bool×List (Nat×Int)} {alive:List Bool}
theorem ElI.next(h:ElI w wr g m vt vw s)(he:Qg wr W):ElI w W g m vt vw s :=
 ⟨⟨he.os.trans h.grown.os,he.tape.trans h.grown.tape,he.output.trans h.grown.output,Qx h.grown.size he.size,fun k hk hn=>(he.block (Qy hk h.grown.size)).trans (h.grown.block k hk hn)⟩,h.row.ext he,Zk h.ts he,Zk h.ws he,h.len,h.apart⟩
theorem ElI.eng(h:ElI w wr g m vt vw s)(hE:Bk w b g lg base root ks cs alive)(hm:alive.length=m):Bk wr b g lg base root ks cs s.1:=by
 refine⟨fun w' h1 h2=> ?_,h.row⟩;rw [h.len,<-hm];exact hE.keep w' (Qx h.grown.size h1) (fun k hk hl=>(h2 k hk (Qy hl h.grown.size)).trans (h.grown.block k hl (fun e=>hk (by injection e))))
theorem ElI.take {w7 w9:World} {c1 c2:Obj} {v7 v9:Value} {t:Nat} {i:Int}(h:ElI w wr g m vt vw s)(hg:g < w.heap.size)
 (h7:w7.ownsRow w.heap.size 41 1 v7 (s.2.length+1) (Qkb (s.2.map Prod.fst)++ [.int .u64 (t:Int)]))(g7:((wr.setCell ⟨g,t,none⟩ (.bool false)).alloc c1).grownBy w7 vt.ownBlock)
 (h9:w9.ownsRow w.heap.size 3 1 v9 (s.2.length+1) (Qv1 (s.2.map Prod.snd)++ [.int .i64 i]))(g9:(w7.alloc c2).grownBy w9 vw.ownBlock)
 (a7:v7.ownBlock=vt.ownBlock\/v7.ownBlock=some ((wr.setCell ⟨g,t,none⟩ (.bool false)).alloc c1).heap.size)(a9:v9.ownBlock=vw.ownBlock\/v9.ownBlock=some (w7.alloc c2).heap.size):
 ElI w w9 g m v7 v9 (s.1.set t false,s.2++ [(t,i)]):=by
 have N4:∀k,vt.ownBlock=some k->w.heap.size<=k:=fun k hk=>(h.ts.lt k hk).1
 have RN:∀k,vw.ownBlock=some k->w.heap.size<=k:=fun k hk=>(h.ws.lt k hk).1
 have hs:=(h.row.set t false).2;have s1:(wr.setCell ⟨g,t,none⟩ (.bool false)).heap.size=wr.heap.size:=by simp [World.setCell]
 have s2:((wr.setCell ⟨g,t,none⟩ (.bool false)).alloc c1).heap.size=wr.heap.size+1:=by simp [s1]
 have s7:=g7.size;rw [s2]at s7;have s8:(w7.alloc c2).heap.size=w7.heap.size+1:=by simp
 have s9:=g9.size;rw [s8]at s9;have jM:=h.row.lt.2;have blk:∀k,k < wr.heap.size->k≠g->vt.ownBlock≠some k->vw.ownBlock≠some k->w9.heap[k]?=wr.heap[k]?:=fun k hk RT hkt Q3=>by
  rw [g9.block k (by omega) (fun e=>Q3 e.symm),((Qg.refl w7).alloc c2).block (by omega),g7.block k (by omega) (fun e=>hkt e.symm),((Qg.refl (wr.setCell ⟨g,t,none⟩ (.bool false))).alloc c1).block (by omega)];exact Below.heap_setCell _ _ _ _ RT
 have blkg:w9.heap[g]?=(wr.setCell ⟨g,t,none⟩ (.bool false)).heap[g]?:=by
  rw [g9.block g (by omega) (fun e=>by have:=RN g e.symm;omega),((Qg.refl w7).alloc c2).block (by omega),g7.block g (by omega) (fun e=>by have:=N4 g e.symm;omega),((Qg.refl (wr.setCell ⟨g,t,none⟩ (.bool false))).alloc c1).block (by omega)]
 have SX:vw.ownBlock≠v7.ownBlock\/vw.ownBlock=none:=by
  cases hv:vw.ownBlock with
  |none=>exact .inr rfl
  |some k =>
   refine .inl fun e=> ?_
   rcases a7 with e1|e1
   ·exact h.apart k (e1▸e.symm) hv
   rw [e1,s2]at e;injection e with e;have:=(h.ws.lt k hv).2;omega
 have V2:w9.ownsRow w.heap.size 41 1 v7 (s.2.length+1) (Qkb (s.2.map Prod.fst)++ [.int .u64 (t:Int)]):=Zm h7 fun k hk=>by
  rw [g9.block k (by have:=(h7.lt k hk).2;omega) (fun e=>by
   rcases SX with e1|e1
   ·exact e1 (e.symm.trans hk.symm)
   rw [e1]at e;cases e)]
  exact((Qg.refl w7).alloc c2).block (h7.lt k hk).2
 refine⟨⟨?_,?_,?_,by have:=h.grown.size;omega,fun k hk hn=> ?_⟩,?_,?_,?_,by rw [List.length_set];exact h.len,fun k hk wW=> ?_⟩
 ·exact(g9.os.trans (g7.os.trans hs.os)).trans h.grown.os
 ·exact(g9.tape.trans (g7.tape.trans hs.tape)).trans h.grown.tape
 ·exact(g9.output.trans (g7.output.trans hs.output)).trans h.grown.output
 ·rw [blk k (Qy hk h.grown.size) (fun e=>hn (by rw [e])) (fun e=>by have:=N4 k e;omega) (fun e=>by have:=RN k e;omega)];exact h.grown.block k hk hn
 ·exact Zm (h.row.set t false).1 fun k hk=>by
   have:k=g:=by injection hk with hk;exact hk.symm
   subst this;exact blkg
 ·rw [List.length_append,List.length_singleton,List.map_append];unfold Qkb at V2⊢;rw [List.map_append];exact V2
 ·rw [List.length_append,List.length_singleton,List.map_append];unfold Qv1 at h9⊢;rw [List.map_append];exact h9
 rcases a9 with e1|e1
 ·rw [e1]at wW;rcases SX with e2|e2
  ·exact e2 (wW.trans hk.symm)
  rw [e2]at wW;cases wW
 rw [e1,s8]at wW;injection wW with wW;have:=(h7.lt k hk).2;omega
end
theorem Qbz(b g:Nat)(lg:Int)(base:List (List Nd))(root:List Bool)(ks:List Kn)(cs:List Cm)(alive:List Bool)(w:World)
 (hE:Bk w b g lg base root ks cs alive)(yA:0<=lg/\lg<=6)(hm:alive.length<=4096)(hb:base.length<=12)(rG:∀k∈ks,k.place < 64/\alive.length<=k.holds.length)(oU:∀c∈cs,c.place < 64/\c.x.length=alive.length/\c.y.length=alive.length/\0<=c.group/\c.group < 16):
 Calls Tryz.prog 60 #[.pointer (some ⟨b,0,none⟩)] w (Qos w b g lg base root ks cs (Qk1 lg ks cs base.length alive)):=by
 have HE:=Qq hE;have tG:=Qq rG;have lR:=Qq oU;have xP:=hE.row.lt.2;obtain⟨iU,sR,xG,xF,xE⟩:=info_parts Zj4;obtain⟨iI,pO,vO,vN,vM⟩:=info_parts Qjc;obtain⟨La,xB⟩:∃f,f=Qk1 lg ks cs base.length alive:=⟨_,rfl⟩;have vT:=Qq xB;obtain⟨why,LK⟩:∃f,f=Tc lg ks cs base.length:=⟨_,rfl⟩;have VP:=Qq LK;obtain⟨m,rD⟩:∃m,m=alive.length:=⟨_,rfl⟩;have tP:=Qq rD;rw [<-xB];rw [<-rD]at hm;have gW:=Qq (show ElI w w g m (.slice none 0 0) (.slice none 0 0) (alive,[])from⟨World.grownBy.refl _ _,hE.row,World.ownsRow_nil _ _ _ _,World.ownsRow_nil _ _ _ _,rD.symm,fun k hk=>by cases hk⟩)
 clear hE rG oU xB LK rD;go_enter Tryz.func60,Tryz.ntmps60;go_wp2_with fail;go_loopw [2,3,4] (fun vt vw vc wr=>∃(fl:Bool) (n:Nat),vc=.bool fl/\n<=m/\Qlo vt=n/\Hid (∃s,ElI w wr g m vt vw s/\s.2.length=n/\Ps s.1+s.2.length<=m/\(fl=true->∃k,Ps s.1 < k/\Ss why k s=La)/\(fl=false->s=La))) (fun vt _ vc _=>2*(m - Qlo vt)+Zjv vc)
 case atStart=>exact⟨true,0,rfl,Nat.zero_le _,rfl,Qq ⟨(alive,[]),gW.out,rfl,by show Ps alive+0<=m;rw [tP.out];exact Qk0 alive,(fun _=>⟨alive.length+1,by show Ps alive < _;have:=Qk0 alive;omega,by rw [vT.out,VP.out];rfl⟩),(fun e=>by cases e)⟩⟩
 case round =>
  clear gW;obtain⟨fl,n,rfl,hn,UC,zY⟩:=hrel;obtain⟨s,hs,N9,hcnt,NO,oI⟩:=zY.out;have HS:=Qq hs;have mF:=Qq N9;have WW:=Qq NO;have IT:=Qq oI;obtain⟨At,ct,rfl⟩:=Qs hs.ts;obtain⟨Aw,cw,rfl⟩:=Qs hs.ws;clear zY hs N9 NO oI;cases fl
  ·go_wp2_with fail;go_ret2;have e:=IT.out (by trivial);exact⟨_,_,rfl,HS.out.grown,by rw [<-e];exact HS.out.eng HE.out tP.out.symm,by rw [<-e];exact HS.out.ts,by rw [<-e];exact HS.out.ws⟩
  obtain⟨_,_,_,_,x0,x1,x2,x5,xl⟩:=(HS.out.eng HE.out tP.out.symm).cells;rw [HS.out.len]at x5;go_wp2_with fail;go_step3;go_wp2_with fail;go_step3;go_wp2_with fail;clear x0 x1 x2 x5 xl;go_loopw [2,3,4,14] (fun vt vw vc vi wr=>∃t:Nat,vi=.int .i64 (t:Int)/\t<=m/\∃(fl:Bool) (n2:Nat),vc=.bool fl/\n2<=m/\n<=n2/\Qlo vt=n2/\(fl=true↔n < n2)/\Hid (ElI w wr g m vt vw (Xq why (List.range t) s)/\(Xq why (List.range t) s).2.length=n2)) (fun _ _ _ vi _=>m - (intOf vi).toNat)
  case atStart=>exact⟨0,rfl,Nat.zero_le _,false,n,rfl,hn,Nat.le_refl _,by exact mF.out,(by simp),Qq ⟨HS.out,mF.out⟩⟩
  case round =>
   obtain⟨t,rfl,ht,fl,n2,rfl,ZZ,uN,UB,iH,zY⟩:=hrel;obtain⟨yD,LQ⟩:=zY.out;have wP:=Qq yD;have pT:=Qq LQ;obtain⟨s2,TG⟩:∃x,x=Xq why (List.range t) s:=⟨_,rfl⟩;have mX:=Qq TG;rw [<-TG]at wP pT yD;obtain⟨At2,ct2,rfl⟩:=Qs yD.ts;obtain⟨Aw2,cw2,rfl⟩:=Qs yD.ws;have QL:=Qq iH;clear zY yD LQ TG iH;by_cases hlt2:t < m
   ·have yT:(t:Int) < (m:Int):=by omega
    have tD:g < wr.heap.size:=Qy xP wP.out.grown.size;have gfr:=wP.out.row.frozen t;obtain⟨at_,yL⟩:∃x,x=s2.1.getD t false:=⟨_,rfl⟩;have gc:wr.cell? ⟨g,t,none⟩=some (.bool at_):=wP.out.row.cell (by rw [yL,Qk,List.getElem?_eq_getElem (by rw [wP.out.len];exact hlt2)];rfl);have kE:=Qq yL;have zE:=Qq (show Xq why (List.range (t+1)) s=Uz why s2 t by rw [Qhv,<-mX.out]);clear yL;obtain⟨_,cb,_,_,x0,x1,x2,x5,xl⟩:=(wP.out.eng HE.out tP.out.symm).cells;rw [wP.out.len]at x5;go_wp2_with fail;cases at_
    ·have yY:=Qq (show Uz why s2 t=s2 by unfold Uz;rw [<-kE.out];rfl);go_loopw [2,3,4,7] (fun v2 v3 v4 vi wr2=>v2=.slice At2 s2.2.length ct2/\v3=.slice Aw2 s2.2.length cw2/\v4=.bool fl/\vi=.int .i64 (-4)/\wr2=wr) (fun _ _ _ _ _=>0)
     case atStart=>exact⟨rfl,rfl,rfl,rfl,rfl⟩
     case round =>
      obtain⟨rfl,rfl,rfl,rfl,rfl⟩:=hrel;go_wp2_with fail;go_roundw
      case rel=>exact⟨t+1,by go_num,by omega,fl,n2,rfl,ZZ,uN,UB,QL.out,Qq (by rw [zE.out,yY.out];exact⟨wP.out,pT.out⟩)⟩
      case measure=>simp [intOf];omega
    obtain⟨wq,vE⟩:∃v,v=wr:=⟨_,rfl⟩;subst vE;clear x0 x1 x2 x5;go_loopw [2,3,4,7] (fun v2 v3 v4 vi wr2=>v2=.slice At2 s2.2.length ct2/\v3=.slice Aw2 s2.2.length cw2/\v4=.bool fl/\∃z:Int,vi=.int .i64 z/\ -4<=z/\z<=(base.length:Int)/\Hid (Qg wq wr2/\∀j:Int,-4<=j->j < z->Vx lg ks cs s2.1 t j=false)) (fun _ _ _ vi _=>((base.length:Int) - intOf vi).toNat)
    case atStart=>exact⟨rfl,rfl,rfl,-4,rfl,by omega,by omega,Qq ⟨Qz,fun j h1 h2=>by omega⟩⟩
    case round =>
     obtain⟨rfl,rfl,rfl,z,rfl,wZ,oA,zY⟩:=hrel;have HX:=Qq zY.out.1;have HJ:=Qq zY.out.2;clear zY;have rM:=Qq (wP.out.next HX.out);have AD:=Qq (rM.out.eng HE.out tP.out.symm);obtain⟨_,cb2,_,_,x0,x1,x2,x5,xl2⟩:=AD.out.cells;rw [wP.out.len]at x5;by_cases hzl:z < (base.length:Int)
     ·have WR:=Qq (Qck b lg base root ks cs s2.1 t z wr AD.out.eng yA (by rw [wP.out.len];exact hlt2) (by rw [wP.out.len];exact hm) ⟨by omega,by omega⟩ (by rw [wP.out.len,tP.out];exact tG.out) (by rw [wP.out.len,tP.out];exact lR.out));obtain⟨lk,cC⟩:∃x,x=Vx lg ks cs s2.1 t z:=⟨_,rfl⟩;have PX:=Qq cC;rw [<-cC]at WR;clear cC;go_wp2_with fail;refine WR.out.mono ?_;rintro e w3 ⟨rfl,zF⟩;have zD:=Qq (HX.out.trans zF);have fJ:=Qq (rM.out.next zF);clear zF x0 x1 x2 x5;obtain⟨_,cb3,_,_,y0,y1,y2,y5,yl⟩:=(fJ.out.eng HE.out tP.out.symm).cells;rw [wP.out.len]at y5;have aC:g < w3.heap.size:=Qy xP fJ.out.grown.size
      have gfr3:=fJ.out.row.frozen t;have gc3:w3.cell? ⟨g,t,none⟩=some (.bool true):=fJ.out.row.cell (by rw [kE.out,Qk,List.getElem?_eq_getElem (by rw [wP.out.len];exact hlt2)];rfl);cases lk
      ·go_wp2_with fail;go_roundw
       case rel=>exact⟨by first|rfl|trivial,by first|rfl|trivial,by first|rfl|trivial,z+1,rfl,by omega,by omega,Qq ⟨zD.out,fun j h1 h2=>by
        by_cases e:j < z
        ·exact HJ.out j h1 e
        have:j=z:=by omega
        subst this;exact PX.out.symm⟩⟩
       case measure=>simp [intOf];omega
      have H6:=Qq (show why s2.1 t=some z by rw [VP.out];exact Zzs wZ hzl PX.out.symm HJ.out);have yY:=Qq (show Uz why s2 t=(s2.1.set t false,s2.2++ [(t,z)]) by
       unfold Uz;rw [<-kE.out,H6.out]
       rfl)
      have ZY:s2.2.length+1<=m:=by
       have h1:=Qnp (why:=why) s2 t;rw [yY.out]at h1;have h2:=Ey (why:=why) (List.range t) s;rw [<-mX.out]at h2;simp only [List.length_append,List.length_singleton]at h1;omega
      have xS:s2.2.length+1<=maxLen:=by unfold maxLen;omega
      have xR:(s2.2.length+1)*8<=140737488355328:=by omega
      have lX:(w3.setCell ⟨g,t,none⟩ (.bool false)).heap.size=w3.heap.size:=by simp [World.setCell]
      have WE:=Qq (show(w3.setCell ⟨g,t,none⟩ (.bool false)).ownsRow w.heap.size 41 1 (.slice At2 s2.2.length ct2) s2.2.length (Qkb (s2.2.map Prod.fst))from ownsRow_setCell_other (a:=⟨g,t,none⟩) fJ.out.ts (fun e=>by have:=(fJ.out.ts.lt g e).1;omega) _);have tE:=Qq (show(w3.setCell ⟨g,t,none⟩ (.bool false)).ownsRow w.heap.size 3 1 (.slice Aw2 s2.2.length cw2) s2.2.length (Qv1 (s2.2.map Prod.snd))from ownsRow_setCell_other (a:=⟨g,t,none⟩) fJ.out.ws (fun e=>by have:=(fJ.out.ws.lt g e).1;omega) _);have hws3:w.heap.size<=w3.heap.size:=fJ.out.grown.size;have hgl4:=aC;go_upto_region 12 with(fail)
      go_wp2_with(at_builtin;refine wpList_append_own_at _ rfl _ _ 23 rfl w.heap.size 41 iU (.int .u64 0) 1 8 Tryz.underlying23 sR xG xF xE rfl (by decide) _ s2.2.length (Qkb (s2.2.map Prod.fst)) rfl (Zk WE.out (Qz.alloc _)) ⟨_,0,none⟩ 1 1 [.int .u64 (t:Int)] rfl rfl (Zt _ _ _ (by simp)) (fun u hu=>by rw [List.mem_singleton.1 hu];rfl) xS xR (by simp [World.setCell];omega) ?_);intro v7 w7 zW zX _ zH;have L5:=Qq zX;have J4:=Qq zW;have GC:=Qq (show w7.ownsRow w.heap.size 3 1 (.slice Aw2 s2.2.length cw2) s2.2.length (Qv1 (s2.2.map Prod.snd))from Zm tE.out fun k hk=>by
       rw [zX.block k (by have:=(tE.out.lt k hk).2;simp;omega) (fun e=>fJ.out.apart k e.symm hk)];exact(Qz.alloc _).block (tE.out.lt k hk).2)
      have V1:=zX.size;obtain⟨A7,c7,rfl⟩:=Qs zW;have lU:=Qq zH;clear zW zX zH;have E9:w.heap.size<=w7.heap.size:=by simp [World.setCell]at V1;omega
      clear V1;go_wp2_with(at_builtin;refine wpList_append_own_at _ rfl _ _ 36 rfl w.heap.size 3 iI (.int .i64 0) 1 8 Tryz.underlying36 pO vO vN vM rfl (by decide) _ s2.2.length (Qv1 (s2.2.map Prod.snd)) rfl (Zk GC.out (Qz.alloc _)) ⟨_,0,none⟩ 1 1 [.int .i64 z] rfl rfl (Zt _ _ _ (by simp)) (fun u hu=>by rw [List.mem_singleton.1 hu];rfl) xS xR (by simp;omega) ?_);intro v9 w9 qJ qN _ aJ;have HT:=Qq (fJ.out.take xP J4.out L5.out qJ qN (lU.out.imp_right fun h=>by rw [h];simp [World.setCell]) (aJ.imp_right fun h=>by rw [h];simp));obtain⟨A9,c9,rfl⟩:=Qs qJ
      clear qJ qN aJ;go_wp2_with fail;go_roundw
      case rel=>exact⟨t+1,by go_num,by omega,true,s2.2.length+1,rfl,ZY,by have:=pT.out;omega,rfl,⟨fun _=>by have:=pT.out;omega,fun _=>rfl⟩,Qq (by rw [zE.out,yY.out];exact⟨HT.out,by simp⟩)⟩
      case measure=>simp [intOf];omega
     obtain rfl:(base.length:Int)=z:=by omega
     have yY:=Qq (show Uz why s2 t=s2 by
      unfold Uz;rw [<-kE.out,VP.out,Qw5 (fun j h1 h2=>HJ.out j h1 h2)]
      rfl)
     go_wp2_with fail;go_roundw
     case rel=>exact⟨t+1,by go_num,by omega,fl,n2,rfl,ZZ,uN,UB,QL.out,Qq (by rw [zE.out,yY.out];exact⟨rM.out,pT.out⟩)⟩
     case measure=>simp [intOf];omega
   obtain rfl:m=t:=by omega
   go_wp2_with fail;simp only [Exit.noGoto_normal];have fD:=Qq (Qjf (why:=why) (List.range m) s);have AE:=Qq (Ey (why:=why) (List.range m) s);have DY:Ps s2.1+s2.2.length<=m:=by rw [mX.out];have:=AE.out.1;omega
   go_roundw
   case rel =>
    iterate 50 apply Exists.intro
    refine⟨?_,rfl⟩;refine⟨fl,n2,rfl,ZZ,UB,Qq ⟨s2,wP.out,pT.out,DY,fun iH=> ?_,fun iH=> ?_⟩⟩
    ·obtain⟨k,hk,he⟩:=WW.out (by trivial);have yQ:=QL.out.1 iH;cases k with
     |zero=>omega
     |succ k =>
      refine⟨k,?_,?_⟩
      ·have h1:=AE.out.1;rw [<-mX.out]at h1;have h3:=pT.out;have h4:=mF.out;omega
      rw [<-he];rw [Qgi];rw [HS.out.len,<-mX.out];have:(s2.2.length==s.2.length)=false:=by
       rw [beq_eq_false_iff_ne];have h3:=pT.out;have h4:=mF.out;omega
      rw [this];rfl
    obtain⟨k,hk,he⟩:=WW.out (by trivial);have RX:¬n < n2:=fun h=>by rw [QL.out.2 h]at iH;cases iH
    have h3:=pT.out;have h4:=mF.out;have h5:=(fD.out (by rw [<-mX.out];omega)).1;rw [<-mX.out]at h5;rw [h5];cases k with
    |zero=>omega
    |succ k =>
     rw [<-he];rw [Qgi];rw [HS.out.len,<-mX.out];have:(s2.2.length==s.2.length)=true:=by
      rw [beq_iff_eq];omega
     rw [this];rfl
   case measure =>
    have h3:=QL.out;have h4:=pT.out;have h5:=mF.out;cases fl
    ·show 2*(m - s2.2.length)+0 < 2*(m - s.2.length)+1;have:¬n < n2:=fun h=>by have:=h3.2 h;cases this
     omega
    show 2*(m - s2.2.length)+1 < 2*(m - s.2.length)+1;have:=h3.1 rfl;omega
def Elm(w:World)(v:Value)(lg:Int)(ts:List Nat)(ws:List Int):Prop:=∃vt vw,v=.agg #[.int .i64 lg,vt,vw]/\Jb w vt ts/\Db w vw ws
theorem Elm.ext {w w':World} {v:Value} {lg:Int} {ts:List Nat} {ws:List Int}(h:Elm w v lg ts ws)(he:Qg w w'):Elm w' v lg ts ws:=by
 obtain⟨vt,vw,e,h1,h2⟩:=h;exact⟨vt,vw,e,h1.ext he,h2.ext he⟩
structure Zza (lg:Int) (f:List Nd):Prop where
 lgr:0<=lg/\lg<=6
 len:(Qm f).1.length<=12
 al:(Kp lg (Qm f).1).length=2^(Qm f).1.length
 le:(Kp lg (Qm f).1).length<=4096
 root:(Ry f).length=2^(Qm f).1.length
 ks:∀k∈Zr (Qm f).1,k.place < 64/\k.holds.length=2^(Qm f).1.length
 cs:∀c∈Jt (Qm f).1,c.place < 64/\c.x.length=2^(Qm f).1.length/\c.y.length=2^(Qm f).1.length/\0<=c.group/\c.group < 16
theorem Qib {lg:Int} {f:List Nd}(h:Bl lg f):Zza lg f:=by
 have hl:=h.b.len;refine⟨⟨h.l0,h.l6⟩,hl,Te _ _,by rw [Te];exact Qbr hl,Xr _ _,fun k hk=> ?_,fun c hc=> ?_⟩
 ·have:=Qst hk;exact⟨by omega,this.2⟩
 obtain⟨i,hi,hk⟩:=List.mem_flatMap.1 hc;have hi:=List.mem_range.1 hi;unfold Mv at hk;cases ho:(Qw ((Qm f).1.getD i [])).op==13
 ·rw [ho]at hk;cases hk
 rw [ho]at hk;rw [List.mem_singleton.1 hk];have hg:(Qm f).1[i]?=some ((Qm f).1.getD i []):=by rw [Qk,Qv hi];rfl
 obtain⟨t,ht,hc,_⟩:=h.b.can _ (List.mem_of_getElem? hg);obtain⟨gn,e,zI⟩:=Qg4 ht (by rw [<-hc];simpa using ho);rw [<-hc]at e;exact⟨by show i < 64;omega,Xr _ _,Xr _ _,by show 0<=(Qw _).g/\(Qw _).g < 16;rw [e];omega⟩
theorem Vw {P:Program} {fn:Func} {t u:Tmp} {ty:TypeId}(h:fn.results=#[.cell t ty,.tmp u])(tmps:Array Value)(w:World) {b o:Nat}(ht:tmps.getD t undef=.pointer (some ⟨b,o,none⟩)) {cs:List Value} {d:TypeDesc}(hc:w.rangeAt b o cs)
 (hu:P.underlying ty=some d)(hd:d.isRow=true)(hi:(P.info? ty).map (·.size)=some cs.length):(results fn tmps).run P w=.ok (.tuple #[.agg cs.toArray,tmps.getD u undef]) w:=by
 have kS:tmps[t]?.getD undef=.pointer (some ⟨b,o,none⟩):=by rw [<-Array.getD_eq_getD_getElem?];exact ht
 simp [results,h,kS,asAddr,run_loadVar_mid w b o ty cs d hc hu hd hi]
theorem Zp {w:World} {b:Nat} {a0 a1 a2:Value} {t:TypeId}(h:w.heap[b]?=some (.cells #[a0,a1,a2] t (0,0))):
 (w.cell? ⟨b,0,none⟩=some a0/\w.cell? ⟨b,1,none⟩=some a1/\w.cell? ⟨b,2,none⟩=some a2)/\(w.frozen? ⟨b,0,none⟩=false/\w.frozen? ⟨b,1,none⟩=false/\w.frozen? ⟨b,2,none⟩=false)/\b < w.heap.size :=
 ⟨⟨by simp [World.cell?,h],by simp [World.cell?,h],by simp [World.cell?,h]⟩,⟨by simp [World.frozen?,h],by simp [World.frozen?,h],by simp [World.frozen?,h]⟩,Qn h⟩
theorem Vq {w:World} {b:Nat} {a0 a1 a2:Value} {t:TypeId}(h:w.heap[b]?=some (.cells #[a0,a1,a2] t (0,0)))(v0 v1 v2:Value):
 (((w.setCell ⟨b,0,none⟩ v0).setCell ⟨b,1,none⟩ v1).setCell ⟨b,2,none⟩ v2).heap[b]?=some (.cells #[v0,v1,v2] t (0,0)):=by
 simp only [World.setCell,Array.getElem?_modify,h,if_true,Option.map_some];simp
theorem Yl {w w':World} {b:Nat}(h:Qg w w')(hb:w.heap.size<=b)(v0 v1 v2:Value):Qg w (((w'.setCell ⟨b,0,none⟩ v0).setCell ⟨b,1,none⟩ v1).setCell ⟨b,2,none⟩ v2):=
 ((h.setCell (p:=⟨b,0,none⟩) hb v0).setCell (p:=⟨b,1,none⟩) hb v1).setCell (p:=⟨b,2,none⟩) hb v2
theorem Xn {w:World} {b k:Nat}(h:k≠b)(v0 v1 v2:Value):(((w.setCell ⟨b,0,none⟩ v0).setCell ⟨b,1,none⟩ v1).setCell ⟨b,2,none⟩ v2).heap[k]?=w.heap[k]?:=by
 rw [Below.heap_setCell _ _ _ _ h,Below.heap_setCell _ _ _ _ h,Below.heap_setCell _ _ _ _ h]
def spm(lo mb:Nat)(vr:Value)(k:Nat):Prop:=k < lo\/k=mb\/vr.ownBlock=some k
structure Rk (w5 wr:World) (mb vb n facts:Nat) (vals:List Nat) (vr:Value) (rows:List (List Nat)):Prop where
 ext:Qg w5 wr
 lo:w5.heap.size<=mb/\mb≠vb
 cell:wr.heap[mb]?=some (.cells #[.int .i64 (n:Int),.slice (some ⟨vb,0,none⟩) facts facts,vr] 26 (0,0))
 row:Zv w5.heap.size wr (.slice (some ⟨vb,0,none⟩) facts facts) vals
 len:vals.length=facts
 rel:∃us:List Value,us.length=rows.length/\wr.ownsRow w5.heap.size 23 1 vr us.length us/\∀(k:Nat) u r,us[k]?=some u->rows[k]?=some r->Kr (spm w5.heap.size mb vr) wr (fun w'=>Jb w' u r)
 dr:vr.ownBlock≠some mb/\vr.ownBlock≠some vb
section
variable {w5 wr W:World} {mb vb n facts:Nat} {vals:List Nat} {vr:Value} {rows:List (List Nat)}
theorem Rk.next(h:Rk w5 wr mb vb n facts vals vr rows)(he:Qg wr W):Rk w5 W mb vb n facts vals vr rows:=by
 obtain⟨us,e,h1,h2⟩:=h.rel;exact⟨h.ext.trans he,h.lo,(he.block (Qn h.cell)).trans h.cell,h.row.ext he,h.len,⟨us,e,Zk h1 he,fun k u r hu hr=>(h2 k u r hu hr).next (Yk.of_ext he) fun _ _ h=>h⟩,h.dr⟩
theorem Rk.mlt(h:Rk w5 wr mb vb n facts vals vr rows):mb < wr.heap.size:=Qn h.cell
theorem Rk.cells(h:Rk w5 wr mb vb n facts vals vr rows):(wr.cell? ⟨mb,0,none⟩=some (.int .i64 (n:Int))/\wr.cell? ⟨mb,1,none⟩=some (.slice (some ⟨vb,0,none⟩) facts facts)/\wr.cell? ⟨mb,2,none⟩=some vr)/\(wr.frozen? ⟨mb,0,none⟩=false/\wr.frozen? ⟨mb,1,none⟩=false/\wr.frozen? ⟨mb,2,none⟩=false)/\mb < wr.heap.size :=
 Zp h.cell
theorem Rk.setVal(h:Rk w5 wr mb vb n facts vals (.slice none 0 0) [])(p s:Nat):Rk w5 (wr.setCell ⟨vb,p,none⟩ (.int .u64 (s:Int))) mb vb n facts (vals.set p s) (.slice none 0 0) []:=by
 have LM:w5.heap.size<=vb:=(h.row.lt vb rfl).1;refine⟨h.ext.setCell (p:=⟨vb,p,none⟩) LM _,h.lo,(Below.heap_setCell _ _ _ _ h.lo.2).trans h.cell,h.row.set h.len p s,by rw [List.length_set];exact h.len,⟨[],rfl,World.ownsRow_nil _ _ _ _,fun k u r hu _=>by simp at hu⟩,h.dr⟩
theorem Rk.push {wa w7 W6:World} {v7:Value} {u:Value} {r:List Nat} {us:List Value}(h:Rk w5 wa mb vb n facts vals vr rows)(e:us.length=rows.length)(xW:wa.ownsRow w5.heap.size 23 1 vr us.length us)(aN:∀(k:Nat) u r,us[k]?=some u->rows[k]?=some r->Kr (spm w5.heap.size mb vr) wa (fun w'=>Jb w' u r))(hx:Qg wa wr)(hu:Zv wa.heap.size wr u r)(uX:Qg wr W6)
 (ho:w7.ownsRow w5.heap.size 23 1 v7 (us.length+1) (us++ [u]))(uD:W6.grownBy w7 vr.ownBlock)(eQ:v7.ownBlock=vr.ownBlock\/v7.ownBlock=some W6.heap.size):
 Rk w5 (w7.setCell ⟨mb,2,none⟩ v7) mb vb n facts vals v7 (rows++ [r]):=by
 have h6:=h.next (hx.trans uX);have h1:=Zk xW (hx.trans uX);have h2:=fun k u r hu hr=>(aN k u r hu hr).next (X':=spm w5.heap.size mb vr) (Yk.of_ext (hx.trans uX)) fun _ _ h=>h
 have qG:=fun k hk=>(h1.lt k hk)
 have qL:=h6.mlt;have LM:=h6.row.lt vb rfl;have s7:=uD.size;have kO:Qg w5 w7:=h6.ext.grown uD (fun k hk=>(qG k hk).1);have xA:∀k,k≠mb->(w7.setCell ⟨mb,2,none⟩ v7).heap[k]?=w7.heap[k]?:=fun k e=>Below.heap_setCell _ _ _ _ e
 have TY:w7.heap[mb]?=some (.cells #[.int .i64 (n:Int),.slice (some ⟨vb,0,none⟩) facts facts,vr] 26 (0,0)):=(uD.block mb qL (fun e=>h.dr.1 e.symm)).trans h6.cell;have T0:v7.ownBlock≠some mb/\v7.ownBlock≠some vb:=by
  rcases eQ with e|e
  ·rw [e];exact h.dr
  rw [e];exact⟨fun e=>by injection e with e;omega,fun e=>by injection e with e;omega⟩
 have dH:(w7.setCell ⟨mb,2,none⟩ v7).heap.size=w7.heap.size:=by simp [World.setCell]
 have dJ:Yk (spm w5.heap.size mb vr) W6 (w7.setCell ⟨mb,2,none⟩ v7):=⟨by omega,fun k hk hl=>by
  rw [xA k (fun e=>hk (.inr (.inl e))),uD.block k hl (fun e=>hk (.inr (.inr e.symm)))]⟩
 have TE:∀k,k < W6.heap.size->spm w5.heap.size mb v7 k->spm w5.heap.size mb vr k:=fun k hk hs=>by
  rcases hs with e|e|e
  ·exact .inl e
  ·exact .inr (.inl e)
  rcases eQ with e2|e2
  ·exact .inr (.inr (e2▸e))
  rw [e2]at e;injection e with e;omega
 refine⟨kO.setCell (p:=⟨mb,2,none⟩) h.lo.1 _,h.lo,?_,?_,h.len,⟨us++ [u],by simp [e],?_,fun k x y hx hy=> ?_⟩,T0⟩
 ·simp only [World.setCell,Array.getElem?_modify,TY,if_true,Option.map_some];simp
 ·exact Zm h6.row fun k hk=>by
   have e:k=vb:=by injection hk with hk;exact hk.symm
   subst e;rw [xA k (fun e=>h.lo.2 e.symm),uD.block k LM.2 (fun e=>h.dr.2 e.symm)]
 ·rw [List.length_append,List.length_singleton];exact Zm ho fun k hk=>xA k (fun e=>T0.1 (e▸hk))
 by_cases hk:k < us.length
 ·rw [List.getElem?_append_left hk]at hx;rw [List.getElem?_append_left (by omega)]at hy;exact(h2 k x y hx hy).next dJ TE
 have xD:=(List.getElem?_eq_some_iff.1 hx).1;rw [List.length_append,List.length_singleton]at xD;have ek:k=us.length:=by omega
 subst ek;rw [List.getElem?_append_right (Nat.le_refl _),Nat.sub_self]at hx;rw [e,List.getElem?_append_right (Nat.le_refl _),Nat.sub_self]at hy;obtain rfl:u=x:=by simpa using hx
 obtain rfl:r=y:=by simpa using hy
 intro w' BG;have ZU:=fun g hg=>(hu.lt g hg)
 have lX:=h.mlt;have RN:=h.row.lt vb rfl;have:Zv wa.heap.size w' u r:=Zm hu fun g hg=>by
  have vK:=ZU g hg;have R6:g≠mb:=by omega
  have hgv:∀o,v7.ownBlock=some o->g≠o:=fun o iA e=>by
   subst e;rcases eQ with e2|e2
   ·rw [e2]at iA;obtain⟨us0,_,xW,_⟩:=h.rel;have:=(xW.lt _ iA).2;omega
   rw [e2]at iA;injection iA with iA;have:=uX.size;omega
  have DO:vr.ownBlock≠some g:=fun e=>by
   have:=(xW.lt _ e).2;omega
  have hl6:=uX.size;have LP:¬spm w5.heap.size mb v7 g:=fun hs=>by
   rcases hs with e|e|e
   ·have:=h.ext.size;omega
   ·exact R6 e
   exact hgv g e rfl
  rw [BG.2 g LP (by omega),xA g R6,uD.block g (by omega) (fun e=>DO e.symm),uX.block vK.2]
 exact this.u64s
theorem Rk.mdv {w':World}(h:Rk w5 wr mb vb n facts vals vr rows)(hs:Yk (fun k=>k < w5.heap.size) wr w'):Yz w' (.agg #[.int .i64 (n:Int),.slice (some ⟨vb,0,none⟩) facts facts,vr]) ⟨n,vals,rows⟩:=by
 have LM:=h.row.lt vb rfl;have zR:Zv w5.heap.size w' (.slice (some ⟨vb,0,none⟩) facts facts) vals:=Zm h.row fun k hk=>by
  have e:k=vb:=by injection hk with hk;exact hk.symm
  subst e;exact hs.2 k (by omega) LM.2
 refine⟨_,_,rfl,zR.u64s,?_⟩;obtain⟨us,e,xW,h2⟩:=h.rel;have h1:=Zm (w':=w') xW fun k hk=>hs.2 k (by have:=(xW.lt k hk).1;omega) (xW.lt k hk).2
 have tB:Yk (spm w5.heap.size mb vr) wr w':=⟨hs.1,fun k hk hl=>hs.2 k (fun e=>hk (.inl e)) hl⟩;rcases h1.2 with⟨ev,e0⟩|⟨g,cap,cur,ev,hb,hg,iE,hm,XW,ht⟩
 ·subst ev;have:rows= []:=List.length_eq_zero_iff.1 (by omega);subst this;exact⟨none,0,rfl,Nat.le_refl _,by unfold maxLen;omega,fun h=>absurd rfl h⟩
 subst ev;refine⟨_,cap,by rw [e],by show rows.length<=cap;omega,hm,fun _=>⟨_,rfl,Qn hg,fun k s hk=> ?_⟩⟩;have xD:k < rows.length:=(List.getElem?_eq_some_iff.1 hk).1;obtain⟨u,hu⟩:∃u,us[k]?=some u:=⟨_,List.getElem?_eq_getElem (by omega)⟩;refine⟨u,?_,h2 k u s hu hk w' tB⟩;rw [Ir];have h3:=hu;rw [<-ht,List.getElem?_take]at h3
 split at h3
 ·have h4:cur[k]?=some u:=by simpa using h3
  simp [World.cell?,hg,h4]
 cases h3
end
def Tp(g:Nd->Nat)(l:List Nd):Nat:=l.foldl (fun m n=>m|||g n) 0
theorem Qh4(g:Nd->Nat)(l:List Nd)(n:Nd):Tp g (l++ [n])=Tp g l|||g n:=by simp [Tp,List.foldl_append]
theorem Zq8 {g:Nd->Nat} :∀(l:List Nd),(∀n∈l,g n < 512)->Tp g l < 512:=by
 have:∀(l:List Nd) (m:Nat),(∀n∈l,g n < 512)->m < 512->l.foldl (fun m n=>m|||g n) m < 512:=by
  intro l
  induction l with
  |nil=>intro m _ h;exact h
  |cons a r ih =>
   intro m hl h;exact ih _ (fun n hn=>hl n (List.mem_cons_of_mem _ hn)) (Nat.or_lt_two_pow (n:=9) h (hl a (List.mem_cons_self ..)))
 exact fun l hl=>this l 0 hl (by omega)
def agU(n:Nd):Nat:=if Zx n.op then 2^n.i.toNat else n.g.toNat
def faU(n:Nd):Nat:=if Zw n.op then 2^n.i.toNat else 0
theorem Qf6 {n:Nd}(h:Za n)(ha:Zx n.op=true):n.g=0:=by
 have hg:Zl n.op=false:=by
  unfold Zx at ha;unfold Zl;simp at ha;rcases ha with((h|h)|h)|h <;>(rw [h];rfl)
 obtain⟨_,h3,_,_,_⟩:=h;unfold Zc at h3;simp [hg]at h3;exact h3.2
theorem Zym {n:Nd}(h:Za n)(s:Nat):Se s n=s|||agU n:=by
 unfold Se agU;cases ha:Zx n.op
 ·rw [if_neg (by simp),if_neg (by simp),Nat.or_zero]
 rw [if_pos rfl,if_pos rfl,Qf6 h ha];exact Nat.or_zero _
theorem Qqj(op:Int):Zw op=true↔op=3:=by unfold Zw;simp
theorem Zy6 {n:Nd}(s:Nat):So s n=s|||faU n:=by
 unfold So faU;by_cases h:n.op=3
 ·rw [if_pos h,if_pos ((Qqj _).2 h)]
 rw [if_neg h,if_neg (fun e=>h ((Qqj _).1 e)),Nat.or_zero]
theorem Ez {f g:Nat->Nd->Nat} :∀(l:List Nd) (s:Nat),(∀n∈l,∀s,f s n=g s n)->l.foldl f s=l.foldl g s
 |[],_,_=>rfl
 |a :: r,s,h=>by
  show r.foldl f (f s a)=r.foldl g (g s a);rw [h a (List.mem_cons_self ..) s];exact Ez r _ (fun n hn=>h n (List.mem_cons_of_mem _ hn))
theorem Qtr {l:List Nd}(h:∀n∈l,Za n):Jd l=Tp agU l:=Ez l 0 (fun n hn s=>Zym (h n hn) s)
theorem Qps {l:List Nd} :Je l=Tp faU l:=Ez l 0 (fun _ _ s=>Zy6 s)
theorem Zz4 {n:Nd}(h:Za n):agU n < 512:=by
 unfold agU;have h1:=Uw h
 split
 ·rename_i ho;have:=Ki h ho;exact Nat.pow_lt_pow_right (by decide) (show n.i.toNat < 9 by omega)
 omega
theorem Zjy {n:Nd}(h:Za n):faU n < 512:=by
 unfold faU
 split
 ·rename_i ho;have:=Fe h ((Qqj _).1 ho);exact Nat.pow_lt_pow_right (by decide) (show n.i.toNat < 9 by omega)
 decide
theorem Qn6(n:Nd)(h:Za n)(u0 u1 u2 u4 u5:Bool)(g:Int)(w:World):
 Calls Tryz.prog 142 #[.agg #[.int .i64 n.op,.int .i64 n.i,.int .i64 n.e,.int .i64 n.g,.int .i64 n.x,.int .i64 n.y],.agg #[.bool u0,.bool u1,.bool u2,.bool (Zx n.op),.bool u4,.bool u5,.int .i64 g]] w
  fun e w'=>e=.returned (.int .i64 ((agU n:Nat):Int))/\Qg w w':=by
 have hg:=Uw h;cases ha:Zx n.op
 ·have HE:=Qq (show((agU n:Nat):Int)=n.g by unfold agU;rw [if_neg (by rw [ha];simp)];omega);clear h hg;go_enter Tryz.func142,Tryz.ntmps142;go_wp2_with fail;go_ret;exact⟨by rw [HE.out] <;> rfl,(Qz.alloc _).alloc _⟩
 obtain⟨h0,h1⟩:=Ki h ha;obtain⟨k,hk⟩:=Int.eq_ofNat_of_zero_le h0;have hw:=Di (k:=k) (by omega);have hk8:k < 64:=by omega
 have dV:min k 64=k:=by omega
 have HE:=Qq (show((agU n:Nat):Int)=wrap64 ((2:Int)^k) by rw [hw];unfold agU;rw [if_pos ha,hk,Int.toNat_natCast]);rw [hk];clear h hg h0 h1 hk hw;go_enter Tryz.func142,Tryz.ntmps142;go_wp2_with fail;go_ret;exact⟨by rw [HE.out] <;> rfl,(Qz.alloc _).alloc _⟩
theorem Qlq(n:Nd)(h:Za n)(u0 u1 u3 u4 u5:Bool)(g:Int)(w:World):
 Calls Tryz.prog 143 #[.agg #[.int .i64 n.op,.int .i64 n.i,.int .i64 n.e,.int .i64 n.g,.int .i64 n.x,.int .i64 n.y],.agg #[.bool u0,.bool u1,.bool (Zw n.op),.bool u3,.bool u4,.bool u5,.int .i64 g]] w
  fun e w'=>e=.returned (.int .i64 ((faU n:Nat):Int))/\Qg w w':=by
 cases ha:Zw n.op
 ·have HE:=Qq (show((faU n:Nat):Int)=0 by unfold faU;rw [if_neg (by rw [ha];simp)];rfl);clear h;go_enter Tryz.func143,Tryz.ntmps143;go_wp2_with fail;go_ret;exact⟨by rw [HE.out] <;> rfl,(Qz.alloc _).alloc _⟩
 obtain⟨h0,h1⟩:=Fe h ((Qqj _).1 ha);obtain⟨k,hk⟩:=Int.eq_ofNat_of_zero_le h0;have hw:=Di (k:=k) (by omega);have hk8:k < 64:=by omega
 have dV:min k 64=k:=by omega
 have HE:=Qq (show((faU n:Nat):Int)=wrap64 ((2:Int)^k) by rw [hw];unfold faU;rw [if_pos ha,hk,Int.toNat_natCast]);rw [hk];clear h h0 h1 hk hw;go_enter Tryz.func143,Tryz.ntmps143;go_wp2_with fail;go_ret;exact⟨by rw [HE.out] <;> rfl,(Qz.alloc _).alloc _⟩
theorem Zq7(g:Nd->Nat)(l:List Nd)(hg:∀n∈l,g n < 512)(k:Nat):Tp g (l.take k) < 512:=Zq8 _ (fun n hn=>hg n (List.mem_of_mem_take hn))
theorem Qxw(fn:Nat)(eg:∀args w,(callFunc fn args).run Tryz.prog w=.ok (.enter fn args) w)(g:Nd->Nat)(v:Value)(l:List Nd)(w:World)(h:Jo w v l)(_hc:check l=0)(hg:∀n∈Qf l,g n < 512)
 (hf:∀n∈Qf l,∀W,Calls Tryz.prog fn #[.agg #[.int .i64 n.op,.int .i64 n.i,.int .i64 n.e,.int .i64 n.g,.int .i64 n.x,.int .i64 n.y],.agg #[.bool (Qi n.op),.bool (Qe n.op),.bool (Zw n.op),.bool (Zx n.op),.bool (Zl n.op),.bool (Zg n.op),.int .i64 (Vk n.op)]] W fun e w'=>e=.returned (.int .i64 ((g n:Nat):Int))/\Qg W w'):
 Calls Tryz.prog 116 #[v,.func (Fn.func fn) #[] #[]] w fun e w'=>e=.returned (.int .i64 (Tp g (Qf l):Nat))/\Qg w w':=by
 have H:=Qq h;have HG:=Qq hg;have HF:=Qq hf;clear h hg hf;go_enter Tryz.func116,Tryz.ntmps116;go_wp2_with fail;refine(Fk _ l _ H.out).mono ?_;rintro e w1 ⟨u,rfl,hm⟩;have HX:=Qq hm.2.2;obtain⟨A,c,rfl,xU,yP,zN⟩:=hm.fml.1;unfold maxLen at yP;have HR:=Qq zN;obtain⟨cl,yR⟩:∃cl,cl=Qf l:=⟨_,rfl⟩;have tV:=Qq (show Tp g (Qf l)=Tp g cl by rw [yR]);rw [<-yR]at HR xU HG HF;rw [<-yR];clear hm zN yR;go_wp2_with fail;go_loopw [5,13] (fun out i wr=>∃k:Nat,k<=cl.length/\i=.int .i64 k/\out=.int .i64 (Tp g (cl.take k):Nat)/\Qg w1 wr) (fun _ i _=>cl.length - (intOf i).toNat)
 case atStart=>exact⟨0,Nat.zero_le _,rfl,rfl,Qz⟩
 case round =>
  obtain⟨k,hk,rfl,rfl,yX⟩:=hrel;by_cases hlt2:k < cl.length
  ·obtain⟨a,ha⟩:∃a,cl[k]?=some a:=⟨_,Qv hlt2⟩;have lI:=List.mem_of_getElem? ha;obtain⟨ad,rfl,yV,xV⟩:=HR.out (by intro e;rw [e]at hlt2;simp at hlt2);obtain⟨a0,a1,a2,a3,a4,a5⟩:=(xV k a ha).keep fun p hp=>yX.cell (p:=p) (by rw [hp,Qt];exact yV)
   have uM:=Dp (Tp g (cl.take k)) (g a) (by have:=Zq7 g cl HG.out k;omega) (by have:=HG.out a lI;omega);have HS:Hid (Tp g (cl.take (k+1))=(Tp g (cl.take k)|||g a)):=Qq (by rw [Kx ha,Qh4]);have nC:=Qq (HF.out a lI);obtain⟨ga,cE⟩:∃x,x=g a:=⟨_,rfl⟩;rw [<-cE]at uM HS nC;generalize Tp g (cl.take k)=m at uM HS;clear ha xV lI cE;go_wp2_with fail;refine(Nm _ _ _ _ _ _ _ _ rfl rfl rfl rfl rfl rfl rfl _).mono ?_;rintro e w2 ⟨rfl,hb⟩;have HB:=Qq hb;obtain⟨wU,_,wZ⟩:=hb.facts;clear hb;have hz:wr.heap.size < w2.heap.size:=by { simp at wZ;omega }
   clear wZ;go_wp2_with fail;refine(nC.out _).mono ?_;rintro e w3 ⟨rfl,vR⟩;go_wp2_with fail;go_roundw
   case rel=>exact⟨k+1,by omega,by go_num,by rw [HS.out],(((yX.alloc _).trans HB.out).alloc _).trans vR⟩
   case measure=>simp [intOf];omega
  obtain rfl:cl.length=k:=by omega
  go_wp2_with fail;go_ret;exact⟨Ke (by rw [tV.out,List.take_of_length_le (Nat.le_refl _)]),HX.out.trans yX⟩
theorem Wi(v:Value)(l:List Nd)(w:World)(h:Jo w v l)(hc:check l=0):
 Calls Tryz.prog 66 #[v] w fun e w'=>e=.returned (.int .i64 ((Jd (Qf l):Nat):Int))/\Qg w w':=by
 have H:=Qq h;have hh:=(Jj hc).2.2.2;have HU:=Qq (Qxw 142 (fun _ _=>rfl) agU v l w h hc (fun n hn=>Zz4 (hh n hn)) (fun n hn W=>Qn6 n (hh n hn) _ _ _ _ _ _ W));have HE:=Qq (Qtr hh);rw [HE.out];clear h hh hc;go_enter Tryz.func66,Tryz.ntmps66;go_wp2_with fail;refine HU.out.mono ?_;rintro e w1 ⟨rfl,hx⟩;go_wp2_with fail;go_ret;exact⟨rfl,hx⟩
theorem Qqy(v:Value)(l:List Nd)(w:World)(h:Jo w v l)(hc:check l=0):
 Calls Tryz.prog 67 #[v] w fun e w'=>e=.returned (.int .i64 ((Je (Qf l):Nat):Int))/\Qg w w':=by
 have H:=Qq h;have hh:=(Jj hc).2.2.2;have HU:=Qq (Qxw 143 (fun _ _=>rfl) faU v l w h hc (fun n hn=>Zjy (hh n hn)) (fun n hn W=>Qlq n (hh n hn) _ _ _ _ _ _ W));rw [Qps];clear h hh hc;go_enter Tryz.func67,Tryz.ntmps67;go_wp2_with fail;refine HU.out.mono ?_;rintro e w1 ⟨rfl,hx⟩;go_wp2_with fail;go_ret;exact⟨rfl,hx⟩
theorem Qx9 {lg:Int} {f:List Nd}(h:Bl lg f)(he:Ji lg f=0) {i:Nat}(hi:i < (Qm f).1.length)(ho:(Qw ((Qm f).1.getD i [])).op=3):
 ∃p:Nat,(Qw ((Qm f).1.getD i [])).i=(p:Int)/\p < Yj (Je (Qf f))/\(Qm f).1.getD i []= [⟨3,(p:Int),0,0,0,0⟩]:=by
 obtain⟨c,hc⟩:∃c,(Qm f).1[i]?=some c:=⟨_,Qv hi⟩;have gM:(Qm f).1.getD i []=c:=by rw [Qk,hc];rfl
 rw [gM]at ho⊢;obtain⟨s,hX,rfl,_,hm⟩:=Qvg h.b hc;rw [hX.last]at ho;have sB:=Qpb h he s hm;cases s with
 |leaf n =>
  have h3:n.op=3:=ho;have hf:=hX.xp.fact h3;have h0:=sB.fact h3;have hl:Qw (Qr (.leaf n))=n:=rfl;rw [hl];refine⟨n.i.toNat,by omega,by omega,?_⟩;show [n]=_;rw [show((n.i.toNat:Nat):Int)=n.i by omega];rw [hf]
 |one n a=>exact absurd (ho▸hX.xp.1.1.1) (by decide)
 |two n a b=>exact absurd (ho▸hX.xp.1.1.1) (by decide)
theorem Qpr {lg:Int} {f:List Nd}(h:Bl lg f)(he:Ji lg f=0) {i j p:Nat}(hi:i < (Qm f).1.length)(hj:j < (Qm f).1.length)(ho:(Qw ((Qm f).1.getD i [])).op=3)(hp:(Qw ((Qm f).1.getD i [])).i=(p:Int))
 (gI:(Qw ((Qm f).1.getD j [])).op=3)(uQ:(Qw ((Qm f).1.getD j [])).i=(p:Int)):i=j:=by
 obtain⟨q,hq,_,e1⟩:=Qx9 h he hi ho;obtain⟨q2,TK,_,e2⟩:=Qx9 h he hj gI;have RP:q=p:=by omega
 have CC:q2=p:=by omega
 subst RP CC;have hg:∀k,k < (Qm f).1.length->(Qm f).1[k]?=some ((Qm f).1.getD k []):=fun k hk=>by rw [Qk,Qv hk];rfl
 have h1:=Xi h.b.nodup (hg i hi);have h2:=Xi h.b.nodup (hg j hj);rw [e1,<-e2,h2]at h1;omega
structure Ls (base:List (List Nd)) (S:List Nat) (i:Nat) (vals:List Nat):Prop where
 low:∀s∈vals,s < 2^S.length
 bit:∀j p:Nat,j < i->(Qw (base.getD j [])).op=3->(Qw (base.getD j [])).i=(p:Int)->∀w,w < S.length->(vals.getD p 0).testBit w=(S.getD w 0).testBit j
 zero:∀p:Nat,(∀j,j < i->¬((Qw (base.getD j [])).op=3/\(Qw (base.getD j [])).i=(p:Int)))->vals.getD p 0=0
theorem Qg2(n i:Nat):(List.replicate n 0).getD i 0=0:=by
 rw [Qk,List.getElem?_replicate]
 split <;> rfl
theorem Ls.start(base:List (List Nd))(S:List Nat)(n:Nat):Ls base S 0 (List.replicate n 0):=
 ⟨fun s hs=>by rw [(List.mem_replicate.1 hs).2];exact Nat.two_pow_pos _,fun j p hj=>absurd hj (by omega),fun p _=>Qg2 n p⟩
structure Eo (S:List Nat) (i k x:Nat):Prop where
 low:x < 2^S.length
 bit:∀w,x.testBit w=(decide (w < k)&&(S.getD w 0).testBit i)
theorem Eo.start(S:List Nat)(i:Nat):Eo S i 0 0:=⟨Nat.two_pow_pos _,fun w=>by simp⟩
theorem Eo.step {S:List Nat} {i k x:Nat}(h:Eo S i k x)(hk:k < S.length):Eo S i (k+1) (x|||(if(S.getD k 0).testBit i then 2^k else 0)):=by
 refine⟨Nat.or_lt_two_pow h.low ?_,fun w=> ?_⟩
 ·split
  ·exact Nat.pow_lt_pow_right (by decide) hk
  exact Nat.two_pow_pos _
 rw [Nat.testBit_or,h.bit w];cases hb:(S.getD k 0).testBit i
 ·rw [if_neg (by simp),Nat.zero_testBit,Bool.or_false];by_cases e:w=k
  ·subst e;rw [hb];simp
  have:decide (w < k+1)=decide (w < k):=by rw [decide_eq_decide];omega
  rw [this]
 rw [if_pos rfl,Nat.testBit_two_pow];by_cases e:w=k
 ·subst e;rw [hb];simp
 have h1:decide (k=w)=false:=decide_eq_false (fun q=>e q.symm);have h2:decide (w < k+1)=decide (w < k):=by rw [decide_eq_decide];omega
 rw [h1,h2,Bool.or_false]
theorem Wv {l:List Nat} {p x q:Nat} :(l.set p x).getD q 0=if p=q/\p < l.length then x else l.getD q 0:=by
 rw [Qk,Qk,List.getElem?_set];by_cases e:p=q
 ·subst e;by_cases hl:p < l.length
  ·rw [if_pos rfl,if_pos hl,if_pos ⟨rfl,hl⟩];rfl
  rw [if_pos rfl,if_neg hl,if_neg (fun h=>hl h.2),List.getElem?_eq_none (by omega)]
 rw [if_neg e,if_neg (fun h=>e h.1)]
section
variable {base:List (List Nd)} {S vals:List Nat} {i:Nat}
theorem Ls.other(h:Ls base S i vals)(ho:(Qw (base.getD i [])).op≠3):Ls base S (i+1) vals :=
 ⟨h.low,fun j p hj h1 h2 w hw=>by
  by_cases e:j=i
  ·subst e;exact absurd h1 ho
  exact h.bit j p (by omega) h1 h2 w hw,fun p hp=>h.zero p (fun j hj=>hp j (by omega))⟩
theorem Ls.next {p x:Nat}(h:Ls base S i vals)(hu:∀j,j < i->¬((Qw (base.getD j [])).op=3/\(Qw (base.getD j [])).i=(p:Int)))(ho:(Qw (base.getD i [])).op=3)(hi:(Qw (base.getD i [])).i=(p:Int))(hp:p < vals.length)(hx:Eo S i S.length x):Ls base S (i+1) (vals.set p x):=by
 refine⟨fun s hs=> ?_,fun j q hj h1 h2 w hw=> ?_,fun q hq=> ?_⟩
 ·rcases List.mem_or_eq_of_mem_set hs with h1|h1
  ·exact h.low s h1
  rw [h1];exact hx.low
 ·rw [Wv];by_cases e:p=q
  ·subst e;rw [if_pos ⟨rfl,hp⟩];by_cases e2:j=i
   ·subst e2;rw [hx.bit,decide_eq_true hw,Bool.true_and]
   exact absurd ⟨h1,h2⟩ (hu j (by omega))
  rw [if_neg (fun h=>e h.1)];by_cases e2:j=i
  ·subst e2;exact absurd (by omega) e
  exact h.bit j q (by omega) h1 h2 w hw
 rw [Wv];by_cases e:p=q
 ·subst e;exact absurd ⟨ho,hi⟩ (hq i (by omega))
 rw [if_neg (fun h=>e h.1)];exact h.zero q (fun j hj=>hq j (by omega))
end
structure Nc (n:Nat) (P:Nat->Nat->Bool) (v w:Nat) (r:List Nat):Prop where
 len:r.length=n
 val:∀x,x < n->r.getD x 0=if x < v then Vd n (P x)else if x=v then Vd w (P v)else 0
theorem Nc.start(n:Nat)(P:Nat->Nat->Bool):Nc n P 0 0 (List.replicate n 0):=⟨by simp,fun x hx=>by
 rw [Qg2,if_neg (by omega)]
 split <;> rfl⟩
theorem Nc.no {n:Nat} {P:Nat->Nat->Bool} {v w:Nat} {r:List Nat}(h:Nc n P v w r)(hp:P v w=false):Nc n P v (w+1) r :=
 ⟨h.len,fun x hx=>by rw [h.val x hx,Dk,hp];rfl⟩
theorem Nc.yes {n:Nat} {P:Nat->Nat->Bool} {v w:Nat} {r:List Nat}(h:Nc n P v w r)(hv:v < n)(hp:P v w=true):Nc n P v (w+1) (r.set v (r.getD v 0|||2^w)):=by
 refine⟨by rw [List.length_set];exact h.len,fun x hx=> ?_⟩;rw [Wv];by_cases e:v=x
 ·subst e;rw [if_pos ⟨rfl,by rw [h.len];exact hv⟩,h.val v hv,if_neg (by omega),if_pos rfl,if_neg (by omega),if_pos rfl,Dk,hp];rfl
 rw [if_neg (fun h=>e h.1),h.val x hx];by_cases h1:x < v
 ·rw [if_pos h1,if_pos h1]
 rw [if_neg h1,if_neg h1,if_neg (fun e2=>e e2.symm),if_neg (fun e2=>e e2.symm)]
theorem Nc.turn {n:Nat} {P:Nat->Nat->Bool} {v:Nat} {r:List Nat}(h:Nc n P v n r):Nc n P (v+1) 0 r:=by
 refine⟨h.len,fun x hx=> ?_⟩;rw [h.val x hx];by_cases h1:x < v
 ·rw [if_pos h1,if_pos (by omega)]
 rw [if_neg h1];by_cases h2:x=v
 ·subst h2;rw [if_pos rfl,if_pos (by omega)]
 rw [if_neg h2,if_neg (by omega)]
 split <;> rfl
theorem Nc.done {n:Nat} {P:Nat->Nat->Bool} {r:List Nat}(h:Nc n P n 0 r):r=(List.range n).map fun v=>Vd n (P v):=by
 refine List.ext_getElem (by simp [h.len]) fun x h1 h2=> ?_
 have hx:x < n:=by rw [h.len]at h1;exact h1
 have:=h.val x hx;rw [if_pos hx,Qk,Qv h1]at this;rw [List.getElem_map,List.getElem_range];exact this
theorem Nc.low {n:Nat} {P:Nat->Nat->Bool} {v w:Nat} {r:List Nat}(h:Nc n P v w r)(hw:w<=n)(hv:v < n):r.getD v 0 < 2^n:=by
 rw [h.val v hv,if_neg (by omega),if_pos rfl];exact Qy (Ns _ _) (Nat.pow_le_pow_right (by decide) hw)
end Go.Proofs.YtkmclcmnoicagaaGreatDoor
