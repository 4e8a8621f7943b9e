/- types' eliminate: the walk. -/
import Derived.Test.YtkmclcmnoicagaaGreatDoorT39
import Derived.Outline
namespace Go.Proofs.YtkmclcmnoicagaaGreatDoor
set_option maxRecDepth 100000
set_option maxHeartbeats 128000000
open Go.RowKit
theorem Qic:(Tryz.prog.info? 41).map (fun i=>(i.zero,i.size,i.bytes))=some (some (.int .u64 0),1,8):=by kernel_rfl
def Qax(w:World)(b g:Nat)(lg:Int)(base:List (List Nd))(root:List Bool)(ks:List Kn)(cs:List Cm)(s:List Bool×List (Nat×Int))(e:Ending)(w':World):Prop :=
 ∃vt vw,e=.returned (.tuple #[vt,vw])/\w.grownBy w' (some g)/\Uf w' b g lg base root ks cs s.1/\w'.ownsRow w.heap.size 41 1 vt s.2.length (Cx (s.2.map Prod.fst))/\w'.ownsRow w.heap.size 3 1 vw s.2.length (Ww (s.2.map Prod.snd))
structure ElI (w wr:World) (g m:Nat) (vt vw:Value) (s:List Bool×List (Nat×Int)):Prop where
 grown:w.grownBy wr (some g)
 row:Vr g wr g s.1
 ts:wr.ownsRow w.heap.size 41 1 vt s.2.length (Cx (s.2.map Prod.fst))
 ws:wr.ownsRow w.heap.size 3 1 vw s.2.length (Ww (s.2.map Prod.snd))
 len:s.1.length=m
 apart:∀k,vt.ownBlock=some k->vw.ownBlock≠some k
theorem Ws {why:List Bool->Nat->Option Int}(k:Nat)(s:List Bool×List (Nat×Int)):Ui why (k+1) s=(bif (Vl why (List.range s.1.length) s).2.length==s.2.length then s else Ui why k (Vl why (List.range s.1.length) s)):=rfl
def Qr3(v:Value):Nat:=match v with| .slice _ n _=>n|_=>0
def Qo5(v:Value):Nat:=match v with| .bool true=>1|_=>0
section
variable {w wr W:World} {b g:Nat} {lg:Int} {base:List (List Nd)} {root:List Bool} {ks:List Kn} {cs:List Cm} {m:Nat} {vt vw:Value} {s:List Bool×List (Nat×Int)} {alive:List Bool}
theorem ElI.next(h:ElI w wr g m vt vw s)(he:Ext wr W):ElI w W g m vt vw s :=
 ⟨⟨he.os.trans h.grown.os,he.tape.trans h.grown.tape,he.output.trans h.grown.output,Qx h.grown.size he.size,fun k hk hn=>(he.block (Qy hk h.grown.size)).trans (h.grown.block k hk hn)⟩,h.row.ext he,Zf h.ts he,Zf h.ws he,h.len,h.apart⟩
theorem ElI.eng(h:ElI w wr g m vt vw s)(hE:Uf w b g lg base root ks cs alive)(hm:alive.length=m):Uf wr b g lg base root ks cs s.1:=by
 refine⟨fun w' h1 h2=> ?_,h.row⟩;rw [h.len,<-hm];exact hE.keep w' (Qx h.grown.size h1) (fun k hk hl=>(h2 k hk (Qy hl h.grown.size)).trans (h.grown.block k hl (fun e=>hk (by injection e))))
theorem ElI.take {w7 w9:World} {c1 c2:Obj} {v7 v9:Value} {t:Nat} {i:Int}(h:ElI w wr g m vt vw s)(hg:g < w.heap.size)
 (h7:w7.ownsRow w.heap.size 41 1 v7 (s.2.length+1) (Cx (s.2.map Prod.fst)++ [.int .u64 (t:Int)]))(g7:((wr.setCell ⟨g,t,none⟩ (.bool false)).alloc c1).grownBy w7 vt.ownBlock)
 (h9:w9.ownsRow w.heap.size 3 1 v9 (s.2.length+1) (Ww (s.2.map Prod.snd)++ [.int .i64 i]))(g9:(w7.alloc c2).grownBy w9 vw.ownBlock)
 (a7:v7.ownBlock=vt.ownBlock\/v7.ownBlock=some ((wr.setCell ⟨g,t,none⟩ (.bool false)).alloc c1).heap.size)(a9:v9.ownBlock=vw.ownBlock\/v9.ownBlock=some (w7.alloc c2).heap.size):
 ElI w w9 g m v7 v9 (s.1.set t false,s.2++ [(t,i)]):=by
 have hvt:∀k,vt.ownBlock=some k->w.heap.size<=k:=fun k hk=>(h.ts.lt k hk).1
 have hvw:∀k,vw.ownBlock=some k->w.heap.size<=k:=fun k hk=>(h.ws.lt k hk).1
 have hs:=(h.row.set t false).2;have s1:(wr.setCell ⟨g,t,none⟩ (.bool false)).heap.size=wr.heap.size:=by simp [World.setCell]
 have s2:((wr.setCell ⟨g,t,none⟩ (.bool false)).alloc c1).heap.size=wr.heap.size+1:=by simp [s1]
 have s7:=g7.size;rw [s2]at s7;have s8:(w7.alloc c2).heap.size=w7.heap.size+1:=by simp
 have s9:=g9.size;rw [s8]at s9;have hgr:=h.row.lt.2;have blk:∀k,k < wr.heap.size->k≠g->vt.ownBlock≠some k->vw.ownBlock≠some k->w9.heap[k]?=wr.heap[k]?:=fun k hk hkg hkt hkw=>by
  rw [g9.block k (by omega) (fun e=>hkw e.symm),((Ext.refl w7).alloc c2).block (by omega),g7.block k (by omega) (fun e=>hkt e.symm),((Ext.refl (wr.setCell ⟨g,t,none⟩ (.bool false))).alloc c1).block (by omega)];exact Below.heap_setCell _ _ _ _ hkg
 have blkg:w9.heap[g]?=(wr.setCell ⟨g,t,none⟩ (.bool false)).heap[g]?:=by
  rw [g9.block g (by omega) (fun e=>by have:=hvw g e.symm;omega),((Ext.refl w7).alloc c2).block (by omega),g7.block g (by omega) (fun e=>by have:=hvt g e.symm;omega),((Ext.refl (wr.setCell ⟨g,t,none⟩ (.bool false))).alloc c1).block (by omega)]
 have hws:vw.ownBlock≠v7.ownBlock\/vw.ownBlock=none:=by
  cases hv:vw.ownBlock with
  |none=>exact .inr rfl
  |some k =>
   refine .inl fun e=> ?_
   rcases a7 with e1|e1
   ·exact h.apart k (e1▸e.symm) hv
   rw [e1,s2]at e;injection e with e;have:=(h.ws.lt k hv).2;omega
 have h79:w9.ownsRow w.heap.size 41 1 v7 (s.2.length+1) (Cx (s.2.map Prod.fst)++ [.int .u64 (t:Int)]):=Zi h7 fun k hk=>by
  rw [g9.block k (by have:=(h7.lt k hk).2;omega) (fun e=>by
   rcases hws with e1|e1
   ·exact e1 (e.symm.trans hk.symm)
   rw [e1]at e;cases e)]
  exact((Ext.refl w7).alloc c2).block (h7.lt k hk).2
 refine⟨⟨?_,?_,?_,by have:=h.grown.size;omega,fun k hk hn=> ?_⟩,?_,?_,?_,by rw [List.length_set];exact h.len,fun k hk hk2=> ?_⟩
 ·exact(g9.os.trans (g7.os.trans hs.os)).trans h.grown.os
 ·exact(g9.tape.trans (g7.tape.trans hs.tape)).trans h.grown.tape
 ·exact(g9.output.trans (g7.output.trans hs.output)).trans h.grown.output
 ·rw [blk k (Qy hk h.grown.size) (fun e=>hn (by rw [e])) (fun e=>by have:=hvt k e;omega) (fun e=>by have:=hvw k e;omega)];exact h.grown.block k hk hn
 ·exact Zi (h.row.set t false).1 fun k hk=>by
   have:k=g:=by injection hk with hk;exact hk.symm
   subst this;exact blkg
 ·rw [List.length_append,List.length_singleton,List.map_append];unfold Cx at h79⊢;rw [List.map_append];exact h79
 ·rw [List.length_append,List.length_singleton,List.map_append];unfold Ww at h9⊢;rw [List.map_append];exact h9
 rcases a9 with e1|e1
 ·rw [e1]at hk2;rcases hws with e2|e2
  ·exact e2 (hk2.trans hk.symm)
  rw [e2]at hk2;cases hk2
 rw [e1,s8]at hk2;injection hk2 with hk2;have:=(h7.lt k hk).2;omega
end
theorem Ea(b g:Nat)(lg:Int)(base:List (List Nd))(root:List Bool)(ks:List Kn)(cs:List Cm)(alive:List Bool)(w:World)
 (hE:Uf w b g lg base root ks cs alive)(hlg:0<=lg/\lg<=6)(hm:alive.length<=4096)(hb:base.length<=12)(hks:∀k∈ks,k.place < 64/\alive.length<=k.holds.length)(hcs:∀c∈cs,c.place < 64/\c.x.length=alive.length/\c.y.length=alive.length/\0<=c.group/\c.group < 16):
 Calls Tryz.prog 60 #[.pointer (some ⟨b,0,none⟩)] w (Qax w b g lg base root ks cs (Hs lg ks cs base.length alive)):=by
 have HE:=Qq hE;have HKS:=Qq hks;have HCS:=Qq hcs;have hgl:=hE.row.lt.2;obtain⟨iU,hiU,hzU0,hzU1,hzU2⟩:=info_parts Qic;obtain⟨iI,hiI,hzI0,hzI1,hzI2⟩:=info_parts Iq;obtain⟨fin,hfin⟩:∃f,f=Hs lg ks cs base.length alive:=⟨_,rfl⟩;have HFIN:=Qq hfin;obtain⟨why,hwhy⟩:∃f,f=Nj lg ks cs base.length:=⟨_,rfl⟩;have HWHY:=Qq hwhy;obtain⟨m,hmm⟩:∃m,m=alive.length:=⟨_,rfl⟩;have HMM:=Qq hmm;rw [<-hfin];rw [<-hmm]at hm;have HI0:=Qq (show ElI w w g m (.slice none 0 0) (.slice none 0 0) (alive,[])from⟨World.grownBy.refl _ _,hE.row,World.ownsRow_nil _ _ _ _,World.ownsRow_nil _ _ _ _,hmm.symm,fun k hk=>by cases hk⟩)
 clear hE hks hcs hfin hwhy hmm;go_enter Tryz.func60,Tryz.ntmps60;go_wp2_with fail;go_loopw [2,3,4] (fun vt vw vc wr=>∃(fl:Bool) (n:Nat),vc=.bool fl/\n<=m/\Qr3 vt=n/\Hid (∃s,ElI w wr g m vt vw s/\s.2.length=n/\cnt s.1+s.2.length<=m/\(fl=true->∃k,cnt s.1 < k/\Ui why k s=fin)/\(fl=false->s=fin))) (fun vt _ vc _=>2*(m - Qr3 vt)+Qo5 vc)
 case atStart=>exact⟨true,0,rfl,Nat.zero_le _,rfl,Qq ⟨(alive,[]),HI0.out,rfl,by show cnt alive+0<=m;rw [HMM.out];exact Qj7 alive,(fun _=>⟨alive.length+1,by show cnt alive < _;have:=Qj7 alive;omega,by rw [HFIN.out,HWHY.out];rfl⟩),(fun e=>by cases e)⟩⟩
 case round =>
  clear HI0;obtain⟨fl,n,rfl,hn,hln,HREL⟩:=hrel;obtain⟨s,hs,hsn,hcnt,hft,hff⟩:=HREL.out;have HS:=Qq hs;have HSN:=Qq hsn;have HFT:=Qq hft;have HFF:=Qq hff;obtain⟨At,ct,rfl⟩:=Qt hs.ts;obtain⟨Aw,cw,rfl⟩:=Qt hs.ws;clear HREL hs hsn hft hff;cases fl
  ·go_wp2_with fail;go_ret2;have e:=HFF.out (by trivial);exact⟨_,_,rfl,HS.out.grown,by rw [<-e];exact HS.out.eng HE.out HMM.out.symm,by rw [<-e];exact HS.out.ts,by rw [<-e];exact HS.out.ws⟩
  obtain⟨_,_,_,_,x0,x1,x2,x5,xl⟩:=(HS.out.eng HE.out HMM.out.symm).cells;rw [HS.out.len]at x5;go_wp2_with fail;go_step3;go_wp2_with fail;go_step3;go_wp2_with fail;clear x0 x1 x2 x5 xl;go_loopw [2,3,4,14] (fun vt vw vc vi wr=>∃t:Nat,vi=.int .i64 (t:Int)/\t<=m/\∃(fl:Bool) (n2:Nat),vc=.bool fl/\n2<=m/\n<=n2/\Qr3 vt=n2/\(fl=true↔n < n2)/\Hid (ElI w wr g m vt vw (Vl why (List.range t) s)/\(Vl why (List.range t) s).2.length=n2)) (fun _ _ _ vi _=>m - (intOf vi).toNat)
  case atStart=>exact⟨0,rfl,Nat.zero_le _,false,n,rfl,hn,Nat.le_refl _,by exact HSN.out,(by simp),Qq ⟨HS.out,HSN.out⟩⟩
  case round =>
   obtain⟨t,rfl,ht,fl,n2,rfl,hn2,hnn,hln2,hfl,HREL⟩:=hrel;obtain⟨hs2,hsn2⟩:=HREL.out;have HS2:=Qq hs2;have HSN2:=Qq hsn2;obtain⟨s2,hs2d⟩:∃x,x=Vl why (List.range t) s:=⟨_,rfl⟩;have HS2D:=Qq hs2d;rw [<-hs2d]at HS2 HSN2 hs2;obtain⟨At2,ct2,rfl⟩:=Qt hs2.ts;obtain⟨Aw2,cw2,rfl⟩:=Qt hs2.ws;have HFL:=Qq hfl;clear HREL hs2 hsn2 hs2d hfl;by_cases hlt2:t < m
   ·have hk1:(t:Int) < (m:Int):=by omega
    have hgl2:g < wr.heap.size:=Qy hgl HS2.out.grown.size;have gfr:=HS2.out.row.frozen t;obtain⟨at_,hat⟩:∃x,x=s2.1.getD t false:=⟨_,rfl⟩;have gc:wr.cell? ⟨g,t,none⟩=some (.bool at_):=HS2.out.row.cell (by rw [hat,Qk,List.getElem?_eq_getElem (by rw [HS2.out.len];exact hlt2)];rfl);have HAT:=Qq hat;have HNX:=Qq (show Vl why (List.range (t+1)) s=Xs why s2 t by rw [Qmb,<-HS2D.out]);clear hat;obtain⟨_,cb,_,_,x0,x1,x2,x5,xl⟩:=(HS2.out.eng HE.out HMM.out.symm).cells;rw [HS2.out.len]at x5;go_wp2_with fail;cases at_
    ·have HST:=Qq (show Xs why s2 t=s2 by unfold Xs;rw [<-HAT.out];rfl);go_loopw [2,3,4,7] (fun v2 v3 v4 vi wr2=>v2=.slice At2 s2.2.length ct2/\v3=.slice Aw2 s2.2.length cw2/\v4=.bool fl/\vi=.int .i64 (-4)/\wr2=wr) (fun _ _ _ _ _=>0)
     case atStart=>exact⟨rfl,rfl,rfl,rfl,rfl⟩
     case round =>
      obtain⟨rfl,rfl,rfl,rfl,rfl⟩:=hrel;go_wp2_with fail;go_roundw
      case rel=>exact⟨t+1,by go_num,by omega,fl,n2,rfl,hn2,hnn,hln2,HFL.out,Qq (by rw [HNX.out,HST.out];exact⟨HS2.out,HSN2.out⟩)⟩
      case measure=>simp [intOf];omega
    obtain⟨wq,hwq⟩:∃v,v=wr:=⟨_,rfl⟩;subst hwq;clear x0 x1 x2 x5;go_loopw [2,3,4,7] (fun v2 v3 v4 vi wr2=>v2=.slice At2 s2.2.length ct2/\v3=.slice Aw2 s2.2.length cw2/\v4=.bool fl/\∃z:Int,vi=.int .i64 z/\ -4<=z/\z<=(base.length:Int)/\Hid (Ext wq wr2/\∀j:Int,-4<=j->j < z->Yy lg ks cs s2.1 t j=false)) (fun _ _ _ vi _=>((base.length:Int) - intOf vi).toNat)
    case atStart=>exact⟨rfl,rfl,rfl,-4,rfl,by omega,by omega,Qq ⟨Qz,fun j h1 h2=>by omega⟩⟩
    case round =>
     obtain⟨rfl,rfl,rfl,z,rfl,hz0,hz1,HREL⟩:=hrel;have HX:=Qq HREL.out.1;have HJ:=Qq HREL.out.2;clear HREL;have HN2:=Qq (HS2.out.next HX.out);have HEW:=Qq (HN2.out.eng HE.out HMM.out.symm);obtain⟨_,cb2,_,_,x0,x1,x2,x5,xl2⟩:=HEW.out.cells;rw [HS2.out.len]at x5;by_cases hzl:z < (base.length:Int)
     ·have HLK:=Qq (Qkz b lg base root ks cs s2.1 t z wr HEW.out.eng hlg (by rw [HS2.out.len];exact hlt2) (by rw [HS2.out.len];exact hm) ⟨by omega,by omega⟩ (by rw [HS2.out.len,HMM.out];exact HKS.out) (by rw [HS2.out.len,HMM.out];exact HCS.out));obtain⟨lk,hlk⟩:∃x,x=Yy lg ks cs s2.1 t z:=⟨_,rfl⟩;have HLKK:=Qq hlk;rw [<-hlk]at HLK;clear hlk;go_wp2_with fail;refine HLK.out.mono ?_;rintro e w3 ⟨rfl,hx3⟩;have HX3:=Qq (HX.out.trans hx3);have HN3:=Qq (HN2.out.next hx3);clear hx3 x0 x1 x2 x5;obtain⟨_,cb3,_,_,y0,y1,y2,y5,yl⟩:=(HN3.out.eng HE.out HMM.out.symm).cells;rw [HS2.out.len]at y5;have hgl3:g < w3.heap.size:=Qy hgl HN3.out.grown.size
      have gfr3:=HN3.out.row.frozen t;have gc3:w3.cell? ⟨g,t,none⟩=some (.bool true):=HN3.out.row.cell (by rw [HAT.out,Qk,List.getElem?_eq_getElem (by rw [HS2.out.len];exact hlt2)];rfl);cases lk
      ·go_wp2_with fail;go_roundw
       case rel=>exact⟨by first|rfl|trivial,by first|rfl|trivial,by first|rfl|trivial,z+1,rfl,by omega,by omega,Qq ⟨HX3.out,fun j h1 h2=>by
        by_cases e:j < z
        ·exact HJ.out j h1 e
        have:j=z:=by omega
        subst this;exact HLKK.out.symm⟩⟩
       case measure=>simp [intOf];omega
      have HWY:=Qq (show why s2.1 t=some z by rw [HWHY.out];exact Qok hz0 hzl HLKK.out.symm HJ.out);have HST:=Qq (show Xs why s2 t=(s2.1.set t false,s2.2++ [(t,z)]) by
       unfold Xs;rw [<-HAT.out,HWY.out]
       rfl)
      have hnm:s2.2.length+1<=m:=by
       have h1:=Qfc (why:=why) s2 t;rw [HST.out]at h1;have h2:=Mt (why:=why) (List.range t) s;rw [<-HS2D.out]at h2;simp only [List.length_append,List.length_singleton]at h1;omega
      have hc3:s2.2.length+1<=maxLen:=by unfold maxLen;omega
      have hc4:(s2.2.length+1)*8<=140737488355328:=by omega
      have hsz:(w3.setCell ⟨g,t,none⟩ (.bool false)).heap.size=w3.heap.size:=by simp [World.setCell]
      have HRT:=Qq (show(w3.setCell ⟨g,t,none⟩ (.bool false)).ownsRow w.heap.size 41 1 (.slice At2 s2.2.length ct2) s2.2.length (Cx (s2.2.map Prod.fst))from ownsRow_setCell_other (a:=⟨g,t,none⟩) HN3.out.ts (fun e=>by have:=(HN3.out.ts.lt g e).1;omega) _);have HRW:=Qq (show(w3.setCell ⟨g,t,none⟩ (.bool false)).ownsRow w.heap.size 3 1 (.slice Aw2 s2.2.length cw2) s2.2.length (Ww (s2.2.map Prod.snd))from ownsRow_setCell_other (a:=⟨g,t,none⟩) HN3.out.ws (fun e=>by have:=(HN3.out.ws.lt g e).1;omega) _);have hws3:w.heap.size<=w3.heap.size:=HN3.out.grown.size;have hgl4:=hgl3;go_upto_region 12 with(fail)
      go_wp2_with(at_builtin;refine wpList_append_own_at _ rfl _ _ 23 rfl w.heap.size 41 iU (.int .u64 0) 1 8 Tryz.underlying23 hiU hzU0 hzU1 hzU2 rfl (by decide) _ s2.2.length (Cx (s2.2.map Prod.fst)) rfl (Zf HRT.out (Qz.alloc _)) ⟨_,0,none⟩ 1 1 [.int .u64 (t:Int)] rfl rfl (Jq _ _ _ (by simp)) (fun u hu=>by rw [List.mem_singleton.1 hu];rfl) hc3 hc4 (by simp [World.setCell];omega) ?_);intro v7 w7 hown7 hgrow7 _ hat7;have HG7:=Qq hgrow7;have HO7:=Qq hown7;have HRW7:=Qq (show w7.ownsRow w.heap.size 3 1 (.slice Aw2 s2.2.length cw2) s2.2.length (Ww (s2.2.map Prod.snd))from Zi HRW.out fun k hk=>by
       rw [hgrow7.block k (by have:=(HRW.out.lt k hk).2;simp;omega) (fun e=>HN3.out.apart k e.symm hk)];exact(Qz.alloc _).block (HRW.out.lt k hk).2)
      have h7s:=hgrow7.size;obtain⟨A7,c7,rfl⟩:=Qt hown7;have HAT7:=Qq hat7;clear hown7 hgrow7 hat7;have h7s2:w.heap.size<=w7.heap.size:=by simp [World.setCell]at h7s;omega
      clear h7s;go_wp2_with(at_builtin;refine wpList_append_own_at _ rfl _ _ 36 rfl w.heap.size 3 iI (.int .i64 0) 1 8 Tryz.underlying36 hiI hzI0 hzI1 hzI2 rfl (by decide) _ s2.2.length (Ww (s2.2.map Prod.snd)) rfl (Zf HRW7.out (Qz.alloc _)) ⟨_,0,none⟩ 1 1 [.int .i64 z] rfl rfl (Jq _ _ _ (by simp)) (fun u hu=>by rw [List.mem_singleton.1 hu];rfl) hc3 hc4 (by simp;omega) ?_);intro v9 w9 hown9 hgrow9 _ hat9;have HT:=Qq (HN3.out.take hgl HO7.out HG7.out hown9 hgrow9 (HAT7.out.imp_right fun h=>by rw [h];simp [World.setCell]) (hat9.imp_right fun h=>by rw [h];simp));obtain⟨A9,c9,rfl⟩:=Qt hown9
      clear hown9 hgrow9 hat9;go_wp2_with fail;go_roundw
      case rel=>exact⟨t+1,by go_num,by omega,true,s2.2.length+1,rfl,hnm,by have:=HSN2.out;omega,rfl,⟨fun _=>by have:=HSN2.out;omega,fun _=>rfl⟩,Qq (by rw [HNX.out,HST.out];exact⟨HT.out,by simp⟩)⟩
      case measure=>simp [intOf];omega
     obtain rfl:(base.length:Int)=z:=by omega
     have HST:=Qq (show Xs why s2 t=s2 by
      unfold Xs;rw [<-HAT.out,HWHY.out,Qh1 (fun j h1 h2=>HJ.out j h1 h2)]
      rfl)
     go_wp2_with fail;go_roundw
     case rel=>exact⟨t+1,by go_num,by omega,fl,n2,rfl,hn2,hnn,hln2,HFL.out,Qq (by rw [HNX.out,HST.out];exact⟨HN2.out,HSN2.out⟩)⟩
     case measure=>simp [intOf];omega
   obtain rfl:m=t:=by omega
   go_wp2_with fail;simp only [Exit.noGoto_normal];have HPN:=Qq (On (why:=why) (List.range m) s);have HCN:=Qq (Mt (why:=why) (List.range m) s);have hcn2:cnt s2.1+s2.2.length<=m:=by rw [HS2D.out];have:=HCN.out.1;omega
   go_roundw
   case rel =>
    iterate 50 apply Exists.intro
    refine⟨?_,rfl⟩;refine⟨fl,n2,rfl,hn2,hln2,Qq ⟨s2,HS2.out,HSN2.out,hcn2,fun hfl=> ?_,fun hfl=> ?_⟩⟩
    ·obtain⟨k,hk,he⟩:=HFT.out (by trivial);have hlt3:=HFL.out.1 hfl;cases k with
     |zero=>omega
     |succ k =>
      refine⟨k,?_,?_⟩
      ·have h1:=HCN.out.1;rw [<-HS2D.out]at h1;have h3:=HSN2.out;have h4:=HSN.out;omega
      rw [<-he];rw [Ws];rw [HS.out.len,<-HS2D.out];have:(s2.2.length==s.2.length)=false:=by
       rw [beq_eq_false_iff_ne];have h3:=HSN2.out;have h4:=HSN.out;omega
      rw [this];rfl
    obtain⟨k,hk,he⟩:=HFT.out (by trivial);have hge:¬n < n2:=fun h=>by rw [HFL.out.2 h]at hfl;cases hfl
    have h3:=HSN2.out;have h4:=HSN.out;have h5:=(HPN.out (by rw [<-HS2D.out];omega)).1;rw [<-HS2D.out]at h5;rw [h5];cases k with
    |zero=>omega
    |succ k =>
     rw [<-he];rw [Ws];rw [HS.out.len,<-HS2D.out];have:(s2.2.length==s.2.length)=true:=by
      rw [beq_iff_eq];omega
     rw [this];rfl
   case measure =>
    have h3:=HFL.out;have h4:=HSN2.out;have h5:=HSN.out;cases fl
    ·show 2*(m - s2.2.length)+0 < 2*(m - s.2.length)+1;have:¬n < n2:=fun h=>by have:=h3.2 h;cases this
     omega
    show 2*(m - s2.2.length)+1 < 2*(m - s.2.length)+1;have:=h3.1 rfl;omega
end Go.Proofs.YtkmclcmnoicagaaGreatDoor
