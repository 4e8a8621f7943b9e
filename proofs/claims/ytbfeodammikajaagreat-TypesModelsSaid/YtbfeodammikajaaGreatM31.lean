/- The reference's put: a node's number in a list, to which it is appended if it is new. -/
import Derived.Test.YtbfeodammikajaaGreatM01
import Derived.Test.YtbfeodammikajaaGreatM30
import Derived.Deep.RegionLaw
import Derived.Maps.AppendAt
import Derived.Test.YtbfeodammikajaaGreatM23
import Derived.Test.YtbfeodammikajaaGreatM11
import Derived.Test.YtbfeodammikajaaGreatM07
import Derived.Deep.DeepCutAuto
import Derived.Test.YtbfeodammikajaaGreatM18
import Derived.Test.YtbfeodammikajaaGreatM27
namespace Go.Proofs.YtbfeodammikajaaGreat
set_option maxRecDepth 100000
set_option maxHeartbeats 128000000
open Go.RowKit
theorem idxOf_first:∀{o:List Nd} {k:Nat} {a x:Nd},o[k]?=some a->a=x->x∉o.take k->o.idxOf x=k
 |[],k,a,x,h,_,_=>by simp at h
 |b :: r,0,a,x,h,hab,_=>by
  simp only [List.getElem?_cons_zero,Option.some.injEq]at h;subst h hab;simp
 |b :: r,k+1,a,x,h,hab,hn=>by
  simp only [List.take_succ_cons,List.mem_cons,not_or]at hn;have ih:=idxOf_first (o:=r) (k:=k) (a:=a) (x:=x) (by simpa using h) hab hn.2;have hb:(b==x)=false:=by rw [beq_eq_false_iff_ne];exact fun e=>hn.1 e.symm
  rw [List.idxOf_cons,hb,ih];rfl
structure PStep (bw:Nat) (w w':World) (v v':Value):Prop where
 os:w'.os=w.os
 tape:w'.tape=w.tape
 output:w'.output=w.output
 size:w.heap.size<=w'.heap.size
 block:∀k,k < w.heap.size->k≠bw->v.ownBlock≠some k->w'.heap[k]?=w.heap[k]?
 row:∀g,v'.ownBlock=some g->v.ownBlock=some g\/w.heap.size<=g
section
variable {a b c w w':World} {va vb vc v v':Value} {bw:Nat}
theorem PStep.refl(w:World)(v:Value):PStep bw w w v v:=⟨rfl,rfl,rfl,Nat.le_refl _,fun _ _ _ _=>rfl,fun _ h=> .inl h⟩
theorem PStep.trans(h:PStep bw a b va vb)(k:PStep bw b c vb vc):PStep bw a c va vc :=
 ⟨k.os.trans h.os,k.tape.trans h.tape,k.output.trans h.output,Qx h.size k.size,
  fun i hi hb h4=>(k.block i (Qy hi h.size) hb (fun e=>by
   rcases h.row i e with e'|e'
   ·exact h4 e'
   omega)).trans (h.block i hi hb h4),
  fun g hg=>by
   rcases k.row g hg with e|e
   ·exact h.row g e
   exact .inr (Qx h.size e)⟩
theorem PStep.of_ext(e:Ext a b):PStep bw a b v v:=⟨e.os,e.tape,e.output,e.size,fun _ hk _ _=>e.block hk,fun _ h=> .inl h⟩
theorem PStep.of_r(h:RStep a b va vb):PStep bw a b va vb:=⟨h.os,h.tape,h.output,h.size,fun k hk _ hv=>h.block k hk hv,h.row⟩
theorem PStep.set_(w:World)(v:Value)(p:Addr)(hp:p.block=bw)(u:Value):PStep bw w (w.setCell p u) v v :=
 ⟨rfl,rfl,rfl,by simp [World.setCell],fun k _ hb _=>Below.heap_setCell _ _ _ _ (by rw [hp];exact hb),fun _ h=> .inl h⟩
end
theorem put_keep {w W w4:World} {bw:Nat} {v v0 vd:Value} {t:TypeId}(hb:w.heap[bw]?=some (.cells #[v0,vd] t (0,0)))(hne:v.ownBlock≠some bw)(he:Ext w W)(hg:W.grownBy w4 v.ownBlock):w4.heap[bw]?=some (.cells #[v0,vd] t (0,0)):=
 ((hg.block bw (Qy (lt_heap hb) he.size) (fun e=>hne e.symm)).trans (he.block (lt_heap hb))).trans hb
theorem put_step {w W w4:World} {bw:Nat} {v v':Value}(he:Ext w W)(hg:W.grownBy w4 v.ownBlock)(hat:v'.ownBlock=v.ownBlock\/v'.ownBlock=some W.heap.size):PStep bw w w4 v v' :=
 PStep.of_r (((RStep.refl w v).ext he).appended hg hat)
theorem put_row_ne {w w4:World} {bw:Nat} {v v':Value}(h:PStep bw w w4 v v')(hne:v.ownBlock≠some bw)(hlt:bw < w.heap.size):v'.ownBlock≠some bw:=fun e=>by
 rcases h.row bw e with h1|h1
 ·exact hne h1
 omega
theorem put_any(bw base:Nat)(x:Nd)(o:List Nd)(vo vd:Value)(w:World)(hblk:w.heap[bw]?=some (.cells #[vo,vd] 157 (0,0)))(hrow:w.ownsRow base 93 6 vo o.length (o.flatMap Nd.cells))
 (hb:base<=w.heap.size)(hlen:o.length<=1000)(hne:vo.ownBlock≠some bw):
 Calls Tryz.prog 163 #[.pointer (some ⟨bw,0,none⟩),.agg #[.int .i64 x.op,.int .i64 x.i,.int .i64 x.e,.int .i64 x.g,.int .i64 x.x,.int .i64 x.y]] w fun e w'=>∃vo',e=.returned (.int .i64 (o.idxOf x:Nat))/\
  w'.heap[bw]?=some (.cells #[vo',vd] 157 (0,0))/\w'.ownsRow base 93 6 vo' (addN o x).length ((addN o x).flatMap Nd.cells)/\PStep bw w w' vo vo':=by
 obtain⟨i0,hi0,hz0,hz1,hz2⟩:=info_parts tInfo;obtain⟨Ao,co,rfl⟩:=slice_of_row hrow;have HROW:=Qq hrow;have HBLK:=Qq hblk;have HNE:=Qq hne;obtain⟨A2,c2,e2,hcap,hmax,hread⟩:=nds_of_row hrow;obtain⟨rfl,rfl⟩:A2=Ao/\c2=co:=by injection e2 with e2 _ e3;exact⟨e2.symm,e3.symm⟩
 have HREAD:=Qq hread;unfold maxLen at hmax;obtain⟨d0,d1,dfr,dlt⟩:=cells2 hblk;clear hrow hblk hne e2 hread;go_enter Tryz.func163,Tryz.ntmps163;go_wp2_with fail;go_loopw [5] (fun i wr=>∃k:Nat,k<=o.length/\i=.int .i64 k/\Hid (x∉o.take k)/\Ext w wr/\Hid (wr.heap[w.heap.size]?=some (.cells #[.int .i64 x.op,.int .i64 x.i,.int .i64 x.e,.int .i64 x.g,.int .i64 x.x,.int .i64 x.y] 93 (0,0)))) (fun i _=>o.length - (intOf i).toNat)
 case atStart=>exact⟨0,Nat.zero_le _,rfl,Qq (by simp),Qz.alloc _,Qq (heap_alloc_new _ _)⟩
 case round =>
  obtain⟨k,hk,rfl,HNI,hext,HBX⟩:=hrel;have k0:=(hext.cell (p:=⟨bw,0,none⟩) dlt).trans d0;have k1:=(hext.cell (p:=⟨bw,1,none⟩) dlt).trans d1;obtain⟨⟨b0,b1,b2,b3,b4,b5⟩,bfr,blt⟩:=cells6 HBX.out;by_cases hlt2:k < o.length
  ·obtain⟨a,ha⟩:∃a,o[k]?=some a:=⟨_,Qv hlt2⟩;obtain⟨ad,rfl,hb1,hc1⟩:=HREAD.out (by intro e;rw [e]at hlt2;simp at hlt2);obtain⟨a0,a1,a2,a3,a4,a5⟩:=(hc1 k a ha).keep fun p hp=>hext.cell (p:=p) (by rw [hp,block_of_add];exact hb1)
   have hi0':(0:Int)<=(k:Int):=by omega
   have hi1':(k:Int) < (o.length:Int):=by omega
   have heq:=fun W=>eqNode a x W
   have HA:=Qq ha;clear ha hc1;by_cases hab:a=x
   ·have hd:decide (a=x)=true:=by simpa using hab
    have HIX:Hid (o.idxOf x=k):=Qq (idxOf_first HA.out hab HNI.out);have HIN:Hid (addN o x=o):=Qq (by unfold addN;rw [if_pos (by rw [<-hab];exact List.mem_of_getElem? HA.out)]);clear hab;go_wp2_with fail;go_quiet (fail);go_wp2_with fail;go_ret;refine⟨_,ret_int (by rw [HIX.out]),?_,?_,PStep.of_ext (hext.drewN _)⟩
    ·exact((hext.drewN _).block dlt).trans HBLK.out
    rw [HIN.out];exact row_ext HROW.out (hext.drewN _)
   have hd:decide (a=x)=false:=by simpa using hab
   have HT:Hid (x∉o.take (k+1)):=Qq (by rw [take_succ_eq HA.out];simp [HNI.out,Ne.symm hab]);clear hab;go_wp2_with fail;go_quiet (fail);go_wp2_with fail;go_roundw
   case rel=>exact⟨k+1,by omega,by go_num,HT,hext.drewN _,Qq HBX.out⟩
   case measure=>simp [intOf];omega
  obtain rfl:o.length=k:=by omega
  have HNOT:Hid (x∉o):=Qq (by have:=HNI.out;rwa [List.take_of_length_le (Nat.le_refl _)]at this);have hc3:o.length+1<=maxLen:=by unfold maxLen;omega
  have hc4:(o.length+1)*48<=140737488355328:=by omega
  have blt2:bw < wr.heap.size:=Qy dlt hext.size;have k2:=(hext.frozen (p:=⟨bw,0,none⟩) dlt).trans (dfr 0);go_wp2_with fail;go_region_law (refine step_append_at rfl (.tmp 29) (.tmp 31) 22 rfl base 93 i0 Nd.zero.val 6 48 Tryz.underlying22 hi0 hz0 hz1 hz2 rfl (by decide) (.slice A2 o.length c2) _ _ (by simp [Act.eval]) (row_ext HROW.out (by repeat(first|exact hext|apply Ext.alloc|apply Ext.drew|apply Ext.drewN))) ⟨wr.heap.size,0,none⟩ 1 1 x.cells (by simp [Act.eval]) rfl (row_new_at _ _ _ (by simp)) (node_cells x) hc3 hc4 (Qx hb (Ext.size (a:=w) (by repeat(first|exact hext|apply Ext.alloc|apply Ext.drew|apply Ext.drewN)))) ?_;intro v' w4 hown4 hgrow4 hat4;obtain⟨A4,c4,rfl⟩:=slice_of_row hown4;have kb:=put_keep HBLK.out HNE.out (by repeat(first|exact hext|apply Ext.alloc|apply Ext.drew|apply Ext.drewN)) hgrow4;obtain⟨q0,q1,qfr,qlt⟩:=cells2 kb;have ST:=Qq (put_step (bw:=bw) (by repeat(first|exact hext|apply Ext.alloc|apply Ext.drew|apply Ext.drewN)) hgrow4 (hat4.imp id fun e=>by simp [e]));have HROW4:=Qq hown4;have KB:=Qq kb;clear hown4 hgrow4 hat4 kb)
  all_goals
   go_wp2_with fail;go_ret;refine⟨.slice A4 (o.length+1) c4,ret_int (by rw [List.idxOf_eq_length HNOT.out]),?_,?_,?_⟩
   ·exact set_first KB.out _
   ·rw [show addN o x=o++ [x] by unfold addN;rw [if_neg HNOT.out]];refine ownsRow_setCell_other (a:=⟨bw,0,none⟩) ?_ (put_row_ne ST.out HNE.out (lt_heap HBLK.out)) _;have h4:=HROW4.out
    simpa using h4
   exact ST.out.trans (PStep.set_ _ _ ⟨bw,0,none⟩ rfl _)
def DoneL(f o:List Nd)(d:List Int):Prop:=d.length=f.length/\∀i,i < f.length->d[i]?=some (-1)\/(finN f i o=(o,(finN f i o).2)/\d[i]?=some (((finN f i o).2:Nat):Int))
theorem DoneL.grow {f o o':List Nd} {d:List Int}(hf:Wf f)(h:DoneL f o d)(hp:o <+: o'):DoneL f o' d:=by
 refine⟨h.1,fun i hi=> ?_⟩;rcases h.2 i hi with h1|⟨h1,h2⟩
 ·exact .inl h1
 have hg:=finN_again hf i o o' hi (by rw [h1];exact hp);exact .inr ⟨by rw [hg],by rw [hg];exact h2⟩
theorem DoneL.put {f o:List Nd} {d:List Int} {i:Nat}(h:DoneL f o d)(hi:i < f.length)(hfin:finN f i o=(o,(finN f i o).2)):DoneL f o (d.set i (((finN f i o).2:Nat):Int)):=by
 refine⟨by simpa using h.1,fun j hj=> ?_⟩;by_cases e:j=i
 ·subst e;exact .inr ⟨hfin,by rw [List.getElem?_set_self (by rw [h.1];exact hi)]⟩
 rw [List.getElem?_set_ne (Ne.symm e)];exact h.2 j hj
structure RInv (bw:Nat) (W0 w:World) (A:Option Addr) (c:Nat) (f o:List Nd) (d:List Int) (vo vd:Value):Prop where
 below:Go.RowKit.Below W0.heap.size W0 w
 nds:NdsAt W0 A c f
 blk:w.heap[bw]?=some (.cells #[vo,vd] 157 (0,0))
 row:w.ownsRow W0.heap.size 93 6 vo o.length (o.flatMap Nd.cells)
 drow:w.ownsRow W0.heap.size 3 1 vd f.length (d.map (Value.int .i64))
 done:DoneL f o d
 low:W0.heap.size<=bw
 oks:∀n∈o,n.ok
structure FStep (bw:Nat) (vd:Value) (w w':World) (v v':Value):Prop where
 os:w'.os=w.os
 tape:w'.tape=w.tape
 output:w'.output=w.output
 size:w.heap.size<=w'.heap.size
 block:∀k,k < w.heap.size->k≠bw->vd.ownBlock≠some k->v.ownBlock≠some k->w'.heap[k]?=w.heap[k]?
 row:∀g,v'.ownBlock=some g->v.ownBlock=some g\/w.heap.size<=g
section
variable {a b c w w':World} {va vb vc v v' vd:Value} {bw:Nat}
theorem FStep.refl(w:World)(v:Value):FStep bw vd w w v v:=⟨rfl,rfl,rfl,Nat.le_refl _,fun _ _ _ _ _=>rfl,fun _ h=> .inl h⟩
theorem FStep.trans(h:FStep bw vd a b va vb)(k:FStep bw vd b c vb vc):FStep bw vd a c va vc :=
 ⟨k.os.trans h.os,k.tape.trans h.tape,k.output.trans h.output,Qx h.size k.size,
  fun i hi hb hd h4=>(k.block i (Qy hi h.size) hb hd (fun e=>by
   rcases h.row i e with e'|e'
   ·exact h4 e'
   omega)).trans (h.block i hi hb hd h4),
  fun g hg=>by
   rcases k.row g hg with e|e
   ·exact h.row g e
   exact .inr (Qx h.size e)⟩
theorem FStep.of_ext(e:Ext a b):FStep bw vd a b v v:=⟨e.os,e.tape,e.output,e.size,fun _ hk _ _ _=>e.block hk,fun _ h=> .inl h⟩
theorem FStep.of_p(h:PStep bw a b va vb):FStep bw vd a b va vb:=⟨h.os,h.tape,h.output,h.size,fun k hk hb _ hv=>h.block k hk hb hv,h.row⟩
theorem FStep.set_(w:World)(v:Value)(p:Addr)(hp:vd.ownBlock=some p.block)(u:Value):FStep bw vd w (w.setCell p u) v v :=
 ⟨rfl,rfl,rfl,by simp [World.setCell],fun k _ _ hd _=>Below.heap_setCell _ _ _ _ (fun e=>hd (by rw [hp,e])),fun _ h=> .inl h⟩
end
section
variable {bw:Nat} {W0 we w w':World} {A:Option Addr} {c:Nat} {f o:List Nd} {d:List Int} {vo vd voe:Value} {bx:Nat} {m:Nd}
theorem row_type {w:World} {base k:Nat} {e t:TypeId} {size n:Nat} {v:Value} {xs:List Value} {cs:Array Value}(h:w.ownsRow base e size v n xs)(hk:w.heap[k]?=some (.cells cs t (0,0)))(ht:t≠e):v.ownBlock≠some k:=by
 intro hg;rcases h.2 with⟨rfl,_⟩|⟨g,cap,cur,rfl,_,hb,_⟩
 ·cases hg
 obtain rfl:g=k:=by simpa [Value.ownBlock]using hg
 rw [hb]at hk;injection hk with hk;injection hk with _ hk;exact ht hk.symm
theorem row_row {w:World} {b1 b2:Nat} {e1 e2:TypeId} {s1 s2 n1 n2:Nat} {v1 v2:Value} {xs1 xs2:List Value}(h1:w.ownsRow b1 e1 s1 v1 n1 xs1)(h2:w.ownsRow b2 e2 s2 v2 n2 xs2)(hne:e1≠e2):
 ∀g,v1.ownBlock=some g->v2.ownBlock≠some g:=by
 intro g hg;rcases h1.2 with⟨rfl,_⟩|⟨g',cap,cur,rfl,_,hb,_⟩
 ·cases hg
 obtain rfl:g'=g:=by simpa [Value.ownBlock]using hg
 exact row_type h2 hb hne
theorem RInv.aparts(h:RInv bw W0 w A c f o d vo vd):vo.ownBlock≠some bw/\vd.ownBlock≠some bw/\(∀g,vd.ownBlock=some g->vo.ownBlock≠some g):=
 ⟨row_type h.row h.blk (by decide),row_type h.drow h.blk (by decide),row_row h.drow h.row (by decide)⟩
theorem RInv.keep(h:RInv bw W0 w A c f o d vo vd)(hb:Go.RowKit.Below W0.heap.size W0 w')(hk:∀k,k < w.heap.size->(k=bw\/vo.ownBlock=some k\/vd.ownBlock=some k)->w'.heap[k]?=w.heap[k]?):RInv bw W0 w' A c f o d vo vd :=
 ⟨hb,h.nds,(hk _ (lt_heap h.blk) (by simp)).trans h.blk,row_keep h.row fun g hg=>hk g (h.row.lt g hg).2 (by simp [hg]),row_keep h.drow fun g hg=>hk g (h.drow.lt g hg).2 (by simp [hg]),h.done,h.low,h.oks⟩
theorem RInv.ext(h:RInv bw W0 w A c f o d vo vd)(he:Ext w w'):RInv bw W0 w' A c f o d vo vd :=
 h.keep (h.below.trans (Below.mono he h.below.size)) fun _ hk _=>he.block hk
structure RMid (bw:Nat) (W0 we w:World) (A:Option Addr) (c:Nat) (f o:List Nd) (d:List Int) (voe vo vd:Value) (bx:Nat) (m:Nd):Prop where
 inv:RInv bw W0 w A c f o d vo vd
 step:FStep bw vd we w voe vo
 bwlt:bw < we.heap.size
 dlt:∀g,vd.ownBlock=some g->g < we.heap.size
 box:w.heap[bx]?=some (.cells #[.int .i64 m.op,.int .i64 m.i,.int .i64 m.e,.int .i64 m.g,.int .i64 m.x,.int .i64 m.y] 93 (0,0))
 fresh:we.heap.size<=bx/\vo.ownBlock≠some bx
theorem RMid.start(h:RInv bw W0 we A c f o d vo vd)(n:Nd):RMid bw W0 we (we.alloc (.cells #[.int .i64 n.op,.int .i64 n.i,.int .i64 n.e,.int .i64 n.g,.int .i64 n.x,.int .i64 n.y] 93)) A c f o d vo vo vd we.heap.size n :=
 ⟨h.ext (Qz.alloc _),FStep.of_ext (Qz.alloc _),lt_heap h.blk,fun g hg=>(h.drow.lt g hg).2,heap_alloc_new _ _,Nat.le_refl _,fun e=>absurd (h.row.lt _ e).2 (by omega)⟩
theorem RMid.call {o':List Nd} {d':List Int} {vo':Value}(h:RMid bw W0 we w A c f o d voe vo vd bx m)(he:RInv bw W0 w' A c f o' d' vo' vd)(hs:FStep bw vd w w' vo vo'):RMid bw W0 we w' A c f o' d' voe vo' vd bx m:=by
 obtain⟨f1,f4⟩:=h.fresh;have hbx:=lt_heap h.box;have hb:=h.bwlt;refine⟨he,h.step.trans hs,h.bwlt,h.dlt,(hs.block _ hbx (by omega) (fun e=>by have:=h.dlt _ e;omega) f4).trans h.box,f1,fun e=> ?_⟩;rcases hs.row _ e with e|e
 ·exact f4 e
 omega
theorem RMid.store(h:RMid bw W0 we w A c f o d voe vo vd bx m)(j:Nat)(u:Value)(m':Nd)
 (hm:(#[.int .i64 m.op,.int .i64 m.i,.int .i64 m.e,.int .i64 m.g,.int .i64 m.x,.int .i64 m.y]:Array Value).setIfInBounds j u=#[.int .i64 m'.op,.int .i64 m'.i,.int .i64 m'.e,.int .i64 m'.g,.int .i64 m'.x,.int .i64 m'.y]):
 RMid bw W0 we (w.setCell ⟨bx,j,none⟩ u) A c f o d voe vo vd bx m':=by
 obtain⟨f1,f4⟩:=h.fresh;have hb:=h.bwlt;have hlow:=h.inv.low;have hoth:∀k,k≠bx->(w.setCell ⟨bx,j,none⟩ u).heap[k]?=w.heap[k]?:=fun k hk=>Below.heap_setCell _ _ _ _ hk
 have hsz:(w.setCell ⟨bx,j,none⟩ u).heap.size=w.heap.size:=by simp [World.setCell]
 refine⟨h.inv.keep (h.inv.below.setCell (by show W0.heap.size<=bx;omega) _) fun k _ hk=>hoth k ?_,?_,h.bwlt,h.dlt,?_,f1,f4⟩
 ·rcases hk with hk|hk|hk
  ·omega
  ·exact fun e=>f4 (by rw [hk,e])
  intro e;have:=h.dlt k hk;omega
 ·exact⟨h.step.os,h.step.tape,h.step.output,by rw [hsz];exact h.step.size,fun k hk h1 h2 h3=>(hoth k (by omega)).trans (h.step.block k hk h1 h2 h3),h.step.row⟩
 have hb:=h.box;simp only [World.setCell,Array.getElem?_modify,hb,if_true,Option.map_some];simp [hm]
theorem row_set {w:World} {base:Nat} {e:TypeId} {n g cap i:Nat} {xs:List Value}(h:w.ownsRow base e 1 (.slice (some ⟨g,0,none⟩) n cap) n xs)(u:Value):
 (w.setCell ⟨g,i,none⟩ u).ownsRow base e 1 (.slice (some ⟨g,0,none⟩) n cap) n (xs.set i u):=by
 refine⟨by simpa using h.1,.inr ?_⟩;rcases h.2 with⟨he,_⟩|⟨g',cap',cur,he,hb,hg,hn,hm,hs,ht⟩
 ·cases he
 injection he with e1 _ e3;injection e1 with e1;injection e1 with e1;subst e1 e3;refine⟨g,cap,cur.setIfInBounds i u,rfl,hb,?_,hn,hm,by simpa using hs,?_⟩
 ·simp only [World.setCell,Array.getElem?_modify,hg,if_true,Option.map_some];simp
 rw [<-ht];simp only [Array.toList_setIfInBounds];rw [List.take_set]
theorem set_get {d:List Int} {i n:Nat} {z:Int}(h:d.length=n)(hi:i < n):(d.set i z)[i]?=some z:=by rw [List.getElem?_set_self (by omega)]
theorem rmid_put {g cap i:Nat} {w5:World} {vo3:Value}(hf:Wf f)(h:RMid bw W0 we w A c f o d voe vo (.slice (some ⟨g,0,none⟩) f.length cap) bx m) {o0:List Nd}(hfin:finN f i o0=(addN o m,o.idxOf m))(hi:i < f.length)
 (hblk:w5.heap[bw]?=some (.cells #[vo3,.slice (some ⟨g,0,none⟩) f.length cap] 157 (0,0)))(hrow:w5.ownsRow W0.heap.size 93 6 vo3 (addN o m).length ((addN o m).flatMap Nd.cells))(hst:PStep bw w w5 vo vo3)(hok:m.ok):
 d.length=f.length/\Hid (RInv bw W0 (w5.setCell ⟨g,i,none⟩ (.int .i64 (o.idxOf m:Nat))) A c f (addN o m) (d.set i (o.idxOf m:Nat)) vo3 (.slice (some ⟨g,0,none⟩) f.length cap))/\
  Hid (FStep bw (.slice (some ⟨g,0,none⟩) f.length cap) we (w5.setCell ⟨g,i,none⟩ (.int .i64 (o.idxOf m:Nat))) voe vo3):=by
 obtain⟨a1,a2,a3⟩:=h.inv.aparts;have hg:=(h.inv.drow.lt g rfl);have hgb:w5.heap[g]?=w.heap[g]?:=hst.block g hg.2 (fun e=>a2 (by rw [<-e];rfl)) (a3 g rfl);have hgbw:g≠bw:=fun e=>a2 (by rw [<-e];rfl)
 have hvg:vo3.ownBlock≠some g:=fun e=>by
  rcases hst.row g e with e1|e1
  ·exact a3 g rfl e1
  omega
 have hdrow:w5.ownsRow W0.heap.size 3 1 (.slice (some ⟨g,0,none⟩) f.length cap) f.length (d.map (Value.int .i64)):=row_keep h.inv.drow fun k hk=>by
  injection hk with hk;subst hk;exact hgb
 have hag:=finN_again hf i o0 (addN o m) hi (by rw [hfin];exact List.prefix_refl _);rw [hfin]at hag;refine⟨h.inv.done.1,⟨?_,h.inv.nds,?_,?_,?_,?_,h.inv.low,?_⟩,?_⟩
 ·refine Below.setCell (Below.trans h.inv.below ?_) (by exact hg.1) _;refine⟨hst.os,hst.tape,hst.output,hst.size,fun k hk=>hst.block k (Qy hk h.inv.below.size) (by have:=h.inv.low;omega) (fun e=> ?_)⟩;have:=(h.inv.row.lt k e).1;omega
 ·exact(Below.heap_setCell _ _ _ _ (Ne.symm hgbw)).trans hblk
 ·exact ownsRow_setCell_other hrow hvg _
 ·have h2:=row_set hdrow (i:=i) (.int .i64 (o.idxOf m:Nat));rw [<-List.map_set]at h2;exact h2
 ·have h3:=(h.inv.done.grow hf (addN_prefix o m)).put hi (by rw [hag]);rw [hag]at h3;exact h3
 ·intro n hn;unfold addN at hn
  split at hn
  ·exact h.inv.oks n hn
  rcases List.mem_append.1 hn with hn|hn
  ·exact h.inv.oks n hn
  rw [List.mem_singleton.1 hn];exact hok
 exact h.step.trans ((FStep.of_p hst).trans (FStep.set_ _ _ ⟨g,i,none⟩ rfl _))
end
def RFinSaid(bw:Nat)(W0:World)(A:Option Addr)(c:Nat)(f:List Nd)(vd:Value)(z:Int):Prop :=
 ∀(w:World) (o:List Nd) (d:List Int) (vo:Value),RInv bw W0 w A c f o d vo vd->pot f o<=f.length->
  Calls Tryz.prog 147 #[.slice A f.length c,.int .i64 z,.pointer (some ⟨bw,0,none⟩)] w
   fun e w'=>∃vo' d',e=.returned (.int .i64 (finN f z.toNat o).2)/\RInv bw W0 w' A c f (finN f z.toNat o).1 d' vo' vd/\FStep bw vd w w' vo vo'
theorem rfin_done {bw:Nat} {W0 w:World} {A:Option Addr} {c:Nat} {f o:List Nd} {d:List Int} {vo vd:Value}(h:RInv bw W0 w A c f o d vo vd)(hlen:f.length<=1000)(i k:Nat)(hi:i < f.length)(hd:d[i]?=some (k:Int)):
 Calls Tryz.prog 147 #[.slice A f.length c,.int .i64 i,.pointer (some ⟨bw,0,none⟩)] w fun e w'=>e=.returned (.int .i64 k)/\w=w':=by
 obtain⟨b0,b1,bfr,blt⟩:=cells2 h.blk;obtain⟨g,cap,rfl,hg,hcap,hmax,hcell⟩:=done_cells h.drow (by omega);obtain⟨hc,_⟩:=hcell i k hd;have hc':w.cell? ((⟨g,0,none⟩:Addr).add i)=some (.int .i64 (k:Int)):=by rw [addr_zero];exact hc
 unfold maxLen at hmax;clear hcell h hd;go_enter Tryz.func147,Tryz.ntmps147;go_wp2_with fail;go_ret;exact⟨rfl,rfl⟩
theorem PStep.undrew {bw:Nat} {w w':World} {v v':Value}(h:PStep bw w.drew w' v v'):PStep bw w w' v v':=⟨h.os,h.tape,h.output,h.size,h.block,h.row⟩
theorem done_after {bw:Nat} {W0 w w5:World} {A:Option Addr} {c i g cap:Nat} {f o:List Nd} {d:List Int} {vo vo3:Value}(h:RInv bw W0 w A c f o d vo (.slice (some ⟨g,0,none⟩) f.length cap))(hi:i < f.length)(hst:PStep bw w w5 vo vo3):
 (∃z,w5.cell? ⟨g,i,none⟩=some (.int .i64 z))/\w5.frozen? ⟨g,i,none⟩=false/\g < w5.heap.size:=by
 obtain⟨g',cap',e',hg',_,_,hcell'⟩:=done_cells h.drow (by omega);obtain⟨rfl,rfl⟩:g=g'/\cap=cap':=by injection e' with e1 _ e3;injection e1 with e1;injection e1 with e1;exact⟨e1,e3⟩
 have hl:i < d.length:=by rw [h.done.1];exact hi
 obtain⟨c1,c2⟩:=hcell' i _ (Qv hl);obtain⟨a1,a2,a3⟩:=h.aparts;have hb:=hst.block g hg' (fun e=>a2 (by rw [<-e];rfl)) (a3 g rfl);exact⟨⟨_,(World.cell?_of_block (a:=⟨g,i,none⟩) hb).trans c1⟩,(World.frozen?_of_block (a:=⟨g,i,none⟩) hb).trans c2,Qy hg' hst.size⟩
theorem rfin_new {bw:Nat} {W0 w:World} {A:Option Addr} {c:Nat} {f o:List Nd} {d:List Int} {vo vd:Value}(hf:Wf f)(hok:∀n∈f,n.ok)(h:RInv bw W0 w A c f o d vo vd)(hlen:f.length<=1000)(i:Nat)(n:Nd)(hn:f[i]?=some n)
 (hd:d[i]?=some (-1))(hpot:pot f o<=f.length)(ih:∀z:Int,0<=z->z < i->RFinSaid bw W0 A c f vd z)(ux uy:Bool)(hux:hasX n.op=ux)(huy:hasY n.op=uy):
 Calls Tryz.prog 147 #[.slice A f.length c,.int .i64 i,.pointer (some ⟨bw,0,none⟩)] w
  fun e w'=>∃vo' d',e=.returned (.int .i64 (finN f i o).2)/\RInv bw W0 w' A c f (finN f i o).1 d' vo' vd/\FStep bw vd w w' vo vo':=by
 have hi:i < f.length:=(List.getElem?_eq_some_iff.1 hn).1;obtain⟨b0,b1,bfr,blt⟩:=cells2 h.blk;obtain⟨g,cap,rfl,hg,hcap,hmax,hcell⟩:=done_cells h.drow (by omega);obtain⟨hc,_⟩:=hcell i _ hd;unfold maxLen at hmax;obtain⟨ad,rfl,hlt,hcells⟩:=h.nds.2.2 (by intro e;rw [e]at hi;simp at hi);have hcapl:=h.nds.1;have hcapm:=h.nds.2.1;unfold maxLen at hcapm;obtain⟨c0,c1,c2,c3,c4,c5⟩:=(hcells i n hn).keep fun p hp=>h.below.cell (p:=p) (by rw [hp,block_of_add];exact hlt)
 have hadw:(ad.add (i*6)).block < w.heap.size:=by rw [block_of_add];exact Qy hlt h.below.size
 have HCELLS:=Qq (hcells i n hn);have H:=Qq h;have HN:=Qq hn;have HUX:=Qq hux;have HUY:=Qq huy;have IH:=Qq ih;have HF:=Qq hf;have HOK:=Qq hok;have HP:=Qq hpot;clear h hn hux huy ih hcells hf hok hcell hd hpot;have HMS:=Qq (RMid.start H.out n);go_enter Tryz.func147,Tryz.ntmps147;go_upto_if 29 with(go_at_call 89;refine(usesX_as HUX.out _).mono ?_;rintro e w' ⟨rfl,rfl⟩);go_cut [] (fun wx=>∃vo1 d1,RMid bw W0 w wx (some ad) c f (opX f n o).1 d1 vo vo1 (.slice (some ⟨g,0,none⟩) f.length cap) w.heap.size (n.with_ (opX f n o).2 n.y.toNat))
 case first =>
  cases ux
  ·go_wp2_with fail;go_meet;exact⟨vo,d,by rw [opX_no HUX.out,with_x HUX.out (fun e=>((HF.out i n HN.out).2 e).1)];exact HMS.out⟩
  obtain⟨hx0,hx1⟩:=(HF.out i n HN.out).1 HUX.out;go_wp2_with fail;refine(IH.out n.x hx0 hx1 _ _ _ _ HMS.out.inv HP.out).mono ?_;rintro e w2 ⟨vo1,d1,rfl,hinv,hstep⟩;have HM2:=Qq (HMS.out.call hinv hstep);clear hinv hstep;obtain⟨⟨d0,d1',d2,d3,d4,d5⟩,dfr,dlt⟩:=cells6 HM2.out.box;go_wp2_with fail;go_meet;refine⟨vo1,d1,?_⟩;rw [opX_yes HUX.out];exact HM2.out.store 4 _ _ (store_x HUX.out (fun e=>((HF.out i n HN.out).2 e).1))
 case rest =>
  obtain⟨vo1,d1,hmid1⟩:=hcut;have HP1:Hid (pot f (opX f n o).1<=f.length):=Qq (Qx (pot_opX HF.out HN.out o) HP.out);obtain⟨o1,k1,ho1⟩:∃o1 k1,opX f n o=(o1,k1):=⟨_,_,rfl⟩;have HO1:=Qq ho1;rw [ho1]at hmid1 HP1;simp only at hmid1 HP1;clear ho1 b0 b1 bfr blt hc c0 c1 c2 c3 c4 c5 hadw HMS;obtain⟨⟨q0,q1,q2,q3,q4,q5⟩,qfr,qlt⟩:=cells6 hmid1.box;rw [show(n.with_ k1 n.y.toNat).op=n.op from rfl]at q0;obtain⟨c0,c1,c2,c3,c4,c5⟩:=HCELLS.out.keep fun p hp=>hmid1.inv.below.cell (p:=p) (by rw [hp,block_of_add];exact hlt)
  have HM:=Qq hmid1;clear hmid1;go_upto_if 41 with(go_at_call 90;refine(usesY_as HUY.out _).mono ?_;rintro e w' ⟨rfl,rfl⟩);go_cut [] (fun wx=>∃vo2 d2,RMid bw W0 w wx (some ad) c f (opY f n o1).1 d2 vo vo2 (.slice (some ⟨g,0,none⟩) f.length cap) w.heap.size (n.with_ k1 (opY f n o1).2))
  case first =>
   cases uy
   ·go_wp2_with fail;go_meet;exact⟨vo1,d1,by rw [opY_no HUY.out,with_y2 HUY.out];exact HM.out⟩
   obtain⟨hy0,hy1⟩:=(HF.out i n HN.out).2 HUY.out;go_wp2_with fail;refine(IH.out n.y hy0 hy1 _ _ _ _ HM.out.inv HP1.out).mono ?_;rintro e w2 ⟨vo2,d2,rfl,hinv,hstep⟩;have HM2:=Qq (HM.out.call hinv hstep);clear hinv hstep q0 q1 q2 q3 q4 q5 qfr qlt c0 c1 c2 c3 c4 c5;obtain⟨⟨q0,q1,q2,q3,q4,q5⟩,qfr,qlt⟩:=cells6 HM2.out.box;go_wp2_with fail;go_meet;refine⟨vo2,d2,?_⟩;rw [opY_yes HUY.out];exact HM2.out.store 5 _ _ (store_y HUY.out _ rfl)
  case rest =>
   obtain⟨vo2,d2,hmid2⟩:=hcut;have HP2:Hid (pot f (opY f n o1).1<=f.length):=Qq (Qx (pot_opY HF.out HN.out o1) HP1.out);obtain⟨o2,k2,ho2⟩:∃o2 k2,opY f n o1=(o2,k2):=⟨_,_,rfl⟩;have HO2:=Qq ho2;rw [ho2]at hmid2 HP2;simp only at hmid2 HP2;clear ho2 q0 q1 q2 q3 q4 q5 qfr qlt c0 c1 c2 c3 c4 c5;have hk1:k1<=1000:=k1_le HF.out HN.out HO1.out hlen HP1.out;have hk2:k2<=1000:=k2_le HF.out HN.out HO2.out hlen HP2.out;have HMOK:=Qq (with_ok (HOK.out n (List.mem_of_getElem? HN.out)) hk1 hk2);have HFIN:=Qq (fin_is HF.out HN.out HO1.out HO2.out);clear hk1 hk2;generalize n.with_ k1 k2=mm at hmid2 HMOK HFIN;obtain⟨⟨q0,q1,q2,q3,q4,q5⟩,qfr,qlt⟩:=cells6 hmid2.box
   obtain⟨b0,b1,bfr,blt⟩:=cells2 hmid2.inv.blk;have HM2:=Qq hmid2;clear hmid2;go_upto_region 8 with(fail);go_cut [] (fun wx=>∃vo3 d3,Hid (d3[i]?=some ((o2.idxOf mm:Nat):Int))/\Hid (RInv bw W0 wx (some ad) c f (addN o2 mm) d3 vo3 (.slice (some ⟨g,0,none⟩) f.length cap))/\Hid (FStep bw (.slice (some ⟨g,0,none⟩) f.length cap) w wx vo vo3))
   case first =>
    have hap:=HM2.out.inv.aparts;have HRUN:=Qq (put_any bw W0.heap.size mm o2 vo2 (.slice (some ⟨g,0,none⟩) f.length cap));have HAP:=Qq hap;have hp2:o2.length<=1000:=Qx (length_le_pot f o2) (Qx HP2.out hlen);clear hap;go_region_with (go_at_call 163;refine(HRUN.out _ (by exact HM2.out.inv.blk) (by exact HM2.out.inv.row) (by exact HM2.out.inv.below.size) hp2 HAP.out.1).mono ?_;rintro e w5 ⟨vo3,rfl,hblk5,hrow5,hst5'⟩;have hst5:PStep bw wc w5 vo2 vo3:=(by first|exact hst5'|exact PStep.undrew hst5');obtain⟨r0,r1,rfr,rlt⟩:=cells2 hblk5;obtain⟨⟨z0,s0⟩,s1,slt⟩:=done_after HM2.out.inv hi hst5;have H5:=Qq (rmid_put HF.out HM2.out HFIN.out hi hblk5 hrow5 hst5 HMOK.out);clear hblk5 hrow5 hst5 hst5')
    all_goals
     go_wp2_with fail;go_meet;exact⟨vo3,_,Qq (set_get H5.out.1 hi),H5.out.2.1,H5.out.2.2⟩
   case rest =>
    obtain⟨vo3,d3,HD3,HI3,HS3⟩:=hcut;obtain⟨b0',b1',bfr',blt'⟩:=cells2 HI3.out.blk;obtain⟨g',cap',e',hg',hcap',hmax',hcell'⟩:=done_cells HI3.out.drow (by omega);obtain⟨rfl,rfl⟩:g=g'/\cap=cap':=by injection e' with e1 _ e3;injection e1 with e1;injection e1 with e1;exact⟨e1,e3⟩
    have hc3:=(hcell' i _ HD3.out).1;clear hcell' e';go_wp2_with fail;go_ret;refine⟨vo3,d3,ret_int ?_,?_,HS3.out⟩
    ·rw [HFIN.out]
    rw [HFIN.out];exact HI3.out
theorem rfin_any {bw:Nat} {W0:World} {A:Option Addr} {c:Nat} {f:List Nd} {vd:Value}(hf:Wf f)(hok:∀n∈f,n.ok)(hlen:f.length<=1000):
 ∀i:Nat,i < f.length->RFinSaid bw W0 A c f vd i:=by
 intro i
 induction i using Nat.strongRecOn with
 |_ i ih =>
  intro hi w o d vo hinv hpot;obtain⟨n,hn⟩:∃n,f[i]?=some n:=⟨_,Qv hi⟩;rw [Int.toNat_natCast];rcases hinv.done.2 i hi with hd|⟨hfin,hd⟩
  ·refine rfin_new hf hok hinv hlen i n hn hd hpot (fun z h0 h1=> ?_) _ _ rfl rfl;obtain⟨j,rfl⟩:=Int.eq_ofNat_of_zero_le h0;exact ih j (by omega) (by omega)
  refine(rfin_done hinv hlen i _ hi hd).mono ?_;rintro e w' ⟨rfl,rfl⟩;exact⟨vo,d,rfl,by rw [hfin];exact hinv,FStep.refl _ _⟩
theorem refCheck_any(v:Value)(l:List Nd)(w:World)(h:Nds w v l):
 Calls Tryz.prog 54 #[v] w fun e w'=>e=.returned (.int .i64 (check l))/\Ext w w':=by
 obtain⟨A,c,rfl,hcap,hmax,hread⟩:=h;unfold maxLen at hmax;by_cases h0:l.length=0
 ·have hcheck:check l=3:=by simp [check,h0]
  rw [h0,hcheck];clear hcheck hread;go_enter Tryz.func54,Tryz.ntmps54;go_wp2_with fail;go_ret;exact⟨rfl,Qz⟩
 have e0:((l.length:Int)==0)=false:=by rw [beq_eq_false_iff_ne];omega
 by_cases h1:200 < l.length
 ·have hcheck:check l=8:=by simp [check,h0,h1]
  rw [hcheck];clear hcheck hread;go_enter Tryz.func54,Tryz.ntmps54;go_wp2_with fail;go_ret;exact⟨rfl,Qz⟩
 have hne:l≠ []:=fun e=>h0 (by simp [e])
 obtain⟨ad,rfl,hlt,hcells⟩:=hread hne;have HC:=Qq hcells;clear hcells;have HK:=Qq (show check l=checkNodes l 0 by simp [check,h0,h1]);have hl:l.length<=200:=by omega
 clear h0 h1 hread;go_enter Tryz.func54,Tryz.ntmps54;go_wp2_with fail;go_loopw [3] (fun i wr=>∃k:Nat,k<=l.length/\i=.int .i64 k/\Hid (checkNodes l 0=checkNodes (l.drop k) k)/\Ext w wr) (fun i _=>l.length - (intOf i).toNat)
 case atStart=>exact⟨0,Nat.zero_le _,rfl,Qq rfl,Qz⟩
 case round =>
  obtain⟨k,hk,rfl,hrest,hext⟩:=hrel;by_cases hlt2:k < l.length
  ·obtain⟨n,hn⟩:∃n,l[k]?=some n:=⟨_,Qv hlt2⟩;have hst:=checkNodes_step l k n hn;obtain⟨c0,c1,c2,c3,c4,c5⟩:=(HC.out k n hn).keep fun p hp=>hext.cell (p:=p) (by rw [hp,block_of_add];exact hlt)
   by_cases he:nodeErr n k=0
   ·have hst2:Hid (checkNodes l 0=checkNodes (l.drop (k+1)) ((k+1:Nat):Int)):=Qq (by rw [hrest.out,hst,he];rfl);have hh:=Qq he;clear hst he hn hrest;go_wp2_with(go_at_call 105;refine(refNode_any n _ _).mono ?_;rintro e w1 ⟨rfl,hb⟩;rw [hh.out]);go_roundw
    case rel=>exact⟨k+1,by omega,by go_num,hst2,hext.trans hb⟩
    case measure=>simp [intOf];omega
   have hh:(nodeErr n k !=0)=true:=by simpa using he
   have hst2:Hid (checkNodes l 0=nodeErr n k):=Qq (by rw [hrest.out,hst,hh];rfl);clear hst he hn hrest;go_wp2_with(go_at_call 105;refine(refNode_any n _ _).mono ?_;rintro e w1 ⟨rfl,hb⟩);go_ret;exact⟨ret_int (by rw [HK.out,hst2.out]),hext.trans hb⟩
  obtain rfl:l.length=k:=by omega
  go_wp2_with fail;go_ret;refine⟨ret_int ?_,hext⟩;rw [HK.out,hrest.out];simp [checkNodes]
theorem put_keep2 {w W w4:World} {bw:Nat} {v v0 v1:Value} {t:TypeId}(hb:w.heap[bw]?=some (.cells #[v0,v1] t (0,0)))(hne:v.ownBlock≠some bw)(he:Ext w W)(hg:W.grownBy w4 v.ownBlock):w4.heap[bw]?=some (.cells #[v0,v1] t (0,0)):=
 ((hg.block bw (Qy (lt_heap hb) he.size) (fun e=>hne e.symm)).trans (he.block (lt_heap hb))).trans hb
structure RSub (w1:World) (k:Nat) (vd:Value) (wr:World):Prop where
 blk:wr.heap[w1.heap.size]?=some (.cells #[.slice none 0 0,vd] 157 (0,0))
 row:wr.ownsRow (w1.heap.size+1) 3 1 vd k ((List.replicate k (-1:Int)).map (Value.int .i64))
 ext:Ext w1 wr
theorem sub_next {w1 w4:World} {k:Nat} {v' v0:Value} {xs:List Value}(hb:w4.heap[w1.heap.size]?=some (.cells #[.slice none 0 0,v0] 157 (0,0)))(hr:w4.ownsRow (w1.heap.size+1) 3 1 v' (k+1) (xs++ [.int .i64 (-1)]))
 (hne:v'.ownBlock≠some w1.heap.size)(hx:Ext w1 w4)(hxs:xs=(List.replicate k (-1:Int)).map (Value.int .i64)):∃vd,RSub w1 (k+1) vd (w4.setCell ⟨w1.heap.size,1,none⟩ v'):=by
 refine⟨v',set_second hb _,ownsRow_setCell_other (a:=⟨w1.heap.size,1,none⟩) ?_ hne _,Ext.setCell hx (Nat.le_refl _) _⟩;subst hxs;rw [List.replicate_succ',List.map_append];exact hr
theorem refSub_any(v:Value)(l:List Nd)(z:Int)(w:World)(h:Fml w v l):
 Calls Tryz.prog 92 #[v,.int .i64 z] w fun e w'=>∃u,e=.returned u/\Made w w' u (subN l z):=by
 have H:=Qq h;obtain⟨⟨A,c,rfl,hat⟩,hok⟩:=h;have HAT:=Qq hat;have hcl:=hat.1;have hcm:=hat.2.1;unfold maxLen at hcm;clear hat hok;by_cases hc:check l=0
 ·by_cases hz:z < 0
  ·have HR:=Qq (show subN l z= [] by unfold subN;simp [hz]);have HC:=Qq hc;clear hc;go_enter Tryz.func92,Tryz.ntmps92;go_wp2_with(go_at_call 54;refine(refCheck_any _ l _ H.out.1).mono ?_;rintro e w1 ⟨rfl,hb⟩;rw [HC.out]);go_ret;exact⟨_,rfl,by rw [HR.out];exact(Made.none_ _).after hb⟩
  by_cases hl:(l.length:Int)<=z
  ·have HR:=Qq (show subN l z= [] by unfold subN;simp [hl]);have HC:=Qq hc;clear hc;go_enter Tryz.func92,Tryz.ntmps92;go_wp2_with(go_at_call 54;refine(refCheck_any _ l _ H.out.1).mono ?_;rintro e w1 ⟨rfl,hb⟩;rw [HC.out]);go_ret;exact⟨_,rfl,by rw [HR.out];exact(Made.none_ _).after hb⟩
  obtain⟨r,rfl⟩:=Int.eq_ofNat_of_zero_le (show 0<=z by omega);have hr:r < l.length:=by omega
  have HR:=Qq (show subN l r=(finN l r []).1 by
   unfold subN;rw [hc];have h1:decide ((r:Int) < 0)=false:=by simp
   have h2:decide ((l.length:Int)<=(r:Int))=false:=by simp;omega
   rw [h1,h2]
   rfl)
  have HC:=Qq hc;have HL:=(check_parts hc).2.1;obtain⟨i3,hi3,hz30,hz31,hz32⟩:=info_parts tInfo3;have hd0:decide ((r:Int) < 0)=false:=by simp
  have hd1:decide (l.length<=r)=false:=by simp;omega
  clear hc;go_enter Tryz.func92,Tryz.ntmps92;go_wp2_with(go_at_call 54;refine(refCheck_any _ l _ H.out.1).mono ?_;rintro e w1 ⟨rfl,hb⟩;rw [HC.out];have HB:=Qq hb;clear hb);go_loopw [6] (fun i wr=>∃k:Nat,k<=l.length/\i=.int .i64 k/\Hid (∃vd,RSub w1 k vd wr)) (fun i _=>l.length - (intOf i).toNat)
  case atStart=>exact⟨0,Nat.zero_le _,rfl,Qq ⟨.slice none 0 0,heap_alloc_new _ _,World.ownsRow_nil _ _ _ _,Qz.alloc _⟩⟩
  case round =>
   obtain⟨k,hk,rfl,hrs⟩:=hrel;obtain⟨vd,hblk0,hrow0,hext⟩:=hrs.out;have HBLK:=Qq hblk0;have HROW:=Qq hrow0;clear hblk0 hrow0 hrs;obtain⟨Ad,cd,rfl⟩:=slice_of_row HROW.out;obtain⟨d0,d1,dfr,dlt⟩:=cells2 HBLK.out;by_cases hlt2:k < l.length
   ·have hc3:k+1<=maxLen:=by unfold maxLen;omega
    have hc4:(k+1)*8<=140737488355328:=by omega
    have hfz:=dfr 1;have HNE:=Qq (row_ne HROW.out);have hc5:∀X,w1.heap.size+1<=(wr.alloc X).heap.size:=fun X=>by simp;omega
    obtain⟨xs,hxs⟩:∃xs,xs=(List.replicate k (-1:Int)).map (Value.int .i64):=⟨_,rfl⟩;rw [<-hxs]at HROW;have HXS:=Qq hxs;clear hxs;go_wp2_with(at_builtin;refine wpList_append_own_at _ rfl _ _ 28 rfl (w1.heap.size+1) 3 i3 (.int .i64 0) 1 8 Tryz.underlying28 hi3 hz30 hz31 hz32 rfl (by decide) _ _ _ rfl (row_ext HROW.out (Qz.alloc _)) _ 1 1 [.int .i64 (-1)] rfl rfl (row_new_at _ _ _ (by simp)) (fun u hu=>by rw [List.mem_singleton.1 hu];rfl) hc3 hc4 (hc5 _) ?_);intro v' w4 hown4 hgrow4 _ hat4;obtain⟨A4,c4,rfl⟩:=slice_of_row hown4;have HROW4:=Qq hown4;have kb:=put_keep2 HBLK.out HNE.out (Qz.alloc _) hgrow4
    have HX4:=Qq ((Ext.alloc hext _).grown hgrow4 (fun g hg=>by have:=(HROW.out.lt g hg).1;omega));have HNE4:=Qq (row_ne hown4);obtain⟨q0,q1,qfr,qlt⟩:=cells2 kb;have qf1:=qfr 1;have KB:=Qq kb;clear hown4 hgrow4 hat4 kb d0 d1 dfr dlt hfz;go_wp2_with fail;go_roundw
    case rel=>exact⟨k+1,by omega,by go_num,Qq (sub_next KB.out HROW4.out HNE4.out HX4.out HXS.out)⟩
    case measure=>simp [intOf];omega
   obtain rfl:l.length=k:=by omega
   have HRUN:=Qq (rfin_any (bw:=w1.heap.size) (W0:=w) (A:=A) (c:=c) (vd:=.slice Ad l.length cd) (check_wf HC.out) H.out.2 (by omega) r hr);have HINV:Hid (RInv w1.heap.size w wr A c l [] (List.replicate l.length (-1)) (.slice none 0 0) (.slice Ad l.length cd)):=
    Qq ⟨HB.out.trans hext,HAT.out,HBLK.out,World.ownsRow_nil _ _ _ _,row_base HROW.out (Nat.le_succ_of_le HB.out.size),⟨by simp,fun i hi=> .inl (by simp [hi])⟩,HB.out.size,by simp⟩
   go_wp2_with fail;refine(HRUN.out _ _ _ _ HINV.out (pot_nil l)).mono ?_;rw [Int.toNat_natCast];rintro e w5 ⟨vo5,d5,rfl,hinv,hst⟩;obtain⟨q0,q1,qfr,qlt⟩:=cells2 hinv.blk;have HM:=Qq (show Made w w5 vo5 (subN l r) by rw [HR.out];exact⟨hinv.row,hinv.oks,hinv.below⟩);obtain⟨A6,c6,rfl⟩:=slice_of_row hinv.row;clear hinv hst;go_wp2_with fail;go_ret;exact⟨_,rfl,HM.out⟩
 have hb1:(check l !=0)=true:=by simpa using hc
 have HR:=Qq (show subN l z= [] by unfold subN;rw [hb1];rfl);clear hc;go_enter Tryz.func92,Tryz.ntmps92;go_wp2_with(go_at_call 54;refine(refCheck_any _ l _ H.out.1).mono ?_;rintro e w1 ⟨rfl,hb⟩);go_ret;exact⟨_,rfl,by rw [HR.out];exact(Made.none_ _).after hb⟩
theorem refCompact_any(v:Value)(l:List Nd)(w:World)(h:Fml w v l):
 Calls Tryz.prog 42 #[v] w fun e w'=>∃u,e=.returned u/\Made w w' u (compactN l):=by
 have H:=Qq h;obtain⟨⟨A,c,rfl,hat⟩,hok⟩:=h;have hl:=hat.1;have hm:=hat.2.1;unfold maxLen at hm;clear hat hok;go_enter Tryz.func42,Tryz.ntmps42;go_wp2_with fail;refine(refSub_any _ l _ _ H.out).mono ?_;rintro e w2 ⟨u,rfl,hm⟩;have HM:=Qq hm;clear hm;go_wp2_with fail;go_ret;exact⟨_,rfl,HM.out⟩
theorem refFrag_any(op:Int)(w:World)(ho:isOp op=true):Calls Tryz.prog 148 #[.int .i64 op] w fun e w'=>e=.returned (.int .i64 (fragOf op))/\w=w':=by
 have h1:=(isOp_iff op).1 ho;rcases op_cases op with h|h|h|h|h|h|h|h|h|h|h|h|h|h|h|h|h|h|h|h|h|h|h
 ·omega
 ·omega
 all_goals(subst h;go_enter Tryz.func148,Tryz.ntmps148;go_wp2;go_ret;exact⟨rfl,rfl⟩)
theorem heads_compact(l:List Nd):∀n∈compactN l,isOp n.op=true:=by
 intro n hn;by_cases h:check l=0
 ·exact((compactN_props h).2.2.2 n hn).1
 rw [compactN_bad h]at hn;cases hn
theorem refFrags_any(v:Value)(l:List Nd)(w:World)(h:Fml w v l):
 Calls Tryz.prog 93 #[v] w fun e w'=>e=.returned (.int .i64 (fragsN l:Nat))/\Ext w w':=by
 have H:=Qq h;clear h;go_enter Tryz.func93,Tryz.ntmps93;go_wp2_with fail;refine(refCompact_any _ l _ H.out).mono ?_;rintro e w1 ⟨u,rfl,hm⟩;have HX:=Qq hm.2.2;obtain⟨A,c,rfl,hcap,hmax,hread⟩:=hm.fml.1;unfold maxLen at hmax;have HR:=Qq hread;obtain⟨cl,hcl⟩:∃cl,cl=compactN l:=⟨_,rfl⟩;have HCL:=Qq (show fragsN l=fragMask cl by rw [hcl];rfl);have HOP:=Qq (heads_compact l);rw [<-hcl]at HR hcap HOP;rw [<-hcl];clear hm hread hcl;go_wp2_with fail;go_loopw [4,5] (fun out i wr=>∃k:Nat,k<=cl.length/\i=.int .i64 k/\out=.int .i64 (fragMask (cl.take k):Nat)/\Ext w1 wr) (fun _ i _=>cl.length - (intOf i).toNat)
 case atStart=>exact⟨0,Nat.zero_le _,rfl,rfl,Qz⟩
 case round =>
  obtain⟨k,hk,rfl,rfl,hext⟩:=hrel;by_cases hlt2:k < cl.length
  ·obtain⟨a,ha⟩:∃a,cl[k]?=some a:=⟨_,Qv hlt2⟩;obtain⟨ad,rfl,hb1,hc1⟩:=HR.out (by intro e;rw [e]at hlt2;simp at hlt2);obtain⟨a0,a1,a2,a3,a4,a5⟩:=(hc1 k a ha).keep fun p hp=>hext.cell (p:=p) (by rw [hp,block_of_add];exact hb1)
   have hfr:=fragOf_nn a.op;obtain⟨fa,hfa⟩:=Int.eq_ofNat_of_zero_le hfr.1;have hor:=i64_or_nat (fragMask (cl.take k)) fa (by have:=fragMask_lt (cl.take k);omega) (by omega);have HS:Hid (fragMask (cl.take (k+1))=(fragMask (cl.take k)|||fa)):=Qq (by rw [take_succ_eq ha,fragMask_snoc,hfa];rfl);have HFA:=Qq hfa;have HO:=Qq (HOP.out a (List.mem_of_getElem? ha));generalize fragMask (cl.take k)=m at hor HS;clear ha hc1 hfr hfa;go_wp2_with(go_at_call 148;refine(refFrag_any a.op _ HO.out).mono ?_;rintro e w2 ⟨rfl,rfl⟩;rw [HFA.out]);go_roundw
   case rel=>exact⟨k+1,by omega,by go_num,by rw [HS.out],hext⟩
   case measure=>simp [intOf];omega
  obtain rfl:cl.length=k:=by omega
  go_wp2_with fail;go_ret;exact⟨ret_int (by rw [HCL.out,List.take_of_length_le (Nat.le_refl _)]),HX.out.trans hext⟩
theorem head_agent {n:Nd}(h:headOk n)(ho:hasAgent n.op=true):0<=n.i/\n.i < 4:=by
 obtain⟨_,_,h3,_,_⟩:=h;unfold rangeBad at h3;simp only [outsideB,ho,Bool.or_eq_false_iff]at h3;simp at h3;omega
theorem head_fact {n:Nd}(h:headOk n)(ho:n.op=3):0<=n.i/\n.i < 8:=by
 obtain⟨_,_,h3,_,_⟩:=h;unfold rangeBad at h3;rw [ho]at h3;simp [outsideB,hasFact,hasAgent,hasEvent,hasGroup]at h3;omega
theorem head_group {n:Nd}(h:headOk n):0<=n.g/\n.g < 16:=by
 obtain⟨_,h2,h3,_,_⟩:=h;cases hg:hasGroup n.op
 ·unfold formBad at h2;simp only [hg,Bool.or_eq_false_iff]at h2;simp at h2;omega
 unfold rangeBad at h3;simp only [outsideB,hg,Bool.or_eq_false_iff]at h3;simp at h3;omega
def agS(s:Nat)(n:Nd):Nat:=(s|||(if hasAgent n.op then 2^n.i.toNat else 0))|||n.g.toNat
def faS(s:Nat)(n:Nd):Nat:=if n.op=3 then s|||2^n.i.toNat else s
def agentsM(l:List Nd):Nat:=l.foldl agS 0
def factsM(l:List Nd):Nat:=l.foldl faS 0
theorem agS_lt {s:Nat} {n:Nd}(h:headOk n)(hs:s < 2^4):agS s n < 2^4:=by
 unfold agS;have h1:=head_group h;refine Nat.or_lt_two_pow (Nat.or_lt_two_pow hs ?_) (by omega)
 split
 ·rename_i ho;have:=head_agent h ho;exact Nat.pow_lt_pow_right (by decide) (by omega)
 decide
theorem faS_lt {s:Nat} {n:Nd}(h:headOk n)(hs:s < 2^8):faS s n < 2^8:=by
 unfold faS
 split
 ·rename_i ho;have:=head_fact h ho;exact Nat.or_lt_two_pow hs (Nat.pow_lt_pow_right (by decide) (by omega))
 exact hs
theorem agents_lt:∀(l:List Nd) (s:Nat),(∀n∈l,headOk n)->s < 2^4->l.foldl agS s < 2^4
 |[],_,_,hs=>hs
 |n :: l,_,h,hs=>agents_lt l _ (fun n hn=>h n (List.mem_cons_of_mem _ hn)) (agS_lt (h n (List.mem_cons_self ..)) hs)
theorem facts_lt:∀(l:List Nd) (s:Nat),(∀n∈l,headOk n)->s < 2^8->l.foldl faS s < 2^8
 |[],_,_,hs=>hs
 |n :: l,_,h,hs=>facts_lt l _ (fun n hn=>h n (List.mem_cons_of_mem _ hn)) (faS_lt (h n (List.mem_cons_self ..)) hs)
theorem wrap_small {k:Nat}(hk:k < 8):wrap64 ((2:Int)^k)=((2^k:Nat):Int):=by
 have hc:k=0\/k=1\/k=2\/k=3\/k=4\/k=5\/k=6\/k=7:=by omega
 rcases hc with rfl|rfl|rfl|rfl|rfl|rfl|rfl|rfl <;> decide+kernel
theorem rAgents_any(v:Value)(l:List Nd)(w:World)(h:Fml w v l)(hck:check l=0):
 Calls Tryz.prog 51 #[v] w fun e w'=>e=.returned (.int .i64 ((agentsM (compactN l):Nat):Int))/\Ext w w':=by
 have H:=Qq h;have HH:=Qq (compactN_props hck).2.2.2;clear h hck;go_enter Tryz.func51,Tryz.ntmps51;go_wp2_with fail;refine(refCompact_any _ l _ H.out).mono ?_;rintro e w1 ⟨u,rfl,hm⟩;have HX:=Qq hm.2.2;obtain⟨A,c,rfl,hcap,hmax,hread⟩:=hm.fml.1;unfold maxLen at hmax;have HR:=Qq hread;obtain⟨cl,hcl⟩:∃cl,cl=compactN l:=⟨_,rfl⟩;have HCL:=Qq hcl;rw [<-hcl]at HR hcap HH;rw [<-hcl];clear hm hread hcl;go_wp2_with fail;go_loopw [4,5] (fun out i wr=>∃k:Nat,k<=cl.length/\i=.int .i64 k/\∃m:Nat,out=.int .i64 (m:Int)/\Hid (m=agentsM (cl.take k)/\Ext w1 wr)) (fun _ i _=>cl.length - (intOf i).toNat)
 case atStart=>exact⟨0,Nat.zero_le _,rfl,0,rfl,Qq ⟨rfl,Qz⟩⟩
 case round =>
  obtain⟨k,hk,rfl,m,rfl,HREL⟩:=hrel;have HME:=Qq HREL.out.1;have HX2:=Qq HREL.out.2;clear HREL;by_cases hlt2:k < cl.length
  ·have hk1:(k:Int) < (cl.length:Int):=by omega
   obtain⟨a,ha⟩:∃a,cl[k]?=some a:=⟨_,Qv hlt2⟩;obtain⟨ad,rfl,hb1,hc1⟩:=HR.out (by intro e;rw [e]at hlt2;simp at hlt2);obtain⟨a0,a1,a2,a3,a4,a5⟩:=(hc1 k a ha).keep fun p hp=>HX2.out.cell (p:=p) (by rw [hp,block_of_add];exact hb1)
   have hbl:(ad.add (k*6)).block < wr.heap.size:=by rw [block_of_add];exact Qy hb1 HX2.out.size
   have HO:=Qq (HH.out a (List.mem_of_getElem? ha));have HNX:=Qq (show agentsM (cl.take (k+1))=agS m a by rw [HME.out,take_succ_eq ha];unfold agentsM;rw [List.foldl_append];rfl);have hml:m < 2^4:=by rw [HME.out];exact agents_lt _ _ (fun n hn=>HH.out n (List.mem_of_mem_take hn)) (by decide)
   clear ha hc1;obtain⟨gn,hgn⟩:=Int.eq_ofNat_of_zero_le (head_group HO.out).1;have hg16:gn < 16:=by have:=(head_group HO.out).2;omega
   rw [hgn]at a3;have HGN:=Qq hgn;clear hgn;cases hag:hasAgent a.op
   ·have HST:=Qq (show agS m a=m|||gn by unfold agS;rw [hag,HGN.out];simp);have hor:=i64_or_nat m gn (by omega) (by omega);obtain⟨z,hz⟩:∃z,z=m|||gn:=⟨_,rfl⟩;rw [<-hz]at hor HST;have HAG:=Qq hag;clear hz hag;go_wp2_with fail;refine(refAgent_any a.op _).mono ?_;rintro e w2 ⟨rfl,rfl⟩;rw [HAG.out];go_wp2_with fail;go_roundw
    case rel=>exact⟨k+1,by omega,by go_num,z,rfl,Qq ⟨by rw [HNX.out,HST.out],HX2.out⟩⟩
    case measure=>simp [intOf];omega
   obtain⟨h0,h4⟩:=head_agent HO.out hag;obtain⟨ai,hai⟩:=Int.eq_ofNat_of_zero_le h0;have hai4:ai < 4:=by omega
   have hmin:min ai 64=ai:=by omega
   rw [hai]at a1;have hp4:2^ai < 16:=Qy (Nat.pow_lt_pow_right (by decide) hai4) (Nat.le_refl _);have HST:=Qq (show agS m a=(m|||2^ai)|||gn by unfold agS;rw [hag,HGN.out,hai];rfl);have hor1:bits .or .i64 (m:Int) (wrap64 ((2:Int)^ai))=((m|||2^ai:Nat):Int):=by
    rw [wrap_small (by omega)];exact i64_or_nat m (2^ai) (by omega) (by omega)
   have hm2:m|||2^ai < 2^4:=Nat.or_lt_two_pow hml hp4;have hor2:=i64_or_nat (m|||2^ai) gn (by omega) (by omega);obtain⟨y,hy⟩:∃y,y=m|||2^ai:=⟨_,rfl⟩;rw [<-hy]at hor1 hor2 HST;obtain⟨z,hz⟩:∃z,z=y|||gn:=⟨_,rfl⟩;rw [<-hz]at hor2 HST;have HAG:=Qq hag;clear hy hz hag h0 h4 hai hp4 hm2;go_wp2_with fail;refine(refAgent_any a.op _).mono ?_;rintro e w2 ⟨rfl,rfl⟩;rw [HAG.out];go_wp2_with fail;go_roundw
   case rel=>exact⟨k+1,by omega,by go_num,z,rfl,Qq ⟨by rw [HNX.out,HST.out],HX2.out⟩⟩
   case measure=>simp [intOf];omega
  obtain rfl:cl.length=k:=by omega
  have HE:=Qq (show agentsM cl=m by rw [HME.out,List.take_of_length_le (Nat.le_refl _)]);go_wp2_with fail;go_ret;exact⟨by rw [<-HCL.out,HE.out] <;> rfl,HX.out.trans HX2.out⟩
theorem rFacts_any(v:Value)(l:List Nd)(w:World)(h:Fml w v l)(hck:check l=0):
 Calls Tryz.prog 52 #[v] w fun e w'=>e=.returned (.int .i64 ((factsM (compactN l):Nat):Int))/\Ext w w':=by
 have H:=Qq h;have HH:=Qq (compactN_props hck).2.2.2;clear h hck;go_enter Tryz.func52,Tryz.ntmps52;go_wp2_with fail;refine(refCompact_any _ l _ H.out).mono ?_;rintro e w1 ⟨u,rfl,hm⟩;have HX:=Qq hm.2.2;obtain⟨A,c,rfl,hcap,hmax,hread⟩:=hm.fml.1;unfold maxLen at hmax;have HR:=Qq hread;obtain⟨cl,hcl⟩:∃cl,cl=compactN l:=⟨_,rfl⟩;have HCL:=Qq hcl;rw [<-hcl]at HR hcap HH;rw [<-hcl];clear hm hread hcl;go_wp2_with fail;go_loopw [4,5] (fun out i wr=>∃k:Nat,k<=cl.length/\i=.int .i64 k/\∃m:Nat,out=.int .i64 (m:Int)/\Hid (m=factsM (cl.take k)/\Ext w1 wr)) (fun _ i _=>cl.length - (intOf i).toNat)
 case atStart=>exact⟨0,Nat.zero_le _,rfl,0,rfl,Qq ⟨rfl,Qz⟩⟩
 case round =>
  obtain⟨k,hk,rfl,m,rfl,HREL⟩:=hrel;have HME:=Qq HREL.out.1;have HX2:=Qq HREL.out.2;clear HREL;by_cases hlt2:k < cl.length
  ·have hk1:(k:Int) < (cl.length:Int):=by omega
   obtain⟨a,ha⟩:∃a,cl[k]?=some a:=⟨_,Qv hlt2⟩;obtain⟨ad,rfl,hb1,hc1⟩:=HR.out (by intro e;rw [e]at hlt2;simp at hlt2);obtain⟨a0,a1,a2,a3,a4,a5⟩:=(hc1 k a ha).keep fun p hp=>HX2.out.cell (p:=p) (by rw [hp,block_of_add];exact hb1)
   have hbl:(ad.add (k*6)).block < wr.heap.size:=by rw [block_of_add];exact Qy hb1 HX2.out.size
   have HO:=Qq (HH.out a (List.mem_of_getElem? ha));have HNX:=Qq (show factsM (cl.take (k+1))=faS m a by rw [HME.out,take_succ_eq ha];unfold factsM;rw [List.foldl_append];rfl);have hml:m < 2^8:=by rw [HME.out];exact facts_lt _ _ (fun n hn=>HH.out n (List.mem_of_mem_take hn)) (by decide)
   clear ha hc1;by_cases h3:a.op=3
   ·obtain⟨h0,h8⟩:=head_fact HO.out h3;obtain⟨ai,hai⟩:=Int.eq_ofNat_of_zero_le h0;have hai8:ai < 8:=by omega
    have hmin:min ai 64=ai:=by omega
    rw [hai]at a1;rw [h3]at a0;have hp8:2^ai < 256:=Qy (Nat.pow_lt_pow_right (by decide) hai8) (Nat.le_refl _);have HST:=Qq (show faS m a=m|||2^ai by unfold faS;rw [if_pos h3,hai];rfl);have hor1:bits .or .i64 (m:Int) (wrap64 ((2:Int)^ai))=((m|||2^ai:Nat):Int):=by
     rw [wrap_small hai8];exact i64_or_nat m (2^ai) (by omega) (by omega)
    obtain⟨z,hz⟩:∃z,z=m|||2^ai:=⟨_,rfl⟩;rw [<-hz]at hor1 HST;clear hz h0 h8 hai hp8 h3;go_wp2_with fail;go_roundw
    case rel=>exact⟨k+1,by omega,by go_num,z,rfl,Qq ⟨by rw [HNX.out,HST.out],HX2.out⟩⟩
    case measure=>simp [intOf];omega
   have t3:(a.op==3)=false:=by simpa using h3
   have HST:=Qq (show faS m a=m by unfold faS;rw [if_neg h3]);clear h3;go_wp2_with fail;go_roundw
   case rel=>exact⟨k+1,by omega,by go_num,m,rfl,Qq ⟨by rw [HNX.out,HST.out],HX2.out⟩⟩
   case measure=>simp [intOf];omega
  obtain rfl:cl.length=k:=by omega
  have HE:=Qq (show factsM cl=m by rw [HME.out,List.take_of_length_le (Nat.le_refl _)]);go_wp2_with fail;go_ret;exact⟨by rw [<-HCL.out,HE.out] <;> rfl,HX.out.trans HX2.out⟩
def fitA(a:Nat)(m i:Nat):Bool:= !m.testBit i||decide (i < a)
def fitsN(f:List Nd)(a b:Nat):Bool:=check f==0&&((List.range 4).all (fitA a (agentsM (compactN f)))&&(List.range 8).all (fitA b (factsM (compactN f))))
theorem all_hitF {P:Nat->Bool} {n k:Nat}(hk:k < n)(h:P k=false):(List.range n).all P=false:=by
 rw [List.all_eq_false];exact⟨k,List.mem_range.2 hk,by rw [h];simp⟩
theorem all_missF {P:Nat->Bool} {n:Nat}(h:∀k,k < n->P k=true):(List.range n).all P=true:=by
 rw [List.all_eq_true];exact fun k hk=>h k (List.mem_range.1 hk)
theorem rFits_any(v:Value)(f:List Nd)(a b:Nat)(w:World)(h:Fml w v f):
 Calls Tryz.prog 94 #[v,.int .i64 (a:Int),.int .i64 (b:Int)] w fun e w'=>e=.returned (.bool (fitsN f a b))/\Ext w w':=by
 have H:=Qq h;obtain⟨A,c,rfl,_⟩:=fml_slice h;clear h;obtain⟨z,hz⟩:∃z,z=check f:=⟨_,rfl⟩;have HZ:=Qq hz;clear hz;by_cases hz0:z=0
 ·subst hz0;have HCK:=Qq (show check f=0 from HZ.out.symm);have HF0:=Qq (show fitsN f a b=((List.range 4).all (fitA a (agentsM (compactN f)))&&(List.range 8).all (fitA b (factsM (compactN f)))) by unfold fitsN;rw [<-HZ.out];rfl);obtain⟨ma,hma⟩:∃m,m=agentsM (compactN f):=⟨_,rfl⟩;obtain⟨mf,hmf⟩:∃m,m=factsM (compactN f):=⟨_,rfl⟩;rw [<-hma,<-hmf]at HF0;have HMA:=Qq hma;have HMF:=Qq hmf;clear hma hmf;go_enter Tryz.func94,Tryz.ntmps94;go_wp2_with fail;refine(refCheck_any _ f _ H.out.1).mono ?_;rintro e w1 ⟨rfl,hx1⟩;rw [HCK.out];have HX1:=Qq hx1;clear hx1;go_wp2_with fail;go_loopw [7] (fun v wr=>∃k:Nat,v=.int .i64 (k:Int)/\k<=4/\Hid (Ext w wr/\∀j,j < k->fitA a ma j=true)) (fun v _=>4 - (intOf v).toNat)
  case atStart=>exact⟨0,rfl,Nat.zero_le _,Qq ⟨HX1.out,fun j hj=>absurd hj (by omega)⟩⟩
  case round =>
   obtain⟨k,rfl,hk,HREL⟩:=hrel;have HX:=Qq HREL.out.1;have HJ:=Qq HREL.out.2;clear HREL;by_cases hlt2:k < 4
   ·have hk1:(k:Int) < 4:=by omega
    have hmin:min k 64=k:=by omega
    have hbt:=shr_mod_two_u ma k;have HNX:=Qq (show fitA a ma k=true->∀j,j < k+1->fitA a ma j=true from fun h=>upto2 (P:=fun j=>fitA a ma j=true) HJ.out h);have HHT:=Qq (show fitA a ma k=false->fitsN f a b=false from fun h=>by rw [HF0.out,all_hitF hlt2 h];rfl);cases htb:ma.testBit k
    ·rw [htb]at hbt;have HP:=Qq (HNX.out (by unfold fitA;rw [htb];rfl));clear htb;go_wp2_with fail;refine(rAgents_any _ f _ (H.out.ext HX.out) HCK.out).mono ?_;rintro e w2 ⟨rfl,hx2⟩;rw [<-HMA.out];have HX2:=Qq (HX.out.trans hx2);clear hx2;go_wp2_with fail;go_roundw
     case rel=>exact⟨k+1,by go_num,by omega,Qq ⟨HX2.out,HP.out⟩⟩
     case measure=>simp [intOf];omega
    rw [htb]at hbt;by_cases hka:k < a
    ·have HP:=Qq (HNX.out (by unfold fitA;rw [htb,decide_eq_true hka];rfl));have hka1:decide ((a:Int)<=(k:Int))=false:=decide_eq_false (by omega);have hka2:decide (a<=k)=false:=decide_eq_false (by omega);clear htb;go_wp2_with fail;refine(rAgents_any _ f _ (H.out.ext HX.out) HCK.out).mono ?_;rintro e w2 ⟨rfl,hx2⟩;rw [<-HMA.out];have HX2:=Qq (HX.out.trans hx2);clear hx2;go_wp2_with fail;go_roundw
     case rel=>exact⟨k+1,by go_num,by omega,Qq ⟨HX2.out,HP.out⟩⟩
     case measure=>simp [intOf];omega
    have HE:=Qq (HHT.out (by unfold fitA;rw [htb,decide_eq_false hka];rfl));have hka1:decide ((a:Int)<=(k:Int))=true:=decide_eq_true (by omega);have hka2:decide (a<=k)=true:=decide_eq_true (by omega);clear htb;go_wp2_with fail;refine(rAgents_any _ f _ (H.out.ext HX.out) HCK.out).mono ?_;rintro e w2 ⟨rfl,hx2⟩;rw [<-HMA.out];have HX2:=Qq (HX.out.trans hx2);clear hx2;go_wp2_with fail;go_ret;exact⟨by rw [HE.out] <;> rfl,HX2.out⟩
   obtain rfl:k=4:=by omega
   have HAA:=Qq (all_missF HJ.out);have HXA:=Qq HX.out;clear HX HJ;rw [show((4:Nat):Int)=4 from rfl];go_wp2_with fail;go_loopw [8] (fun v wr=>∃k:Nat,v=.int .i64 (k:Int)/\k<=8/\Hid (Ext w wr/\∀j,j < k->fitA b mf j=true)) (fun v _=>8 - (intOf v).toNat)
   case atStart=>exact⟨0,rfl,Nat.zero_le _,Qq ⟨HXA.out,fun j hj=>absurd hj (by omega)⟩⟩
   case round =>
    obtain⟨k,rfl,hk,HREL⟩:=hrel;have HX:=Qq HREL.out.1;have HJ:=Qq HREL.out.2;clear HREL;by_cases hlt2:k < 8
    ·have hk1:(k:Int) < 8:=by omega
     have hmin:min k 64=k:=by omega
     have hbt:=shr_mod_two_u mf k;have HNX:=Qq (show fitA b mf k=true->∀j,j < k+1->fitA b mf j=true from fun h=>upto2 (P:=fun j=>fitA b mf j=true) HJ.out h);have HHT:=Qq (show fitA b mf k=false->fitsN f a b=false from fun h=>by rw [HF0.out,all_hitF (n:=8) hlt2 h,Bool.and_false]);cases htb:mf.testBit k
     ·rw [htb]at hbt;have HP:=Qq (HNX.out (by unfold fitA;rw [htb];rfl));clear htb;go_wp2_with fail;refine(rFacts_any _ f _ (H.out.ext HX.out) HCK.out).mono ?_;rintro e w2 ⟨rfl,hx2⟩;rw [<-HMF.out];have HX2:=Qq (HX.out.trans hx2);clear hx2;go_wp2_with fail;go_roundw
      case rel=>exact⟨k+1,by go_num,by omega,Qq ⟨HX2.out,HP.out⟩⟩
      case measure=>simp [intOf];omega
     rw [htb]at hbt;by_cases hka:k < b
     ·have HP:=Qq (HNX.out (by unfold fitA;rw [htb,decide_eq_true hka];rfl));have hka1:decide ((b:Int)<=(k:Int))=false:=decide_eq_false (by omega);have hka2:decide (b<=k)=false:=decide_eq_false (by omega);clear htb;go_wp2_with fail;refine(rFacts_any _ f _ (H.out.ext HX.out) HCK.out).mono ?_;rintro e w2 ⟨rfl,hx2⟩;rw [<-HMF.out];have HX2:=Qq (HX.out.trans hx2);clear hx2;go_wp2_with fail;go_roundw
      case rel=>exact⟨k+1,by go_num,by omega,Qq ⟨HX2.out,HP.out⟩⟩
      case measure=>simp [intOf];omega
     have HE:=Qq (HHT.out (by unfold fitA;rw [htb,decide_eq_false hka];rfl));have hka1:decide ((b:Int)<=(k:Int))=true:=decide_eq_true (by omega);have hka2:decide (b<=k)=true:=decide_eq_true (by omega);clear htb;go_wp2_with fail;refine(rFacts_any _ f _ (H.out.ext HX.out) HCK.out).mono ?_;rintro e w2 ⟨rfl,hx2⟩;rw [<-HMF.out];have HX2:=Qq (HX.out.trans hx2);clear hx2;go_wp2_with fail;go_ret;exact⟨by rw [HE.out] <;> rfl,HX2.out⟩
    obtain rfl:k=8:=by omega
    have HE:=Qq (show fitsN f a b=true by rw [HF0.out,HAA.out,all_missF HJ.out];rfl);go_wp2_with fail;go_ret;exact⟨by rw [HE.out] <;> rfl,HX.out⟩
 have hzb:(z==0)=false:=by rw [beq_eq_false_iff_ne];exact hz0
 have HE:=Qq (show fitsN f a b=false by unfold fitsN;rw [<-HZ.out,hzb];rfl);clear hz0;go_enter Tryz.func94,Tryz.ntmps94;go_wp2_with fail;refine(refCheck_any _ f _ H.out.1).mono ?_;rintro e w1 ⟨rfl,hx1⟩;rw [<-HZ.out];have HX1:=Qq hx1;clear hx1;go_wp2_with fail;go_ret;exact⟨by rw [HE.out] <;> rfl,HX1.out⟩
def uniM(g:Nd->Nat)(l:List Nd):Nat:=l.foldl (fun m n=>m|||g n) 0
theorem uniM_snoc(g:Nd->Nat)(l:List Nd)(n:Nd):uniM g (l++ [n])=uniM g l|||g n:=by simp [uniM,List.foldl_append]
theorem uniM_lt {g:Nd->Nat} :∀(l:List Nd),(∀n∈l,g n < 512)->uniM g l < 512:=by
 have:∀(l:List Nd) (m:Nat),(∀n∈l,g n < 512)->m < 512->l.foldl (fun m n=>m|||g n) m < 512:=by
  intro l
  induction l with
  |nil=>intro m _ h;exact h
  |cons a r ih =>
   intro m hl h;exact ih _ (fun n hn=>hl n (List.mem_cons_of_mem _ hn)) (Nat.or_lt_two_pow (n:=9) h (hl a (List.mem_cons_self ..)))
 exact fun l hl=>this l 0 hl (by omega)
def agU(n:Nd):Nat:=if hasAgent n.op then 2^n.i.toNat else n.g.toNat
def faU(n:Nd):Nat:=if hasFact n.op then 2^n.i.toNat else 0
theorem agent_nogroup {n:Nd}(h:headOk n)(ha:hasAgent n.op=true):n.g=0:=by
 have hg:hasGroup n.op=false:=by
  unfold hasAgent at ha;unfold hasGroup;simp at ha;rcases ha with((h|h)|h)|h <;>(rw [h];rfl)
 obtain⟨_,h3,_,_,_⟩:=h;unfold formBad at h3;simp [hg]at h3;exact h3.2
theorem agS_U {n:Nd}(h:headOk n)(s:Nat):agS s n=s|||agU n:=by
 unfold agS agU;cases ha:hasAgent n.op
 ·rw [if_neg (by simp),if_neg (by simp),Nat.or_zero]
 rw [if_pos rfl,if_pos rfl,agent_nogroup h ha];exact Nat.or_zero _
theorem fact_iff(op:Int):hasFact op=true↔op=3:=by unfold hasFact;simp
theorem faS_U {n:Nd}(s:Nat):faS s n=s|||faU n:=by
 unfold faS faU;by_cases h:n.op=3
 ·rw [if_pos h,if_pos ((fact_iff _).2 h)]
 rw [if_neg h,if_neg (fun e=>h ((fact_iff _).1 e)),Nat.or_zero]
theorem foldl_congr' {f g:Nat->Nd->Nat} :∀(l:List Nd) (s:Nat),(∀n∈l,∀s,f s n=g s n)->l.foldl f s=l.foldl g s
 |[],_,_=>rfl
 |a :: r,s,h=>by
  show r.foldl f (f s a)=r.foldl g (g s a);rw [h a (List.mem_cons_self ..) s];exact foldl_congr' r _ (fun n hn=>h n (List.mem_cons_of_mem _ hn))
theorem agents_uni {l:List Nd}(h:∀n∈l,headOk n):agentsM l=uniM agU l:=foldl_congr' l 0 (fun n hn s=>agS_U (h n hn) s)
theorem facts_uni {l:List Nd} :factsM l=uniM faU l:=foldl_congr' l 0 (fun _ _ s=>faS_U s)
theorem agU_lt {n:Nd}(h:headOk n):agU n < 512:=by
 unfold agU;have h1:=head_group h
 split
 ·rename_i ho;have:=head_agent h ho;exact Nat.pow_lt_pow_right (by decide) (show n.i.toNat < 9 by omega)
 omega
theorem faU_lt {n:Nd}(h:headOk n):faU n < 512:=by
 unfold faU
 split
 ·rename_i ho;have:=head_fact h ((fact_iff _).1 ho);exact Nat.pow_lt_pow_right (by decide) (show n.i.toNat < 9 by omega)
 decide
theorem agents1_any(n:Nd)(h:headOk n)(u0 u1 u2 u4 u5:Bool)(g:Int)(w:World):
 Calls Tryz.prog 98 #[.agg #[.int .i64 n.op,.int .i64 n.i,.int .i64 n.e,.int .i64 n.g,.int .i64 n.x,.int .i64 n.y],.agg #[.bool u0,.bool u1,.bool u2,.bool (hasAgent n.op),.bool u4,.bool u5,.int .i64 g]] w
  fun e w'=>e=.returned (.int .i64 ((agU n:Nat):Int))/\Ext w w':=by
 have hg:=head_group h;cases ha:hasAgent n.op
 ·have HE:=Qq (show((agU n:Nat):Int)=n.g by unfold agU;rw [if_neg (by rw [ha];simp)];omega);clear h hg;go_enter Tryz.func98,Tryz.ntmps98;go_wp2_with fail;go_ret;exact⟨by rw [HE.out] <;> rfl,(Qz.alloc _).alloc _⟩
 obtain⟨h0,h1⟩:=head_agent h ha;obtain⟨k,hk⟩:=Int.eq_ofNat_of_zero_le h0;have hw:=wrap_small (k:=k) (by omega);have hk8:k < 64:=by omega
 have hmk:min k 64=k:=by omega
 have HE:=Qq (show((agU n:Nat):Int)=wrap64 ((2:Int)^k) by rw [hw];unfold agU;rw [if_pos ha,hk,Int.toNat_natCast]);rw [hk];clear h hg h0 h1 hk hw;go_enter Tryz.func98,Tryz.ntmps98;go_wp2_with fail;go_ret;exact⟨by rw [HE.out] <;> rfl,(Qz.alloc _).alloc _⟩
theorem facts1_any(n:Nd)(h:headOk n)(u0 u1 u3 u4 u5:Bool)(g:Int)(w:World):
 Calls Tryz.prog 99 #[.agg #[.int .i64 n.op,.int .i64 n.i,.int .i64 n.e,.int .i64 n.g,.int .i64 n.x,.int .i64 n.y],.agg #[.bool u0,.bool u1,.bool (hasFact n.op),.bool u3,.bool u4,.bool u5,.int .i64 g]] w
  fun e w'=>e=.returned (.int .i64 ((faU n:Nat):Int))/\Ext w w':=by
 cases ha:hasFact n.op
 ·have HE:=Qq (show((faU n:Nat):Int)=0 by unfold faU;rw [if_neg (by rw [ha];simp)];rfl);clear h;go_enter Tryz.func99,Tryz.ntmps99;go_wp2_with fail;go_ret;exact⟨by rw [HE.out] <;> rfl,(Qz.alloc _).alloc _⟩
 obtain⟨h0,h1⟩:=head_fact h ((fact_iff _).1 ha);obtain⟨k,hk⟩:=Int.eq_ofNat_of_zero_le h0;have hw:=wrap_small (k:=k) (by omega);have hk8:k < 64:=by omega
 have hmk:min k 64=k:=by omega
 have HE:=Qq (show((faU n:Nat):Int)=wrap64 ((2:Int)^k) by rw [hw];unfold faU;rw [if_pos ha,hk,Int.toNat_natCast]);rw [hk];clear h h0 h1 hk hw;go_enter Tryz.func99,Tryz.ntmps99;go_wp2_with fail;go_ret;exact⟨by rw [HE.out] <;> rfl,(Qz.alloc _).alloc _⟩
theorem uniM_le(g:Nd->Nat)(l:List Nd)(hg:∀n∈l,g n < 512)(k:Nat):uniM g (l.take k) < 512:=uniM_lt _ (fun n hn=>hg n (List.mem_of_mem_take hn))
theorem unionG_any(fn:Nat)(eg:∀args w,(callFunc fn args).run Tryz.prog w=.ok (.enter fn args) w)(g:Nd->Nat)(v:Value)(l:List Nd)(w:World)(h:Fml w v l)(_hc:check l=0)(hg:∀n∈compactN l,g n < 512)
 (hf:∀n∈compactN l,∀W,Calls Tryz.prog fn #[.agg #[.int .i64 n.op,.int .i64 n.i,.int .i64 n.e,.int .i64 n.g,.int .i64 n.x,.int .i64 n.y],.agg #[.bool (hasX n.op),.bool (hasY n.op),.bool (hasFact n.op),.bool (hasAgent n.op),.bool (hasGroup n.op),.bool (hasEvent n.op),.int .i64 (fragOf n.op)]] W fun e w'=>e=.returned (.int .i64 ((g n:Nat):Int))/\Ext W w'):
 Calls Tryz.prog 97 #[v,.func (Fn.func fn) #[] #[]] w fun e w'=>e=.returned (.int .i64 (uniM g (compactN l):Nat))/\Ext w w':=by
 have H:=Qq h;have HG:=Qq hg;have HF:=Qq hf;clear h hg hf;go_enter Tryz.func97,Tryz.ntmps97;go_wp2_with fail;refine(compactF_any _ l _ H.out).mono ?_;rintro e w1 ⟨u,rfl,hm⟩;have HX:=Qq hm.2.2;obtain⟨A,c,rfl,hcap,hmax,hread⟩:=hm.fml.1;unfold maxLen at hmax;have HR:=Qq hread;obtain⟨cl,hcl⟩:∃cl,cl=compactN l:=⟨_,rfl⟩;have HCL:=Qq (show uniM g (compactN l)=uniM g cl by rw [hcl]);rw [<-hcl]at HR hcap HG HF;rw [<-hcl];clear hm hread hcl;go_wp2_with fail;go_loopw [5,13] (fun out i wr=>∃k:Nat,k<=cl.length/\i=.int .i64 k/\out=.int .i64 (uniM g (cl.take k):Nat)/\Ext w1 wr) (fun _ i _=>cl.length - (intOf i).toNat)
 case atStart=>exact⟨0,Nat.zero_le _,rfl,rfl,Qz⟩
 case round =>
  obtain⟨k,hk,rfl,rfl,hext⟩:=hrel;by_cases hlt2:k < cl.length
  ·obtain⟨a,ha⟩:∃a,cl[k]?=some a:=⟨_,Qv hlt2⟩;have ham:=List.mem_of_getElem? ha;obtain⟨ad,rfl,hb1,hc1⟩:=HR.out (by intro e;rw [e]at hlt2;simp at hlt2);obtain⟨a0,a1,a2,a3,a4,a5⟩:=(hc1 k a ha).keep fun p hp=>hext.cell (p:=p) (by rw [hp,block_of_add];exact hb1)
   have hor:=i64_or_nat (uniM g (cl.take k)) (g a) (by have:=uniM_le g cl HG.out k;omega) (by have:=HG.out a ham;omega);have HS:Hid (uniM g (cl.take (k+1))=(uniM g (cl.take k)|||g a)):=Qq (by rw [take_succ_eq ha,uniM_snoc]);have HFA:=Qq (HF.out a ham);obtain⟨ga,hga⟩:∃x,x=g a:=⟨_,rfl⟩;rw [<-hga]at hor HS HFA;generalize uniM g (cl.take k)=m at hor HS;clear ha hc1 ham hga;go_wp2_with fail;refine(uses_as _ _ _ _ _ _ _ _ rfl rfl rfl rfl rfl rfl rfl _).mono ?_;rintro e w2 ⟨rfl,hb⟩;have HB:=Qq hb;obtain⟨hcc,_,hz0⟩:=hb.facts;clear hb;have hz:wr.heap.size < w2.heap.size:=by { simp at hz0;omega }
   clear hz0;go_wp2_with fail;refine(HFA.out _).mono ?_;rintro e w3 ⟨rfl,hb3⟩;go_wp2_with fail;go_roundw
   case rel=>exact⟨k+1,by omega,by go_num,by rw [HS.out],(((hext.alloc _).trans HB.out).alloc _).trans hb3⟩
   case measure=>simp [intOf];omega
  obtain rfl:cl.length=k:=by omega
  go_wp2_with fail;go_ret;exact⟨ret_int (by rw [HCL.out,List.take_of_length_le (Nat.le_refl _)]),HX.out.trans hext⟩
theorem agentsF_any(v:Value)(l:List Nd)(w:World)(h:Fml w v l)(hc:check l=0):
 Calls Tryz.prog 46 #[v] w fun e w'=>e=.returned (.int .i64 ((agentsM (compactN l):Nat):Int))/\Ext w w':=by
 have H:=Qq h;have hh:=(compactN_props hc).2.2.2;have HU:=Qq (unionG_any 98 (fun _ _=>rfl) agU v l w h hc (fun n hn=>agU_lt (hh n hn)) (fun n hn W=>agents1_any n (hh n hn) _ _ _ _ _ _ W));have HE:=Qq (agents_uni hh);rw [HE.out];clear h hh hc;go_enter Tryz.func46,Tryz.ntmps46;go_wp2_with fail;refine HU.out.mono ?_;rintro e w1 ⟨rfl,hx⟩;go_wp2_with fail;go_ret;exact⟨rfl,hx⟩
theorem factsF_any(v:Value)(l:List Nd)(w:World)(h:Fml w v l)(hc:check l=0):
 Calls Tryz.prog 47 #[v] w fun e w'=>e=.returned (.int .i64 ((factsM (compactN l):Nat):Int))/\Ext w w':=by
 have H:=Qq h;have hh:=(compactN_props hc).2.2.2;have HU:=Qq (unionG_any 99 (fun _ _=>rfl) faU v l w h hc (fun n hn=>faU_lt (hh n hn)) (fun n hn W=>facts1_any n (hh n hn) _ _ _ _ _ _ W));rw [facts_uni];clear h hh hc;go_enter Tryz.func47,Tryz.ntmps47;go_wp2_with fail;refine HU.out.mono ?_;rintro e w1 ⟨rfl,hx⟩;go_wp2_with fail;go_ret;exact⟨rfl,hx⟩
theorem static_all:(List.range 512).all (fun m=>((bits .andNot .i64 (m:Int) 15==0)==subS m 15)&&((bits .andNot .i64 (m:Int) 15 !=0)== !subS m 15))=true:=by kernel_rfl
theorem static_test(f:List Nd):(bits .andNot .i64 ((fragsN f:Nat):Int) 15==0)=subS (fragsN f) 15/\(bits .andNot .i64 ((fragsN f:Nat):Int) 15 !=0)= !subS (fragsN f) 15:=by
 have h:=List.all_eq_true.1 static_all (fragsN f) (List.mem_range.2 (fragMask_lt (compactN f)));rw [Bool.and_eq_true,beq_iff_eq,beq_iff_eq]at h;exact h
def fit17(md:Md)(f:List Nd)(i:Int):Bool:=subS (fragsN (subN f i)) 15&&fitsN (subN f i) md.rel.length md.val.length
theorem fits17_any(vm v:Value)(md:Md)(f:List Nd)(i:Int)(w:World)(hm:MdV w vm md)(h:Fml w v f):
 Calls Tryz.prog 88 #[vm,v,.int .i64 i] w fun e w'=>e=.returned (.bool (fit17 md f i))/\Ext w w':=by
 have H:=Qq h;obtain⟨vv,vr,rfl,⟨Av,cv,rfl,_⟩,⟨Ar,cr,rfl,_⟩⟩:=hm;obtain⟨A,c,rfl,_⟩:=fml_slice h;clear h;have HX0:=Qq (show Ext w (w.alloc (.cells #[.int .i64 md.n,.slice Av md.val.length cv,.slice Ar md.rel.length cr] 38))from Qz.alloc _);have HB0:=Qq (show(w.alloc (.cells #[.int .i64 md.n,.slice Av md.val.length cv,.slice Ar md.rel.length cr] 38)).heap[w.heap.size]?=some (.cells #[.int .i64 md.n,.slice Av md.val.length cv,.slice Ar md.rel.length cr] 38 (0,0))from heap_alloc_new _ _);go_enter Tryz.func88,Tryz.ntmps88;go_wp2_with fail;refine(refSub_any _ f i _ (H.out.ext HX0.out)).mono ?_;rintro e w1 ⟨u,rfl,hm1⟩
 have HM:=Qq hm1;have HX1:=Qq (HX0.out.trans hm1.ext);have HB1:=Qq ((hm1.ext.block (lt_heap HB0.out)).trans HB0.out);obtain⟨Au,cu,rfl,_⟩:=fml_slice hm1.fml;obtain⟨g,hg⟩:∃g,g=subN f i:=⟨_,rfl⟩;have HG:=Qq (show fit17 md f i=(subS (fragsN g) 15&&fitsN g md.rel.length md.val.length) by rw [hg];rfl);rw [<-hg]at HM⊢;have hst:=(static_test g).1;clear hm1 hg;cases hs:subS (fragsN g) 15
 ·rw [hs]at hst HG;clear hs;go_wp2_with fail;refine(refFrags_any _ g _ HM.out.fml).mono ?_;rintro e w2 ⟨rfl,hx2⟩;have HX2:=Qq (HX1.out.trans hx2);clear hx2;go_wp2_with fail;go_ret;exact⟨by rw [HG.out] <;> rfl,HX2.out⟩
 rw [hs]at hst HG;clear hs;go_wp2_with fail;refine(refFrags_any _ g _ HM.out.fml).mono ?_;rintro e w2 ⟨rfl,hx2⟩;have HX2:=Qq (HX1.out.trans hx2);have HM2:=Qq (HM.out.fml.ext hx2);obtain⟨e0,e1,e2,eb⟩:=cells3y ((hx2.block (lt_heap HB1.out)).trans HB1.out);clear hx2;go_wp2_with fail;refine(rFits_any _ g md.rel.length md.val.length _ HM2.out).mono ?_;rintro e w3 ⟨rfl,hx3⟩;have HX3:=Qq (HX2.out.trans hx3);clear hx3 e0 e1 e2 eb;go_wp2_with fail;go_ret;exact⟨by rw [HG.out,Bool.true_and] <;> rfl,HX3.out⟩
def chk17(md:Md)(f:List Nd):Int :=
 if checkM md≠0 then checkM md else if check f≠0 then check f else if subS (fragsN f) 15=false then 10 else if fitsN f md.rel.length md.val.length=false then 2 else 0
theorem chk17_any(vm v:Value)(md:Md)(f:List Nd)(w:World)(hm:MdV w vm md)(hok:md.ok)(h:Fml w v f):
 Calls Tryz.prog 43 #[vm,v,.int .i64 15] w fun e w'=>e=.returned (.int .i64 (chk17 md f))/\Ext w w':=by
 have H:=Qq h;have HM:=Qq hm;have HOK:=Qq hok;obtain⟨vv,vr,rfl,⟨Av,cv,rfl,_⟩,⟨Ar,cr,rfl,_⟩⟩:=hm;obtain⟨A,c,rfl,_⟩:=fml_slice h;clear h hok;have HX0:=Qq (show Ext w (w.alloc (.cells #[.int .i64 md.n,.slice Av md.val.length cv,.slice Ar md.rel.length cr] 38))from Qz.alloc _);have HB0:=Qq (show(w.alloc (.cells #[.int .i64 md.n,.slice Av md.val.length cv,.slice Ar md.rel.length cr] 38)).heap[w.heap.size]?=some (.cells #[.int .i64 md.n,.slice Av md.val.length cv,.slice Ar md.rel.length cr] 38 (0,0))from heap_alloc_new _ _);obtain⟨z,hz⟩:∃z,z=checkM md:=⟨_,rfl⟩;have HZ:=Qq hz;clear hz;by_cases hz0:z=0
 ·subst hz0;obtain⟨y,hy⟩:∃y,y=check f:=⟨_,rfl⟩;have HY:=Qq hy;clear hy;by_cases hy0:y=0
  ·subst hy0;have hst:=(static_test f).2;cases hs:subS (fragsN f) 15
   ·rw [hs]at hst;have HE:=Qq (show chk17 md f=10 by unfold chk17;rw [<-HZ.out,if_neg (by simp),<-HY.out,if_neg (by simp),if_pos hs]);clear hs;go_enter Tryz.func43,Tryz.ntmps43;go_wp2_with fail;refine(check13_any _ md _ (HM.out.ext HX0.out) HOK.out).mono ?_;rintro e w1 ⟨rfl,hx1⟩;rw [<-HZ.out];have HX1:=Qq (HX0.out.trans hx1);clear hx1;go_wp2_with fail;refine(refCheck_any _ f _ (H.out.ext HX1.out).1).mono ?_;rintro e w2 ⟨rfl,hx2⟩;rw [<-HY.out];have HX2:=Qq (HX1.out.trans hx2);clear hx2;go_wp2_with fail;refine(refFrags_any _ f _ (H.out.ext HX2.out)).mono ?_;rintro e w3 ⟨rfl,hx3⟩;have HX3:=Qq (HX2.out.trans hx3)
    clear hx3;go_wp2_with fail;go_ret;exact⟨by rw [HE.out] <;> rfl,HX3.out⟩
   rw [hs]at hst;have HE:=Qq (show chk17 md f=if fitsN f md.rel.length md.val.length=false then 2 else 0 by unfold chk17;rw [<-HZ.out,if_neg (by simp),<-HY.out,if_neg (by simp),hs,if_neg (by simp)]);clear hs;obtain⟨t,ht⟩:∃t,t=fitsN f md.rel.length md.val.length:=⟨_,rfl⟩;have HT:=Qq ht;rw [<-ht]at HE;clear ht;go_enter Tryz.func43,Tryz.ntmps43;go_wp2_with fail;refine(check13_any _ md _ (HM.out.ext HX0.out) HOK.out).mono ?_;rintro e w1 ⟨rfl,hx1⟩;rw [<-HZ.out];have HX1:=Qq (HX0.out.trans hx1);have HB1:=Qq ((hx1.block (lt_heap HB0.out)).trans HB0.out);clear hx1;go_wp2_with fail;refine(refCheck_any _ f _ (H.out.ext HX1.out).1).mono ?_
   rintro e w2 ⟨rfl,hx2⟩;rw [<-HY.out];have HX2:=Qq (HX1.out.trans hx2);have HB2:=Qq ((hx2.block (lt_heap HB1.out)).trans HB1.out);clear hx2;go_wp2_with fail;refine(refFrags_any _ f _ (H.out.ext HX2.out)).mono ?_;rintro e w3 ⟨rfl,hx3⟩;have HX3:=Qq (HX2.out.trans hx3);obtain⟨e0,e1,e2,eb⟩:=cells3y ((hx3.block (lt_heap HB2.out)).trans HB2.out);clear hx3;go_wp2_with fail;refine(rFits_any _ f md.rel.length md.val.length _ (H.out.ext HX3.out)).mono ?_;rintro e w4 ⟨rfl,hx4⟩;rw [<-HT.out];have HX4:=Qq (HX3.out.trans hx4);clear hx4 e0 e1 e2 eb;cases t
   ·go_wp2_with fail;go_ret;exact⟨by rw [HE.out] <;> rfl,HX4.out⟩
   go_wp2_with fail;go_ret;exact⟨by rw [HE.out] <;> rfl,HX4.out⟩
  have hyb:(y==0)=false:=by rw [beq_eq_false_iff_ne];exact hy0
  have HE:=Qq (show chk17 md f=y by unfold chk17;rw [<-HZ.out,if_neg (by simp),<-HY.out,if_pos hy0]);clear hy0;go_enter Tryz.func43,Tryz.ntmps43;go_wp2_with fail;refine(check13_any _ md _ (HM.out.ext HX0.out) HOK.out).mono ?_;rintro e w1 ⟨rfl,hx1⟩;rw [<-HZ.out];have HX1:=Qq (HX0.out.trans hx1);clear hx1;go_wp2_with fail;refine(refCheck_any _ f _ (H.out.ext HX1.out).1).mono ?_;rintro e w2 ⟨rfl,hx2⟩;rw [<-HY.out];have HX2:=Qq (HX1.out.trans hx2);clear hx2;go_wp2_with fail;go_ret;exact⟨by rw [HE.out] <;> rfl,HX2.out⟩
 have hzb:(z==0)=false:=by rw [beq_eq_false_iff_ne];exact hz0
 have HE:=Qq (show chk17 md f=z by unfold chk17;rw [<-HZ.out,if_pos hz0]);clear hz0;go_enter Tryz.func43,Tryz.ntmps43;go_wp2_with fail;refine(check13_any _ md _ (HM.out.ext HX0.out) HOK.out).mono ?_;rintro e w1 ⟨rfl,hx1⟩;rw [<-HZ.out];have HX1:=Qq (HX0.out.trans hx1);clear hx1;go_wp2_with fail;go_ret;exact⟨by rw [HE.out] <;> rfl,HX1.out⟩
end Go.Proofs.YtbfeodammikajaaGreat
