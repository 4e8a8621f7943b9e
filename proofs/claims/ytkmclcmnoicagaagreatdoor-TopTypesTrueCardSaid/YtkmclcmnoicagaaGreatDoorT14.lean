/- append to a row of the call's own, as one step of a region that draws its order. -/
import Derived.Deep.RegionLaw
import Derived.Test.YtkmclcmnoicagaaGreatDoorT13
import Derived.Maps.AppendAt
namespace Go.Proofs.YtkmclcmnoicagaaGreatDoor
set_option maxRecDepth 100000
set_option maxHeartbeats 128000000
open Go.RowKit
theorem Tq {P:Program} {ops:Array Oper} {o:Oper} {a:Act} {w:World} {K:Act->World->Prop} {Q:Exit->Act->World->Prop} {E:Prop}
 (hgd:o.guard=none)(s x:Operand)(t:TypeId)(ho:o.op=.call { callee:=.builtin .append,args:=#[s,x],argTypes:=#[t,t] })
 (base:Nat)(e:TypeId)(i:TypeInfo)(z:Value)(size bytes:Nat)(ht:P.underlying t=some (.slice e))(hi:P.info? e=some i)(hz:i.zero=some z)
 (hsize:i.size=size)(hby:i.bytes=bytes)(hzs:z.cells.size=size)(hsz:0 < size)
 (v:Value)(n:Nat)(xs:List Value)(hs:a.eval s=v)(hown:w.ownsRow base e size v n xs)
 (ad:Addr)(m c:Nat)(news:List Value)(hx:a.eval x=.slice (some ad) m c)(hl:news.length=m*size)(hnews:∀j u,news[j]?=some u->w.cell? (ad.add j)=some u)(h1:∀u∈news,u.oneCell'=true)
 (h63:n+m<=maxLen)(hbytes:(n+m)*bytes<=140737488355328)(hbase:base<=w.heap.size)
 (h:∀v' w',w'.ownsRow base e size v' (n+m) (xs++news)->w.grownBy w' v.ownBlock->(v'.ownBlock=v.ownBlock\/v'.ownBlock=some w.heap.size)->K (a.put o.dst v') w'):
 if Region.wanted o (yielded ops a.tmps)=true then Oper.wp P o a w K Q else E:=by
 have hw:Region.wanted o (yielded ops a.tmps)=true:=by simp [Region.wanted,hgd]
 rw [if_pos hw];obtain⟨v',w',hr,h2,h3,_,h5⟩:=run_append_own_at (P:=P) w base t o.type e i z size bytes ht hi hz hsize hby hzs hsz v n xs hown ad m c news hl hnews h1 h63 hbytes hbase;unfold Oper.wp execOp;simp only [ho,resolve,invoke,builtin,Sem.run_bind,Sem.run_pure,Result.andThen_ok,List.map_toArray,List.map_cons,List.map_nil,hs,hx,hr];exact h v' w' h2 h3 h5
theorem Ka {w:World} {b:Nat} {a0 a1:Value} {t:TypeId}(h:w.heap[b]?=some (.cells #[a0,a1] t (0,0))):
 w.cell? ⟨b,0,none⟩=some a0/\w.cell? ⟨b,1,none⟩=some a1/\(∀j,w.frozen? ⟨b,j,none⟩=false)/\b < w.heap.size :=
 ⟨by simp [World.cell?,h],by simp [World.cell?,h],fun j=>by simp [World.frozen?,h],Qm h⟩
theorem Qkp {w:World} {b:Nat} {a0 a1:Value} {t:TypeId}(h:w.heap[b]?=some (.cells #[a0,a1] t (0,0)))(u:Value):(w.setCell ⟨b,0,none⟩ u).heap[b]?=some (.cells #[u,a1] t (0,0)):=by
 simp only [World.setCell,Array.getElem?_modify,h,if_true,Option.map_some];simp
theorem Et {w:World} {b:Nat} {a0 a1:Value} {t:TypeId}(h:w.heap[b]?=some (.cells #[a0,a1] t (0,0)))(u:Value):(w.setCell ⟨b,1,none⟩ u).heap[b]?=some (.cells #[a0,u] t (0,0)):=by
 simp only [World.setCell,Array.getElem?_modify,h,if_true,Option.map_some];simp
theorem Iq:(Tryz.prog.info? 3).map (fun i=>(i.zero,i.size,i.bytes))=some (some (.int .i64 0),1,8):=by kernel_rfl
theorem Qq8:∀{o:List Nd} {k:Nat} {a x:Nd},o[k]?=some a->a=x->x∉o.take k->o.idxOf x=k
 |[],k,a,x,h,_,_=>by simp at h
 |b :: r,0,a,x,h,hab,_=>by
  simp only [List.getElem?_cons_zero,Option.some.injEq]at h;subst h hab;simp
 |b :: r,k+1,a,x,h,hab,hn=>by
  simp only [List.take_succ_cons,List.mem_cons,not_or]at hn;have ih:=Qq8 (o:=r) (k:=k) (a:=a) (x:=x) (by simpa using h) hab hn.2;have hb:(b==x)=false:=by rw [beq_eq_false_iff_ne];exact fun e=>hn.1 e.symm
  rw [List.idxOf_cons,hb,ih];rfl
structure Ks (bw:Nat) (w w':World) (v v':Value):Prop where
 os:w'.os=w.os
 tape:w'.tape=w.tape
 output:w'.output=w.output
 size:w.heap.size<=w'.heap.size
 block:∀k,k < w.heap.size->k≠bw->v.ownBlock≠some k->w'.heap[k]?=w.heap[k]?
 row:∀g,v'.ownBlock=some g->v.ownBlock=some g\/w.heap.size<=g
section
variable {a b c w w':World} {va vb vc v v':Value} {bw:Nat}
theorem Ks.refl(w:World)(v:Value):Ks bw w w v v:=⟨rfl,rfl,rfl,Nat.le_refl _,fun _ _ _ _=>rfl,fun _ h=> .inl h⟩
theorem Ks.trans(h:Ks bw a b va vb)(k:Ks bw b c vb vc):Ks bw a c va vc :=
 ⟨k.os.trans h.os,k.tape.trans h.tape,k.output.trans h.output,Qx h.size k.size,
  fun i hi hb h4=>(k.block i (Qy hi h.size) hb (fun e=>by
   rcases h.row i e with e'|e'
   ·exact h4 e'
   omega)).trans (h.block i hi hb h4),
  fun g hg=>by
   rcases k.row g hg with e|e
   ·exact h.row g e
   exact .inr (Qx h.size e)⟩
theorem Ks.of_ext(e:Ext a b):Ks bw a b v v:=⟨e.os,e.tape,e.output,e.size,fun _ hk _ _=>e.block hk,fun _ h=> .inl h⟩
theorem Ks.of_r(h:Gj a b va vb):Ks bw a b va vb:=⟨h.os,h.tape,h.output,h.size,fun k hk _ hv=>h.block k hk hv,h.row⟩
theorem Ks.set_(w:World)(v:Value)(p:Addr)(hp:p.block=bw)(u:Value):Ks bw w (w.setCell p u) v v :=
 ⟨rfl,rfl,rfl,by simp [World.setCell],fun k _ hb _=>Below.heap_setCell _ _ _ _ (by rw [hp];exact hb),fun _ h=> .inl h⟩
end
theorem Qc8 {w W w4:World} {bw:Nat} {v v0 vd:Value} {t:TypeId}(hb:w.heap[bw]?=some (.cells #[v0,vd] t (0,0)))(hne:v.ownBlock≠some bw)(he:Ext w W)(hg:W.grownBy w4 v.ownBlock):w4.heap[bw]?=some (.cells #[v0,vd] t (0,0)):=
 ((hg.block bw (Qy (Qm hb) he.size) (fun e=>hne e.symm)).trans (he.block (Qm hb))).trans hb
theorem Qc9 {w W w4:World} {bw:Nat} {v v':Value}(he:Ext w W)(hg:W.grownBy w4 v.ownBlock)(hat:v'.ownBlock=v.ownBlock\/v'.ownBlock=some W.heap.size):Ks bw w w4 v v' :=
 Ks.of_r (((Gj.refl w v).ext he).appended hg hat)
theorem Qsx {w w4:World} {bw:Nat} {v v':Value}(h:Ks bw w w4 v v')(hne:v.ownBlock≠some bw)(hlt:bw < w.heap.size):v'.ownBlock≠some bw:=fun e=>by
 rcases h.row bw e with h1|h1
 ·exact hne h1
 omega
theorem Qe7(bw base:Nat)(x:Nd)(o:List Nd)(vo vd:Value)(w:World)(hblk:w.heap[bw]?=some (.cells #[vo,vd] 170 (0,0)))(hrow:w.ownsRow base 71 6 vo o.length (o.flatMap Nd.cells))
 (hb:base<=w.heap.size)(hlen:o.length<=1000)(hne:vo.ownBlock≠some bw):
 Calls Tryz.prog 207 #[.pointer (some ⟨bw,0,none⟩),.agg #[.int .i64 x.op,.int .i64 x.i,.int .i64 x.e,.int .i64 x.g,.int .i64 x.x,.int .i64 x.y]] w fun e w'=>∃vo',e=.returned (.int .i64 (o.idxOf x:Nat))/\
  w'.heap[bw]?=some (.cells #[vo',vd] 170 (0,0))/\w'.ownsRow base 71 6 vo' (Zh o x).length ((Zh o x).flatMap Nd.cells)/\Ks bw w w' vo vo':=by
 obtain⟨i0,hi0,hz0,hz1,hz2⟩:=info_parts Qy2;obtain⟨Ao,co,rfl⟩:=Qt hrow;have HROW:=Qq hrow;have HBLK:=Qq hblk;have HNE:=Qq hne;obtain⟨A2,c2,e2,hcap,hmax,hread⟩:=Sv hrow;obtain⟨rfl,rfl⟩:A2=Ao/\c2=co:=by injection e2 with e2 _ e3;exact⟨e2.symm,e3.symm⟩
 have HREAD:=Qq hread;unfold maxLen at hmax;obtain⟨d0,d1,dfr,dlt⟩:=Ka hblk;clear hrow hblk hne e2 hread;go_enter Tryz.func207,Tryz.ntmps207;go_wp2_with fail;go_loopw [5] (fun i wr=>∃k:Nat,k<=o.length/\i=.int .i64 k/\Hid (x∉o.take k)/\Ext w wr/\Hid (wr.heap[w.heap.size]?=some (.cells #[.int .i64 x.op,.int .i64 x.i,.int .i64 x.e,.int .i64 x.g,.int .i64 x.x,.int .i64 x.y] 71 (0,0)))) (fun i _=>o.length - (intOf i).toNat)
 case atStart=>exact⟨0,Nat.zero_le _,rfl,Qq (by simp),Qz.alloc _,Qq (heap_alloc_new _ _)⟩
 case round =>
  obtain⟨k,hk,rfl,HNI,hext,HBX⟩:=hrel;have k0:=(hext.cell (p:=⟨bw,0,none⟩) dlt).trans d0;have k1:=(hext.cell (p:=⟨bw,1,none⟩) dlt).trans d1;obtain⟨⟨b0,b1,b2,b3,b4,b5⟩,bfr,blt⟩:=Yx HBX.out;by_cases hlt2:k < o.length
  ·obtain⟨a,ha⟩:∃a,o[k]?=some a:=⟨_,Qv hlt2⟩;obtain⟨ad,rfl,hb1,hc1⟩:=HREAD.out (by intro e;rw [e]at hlt2;simp at hlt2);obtain⟨a0,a1,a2,a3,a4,a5⟩:=(hc1 k a ha).keep fun p hp=>hext.cell (p:=p) (by rw [hp,Qp];exact hb1)
   have hi0':(0:Int)<=(k:Int):=by omega
   have hi1':(k:Int) < (o.length:Int):=by omega
   have heq:=fun W=>Qth a x W
   have HA:=Qq ha;clear ha hc1;by_cases hab:a=x
   ·have hd:decide (a=x)=true:=by simpa using hab
    have HIX:Hid (o.idxOf x=k):=Qq (Qq8 HA.out hab HNI.out);have HIN:Hid (Zh o x=o):=Qq (by unfold Zh;rw [if_pos (by rw [<-hab];exact List.mem_of_getElem? HA.out)]);clear hab;go_wp2_with fail;go_quiet (fail);go_wp2_with fail;go_ret;refine⟨_,Kx (by rw [HIX.out]),?_,?_,Ks.of_ext (hext.drewN _)⟩
    ·exact((hext.drewN _).block dlt).trans HBLK.out
    rw [HIN.out];exact Zf HROW.out (hext.drewN _)
   have hd:decide (a=x)=false:=by simpa using hab
   have HT:Hid (x∉o.take (k+1)):=Qq (by rw [Yh HA.out];simp [HNI.out,Ne.symm hab]);clear hab;go_wp2_with fail;go_quiet (fail);go_wp2_with fail;go_roundw
   case rel=>exact⟨k+1,by omega,by go_num,HT,hext.drewN _,Qq HBX.out⟩
   case measure=>simp [intOf];omega
  obtain rfl:o.length=k:=by omega
  have HNOT:Hid (x∉o):=Qq (by have:=HNI.out;rwa [List.take_of_length_le (Nat.le_refl _)]at this);have hc3:o.length+1<=maxLen:=by unfold maxLen;omega
  have hc4:(o.length+1)*48<=140737488355328:=by omega
  have blt2:bw < wr.heap.size:=Qy dlt hext.size;have k2:=(hext.frozen (p:=⟨bw,0,none⟩) dlt).trans (dfr 0);go_wp2_with fail;go_region_law (refine Tq rfl (.tmp 29) (.tmp 31) 22 rfl base 71 i0 Nd.zero.val 6 48 Tryz.underlying22 hi0 hz0 hz1 hz2 rfl (by decide) (.slice A2 o.length c2) _ _ (by simp [Act.eval]) (Zf HROW.out (by repeat(first|exact hext|apply Ext.alloc|apply Ext.drew|apply Ext.drewN))) ⟨wr.heap.size,0,none⟩ 1 1 x.cells (by simp [Act.eval]) rfl (Jq _ _ _ (by simp)) (Fw x) hc3 hc4 (Qx hb (Ext.size (a:=w) (by repeat(first|exact hext|apply Ext.alloc|apply Ext.drew|apply Ext.drewN)))) ?_;intro v' w4 hown4 hgrow4 hat4;obtain⟨A4,c4,rfl⟩:=Qt hown4;have kb:=Qc8 HBLK.out HNE.out (by repeat(first|exact hext|apply Ext.alloc|apply Ext.drew|apply Ext.drewN)) hgrow4;obtain⟨q0,q1,qfr,qlt⟩:=Ka kb;have ST:=Qq (Qc9 (bw:=bw) (by repeat(first|exact hext|apply Ext.alloc|apply Ext.drew|apply Ext.drewN)) hgrow4 (hat4.imp id fun e=>by simp [e]));have HROW4:=Qq hown4;have KB:=Qq kb;clear hown4 hgrow4 hat4 kb)
  all_goals
   go_wp2_with fail;go_ret;refine⟨.slice A4 (o.length+1) c4,Kx (by rw [List.idxOf_eq_length HNOT.out]),?_,?_,?_⟩
   ·exact Qkp KB.out _
   ·rw [show Zh o x=o++ [x] by unfold Zh;rw [if_neg HNOT.out]];refine ownsRow_setCell_other (a:=⟨bw,0,none⟩) ?_ (Qsx ST.out HNE.out (Qm HBLK.out)) _;have h4:=HROW4.out
    simpa using h4
   exact ST.out.trans (Ks.set_ _ _ ⟨bw,0,none⟩ rfl _)
def Cw(f o:List Nd)(d:List Int):Prop:=d.length=f.length/\∀i,i < f.length->d[i]?=some (-1)\/(Zt f i o=(o,(Zt f i o).2)/\d[i]?=some (((Zt f i o).2:Nat):Int))
theorem Cw.grow {f o o':List Nd} {d:List Int}(hf:Wf f)(h:Cw f o d)(hp:o <+: o'):Cw f o' d:=by
 refine⟨h.1,fun i hi=> ?_⟩;rcases h.2 i hi with h1|⟨h1,h2⟩
 ·exact .inl h1
 have hg:=Us hf i o o' hi (by rw [h1];exact hp);exact .inr ⟨by rw [hg],by rw [hg];exact h2⟩
theorem Cw.put {f o:List Nd} {d:List Int} {i:Nat}(h:Cw f o d)(hi:i < f.length)(hfin:Zt f i o=(o,(Zt f i o).2)):Cw f o (d.set i (((Zt f i o).2:Nat):Int)):=by
 refine⟨by simpa using h.1,fun j hj=> ?_⟩;by_cases e:j=i
 ·subst e;exact .inr ⟨hfin,by rw [List.getElem?_set_self (by rw [h.1];exact hi)]⟩
 rw [List.getElem?_set_ne (Ne.symm e)];exact h.2 j hj
structure Um (bw:Nat) (W0 w:World) (A:Option Addr) (c:Nat) (f o:List Nd) (d:List Int) (vo vd:Value):Prop where
 below:Go.RowKit.Below W0.heap.size W0 w
 nds:Tj W0 A c f
 blk:w.heap[bw]?=some (.cells #[vo,vd] 170 (0,0))
 row:w.ownsRow W0.heap.size 71 6 vo o.length (o.flatMap Nd.cells)
 drow:w.ownsRow W0.heap.size 3 1 vd f.length (d.map (Value.int .i64))
 done:Cw f o d
 low:W0.heap.size<=bw
 oks:∀n∈o,n.ok
structure Xw (bw:Nat) (vd:Value) (w w':World) (v v':Value):Prop where
 os:w'.os=w.os
 tape:w'.tape=w.tape
 output:w'.output=w.output
 size:w.heap.size<=w'.heap.size
 block:∀k,k < w.heap.size->k≠bw->vd.ownBlock≠some k->v.ownBlock≠some k->w'.heap[k]?=w.heap[k]?
 row:∀g,v'.ownBlock=some g->v.ownBlock=some g\/w.heap.size<=g
section
variable {a b c w w':World} {va vb vc v v' vd:Value} {bw:Nat}
theorem Xw.refl(w:World)(v:Value):Xw bw vd w w v v:=⟨rfl,rfl,rfl,Nat.le_refl _,fun _ _ _ _ _=>rfl,fun _ h=> .inl h⟩
theorem Xw.trans(h:Xw bw vd a b va vb)(k:Xw bw vd b c vb vc):Xw bw vd a c va vc :=
 ⟨k.os.trans h.os,k.tape.trans h.tape,k.output.trans h.output,Qx h.size k.size,
  fun i hi hb hd h4=>(k.block i (Qy hi h.size) hb hd (fun e=>by
   rcases h.row i e with e'|e'
   ·exact h4 e'
   omega)).trans (h.block i hi hb hd h4),
  fun g hg=>by
   rcases k.row g hg with e|e
   ·exact h.row g e
   exact .inr (Qx h.size e)⟩
theorem Xw.of_ext(e:Ext a b):Xw bw vd a b v v:=⟨e.os,e.tape,e.output,e.size,fun _ hk _ _ _=>e.block hk,fun _ h=> .inl h⟩
theorem Xw.of_p(h:Ks bw a b va vb):Xw bw vd a b va vb:=⟨h.os,h.tape,h.output,h.size,fun k hk hb _ hv=>h.block k hk hb hv,h.row⟩
theorem Xw.set_(w:World)(v:Value)(p:Addr)(hp:vd.ownBlock=some p.block)(u:Value):Xw bw vd w (w.setCell p u) v v :=
 ⟨rfl,rfl,rfl,by simp [World.setCell],fun k _ _ hd _=>Below.heap_setCell _ _ _ _ (fun e=>hd (by rw [hp,e])),fun _ h=> .inl h⟩
end
section
variable {bw:Nat} {W0 we w w':World} {A:Option Addr} {c:Nat} {f o:List Nd} {d:List Int} {vo vd voe:Value} {bx:Nat} {m:Nd}
theorem Qjr {w:World} {base k:Nat} {e t:TypeId} {size n:Nat} {v:Value} {xs:List Value} {cs:Array Value}(h:w.ownsRow base e size v n xs)(hk:w.heap[k]?=some (.cells cs t (0,0)))(ht:t≠e):v.ownBlock≠some k:=by
 intro hg;rcases h.2 with⟨rfl,_⟩|⟨g,cap,cur,rfl,_,hb,_⟩
 ·cases hg
 obtain rfl:g=k:=by simpa [Value.ownBlock]using hg
 rw [hb]at hk;injection hk with hk;injection hk with _ hk;exact ht hk.symm
theorem Qe9 {w:World} {b1 b2:Nat} {e1 e2:TypeId} {s1 s2 n1 n2:Nat} {v1 v2:Value} {xs1 xs2:List Value}(h1:w.ownsRow b1 e1 s1 v1 n1 xs1)(h2:w.ownsRow b2 e2 s2 v2 n2 xs2)(hne:e1≠e2):
 ∀g,v1.ownBlock=some g->v2.ownBlock≠some g:=by
 intro g hg;rcases h1.2 with⟨rfl,_⟩|⟨g',cap,cur,rfl,_,hb,_⟩
 ·cases hg
 obtain rfl:g'=g:=by simpa [Value.ownBlock]using hg
 exact Qjr h2 hb hne
theorem Um.aparts(h:Um bw W0 w A c f o d vo vd):vo.ownBlock≠some bw/\vd.ownBlock≠some bw/\(∀g,vd.ownBlock=some g->vo.ownBlock≠some g):=
 ⟨Qjr h.row h.blk (by decide),Qjr h.drow h.blk (by decide),Qe9 h.drow h.row (by decide)⟩
theorem Um.keep(h:Um bw W0 w A c f o d vo vd)(hb:Go.RowKit.Below W0.heap.size W0 w')(hk:∀k,k < w.heap.size->(k=bw\/vo.ownBlock=some k\/vd.ownBlock=some k)->w'.heap[k]?=w.heap[k]?):Um bw W0 w' A c f o d vo vd :=
 ⟨hb,h.nds,(hk _ (Qm h.blk) (by simp)).trans h.blk,Zi h.row fun g hg=>hk g (h.row.lt g hg).2 (by simp [hg]),Zi h.drow fun g hg=>hk g (h.drow.lt g hg).2 (by simp [hg]),h.done,h.low,h.oks⟩
theorem Um.ext(h:Um bw W0 w A c f o d vo vd)(he:Ext w w'):Um bw W0 w' A c f o d vo vd :=
 h.keep (h.below.trans (Below.mono he h.below.size)) fun _ hk _=>he.block hk
structure Ti (bw:Nat) (W0 we w:World) (A:Option Addr) (c:Nat) (f o:List Nd) (d:List Int) (voe vo vd:Value) (bx:Nat) (m:Nd):Prop where
 inv:Um bw W0 w A c f o d vo vd
 step:Xw bw vd we w voe vo
 bwlt:bw < we.heap.size
 dlt:∀g,vd.ownBlock=some g->g < we.heap.size
 box:w.heap[bx]?=some (.cells #[.int .i64 m.op,.int .i64 m.i,.int .i64 m.e,.int .i64 m.g,.int .i64 m.x,.int .i64 m.y] 71 (0,0))
 fresh:we.heap.size<=bx/\vo.ownBlock≠some bx
theorem Ti.start(h:Um bw W0 we A c f o d vo vd)(n:Nd):Ti bw W0 we (we.alloc (.cells #[.int .i64 n.op,.int .i64 n.i,.int .i64 n.e,.int .i64 n.g,.int .i64 n.x,.int .i64 n.y] 71)) A c f o d vo vo vd we.heap.size n :=
 ⟨h.ext (Qz.alloc _),Xw.of_ext (Qz.alloc _),Qm h.blk,fun g hg=>(h.drow.lt g hg).2,heap_alloc_new _ _,Nat.le_refl _,fun e=>absurd (h.row.lt _ e).2 (by omega)⟩
theorem Ti.call {o':List Nd} {d':List Int} {vo':Value}(h:Ti bw W0 we w A c f o d voe vo vd bx m)(he:Um bw W0 w' A c f o' d' vo' vd)(hs:Xw bw vd w w' vo vo'):Ti bw W0 we w' A c f o' d' voe vo' vd bx m:=by
 obtain⟨f1,f4⟩:=h.fresh;have hbx:=Qm h.box;have hb:=h.bwlt;refine⟨he,h.step.trans hs,h.bwlt,h.dlt,(hs.block _ hbx (by omega) (fun e=>by have:=h.dlt _ e;omega) f4).trans h.box,f1,fun e=> ?_⟩;rcases hs.row _ e with e|e
 ·exact f4 e
 omega
theorem Ti.store(h:Ti bw W0 we w A c f o d voe vo vd bx m)(j:Nat)(u:Value)(m':Nd)
 (hm:(#[.int .i64 m.op,.int .i64 m.i,.int .i64 m.e,.int .i64 m.g,.int .i64 m.x,.int .i64 m.y]:Array Value).setIfInBounds j u=#[.int .i64 m'.op,.int .i64 m'.i,.int .i64 m'.e,.int .i64 m'.g,.int .i64 m'.x,.int .i64 m'.y]):
 Ti bw W0 we (w.setCell ⟨bx,j,none⟩ u) A c f o d voe vo vd bx m':=by
 obtain⟨f1,f4⟩:=h.fresh;have hb:=h.bwlt;have hlow:=h.inv.low;have hoth:∀k,k≠bx->(w.setCell ⟨bx,j,none⟩ u).heap[k]?=w.heap[k]?:=fun k hk=>Below.heap_setCell _ _ _ _ hk
 have hsz:(w.setCell ⟨bx,j,none⟩ u).heap.size=w.heap.size:=by simp [World.setCell]
 refine⟨h.inv.keep (h.inv.below.setCell (by show W0.heap.size<=bx;omega) _) fun k _ hk=>hoth k ?_,?_,h.bwlt,h.dlt,?_,f1,f4⟩
 ·rcases hk with hk|hk|hk
  ·omega
  ·exact fun e=>f4 (by rw [hk,e])
  intro e;have:=h.dlt k hk;omega
 ·exact⟨h.step.os,h.step.tape,h.step.output,by rw [hsz];exact h.step.size,fun k hk h1 h2 h3=>(hoth k (by omega)).trans (h.step.block k hk h1 h2 h3),h.step.row⟩
 have hb:=h.box;simp only [World.setCell,Array.getElem?_modify,hb,if_true,Option.map_some];simp [hm]
theorem Qwq {w:World} {base:Nat} {e:TypeId} {n g cap i:Nat} {xs:List Value}(h:w.ownsRow base e 1 (.slice (some ⟨g,0,none⟩) n cap) n xs)(u:Value):
 (w.setCell ⟨g,i,none⟩ u).ownsRow base e 1 (.slice (some ⟨g,0,none⟩) n cap) n (xs.set i u):=by
 refine⟨by simpa using h.1,.inr ?_⟩;rcases h.2 with⟨he,_⟩|⟨g',cap',cur,he,hb,hg,hn,hm,hs,ht⟩
 ·cases he
 injection he with e1 _ e3;injection e1 with e1;injection e1 with e1;subst e1 e3;refine⟨g,cap,cur.setIfInBounds i u,rfl,hb,?_,hn,hm,by simpa using hs,?_⟩
 ·simp only [World.setCell,Array.getElem?_modify,hg,if_true,Option.map_some];simp
 rw [<-ht];simp only [Array.toList_setIfInBounds];rw [List.take_set]
theorem Qwf {d:List Int} {i n:Nat} {z:Int}(h:d.length=n)(hi:i < n):(d.set i z)[i]?=some z:=by rw [List.getElem?_set_self (by omega)]
theorem Qhk {g cap i:Nat} {w5:World} {vo3:Value}(hf:Wf f)(h:Ti bw W0 we w A c f o d voe vo (.slice (some ⟨g,0,none⟩) f.length cap) bx m) {o0:List Nd}(hfin:Zt f i o0=(Zh o m,o.idxOf m))(hi:i < f.length)
 (hblk:w5.heap[bw]?=some (.cells #[vo3,.slice (some ⟨g,0,none⟩) f.length cap] 170 (0,0)))(hrow:w5.ownsRow W0.heap.size 71 6 vo3 (Zh o m).length ((Zh o m).flatMap Nd.cells))(hst:Ks bw w w5 vo vo3)(hok:m.ok):
 d.length=f.length/\Hid (Um bw W0 (w5.setCell ⟨g,i,none⟩ (.int .i64 (o.idxOf m:Nat))) A c f (Zh o m) (d.set i (o.idxOf m:Nat)) vo3 (.slice (some ⟨g,0,none⟩) f.length cap))/\
  Hid (Xw bw (.slice (some ⟨g,0,none⟩) f.length cap) we (w5.setCell ⟨g,i,none⟩ (.int .i64 (o.idxOf m:Nat))) voe vo3):=by
 obtain⟨a1,a2,a3⟩:=h.inv.aparts;have hg:=(h.inv.drow.lt g rfl);have hgb:w5.heap[g]?=w.heap[g]?:=hst.block g hg.2 (fun e=>a2 (by rw [<-e];rfl)) (a3 g rfl);have hgbw:g≠bw:=fun e=>a2 (by rw [<-e];rfl)
 have hvg:vo3.ownBlock≠some g:=fun e=>by
  rcases hst.row g e with e1|e1
  ·exact a3 g rfl e1
  omega
 have hdrow:w5.ownsRow W0.heap.size 3 1 (.slice (some ⟨g,0,none⟩) f.length cap) f.length (d.map (Value.int .i64)):=Zi h.inv.drow fun k hk=>by
  injection hk with hk;subst hk;exact hgb
 have hag:=Us hf i o0 (Zh o m) hi (by rw [hfin];exact List.prefix_refl _);rw [hfin]at hag;refine⟨h.inv.done.1,⟨?_,h.inv.nds,?_,?_,?_,?_,h.inv.low,?_⟩,?_⟩
 ·refine Below.setCell (Below.trans h.inv.below ?_) (by exact hg.1) _;refine⟨hst.os,hst.tape,hst.output,hst.size,fun k hk=>hst.block k (Qy hk h.inv.below.size) (by have:=h.inv.low;omega) (fun e=> ?_)⟩;have:=(h.inv.row.lt k e).1;omega
 ·exact(Below.heap_setCell _ _ _ _ (Ne.symm hgbw)).trans hblk
 ·exact ownsRow_setCell_other hrow hvg _
 ·have h2:=Qwq hdrow (i:=i) (.int .i64 (o.idxOf m:Nat));rw [<-List.map_set]at h2;exact h2
 ·have h3:=(h.inv.done.grow hf (Kc o m)).put hi (by rw [hag]);rw [hag]at h3;exact h3
 ·intro n hn;unfold Zh at hn
  split at hn
  ·exact h.inv.oks n hn
  rcases List.mem_append.1 hn with hn|hn
  ·exact h.inv.oks n hn
  rw [List.mem_singleton.1 hn];exact hok
 exact h.step.trans ((Xw.of_p hst).trans (Xw.set_ _ _ ⟨g,i,none⟩ rfl _))
end
def Qxo(bw:Nat)(W0:World)(A:Option Addr)(c:Nat)(f:List Nd)(vd:Value)(z:Int):Prop :=
 ∀(w:World) (o:List Nd) (d:List Int) (vo:Value),Um bw W0 w A c f o d vo vd->pot f o<=f.length->
  Calls Tryz.prog 181 #[.slice A f.length c,.int .i64 z,.pointer (some ⟨bw,0,none⟩)] w
   fun e w'=>∃vo' d',e=.returned (.int .i64 (Zt f z.toNat o).2)/\Um bw W0 w' A c f (Zt f z.toNat o).1 d' vo' vd/\Xw bw vd w w' vo vo'
theorem Qmc {bw:Nat} {W0 w:World} {A:Option Addr} {c:Nat} {f o:List Nd} {d:List Int} {vo vd:Value}(h:Um bw W0 w A c f o d vo vd)(hlen:f.length<=1000)(i k:Nat)(hi:i < f.length)(hd:d[i]?=some (k:Int)):
 Calls Tryz.prog 181 #[.slice A f.length c,.int .i64 i,.pointer (some ⟨bw,0,none⟩)] w fun e w'=>e=.returned (.int .i64 k)/\w=w':=by
 obtain⟨b0,b1,bfr,blt⟩:=Ka h.blk;obtain⟨g,cap,rfl,hg,hcap,hmax,hcell⟩:=Sj h.drow (by omega);obtain⟨hc,_⟩:=hcell i k hd;have hc':w.cell? ((⟨g,0,none⟩:Addr).add i)=some (.int .i64 (k:Int)):=by rw [Un];exact hc
 unfold maxLen at hmax;clear hcell h hd;go_enter Tryz.func181,Tryz.ntmps181;go_wp2_with fail;go_ret;exact⟨rfl,rfl⟩
theorem Ks.undrew {bw:Nat} {w w':World} {v v':Value}(h:Ks bw w.drew w' v v'):Ks bw w w' v v':=⟨h.os,h.tape,h.output,h.size,h.block,h.row⟩
theorem Qn9 {bw:Nat} {W0 w w5:World} {A:Option Addr} {c i g cap:Nat} {f o:List Nd} {d:List Int} {vo vo3:Value}(h:Um bw W0 w A c f o d vo (.slice (some ⟨g,0,none⟩) f.length cap))(hi:i < f.length)(hst:Ks bw w w5 vo vo3):
 (∃z,w5.cell? ⟨g,i,none⟩=some (.int .i64 z))/\w5.frozen? ⟨g,i,none⟩=false/\g < w5.heap.size:=by
 obtain⟨g',cap',e',hg',_,_,hcell'⟩:=Sj h.drow (by omega);obtain⟨rfl,rfl⟩:g=g'/\cap=cap':=by injection e' with e1 _ e3;injection e1 with e1;injection e1 with e1;exact⟨e1,e3⟩
 have hl:i < d.length:=by rw [h.done.1];exact hi
 obtain⟨c1,c2⟩:=hcell' i _ (Qv hl);obtain⟨a1,a2,a3⟩:=h.aparts;have hb:=hst.block g hg' (fun e=>a2 (by rw [<-e];rfl)) (a3 g rfl);exact⟨⟨_,(World.cell?_of_block (a:=⟨g,i,none⟩) hb).trans c1⟩,(World.frozen?_of_block (a:=⟨g,i,none⟩) hb).trans c2,Qy hg' hst.size⟩
theorem Qhv {bw:Nat} {W0 w:World} {A:Option Addr} {c:Nat} {f o:List Nd} {d:List Int} {vo vd:Value}(hf:Wf f)(hok:∀n∈f,n.ok)(h:Um bw W0 w A c f o d vo vd)(hlen:f.length<=1000)(i:Nat)(n:Nd)(hn:f[i]?=some n)
 (hd:d[i]?=some (-1))(hpot:pot f o<=f.length)(ih:∀z:Int,0<=z->z < i->Qxo bw W0 A c f vd z)(ux uy:Bool)(hux:Qh n.op=ux)(huy:Qc n.op=uy):
 Calls Tryz.prog 181 #[.slice A f.length c,.int .i64 i,.pointer (some ⟨bw,0,none⟩)] w
  fun e w'=>∃vo' d',e=.returned (.int .i64 (Zt f i o).2)/\Um bw W0 w' A c f (Zt f i o).1 d' vo' vd/\Xw bw vd w w' vo vo':=by
 have hi:i < f.length:=(List.getElem?_eq_some_iff.1 hn).1;obtain⟨b0,b1,bfr,blt⟩:=Ka h.blk;obtain⟨g,cap,rfl,hg,hcap,hmax,hcell⟩:=Sj h.drow (by omega);obtain⟨hc,_⟩:=hcell i _ hd;unfold maxLen at hmax;obtain⟨ad,rfl,hlt,hcells⟩:=h.nds.2.2 (by intro e;rw [e]at hi;simp at hi);have hcapl:=h.nds.1;have hcapm:=h.nds.2.1;unfold maxLen at hcapm;obtain⟨c0,c1,c2,c3,c4,c5⟩:=(hcells i n hn).keep fun p hp=>h.below.cell (p:=p) (by rw [hp,Qp];exact hlt)
 have hadw:(ad.add (i*6)).block < w.heap.size:=by rw [Qp];exact Qy hlt h.below.size
 have HCELLS:=Qq (hcells i n hn);have H:=Qq h;have HN:=Qq hn;have HUX:=Qq hux;have HUY:=Qq huy;have IH:=Qq ih;have HF:=Qq hf;have HOK:=Qq hok;have HP:=Qq hpot;clear h hn hux huy ih hcells hf hok hcell hd hpot;have HMS:=Qq (Ti.start H.out n);go_enter Tryz.func181,Tryz.ntmps181;go_upto_if 29 with(go_at_call 103;refine(Bq HUX.out _).mono ?_;rintro e w' ⟨rfl,rfl⟩);go_cut [] (fun wx=>∃vo1 d1,Ti bw W0 w wx (some ad) c f (opX f n o).1 d1 vo vo1 (.slice (some ⟨g,0,none⟩) f.length cap) w.heap.size (n.with_ (opX f n o).2 n.y.toNat))
 case first =>
  cases ux
  ·go_wp2_with fail;go_meet;exact⟨vo,d,by rw [Qmj HUX.out,Qm9 HUX.out (fun e=>((HF.out i n HN.out).2 e).1)];exact HMS.out⟩
  obtain⟨hx0,hx1⟩:=(HF.out i n HN.out).1 HUX.out;go_wp2_with fail;refine(IH.out n.x hx0 hx1 _ _ _ _ HMS.out.inv HP.out).mono ?_;rintro e w2 ⟨vo1,d1,rfl,hinv,hstep⟩;have HM2:=Qq (HMS.out.call hinv hstep);clear hinv hstep;obtain⟨⟨d0,d1',d2,d3,d4,d5⟩,dfr,dlt⟩:=Yx HM2.out.box;go_wp2_with fail;go_meet;refine⟨vo1,d1,?_⟩;rw [Qd1 HUX.out];exact HM2.out.store 4 _ _ (Qnv HUX.out (fun e=>((HF.out i n HN.out).2 e).1))
 case rest =>
  obtain⟨vo1,d1,hmid1⟩:=hcut;have HP1:Hid (pot f (opX f n o).1<=f.length):=Qq (Qx (Qd6 HF.out HN.out o) HP.out);obtain⟨o1,k1,ho1⟩:∃o1 k1,opX f n o=(o1,k1):=⟨_,_,rfl⟩;have HO1:=Qq ho1;rw [ho1]at hmid1 HP1;simp only at hmid1 HP1;clear ho1 b0 b1 bfr blt hc c0 c1 c2 c3 c4 c5 hadw HMS;obtain⟨⟨q0,q1,q2,q3,q4,q5⟩,qfr,qlt⟩:=Yx hmid1.box;rw [show(n.with_ k1 n.y.toNat).op=n.op from rfl]at q0;obtain⟨c0,c1,c2,c3,c4,c5⟩:=HCELLS.out.keep fun p hp=>hmid1.inv.below.cell (p:=p) (by rw [hp,Qp];exact hlt)
  have HM:=Qq hmid1;clear hmid1;go_upto_if 41 with(go_at_call 104;refine(Bz HUY.out _).mono ?_;rintro e w' ⟨rfl,rfl⟩);go_cut [] (fun wx=>∃vo2 d2,Ti bw W0 w wx (some ad) c f (opY f n o1).1 d2 vo vo2 (.slice (some ⟨g,0,none⟩) f.length cap) w.heap.size (n.with_ k1 (opY f n o1).2))
  case first =>
   cases uy
   ·go_wp2_with fail;go_meet;exact⟨vo1,d1,by rw [Qmy HUY.out,Qnd HUY.out];exact HM.out⟩
   obtain⟨hy0,hy1⟩:=(HF.out i n HN.out).2 HUY.out;go_wp2_with fail;refine(IH.out n.y hy0 hy1 _ _ _ _ HM.out.inv HP1.out).mono ?_;rintro e w2 ⟨vo2,d2,rfl,hinv,hstep⟩;have HM2:=Qq (HM.out.call hinv hstep);clear hinv hstep q0 q1 q2 q3 q4 q5 qfr qlt c0 c1 c2 c3 c4 c5;obtain⟨⟨q0,q1,q2,q3,q4,q5⟩,qfr,qlt⟩:=Yx HM2.out.box;go_wp2_with fail;go_meet;refine⟨vo2,d2,?_⟩;rw [Qd2 HUY.out];exact HM2.out.store 5 _ _ (Qnk HUY.out _ rfl)
  case rest =>
   obtain⟨vo2,d2,hmid2⟩:=hcut;have HP2:Hid (pot f (opY f n o1).1<=f.length):=Qq (Qx (Qd7 HF.out HN.out o1) HP1.out);obtain⟨o2,k2,ho2⟩:∃o2 k2,opY f n o1=(o2,k2):=⟨_,_,rfl⟩;have HO2:=Qq ho2;rw [ho2]at hmid2 HP2;simp only at hmid2 HP2;clear ho2 q0 q1 q2 q3 q4 q5 qfr qlt c0 c1 c2 c3 c4 c5;have hk1:k1<=1000:=Qaj HF.out HN.out HO1.out hlen HP1.out;have hk2:k2<=1000:=Qay HF.out HN.out HO2.out hlen HP2.out;have HMOK:=Qq (Qnb (HOK.out n (List.mem_of_getElem? HN.out)) hk1 hk2);have HFIN:=Qq (Qt2 HF.out HN.out HO1.out HO2.out);clear hk1 hk2;generalize n.with_ k1 k2=mm at hmid2 HMOK HFIN;obtain⟨⟨q0,q1,q2,q3,q4,q5⟩,qfr,qlt⟩:=Yx hmid2.box
   obtain⟨b0,b1,bfr,blt⟩:=Ka hmid2.inv.blk;have HM2:=Qq hmid2;clear hmid2;go_upto_region 8 with(fail);go_cut [] (fun wx=>∃vo3 d3,Hid (d3[i]?=some ((o2.idxOf mm:Nat):Int))/\Hid (Um bw W0 wx (some ad) c f (Zh o2 mm) d3 vo3 (.slice (some ⟨g,0,none⟩) f.length cap))/\Hid (Xw bw (.slice (some ⟨g,0,none⟩) f.length cap) w wx vo vo3))
   case first =>
    have hap:=HM2.out.inv.aparts;have HRUN:=Qq (Qe7 bw W0.heap.size mm o2 vo2 (.slice (some ⟨g,0,none⟩) f.length cap));have HAP:=Qq hap;have hp2:o2.length<=1000:=Qx (Xh f o2) (Qx HP2.out hlen);clear hap;go_region_with (go_at_call 207;refine(HRUN.out _ (by exact HM2.out.inv.blk) (by exact HM2.out.inv.row) (by exact HM2.out.inv.below.size) hp2 HAP.out.1).mono ?_;rintro e w5 ⟨vo3,rfl,hblk5,hrow5,hst5'⟩;have hst5:Ks bw wc w5 vo2 vo3:=(by first|exact hst5'|exact Ks.undrew hst5');obtain⟨r0,r1,rfr,rlt⟩:=Ka hblk5;obtain⟨⟨z0,s0⟩,s1,slt⟩:=Qn9 HM2.out.inv hi hst5;have H5:=Qq (Qhk HF.out HM2.out HFIN.out hi hblk5 hrow5 hst5 HMOK.out);clear hblk5 hrow5 hst5 hst5')
    all_goals
     go_wp2_with fail;go_meet;exact⟨vo3,_,Qq (Qwf H5.out.1 hi),H5.out.2.1,H5.out.2.2⟩
   case rest =>
    obtain⟨vo3,d3,HD3,HI3,HS3⟩:=hcut;obtain⟨b0',b1',bfr',blt'⟩:=Ka HI3.out.blk;obtain⟨g',cap',e',hg',hcap',hmax',hcell'⟩:=Sj HI3.out.drow (by omega);obtain⟨rfl,rfl⟩:g=g'/\cap=cap':=by injection e' with e1 _ e3;injection e1 with e1;injection e1 with e1;exact⟨e1,e3⟩
    have hc3:=(hcell' i _ HD3.out).1;clear hcell' e';go_wp2_with fail;go_ret;refine⟨vo3,d3,Kx ?_,?_,HS3.out⟩
    ·rw [HFIN.out]
    rw [HFIN.out];exact HI3.out
theorem Qft {bw:Nat} {W0:World} {A:Option Addr} {c:Nat} {f:List Nd} {vd:Value}(hf:Wf f)(hok:∀n∈f,n.ok)(hlen:f.length<=1000):
 ∀i:Nat,i < f.length->Qxo bw W0 A c f vd i:=by
 intro i
 induction i using Nat.strongRecOn with
 |_ i ih =>
  intro hi w o d vo hinv hpot;obtain⟨n,hn⟩:∃n,f[i]?=some n:=⟨_,Qv hi⟩;rw [Int.toNat_natCast];rcases hinv.done.2 i hi with hd|⟨hfin,hd⟩
  ·refine Qhv hf hok hinv hlen i n hn hd hpot (fun z h0 h1=> ?_) _ _ rfl rfl;obtain⟨j,rfl⟩:=Int.eq_ofNat_of_zero_le h0;exact ih j (by omega) (by omega)
  refine(Qmc hinv hlen i _ hi hd).mono ?_;rintro e w' ⟨rfl,rfl⟩;exact⟨vo,d,rfl,by rw [hfin];exact hinv,Xw.refl _ _⟩
theorem Vj(v:Value)(l:List Nd)(w:World)(h:Nds w v l):
 Calls Tryz.prog 13 #[v] w fun e w'=>e=.returned (.int .i64 (check l))/\Ext w w':=by
 obtain⟨A,c,rfl,hcap,hmax,hread⟩:=h;unfold maxLen at hmax;by_cases h0:l.length=0
 ·have hcheck:check l=3:=by simp [check,h0]
  rw [h0,hcheck];clear hcheck hread;go_enter Tryz.func13,Tryz.ntmps13;go_wp2_with fail;go_ret;exact⟨rfl,Qz⟩
 have e0:((l.length:Int)==0)=false:=by rw [beq_eq_false_iff_ne];omega
 by_cases h1:200 < l.length
 ·have hcheck:check l=8:=by simp [check,h0,h1]
  rw [hcheck];clear hcheck hread;go_enter Tryz.func13,Tryz.ntmps13;go_wp2_with fail;go_ret;exact⟨rfl,Qz⟩
 have hne:l≠ []:=fun e=>h0 (by simp [e])
 obtain⟨ad,rfl,hlt,hcells⟩:=hread hne;have HC:=Qq hcells;clear hcells;have HK:=Qq (show check l=Jj l 0 by simp [check,h0,h1]);have hl:l.length<=200:=by omega
 clear h0 h1 hread;go_enter Tryz.func13,Tryz.ntmps13;go_wp2_with fail;go_loopw [3] (fun i wr=>∃k:Nat,k<=l.length/\i=.int .i64 k/\Hid (Jj l 0=Jj (l.drop k) k)/\Ext w wr) (fun i _=>l.length - (intOf i).toNat)
 case atStart=>exact⟨0,Nat.zero_le _,rfl,Qq rfl,Qz⟩
 case round =>
  obtain⟨k,hk,rfl,hrest,hext⟩:=hrel;by_cases hlt2:k < l.length
  ·obtain⟨n,hn⟩:∃n,l[k]?=some n:=⟨_,Qv hlt2⟩;have hst:=Pj l k n hn;obtain⟨c0,c1,c2,c3,c4,c5⟩:=(HC.out k n hn).keep fun p hp=>hext.cell (p:=p) (by rw [hp,Qp];exact hlt)
   by_cases he:Qo n k=0
   ·have hst2:Hid (Jj l 0=Jj (l.drop (k+1)) ((k+1:Nat):Int)):=Qq (by rw [hrest.out,hst,he];rfl);have hh:=Qq he;clear hst he hn hrest;go_wp2_with(go_at_call 43;refine(Nv n _ _).mono ?_;rintro e w1 ⟨rfl,hb⟩;rw [hh.out]);go_roundw
    case rel=>exact⟨k+1,by omega,by go_num,hst2,hext.trans hb⟩
    case measure=>simp [intOf];omega
   have hh:(Qo n k !=0)=true:=by simpa using he
   have hst2:Hid (Jj l 0=Qo n k):=Qq (by rw [hrest.out,hst,hh];rfl);clear hst he hn hrest;go_wp2_with(go_at_call 43;refine(Nv n _ _).mono ?_;rintro e w1 ⟨rfl,hb⟩);go_ret;exact⟨Kx (by rw [HK.out,hst2.out]),hext.trans hb⟩
  obtain rfl:l.length=k:=by omega
  go_wp2_with fail;go_ret;refine⟨Kx ?_,hext⟩;rw [HK.out,hrest.out];simp [Jj]
theorem Qkt {w W w4:World} {bw:Nat} {v v0 v1:Value} {t:TypeId}(hb:w.heap[bw]?=some (.cells #[v0,v1] t (0,0)))(hne:v.ownBlock≠some bw)(he:Ext w W)(hg:W.grownBy w4 v.ownBlock):w4.heap[bw]?=some (.cells #[v0,v1] t (0,0)):=
 ((hg.block bw (Qy (Qm hb) he.size) (fun e=>hne e.symm)).trans (he.block (Qm hb))).trans hb
structure Qpy (w1:World) (k:Nat) (vd:Value) (wr:World):Prop where
 blk:wr.heap[w1.heap.size]?=some (.cells #[.slice none 0 0,vd] 170 (0,0))
 row:wr.ownsRow (w1.heap.size+1) 3 1 vd k ((List.replicate k (-1:Int)).map (Value.int .i64))
 ext:Ext w1 wr
theorem Qfa {w1 w4:World} {k:Nat} {v' v0:Value} {xs:List Value}(hb:w4.heap[w1.heap.size]?=some (.cells #[.slice none 0 0,v0] 170 (0,0)))(hr:w4.ownsRow (w1.heap.size+1) 3 1 v' (k+1) (xs++ [.int .i64 (-1)]))
 (hne:v'.ownBlock≠some w1.heap.size)(hx:Ext w1 w4)(hxs:xs=(List.replicate k (-1:Int)).map (Value.int .i64)):∃vd,Qpy w1 (k+1) vd (w4.setCell ⟨w1.heap.size,1,none⟩ v'):=by
 refine⟨v',Et hb _,ownsRow_setCell_other (a:=⟨w1.heap.size,1,none⟩) ?_ hne _,Ext.setCell hx (Nat.le_refl _) _⟩;subst hxs;rw [List.replicate_succ',List.map_append];exact hr
theorem Qsr(v:Value)(l:List Nd)(z:Int)(w:World)(h:Fml w v l):
 Calls Tryz.prog 175 #[v,.int .i64 z] w fun e w'=>∃u,e=.returned u/\Jl w w' u (Jb l z):=by
 have H:=Qq h;obtain⟨⟨A,c,rfl,hat⟩,hok⟩:=h;have HAT:=Qq hat;have hcl:=hat.1;have hcm:=hat.2.1;unfold maxLen at hcm;clear hat hok;by_cases hc:check l=0
 ·by_cases hz:z < 0
  ·have HR:=Qq (show Jb l z= [] by unfold Jb;simp [hz]);have HC:=Qq hc;clear hc;go_enter Tryz.func175,Tryz.ntmps175;go_wp2_with(go_at_call 13;refine(Vj _ l _ H.out.1).mono ?_;rintro e w1 ⟨rfl,hb⟩;rw [HC.out]);go_ret;exact⟨_,rfl,by rw [HR.out];exact(Jl.none_ _).after hb⟩
  by_cases hl:(l.length:Int)<=z
  ·have HR:=Qq (show Jb l z= [] by unfold Jb;simp [hl]);have HC:=Qq hc;clear hc;go_enter Tryz.func175,Tryz.ntmps175;go_wp2_with(go_at_call 13;refine(Vj _ l _ H.out.1).mono ?_;rintro e w1 ⟨rfl,hb⟩;rw [HC.out]);go_ret;exact⟨_,rfl,by rw [HR.out];exact(Jl.none_ _).after hb⟩
  obtain⟨r,rfl⟩:=Int.eq_ofNat_of_zero_le (show 0<=z by omega);have hr:r < l.length:=by omega
  have HR:=Qq (show Jb l r=(Zt l r []).1 by
   unfold Jb;rw [hc];have h1:decide ((r:Int) < 0)=false:=by simp
   have h2:decide ((l.length:Int)<=(r:Int))=false:=by simp;omega
   rw [h1,h2]
   rfl)
  have HC:=Qq hc;have HL:=(Zm hc).2.1;obtain⟨i3,hi3,hz30,hz31,hz32⟩:=info_parts Iq;have hd0:decide ((r:Int) < 0)=false:=by simp
  have hd1:decide (l.length<=r)=false:=by simp;omega
  clear hc;go_enter Tryz.func175,Tryz.ntmps175;go_wp2_with(go_at_call 13;refine(Vj _ l _ H.out.1).mono ?_;rintro e w1 ⟨rfl,hb⟩;rw [HC.out];have HB:=Qq hb;clear hb);go_loopw [6] (fun i wr=>∃k:Nat,k<=l.length/\i=.int .i64 k/\Hid (∃vd,Qpy w1 k vd wr)) (fun i _=>l.length - (intOf i).toNat)
  case atStart=>exact⟨0,Nat.zero_le _,rfl,Qq ⟨.slice none 0 0,heap_alloc_new _ _,World.ownsRow_nil _ _ _ _,Qz.alloc _⟩⟩
  case round =>
   obtain⟨k,hk,rfl,hrs⟩:=hrel;obtain⟨vd,hblk0,hrow0,hext⟩:=hrs.out;have HBLK:=Qq hblk0;have HROW:=Qq hrow0;clear hblk0 hrow0 hrs;obtain⟨Ad,cd,rfl⟩:=Qt HROW.out;obtain⟨d0,d1,dfr,dlt⟩:=Ka HBLK.out;by_cases hlt2:k < l.length
   ·have hc3:k+1<=maxLen:=by unfold maxLen;omega
    have hc4:(k+1)*8<=140737488355328:=by omega
    have hfz:=dfr 1;have HNE:=Qq (Nk HROW.out);have hc5:∀X,w1.heap.size+1<=(wr.alloc X).heap.size:=fun X=>by simp;omega
    obtain⟨xs,hxs⟩:∃xs,xs=(List.replicate k (-1:Int)).map (Value.int .i64):=⟨_,rfl⟩;rw [<-hxs]at HROW;have HXS:=Qq hxs;clear hxs;go_wp2_with(at_builtin;refine wpList_append_own_at _ rfl _ _ 36 rfl (w1.heap.size+1) 3 i3 (.int .i64 0) 1 8 Tryz.underlying36 hi3 hz30 hz31 hz32 rfl (by decide) _ _ _ rfl (Zf HROW.out (Qz.alloc _)) _ 1 1 [.int .i64 (-1)] rfl rfl (Jq _ _ _ (by simp)) (fun u hu=>by rw [List.mem_singleton.1 hu];rfl) hc3 hc4 (hc5 _) ?_);intro v' w4 hown4 hgrow4 _ hat4;obtain⟨A4,c4,rfl⟩:=Qt hown4;have HROW4:=Qq hown4;have kb:=Qkt HBLK.out HNE.out (Qz.alloc _) hgrow4
    have HX4:=Qq ((Ext.alloc hext _).grown hgrow4 (fun g hg=>by have:=(HROW.out.lt g hg).1;omega));have HNE4:=Qq (Nk hown4);obtain⟨q0,q1,qfr,qlt⟩:=Ka kb;have qf1:=qfr 1;have KB:=Qq kb;clear hown4 hgrow4 hat4 kb d0 d1 dfr dlt hfz;go_wp2_with fail;go_roundw
    case rel=>exact⟨k+1,by omega,by go_num,Qq (Qfa KB.out HROW4.out HNE4.out HX4.out HXS.out)⟩
    case measure=>simp [intOf];omega
   obtain rfl:l.length=k:=by omega
   have HRUN:=Qq (Qft (bw:=w1.heap.size) (W0:=w) (A:=A) (c:=c) (vd:=.slice Ad l.length cd) (Ja HC.out) H.out.2 (by omega) r hr)
   have HINV:Hid (Um w1.heap.size w wr A c l [] (List.replicate l.length (-1)) (.slice none 0 0) (.slice Ad l.length cd)):=
    Qq ⟨HB.out.trans hext,HAT.out,HBLK.out,World.ownsRow_nil _ _ _ _,Xk HROW.out (Nat.le_succ_of_le HB.out.size),⟨by simp,fun i hi=> .inl (by simp [hi])⟩,HB.out.size,by simp⟩
   go_wp2_with fail;refine(HRUN.out _ _ _ _ HINV.out (Mz l)).mono ?_;rw [Int.toNat_natCast];rintro e w5 ⟨vo5,d5,rfl,hinv,hst⟩;obtain⟨q0,q1,qfr,qlt⟩:=Ka hinv.blk;have HM:=Qq (show Jl w w5 vo5 (Jb l r) by rw [HR.out];exact⟨hinv.row,hinv.oks,hinv.below⟩);obtain⟨A6,c6,rfl⟩:=Qt hinv.row;clear hinv hst;go_wp2_with fail;go_ret;exact⟨_,rfl,HM.out⟩
 have hb1:(check l !=0)=true:=by simpa using hc
 have HR:=Qq (show Jb l z= [] by unfold Jb;rw [hb1];rfl);clear hc;go_enter Tryz.func175,Tryz.ntmps175;go_wp2_with(go_at_call 13;refine(Vj _ l _ H.out.1).mono ?_;rintro e w1 ⟨rfl,hb⟩);go_ret;exact⟨_,rfl,by rw [HR.out];exact(Jl.none_ _).after hb⟩
theorem Ct(v:Value)(l:List Nd)(w:World)(h:Fml w v l):
 Calls Tryz.prog 110 #[v] w fun e w'=>∃u,e=.returned u/\Jl w w' u (Qg l):=by
 have H:=Qq h;obtain⟨⟨A,c,rfl,hat⟩,hok⟩:=h;have hl:=hat.1;have hm:=hat.2.1;unfold maxLen at hm;clear hat hok;go_enter Tryz.func110,Tryz.ntmps110;go_wp2_with fail;refine(Qsr _ l _ _ H.out).mono ?_;rintro e w2 ⟨u,rfl,hm⟩;have HM:=Qq hm;clear hm;go_wp2_with fail;go_ret;exact⟨_,rfl,HM.out⟩
inductive Tr where
 |leaf (n:Nd)
 |one (n:Nd) (a:Tr)
 |two (n:Nd) (a b:Tr)
def Nd.head(n:Nd):Nd:=n.with_ 0 0
def Tr.ok:Tr->Prop
 |.leaf n=>Qh n.op=false/\Qc n.op=false
 |.one n a=>Qh n.op=true/\Qc n.op=false/\n.head=n/\a.ok
 |.two n a b=>Qh n.op=true/\Qc n.op=true/\n.head=n/\a.ok/\b.ok
def Tr.size:Tr->Nat
 |.leaf _=>1
 |.one _ a=>a.size+1
 |.two _ a b=>a.size+b.size+1
def Tr.top:Tr->Nd
 |.leaf n=>n
 |.one n _=>n
 |.two n _ _=>n
def trF(f:List Nd):Nat->Nat->Tr
 |0,_=> .leaf Nd.zero
 |k+1,i=>bif Qc (f.getD i Nd.zero).op then .two (f.getD i Nd.zero).head (trF f k (f.getD i Nd.zero).x.toNat) (trF f k (f.getD i Nd.zero).y.toNat)
  else bif Qh (f.getD i Nd.zero).op then .one (f.getD i Nd.zero).head (trF f k (f.getD i Nd.zero).x.toNat)else .leaf (f.getD i Nd.zero)
def tr(f:List Nd)(i:Nat):Tr:=trF f (i+1) i
def Ql(f:List Nd):Tr:=tr f (f.length - 1)
def Yv(n:Nd)(a b:Tr):Tr:=bif Qc n.op then .two n.head a b else bif Qh n.op then .one n.head a else .leaf n
theorem Qjm {f:List Nd}(hf:Wf f):∀(k i:Nat),i < k->i < f.length->trF f k i=tr f i:=by
 intro k
 induction k using Nat.strongRecOn with
 |_ k ih =>
  intro i h hi;cases k with
  |zero=>omega
  |succ k =>
   obtain⟨n,hn⟩:∃n,f[i]?=some n:=⟨_,Qv hi⟩;obtain⟨hx,hy⟩:=hf i n hn;have e:∀(b:Nat),b < i->trF f k b=trF f i b:=fun b hb=>by
    rw [ih k (by omega) b (by omega) (by omega)];by_cases hik:i=k
    ·subst hik;exact(ih i (by omega) b hb (by omega)).symm
    exact(ih i (by omega) b hb (by omega)).symm
   unfold tr;simp only [trF,Cr hn];cases h2:Qc n.op
   ·cases h1:Qh n.op
    ·rfl
    have:=hx h1;simp only [cond_true,cond_false];rw [e _ (by omega)]
   have h1:=Vz h2;have:=hx h1;have:=hy h2;simp only [cond_true];rw [e _ (by omega),e _ (by omega)]
theorem Vo {f:List Nd}(hf:Wf f) {i:Nat} {n:Nd}(hn:f[i]?=some n):tr f i=Yv n (tr f n.x.toNat) (tr f n.y.toNat):=by
 have hi:i < f.length:=(List.getElem?_eq_some_iff.1 hn).1;obtain⟨hx,hy⟩:=hf i n hn
 conv=>lhs;unfold tr trF
 simp only [Cr hn,Yv];cases h2:Qc n.op
 ·cases h1:Qh n.op
  ·rfl
  have:=hx h1;simp only [cond_true,cond_false];rw [Qjm hf _ _ (by omega) (by omega)]
 have h1:=Vz h2;have:=hx h1;have:=hy h2;simp only [cond_true];rw [Qjm hf _ _ (by omega) (by omega),Qjm hf _ _ (by omega) (by omega)]
theorem Qr9 {n:Nd} {a a' b b':Tr}(hx:Qh n.op=true->a=a')(hy:Qc n.op=true->b=b'):Yv n a b=Yv n a' b':=by
 unfold Yv;cases h2:Qc n.op
 ·cases h1:Qh n.op
  ·rfl
  rw [hx h1];rfl
 rw [hx (Vz h2),hy h2]
theorem Xg {f g:List Nd}(hf:Wf f)(hg:Wf g)(hp:f <+: g):∀i,i < f.length->tr g i=tr f i:=by
 intro i
 induction i using Nat.strongRecOn with
 |_ i ih =>
  intro hi;obtain⟨n,hn⟩:∃n,f[i]?=some n:=⟨_,Qv hi⟩;obtain⟨hx,hy⟩:=hf i n hn;have hn':g[i]?=some n:=by
   obtain⟨t,rfl⟩:=hp;rw [List.getElem?_append_left hi];exact hn
  rw [Vo hf hn,Vo hg hn'];exact Qr9 (fun h=>by have:=hx h;exact ih _ (by omega) (by omega)) (fun h=>by have:=hy h;exact ih _ (by omega) (by omega))
theorem Rx(n:Nd):n.head.head=n.head:=by
 unfold Nd.head Nd.with_;cases Qh n.op <;> cases Qc n.op <;> rfl
theorem Ig(n:Nd)(a b:Nat):(n.with_ a b).head=n.head:=by
 unfold Nd.head Nd.with_;cases Qh n.op <;> cases Qc n.op <;> rfl
theorem Wa(n:Nd)(a b:Nat):n.head.with_ a b=n.with_ a b:=by
 unfold Nd.head Nd.with_;cases Qh n.op <;> cases Qc n.op <;> rfl
theorem Qva(n:Nd)(a b:Nat):(n.with_ a b).op=n.op:=rfl
theorem Bn(n:Nd):n.head.op=n.op:=rfl
theorem Qem {n:Nd} {a b:Tr}(ha:Qh n.op=true->a.ok)(hb:Qc n.op=true->b.ok):(Yv n a b).ok:=by
 unfold Yv;cases h2:Qc n.op
 ·cases h1:Qh n.op
  ·exact⟨h1,h2⟩
  exact⟨h1,h2,Rx n,ha h1⟩
 have h1:=Vz h2;exact⟨h1,h2,Rx n,ha h1,hb h2⟩
theorem Qxp {f:List Nd}(hf:Wf f):∀i,i < f.length->(tr f i).ok:=by
 intro i
 induction i using Nat.strongRecOn with
 |_ i ih =>
  intro hi;obtain⟨n,hn⟩:∃n,f[i]?=some n:=⟨_,Qv hi⟩;obtain⟨hx,hy⟩:=hf i n hn;rw [Vo hf hn];exact Qem (fun h=>by have:=hx h;exact ih _ (by omega) (by omega)) (fun h=>by have:=hy h;exact ih _ (by omega) (by omega))
def ins:Tr->List Nd->List Nd×Nat
 |.leaf n,o=>(Zh o n,o.idxOf n)
 |.one n a,o=>(Zh (ins a o).1 (n.with_ (ins a o).2 0),(ins a o).1.idxOf (n.with_ (ins a o).2 0))
 |.two n a b,o=>(Zh (ins b (ins a o).1).1 (n.with_ (ins a o).2 (ins b (ins a o).1).2),(ins b (ins a o).1).1.idxOf (n.with_ (ins a o).2 (ins b (ins a o).1).2))
def Qf(t:Tr):List Nd:=(ins t []).1
theorem Qk3 {n:Nd}(h1:Qh n.op=false)(h2:Qc n.op=false)(a b:Nat):n.with_ a b=n:=by
 unfold Nd.with_;rw [h1,h2];rfl
theorem Qh3 {n:Nd}(h2:Qc n.op=false)(a b c:Nat):n.with_ a b=n.with_ a c:=by
 unfold Nd.with_;rw [h2];rfl
theorem Nl {f:List Nd}(hf:Wf f):∀(i:Nat) (o:List Nd),i < f.length->Zt f i o=ins (tr f i) o:=by
 intro i
 induction i using Nat.strongRecOn with
 |_ i ih =>
  intro o hi;obtain⟨n,hn⟩:∃n,f[i]?=some n:=⟨_,Qv hi⟩;obtain⟨hx,hy⟩:=hf i n hn;rw [Ub hf hn,Vo hf hn];unfold Yv opX opY;cases h2:Qc n.op
  ·cases h1:Qh n.op
   ·simp only [cond_false,ins,Bool.false_eq_true,if_false,Qk3 h1 h2]
   have:=hx h1;simp only [cond_false,cond_true,ins,Bool.false_eq_true,if_false,if_true,Wa];rw [ih _ (by omega) _ (by omega),Qh3 h2 _ _ 0]
  have h1:=Vz h2;have:=hx h1;have:=hy h2;simp only [h1,cond_true,ins,if_true,Wa];rw [ih n.x.toNat (by omega) o (by omega),ih n.y.toNat (by omega) _ (by omega)]
theorem Qvh {o:List Nd} {m:Nd}(ho:Wf o)(hx:Qh m.op=true->0<=m.x/\m.x < o.length)(hy:Qc m.op=true->0<=m.y/\m.y < o.length):Wf (Zh o m):=by
 unfold Zh
 split
 ·exact ho
 exact Rs ho hx hy
theorem Qzb(o:List Nd)(m:Nd):(Zh o m)[o.idxOf m]?=some m:=by
 rw [<-Az];rw [List.getElem?_eq_getElem (List.idxOf_lt_length_of_mem (Qz8 o m))];rw [List.getElem_idxOf]
structure Zqj (t:Tr) (o:List Nd):Prop where
 wf:Wf (ins t o).1
 pre:o <+:(ins t o).1
 lt:(ins t o).2 < (ins t o).1.length
 tree:tr (ins t o).1 (ins t o).2=t
theorem Ke:∀(t:Tr) (o:List Nd),t.ok->Wf o->Zqj t o
 |.leaf n,o,⟨h1,h2⟩,ho=>by
  have hw:Wf (Zh o n):=Qvh ho (fun h=>by rw [h1]at h;cases h) (fun h=>by rw [h2]at h;cases h);refine⟨hw,Kc _ _,Bx _ _,?_⟩;show tr (Zh o n) (o.idxOf n)=_;rw [Vo hw (Qzb o n)];unfold Yv;rw [h1,h2];rfl
 |.one n a,o,⟨h1,h2,h3,ha⟩,ho=>by
  have A:=Ke a o ha ho;have hw:Wf (Zh (ins a o).1 (n.with_ (ins a o).2 0)):=Qvh A.wf (fun h=>by
   have:=A.lt;simp only [Nd.with_,h1,cond_true]
   omega) (fun h=>by rw [Qva,h2]at h;cases h)
  refine⟨hw,A.pre.trans (Kc _ _),Bx _ _,?_⟩;show tr (Zh (ins a o).1 (n.with_ (ins a o).2 0)) ((ins a o).1.idxOf (n.with_ (ins a o).2 0))=_;rw [Vo hw (Qzb _ _)];unfold Yv;rw [Qva,h1,h2,Ig,h3];have e:(n.with_ (ins a o).2 0).x.toNat=(ins a o).2:=by simp [Nd.with_,h1]
  rw [e,Xg A.wf hw (Kc _ _) _ A.lt,A.tree];rfl
 |.two n a b,o,⟨h1,h2,h3,ha,hb⟩,ho=>by
  have A:=Ke a o ha ho;have B:=Ke b _ hb A.wf;have hlt:(ins a o).2 < (ins b (ins a o).1).1.length:=Qy A.lt B.pre.length_le;have hw:Wf (Zh (ins b (ins a o).1).1 (n.with_ (ins a o).2 (ins b (ins a o).1).2)):=Qvh B.wf (fun h=>by
   simp only [Nd.with_,h1,cond_true]
   omega) (fun h=>by
   have:=B.lt;simp only [Nd.with_,h2,cond_true]
   omega)
  refine⟨hw,(A.pre.trans B.pre).trans (Kc _ _),Bx _ _,?_⟩;show tr (Zh (ins b (ins a o).1).1 (n.with_ (ins a o).2 (ins b (ins a o).1).2)) ((ins b (ins a o).1).1.idxOf (n.with_ (ins a o).2 (ins b (ins a o).1).2))=_;rw [Vo hw (Qzb _ _)];unfold Yv;rw [Qva,h2,Ig,h3];have e:(n.with_ (ins a o).2 (ins b (ins a o).1).2).x.toNat=(ins a o).2:=by simp [Nd.with_,h1]
  have e':(n.with_ (ins a o).2 (ins b (ins a o).1).2).y.toNat=(ins b (ins a o).1).2:=by simp [Nd.with_,h2]
  rw [e,e',Xg A.wf hw (B.pre.trans (Kc _ _)) _ A.lt,A.tree,Xg B.wf hw (Kc _ _) _ B.lt,B.tree];rfl
def Below(N:Nat)(o:List Nd):Prop:=∀k,k < o.length->(tr o k).size < N
theorem Hz {N:Nat} {o:List Nd} {m:Nd}(ho:Wf o)(hw:Wf (Zh o m))(h:Below N o)(hm:(tr (Zh o m) (o.idxOf m)).size < N):Below N (Zh o m):=by
 intro k hk;by_cases hko:k < o.length
 ·rw [Xg ho hw (Kc _ _) _ hko];exact h k hko
 have hne:m∉o:=fun hm'=>by
  unfold Zh at hk;rw [if_pos hm']at hk;exact hko hk
 have:k=o.idxOf m:=by
  rw [List.idxOf_eq_length hne];unfold Zh at hk;rw [if_neg hne]at hk;simp at hk;omega
 rw [this];exact hm
theorem Rf:∀(t:Tr) (o:List Nd) (N:Nat),t.ok->Wf o->Below N o->t.size < N->Below N (ins t o).1
 |.leaf n,o,N,ht,ho,hb,hs=>by
  have I:=Ke (.leaf n) o ht ho;exact Hz ho I.wf hb (Nat.lt_of_le_of_lt (Nat.le_of_eq (congrArg Tr.size I.tree)) hs)
 |.one n a,o,N,ht,ho,hb,hs=>by
  have I:=Ke (.one n a) o ht ho;have A:=Ke a o ht.2.2.2 ho;have hs':a.size+1 < N:=hs;exact Hz A.wf I.wf (Rf a o N ht.2.2.2 ho hb (by omega)) (Nat.lt_of_le_of_lt (Nat.le_of_eq (congrArg Tr.size I.tree)) hs)
 |.two n a b,o,N,ht,ho,hb,hs=>by
  have I:=Ke (.two n a b) o ht ho;have A:=Ke a o ht.2.2.2.1 ho;have B:=Ke b _ ht.2.2.2.2 A.wf;have hs':a.size+b.size+1 < N:=hs;exact Hz B.wf I.wf (Rf b _ N ht.2.2.2.2 A.wf (Rf a o N ht.2.2.2.1 ho hb (by omega)) (by omega)) (Nat.lt_of_le_of_lt (Nat.le_of_eq (congrArg Tr.size I.tree)) hs)
theorem Wk(N:Nat):Below N []:=fun k h=>absurd h (by simp)
theorem Wi {o:List Nd} {m:Nd} {t:Tr}(hb:Below t.size o)(ht:tr (Zh o m) (o.idxOf m)=t):o.idxOf m+1=(Zh o m).length:=by
 have hne:m∉o:=fun hm=>by
  have hlt:=List.idxOf_lt_length_of_mem hm;have:=hb _ hlt;have e:Zh o m=o:=by unfold Zh;rw [if_pos hm]
  rw [e]at ht;rw [ht]at this;omega
 rw [List.idxOf_eq_length hne];unfold Zh;rw [if_neg hne];simp
theorem Qg2(t:Tr)(ht:t.ok):(ins t []).2+1=(Qf t).length:=by
 have I:=Ke t [] ht Bb;cases t with
 |leaf n=>exact Wi (Wk _) I.tree
 |one n a =>
  have A:=Ke a [] ht.2.2.2 Bb;exact Wi (t:=.one n a) (Rf a [] _ ht.2.2.2 Bb (Wk _) (Nat.lt_succ_self _)) I.tree
 |two n a b =>
  have A:=Ke a [] ht.2.2.2.1 Bb;have B:=Ke b _ ht.2.2.2.2 A.wf;have e:(Tr.two n a b).size=a.size+b.size+1:=rfl;exact Wi (t:=.two n a b) (Rf b _ _ ht.2.2.2.2 A.wf (Rf a [] _ ht.2.2.2.1 Bb (Wk _) (by omega)) (by omega)) I.tree
theorem Hk {t:Tr}(ht:t.ok):Wf (Qf t):=(Ke t [] ht Bb).wf
theorem Gv {t:Tr}(ht:t.ok):0 < (Qf t).length:=by have:=Qg2 t ht;omega
theorem Vf {t:Tr}(ht:t.ok):Ql (Qf t)=t:=by
 unfold Ql;have h:=Qg2 t ht;rw [show(Qf t).length - 1=(ins t []).2 by omega];exact(Ke t [] ht Bb).tree
theorem Qtf {s t:Tr}(hs:s.ok)(ht:t.ok)(h:Qf s=Qf t):s=t:=by
 rw [<-Vf hs,<-Vf ht,h]
end Go.Proofs.YtkmclcmnoicagaaGreatDoor
