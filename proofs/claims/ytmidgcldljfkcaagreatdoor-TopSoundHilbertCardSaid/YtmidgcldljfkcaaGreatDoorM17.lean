/- The state of natural.Check: the checker's block, and its two rows, apart from all else. -/
import Derived.Test.YtmidgcldljfkcaaGreatDoorM01
import Derived.Test.YtmidgcldljfkcaaGreatDoorM05
namespace Go.Proofs.YtmidgcldljfkcaaGreatDoor
set_option maxRecDepth 100000
set_option maxHeartbeats 128000000
open Go.RowKit
theorem Cm {w:World} {base n:Nat} {t:TypeId} {v:Value} {us:List Value}(h:w.ownsRow base t 1 v n us)(hn:0 < n):
 ∃g cap,v=.slice (some ⟨g,0,none⟩) n cap/\g < w.heap.size/\n<=cap/\cap<=maxLen/\∀i z,us[i]?=some z->w.cell? ⟨g,i,none⟩=some z:=by
 rcases h.2 with⟨_,h0⟩|⟨g,cap,cur,rfl,_,hg,hnc,hm,hs,ht⟩
 ·omega
 refine⟨g,cap,rfl,Qm hg,hnc,hm,fun i z h1=> ?_⟩;rw [<-ht,List.getElem?_take]at h1
 split at h1
 ·have h2:cur[i]?=some z:=by simpa using h1
  simp [World.cell?,hg,h2]
 cases h1
theorem Nds.keep {w w':World} {v:Value} {l:List Nd}(h:Nds w v l)(hb:∀g,v.ownBlock=some g->g < w.heap.size->w'.heap[g]?=w.heap[g]?)(hs:w.heap.size<=w'.heap.size):Nds w' v l:=by
 obtain⟨A,c,rfl,h1,h2,h3⟩:=h;refine⟨A,c,rfl,h1,h2,fun hn=> ?_⟩;obtain⟨ad,rfl,hlt,hc⟩:=h3 hn;refine⟨ad,rfl,Qy hlt hs,fun k n hk=>(hc k n hk).keep fun p hp=>World.cell?_of_block ?_⟩;rw [hp,Qn];exact hb ad.block rfl hlt
theorem Fml.keep {w w':World} {v:Value} {l:List Nd}(h:Fml w v l)(hb:∀g,v.ownBlock=some g->g < w.heap.size->w'.heap[g]?=w.heap[g]?)(hs:w.heap.size<=w'.heap.size):Fml w' v l:=⟨h.1.keep hb hs,h.2⟩
theorem Zi.keep {w w':World} {v:Value} {l:List Int}(h:Zi w v l)(hb:∀g,v.ownBlock=some g->g < w.heap.size->w'.heap[g]?=w.heap[g]?)(hs:w.heap.size<=w'.heap.size):Zi w' v l:=by
 obtain⟨A,c,rfl,h1,h2,h3⟩:=h;refine⟨A,c,rfl,h1,h2,fun hn=> ?_⟩;obtain⟨ad,rfl,hlt,hc⟩:=h3 hn;refine⟨ad,rfl,Qy hlt hs,fun k z hk=>(World.cell?_of_block ?_).trans (hc k z hk)⟩;rw [Qn];exact hb ad.block rfl hlt
def Gq(w:World)(bw:Nat)(vf vs u:Value):Prop:=∀g,u.ownBlock=some g->g < w.heap.size/\g≠bw/\vf.ownBlock≠some g/\vs.ownBlock≠some g
structure Kf (w0 w:World) (bw:Nat) (lg:Int) (vl vf vs:Value) (ls:List Ln) (fs:List (List Nd)) (st:List (List Int)):Prop where
 ext:Ext w0 w
 base:w0.heap.size<=bw
 blk:w.heap[bw]?=some (.cells #[.int .i64 lg,vl,vf,vs] 93 (0,0))
 lns:Lns w0 vl ls
 frow:∃us,w.ownsRow w0.heap.size 31 1 vf fs.length us/\∀(k:Nat) (f:List Nd),fs[k]?=some f->∃u,us[k]?=some u/\Fml w u f/\Gq w bw vf vs u
 srow:∃us,w.ownsRow w0.heap.size 60 1 vs st.length us/\∀(k:Nat) (s:List Int),st[k]?=some s->∃u,us[k]?=some u/\Zi w u s/\Gq w bw vf vs u
 fne:vf.ownBlock≠some bw
 sne:vs.ownBlock≠some bw
 fsne:∀g,vf.ownBlock=some g->vs.ownBlock≠some g
section
variable {w0 w w' W:World} {bw:Nat} {lg:Int} {vl vf vs u:Value} {ls:List Ln} {fs:List (List Nd)} {st:List (List Int)}
theorem Gq.ext(h:Gq w bw vf vs u)(he:Ext w w'):Gq w' bw vf vs u:=fun g hg=>by
 obtain⟨a,b,c,d⟩:=h g hg;exact⟨Qy a he.size,b,c,d⟩
theorem Kf.ext_(h:Kf w0 w bw lg vl vf vs ls fs st)(he:Ext w w'):Kf w0 w' bw lg vl vf vs ls fs st:=by
 obtain⟨us,hr,hu⟩:=h.frow;obtain⟨ss,hs,hv⟩:=h.srow;refine⟨h.ext.trans he,h.base,(he.block (Qm h.blk)).trans h.blk,h.lns,⟨us,Jt hr he,fun k f hk=> ?_⟩,⟨ss,Jt hs he,fun k s hk=> ?_⟩,h.fne,h.sne,h.fsne⟩
 ·obtain⟨u,a,b,c⟩:=hu k f hk;exact⟨u,a,b.ext he,c.ext he⟩
 obtain⟨u,a,b,c⟩:=hv k s hk;exact⟨u,a,b.ext he,c.ext he⟩
theorem Kf.chk(h:Kf w0 w bw lg vl vf vs ls fs st):Chk w bw lg ls fs st:=by
 obtain⟨us,hr,hu⟩:=h.frow;obtain⟨ss,hs,hv⟩:=h.srow;refine⟨vl,vf,vs,h.blk,h.lns.ext h.ext,?_,?_⟩
 ·by_cases h0:0 < fs.length
  ·obtain⟨g,cap,rfl,hg,h1,h2,hc⟩:=Cm hr h0;refine⟨_,cap,rfl,h1,h2,fun _=>⟨_,rfl,hg,fun k f hk=> ?_⟩⟩;obtain⟨u,a,b,_⟩:=hu k f hk;exact⟨u,by rw [Xs];exact hc k u a,b⟩
  have e:fs= []:=List.length_eq_zero_iff.1 (by omega);subst e;obtain⟨A,c,rfl⟩:=Zq hr;rcases hr.2 with⟨e,_⟩|⟨g,cap,cur,e,_,_,hn,hm,_⟩
  ·injection e with e1 _ e2;subst e1 e2;exact⟨_,_,rfl,Nat.le_refl _,by unfold maxLen;omega,fun h=>absurd rfl h⟩
  injection e with e1 _ e2;subst e1 e2;exact⟨_,_,rfl,Nat.zero_le _,hm,fun h=>absurd rfl h⟩
 by_cases h0:0 < st.length
 ·obtain⟨g,cap,rfl,hg,h1,h2,hc⟩:=Cm hs h0;refine⟨_,cap,rfl,h1,h2,fun _=>⟨_,rfl,hg,fun k f hk=> ?_⟩⟩;obtain⟨u,a,b,_⟩:=hv k f hk;exact⟨u,by rw [Xs];exact hc k u a,b⟩
 have e:st= []:=List.length_eq_zero_iff.1 (by omega);subst e;obtain⟨A,c,rfl⟩:=Zq hs;rcases hs.2 with⟨e,_⟩|⟨g,cap,cur,e,_,_,hn,hm,_⟩
 ·injection e with e1 _ e2;subst e1 e2;exact⟨_,_,rfl,Nat.le_refl _,by unfold maxLen;omega,fun h=>absurd rfl h⟩
 injection e with e1 _ e2;subst e1 e2;exact⟨_,_,rfl,Nat.zero_le _,hm,fun h=>absurd rfl h⟩
theorem Qn4 {b:Nat} {a0 a1 a2 a3:Value} {t:TypeId}(h:w.heap[b]?=some (.cells #[a0,a1,a2,a3] t (0,0)))(u:Value):(w.setCell ⟨b,2,none⟩ u).heap[b]?=some (.cells #[a0,a1,u,a3] t (0,0)):=by
 simp only [World.setCell,Array.getElem?_modify,h,if_true,Option.map_some];simp
theorem Qd8 {b:Nat} {a0 a1 a2 a3:Value} {t:TypeId}(h:w.heap[b]?=some (.cells #[a0,a1,a2,a3] t (0,0)))(u:Value):(w.setCell ⟨b,3,none⟩ u).heap[b]?=some (.cells #[a0,a1,a2,u] t (0,0)):=by
 simp only [World.setCell,Array.getElem?_modify,h,if_true,Option.map_some];simp
theorem Qjh {w4:World} {v:Value} {p:Addr} {u:Value}(hp:p.block=bw)(hg:W.grownBy w4 v.ownBlock) {g:Nat}(h:g < W.heap.size)(h1:g≠bw)(h2:v.ownBlock≠some g):(w4.setCell p u).heap[g]?=W.heap[g]?:=by
 refine(Below.heap_setCell _ _ _ _ (by rw [hp];exact h1)).trans (hg.block g h (fun e=>h2 e.symm))
theorem Qqe(w:World)(p:Addr)(u:Value):(w.setCell p u).heap.size=w.heap.size:=by simp [World.setCell]
theorem Qfx {w4:World} {v:Value} {p:Addr} {u:Value}(hp:p.block=bw)(h0:Ext w0 W)(hb:w0.heap.size<=bw)(hg:W.grownBy w4 v.ownBlock)(hv:∀g,v.ownBlock=some g->w0.heap.size<=g):Ext w0 (w4.setCell p u):=
 (h0.grown hg hv).setCell (by rw [hp];exact hb) u
theorem Kf.pushS(h:Kf w0 W bw lg vl vf vs ls fs st) {w4:World} {v' x:Value} {s:List Int} {ss:List Value}(hs:W.ownsRow w0.heap.size 60 1 vs st.length ss)(hv:∀(k:Nat) (s:List Int),st[k]?=some s->∃u,ss[k]?=some u/\Zi W u s/\Gq W bw vf vs u)
 (hrow:w4.ownsRow w0.heap.size 60 1 v' (st.length+1) (ss++ [x]))(hg:W.grownBy w4 vs.ownBlock)(hat:v'.ownBlock=vs.ownBlock\/v'.ownBlock=some W.heap.size)(hx:Zi W x s)(hxf:Gq W bw vf vs x):
 Kf w0 (w4.setCell ⟨bw,3,none⟩ v') bw lg vl vf v' ls fs (st++ [s]):=by
 obtain⟨us,hr,hu⟩:=h.frow;have hlen:ss.length=st.length:=by simpa using hs.1
 have hbw:bw < W.heap.size:=Qm h.blk;have hS:W.heap.size<=(w4.setCell ⟨bw,3,none⟩ v').heap.size:=by rw [Qqe];exact hg.size
 have hvne:v'.ownBlock≠some bw:=fun e=>by
  rcases hat with e1|e1
  ·exact h.sne (e1.symm.trans e)
  rw [e1]at e;injection e with e;omega
 have hkeep:∀g,g < W.heap.size->g≠bw->vs.ownBlock≠some g->(w4.setCell ⟨bw,3,none⟩ v').heap[g]?=W.heap[g]?:=fun g h1 h2 h3=>Qjh rfl hg h1 h2 h3
 have hfree:∀u,Gq W bw vf vs u->Gq (w4.setCell ⟨bw,3,none⟩ v') bw vf v' u:=fun u hu g hgu=>by
  obtain⟨a,b,c,d⟩:=hu g hgu;refine⟨Qy a hS,b,c,fun e=> ?_⟩;rcases hat with e1|e1
  ·exact d (e1.symm.trans e)
  rw [e1]at e;injection e with e;omega
 have hvf:∀g,vf.ownBlock=some g->g < W.heap.size:=fun g hg'=>(hr.lt g hg').2
 refine⟨Qfx (v:=vs) rfl h.ext h.base hg (fun g hg'=>(hs.lt g hg').1),h.base,?_,h.lns,⟨us,?_,fun k f hk=> ?_⟩,⟨ss++ [x],?_,fun k s' hk=> ?_⟩,h.fne,hvne,fun g hgf e=> ?_⟩
 ·exact Qd8 ((hg.block bw hbw (fun e=>h.sne e.symm)).trans h.blk) v'
 ·exact Nx hr fun g hg'=>hkeep g (hvf g hg') (fun e=>h.fne (by rw [<-e];exact hg')) (h.fsne g hg')
 ·obtain⟨u,a,b,c⟩:=hu k f hk;exact⟨u,a,b.keep (fun g hg' _=>hkeep g (c g hg').1 (c g hg').2.1 (c g hg').2.2.2) hS,hfree u c⟩
 ·have e:(st++ [s]).length=st.length+1:=by simp
  rw [e];exact ownsRow_setCell_other hrow hvne _
 ·by_cases hk':k < st.length
  ·rw [List.getElem?_append_left hk']at hk;obtain⟨u,a,b,c⟩:=hv k s' hk;exact⟨u,by rw [List.getElem?_append_left (by omega)];exact a,b.keep (fun g hg' _=>hkeep g (c g hg').1 (c g hg').2.1 (c g hg').2.2.2) hS,hfree u c⟩
  rw [List.getElem?_append_right (by omega)]at hk;have hk0:k=st.length:=by
   by_cases e:k - st.length=0
   ·omega
   rw [List.getElem?_eq_none (by simp;omega)]at hk;cases hk
  subst hk0;simp at hk;subst hk;exact⟨x,by rw [List.getElem?_append_right (by omega),hlen];simp,hx.keep (fun g hg' _=>hkeep g (hxf g hg').1 (hxf g hg').2.1 (hxf g hg').2.2.2) hS,hfree x hxf⟩
 rcases hat with e1|e1
 ·exact h.fsne g hgf (e1.symm.trans e)
 rw [e1]at e;injection e with e;have:=hvf g hgf;omega
theorem Kf.pushF(h:Kf w0 W bw lg vl vf vs ls fs st) {w4:World} {v' x:Value} {s:List Nd} {ss:List Value}(hs:W.ownsRow w0.heap.size 31 1 vf fs.length ss)(hv:∀(k:Nat) (s:List Nd),fs[k]?=some s->∃u,ss[k]?=some u/\Fml W u s/\Gq W bw vf vs u)
 (hrow:w4.ownsRow w0.heap.size 31 1 v' (fs.length+1) (ss++ [x]))(hg:W.grownBy w4 vf.ownBlock)(hat:v'.ownBlock=vf.ownBlock\/v'.ownBlock=some W.heap.size)(hx:Fml W x s)(hxf:Gq W bw vf vs x):
 Kf w0 (w4.setCell ⟨bw,2,none⟩ v') bw lg vl v' vs ls (fs++ [s]) st:=by
 obtain⟨us,hr,hu⟩:=h.srow;have hlen:ss.length=fs.length:=by simpa using hs.1
 have hbw:bw < W.heap.size:=Qm h.blk;have hS:W.heap.size<=(w4.setCell ⟨bw,2,none⟩ v').heap.size:=by rw [Qqe];exact hg.size
 have hvne:v'.ownBlock≠some bw:=fun e=>by
  rcases hat with e1|e1
  ·exact h.fne (e1.symm.trans e)
  rw [e1]at e;injection e with e;omega
 have hkeep:∀g,g < W.heap.size->g≠bw->vf.ownBlock≠some g->(w4.setCell ⟨bw,2,none⟩ v').heap[g]?=W.heap[g]?:=fun g h1 h2 h3=>Qjh rfl hg h1 h2 h3
 have hfree:∀u,Gq W bw vf vs u->Gq (w4.setCell ⟨bw,2,none⟩ v') bw v' vs u:=fun u hu g hgu=>by
  obtain⟨a,b,c,d⟩:=hu g hgu;refine⟨Qy a hS,b,fun e=> ?_,d⟩;rcases hat with e1|e1
  ·exact c (e1.symm.trans e)
  rw [e1]at e;injection e with e;omega
 have hvs:∀g,vs.ownBlock=some g->g < W.heap.size:=fun g hg'=>(hr.lt g hg').2
 refine⟨Qfx (v:=vf) rfl h.ext h.base hg (fun g hg'=>(hs.lt g hg').1),h.base,?_,h.lns,⟨ss++ [x],?_,fun k s' hk=> ?_⟩,⟨us,?_,fun k f hk=> ?_⟩,hvne,h.sne,fun g hgf e=> ?_⟩
 ·exact Qn4 ((hg.block bw hbw (fun e=>h.fne e.symm)).trans h.blk) v'
 ·have e:(fs++ [s]).length=fs.length+1:=by simp
  rw [e];exact ownsRow_setCell_other hrow hvne _
 ·by_cases hk':k < fs.length
  ·rw [List.getElem?_append_left hk']at hk;obtain⟨u,a,b,c⟩:=hv k s' hk;exact⟨u,by rw [List.getElem?_append_left (by omega)];exact a,b.keep (fun g hg' _=>hkeep g (c g hg').1 (c g hg').2.1 (c g hg').2.2.1) hS,hfree u c⟩
  rw [List.getElem?_append_right (by omega)]at hk;have hk0:k=fs.length:=by
   by_cases e:k - fs.length=0
   ·omega
   rw [List.getElem?_eq_none (by simp;omega)]at hk;cases hk
  subst hk0;simp at hk;subst hk;exact⟨x,by rw [List.getElem?_append_right (by omega),hlen];simp,hx.keep (fun g hg' _=>hkeep g (hxf g hg').1 (hxf g hg').2.1 (hxf g hg').2.2.1) hS,hfree x hxf⟩
 ·exact Nx hr fun g hg'=>hkeep g (hvs g hg') (fun e=>h.sne (by rw [<-e];exact hg')) (fun e=>h.fsne g e hg')
 ·obtain⟨u,a,b,c⟩:=hu k f hk;exact⟨u,a,b.keep (fun g hg' _=>hkeep g (c g hg').1 (c g hg').2.1 (c g hg').2.2.1) hS,hfree u c⟩
 rcases hat with e1|e1
 ·exact h.fsne g (e1.symm.trans hgf) e
 rw [e1]at hgf;injection hgf with hgf;have:=hvs g e;omega
end
end Go.Proofs.YtmidgcldljfkcaaGreatDoor
