/- What the reference's open builds: the space's block and its four rows, while they grow. -/
import Derived.Test.YtbfeodammikajaaGreatM01
import Derived.Test.YtbfeodammikajaaGreatM27
import Derived.Test.YtbfeodammikajaaGreatM26
namespace Go.Proofs.YtbfeodammikajaaGreat
set_option maxRecDepth 100000
set_option maxHeartbeats 128000000
open Go.RowKit
def upd {α:Type}(f:Nat->α)(j:Nat)(x:α):Nat->α:=fun i=>if i=j then x else f i
theorem upd_self {α:Type}(f:Nat->α)(j:Nat)(x:α):upd f j x j=x:=if_pos rfl
theorem upd_ne {α:Type}(f:Nat->α) {i j:Nat}(x:α)(h:i≠j):upd f j x i=f i:=if_neg h
def spcO(s:Nat)(v:Nat->Value)(k:Nat):Prop:=k=s\/∃i,i < 4/\(v i).ownBlock=some k
def rowN(base:List (List Nd))(j i:Nat):List Bool:=if j=1 then bodyN base i else if j=2 then condN base i else lastT base i
structure OpI (w1 w:World) (s:Nat) (lg:Int) (base:List (List Nd)) (n:Nat->Nat) (v:Nat->Value):Prop where
 ext:Ext w1 w
 lo:w1.heap.size<=s
 cells:∃vb,w.heap[s]?=some (.cells #[.int .i64 lg,vb,v 0,v 1,v 2,v 3] 108 (0,0))/\Fmls w1 vb base
 ops:w.ownsRow w1.heap.size 93 6 (v 0) (n 0) (((List.range (n 0)).map (topN base)).flatMap Nd.cells)
 rows:∀j,1<=j->j < 4->∃us,w.ownsRow w1.heap.size 61 1 (v j) (n j) us/\∀i,i < n j->∃u,us[i]?=some u/\Frz (spcO s v) w (fun w'=>Bools w' u (rowN base j i))
 apart:∀i j,i < 4->j < 4->i≠j->∀b,(v i).ownBlock=some b->(v j).ownBlock≠some b
 off:∀i,i < 4->(v i).ownBlock≠some s
section
variable {w1 w w':World} {s:Nat} {lg:Int} {base:List (List Nd)} {n:Nat->Nat} {v:Nat->Value}
theorem OpI.slt(h:OpI w1 w s lg base n v):s < w.heap.size:=by
 obtain⟨_,hb,_⟩:=h.cells;exact lt_heap hb
theorem OpI.rlt(h:OpI w1 w s lg base n v) {i b:Nat}(hi:i < 4)(hb:(v i).ownBlock=some b):w1.heap.size<=b/\b < w.heap.size:=by
 by_cases e:i=0
 ·subst e;exact h.ops.lt b hb
 obtain⟨_,hr,_⟩:=h.rows i (by omega) hi;exact hr.lt b hb
theorem OpI.next(h:OpI w1 w s lg base n v)(he:Ext w w'):OpI w1 w' s lg base n v:=by
 refine⟨h.ext.trans he,h.lo,?_,row_ext h.ops he,fun j h1 h2=> ?_,h.apart,h.off⟩
 ·obtain⟨vb,hb,hf⟩:=h.cells;exact⟨vb,(he.block (lt_heap hb)).trans hb,hf⟩
 obtain⟨us,hr,hu⟩:=h.rows j h1 h2;refine⟨us,row_ext hr he,fun i hi=> ?_⟩;obtain⟨u,e,hz⟩:=hu i hi;exact⟨u,e,hz.next (SameX.of_ext he) fun _ _ h=>h⟩
theorem OpI.fresh {w0:World} {u:Value} {l:List Bool}(h:OpI w1 w0 s lg base n v)(hr:MadeB w0.heap.size w u l):Frz (spcO s v) w (fun w'=>Bools w' u l):=
 frz_of_made hr fun g hg e=>by
  have h1:=(hr.lt g hg).1;rcases e with e|⟨i,hi,e⟩
  ·have:=h.slt;omega
  have:=(h.rlt hi e).2;omega
theorem OpI.none_:Frz (spcO s v) w (fun w'=>Bools w' (.slice none 0 0) []):=fun _ _=>bools_nil _
theorem OpI.reads(h:OpI w1 w s lg base n v):w.cell? ⟨s,2,none⟩=some (v 0)/\w.cell? ⟨s,3,none⟩=some (v 1)/\w.cell? ⟨s,4,none⟩=some (v 2)/\w.cell? ⟨s,5,none⟩=some (v 3)/\(∀j,w.frozen? ⟨s,j,none⟩=false)/\s < w.heap.size:=by
 obtain⟨_,hb,_⟩:=h.cells;obtain⟨⟨_,_,d2,d3,d4,d5⟩,hf,hl⟩:=cells6 hb;exact⟨d2,d3,d4,d5,hf,hl⟩
theorem set_space {a0 a1 a2 a3 a4 a5 u:Value} {t:TypeId}(h:w.heap[s]?=some (.cells #[a0,a1,a2,a3,a4,a5] t (0,0))):
 (w.setCell ⟨s,2,none⟩ u).heap[s]?=some (.cells #[a0,a1,u,a3,a4,a5] t (0,0))/\(w.setCell ⟨s,3,none⟩ u).heap[s]?=some (.cells #[a0,a1,a2,u,a4,a5] t (0,0))/\(w.setCell ⟨s,4,none⟩ u).heap[s]?=some (.cells #[a0,a1,a2,a3,u,a5] t (0,0))/\(w.setCell ⟨s,5,none⟩ u).heap[s]?=some (.cells #[a0,a1,a2,a3,a4,u] t (0,0)):=by
 refine⟨?_,?_,?_,?_⟩ <;>(simp only [World.setCell,Array.getElem?_modify,h,if_true,Option.map_some];simp)
theorem OpI.step {w4:World} {c:Obj} {j:Nat} {v':Value}(h:OpI w1 w s lg base n v)(hj:j < 4)(hg:(w.alloc c).grownBy w4 (v j).ownBlock)(ho:v'.ownBlock=(v j).ownBlock\/v'.ownBlock=some (w.alloc c).heap.size)
 (h0:j=0->w4.ownsRow w1.heap.size 93 6 v' (n 0+1) (((List.range (n 0+1)).map (topN base)).flatMap Nd.cells))
 (h1:1<=j->∃us u,w4.ownsRow w1.heap.size 61 1 v' (n j+1) (us++ [u])/\us.length=n j/\(∀i,i < n j->∃u,us[i]?=some u/\Frz (spcO s v) w (fun w'=>Bools w' u (rowN base j i)))/\Frz (spcO s v) w (fun w'=>Bools w' u (rowN base j (n j)))):
 OpI w1 (w4.setCell ⟨s,2+j,none⟩ v') s lg base (upd n j (n j+1)) (upd v j v'):=by
 have hs1:SameX (fun x=>(v j).ownBlock=some x) w w4:=(SameX.of_ext ((Ext.refl w).alloc c)).trans (grown_same hg) (fun _ _ h=>h);have hsz:w.heap.size < (w.alloc c).heap.size:=by simp
 have hst:=set_same (w:=w4) (b:=s) (2+j) v';have hs2:SameX (fun x=>x=s\/(v j).ownBlock=some x) w (w4.setCell ⟨s,2+j,none⟩ v'):=by
  refine⟨Qx hs1.1 hst.1,fun k hk hl=> ?_⟩;rw [hst.2 k (fun e=>hk (.inl e)) (Qy hl hs1.1)];exact hs1.2 k (fun e=>hk (.inr e)) hl
 have hs3:SameX (spcO s v) w (w4.setCell ⟨s,2+j,none⟩ v'):=⟨hs2.1,fun k hk hl=>hs2.2 k (fun e=>hk (e.elim .inl fun e=> .inr ⟨j,hj,e⟩)) hl⟩;have hx:∀k,k < w.heap.size->spcO s (upd v j v') k->spcO s v k:=fun k hl e=>by
  rcases e with e|⟨i,hi,e⟩
  ·exact .inl e
  by_cases hij:i=j
  ·subst hij;rw [upd_self]at e;rcases ho with ho|ho
   ·exact .inr ⟨i,hi,ho▸e⟩
   rw [ho]at e;injection e with e;omega
  rw [upd_ne _ _ hij]at e;exact .inr ⟨i,hi,e⟩
 have hsl:=h.slt;have hoff:v'.ownBlock≠some s:=fun e=>by
  rcases ho with ho|ho
  ·exact h.off j hj (ho▸e)
  rw [ho]at e;injection e with e;omega
 have hrl:∀k,(v j).ownBlock=some k->w1.heap.size<=k:=fun k hk=>(h.rlt hj hk).1
 have hbs:w4.heap[s]?=w.heap[s]?:=hs1.2 s (fun e=>h.off j hj e) hsl;have keepv:∀{e:TypeId} {sz m:Nat} {xs:List Value},w4.ownsRow w1.heap.size e sz v' m xs->(w4.setCell ⟨s,2+j,none⟩ v').ownsRow w1.heap.size e sz v' m xs:=fun hr=>row_keep hr fun k hk=>hst.2 k (fun e=>hoff (e▸hk)) (hr.lt k hk).2
 have keepo:∀{i:Nat} {e:TypeId} {sz m:Nat} {xs:List Value},i < 4->i≠j->w.ownsRow w1.heap.size e sz (v i) m xs->(w4.setCell ⟨s,2+j,none⟩ v').ownsRow w1.heap.size e sz (v i) m xs:=fun hi hij hr=>row_keep hr fun k hk=>hs2.2 k (fun e=>e.elim (fun e=>h.off _ hi (e▸hk)) (fun e=>h.apart _ _ hi hj hij k hk e)) (hr.lt k hk).2
 refine⟨ext_set ((h.ext.alloc c).grown hg hrl) h.lo _ _,h.lo,?_,?_,fun i hi1 hi4=> ?_,fun a b ha hb hab k hk hk2=> ?_,fun a ha=> ?_⟩
 ·obtain⟨vb,hb,hf⟩:=h.cells;have hb4:=hbs.trans hb;obtain⟨e2,e3,e4,e5⟩:=set_space (u:=v') hb4;refine⟨vb,?_,hf⟩;have hc:j=0\/j=1\/j=2\/j=3:=by omega
  rcases hc with rfl|rfl|rfl|rfl
  ·exact e2
  ·exact e3
  ·exact e4
  exact e5
 ·by_cases e:j=0
  ·subst e;rw [upd_self,upd_self];exact keepv (h0 rfl)
  rw [upd_ne _ _ (fun h=>e h.symm),upd_ne _ _ (fun h=>e h.symm)];exact keepo (by omega) (fun h=>e h.symm) h.ops
 ·by_cases e:i=j
  ·subst e;rw [upd_self,upd_self];obtain⟨us,u,hr,hlen,hold,hnew⟩:=h1 hi1;refine⟨us++ [u],keepv hr,fun q hq=> ?_⟩;by_cases hqn:q < n i
   ·obtain⟨u',e',hz⟩:=hold q hqn;exact⟨u',by rw [List.getElem?_append_left (by omega)];exact e',hz.next hs3 hx⟩
   have:q=n i:=by omega
   subst this;exact⟨u,by rw [List.getElem?_append_right (by omega),hlen,Nat.sub_self];rfl,hnew.next hs3 hx⟩
  rw [upd_ne _ _ e,upd_ne _ _ e];obtain⟨us,hr,hu⟩:=h.rows i hi1 hi4;refine⟨us,keepo hi4 e hr,fun q hq=> ?_⟩;obtain⟨u',e',hz⟩:=hu q hq;exact⟨u',e',hz.next hs3 hx⟩
 ·by_cases ea:a=j
  ·subst ea;rw [upd_self]at hk;rw [upd_ne _ _ (fun h=>hab h.symm)]at hk2;rcases ho with ho|ho
   ·exact h.apart a b ha hb hab k (ho▸hk) hk2
   rw [ho]at hk;injection hk with hk;have:=(h.rlt hb hk2).2;omega
  rw [upd_ne _ _ ea]at hk;by_cases eb:b=j
  ·subst eb;rw [upd_self]at hk2;rcases ho with ho|ho
   ·exact h.apart a b ha hb hab k hk (ho▸hk2)
   rw [ho]at hk2;injection hk2 with hk2;have:=(h.rlt ha hk).2;omega
  rw [upd_ne _ _ eb]at hk2;exact h.apart a b ha hb hab k hk hk2
 by_cases ea:a=j
 ·subst ea;rw [upd_self];exact hoff
 rw [upd_ne _ _ ea];exact h.off a ha
theorem OpI.row(h:OpI w1 w s lg base n v) {j:Nat}(h1:1<=j)(h2:j < 4):∃us,w.ownsRow w1.heap.size 61 1 (v j) (n j) us/\us.length=n j/\∀i,i < n j->∃u,us[i]?=some u/\Frz (spcO s v) w (fun w'=>Bools w' u (rowN base j i)):=by
 obtain⟨us,hr,hu⟩:=h.rows j h1 h2;exact⟨us,hr,by simpa using hr.1,hu⟩
theorem OpI.start(he:Ext w1 w)(hlo:w1.heap.size<=s) {vb:Value}(hb:w.heap[s]?=some (.cells #[.int .i64 lg,vb,.slice none 0 0,.slice none 0 0,.slice none 0 0,.slice none 0 0] 108 (0,0)))(hf:Fmls w1 vb base):OpI w1 w s lg base (fun _=>0) (fun _=> .slice none 0 0):=
 ⟨he,hlo,⟨vb,hb,hf⟩,World.ownsRow_nil _ _ _ _,fun _ _ _=>⟨[],World.ownsRow_nil _ _ _ _,fun i hi=>absurd hi (by omega)⟩,fun _ _ _ _ _ _ hb=>(by cases hb),fun _ _ hb=>(by cases hb)⟩
theorem bls_of_row {bs m:Nat} {u:Value} {us:List Value} {L:Nat->List Bool}(hr:w.ownsRow bs 61 1 u m us)(hu:∀i,i < m->∃x,us[i]?=some x/\Bools w x (L i)):Bls w u ((List.range m).map L):=by
 have e:us=us.flatMap fun x=> [x]:=by rw [<-List.map_eq_flatMap];simp
 have hlen:us.length=m:=by simpa using hr.1
 rw [e,<-hlen]at hr;obtain⟨A,cap,rfl,h1,h2,h3⟩:=row_cells (f:=fun x=> [x]) (c:=1) (fun _=>rfl) hr;refine⟨A,cap,by simp [hlen],by simpa [hlen]using h1,h2,fun hn=> ?_⟩;obtain⟨g,rfl,hg,hc⟩:=h3 (fun e=>hn (by rw [e]at hlen;rw [<-hlen];rfl));refine⟨_,rfl,hg,fun k l hk=> ?_⟩;rw [List.getElem?_map]at hk;have hkm:k < m:=by
  by_cases e:k < m
  ·exact e
  rw [List.getElem?_eq_none (by simp;omega)]at hk;cases hk
 rw [List.getElem?_range hkm]at hk;obtain rfl:L k=l:=by simpa using hk
 obtain⟨x,hx,hb⟩:=hu k hkm;refine⟨x,?_,hb⟩;rw [addr_zero]
 simpa using hc k x hx 0 (by omega) _ rfl
theorem OpI.space(h:OpI w1 w s lg base n v)(hn:∀i,i < 4->n i=base.length)(hok:∀k,k < base.length->(topN base k).ok):SpcAt w s lg base:=by
 obtain⟨vb,hb,hf⟩:=h.cells;have ho:=h.ops;rw [hn 0 (by omega)]at ho;have hm:Made w1 w (v 0) ((List.range base.length).map (topN base)):=⟨by rw [List.length_map,List.length_range];exact ho,fun x hx=>by
  obtain⟨k,hk,rfl⟩:=List.mem_map.1 hx;exact hok k (List.mem_range.1 hk),h.ext⟩
 have hr:∀j,1<=j->j < 4->Bls w (v j) ((List.range base.length).map (rowN base j)):=fun j h1 h2=>by
  obtain⟨us,hr,hu⟩:=h.rows j h1 h2;rw [hn j h2]at hr hu;exact bls_of_row hr fun i hi=>by
   obtain⟨u,e,hz⟩:=hu i hi;exact⟨u,e,hz.here⟩
 exact⟨vb,v 0,v 1,v 2,v 3,hb,hf.ext h.ext,hm.fml.1,hr 1 (by omega) (by omega),hr 2 (by omega) (by omega),hr 3 (by omega) (by omega)⟩
end
def OpT(w1 w:World)(s:Nat)(lg:Int)(base:List (List Nd))(k:Nat)(u:Nat->Value)(j:Nat):Prop :=
 ∃n v,OpI w1 w s lg base n v/\(∀i,i < 4->n i=if i < j then k+1 else k)/\∀i,1<=i->i < 4->Frz (spcO s v) w (fun w'=>Bools w' (u i) (rowN base i k))
theorem tInfoBs:(Tryz.prog.info? 61).map (fun i=>(i.zero,i.size,i.bytes))=some (some (.slice none 0 0),1,24):=by kernel_rfl
section
variable {w1 w:World} {s:Nat} {lg:Int} {base:List (List Nd)} {n:Nat->Nat} {v:Nat->Value}
theorem OpI.same {w4:World} {c:Obj} {j:Nat} {v':Value}(_h:OpI w1 w s lg base n v)(hj:j < 4)(hg:(w.alloc c).grownBy w4 (v j).ownBlock):SameX (spcO s v) w (w4.setCell ⟨s,2+j,none⟩ v'):=by
 have hs1:SameX (fun x=>(v j).ownBlock=some x) w w4:=(SameX.of_ext ((Ext.refl w).alloc c)).trans (grown_same hg) (fun _ _ h=>h);have hst:=set_same (w:=w4) (b:=s) (2+j) v';refine⟨Qx hs1.1 hst.1,fun k hk hl=> ?_⟩;rw [hst.2 k (fun e=>hk (.inl e)) (Qy hl hs1.1)];exact hs1.2 k (fun e=>hk (.inr ⟨j,hj,e⟩)) hl
theorem OpI.sub_ {c:Obj} {j:Nat} {v':Value}(hj:j < 4)(ho:v'.ownBlock=(v j).ownBlock\/v'.ownBlock=some (w.alloc c).heap.size)(k:Nat)(hl:k < w.heap.size)(e:spcO s (upd v j v') k):spcO s v k:=by
 have hsz:w.heap.size < (w.alloc c).heap.size:=by simp
 rcases e with e|⟨i,hi,e⟩
 ·exact .inl e
 by_cases hij:i=j
 ·subst hij;rw [upd_self]at e;rcases ho with ho|ho
  ·exact .inr ⟨i,hi,ho▸e⟩
  rw [ho]at e;injection e with e;omega
 rw [upd_ne _ _ hij]at e;exact .inr ⟨i,hi,e⟩
end
section
variable {w1 w:World} {s:Nat} {lg:Int} {base:List (List Nd)} {k j:Nat} {u:Nat->Value}
theorem OpT.next {w':World}(h:OpT w1 w s lg base k u j)(he:Ext w w'):OpT w1 w' s lg base k u j:=by
 obtain⟨n,v,hI,hn,hf⟩:=h;exact⟨n,v,hI.next he,hn,fun i h1 h2=>(hf i h1 h2).next (SameX.of_ext he) fun _ _ h=>h⟩
theorem OpT.at_(h:OpT w1 w s lg base k u j)(hj:j < 4):∃A cap us,w.cell? ⟨s,2+j,none⟩=some (.slice A k cap)/\(Value.slice A k cap).ownBlock≠some s/\s < w.heap.size/\(∀i,w.frozen? ⟨s,i,none⟩=false)/\Ext w1 w/\
 (j=0->w.ownsRow w1.heap.size 93 6 (.slice A k cap) k (((List.range k).map (topN base)).flatMap Nd.cells))/\(1<=j->w.ownsRow w1.heap.size 61 1 (.slice A k cap) k us)/\
 ∀w0,Ext w w0->∀w4 c v',(w0.alloc c).grownBy w4 (Value.slice A k cap).ownBlock->(v'.ownBlock=(Value.slice A k cap).ownBlock\/v'.ownBlock=some (w0.alloc c).heap.size)->
  (j=0->w4.ownsRow w1.heap.size 93 6 v' (k+1) (((List.range k).map (topN base)).flatMap Nd.cells++(topN base k).cells))->(1<=j->w4.ownsRow w1.heap.size 61 1 v' (k+1) (us++ [u j]))->
  OpT w1 (w4.setCell ⟨s,2+j,none⟩ v') s lg base k u (j+1):=by
 obtain⟨n,v,hI,hn,hf⟩:=h;have hnj:n j=k:=by rw [hn j hj,if_neg (Nat.lt_irrefl _)]
 obtain⟨us,hus⟩:∃us,1<=j->w.ownsRow w1.heap.size 61 1 (v j) (n j) us/\us.length=n j/\∀i,i < n j->∃u,us[i]?=some u/\Frz (spcO s v) w (fun w'=>Bools w' u (rowN base j i)):=by
  by_cases h1:1<=j
  ·obtain⟨us,h⟩:=hI.row h1 hj;exact⟨us,fun _=>h⟩
  exact⟨[],fun e=>absurd e h1⟩
 obtain⟨A,cap,hv⟩:∃A cap,v j=.slice A k cap:=by
  by_cases h1:1<=j
  ·obtain⟨A,c,e⟩:=slice_of_row (hus h1).1;exact⟨A,c,by rw [e,hnj]⟩
  have:j=0:=by omega
  subst this;obtain⟨A,c,e⟩:=slice_of_row hI.ops;exact⟨A,c,by rw [e,hnj]⟩
 obtain⟨z2,z3,z4,z5,zf,zl⟩:=hI.reads;refine⟨A,cap,us,?_,fun e=>hI.off j hj (by rw [hv];exact e),zl,zf,hI.ext,fun e=> ?_,fun h1=> ?_,fun w0 he w4 c v' hg ho hr0 hr1=> ?_⟩
 ·have hc:j=0\/j=1\/j=2\/j=3:=by omega
  rcases hc with rfl|rfl|rfl|rfl
  ·rw [<-hv];exact z2
  ·rw [<-hv];exact z3
  ·rw [<-hv];exact z4
  rw [<-hv];exact z5
 ·subst e;have h1:=hI.ops;rw [hv,hnj]at h1;exact h1
 ·have h2:=(hus h1).1;rw [hv,hnj]at h2;exact h2
 have hI0:=hI.next he;rw [<-hv]at hg ho;refine⟨upd n j (n j+1),upd v j v',hI0.step hj hg ho (fun e=> ?_) (fun h1=> ?_),fun i hi=> ?_,fun i h1 h2=> ?_⟩
 ·subst e;rw [hnj,List.range_succ,List.map_append,List.flatMap_append];have:=hr0 rfl
  simpa using this
 ·refine⟨us,u j,by rw [hnj];exact hr1 h1,(hus h1).2.1,fun i hi=> ?_,?_⟩
  ·obtain⟨x,hx,hz⟩:=(hus h1).2.2 i hi;exact⟨x,hx,hz.next (SameX.of_ext he) fun _ _ h=>h⟩
  rw [hnj];exact(hf j h1 hj).next (SameX.of_ext he) fun _ _ h=>h
 ·by_cases e:i=j
  ·subst e;rw [upd_self,hnj,if_pos (Nat.lt_succ_self _)]
  rw [upd_ne _ _ e,hn i hi];by_cases e2:i < j
  ·rw [if_pos e2,if_pos (by omega)]
  rw [if_neg e2,if_neg (by omega)]
 exact((hf i h1 h2).next (SameX.of_ext he) fun _ _ h=>h).next (hI0.same hj hg) (OpI.sub_ hj ho)
theorem OpT.done(h:OpT w1 w s lg base k u 4):∃n v,OpI w1 w s lg base n v/\∀i,i < 4->n i=k+1:=by
 obtain⟨n,v,hI,hn,_⟩:=h;exact⟨n,v,hI,fun i hi=>by rw [hn i hi,if_pos hi]⟩
theorem OpT.start {n:Nat->Nat} {v:Nat->Value}(h:OpI w1 w s lg base n v)(hn:∀i,i < 4->n i=k)(h1:Frz (spcO s v) w (fun w'=>Bools w' (u 1) (bodyN base k)))(h2:Frz (spcO s v) w (fun w'=>Bools w' (u 2) (condN base k)))(h3:Frz (spcO s v) w (fun w'=>Bools w' (u 3) (lastT base k))):OpT w1 w s lg base k u 0 :=
 ⟨n,v,h,fun i hi=>by rw [hn i hi,if_neg (by omega)],fun i hi1 hi4=>by
  have hc:i=1\/i=2\/i=3:=by omega
  rcases hc with rfl|rfl|rfl
  ·exact h1
  ·exact h2
  exact h3⟩
end
theorem grown_blk {w w4:World} {c:Obj} {r:Option Nat} {b:Nat}(hg:(w.alloc c).grownBy w4 r)(hr:r≠some b)(hb:b < w.heap.size):w4.heap[b]?=w.heap[b]? :=
 (hg.block b (by simp;omega) (fun e=>hr e.symm)).trans (((Ext.refl w).alloc c).block hb)
theorem blk_cell {w w4:World} {p:Addr}(h:w4.heap[p.block]?=w.heap[p.block]?):w4.cell? p=w.cell? p/\w4.frozen? p=w.frozen? p:=by
 unfold World.cell? World.frozen?;rw [h];exact⟨rfl,rfl⟩
def RefRes(w:World)(lg:Int)(f:List Nd)(e:Ending)(w':World):Prop :=
 Ext w w'/\∃v,e=.returned (.tuple #[v,.int .i64 (refErr lg f)])/\(refErr lg f≠0->Elm w' v 0 [] [])/\(refErr lg f=0->Elm w' v lg ((endN lg f).2.map Prod.fst) ((endN lg f).2.map Prod.snd))
theorem refErr_bad {lg:Int} {f:List Nd}(h:engErr lg f≠0):refErr lg f=engErr lg f:=by
 unfold refErr;rw [show(engErr lg f !=0)=true by simpa using h];rfl
theorem refErr_ok {lg:Int} {f:List Nd}(h:engErr lg f=0):refErr lg f=bif leftN lg f then 15 else 0:=by
 unfold refErr;rw [show(engErr lg f !=0)=false by simpa using h];rfl
theorem refute_any(lg:Int)(v:Value)(f:List Nd)(w:World)(h:Fml w v f):
 Calls Tryz.prog 11 #[.int .i64 lg,v] w (RefRes w lg f):=by
 have H:=Qq h;obtain⟨Af,cf,rfl,_⟩:=fml_slice h;clear h;have HW0:=Qq (show(w.alloc (.cells #[.int .i64 0,.slice none 0 0,.slice none 0 0] 30)).heap[w.heap.size]?=some (.cells #[.int .i64 0,.slice none 0 0,.slice none 0 0] 30 (0,0))from heap_alloc_new _ _);have HX0:=Qq (show Ext w (w.alloc (.cells #[.int .i64 0,.slice none 0 0,.slice none 0 0] 30))from Qz.alloc _);obtain⟨er,her⟩:∃er,er=engErr lg f:=⟨_,rfl⟩;have HER:=Qq her;by_cases hz:er=0
 ·subst hz;have HA:=Qq (eng_all (eng_ok her.symm));clear her;go_enter Tryz.func11,Tryz.ntmps11;go_wp2_with fail;refine(newEngine_any lg _ f _ (H.out.ext HX0.out)).mono ?_;rintro e w1 ⟨hx1,hr⟩;obtain⟨b,g,rfl,hb,hg,hE⟩:=(hr.resolve_left (fun h=>h.1 HER.out.symm)).2;have HE:=Qq hE;have HX1:=Qq hx1;have HGB:=Qq (show w.heap.size < g by simp at hg;omega);clear hr hb hg hE hx1;go_wp2_with fail;refine(eliminate_any b g lg _ _ _ _ _ _ HE.out HA.out.lgr HA.out.le HA.out.len (fun k hk=>⟨(HA.out.ks k hk).1,by rw [(HA.out.ks k hk).2,HA.out.al];exact Nat.le_refl _⟩) (fun c hc=>by have:=HA.out.cs c hc;rw [HA.out.al];exact this)).mono ?_
  rintro e w2 ⟨vt,vw,rfl,hgr,hE2,ht,hw⟩;obtain⟨s,hs⟩:∃s,s=endN lg f:=⟨_,rfl⟩;have HS:=Qq hs;rw [show elimN lg (knowsN (baseN f).1) (commsN (baseN f).1) (baseN f).1.length (aliveN lg (baseN f).1)=s from hs.symm]at hE2 ht hw;obtain⟨At,ct,rfl⟩:=slice_of_row ht;obtain⟨Aw,cw,rfl⟩:=slice_of_row hw;have HT:=Qq ht;have HWR:=Qq hw;have HE2:=Qq hE2;have HB1:=Qq ((HX1.out.block (by simp)).trans HW0.out);have HB2:=Qq ((hgr.block w.heap.size (lt_heap HB1.out) (fun e=>by injection e with e;have:=HGB.out;omega)).trans HB1.out);have HX2:=Qq (show Ext w w2 from(HX0.out.trans HX1.out).grown hgr (fun k e=>by injection e with e;have:=HGB.out;omega))
  have HLO:=Qq (show w.heap.size < w1.heap.size from lt_heap HB1.out);have HLEN:=Qq (show(rootN f).length=s.1.length by rw [hs,end_len];exact HA.out.root);obtain⟨⟨q0,q1,q2⟩,⟨f0,f1,f2⟩,ql⟩:=cells3z HB2.out;clear hgr hE2 ht hw hs;go_wp2_with fail;refine(satisfied_any b lg _ _ _ _ _ _ HE2.out.eng HLEN.out).mono ?_;rintro e w3 ⟨rfl,rfl⟩;have HL:=Qq (show satisfiedN s.1 (rootN f)=leftN lg f by rw [HS.out];rfl);rw [HL.out];have HRE:=Qq (refErr_ok HER.out.symm);cases hl:leftN lg f
  ·have HR0:=Qq (show refErr lg f=0 by rw [HRE.out,hl];rfl);clear hl;go_wp2_with fail
   (try simp only [Exit.inBlock,Exit.then])
   have hx3:=ext3z HX2.out (Nat.le_refl _) (.int .i64 lg) (.slice At s.2.length ct) (.slice Aw s.2.length cw);have h1:s.2.length=(s.2.map Prod.fst).length:=by rw [List.length_map]
   have h2:s.2.length=(s.2.map Prod.snd).length:=by rw [List.length_map]
   have ht3:=row_keep (w':=(((w2.setCell ⟨w.heap.size,0,none⟩ (.int .i64 lg)).setCell ⟨w.heap.size,1,none⟩ (.slice At s.2.length ct)).setCell ⟨w.heap.size,2,none⟩ (.slice Aw s.2.length cw))) HT.out (fun k hk=>other3z (by have:=(HT.out.lt k hk).1;have:=HLO.out;omega) _ _ _);have hw3:=row_keep (w':=(((w2.setCell ⟨w.heap.size,0,none⟩ (.int .i64 lg)).setCell ⟨w.heap.size,1,none⟩ (.slice At s.2.length ct)).setCell ⟨w.heap.size,2,none⟩ (.slice Aw s.2.length cw))) HWR.out (fun k hk=>other3z (by have:=(HWR.out.lt k hk).1;have:=HLO.out;omega) _ _ _);refine bodyPost_ret (results_ct Tryz.results11 _ _ rfl (range_of (set3z HB2.out _ _ _)) Tryz.underlying30 rfl (by kernel_rfl)) rfl ?_
   refine⟨hx3,_,by rw [HR0.out] <;> rfl,fun h=>absurd HR0.out h,fun _=>⟨_,_,rfl,?_,?_⟩⟩
   ·rw [<-HS.out];exact u64s_of_row (by rw [<-h1];exact ht3)
   rw [<-HS.out];exact ints_of_vrow (by rw [<-h2];exact hw3)
  have HR0:=Qq (show refErr lg f=15 by rw [HRE.out,hl];rfl);clear hl;go_wp2_with fail
  (try simp only [Exit.inBlock,Exit.then])
  refine bodyPost_ret (results_ct Tryz.results11 _ _ rfl (range_of (set3z HB2.out _ _ _)) Tryz.underlying30 rfl (by kernel_rfl)) rfl ?_;exact⟨ext3z HX2.out (Nat.le_refl _) _ _ _,_,by rw [HR0.out] <;> rfl,fun _=>elm_nil _,fun h=>by rw [HR0.out]at h;cases h⟩
 have HZ:=Qq hz;have HRE:=Qq (show refErr lg f=er by rw [refErr_bad (by rw [<-her];exact hz),her]);clear her;go_enter Tryz.func11,Tryz.ntmps11;go_wp2_with fail;refine(newEngine_any lg _ f _ (H.out.ext HX0.out)).mono ?_;rintro e w1 ⟨hx1,hr⟩;obtain⟨_,rfl⟩:=hr.resolve_right (fun h=>HZ.out (HER.out.trans h.1));rw [<-HER.out];have HX1:=Qq hx1;have HB1:=Qq ((hx1.block (by simp)).trans HW0.out);obtain⟨⟨q0,q1,q2⟩,⟨f0,f1,f2⟩,ql⟩:=cells3z HB1.out;clear hx1 hr;go_wp2_with fail
 (try simp only [Exit.inBlock,Exit.then])
 refine bodyPost_ret (results_ct Tryz.results11 _ _ rfl (range_of (set3z HB1.out _ _ _)) Tryz.underlying30 rfl (by kernel_rfl)) rfl ?_;exact⟨ext3z (HX0.out.trans HX1.out) (Nat.le_refl _) _ _ _,_,by rw [HRE.out] <;> rfl,fun _=>elm_nil _,fun h=>absurd (HRE.out.symm.trans h) HZ.out⟩
theorem nodeErr_range(n:Nd)(a:Int):0<=nodeErr n a/\nodeErr n a<=10:=by
 unfold nodeErr;cases !isOp n.op <;> cases !operandOk (hasX n.op) n.x a|| !operandOk (hasY n.op) n.y a <;> cases formBad n <;> cases rangeBad n <;> simp
theorem checkNodes_range:∀(l:List Nd) (a:Int),0<=checkNodes l a/\checkNodes l a<=10
 |[],_=>⟨Int.le_refl 0,show(0:Int)<=10 by decide⟩
 |n :: r,a=>by
  unfold checkNodes;cases nodeErr n a !=0
  ·exact checkNodes_range r _
  exact nodeErr_range n a
theorem check_range(l:List Nd):0<=check l/\check l<=10:=by
 unfold check;cases decide (l.length=0)
 ·cases decide (200 < l.length)
  ·exact checkNodes_range l 0
  simp
 simp
theorem engErr_range(lg:Int)(f:List Nd):0<=engErr lg f/\engErr lg f<=10:=by
 unfold engErr;cases decide (lg < 0)||decide (6 < lg)
 ·unfold baseN;cases check f !=0
  ·cases langBad f
   ·cases decide ((expandN f).length=0)
    ·simp only [cond_false];rcases baseOf_err (expandN f)with h|h <;> rw [h] <;> simp
    simp
   simp
  exact check_range f
 simp
theorem sat_any(lg:Int)(v:Value)(f:List Nd)(w:World)(h:Fml w v f):
 Calls Tryz.prog 9 #[.int .i64 lg,v] w fun e w'=>e=.returned (.tuple #[.bool (satN lg f).1,.int .i64 (satN lg f).2])/\Ext w w':=by
 have H:=Qq h;obtain⟨Af,cf,rfl,_⟩:=fml_slice h;clear h;have hrg:=engErr_range lg f;obtain⟨er,her⟩:∃er,er=engErr lg f:=⟨_,rfl⟩;rw [<-her]at hrg;have HER:=Qq her;by_cases hz:er=0
 ·subst hz;have HSO:=Qq (sat_ok (lg:=lg) her.symm);have HRO:=Qq (refErr_ok (lg:=lg) her.symm);clear her hrg;cases hl:leftN lg f
  ·rw [hl]at HSO HRO;clear hl;go_enter Tryz.func9,Tryz.ntmps9;go_wp2_with fail;refine(refute_any lg _ f _ H.out).mono ?_;rintro e w1 ⟨hx1,u,rfl,hn,hy⟩;obtain⟨vt,vw,rfl,⟨At,ct,rfl,_⟩,⟨Aw,cw,rfl,_⟩⟩:=hy HRO.out;rw [HRO.out];have HX1:=Qq hx1;clear hx1 hn hy;go_wp2_with fail;go_ret2;exact⟨by rw [HSO.out] <;> rfl,HX1.out.alloc _⟩
  rw [hl]at HSO HRO;clear hl;go_enter Tryz.func9,Tryz.ntmps9;go_wp2_with fail;refine(refute_any lg _ f _ H.out).mono ?_;rintro e w1 ⟨hx1,u,rfl,hn,hy⟩;obtain⟨vt,vw,rfl,⟨At,ct,rfl,_⟩,⟨Aw,cw,rfl,_⟩⟩:=hn (by rw [HRO.out];decide);rw [HRO.out];have HX1:=Qq hx1;clear hx1 hn hy;go_wp2_with fail;go_ret2;exact⟨by rw [HSO.out] <;> rfl,HX1.out.alloc _⟩
 have HZ:=Qq hz;have HSO:=Qq (sat_err (lg:=lg) (f:=f) (by rw [<-her];exact hz));have HRO:=Qq (show refErr lg f=er by rw [refErr_bad (by rw [<-her];exact hz),her]);rw [<-her]at HSO;have hz0:(er==0)=false:=by rw [beq_eq_false_iff_ne];exact hz
 have hz15:(er==15)=false:=by rw [beq_eq_false_iff_ne];omega
 clear her hrg hz;go_enter Tryz.func9,Tryz.ntmps9;go_wp2_with fail;refine(refute_any lg _ f _ H.out).mono ?_;rintro e w1 ⟨hx1,u,rfl,hn,hy⟩;obtain⟨vt,vw,rfl,⟨At,ct,rfl,_⟩,⟨Aw,cw,rfl,_⟩⟩:=hn (by rw [HRO.out];exact HZ.out);rw [HRO.out];have HX1:=Qq hx1;clear hx1 hn hy;go_wp2_with fail;go_ret2;exact⟨by rw [HSO.out] <;> rfl,HX1.out.alloc _⟩
theorem checkT_bad {lg:Int} {f:List Nd} {ts:List Nat} {ws:List Int}(h:engErr lg f≠0):checkT lg f ts ws=engErr lg f:=by
 unfold checkT;rw [show(engErr lg f !=0)=true by simpa using h];rfl
theorem checkT_len {lg:Int} {f:List Nd} {ts:List Nat} {ws:List Int}(h:engErr lg f=0)(hl:ts.length≠ws.length):checkT lg f ts ws=3:=by
 unfold checkT;rw [show(engErr lg f !=0)=false by simpa using h,show(ts.length !=ws.length)=true by simpa using hl];rfl
noncomputable def lkN (lg:Int) (f:List Nd):List Bool->Nat->Int->Bool:=lacksN lg (knowsN (baseN f).1) (commsN (baseN f).1)
theorem checkT_none {lg:Int} {f:List Nd} {ts:List Nat} {ws:List Int}(h:engErr lg f=0)(hl:ts.length=ws.length)(hc:checkG (lkN lg f) ts ws (aliveN lg (baseN f).1)=none):checkT lg f ts ws=13:=by
 unfold checkT;unfold lkN at hc;rw [show(engErr lg f !=0)=false by simpa using h,show(ts.length !=ws.length)=false by simpa using hl,hc];rfl
theorem checkT_some {lg:Int} {f:List Nd} {ts:List Nat} {ws:List Int} {al:List Bool}(h:engErr lg f=0)(hl:ts.length=ws.length)(hc:checkG (lkN lg f) ts ws (aliveN lg (baseN f).1)=some al):checkT lg f ts ws=bif satisfiedN al (rootN f)then 13 else 0:=by
 unfold checkT;unfold lkN at hc;rw [show(engErr lg f !=0)=false by simpa using h,show(ts.length !=ws.length)=false by simpa using hl,hc];rfl
theorem checkG_step {lk:List Bool->Nat->Int->Bool} {ts:List Nat} {ws:List Int} {al:List Bool} {k t:Nat} {i:Int}(ht:ts[k]?=some t)(hi:ws[k]?=some i):
 checkG lk (ts.drop k) (ws.drop k) al=bif decide (t < al.length)&&(al.getD t false&&lk al t i)then checkG lk (ts.drop (k+1)) (ws.drop (k+1)) (al.set t false)else none:=by
 obtain⟨h1,e1⟩:=List.getElem?_eq_some_iff.1 ht;obtain⟨h2,e2⟩:=List.getElem?_eq_some_iff.1 hi;rw [List.drop_eq_getElem_cons h1,List.drop_eq_getElem_cons h2,e1,e2];rfl
theorem checkG_end {lk:List Bool->Nat->Int->Bool} {ts:List Nat} {ws:List Int} {al:List Bool} :checkG lk (ts.drop ts.length) (ws.drop ts.length) al=some al:=by
 rw [List.drop_length];cases ws.drop ts.length <;> rfl
theorem checkT_any(lg:Int)(ve:Value)(ts:List Nat)(ws:List Int)(v:Value)(f:List Nd)(w:World)(h:Fml w v f)(he:Elm w ve lg ts ws)(hws:∀i∈ws,i64ok i):
 Calls Tryz.prog 13 #[v,ve] w fun e w'=>e=.returned (.int .i64 (checkT lg f ts ws))/\Ext w w':=by
 have H:=Qq h;obtain⟨Af,cf,rfl,_⟩:=fml_slice h;obtain⟨vt,vw,rfl,⟨At,ct,rfl,ht1,ht2,ht3⟩,⟨Aw,cw,rfl,hw1,hw2,hw3⟩⟩:=he;unfold maxLen at ht2 hw2;have HT:=Qq ht3;have HW:=Qq hw3;have HWS:=Qq hws;have HX0:=Qq (show Ext w (w.alloc (.cells #[.int .i64 lg,.slice At ts.length ct,.slice Aw ws.length cw] 30))from Qz.alloc _);have HW0:=Qq (show(w.alloc (.cells #[.int .i64 lg,.slice At ts.length ct,.slice Aw ws.length cw] 30)).heap[w.heap.size]?=some (.cells #[.int .i64 lg,.slice At ts.length ct,.slice Aw ws.length cw] 30 (0,0))from heap_alloc_new _ _);clear h ht3 hw3 hws;obtain⟨er,her⟩:∃er,er=engErr lg f:=⟨_,rfl⟩
 have HER:=Qq her;by_cases hz:er=0
 ·subst hz;have HA:=Qq (eng_all (eng_ok her.symm));clear her;by_cases hll:ts.length=ws.length
  ·have HLL:=Qq hll;have hlb:((ts.length:Int) !=(ws.length:Int))=false:=by rw [hll];simp
   clear hll;go_enter Tryz.func13,Tryz.ntmps13;go_wp2_with fail;refine(newEngine_any lg _ f _ (H.out.ext HX0.out)).mono ?_;rintro e w1 ⟨hx1,hr⟩;obtain⟨b,g,rfl,hb,hg,hE⟩:=(hr.resolve_left (fun h=>h.1 HER.out.symm)).2;have HE:=Qq hE;have HX1:=Qq hx1;have HGB:=Qq (show w.heap.size < g by simp at hg;omega);have HB1:=Qq ((hx1.block (by simp)).trans HW0.out);obtain⟨⟨q0,q1,q2⟩,_,ql⟩:=cells3z HB1.out;obtain⟨m,hm⟩:∃m,m=2^(baseN f).1.length:=⟨_,rfl⟩;have HM:=Qq hm;have hm12:m<=4096:=by rw [hm,<-HA.out.al];exact HA.out.le
   obtain⟨base,hbase⟩:∃b,b=(baseN f).1:=⟨_,rfl⟩;have HBASE:=Qq hbase;rw [<-hbase]at HE;clear hr hb hg hE hx1 hm hbase;go_wp2_with fail;go_loopw [29] (fun v wr=>∃k:Nat,v=.int .i64 (k:Int)/\k<=ts.length/\Hid (∃al,EngX wr b g lg base (rootN f) (knowsN base) (commsN base) al/\Ext w wr/\wr.heap[w.heap.size]?=some (.cells #[.int .i64 lg,.slice At ts.length ct,.slice Aw ws.length cw] 30 (0,0))/\al.length=m/\checkG (lkN lg f) (ts.drop k) (ws.drop k) al=checkG (lkN lg f) ts ws (aliveN lg (baseN f).1))) (fun v _=>ts.length - (intOf v).toNat)
   case atStart=>exact⟨0,rfl,Nat.zero_le _,Qq ⟨aliveN lg base,HE.out,HX0.out.trans HX1.out,HB1.out,by rw [alive_len,HM.out,HBASE.out],by rw [HBASE.out,List.drop_zero,List.drop_zero]⟩⟩
   case round =>
    clear q0 q1 q2 ql;obtain⟨k,rfl,hk,HREL⟩:=hrel;obtain⟨al,hE,hx,hbx,hal,hck⟩:=HREL.out;have HE2:=Qq hE;have HX:=Qq hx;have HBX:=Qq hbx;have HAL:=Qq hal;have HCK:=Qq hck;obtain⟨_,_,_,_,x0,x1,x2,x5,xl⟩:=hE.cells;rw [hal]at x5;obtain⟨⟨q0,q1,q2⟩,_,ql⟩:=cells3z hbx;clear HREL hE hx hbx hal hck;by_cases hlt2:k < ts.length
    ·have hk1:(k:Int) < (ts.length:Int):=by omega
     have hlt3:k < ws.length:=by have:=HLL.out;omega
     have hk2:(k:Int) < (ws.length:Int):=by omega
     obtain⟨t,ht⟩:∃t,ts[k]?=some t:=⟨_,Qv hlt2⟩;obtain⟨i,hi⟩:∃i,ws[k]?=some i:=⟨_,Qv hlt3⟩;obtain⟨ad,rfl,hb1,hc1⟩:=HT.out (by intro e;rw [e]at hlt2;simp at hlt2);obtain⟨aw,rfl,hb2,hc2⟩:=HW.out (by intro e;rw [e]at hlt3;simp at hlt3);have a0:=(HX.out.cell (p:=ad.add k) (Qj hb1)).trans (hc1 k t ht);have a1:=(HX.out.cell (p:=aw.add k) (Qj hb2)).trans (hc2 k i hi);have HSTEP:=Qq (checkG_step (lk:=lkN lg f) (al:=al) ht hi);rw [HCK.out]at HSTEP;have HI:=Qq (HWS.out i (List.mem_of_getElem? hi));have hwm:IntKind.u64.wrap (m:Int)=(m:Int):=by rw [IntKind.wrap_u64];omega
     clear ht hi hc1 hc2;by_cases htm:t < m
     ·have htm1:(t:Int) < (m:Int):=by omega
      obtain⟨av,hav⟩:∃x,x=al.getD t false:=⟨_,rfl⟩;have HAV:=Qq hav;have gc:wr.cell? ⟨g,t,none⟩=some (.bool av):=HE2.out.row.cell (by rw [hav,Qk,List.getElem?_eq_getElem (by rw [HAL.out];exact htm)];rfl);have gl:g < wr.heap.size:=HE2.out.row.lt.2;clear hav;cases av
      ·have HR:=Qq (checkT_none (lg:=lg) (f:=f) (ts:=ts) (ws:=ws) HER.out.symm HLL.out (by rw [HSTEP.out,<-HAV.out,Bool.false_and,Bool.and_false];rfl));go_wp2_with fail;go_ret;exact⟨by rw [HR.out] <;> rfl,HX.out⟩
      obtain⟨lk,hlk⟩:∃x,x=lkN lg f al t i:=⟨_,rfl⟩;have HLK:=Qq (show lacksN lg (knowsN base) (commsN base) al t i=lk by rw [hlk,HBASE.out];rfl);have HLK2:=Qq hlk;clear hlk;have HKS:=Qq (show ∀k∈knowsN base,k.place < 64/\al.length<=k.holds.length from fun k hk=>by have h:=HA.out.ks k (by rw [<-HBASE.out];exact hk);exact⟨h.1,by rw [HAL.out,HM.out,h.2];exact Nat.le_refl _⟩);have HCS:=Qq (show ∀c∈commsN base,c.place < 64/\c.x.length=al.length/\c.y.length=al.length/\0<=c.group/\c.group < 16 from fun c hc=>by have:=HA.out.cs c (by rw [<-HBASE.out];exact hc);rw [HAL.out,HM.out];exact this);go_wp2_with fail;refine(lacks_any b lg base (rootN f) (knowsN base) (commsN base) al t i _ HE2.out.eng HA.out.lgr (by rw [HAL.out];exact htm) (by rw [HAL.out];exact hm12) HI.out HKS.out HCS.out).mono ?_
      rintro e w3 ⟨rfl,hx3⟩;rw [HLK.out];have HX3:=Qq hx3;clear x0 x1 x2 x5 xl gc gl q0 q1 q2 ql;cases lk
      ·have HR:=Qq (checkT_none (lg:=lg) (f:=f) (ts:=ts) (ws:=ws) HER.out.symm HLL.out (by rw [HSTEP.out,<-HLK2.out,Bool.and_false,Bool.and_false];rfl));go_wp2_with fail;go_ret;exact⟨by rw [HR.out] <;> rfl,HX.out.trans HX3.out⟩
      have HE3:=Qq (HE2.out.ext hx3);obtain⟨_,_,_,_,_,_,_,y5,yl⟩:=HE3.out.cells;rw [HAL.out]at y5;have gfr:=HE3.out.row.frozen t;have gc:w3.cell? ⟨g,t,none⟩=some (.bool true):=HE3.out.row.cell (by rw [HAV.out,Qk,List.getElem?_eq_getElem (by rw [HAL.out];exact htm)];rfl);have gl:g < w3.heap.size:=HE3.out.row.lt.2;clear hx3;go_wp2_with fail;go_roundw
      case rel=>exact⟨k+1,by go_num,by omega,Qq ⟨al.set t false,HE3.out.set t false,(HX.out.trans HX3.out).setCell (p:=⟨g,t,none⟩) (Nat.le_of_lt HGB.out) _,(Below.heap_setCell _ _ _ _ (Nat.ne_of_lt HGB.out)).trans ((HX3.out.block (lt_heap HBX.out)).trans HBX.out),by rw [List.length_set];exact HAL.out,by
       rw [HSTEP.out,<-HAV.out,<-HLK2.out,decide_eq_true (by rw [HAL.out];exact htm)];rfl⟩⟩
      case measure=>simp [intOf];omega
     have htm1:(m:Int)<=(t:Int):=by omega
     have HR:=Qq (checkT_none (lg:=lg) (f:=f) (ts:=ts) (ws:=ws) HER.out.symm HLL.out (by rw [HSTEP.out,decide_eq_false (by rw [HAL.out];exact htm)];rfl));go_wp2_with fail;go_ret;exact⟨by rw [HR.out] <;> rfl,HX.out⟩
    obtain rfl:ts.length=k:=by omega
    have HR:=Qq (checkT_some (lg:=lg) (f:=f) (ts:=ts) (ws:=ws) (al:=al) HER.out.symm HLL.out (by rw [<-HCK.out,checkG_end]));go_wp2_with fail;refine(satisfied_any b lg base (rootN f) (knowsN base) (commsN base) al _ HE2.out.eng (by rw [HAL.out,HM.out];exact HA.out.root)).mono ?_;rintro e w3 ⟨rfl,rfl⟩;clear x0 x1 x2 x5 xl q0 q1 q2 ql;cases hs:satisfiedN al (rootN f)
    ·rw [hs]at HR;clear hs;go_wp2_with fail;go_ret;exact⟨by rw [HR.out] <;> rfl,HX.out⟩
    rw [hs]at HR;clear hs;go_wp2_with fail;go_ret;exact⟨by rw [HR.out] <;> rfl,HX.out⟩
  have HLL:=Qq hll;have hlb:((ts.length:Int) !=(ws.length:Int))=true:=by simp;omega
  have HRE:=Qq (checkT_len (lg:=lg) (f:=f) HER.out.symm hll);clear hll;go_enter Tryz.func13,Tryz.ntmps13;go_wp2_with fail;refine(newEngine_any lg _ f _ (H.out.ext HX0.out)).mono ?_;rintro e w1 ⟨hx1,hr⟩;obtain⟨b,g,rfl,hb,hg,hE⟩:=(hr.resolve_left (fun h=>h.1 HER.out.symm)).2;have HX1:=Qq hx1;have HB1:=Qq ((hx1.block (by simp)).trans HW0.out);obtain⟨⟨q0,q1,q2⟩,_,ql⟩:=cells3z HB1.out;clear hr hb hg hE hx1;go_wp2_with fail;go_ret;exact⟨by rw [HRE.out] <;> rfl,HX0.out.trans HX1.out⟩
 have HZ:=Qq hz;have HRE:=Qq (show checkT lg f ts ws=er by rw [checkT_bad (by rw [<-her];exact hz),her]);clear her;go_enter Tryz.func13,Tryz.ntmps13;go_wp2_with fail;refine(newEngine_any lg _ f _ (H.out.ext HX0.out)).mono ?_;rintro e w1 ⟨hx1,hr⟩;obtain⟨_,rfl⟩:=hr.resolve_right (fun h=>HZ.out (HER.out.trans h.1));rw [<-HER.out];have HX1:=Qq hx1;clear hx1 hr;go_wp2_with fail;go_ret;exact⟨by rw [HRE.out] <;> rfl,HX0.out.trans HX1.out⟩
def exB:List Nd:=knowN 0 (factN 0)
def exF:List Nd:=andN (knowN 0 (factN 0)) (notN (factN 0))
def exZ:List Nd:=andN (commonN 1 trueN (factN 0)) (notN (knowN 0 (factN 0)))
def exW:List Nd:=andN (factN 0) (notN (commonN 1 (factN 0) (factN 1)))
def fT(i:Int):Tr:=.leaf ⟨3,i,0,0,0,0⟩
theorem ex_base:(baseN exB).2=0/\(baseN exB).1.length=2:=by constructor <;> kernel_rfl
theorem ex_err0:engErr 0 exF=0:=by kernel_rfl
theorem ex_err2:engErr 2 exF=0:=by kernel_rfl
theorem ex_errZ:engErr 0 exZ=0:=by kernel_rfl
theorem ex_errW:engErr 6 exW=0:=by kernel_rfl
theorem ex_treeF:treeOf exF=.two ⟨5,0,0,0,0,0⟩ (.one ⟨9,0,0,0,0,0⟩ (fT 0)) (.one ⟨4,0,0,0,0,0⟩ (fT 0)):=by kernel_rfl
theorem ex_treeZ:treeOf exZ=.two ⟨5,0,0,0,0,0⟩ (.two ⟨13,0,0,1,0,0⟩ (.leaf ⟨1,0,0,0,0,0⟩) (fT 0)) (.one ⟨4,0,0,0,0,0⟩ (.one ⟨9,0,0,0,0,0⟩ (fT 0))):=by kernel_rfl
theorem ex_treeW:treeOf exW=.two ⟨5,0,0,0,0,0⟩ (fT 0) (.one ⟨4,0,0,0,0,0⟩ (.two ⟨13,0,0,1,0,0⟩ (fT 0) (fT 1))):=by kernel_rfl
theorem ex_chk2:checkT 2 exF [] []=0:=by kernel_rfl
theorem ex_chk0:checkT 0 exF [] []=13:=by kernel_rfl
theorem sat_fact {M:KM} {i:Int} {w:M.W} :M.sat (fT i) w↔M.V i w:=by simp [fT,KM.sat]
theorem ex_x:satN 0 exF=(true,0):=by
 have h:leftN 0 exF=true:=(sat_truth (eng_ok ex_err0)).2 ⟨⟨Unit,fun _ _ _=>False,fun _ _=>False⟩,fun _=>⟨fun h=>by omega,fun h=>by omega,fun h=>by omega,fun h=>by omega⟩,(),by
  rw [ex_treeF,sat_and,sat_know rfl,sat_not,sat_fact];exact⟨fun v h=>h.elim,fun h=>h⟩⟩
 rw [sat_ok ex_err0,h]
theorem ex_y:satN 2 exF=(false,0):=by
 have h:leftN 2 exF=false:=by
  cases hl:leftN 2 exF
  ·rfl
  obtain⟨M,hM,w,hw⟩:=(sat_truth (eng_ok ex_err2)).1 hl;rw [ex_treeF,sat_and,sat_know rfl,sat_not]at hw;exact absurd (hw.1 w ((hM 0).refl (.inl rfl) w)) hw.2
 rw [sat_ok ex_err2,h]
theorem ex_z:satN 0 exZ=(false,0):=by
 have h:leftN 0 exZ=false:=by
  cases hl:leftN 0 exZ
  ·rfl
  obtain⟨M,hM,w,hw⟩:=(sat_truth (eng_ok ex_errZ)).1 hl;rw [ex_treeZ,sat_and,sat_not,sat_know rfl,com_unf rfl]at hw;refine absurd (fun v hv=> ?_) hw.2;have h1:=hw.1 0 (by decide) (by decide);rw [sat_unf]at h1;exact(h1 v hv (by simp [KM.sat])).1
 rw [sat_ok ex_errZ,h]
theorem ex_w:satN 6 exW=(true,0):=by
 have h:leftN 6 exW=true:=(sat_truth (eng_ok ex_errW)).2 ⟨⟨Unit,fun _ _ _=>True,fun i _=>i=0⟩,fun _=>⟨fun _ _=>⟨(),trivial⟩,fun _ _=>trivial,fun _ _ _ _ _ _=>trivial,fun _ _ _ _ _ _=>trivial⟩,(),by
  rw [ex_treeW,sat_and,sat_not,sat_fact,com_unf rfl];refine⟨rfl,fun h=> ?_⟩;have h1:=h 0 (by decide) (by decide);rw [sat_unf]at h1;have h2:=(h1 () trivial (by rw [sat_fact])).1;rw [sat_fact]at h2;exact absurd h2 (by decide)⟩
 rw [sat_ok ex_errW,h]
end Go.Proofs.YtbfeodammikajaaGreat
