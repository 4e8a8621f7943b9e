/- Eliminations in memory; what an engine's methods ask, from the formula's base. -/
import Derived.Test.YtkmclcmnoicagaaGreatDoorT40
import Derived.Test.YtkmclcmnoicagaaGreatDoorT41
namespace Go.Proofs.YtkmclcmnoicagaaGreatDoor
set_option maxRecDepth 100000
set_option maxHeartbeats 128000000
open Go.RowKit
theorem Qb4 {w:World} {base:Nat} {v:Value} {l:List Nat}(h:w.ownsRow base 41 1 v l.length (Cx l)):Ji w v l:=by
 have e:Cx l=l.flatMap fun(u:Nat)=> [Value.int .u64 (u:Int)]:=by unfold Cx;exact List.map_eq_flatMap
 rw [e]at h;obtain⟨A,cap,rfl,h1,h2,h3⟩:=Oe (f:=fun(u:Nat)=> [Value.int .u64 (u:Int)]) (c:=1) (fun _=>rfl) h;refine⟨A,cap,rfl,h1,h2,fun hn=> ?_⟩;obtain⟨g,rfl,hg,hc⟩:=h3 hn;refine⟨_,rfl,hg,fun k z hk=> ?_⟩;have:=hc k z hk 0 (by omega) _ rfl;rw [Un]
 simpa using this
theorem Qg3 {w:World} {base:Nat} {v:Value} {l:List Int}(h:w.ownsRow base 3 1 v l.length (Ww l)):Nt w v l:=Qq9 h
def Elm(w:World)(v:Value)(lg:Int)(ts:List Nat)(ws:List Int):Prop:=∃vt vw,v=.agg #[.int .i64 lg,vt,vw]/\Ji w vt ts/\Nt w vw ws
theorem Elm.ext {w w':World} {v:Value} {lg:Int} {ts:List Nat} {ws:List Int}(h:Elm w v lg ts ws)(he:Ext w w'):Elm w' v lg ts ws:=by
 obtain⟨vt,vw,e,h1,h2⟩:=h;exact⟨vt,vw,e,h1.ext he,h2.ext he⟩
theorem Qdb(w:World):Elm w (.agg #[.int .i64 0,.slice none 0 0,.slice none 0 0]) 0 [] []:=⟨_,_,rfl,Qjc w,Nt.none_ w⟩
structure Qod (lg:Int) (f:List Nd):Prop where
 lgr:0<=lg/\lg<=6
 len:(Qn f).1.length<=12
 al:(Yf lg (Qn f).1).length=2^(Qn f).1.length
 le:(Yf lg (Qn f).1).length<=4096
 root:(Xo f).length=2^(Qn f).1.length
 ks:∀k∈Zg (Qn f).1,k.place < 64/\k.holds.length=2^(Qn f).1.length
 cs:∀c∈Zc (Qn f).1,c.place < 64/\c.x.length=2^(Qn f).1.length/\c.y.length=2^(Qn f).1.length/\0<=c.group/\c.group < 16
theorem Qvk {lg:Int} {f:List Nd}(h:Uo lg f):Qod lg f:=by
 have hl:=h.b.len;refine⟨⟨h.l0,h.l6⟩,hl,Bi _ _,by rw [Bi];exact Qxl hl,Km _ _,fun k hk=> ?_,fun c hc=> ?_⟩
 ·have:=Qde hk;exact⟨by omega,this.2⟩
 obtain⟨i,hi,hk⟩:=List.mem_flatMap.1 hc;have hi:=List.mem_range.1 hi;unfold Sn at hk;cases ho:(Qi ((Qn f).1.getD i [])).op==13
 ·rw [ho]at hk;cases hk
 rw [ho]at hk;rw [List.mem_singleton.1 hk];have hg:(Qn f).1[i]?=some ((Qn f).1.getD i []):=by rw [Qk,Qv hi];rfl
 obtain⟨t,ht,hc,_⟩:=h.b.can _ (List.mem_of_getElem? hg);obtain⟨gn,e,hlt⟩:=Qv9 ht (by rw [<-hc];simpa using ho);rw [<-hc]at e;exact⟨by show i < 64;omega,Km _ _,Km _ _,by show 0<=(Qi _).g/\(Qi _).g < 16;rw [e];omega⟩
theorem Er {P:Program} {fn:Func} {t u:Tmp} {ty:TypeId}(h:fn.results=#[.cell t ty,.tmp u])(tmps:Array Value)(w:World) {b o:Nat}(ht:tmps.getD t undef=.pointer (some ⟨b,o,none⟩)) {cs:List Value} {d:TypeDesc}(hc:w.rangeAt b o cs)
 (hu:P.underlying ty=some d)(hd:d.isRow=true)(hi:(P.info? ty).map (·.size)=some cs.length):(results fn tmps).run P w=.ok (.tuple #[.agg cs.toArray,tmps.getD u undef]) w:=by
 have ht':tmps[t]?.getD undef=.pointer (some ⟨b,o,none⟩):=by rw [<-Array.getD_eq_getD_getElem?];exact ht
 simp [results,h,ht',asAddr,run_loadVar_mid w b o ty cs d hc hu hd hi]
theorem Gf {w:World} {b:Nat} {a0 a1 a2:Value} {t:TypeId}(h:w.heap[b]?=some (.cells #[a0,a1,a2] t (0,0))):
 (w.cell? ⟨b,0,none⟩=some a0/\w.cell? ⟨b,1,none⟩=some a1/\w.cell? ⟨b,2,none⟩=some a2)/\(w.frozen? ⟨b,0,none⟩=false/\w.frozen? ⟨b,1,none⟩=false/\w.frozen? ⟨b,2,none⟩=false)/\b < w.heap.size :=
 ⟨⟨by simp [World.cell?,h],by simp [World.cell?,h],by simp [World.cell?,h]⟩,⟨by simp [World.frozen?,h],by simp [World.frozen?,h],by simp [World.frozen?,h]⟩,Qm h⟩
theorem Ls {w:World} {b:Nat} {a0 a1 a2:Value} {t:TypeId}(h:w.heap[b]?=some (.cells #[a0,a1,a2] t (0,0)))(v0 v1 v2:Value):
 (((w.setCell ⟨b,0,none⟩ v0).setCell ⟨b,1,none⟩ v1).setCell ⟨b,2,none⟩ v2).heap[b]?=some (.cells #[v0,v1,v2] t (0,0)):=by
 simp only [World.setCell,Array.getElem?_modify,h,if_true,Option.map_some];simp
theorem Py {w w':World} {b:Nat}(h:Ext w w')(hb:w.heap.size<=b)(v0 v1 v2:Value):Ext w (((w'.setCell ⟨b,0,none⟩ v0).setCell ⟨b,1,none⟩ v1).setCell ⟨b,2,none⟩ v2):=
 ((h.setCell (p:=⟨b,0,none⟩) hb v0).setCell (p:=⟨b,1,none⟩) hb v1).setCell (p:=⟨b,2,none⟩) hb v2
theorem Mq {w:World} {b k:Nat}(h:k≠b)(v0 v1 v2:Value):(((w.setCell ⟨b,0,none⟩ v0).setCell ⟨b,1,none⟩ v1).setCell ⟨b,2,none⟩ v2).heap[k]?=w.heap[k]?:=by
 rw [Below.heap_setCell _ _ _ _ h,Below.heap_setCell _ _ _ _ h,Below.heap_setCell _ _ _ _ h]
def spm(lo mb:Nat)(vr:Value)(k:Nat):Prop:=k < lo\/k=mb\/vr.ownBlock=some k
structure MoI (w5 wr:World) (mb vb n facts:Nat) (vals:List Nat) (vr:Value) (rows:List (List Nat)):Prop where
 ext:Ext w5 wr
 lo:w5.heap.size<=mb/\mb≠vb
 cell:wr.heap[mb]?=some (.cells #[.int .i64 (n:Int),.slice (some ⟨vb,0,none⟩) facts facts,vr] 26 (0,0))
 row:Jz w5.heap.size wr (.slice (some ⟨vb,0,none⟩) facts facts) vals
 len:vals.length=facts
 rel:∃us:List Value,us.length=rows.length/\wr.ownsRow w5.heap.size 23 1 vr us.length us/\∀(k:Nat) u r,us[k]?=some u->rows[k]?=some r->Frz (spm w5.heap.size mb vr) wr (fun w'=>Ji w' u r)
 dr:vr.ownBlock≠some mb/\vr.ownBlock≠some vb
section
variable {w5 wr W:World} {mb vb n facts:Nat} {vals:List Nat} {vr:Value} {rows:List (List Nat)}
theorem MoI.next(h:MoI w5 wr mb vb n facts vals vr rows)(he:Ext wr W):MoI w5 W mb vb n facts vals vr rows:=by
 obtain⟨us,e,h1,h2⟩:=h.rel;exact⟨h.ext.trans he,h.lo,(he.block (Qm h.cell)).trans h.cell,h.row.ext he,h.len,⟨us,e,Zf h1 he,fun k u r hu hr=>(h2 k u r hu hr).next (Yi.of_ext he) fun _ _ h=>h⟩,h.dr⟩
theorem MoI.mlt(h:MoI w5 wr mb vb n facts vals vr rows):mb < wr.heap.size:=Qm h.cell
theorem MoI.cells(h:MoI w5 wr mb vb n facts vals vr rows):(wr.cell? ⟨mb,0,none⟩=some (.int .i64 (n:Int))/\wr.cell? ⟨mb,1,none⟩=some (.slice (some ⟨vb,0,none⟩) facts facts)/\wr.cell? ⟨mb,2,none⟩=some vr)/\(wr.frozen? ⟨mb,0,none⟩=false/\wr.frozen? ⟨mb,1,none⟩=false/\wr.frozen? ⟨mb,2,none⟩=false)/\mb < wr.heap.size :=
 Gf h.cell
theorem MoI.setVal(h:MoI w5 wr mb vb n facts vals (.slice none 0 0) [])(p s:Nat):MoI w5 (wr.setCell ⟨vb,p,none⟩ (.int .u64 (s:Int))) mb vb n facts (vals.set p s) (.slice none 0 0) []:=by
 have hvb:w5.heap.size<=vb:=(h.row.lt vb rfl).1;refine⟨h.ext.setCell (p:=⟨vb,p,none⟩) hvb _,h.lo,(Below.heap_setCell _ _ _ _ h.lo.2).trans h.cell,h.row.set h.len p s,by rw [List.length_set];exact h.len,⟨[],rfl,World.ownsRow_nil _ _ _ _,fun k u r hu _=>by simp at hu⟩,h.dr⟩
theorem MoI.push {wa w7 W6:World} {v7:Value} {u:Value} {r:List Nat} {us:List Value}(h:MoI w5 wa mb vb n facts vals vr rows)(e:us.length=rows.length)(h10:wa.ownsRow w5.heap.size 23 1 vr us.length us)(h20:∀(k:Nat) u r,us[k]?=some u->rows[k]?=some r->Frz (spm w5.heap.size mb vr) wa (fun w'=>Ji w' u r))(hx:Ext wa wr)(hu:Jz wa.heap.size wr u r)(hx6:Ext wr W6)
 (ho:w7.ownsRow w5.heap.size 23 1 v7 (us.length+1) (us++ [u]))(hg7:W6.grownBy w7 vr.ownBlock)(ha7:v7.ownBlock=vr.ownBlock\/v7.ownBlock=some W6.heap.size):
 MoI w5 (w7.setCell ⟨mb,2,none⟩ v7) mb vb n facts vals v7 (rows++ [r]):=by
 have h6:=h.next (hx.trans hx6);have h1:=Zf h10 (hx.trans hx6);have h2:=fun k u r hu hr=>(h20 k u r hu hr).next (X':=spm w5.heap.size mb vr) (Yi.of_ext (hx.trans hx6)) fun _ _ h=>h
 have hvl:=fun k hk=>(h1.lt k hk)
 have hml:=h6.mlt;have hvb:=h6.row.lt vb rfl;have s7:=hg7.size;have hx7:Ext w5 w7:=h6.ext.grown hg7 (fun k hk=>(hvl k hk).1);have hset:∀k,k≠mb->(w7.setCell ⟨mb,2,none⟩ v7).heap[k]?=w7.heap[k]?:=fun k e=>Below.heap_setCell _ _ _ _ e
 have hmb7:w7.heap[mb]?=some (.cells #[.int .i64 (n:Int),.slice (some ⟨vb,0,none⟩) facts facts,vr] 26 (0,0)):=(hg7.block mb hml (fun e=>h.dr.1 e.symm)).trans h6.cell;have hd7:v7.ownBlock≠some mb/\v7.ownBlock≠some vb:=by
  rcases ha7 with e|e
  ·rw [e];exact h.dr
  rw [e];exact⟨fun e=>by injection e with e;omega,fun e=>by injection e with e;omega⟩
 have hss:(w7.setCell ⟨mb,2,none⟩ v7).heap.size=w7.heap.size:=by simp [World.setCell]
 have hsame:Yi (spm w5.heap.size mb vr) W6 (w7.setCell ⟨mb,2,none⟩ v7):=⟨by omega,fun k hk hl=>by
  rw [hset k (fun e=>hk (.inr (.inl e))),hg7.block k hl (fun e=>hk (.inr (.inr e.symm)))]⟩
 have hspm:∀k,k < W6.heap.size->spm w5.heap.size mb v7 k->spm w5.heap.size mb vr k:=fun k hk hs=>by
  rcases hs with e|e|e
  ·exact .inl e
  ·exact .inr (.inl e)
  rcases ha7 with e2|e2
  ·exact .inr (.inr (e2▸e))
  rw [e2]at e;injection e with e;omega
 refine⟨hx7.setCell (p:=⟨mb,2,none⟩) h.lo.1 _,h.lo,?_,?_,h.len,⟨us++ [u],by simp [e],?_,fun k x y hx hy=> ?_⟩,hd7⟩
 ·simp only [World.setCell,Array.getElem?_modify,hmb7,if_true,Option.map_some];simp
 ·exact Zi h6.row fun k hk=>by
   have e:k=vb:=by injection hk with hk;exact hk.symm
   subst e;rw [hset k (fun e=>h.lo.2 e.symm),hg7.block k hvb.2 (fun e=>h.dr.2 e.symm)]
 ·rw [List.length_append,List.length_singleton];exact Zi ho fun k hk=>hset k (fun e=>hd7.1 (e▸hk))
 by_cases hk:k < us.length
 ·rw [List.getElem?_append_left hk]at hx;rw [List.getElem?_append_left (by omega)]at hy;exact(h2 k x y hx hy).next hsame hspm
 have hkl:=(List.getElem?_eq_some_iff.1 hx).1;rw [List.length_append,List.length_singleton]at hkl;have ek:k=us.length:=by omega
 subst ek;rw [List.getElem?_append_right (Nat.le_refl _),Nat.sub_self]at hx;rw [e,List.getElem?_append_right (Nat.le_refl _),Nat.sub_self]at hy;obtain rfl:u=x:=by simpa using hx
 obtain rfl:r=y:=by simpa using hy
 intro w' hw';have hub:=fun g hg=>(hu.lt g hg)
 have hsz:=h.mlt;have hvw:=h.row.lt vb rfl;have:Jz wa.heap.size w' u r:=Zi hu fun g hg=>by
  have hg1:=hub g hg;have hgm:g≠mb:=by omega
  have hgv:∀o,v7.ownBlock=some o->g≠o:=fun o ho' e=>by
   subst e;rcases ha7 with e2|e2
   ·rw [e2]at ho';obtain⟨us0,_,h10,_⟩:=h.rel;have:=(h10.lt _ ho').2;omega
   rw [e2]at ho';injection ho' with ho';have:=hx6.size;omega
  have hgv2:vr.ownBlock≠some g:=fun e=>by
   have:=(h10.lt _ e).2;omega
  have hl6:=hx6.size;have hsp:¬spm w5.heap.size mb v7 g:=fun hs=>by
   rcases hs with e|e|e
   ·have:=h.ext.size;omega
   ·exact hgm e
   exact hgv g e rfl
  rw [hw'.2 g hsp (by omega),hset g hgm,hg7.block g (by omega) (fun e=>hgv2 e.symm),hx6.block hg1.2]
 exact this.u64s
theorem MoI.mdv {w':World}(h:MoI w5 wr mb vb n facts vals vr rows)(hs:Yi (fun k=>k < w5.heap.size) wr w'):MdV w' (.agg #[.int .i64 (n:Int),.slice (some ⟨vb,0,none⟩) facts facts,vr]) ⟨n,vals,rows⟩:=by
 have hvb:=h.row.lt vb rfl;have hrow:Jz w5.heap.size w' (.slice (some ⟨vb,0,none⟩) facts facts) vals:=Zi h.row fun k hk=>by
  have e:k=vb:=by injection hk with hk;exact hk.symm
  subst e;exact hs.2 k (by omega) hvb.2
 refine⟨_,_,rfl,hrow.u64s,?_⟩;obtain⟨us,e,h10,h2⟩:=h.rel;have h1:=Zi (w':=w') h10 fun k hk=>hs.2 k (by have:=(h10.lt k hk).1;omega) (h10.lt k hk).2
 have hsx:Yi (spm w5.heap.size mb vr) wr w':=⟨hs.1,fun k hk hl=>hs.2 k (fun e=>hk (.inl e)) hl⟩;rcases h1.2 with⟨ev,e0⟩|⟨g,cap,cur,ev,hb,hg,hnc,hm,hs',ht⟩
 ·subst ev;have:rows= []:=List.length_eq_zero_iff.1 (by omega);subst this;exact⟨none,0,rfl,Nat.le_refl _,by unfold maxLen;omega,fun h=>absurd rfl h⟩
 subst ev;refine⟨_,cap,by rw [e],by show rows.length<=cap;omega,hm,fun _=>⟨_,rfl,Qm hg,fun k s hk=> ?_⟩⟩;have hkl:k < rows.length:=(List.getElem?_eq_some_iff.1 hk).1;obtain⟨u,hu⟩:∃u,us[k]?=some u:=⟨_,List.getElem?_eq_getElem (by omega)⟩;refine⟨u,?_,h2 k u s hu hk w' hsx⟩;rw [Qzd];have h3:=hu;rw [<-ht,List.getElem?_take]at h3
 split at h3
 ·have h4:cur[k]?=some u:=by simpa using h3
  simp [World.cell?,hg,h4]
 cases h3
end
def Nw(g:Nd->Nat)(l:List Nd):Nat:=l.foldl (fun m n=>m|||g n) 0
theorem Qm4(g:Nd->Nat)(l:List Nd)(n:Nd):Nw g (l++ [n])=Nw g l|||g n:=by simp [Nw,List.foldl_append]
theorem Qw0 {g:Nd->Nat} :∀(l:List Nd),(∀n∈l,g n < 512)->Nw g l < 512:=by
 have:∀(l:List Nd) (m:Nat),(∀n∈l,g n < 512)->m < 512->l.foldl (fun m n=>m|||g n) m < 512:=by
  intro l
  induction l with
  |nil=>intro m _ h;exact h
  |cons a r ih =>
   intro m hl h;exact ih _ (fun n hn=>hl n (List.mem_cons_of_mem _ hn)) (Nat.or_lt_two_pow (n:=9) h (hl a (List.mem_cons_self ..)))
 exact fun l hl=>this l 0 hl (by omega)
def agU(n:Nd):Nat:=if Qe n.op then 2^n.i.toNat else n.g.toNat
def faU(n:Nd):Nat:=if Zk n.op then 2^n.i.toNat else 0
theorem Qk6 {n:Nd}(h:Zn n)(ha:Qe n.op=true):n.g=0:=by
 have hg:Zz n.op=false:=by
  unfold Qe at ha;unfold Zz;simp at ha;rcases ha with((h|h)|h)|h <;>(rw [h];rfl)
 obtain⟨_,h3,_,_,_⟩:=h;unfold Zv at h3;simp [hg]at h3;exact h3.2
theorem Zqk {n:Nd}(h:Zn n)(s:Nat):agS s n=s|||agU n:=by
 unfold agS agU;cases ha:Qe n.op
 ·rw [if_neg (by simp),if_neg (by simp),Nat.or_zero]
 rw [if_pos rfl,if_pos rfl,Qk6 h ha];exact Nat.or_zero _
theorem Hm(op:Int):Zk op=true↔op=3:=by unfold Zk;simp
theorem Zqa {n:Nd}(s:Nat):faS s n=s|||faU n:=by
 unfold faS faU;by_cases h:n.op=3
 ·rw [if_pos h,if_pos ((Hm _).2 h)]
 rw [if_neg h,if_neg (fun e=>h ((Hm _).1 e)),Nat.or_zero]
theorem Ms {f g:Nat->Nd->Nat} :∀(l:List Nd) (s:Nat),(∀n∈l,∀s,f s n=g s n)->l.foldl f s=l.foldl g s
 |[],_,_=>rfl
 |a :: r,s,h=>by
  show r.foldl f (f s a)=r.foldl g (g s a);rw [h a (List.mem_cons_self ..) s];exact Ms r _ (fun n hn=>h n (List.mem_cons_of_mem _ hn))
theorem Qnl {l:List Nd}(h:∀n∈l,Zn n):Jn l=Nw agU l:=Ms l 0 (fun n hn s=>Zqk (h n hn) s)
theorem Qto {l:List Nd} :Je l=Nw faU l:=Ms l 0 (fun _ _ s=>Zqa s)
theorem Qoh {n:Nd}(h:Zn n):agU n < 512:=by
 unfold agU;have h1:=Ga h
 split
 ·rename_i ho;have:=Xr h ho;exact Nat.pow_lt_pow_right (by decide) (show n.i.toNat < 9 by omega)
 omega
theorem Qo4 {n:Nd}(h:Zn n):faU n < 512:=by
 unfold faU
 split
 ·rename_i ho;have:=Fr h ((Hm _).1 ho);exact Nat.pow_lt_pow_right (by decide) (show n.i.toNat < 9 by omega)
 decide
theorem Qbq(n:Nd)(h:Zn n)(u0 u1 u2 u4 u5:Bool)(g:Int)(w:World):
 Calls Tryz.prog 142 #[.agg #[.int .i64 n.op,.int .i64 n.i,.int .i64 n.e,.int .i64 n.g,.int .i64 n.x,.int .i64 n.y],.agg #[.bool u0,.bool u1,.bool u2,.bool (Qe n.op),.bool u4,.bool u5,.int .i64 g]] w
  fun e w'=>e=.returned (.int .i64 ((agU n:Nat):Int))/\Ext w w':=by
 have hg:=Ga h;cases ha:Qe n.op
 ·have HE:=Qq (show((agU n:Nat):Int)=n.g by unfold agU;rw [if_neg (by rw [ha];simp)];omega);clear h hg;go_enter Tryz.func142,Tryz.ntmps142;go_wp2_with fail;go_ret;exact⟨by rw [HE.out] <;> rfl,(Qz.alloc _).alloc _⟩
 obtain⟨h0,h1⟩:=Xr h ha;obtain⟨k,hk⟩:=Int.eq_ofNat_of_zero_le h0;have hw:=Bj (k:=k) (by omega);have hk8:k < 64:=by omega
 have hmk:min k 64=k:=by omega
 have HE:=Qq (show((agU n:Nat):Int)=wrap64 ((2:Int)^k) by rw [hw];unfold agU;rw [if_pos ha,hk,Int.toNat_natCast]);rw [hk];clear h hg h0 h1 hk hw;go_enter Tryz.func142,Tryz.ntmps142;go_wp2_with fail;go_ret;exact⟨by rw [HE.out] <;> rfl,(Qz.alloc _).alloc _⟩
theorem Qrk(n:Nd)(h:Zn n)(u0 u1 u3 u4 u5:Bool)(g:Int)(w:World):
 Calls Tryz.prog 143 #[.agg #[.int .i64 n.op,.int .i64 n.i,.int .i64 n.e,.int .i64 n.g,.int .i64 n.x,.int .i64 n.y],.agg #[.bool u0,.bool u1,.bool (Zk n.op),.bool u3,.bool u4,.bool u5,.int .i64 g]] w
  fun e w'=>e=.returned (.int .i64 ((faU n:Nat):Int))/\Ext w w':=by
 cases ha:Zk n.op
 ·have HE:=Qq (show((faU n:Nat):Int)=0 by unfold faU;rw [if_neg (by rw [ha];simp)];rfl);clear h;go_enter Tryz.func143,Tryz.ntmps143;go_wp2_with fail;go_ret;exact⟨by rw [HE.out] <;> rfl,(Qz.alloc _).alloc _⟩
 obtain⟨h0,h1⟩:=Fr h ((Hm _).1 ha);obtain⟨k,hk⟩:=Int.eq_ofNat_of_zero_le h0;have hw:=Bj (k:=k) (by omega);have hk8:k < 64:=by omega
 have hmk:min k 64=k:=by omega
 have HE:=Qq (show((faU n:Nat):Int)=wrap64 ((2:Int)^k) by rw [hw];unfold faU;rw [if_pos ha,hk,Int.toNat_natCast]);rw [hk];clear h h0 h1 hk hw;go_enter Tryz.func143,Tryz.ntmps143;go_wp2_with fail;go_ret;exact⟨by rw [HE.out] <;> rfl,(Qz.alloc _).alloc _⟩
theorem Qwi(g:Nd->Nat)(l:List Nd)(hg:∀n∈l,g n < 512)(k:Nat):Nw g (l.take k) < 512:=Qw0 _ (fun n hn=>hg n (List.mem_of_mem_take hn))
theorem Qy5(fn:Nat)(eg:∀args w,(callFunc fn args).run Tryz.prog w=.ok (.enter fn args) w)(g:Nd->Nat)(v:Value)(l:List Nd)(w:World)(h:Fml w v l)(_hc:check l=0)(hg:∀n∈Qg l,g n < 512)
 (hf:∀n∈Qg l,∀W,Calls Tryz.prog fn #[.agg #[.int .i64 n.op,.int .i64 n.i,.int .i64 n.e,.int .i64 n.g,.int .i64 n.x,.int .i64 n.y],.agg #[.bool (Qh n.op),.bool (Qc n.op),.bool (Zk n.op),.bool (Qe n.op),.bool (Zz n.op),.bool (Qw n.op),.int .i64 (Yd n.op)]] W fun e w'=>e=.returned (.int .i64 ((g n:Nat):Int))/\Ext W w'):
 Calls Tryz.prog 116 #[v,.func (Fn.func fn) #[] #[]] w fun e w'=>e=.returned (.int .i64 (Nw g (Qg l):Nat))/\Ext w w':=by
 have H:=Qq h;have HG:=Qq hg;have HF:=Qq hf;clear h hg hf;go_enter Tryz.func116,Tryz.ntmps116;go_wp2_with fail;refine(Uv _ l _ H.out).mono ?_;rintro e w1 ⟨u,rfl,hm⟩;have HX:=Qq hm.2.2;obtain⟨A,c,rfl,hcap,hmax,hread⟩:=hm.fml.1;unfold maxLen at hmax;have HR:=Qq hread;obtain⟨cl,hcl⟩:∃cl,cl=Qg l:=⟨_,rfl⟩;have HCL:=Qq (show Nw g (Qg l)=Nw g cl by rw [hcl]);rw [<-hcl]at HR hcap HG HF;rw [<-hcl];clear hm hread hcl;go_wp2_with fail;go_loopw [5,13] (fun out i wr=>∃k:Nat,k<=cl.length/\i=.int .i64 k/\out=.int .i64 (Nw g (cl.take k):Nat)/\Ext w1 wr) (fun _ i _=>cl.length - (intOf i).toNat)
 case atStart=>exact⟨0,Nat.zero_le _,rfl,rfl,Qz⟩
 case round =>
  obtain⟨k,hk,rfl,rfl,hext⟩:=hrel;by_cases hlt2:k < cl.length
  ·obtain⟨a,ha⟩:∃a,cl[k]?=some a:=⟨_,Qv hlt2⟩;have ham:=List.mem_of_getElem? ha;obtain⟨ad,rfl,hb1,hc1⟩:=HR.out (by intro e;rw [e]at hlt2;simp at hlt2);obtain⟨a0,a1,a2,a3,a4,a5⟩:=(hc1 k a ha).keep fun p hp=>hext.cell (p:=p) (by rw [hp,Qp];exact hb1)
   have hor:=Do (Nw g (cl.take k)) (g a) (by have:=Qwi g cl HG.out k;omega) (by have:=HG.out a ham;omega);have HS:Hid (Nw g (cl.take (k+1))=(Nw g (cl.take k)|||g a)):=Qq (by rw [Yh ha,Qm4]);have HFA:=Qq (HF.out a ham);obtain⟨ga,hga⟩:∃x,x=g a:=⟨_,rfl⟩;rw [<-hga]at hor HS HFA;generalize Nw g (cl.take k)=m at hor HS;clear ha hc1 ham hga;go_wp2_with fail;refine(Yn _ _ _ _ _ _ _ _ rfl rfl rfl rfl rfl rfl rfl _).mono ?_;rintro e w2 ⟨rfl,hb⟩;have HB:=Qq hb;obtain⟨hcc,_,hz0⟩:=hb.facts;clear hb;have hz:wr.heap.size < w2.heap.size:=by { simp at hz0;omega }
   clear hz0;go_wp2_with fail;refine(HFA.out _).mono ?_;rintro e w3 ⟨rfl,hb3⟩;go_wp2_with fail;go_roundw
   case rel=>exact⟨k+1,by omega,by go_num,by rw [HS.out],(((hext.alloc _).trans HB.out).alloc _).trans hb3⟩
   case measure=>simp [intOf];omega
  obtain rfl:cl.length=k:=by omega
  go_wp2_with fail;go_ret;exact⟨Kx (by rw [HCL.out,List.take_of_length_le (Nat.le_refl _)]),HX.out.trans hext⟩
theorem Qq1(v:Value)(l:List Nd)(w:World)(h:Fml w v l)(hc:check l=0):
 Calls Tryz.prog 66 #[v] w fun e w'=>e=.returned (.int .i64 ((Jn (Qg l):Nat):Int))/\Ext w w':=by
 have H:=Qq h;have hh:=(Jf hc).2.2.2;have HU:=Qq (Qy5 142 (fun _ _=>rfl) agU v l w h hc (fun n hn=>Qoh (hh n hn)) (fun n hn W=>Qbq n (hh n hn) _ _ _ _ _ _ W));have HE:=Qq (Qnl hh);rw [HE.out];clear h hh hc;go_enter Tryz.func66,Tryz.ntmps66;go_wp2_with fail;refine HU.out.mono ?_;rintro e w1 ⟨rfl,hx⟩;go_wp2_with fail;go_ret;exact⟨rfl,hx⟩
theorem Qyq(v:Value)(l:List Nd)(w:World)(h:Fml w v l)(hc:check l=0):
 Calls Tryz.prog 67 #[v] w fun e w'=>e=.returned (.int .i64 ((Je (Qg l):Nat):Int))/\Ext w w':=by
 have H:=Qq h;have hh:=(Jf hc).2.2.2;have HU:=Qq (Qy5 143 (fun _ _=>rfl) faU v l w h hc (fun n hn=>Qo4 (hh n hn)) (fun n hn W=>Qrk n (hh n hn) _ _ _ _ _ _ W));rw [Qto];clear h hh hc;go_enter Tryz.func67,Tryz.ntmps67;go_wp2_with fail;refine HU.out.mono ?_;rintro e w1 ⟨rfl,hx⟩;go_wp2_with fail;go_ret;exact⟨rfl,hx⟩
theorem Qvg {lg:Int} {f:List Nd}(h:Uo lg f)(he:Zd lg f=0) {i:Nat}(hi:i < (Qn f).1.length)(ho:(Qi ((Qn f).1.getD i [])).op=3):
 ∃p:Nat,(Qi ((Qn f).1.getD i [])).i=(p:Int)/\p < Ym (Je (Qg f))/\(Qn f).1.getD i []= [⟨3,(p:Int),0,0,0,0⟩]:=by
 obtain⟨c,hc⟩:∃c,(Qn f).1[i]?=some c:=⟨_,Qv hi⟩;have hcd:(Qn f).1.getD i []=c:=by rw [Qk,hc];rfl
 rw [hcd]at ho⊢;obtain⟨s,hX,rfl,_,hm⟩:=Qzl h.b hc;rw [hX.last]at ho;have hin:=Qtc h he s hm;cases s with
 |leaf n =>
  have h3:n.op=3:=ho;have hf:=hX.xp.fact h3;have h0:=hin.fact h3;have hl:Qi (Qf (.leaf n))=n:=rfl;rw [hl];refine⟨n.i.toNat,by omega,by omega,?_⟩;show [n]=_;rw [show((n.i.toNat:Nat):Int)=n.i by omega];rw [hf]
 |one n a=>exact absurd (ho▸hX.xp.1.1.1) (by decide)
 |two n a b=>exact absurd (ho▸hX.xp.1.1.1) (by decide)
theorem Qtw {lg:Int} {f:List Nd}(h:Uo lg f)(he:Zd lg f=0) {i j p:Nat}(hi:i < (Qn f).1.length)(hj:j < (Qn f).1.length)(ho:(Qi ((Qn f).1.getD i [])).op=3)(hp:(Qi ((Qn f).1.getD i [])).i=(p:Int))
 (ho2:(Qi ((Qn f).1.getD j [])).op=3)(hp2:(Qi ((Qn f).1.getD j [])).i=(p:Int)):i=j:=by
 obtain⟨q,hq,_,e1⟩:=Qvg h he hi ho;obtain⟨q2,hq2,_,e2⟩:=Qvg h he hj ho2;have hqp:q=p:=by omega
 have hqp2:q2=p:=by omega
 subst hqp hqp2;have hg:∀k,k < (Qn f).1.length->(Qn f).1[k]?=some ((Qn f).1.getD k []):=fun k hk=>by rw [Qk,Qv hk];rfl
 have h1:=Xv h.b.nodup (hg i hi);have h2:=Xv h.b.nodup (hg j hj);rw [e1,<-e2,h2]at h1;omega
structure Rm (base:List (List Nd)) (S:List Nat) (i:Nat) (vals:List Nat):Prop where
 low:∀s∈vals,s < 2^S.length
 bit:∀j p:Nat,j < i->(Qi (base.getD j [])).op=3->(Qi (base.getD j [])).i=(p:Int)->∀w,w < S.length->(vals.getD p 0).testBit w=(S.getD w 0).testBit j
 zero:∀p:Nat,(∀j,j < i->¬((Qi (base.getD j [])).op=3/\(Qi (base.getD j [])).i=(p:Int)))->vals.getD p 0=0
theorem Qv8(n i:Nat):(List.replicate n 0).getD i 0=0:=by
 rw [Qk,List.getElem?_replicate]
 split <;> rfl
theorem Rm.start(base:List (List Nd))(S:List Nat)(n:Nat):Rm base S 0 (List.replicate n 0):=
 ⟨fun s hs=>by rw [(List.mem_replicate.1 hs).2];exact Nat.two_pow_pos _,fun j p hj=>absurd hj (by omega),fun p _=>Qv8 n p⟩
structure Pz (S:List Nat) (i k x:Nat):Prop where
 low:x < 2^S.length
 bit:∀w,x.testBit w=(decide (w < k)&&(S.getD w 0).testBit i)
theorem Pz.start(S:List Nat)(i:Nat):Pz S i 0 0:=⟨Nat.two_pow_pos _,fun w=>by simp⟩
theorem Pz.step {S:List Nat} {i k x:Nat}(h:Pz S i k x)(hk:k < S.length):Pz S i (k+1) (x|||(if(S.getD k 0).testBit i then 2^k else 0)):=by
 refine⟨Nat.or_lt_two_pow h.low ?_,fun w=> ?_⟩
 ·split
  ·exact Nat.pow_lt_pow_right (by decide) hk
  exact Nat.two_pow_pos _
 rw [Nat.testBit_or,h.bit w];cases hb:(S.getD k 0).testBit i
 ·rw [if_neg (by simp),Nat.zero_testBit,Bool.or_false];by_cases e:w=k
  ·subst e;rw [hb];simp
  have:decide (w < k+1)=decide (w < k):=by rw [decide_eq_decide];omega
  rw [this]
 rw [if_pos rfl,Nat.testBit_two_pow];by_cases e:w=k
 ·subst e;rw [hb];simp
 have h1:decide (k=w)=false:=decide_eq_false (fun q=>e q.symm);have h2:decide (w < k+1)=decide (w < k):=by rw [decide_eq_decide];omega
 rw [h1,h2,Bool.or_false]
theorem Pk {l:List Nat} {p x q:Nat} :(l.set p x).getD q 0=if p=q/\p < l.length then x else l.getD q 0:=by
 rw [Qk,Qk,List.getElem?_set];by_cases e:p=q
 ·subst e;by_cases hl:p < l.length
  ·rw [if_pos rfl,if_pos hl,if_pos ⟨rfl,hl⟩];rfl
  rw [if_pos rfl,if_neg hl,if_neg (fun h=>hl h.2),List.getElem?_eq_none (by omega)]
 rw [if_neg e,if_neg (fun h=>e h.1)]
section
variable {base:List (List Nd)} {S vals:List Nat} {i:Nat}
theorem Rm.other(h:Rm base S i vals)(ho:(Qi (base.getD i [])).op≠3):Rm base S (i+1) vals :=
 ⟨h.low,fun j p hj h1 h2 w hw=>by
  by_cases e:j=i
  ·subst e;exact absurd h1 ho
  exact h.bit j p (by omega) h1 h2 w hw,fun p hp=>h.zero p (fun j hj=>hp j (by omega))⟩
theorem Rm.next {p x:Nat}(h:Rm base S i vals)(hu:∀j,j < i->¬((Qi (base.getD j [])).op=3/\(Qi (base.getD j [])).i=(p:Int)))(ho:(Qi (base.getD i [])).op=3)(hi:(Qi (base.getD i [])).i=(p:Int))(hp:p < vals.length)(hx:Pz S i S.length x):Rm base S (i+1) (vals.set p x):=by
 refine⟨fun s hs=> ?_,fun j q hj h1 h2 w hw=> ?_,fun q hq=> ?_⟩
 ·rcases List.mem_or_eq_of_mem_set hs with h1|h1
  ·exact h.low s h1
  rw [h1];exact hx.low
 ·rw [Pk];by_cases e:p=q
  ·subst e;rw [if_pos ⟨rfl,hp⟩];by_cases e2:j=i
   ·subst e2;rw [hx.bit,decide_eq_true hw,Bool.true_and]
   exact absurd ⟨h1,h2⟩ (hu j (by omega))
  rw [if_neg (fun h=>e h.1)];by_cases e2:j=i
  ·subst e2;exact absurd (by omega) e
  exact h.bit j q (by omega) h1 h2 w hw
 rw [Pk];by_cases e:p=q
 ·subst e;exact absurd ⟨ho,hi⟩ (hq i (by omega))
 rw [if_neg (fun h=>e h.1)];exact h.zero q (fun j hj=>hq j (by omega))
end
structure Bm (n:Nat) (P:Nat->Nat->Bool) (v w:Nat) (r:List Nat):Prop where
 len:r.length=n
 val:∀x,x < n->r.getD x 0=if x < v then Kk n (P x)else if x=v then Kk w (P v)else 0
theorem Bm.start(n:Nat)(P:Nat->Nat->Bool):Bm n P 0 0 (List.replicate n 0):=⟨by simp,fun x hx=>by
 rw [Qv8,if_neg (by omega)]
 split <;> rfl⟩
theorem Bm.no {n:Nat} {P:Nat->Nat->Bool} {v w:Nat} {r:List Nat}(h:Bm n P v w r)(hp:P v w=false):Bm n P v (w+1) r :=
 ⟨h.len,fun x hx=>by rw [h.val x hx,Th,hp];rfl⟩
theorem Bm.yes {n:Nat} {P:Nat->Nat->Bool} {v w:Nat} {r:List Nat}(h:Bm n P v w r)(hv:v < n)(hp:P v w=true):Bm n P v (w+1) (r.set v (r.getD v 0|||2^w)):=by
 refine⟨by rw [List.length_set];exact h.len,fun x hx=> ?_⟩;rw [Pk];by_cases e:v=x
 ·subst e;rw [if_pos ⟨rfl,by rw [h.len];exact hv⟩,h.val v hv,if_neg (by omega),if_pos rfl,if_neg (by omega),if_pos rfl,Th,hp];rfl
 rw [if_neg (fun h=>e h.1),h.val x hx];by_cases h1:x < v
 ·rw [if_pos h1,if_pos h1]
 rw [if_neg h1,if_neg h1,if_neg (fun e2=>e e2.symm),if_neg (fun e2=>e e2.symm)]
theorem Bm.turn {n:Nat} {P:Nat->Nat->Bool} {v:Nat} {r:List Nat}(h:Bm n P v n r):Bm n P (v+1) 0 r:=by
 refine⟨h.len,fun x hx=> ?_⟩;rw [h.val x hx];by_cases h1:x < v
 ·rw [if_pos h1,if_pos (by omega)]
 rw [if_neg h1];by_cases h2:x=v
 ·subst h2;rw [if_pos rfl,if_pos (by omega)]
 rw [if_neg h2,if_neg (by omega)]
 split <;> rfl
theorem Bm.done {n:Nat} {P:Nat->Nat->Bool} {r:List Nat}(h:Bm n P n 0 r):r=(List.range n).map fun v=>Kk n (P v):=by
 refine List.ext_getElem (by simp [h.len]) fun x h1 h2=> ?_
 have hx:x < n:=by rw [h.len]at h1;exact h1
 have:=h.val x hx;rw [if_pos hx,Qk,Qv h1]at this;rw [List.getElem_map,List.getElem_range];exact this
theorem Bm.low {n:Nat} {P:Nat->Nat->Bool} {v w:Nat} {r:List Nat}(h:Bm n P v w r)(hw:w<=n)(hv:v < n):r.getD v 0 < 2^n:=by
 rw [h.val v hv,if_neg (by omega),if_pos rfl];exact Qy (Bs _ _) (Nat.pow_le_pow_right (by decide) hw)
end Go.Proofs.YtkmclcmnoicagaaGreatDoor
