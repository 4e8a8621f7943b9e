/- Eliminations in memory; what an engine's methods ask, from the formula's base. -/
import Derived.Test.YtbfeodammikajaaGreatM01
import Derived.Test.YtbfeodammikajaaGreatM24
import Derived.Test.YtbfeodammikajaaGreatM25
import Derived.Test.YtbfeodammikajaaGreatM11
import Derived.Test.YtbfeodammikajaaGreatM18
import Derived.Test.YtbfeodammikajaaGreatM16
import Derived.Lib.Strings
import Derived.Lib.Slices
import Derived.Lib.Small
import Derived.Lib.Walk
import Derived.Lib.BitFns
namespace Go.Proofs.YtbfeodammikajaaGreat
set_option maxRecDepth 100000
set_option maxHeartbeats 128000000
open Go.RowKit
theorem u64s_of_row {w:World} {base:Nat} {v:Value} {l:List Nat}(h:w.ownsRow base 40 1 v l.length (u64V l)):U64s w v l:=by
 have e:u64V l=l.flatMap fun(u:Nat)=> [Value.int .u64 (u:Int)]:=by unfold u64V;exact List.map_eq_flatMap
 rw [e]at h;obtain⟨A,cap,rfl,h1,h2,h3⟩:=row_cells (f:=fun(u:Nat)=> [Value.int .u64 (u:Int)]) (c:=1) (fun _=>rfl) h;refine⟨A,cap,rfl,h1,h2,fun hn=> ?_⟩;obtain⟨g,rfl,hg,hc⟩:=h3 hn;refine⟨_,rfl,hg,fun k z hk=> ?_⟩;have:=hc k z hk 0 (by omega) _ rfl;rw [addr_zero]
 simpa using this
theorem ints_of_vrow {w:World} {base:Nat} {v:Value} {l:List Int}(h:w.ownsRow base 3 1 v l.length (intV l)):Ints w v l:=ints_of_row h
def Elm(w:World)(v:Value)(lg:Int)(ts:List Nat)(ws:List Int):Prop:=∃vt vw,v=.agg #[.int .i64 lg,vt,vw]/\U64s w vt ts/\Ints w vw ws
theorem Elm.ext {w w':World} {v:Value} {lg:Int} {ts:List Nat} {ws:List Int}(h:Elm w v lg ts ws)(he:Ext w w'):Elm w' v lg ts ws:=by
 obtain⟨vt,vw,e,h1,h2⟩:=h;exact⟨vt,vw,e,h1.ext he,h2.ext he⟩
theorem elm_nil(w:World):Elm w (.agg #[.int .i64 0,.slice none 0 0,.slice none 0 0]) 0 [] []:=⟨_,_,rfl,u64s_nil w,Ints.none_ w⟩
structure EngAll (lg:Int) (f:List Nd):Prop where
 lgr:0<=lg/\lg<=6
 len:(baseN f).1.length<=12
 al:(aliveN lg (baseN f).1).length=2^(baseN f).1.length
 le:(aliveN lg (baseN f).1).length<=4096
 root:(rootN f).length=2^(baseN f).1.length
 ks:∀k∈knowsN (baseN f).1,k.place < 64/\k.holds.length=2^(baseN f).1.length
 cs:∀c∈commsN (baseN f).1,c.place < 64/\c.x.length=2^(baseN f).1.length/\c.y.length=2^(baseN f).1.length/\0<=c.group/\c.group < 16
theorem eng_all {lg:Int} {f:List Nd}(h:EngOk lg f):EngAll lg f:=by
 have hl:=h.b.len;refine⟨⟨h.l0,h.l6⟩,hl,alive_len _ _,by rw [alive_len];exact pow12 hl,tab_len _ _,fun k hk=> ?_,fun c hc=> ?_⟩
 ·have:=kn_size hk;exact⟨by omega,this.2⟩
 obtain⟨i,hi,hk⟩:=List.mem_flatMap.1 hc;have hi:=List.mem_range.1 hi;unfold cmOf at hk;cases ho:(lastN ((baseN f).1.getD i [])).op==13
 ·rw [ho]at hk;cases hk
 rw [ho]at hk;rw [List.mem_singleton.1 hk];have hg:(baseN f).1[i]?=some ((baseN f).1.getD i []):=by rw [Qk,Qv hi];rfl
 obtain⟨t,ht,hc,_⟩:=h.b.can _ (List.mem_of_getElem? hg);obtain⟨gn,e,hlt⟩:=group_top ht (by rw [<-hc];simpa using ho);rw [<-hc]at e;exact⟨by show i < 64;omega,tab_len _ _,tab_len _ _,by show 0<=(lastN _).g/\(lastN _).g < 16;rw [e];omega⟩
theorem results_ct {P:Program} {fn:Func} {t u:Tmp} {ty:TypeId}(h:fn.results=#[.cell t ty,.tmp u])(tmps:Array Value)(w:World) {b o:Nat}(ht:tmps.getD t undef=.pointer (some ⟨b,o,none⟩)) {cs:List Value} {d:TypeDesc}(hc:w.rangeAt b o cs)
 (hu:P.underlying ty=some d)(hd:d.isRow=true)(hi:(P.info? ty).map (·.size)=some cs.length):(results fn tmps).run P w=.ok (.tuple #[.agg cs.toArray,tmps.getD u undef]) w:=by
 have ht':tmps[t]?.getD undef=.pointer (some ⟨b,o,none⟩):=by rw [<-Array.getD_eq_getD_getElem?];exact ht
 simp [results,h,ht',asAddr,run_loadVar_mid w b o ty cs d hc hu hd hi]
theorem cells3z {w:World} {b:Nat} {a0 a1 a2:Value} {t:TypeId}(h:w.heap[b]?=some (.cells #[a0,a1,a2] t (0,0))):
 (w.cell? ⟨b,0,none⟩=some a0/\w.cell? ⟨b,1,none⟩=some a1/\w.cell? ⟨b,2,none⟩=some a2)/\(w.frozen? ⟨b,0,none⟩=false/\w.frozen? ⟨b,1,none⟩=false/\w.frozen? ⟨b,2,none⟩=false)/\b < w.heap.size :=
 ⟨⟨by simp [World.cell?,h],by simp [World.cell?,h],by simp [World.cell?,h]⟩,⟨by simp [World.frozen?,h],by simp [World.frozen?,h],by simp [World.frozen?,h]⟩,lt_heap h⟩
theorem set3z {w:World} {b:Nat} {a0 a1 a2:Value} {t:TypeId}(h:w.heap[b]?=some (.cells #[a0,a1,a2] t (0,0)))(v0 v1 v2:Value):
 (((w.setCell ⟨b,0,none⟩ v0).setCell ⟨b,1,none⟩ v1).setCell ⟨b,2,none⟩ v2).heap[b]?=some (.cells #[v0,v1,v2] t (0,0)):=by
 simp only [World.setCell,Array.getElem?_modify,h,if_true,Option.map_some];simp
theorem ext3z {w w':World} {b:Nat}(h:Ext w w')(hb:w.heap.size<=b)(v0 v1 v2:Value):Ext w (((w'.setCell ⟨b,0,none⟩ v0).setCell ⟨b,1,none⟩ v1).setCell ⟨b,2,none⟩ v2):=
 ((h.setCell (p:=⟨b,0,none⟩) hb v0).setCell (p:=⟨b,1,none⟩) hb v1).setCell (p:=⟨b,2,none⟩) hb v2
theorem other3z {w:World} {b k:Nat}(h:k≠b)(v0 v1 v2:Value):(((w.setCell ⟨b,0,none⟩ v0).setCell ⟨b,1,none⟩ v1).setCell ⟨b,2,none⟩ v2).heap[k]?=w.heap[k]?:=by
 rw [Below.heap_setCell _ _ _ _ h,Below.heap_setCell _ _ _ _ h,Below.heap_setCell _ _ _ _ h]
def spm(lo mb:Nat)(vr:Value)(k:Nat):Prop:=k < lo\/k=mb\/vr.ownBlock=some k
structure MoI (w5 wr:World) (mb vb n facts:Nat) (vals:List Nat) (vr:Value) (rows:List (List Nat)):Prop where
 ext:Ext w5 wr
 lo:w5.heap.size<=mb/\mb≠vb
 cell:wr.heap[mb]?=some (.cells #[.int .i64 (n:Int),.slice (some ⟨vb,0,none⟩) facts facts,vr] 38 (0,0))
 row:MadeU w5.heap.size wr (.slice (some ⟨vb,0,none⟩) facts facts) vals
 len:vals.length=facts
 rel:∃us:List Value,us.length=rows.length/\wr.ownsRow w5.heap.size 27 1 vr us.length us/\∀(k:Nat) u r,us[k]?=some u->rows[k]?=some r->Frz (spm w5.heap.size mb vr) wr (fun w'=>U64s w' u r)
 dr:vr.ownBlock≠some mb/\vr.ownBlock≠some vb
section
variable {w5 wr W:World} {mb vb n facts:Nat} {vals:List Nat} {vr:Value} {rows:List (List Nat)}
theorem MoI.next(h:MoI w5 wr mb vb n facts vals vr rows)(he:Ext wr W):MoI w5 W mb vb n facts vals vr rows:=by
 obtain⟨us,e,h1,h2⟩:=h.rel;exact⟨h.ext.trans he,h.lo,(he.block (lt_heap h.cell)).trans h.cell,h.row.ext he,h.len,⟨us,e,row_ext h1 he,fun k u r hu hr=>(h2 k u r hu hr).next (SameX.of_ext he) fun _ _ h=>h⟩,h.dr⟩
theorem MoI.mlt(h:MoI w5 wr mb vb n facts vals vr rows):mb < wr.heap.size:=lt_heap h.cell
theorem MoI.cells(h:MoI w5 wr mb vb n facts vals vr rows):(wr.cell? ⟨mb,0,none⟩=some (.int .i64 (n:Int))/\wr.cell? ⟨mb,1,none⟩=some (.slice (some ⟨vb,0,none⟩) facts facts)/\wr.cell? ⟨mb,2,none⟩=some vr)/\(wr.frozen? ⟨mb,0,none⟩=false/\wr.frozen? ⟨mb,1,none⟩=false/\wr.frozen? ⟨mb,2,none⟩=false)/\mb < wr.heap.size :=
 cells3z h.cell
theorem MoI.setVal(h:MoI w5 wr mb vb n facts vals (.slice none 0 0) [])(p s:Nat):MoI w5 (wr.setCell ⟨vb,p,none⟩ (.int .u64 (s:Int))) mb vb n facts (vals.set p s) (.slice none 0 0) []:=by
 have hvb:w5.heap.size<=vb:=(h.row.lt vb rfl).1;refine⟨h.ext.setCell (p:=⟨vb,p,none⟩) hvb _,h.lo,(Below.heap_setCell _ _ _ _ h.lo.2).trans h.cell,h.row.set h.len p s,by rw [List.length_set];exact h.len,⟨[],rfl,World.ownsRow_nil _ _ _ _,fun k u r hu _=>by simp at hu⟩,h.dr⟩
theorem MoI.push {wa w7 W6:World} {v7:Value} {u:Value} {r:List Nat} {us:List Value}(h:MoI w5 wa mb vb n facts vals vr rows)(e:us.length=rows.length)(h10:wa.ownsRow w5.heap.size 27 1 vr us.length us)(h20:∀(k:Nat) u r,us[k]?=some u->rows[k]?=some r->Frz (spm w5.heap.size mb vr) wa (fun w'=>U64s w' u r))(hx:Ext wa wr)(hu:MadeU wa.heap.size wr u r)(hx6:Ext wr W6)
 (ho:w7.ownsRow w5.heap.size 27 1 v7 (us.length+1) (us++ [u]))(hg7:W6.grownBy w7 vr.ownBlock)(ha7:v7.ownBlock=vr.ownBlock\/v7.ownBlock=some W6.heap.size):
 MoI w5 (w7.setCell ⟨mb,2,none⟩ v7) mb vb n facts vals v7 (rows++ [r]):=by
 have h6:=h.next (hx.trans hx6);have h1:=row_ext h10 (hx.trans hx6);have h2:=fun k u r hu hr=>(h20 k u r hu hr).next (X':=spm w5.heap.size mb vr) (SameX.of_ext (hx.trans hx6)) fun _ _ h=>h
 have hvl:=fun k hk=>(h1.lt k hk)
 have hml:=h6.mlt;have hvb:=h6.row.lt vb rfl;have s7:=hg7.size;have hx7:Ext w5 w7:=h6.ext.grown hg7 (fun k hk=>(hvl k hk).1);have hset:∀k,k≠mb->(w7.setCell ⟨mb,2,none⟩ v7).heap[k]?=w7.heap[k]?:=fun k e=>Below.heap_setCell _ _ _ _ e
 have hmb7:w7.heap[mb]?=some (.cells #[.int .i64 (n:Int),.slice (some ⟨vb,0,none⟩) facts facts,vr] 38 (0,0)):=(hg7.block mb hml (fun e=>h.dr.1 e.symm)).trans h6.cell;have hd7:v7.ownBlock≠some mb/\v7.ownBlock≠some vb:=by
  rcases ha7 with e|e
  ·rw [e];exact h.dr
  rw [e];exact⟨fun e=>by injection e with e;omega,fun e=>by injection e with e;omega⟩
 have hss:(w7.setCell ⟨mb,2,none⟩ v7).heap.size=w7.heap.size:=by simp [World.setCell]
 have hsame:SameX (spm w5.heap.size mb vr) W6 (w7.setCell ⟨mb,2,none⟩ v7):=⟨by omega,fun k hk hl=>by
  rw [hset k (fun e=>hk (.inr (.inl e))),hg7.block k hl (fun e=>hk (.inr (.inr e.symm)))]⟩
 have hspm:∀k,k < W6.heap.size->spm w5.heap.size mb v7 k->spm w5.heap.size mb vr k:=fun k hk hs=>by
  rcases hs with e|e|e
  ·exact .inl e
  ·exact .inr (.inl e)
  rcases ha7 with e2|e2
  ·exact .inr (.inr (e2▸e))
  rw [e2]at e;injection e with e;omega
 refine⟨hx7.setCell (p:=⟨mb,2,none⟩) h.lo.1 _,h.lo,?_,?_,h.len,⟨us++ [u],by simp [e],?_,fun k x y hx hy=> ?_⟩,hd7⟩
 ·simp only [World.setCell,Array.getElem?_modify,hmb7,if_true,Option.map_some];simp
 ·exact row_keep h6.row fun k hk=>by
   have e:k=vb:=by injection hk with hk;exact hk.symm
   subst e;rw [hset k (fun e=>h.lo.2 e.symm),hg7.block k hvb.2 (fun e=>h.dr.2 e.symm)]
 ·rw [List.length_append,List.length_singleton];exact row_keep ho fun k hk=>hset k (fun e=>hd7.1 (e▸hk))
 by_cases hk:k < us.length
 ·rw [List.getElem?_append_left hk]at hx;rw [List.getElem?_append_left (by omega)]at hy;exact(h2 k x y hx hy).next hsame hspm
 have hkl:=(List.getElem?_eq_some_iff.1 hx).1;rw [List.length_append,List.length_singleton]at hkl;have ek:k=us.length:=by omega
 subst ek;rw [List.getElem?_append_right (Nat.le_refl _),Nat.sub_self]at hx;rw [e,List.getElem?_append_right (Nat.le_refl _),Nat.sub_self]at hy;obtain rfl:u=x:=by simpa using hx
 obtain rfl:r=y:=by simpa using hy
 intro w' hw';have hub:=fun g hg=>(hu.lt g hg)
 have hsz:=h.mlt;have hvw:=h.row.lt vb rfl;have:MadeU wa.heap.size w' u r:=row_keep hu fun g hg=>by
  have hg1:=hub g hg;have hgm:g≠mb:=by omega
  have hgv:∀o,v7.ownBlock=some o->g≠o:=fun o ho' e=>by
   subst e;rcases ha7 with e2|e2
   ·rw [e2]at ho';obtain⟨us0,_,h10,_⟩:=h.rel;have:=(h10.lt _ ho').2;omega
   rw [e2]at ho';injection ho' with ho';have:=hx6.size;omega
  have hgv2:vr.ownBlock≠some g:=fun e=>by
   have:=(h10.lt _ e).2;omega
  have hl6:=hx6.size;have hsp:¬spm w5.heap.size mb v7 g:=fun hs=>by
   rcases hs with e|e|e
   ·have:=h.ext.size;omega
   ·exact hgm e
   exact hgv g e rfl
  rw [hw'.2 g hsp (by omega),hset g hgm,hg7.block g (by omega) (fun e=>hgv2 e.symm),hx6.block hg1.2]
 exact this.u64s
theorem MoI.mdv {w':World}(h:MoI w5 wr mb vb n facts vals vr rows)(hs:SameX (fun k=>k < w5.heap.size) wr w'):MdV w' (.agg #[.int .i64 (n:Int),.slice (some ⟨vb,0,none⟩) facts facts,vr]) ⟨n,vals,rows⟩:=by
 have hvb:=h.row.lt vb rfl;have hrow:MadeU w5.heap.size w' (.slice (some ⟨vb,0,none⟩) facts facts) vals:=row_keep h.row fun k hk=>by
  have e:k=vb:=by injection hk with hk;exact hk.symm
  subst e;exact hs.2 k (by omega) hvb.2
 refine⟨_,_,rfl,hrow.u64s,?_⟩;obtain⟨us,e,h10,h2⟩:=h.rel;have h1:=row_keep (w':=w') h10 fun k hk=>hs.2 k (by have:=(h10.lt k hk).1;omega) (h10.lt k hk).2
 have hsx:SameX (spm w5.heap.size mb vr) wr w':=⟨hs.1,fun k hk hl=>hs.2 k (fun e=>hk (.inl e)) hl⟩;rcases h1.2 with⟨ev,e0⟩|⟨g,cap,cur,ev,hb,hg,hnc,hm,hs',ht⟩
 ·subst ev;have:rows= []:=List.length_eq_zero_iff.1 (by omega);subst this;exact⟨none,0,rfl,Nat.le_refl _,by unfold maxLen;omega,fun h=>absurd rfl h⟩
 subst ev;refine⟨_,cap,by rw [e],by show rows.length<=cap;omega,hm,fun _=>⟨_,rfl,lt_heap hg,fun k s hk=> ?_⟩⟩;have hkl:k < rows.length:=(List.getElem?_eq_some_iff.1 hk).1;obtain⟨u,hu⟩:∃u,us[k]?=some u:=⟨_,List.getElem?_eq_getElem (by omega)⟩;refine⟨u,?_,h2 k u s hu hk w' hsx⟩;rw [addr_nil];have h3:=hu;rw [<-ht,List.getElem?_take]at h3
 split at h3
 ·have h4:cur[k]?=some u:=by simpa using h3
  simp [World.cell?,hg,h4]
 cases h3
end
def lenB(m:Nat):Nat:=if m=0 then 0 else m.log2+1
theorem len8_is:∀x:Fin 256,Lib.len8 (x.val:Int)=(lenB x.val:Int):=by decide+kernel
theorem len8_at(y:Int)(h:y.toNat < Lib.len8tab.size):((Lib.len8tab[y.toNat]'h).toNat:Int)=Lib.len8 y:=by
 unfold Lib.len8;rw [getElem?_pos Lib.len8tab y.toNat h];rfl
theorem wrap_two8(a:Int)(h0:0<=a)(h1:a<=8):RowKit.wrap64 (RowKit.wrap64 a)=a:=by
 unfold RowKit.wrap64;omega
theorem len64_int(x z:Int)(h0:0<=x)(h1:x < 256)(hz:Hid (Lib.len8 x=z/\0<=z/\z<=8))(w:World):Calls Tryz.prog 96 #[.int .u64 x] w fun e w'=>e=.returned (.int .i64 z)/\w'=w:=by
 go_enter Tryz.func96,Tryz.ntmps96;go_wp2;go_ret;exact⟨by rw [len8_at,hz.out.1,wrap_two8 _ hz.out.2.1 hz.out.2.2] <;> rfl,rfl⟩
theorem lenB_8 {x:Nat}(hx:x < 256):lenB x<=8:=by
 unfold lenB
 split
 ·omega
 rename_i h0;have:=(Nat.log2_lt h0).2 (show x < 2^8 from hx);omega
theorem len64_any(x:Nat)(hx:x < 256)(w:World):Calls Tryz.prog 96 #[.int .u64 (x:Int)] w fun e w'=>e=.returned (.int .i64 (lenB x:Int))/\w'=w :=
 len64_int (x:Int) _ (by omega) (by omega) (Qq ⟨len8_is ⟨x,hx⟩,by omega,by have:=lenB_8 hx;show(lenB x:Int)<=8;omega⟩) w
theorem len_any(x:Nat)(hx:x < 256)(w:World):Calls Tryz.prog 45 #[.int .u64 (x:Int)] w fun e w'=>e=.returned (.int .i64 (lenB x:Int))/\w'=w:=by
 go_enter Tryz.func45,Tryz.ntmps45;go_wp2_with fail;refine(len64_any x hx _).mono ?_;rintro e w1 ⟨rfl,rfl⟩;go_wp2_with fail;go_ret;exact⟨rfl,rfl⟩
theorem two_word {k:Nat}(h:k < 64):word (2^k):=by
 show 2^k < 18446744073709551616;rw [show(18446744073709551616:Nat)=2^64 from rfl];exact Nat.pow_lt_pow_right (by decide) h
theorem or_two {s k:Nat}(hs:word s)(hk:k < 64):bits .or .u64 (s:Int) (IntKind.u64.wrap ((2:Int)^k))=((s|||2^k:Nat):Int):=by
 rw [wrap_two hk];exact bits_or hs (two_word hk)
theorem dif_eq_zero {a b:Nat}(ha:word a)(hb:word b):(bits .andNot .u64 (a:Int) (b:Int)==0)=subS a b:=by
 rw [bits_andNot ha hb,<-dif_zero,Bool.eq_iff_iff,beq_iff_eq,beq_iff_eq];omega
def boolN(op:Int)(x y al:Nat):Nat :=
 if op=1 then al else if op=4 then difN al x else if op=5 then x&&&y else if op=6 then x|||y else if op=7 then difN al x|||y else if op=8 then difN al (x^^^y)else 0
theorem and_word {a b:Nat}(ha:word a):word (a&&&b):=Nat.lt_of_le_of_lt Nat.and_le_left ha
theorem or_word {a b:Nat}(ha:word a)(hb:word b):word (a|||b):=Nat.or_lt_two_pow (n:=64) ha hb
theorem xor_word {a b:Nat}(ha:word a)(hb:word b):word (a^^^b):=Nat.xor_lt_two_pow (n:=64) ha hb
theorem bool_word {op:Int} {x y al:Nat}(hx:word x)(hy:word y)(ha:word al):word (boolN op x y al):=by
 unfold boolN
 split
 ·exact ha
 split
 ·exact dif_word ha
 split
 ·exact and_word hx
 split
 ·exact or_word hx hy
 split
 ·exact or_word (dif_word ha) hy
 split
 ·exact dif_word ha
 show(0:Nat) < _;omega
theorem boolean_any(op:Int)(x y al:Nat)(w:World)(hx:word x)(hy:word y)(ha:word al):
 Calls Tryz.prog 142 #[.int .i64 op,.int .u64 (x:Int),.int .u64 (y:Int),.int .u64 (al:Int)] w fun e w'=>e=.returned (.int .u64 ((boolN op x y al:Nat):Int))/\w=w':=by
 have b1:=bits_andNot (b:=x) ha hx;have b2:=bits_and hx hy;have b3:=bits_or hx hy;have b4:=bits_or (dif_word (b:=x) ha) hy;have b5:=bits_xor hx hy;have b6:=bits_andNot ha (xor_word hx hy);by_cases h1:op=1
 ·subst h1;go_enter Tryz.func142,Tryz.ntmps142;go_wp2_with fail;go_ret;exact⟨rfl,rfl⟩
 by_cases h4:op=4
 ·subst h4;have HE:=Qq b1;clear b1 b2 b3 b4 b5 b6;go_enter Tryz.func142,Tryz.ntmps142;go_wp2_with fail;go_ret;exact⟨by rw [show boolN 4 x y al=difN al x from rfl,<-HE.out] <;> rfl,rfl⟩
 by_cases h5:op=5
 ·subst h5;have HE:=Qq b2;clear b1 b2 b3 b4 b5 b6;go_enter Tryz.func142,Tryz.ntmps142;go_wp2_with fail;go_ret;exact⟨by rw [show boolN 5 x y al=x&&&y from rfl,<-HE.out] <;> rfl,rfl⟩
 by_cases h6:op=6
 ·subst h6;have HE:=Qq b3;clear b1 b2 b3 b4 b5 b6;go_enter Tryz.func142,Tryz.ntmps142;go_wp2_with fail;go_ret;exact⟨by rw [show boolN 6 x y al=x|||y from rfl,<-HE.out] <;> rfl,rfl⟩
 by_cases h7:op=7
 ·subst h7;have HE:=Qq b4;have HE1:=Qq b1;clear b1 b2 b3 b4 b5 b6;go_enter Tryz.func142,Tryz.ntmps142;go_wp2_with fail;go_ret;exact⟨by rw [show boolN 7 x y al=difN al x|||y from rfl,<-HE.out,<-HE1.out] <;> rfl,rfl⟩
 by_cases h8:op=8
 ·subst h8;have HE:=Qq b6;have HE1:=Qq b5;clear b1 b2 b3 b4 b5 b6;go_enter Tryz.func142,Tryz.ntmps142;go_wp2_with fail;go_ret;exact⟨by rw [show boolN 8 x y al=difN al (x^^^y)from rfl,<-HE.out,<-HE1.out] <;> rfl,rfl⟩
 have HE:=Qq (show boolN op x y al=0 by unfold boolN;rw [if_neg h1,if_neg h4,if_neg h5,if_neg h6,if_neg h7,if_neg h8]);have t1:(op==1)=false:=by simpa using h1
 have t4:(op==4)=false:=by simpa using h4
 have t5:(op==5)=false:=by simpa using h5
 have t6:(op==6)=false:=by simpa using h6
 have t7:(op==7)=false:=by simpa using h7
 have t8:(op==8)=false:=by simpa using h8
 clear b1 b2 b3 b4 b5 b6 h1 h4 h5 h6 h7 h8;go_enter Tryz.func142,Tryz.ntmps142;go_wp2_with fail;go_ret;exact⟨by rw [HE.out] <;> rfl,rfl⟩
def boxN(r:List Nat)(n s:Nat):Nat:=maskN n fun i=>subS (r.getD i 0) s
theorem box_any(v:Value)(r:List Nat)(n s:Nat)(w:World)(h:U64s w v r)(hw:∀s∈r,word s)(hn:n<=64)(hl:n<=r.length)(hs:word s):
 Calls Tryz.prog 143 #[v,.int .i64 (n:Int),.int .u64 (s:Int)] w fun e w'=>e=.returned (.int .u64 ((boxN r n s:Nat):Int))/\Ext w w':=by
 obtain⟨A,c,rfl,_,_,HL⟩:=u64_at h;have HWD:=Qq hw;have HS:=Qq hs;have hll:(n:Int)<=(r.length:Int):=by omega
 clear h hw hs;go_enter Tryz.func143,Tryz.ntmps143;go_wp2_with fail;go_loopw [7,8] (fun vo vi wr=>∃k:Nat,vi=.int .i64 (k:Int)/\k<=n/\vo=.int .u64 ((maskN k (fun i=>subS (r.getD i 0) s):Nat):Int)/\Hid (Ext w wr)) (fun _ v _=>n - (intOf v).toNat)
 case atStart=>exact⟨0,rfl,Nat.zero_le _,rfl,Qq Qz⟩
 case round =>
  obtain⟨k,rfl,hk,rfl,HX⟩:=hrel;obtain⟨m,hm⟩:∃m,m=maskN k (fun i=>subS (r.getD i 0) s):=⟨_,rfl⟩;have HM:=Qq hm;rw [<-hm];clear hm;by_cases hlt2:k < n
  ·have hk1:(k:Int) < (n:Int):=by omega
   have hk2:(k:Int) < (r.length:Int):=by omega
   have hk64:k < 64:=by omega
   have hmin:min k 64=k:=by omega
   obtain⟨ad,rfl,hadl,hc⟩:=HL.out k (by omega);have a0:=(HX.out.cell (p:=ad.add k) (Qj hadl)).trans hc;have al:(ad.add k).block < wr.heap.size:=by rw [block_of_add];exact Qy hadl HX.out.size
   have hz:=dif_eq_zero (getD_word HWD.out k) HS.out;have HSU:=Qq (mask_succ k (fun i=>subS (r.getD i 0) s));have HOR:=Qq (or_two (s:=m) (k:=k) (by rw [HM.out];exact mask_word (by omega) _) hk64);obtain⟨x,hx⟩:∃x,x=r.getD k 0:=⟨_,rfl⟩;rw [<-hx]at a0 hz;have HXE:=Qq hx;clear hc hx;cases hd:subS x s
   ·rw [hd]at hz;have HP:=Qq (show maskN (k+1) (fun i=>subS (r.getD i 0) s)=m by rw [HSU.out,<-HXE.out,hd,HM.out];rfl);clear hd;go_wp2_with fail;go_roundw
    case rel=>exact⟨k+1,by go_num,by omega,by rw [HP.out],HX⟩
    case measure=>simp [intOf];omega
   rw [hd]at hz;have HP:=Qq (show maskN (k+1) (fun i=>subS (r.getD i 0) s)=m|||2^k by rw [HSU.out,<-HXE.out,hd,HM.out];rfl);have hor:=HOR.out;clear hd;obtain⟨m2,hm2⟩:∃m2,m2=m|||2^k:=⟨_,rfl⟩;rw [<-hm2]at HP hor;clear hm2;go_wp2_with fail;go_roundw
   case rel=>exact⟨k+1,by go_num,by omega,by rw [HP.out],HX⟩
   case measure=>simp [intOf];omega
  obtain rfl:n=k:=by omega
  go_wp2_with fail;go_ret;exact⟨by rw [show boxN r n s=m from HM.out.symm] <;> rfl,HX.out⟩
def stepP(r:List Nat)(c s v:Nat):Nat:=if s.testBit v then s|||(r.getD v 0&&&c)else s
def passP(r:List Nat)(c n s:Nat):Nat:=(List.range n).foldl (stepP r c) s
def pathsN(r:List Nat)(c n a:Nat):Nat:=(List.range n).foldl (fun s _=>passP r c n s) (r.getD a 0&&&c)
theorem step_word {r:List Nat}(hw:∀s∈r,word s) {c s v:Nat}(hs:word s):word (stepP r c s v):=by
 unfold stepP
 split
 ·exact or_word hs (and_word (getD_word hw v))
 exact hs
theorem fold_snoc {f:Nat->Nat->Nat}(k s:Nat):(List.range (k+1)).foldl f s=f ((List.range k).foldl f s) k:=by
 rw [List.range_succ,List.foldl_append];rfl
theorem fold_word {f:Nat->Nat->Nat}(hf:∀s v,word s->word (f s v))(k s:Nat)(hs:word s):word ((List.range k).foldl f s):=by
 induction k with
 |zero=>exact hs
 |succ k ih=>rw [fold_snoc];exact hf _ _ ih
theorem paths_word {r:List Nat}(hw:∀s∈r,word s)(c n a:Nat):word (pathsN r c n a):=
 fold_word (fun s _ hs=>fold_word (fun _ _ h=>step_word hw h) n s hs) n _ (and_word (getD_word hw a))
theorem paths_any(v:Value)(r:List Nat)(n a c:Nat)(w:World)(h:U64s w v r)(hw:∀s∈r,word s)(hn:n<=64)(hl:n<=r.length)(ha:a < n)(hc:word c):
 Calls Tryz.prog 162 #[v,.int .i64 (n:Int),.int .i64 (a:Int),.int .u64 (c:Int)] w fun e w'=>e=.returned (.int .u64 ((pathsN r c n a:Nat):Int))/\Ext w w':=by
 obtain⟨A,cp,rfl,_,_,HL⟩:=u64_at h;have HWD:=Qq hw;have HC:=Qq hc;have hll:(n:Int)<=(r.length:Int):=by omega
 have ha1:(a:Int) < (r.length:Int):=by omega
 obtain⟨ad,rfl,hadl,hcl⟩:=HL.out a (by omega);have al0:(ad.add a).block < w.heap.size:=by rw [block_of_add];exact hadl
 have hand:=bits_and (getD_word hw a) hc;obtain⟨s0,hs0⟩:∃s,s=r.getD a 0&&&c:=⟨_,rfl⟩;have HS0:=Qq hs0;have HS0W:=Qq (show word s0 by rw [hs0];exact and_word (getD_word hw a));rw [<-hs0]at hand;obtain⟨x,hx⟩:∃x,x=r.getD a 0:=⟨_,rfl⟩;rw [<-hx]at hcl hand;clear h hw hc hs0 hx;go_enter Tryz.func162,Tryz.ntmps162;go_wp2_with fail;clear hcl hand;go_loopw [9,10] (fun vs vi wr=>∃k:Nat,vi=.int .i64 (k:Int)/\k<=n/\∃s:Nat,vs=.int .u64 (s:Int)/\Hid (s=(List.range k).foldl (fun s _=>passP r c n s) s0/\Ext w wr)) (fun _ v _=>n - (intOf v).toNat)
 case atStart=>exact⟨0,rfl,Nat.zero_le _,s0,rfl,Qq ⟨rfl,Qz⟩⟩
 case round =>
  obtain⟨k,rfl,hk,s,rfl,HREL⟩:=hrel;have HSE:=Qq HREL.out.1;have HX:=Qq HREL.out.2;have HSW:=Qq (show word s by rw [HSE.out];exact fold_word (fun s _ hs=>fold_word (fun _ _ h=>step_word HWD.out h) n s hs) k _ HS0W.out);clear HREL;by_cases hlt2:k < n
  ·have hk1:(k:Int) < (n:Int):=by omega
   go_wp2_with fail;go_loopw [9,11] (fun vs vi wr=>∃q:Nat,vi=.int .i64 (q:Int)/\q<=n/\∃s2:Nat,vs=.int .u64 (s2:Int)/\Hid (s2=(List.range q).foldl (stepP r c) s/\Ext w wr)) (fun _ v _=>n - (intOf v).toNat)
   case atStart=>exact⟨0,rfl,Nat.zero_le _,s,rfl,Qq ⟨rfl,HX.out⟩⟩
   case round =>
    clear HX;obtain⟨q,rfl,hq,s2,rfl,HREL⟩:=hrel;have HSE2:=Qq HREL.out.1;have HX:=Qq HREL.out.2;have HSW2:=Qq (show word s2 by rw [HSE2.out];exact fold_word (fun _ _ h=>step_word HWD.out h) q _ HSW.out);clear HREL;by_cases hlt3:q < n
    ·have hq1:(q:Int) < (n:Int):=by omega
     have hq2:(q:Int) < (r.length:Int):=by omega
     have hq64:q < 64:=by omega
     obtain⟨ad2,e2,hadl2,hc2⟩:=HL.out q (by omega);injection e2 with e2;subst e2;have a0:=(HX.out.cell (p:=ad.add q) (Qj hadl2)).trans hc2;have al:(ad.add q).block < wr.heap.size:=by rw [block_of_add];exact Qy hadl2 HX.out.size
     have hand:=bits_and (getD_word HWD.out q) HC.out;have hor:=bits_or HSW2.out (and_word (b:=c) (getD_word HWD.out q));have HST:=Qq (show(List.range (q+1)).foldl (stepP r c) s=if s2.testBit q then s2|||(r.getD q 0&&&c)else s2 by rw [fold_snoc,<-HSE2.out];rfl);obtain⟨y,hy⟩:∃y,y=r.getD q 0:=⟨_,rfl⟩;rw [<-hy]at a0 hand hor HST;obtain⟨z,hz⟩:∃z,z=y&&&c:=⟨_,rfl⟩;rw [<-hz]at hand hor HST;obtain⟨u,hu⟩:∃u,u=s2|||z:=⟨_,rfl⟩;rw [<-hu]at hor HST;clear hc2 hadl2 hy hz hu;obtain⟨tb,htb⟩:∃t,t=s2.testBit q:=⟨_,rfl⟩;have HTB:=Qq htb;rw [<-htb]at HST;clear htb;go_wp2_with fail;refine(rHas13_any s2 q _ hq64).mono ?_;rintro e w4 ⟨rfl,rfl⟩
     rw [<-HTB.out];cases tb
     ·go_wp2_with fail;go_roundw
      case rel=>exact⟨q+1,by go_num,by omega,s2,rfl,Qq ⟨by rw [HST.out];rfl,HX.out⟩⟩
      case measure=>simp [intOf];omega
     go_wp2_with fail;go_roundw
     case rel=>exact⟨q+1,by go_num,by omega,u,rfl,Qq ⟨by rw [HST.out];rfl,HX.out⟩⟩
     case measure=>simp [intOf];omega
    obtain rfl:n=q:=by omega
    have HST:=Qq (show(List.range (k+1)).foldl (fun s _=>passP r c n s) s0=s2 by rw [fold_snoc (f:=fun s _=>passP r c n s),<-HSE.out,HSE2.out];rfl);go_wp2_with fail;go_roundw
    case rel=>exact⟨k+1,by go_num,by omega,s2,rfl,Qq ⟨HST.out.symm,HX.out⟩⟩
    case measure=>simp [intOf];omega
  obtain rfl:n=k:=by omega
  have HE:=Qq (show pathsN r c n a=s by rw [HSE.out,HS0.out];rfl);go_wp2_with fail;go_ret;exact⟨by rw [HE.out] <;> rfl,HX.out⟩
def commonM(r:List Nat)(n c s:Nat):Nat:=maskN n fun i=>subS (pathsN r c n i) s
theorem common17_any(v:Value)(r:List Nat)(n c s:Nat)(w:World)(h:U64s w v r)(hw:∀s∈r,word s)(hn:n<=64)(hl:n<=r.length)(hc:word c)(hs:word s):
 Calls Tryz.prog 146 #[v,.int .i64 (n:Int),.int .u64 (c:Int),.int .u64 (s:Int)] w fun e w'=>e=.returned (.int .u64 ((commonM r n c s:Nat):Int))/\Ext w w':=by
 have H:=Qq h;have HWD:=Qq hw;have HS:=Qq hs;have HC:=Qq hc;obtain⟨A,cp,rfl,_⟩:=h;clear hw hs hc;go_enter Tryz.func146,Tryz.ntmps146;go_wp2_with fail;go_loopw [9,10] (fun vo vi wr=>∃k:Nat,vi=.int .i64 (k:Int)/\k<=n/\vo=.int .u64 ((maskN k (fun i=>subS (pathsN r c n i) s):Nat):Int)/\Hid (Ext w wr)) (fun _ v _=>n - (intOf v).toNat)
 case atStart=>exact⟨0,rfl,Nat.zero_le _,rfl,Qq Qz⟩
 case round =>
  obtain⟨k,rfl,hk,rfl,HX⟩:=hrel;obtain⟨m,hm⟩:∃m,m=maskN k (fun i=>subS (pathsN r c n i) s):=⟨_,rfl⟩;have HM:=Qq hm;rw [<-hm];clear hm;by_cases hlt2:k < n
  ·have hk1:(k:Int) < (n:Int):=by omega
   have hk64:k < 64:=by omega
   have hmin:min k 64=k:=by omega
   have hz:=dif_eq_zero (paths_word HWD.out c n k) HS.out;have HSU:=Qq (mask_succ k (fun i=>subS (pathsN r c n i) s));have HOR:=Qq (or_two (s:=m) (k:=k) (by rw [HM.out];exact mask_word (by omega) _) hk64);obtain⟨x,hx⟩:∃x,x=pathsN r c n k:=⟨_,rfl⟩;rw [<-hx]at hz;have HXE:=Qq hx;clear hx;go_wp2_with fail;refine(paths_any _ r n k c _ (H.out.ext HX.out) HWD.out hn hl hlt2 HC.out).mono ?_;rintro e w4 ⟨rfl,hx4⟩;rw [<-HXE.out];have HX4:=Qq (HX.out.trans hx4);clear hx4;cases hd:subS x s
   ·rw [hd]at hz;have HP:=Qq (show maskN (k+1) (fun i=>subS (pathsN r c n i) s)=m by rw [HSU.out,<-HXE.out,hd,HM.out];rfl);clear hd;go_wp2_with fail;go_roundw
    case rel=>exact⟨k+1,by go_num,by omega,by rw [HP.out],HX4⟩
    case measure=>simp [intOf];omega
   rw [hd]at hz;have HP:=Qq (show maskN (k+1) (fun i=>subS (pathsN r c n i) s)=m|||2^k by rw [HSU.out,<-HXE.out,hd,HM.out];rfl);have hor:=HOR.out;clear hd;obtain⟨m2,hm2⟩:∃m2,m2=m|||2^k:=⟨_,rfl⟩;rw [<-hm2]at HP hor;clear hm2;go_wp2_with fail;go_roundw
   case rel=>exact⟨k+1,by go_num,by omega,by rw [HP.out],HX4⟩
   case measure=>simp [intOf];omega
  obtain rfl:n=k:=by omega
  go_wp2_with fail;go_ret;exact⟨by rw [show commonM r n c s=m from HM.out.symm] <;> rfl,HX.out⟩
def atG(eu:Bool)(w u:Nat):Nat:=bif eu then u else w
def addG(eu:Bool)(out:List Nat)(w u:Nat):Nat:=bif eu then out.getD w 0 else out.getD u 0
def condG(eu:Bool)(out:List Nat)(w u:Nat):Prop:=(out.getD w 0).testBit u=true->subS (addG eu out w u) (out.getD (atG eu w u) 0)=true
def closedG(eu:Bool)(out:List Nat):Prop:=∀w u,w < out.length->u < out.length->condG eu out w u
def zerosG(n:Nat)(out:List Nat):Nat:=(List.range (n*n)).countP fun k=> !(out.getD (k / n) 0).testBit (k % n)
structure GrwI (eu:Bool) (r out:List Nat) (n:Nat):Prop where
 len:out.length=n
 lt:∀i,i < n->out.getD i 0 < 2^n
 same:closedG eu r->out=r
theorem or_sub {a b:Nat} :(a|||b)=a↔subS b a=true:=by
 rw [subS_iff];constructor
 ·intro h i hi;rw [<-h,Nat.testBit_or,hi,Bool.or_true]
 intro h;refine Nat.eq_of_testBit_eq fun i=> ?_
 rw [Nat.testBit_or];cases e:b.testBit i
 ·rw [Bool.or_false]
 rw [h i e];rfl
theorem countP_ltG {α:Type} {p q:α->Bool} :∀{l:List α},(∀x∈l,q x=true->p x=true)->(∃x∈l,p x=true/\q x=false)->l.countP q < l.countP p
 |[],_,h=>by obtain⟨x,hx,_⟩:=h;cases hx
 |a :: l,h,hx=>by
  have hle:l.countP q<=l.countP p:=List.countP_mono_left fun x hx=>h x (List.mem_cons_of_mem _ hx)
  rw [List.countP_cons,List.countP_cons];obtain⟨x,hm,h1,h2⟩:=hx;rcases List.mem_cons.1 hm with rfl|hm
  ·rw [h1,h2];simp;omega
  have ih:=countP_ltG (l:=l) (fun x hx=>h x (List.mem_cons_of_mem _ hx)) ⟨x,hm,h1,h2⟩;have h3:=h a (List.mem_cons_self ..);cases e:q a
  ·cases p a <;> simp <;> omega
  rw [h3 e];simp;omega
section
variable {eu:Bool} {r out:List Nat} {n:Nat}
theorem getD_set {l:List Nat} {i j x:Nat}(hi:i < l.length):(l.set i x).getD j 0=if i=j then x else l.getD j 0:=by
 rw [Qk,List.getElem?_set];by_cases e:i=j
 ·subst e;simp [hi]
 rw [if_neg e,if_neg e,<-Qk]
theorem GrwI.start(hl:r.length=n)(hb:beyondN r n=false):GrwI eu r r n:=by
 refine⟨hl,fun i hi=> ?_,fun _=>rfl⟩;unfold beyondN at hb;rw [List.any_eq_false]at hb;have h1:=hb (r.getD i 0) (by rw [Qk,List.getElem?_eq_getElem (by omega)];exact List.getElem_mem _)
 simpa using h1
theorem GrwI.at_lt(_h:GrwI eu r out n) {w u:Nat}(hw:w < n)(hu:u < n):atG eu w u < n:=by
 unfold atG;cases eu
 ·exact hw
 exact hu
theorem GrwI.add_lt(h:GrwI eu r out n) {w u:Nat}(hw:w < n)(hu:u < n):addG eu out w u < 2^n:=by
 unfold addG;cases eu
 ·exact h.lt u hu
 exact h.lt w hw
theorem GrwI.step(h:GrwI eu r out n) {w u:Nat}(hw:w < n)(hu:u < n)(hb:(out.getD w 0).testBit u=true)(hne:(out.getD (atG eu w u) 0|||addG eu out w u)≠out.getD (atG eu w u) 0):
 GrwI eu r (out.set (atG eu w u) (out.getD (atG eu w u) 0|||addG eu out w u)) n/\zerosG n (out.set (atG eu w u) (out.getD (atG eu w u) 0|||addG eu out w u)) < zerosG n out:=by
 have ha:=h.at_lt hw hu;have hal:atG eu w u < out.length:=by rw [h.len];exact ha
 refine⟨⟨by rw [List.length_set];exact h.len,fun i hi=> ?_,fun hc=> ?_⟩,?_⟩
 ·rw [getD_set hal]
  split
  ·exact Nat.or_lt_two_pow (h.lt _ ha) (h.add_lt hw hu)
  exact h.lt i hi
 ·exfalso
  have e:=h.same hc;subst e;exact hne (or_sub.2 (hc w u (by rw [h.len];exact hw) (by rw [h.len];exact hu) hb))
 have hnn:0 < n:=by omega
 obtain⟨j,hj1,hj2⟩:∃j,(addG eu out w u).testBit j=true/\(out.getD (atG eu w u) 0).testBit j=false:=by
  apply Classical.byContradiction;intro hno;refine hne (or_sub.2 (subS_iff.2 fun i hi=> ?_));cases e:(out.getD (atG eu w u) 0).testBit i
  ·exact absurd ⟨i,hi,e⟩ hno
  rfl
 have hjn:=bit_lt (h.add_lt hw hu) hj1;unfold zerosG;refine countP_ltG (fun k hk hq=> ?_) ⟨atG eu w u*n+j,?_,?_,?_⟩
 ·rw [getD_set hal]at hq
  split at hq
  ·rename_i e;rw [<-e];rw [Nat.testBit_or]at hq
   revert hq
   cases(out.getD (atG eu w u) 0).testBit (k % n) <;> simp
  exact hq
 ·rw [List.mem_range]
  calc atG eu w u*n+j < atG eu w u*n+n:=by omega
   _=(atG eu w u+1)*n:=by rw [Nat.succ_mul]
   _<=n*n:=Nat.mul_le_mul_right n ha
 ·rw [Nat.mul_comm,Nat.mul_add_div hnn,Nat.div_eq_of_lt hjn,Nat.add_zero,Nat.mul_add_mod,Nat.mod_eq_of_lt hjn,hj2];rfl
 rw [Nat.mul_comm,Nat.mul_add_div hnn,Nat.div_eq_of_lt hjn,Nat.add_zero,Nat.mul_add_mod,Nat.mod_eq_of_lt hjn,getD_set hal,if_pos rfl,Nat.testBit_or,hj1,Bool.or_true];rfl
theorem cond_keep {w u:Nat}(h:(out.getD (atG eu w u) 0|||addG eu out w u)=out.getD (atG eu w u) 0):condG eu out w u:=fun _=>or_sub.1 h
theorem cond_no {w u:Nat}(h:(out.getD w 0).testBit u=false):condG eu out w u:=fun e=>by rw [h]at e;cases e
theorem GrwI.done(h:GrwI eu r out n)(hl:r.length=n)(hc:∀w,w < n->∀u,u < n->condG eu out w u):out=r↔closedG eu r:=by
 constructor
 ·rintro rfl w u hw hu;rw [hl]at hw hu;exact hc w hw u hu
 exact h.same
end
theorem same_list {a b:List Nat}(hl:a.length=b.length)(h:∀k,k < a.length->a.getD k 0=b.getD k 0):a=b:=by
 refine List.ext_getElem hl fun i h1 h2=> ?_
 have:=h i h1;rw [Qk,Qk,Qv h1,Qv h2]at this;exact this
theorem same02_any(va vb:Value)(a b:List Nat)(w:World)(ha:U64s w va a)(hb:U64s w vb b):
 Calls Tryz.prog 141 #[va,vb] w fun e w'=>e=.returned (.bool (decide (a=b)))/\Ext w w':=by
 obtain⟨Aa,ca,rfl,hca1,hca2,HA⟩:=u64_at ha;unfold maxLen at hca2;obtain⟨Ab,cb,rfl,_,_,HB⟩:=u64_at hb;clear ha hb;by_cases hl:a.length=b.length
 ·have HL:=Qq hl;obtain⟨n,hn⟩:∃n,n=a.length:=⟨_,rfl⟩;have HNA:=Qq hn;rw [<-hn]at hl HA hca1⊢;rw [<-hl]at HB⊢;have hnn:((n:Int) !=(n:Int))=false:=by simp
  clear hn hl;go_enter Tryz.func141,Tryz.ntmps141;go_wp2_with fail;go_loopw [5] (fun v wr=>∃k:Nat,v=.int .i64 (k:Int)/\k<=n/\Hid (Ext w wr/\∀j,j < k->a.getD j 0=b.getD j 0)) (fun v _=>n - (intOf v).toNat)
  case atStart=>exact⟨0,rfl,Nat.zero_le _,Qq ⟨Qz,fun j hj=>absurd hj (by omega)⟩⟩
  case round =>
   obtain⟨k,rfl,hk,HREL⟩:=hrel;have HX:=Qq HREL.out.1;have HJ:=Qq HREL.out.2;clear HREL;by_cases hlt2:k < n
   ·have hk1:(k:Int) < (n:Int):=by omega
    obtain⟨ad,rfl,hadl,hc⟩:=HA.out k hlt2;obtain⟨bd,rfl,hbdl,hd⟩:=HB.out k hlt2;have a0:=(HX.out.cell (p:=ad.add k) (Qj hadl)).trans hc;have al:(ad.add k).block < wr.heap.size:=by rw [block_of_add];exact Qy hadl HX.out.size
    have b0:=(HX.out.cell (p:=bd.add k) (Qj hbdl)).trans hd;have bl:(bd.add k).block < wr.heap.size:=by rw [block_of_add];exact Qy hbdl HX.out.size
    have HNX:=Qq (show a.getD k 0=b.getD k 0->∀j,j < k+1->a.getD j 0=b.getD j 0 from fun h=>upto2 (P:=fun j=>a.getD j 0=b.getD j 0) HJ.out h);have HHT:=Qq (show a.getD k 0≠b.getD k 0->decide (a=b)=false from fun h=>decide_eq_false fun e=>h (by rw [e]));obtain⟨x,hx⟩:∃x,x=a.getD k 0:=⟨_,rfl⟩;obtain⟨y,hy⟩:∃y,y=b.getD k 0:=⟨_,rfl⟩;rw [<-hx]at a0 HNX HHT;rw [<-hy]at b0 HNX HHT;clear hc hd hx hy;go_upto_region 6 with(fail);by_cases hq:x=y
    ·have HP:=Qq (HNX.out hq);have hne:((x:Int) !=(y:Int))=false:=by rw [hq];simp
     clear hq;refine wp_region_held_drew (S:=fun w'=>w'.cell? (ad.add k)=some (.int .u64 (x:Int))/\w'.cell? (bd.add k)=some (.int .u64 (y:Int))) (by kernel_rfl) ⟨xc al a0,xc bl b0⟩ (fun hHeld=> ?_);refine tk 0 hHeld ?_;refine tk 1 hHeld ?_;refine tk 2 hHeld ?_;refine tk 3 hHeld ?_;refine tk 4 hHeld ?_;refine tk 5 hHeld ?_;refine tk 6 hHeld ?_;refine tk 7 hHeld ?_;refine tk 8 hHeld ?_;refine wpAnyH_done (by kernel_rfl) ?_ _;go_wp2_with fail;go_roundw
     case rel=>exact⟨k+1,by go_num,by omega,Qq ⟨HX.out.trans Qz.drew,HP.out⟩⟩
     case measure=>simp [intOf];omega
    have HE:=Qq (HHT.out hq);have hne:((x:Int) !=(y:Int))=true:=by simp;omega
    clear hq;refine wp_region_held_drew (S:=fun w'=>w'.cell? (ad.add k)=some (.int .u64 (x:Int))/\w'.cell? (bd.add k)=some (.int .u64 (y:Int))) (by kernel_rfl) ⟨xc al a0,xc bl b0⟩ (fun hHeld=> ?_);refine tk 0 hHeld ?_;refine tk 1 hHeld ?_;refine tk 2 hHeld ?_;refine tk 3 hHeld ?_;refine tk 4 hHeld ?_;refine tk 5 hHeld ?_;refine tk 6 hHeld ?_;refine tk 7 hHeld ?_;refine tk 8 hHeld ?_;refine wpAnyH_done (by kernel_rfl) ?_ _;go_wp2_with fail;go_ret;exact⟨by rw [HE.out] <;> rfl,HX.out.trans Qz.drew⟩
   obtain rfl:n=k:=by omega
   have HE:=Qq (show decide (a=b)=true from decide_eq_true (same_list HL.out (by rw [<-HNA.out];exact HJ.out)));go_wp2_with fail;go_ret;exact⟨by rw [HE.out] <;> rfl,HX.out⟩
 have hne:((a.length:Int) !=(b.length:Int))=true:=by simp;omega
 have HE:=Qq (show decide (a=b)=false from decide_eq_false fun e=>hl (by rw [e]));go_enter Tryz.func141,Tryz.ntmps141;go_wp2_with fail;go_ret;exact⟨by rw [HE.out] <;> rfl,Qz⟩
def reflK(l:List Nat)(k:Nat):List Nat:=(List.range l.length).map fun i=>if i < k then l.getD i 0|||2^i else l.getD i 0
theorem reflK_zero(l:List Nat):reflK l 0=l:=by
 refine List.ext_getElem (by simp [reflK]) fun i h1 h2=> ?_
 simp [reflK,h2]
theorem reflK_len(l:List Nat)(k:Nat):(reflK l k).length=l.length:=by simp [reflK]
theorem reflK_get {l:List Nat} {k i:Nat}(hi:i < l.length):(reflK l k).getD i 0=if i < k then l.getD i 0|||2^i else l.getD i 0:=by
 unfold reflK;rw [Qk,List.getElem?_map,List.getElem?_range hi];rfl
theorem reflK_step {l:List Nat} {k:Nat}(hk:k < l.length):(reflK l k).set k (l.getD k 0|||2^k)=reflK l (k+1):=by
 refine same_list (by rw [List.length_set,reflK_len,reflK_len]) fun i hi=> ?_
 rw [List.length_set,reflK_len]at hi;rw [getD_set (by rw [reflK_len];exact hk),reflK_get hi,reflK_get hi];by_cases e:k=i
 ·subst e;rw [if_pos rfl,if_pos (Nat.lt_succ_self _)]
 rw [if_neg e];by_cases h:i < k
 ·rw [if_pos h,if_pos (show i < k+1 by omega)]
 rw [if_neg h,if_neg (show ¬i < k+1 by omega)]
def reflP(l:List Nat):Prop:=∀i,i < l.length->(l.getD i 0).testBit i=true
theorem refl_same {l:List Nat} :reflK l l.length=l↔reflP l:=by
 constructor
 ·intro h i hi;have h1:=reflK_get (k:=l.length) hi;rw [h,if_pos hi]at h1;have:=(or_sub.1 h1.symm);rw [subS_iff]at this;exact this i (by rw [Nat.testBit_two_pow];simp)
 intro h;refine same_list (reflK_len _ _) fun i hi=> ?_
 rw [reflK_len]at hi;rw [reflK_get hi,if_pos hi,or_sub,subS_iff];intro j hj;rw [Nat.testBit_two_pow]at hj;have:i=j:=by simpa using hj
 rw [<-this];exact h i hi
theorem reflexive02_any(v:Value)(l:List Nat)(w:World)(h:U64s w v l)(hw:∀s∈l,word s)(hv:valid02 l=true)(h0:0 < l.length):
 Calls Tryz.prog 137 #[v] w fun e w'=>∃u,e=.returned (.tuple #[u,.int .i64 0])/\Ext w w'/\MadeU w.heap.size w' u (reflK l l.length):=by
 have H:=Qq h;have HW:=Qq hw;have hl64:=(valid_iff.1 hv).1;have HV:=Qq (show check02 l.length l=0 by unfold valid02 at hv;simpa using hv);obtain⟨A,c,rfl,_,_,HL⟩:=u64_at h;obtain⟨iU,hiU,hzU0,hzU1,hzU2⟩:=info_parts tInfoU8;clear h hw hv;go_enter Tryz.func137,Tryz.ntmps137;go_wp2_with fail;refine(check02_any _ l _ H.out HW.out).mono ?_;rintro e w2 ⟨rfl,hx2⟩;rw [HV.out];have HX2:=Qq hx2;clear hx2;obtain⟨ad,rfl,hadl,_⟩:=HL.out 0 h0;have HNEW:=Qq (show ∀(j:Nat) u,(uV l)[j]?=some u->(w2.alloc (.cells #[] 40)).cell? (ad.add j)=some u from row_of_u64 fun i hi=>by
  obtain⟨ad2,e,_,hc⟩:=HL.out i hi;injection e with e;subst e;exact((HX2.out.alloc _).cell (p:=ad.add i) (Qj hadl)).trans hc)
 have HRE:=Qq (row_empty w2 40);obtain⟨n,hn⟩:∃n,n=l.length:=⟨_,rfl⟩;have HN:=Qq hn;rw [<-hn]at hl64 h0⊢;have hm1:0+n<=maxLen:=by unfold maxLen;omega
 have hm2:(0+n)*8<=140737488355328:=by omega
 clear hn;go_wp2_with(at_builtin;refine wpList_append_own_at _ rfl _ _ 27 rfl w2.heap.size 40 iU (.int .u64 0) 1 8 Tryz.underlying27 hiU hzU0 hzU1 hzU2 rfl (by decide) _ 0 [] rfl HRE.out ad n c (uV l) rfl (by rw [uv_len,Nat.mul_one];exact HN.out.symm) HNEW.out (uv_one l) hm1 hm2 (by simp) ?_);intro v3 w3 hown3 hgrow3 _ _;have HX3:=Qq (show Ext w w3 from(HX2.out.alloc _).grown hgrow3 (fun k hk=>by have h1:=HX2.out.size;have h2:w2.heap.size=k:=Option.some.inj hk;omega));have HM:=Qq (show MadeU w.heap.size w3 v3 l by
  unfold MadeU;rw [<-HN.out];exact row_base hown3 HX2.out.size)
 clear hown3 hgrow3;obtain⟨g,cap,rfl,hgl,hgb,_,hcm,_,_⟩:=HM.out.slice (by rw [<-HN.out];exact h0);rw [<-HN.out]at HM⊢;clear hgl;go_wp2_with fail;go_loopw [6] (fun v wr=>∃k:Nat,v=.int .i64 (k:Int)/\k<=n/\Hid (Ext w wr/\MadeU w.heap.size wr (.slice (some ⟨g,0,none⟩) n cap) (reflK l k))) (fun v _=>n - (intOf v).toNat)
 case atStart=>exact⟨0,rfl,Nat.zero_le _,Qq ⟨HX3.out,by rw [reflK_zero];exact HM.out⟩⟩
 case round =>
  obtain⟨k,rfl,hk,HREL⟩:=hrel;have HX:=Qq HREL.out.1;have HR:=Qq HREL.out.2;clear HREL;by_cases hlt2:k < n
  ·have hk1:(k:Int) < (n:Int):=by omega
   have hk64:k < 64:=by omega
   have hmin:min k 64=k:=by omega
   obtain⟨_,gl,_,_,_,hcell,hfr⟩:=HR.out.at_ (by rw [reflK_len,<-HN.out];exact h0);have gc:=hcell k (by rw [reflK_len,<-HN.out];exact hlt2);have gf:=hfr k;rw [reflK_get (by rw [<-HN.out];exact hlt2),if_neg (Nat.lt_irrefl _)]at gc;obtain⟨y,hy⟩:∃y,y=l.getD k 0|||2^k:=⟨_,rfl⟩;have hor:bits .or .u64 ((l.getD k 0:Nat):Int) (IntKind.u64.wrap ((2:Int)^k))=(y:Int):=by
    rw [wrap_two hk64,hy];exact bits_or (getD_word HW.out k) (Qy (Nat.pow_lt_pow_right (by decide) (Nat.lt_succ_self k)) (two64 (show k+1<=64 by omega)))
   have HST:=Qq (show MadeU w.heap.size (wr.setCell ⟨g,k,none⟩ (.int .u64 (y:Int))) (.slice (some ⟨g,0,none⟩) n cap) (reflK l (k+1)) by
    rw [<-reflK_step (by rw [<-HN.out];exact hlt2),<-hy];exact HR.out.set (by rw [reflK_len];exact HN.out.symm) k y)
   obtain⟨x,hx⟩:∃x,x=l.getD k 0:=⟨_,rfl⟩;rw [<-hx]at gc hor;clear hcell hfr hx hy;go_wp2_with fail;go_roundw
   case rel=>exact⟨k+1,by go_num,by omega,Qq ⟨HX.out.setCell (p:=⟨g,k,none⟩) hgb _,HST.out⟩⟩
   case measure=>simp [intOf];omega
  obtain rfl:n=k:=by omega
  go_wp2_with fail;go_ret2;exact⟨_,rfl,HX.out,by rw [<-HN.out];exact HR.out⟩
def zerosW(w:World)(g n:Nat):Nat:=(List.range (n*n)).countP fun k=>match w.cell? ⟨g,k / n,none⟩with|some (.int _ z)=> !z.toNat.testBit (k % n)|_=>true
def flagB(v:Value):Nat:=match v with| .bool true=>1|_=>0
theorem zerosW_row {bs g n cap:Nat} {w:World} {l:List Nat}(h:MadeU bs w (.slice (some ⟨g,0,none⟩) n cap) l)(h0:0 < l.length):zerosW w g n=zerosG n l:=by
 obtain⟨hn,_,_,_,_,hc,_⟩:=h.at_ h0;unfold zerosW zerosG;refine List.countP_congr fun k hk=> ?_
 have hk2:k / n < l.length:=by
  rw [<-hn];have:=List.mem_range.1 hk;exact Nat.div_lt_of_lt_mul this
 rw [hc _ hk2];show(!((l.getD (k / n) 0:Nat):Int).toNat.testBit (k % n))=true↔_;rw [Int.toNat_natCast]
structure GwS (eu:Bool) (w wr:World) (g cap n:Nat) (r out:List Nat):Prop where
 ext:Ext w wr
 row:MadeU w.heap.size wr (.slice (some ⟨g,0,none⟩) n cap) out
 grw:GrwI eu r out n
theorem grow_any(eu:Bool)(v:Value)(r:List Nat)(w:World)(h:U64s w v r)(hl64:r.length<=64)(hb:beyondN r r.length=false)(h0:0 < r.length):
 Calls Tryz.prog 160 #[v,.bool eu] w fun e w'=>∃u,e=.returned u/\Ext w w'/\∃out,MadeU w.heap.size w' u out/\(out=r↔closedG eu r):=by
 obtain⟨A,c,rfl,_,_,HL⟩:=u64_at h;obtain⟨iU,hiU,hzU0,hzU1,hzU2⟩:=info_parts tInfoU8;clear h;obtain⟨ad,rfl,hadl,_⟩:=HL.out 0 h0;have HNEW:=Qq (show ∀(j:Nat) u,(uV r)[j]?=some u->(w.alloc (.cells #[] 40)).cell? (ad.add j)=some u from row_of_u64 fun i hi=>by
  obtain⟨ad2,e,_,hc⟩:=HL.out i hi;injection e with e;subst e;exact(((Ext.refl w).alloc _).cell (p:=ad.add i) (Qj hadl)).trans hc)
 have HRE:=Qq (row_empty w 40);have HG0:=Qq (GrwI.start (eu:=eu) (r:=r) rfl hb);obtain⟨n,hn⟩:∃n,n=r.length:=⟨_,rfl⟩;have HN:=Qq hn;rw [<-hn]at hl64 h0 HG0⊢;have hm1:0+n<=maxLen:=by unfold maxLen;omega
 have hm2:(0+n)*8<=140737488355328:=by omega
 clear hn hb;go_enter Tryz.func160,Tryz.ntmps160;go_wp2_with(at_builtin;refine wpList_append_own_at _ rfl _ _ 27 rfl w.heap.size 40 iU (.int .u64 0) 1 8 Tryz.underlying27 hiU hzU0 hzU1 hzU2 rfl (by decide) _ 0 [] rfl HRE.out ad n c (uV r) rfl (by rw [uv_len,Nat.mul_one];exact HN.out.symm) HNEW.out (uv_one r) hm1 hm2 (by simp) ?_);intro v3 w3 hown3 hgrow3 _ _;have HX3:=Qq (show Ext w w3 from((Ext.refl w).alloc _).grown hgrow3 (fun k hk=>by have h2:w.heap.size=k:=Option.some.inj hk;omega));have HM:=Qq (show MadeU w.heap.size w3 v3 r by
  unfold MadeU;rw [<-HN.out];exact hown3)
 clear hown3 hgrow3;obtain⟨g,cap,rfl,hgl,hgb,_,hcm,_,_⟩:=HM.out.slice (by rw [<-HN.out];exact h0);rw [<-HN.out]at HM⊢;have HS0:=Qq (show GwS eu w w3 g cap n r r from⟨HX3.out,HM.out,HG0.out⟩);have hn62:n<=64:=hl64;clear hgl HM HX3 HG0;go_wp2_with fail;go_loopw [6] (fun vc wr=>∃fl:Bool,vc=.bool fl/\Hid (∃out,GwS eu w wr g cap n r out/\(fl=false->∀a,a < n->∀b,b < n->condG eu out a b))) (fun vc wr=>2*zerosW wr g n+flagB vc)
 case atStart=>exact⟨true,rfl,Qq ⟨r,HS0.out,fun e=>by cases e⟩⟩
 case round =>
  clear HS0;obtain⟨fl,rfl,HREL⟩:=hrel;obtain⟨out0,hs0,hc0⟩:=HREL.out;have HS0:=Qq hs0;have HC0:=Qq hc0;clear HREL hs0 hc0;cases fl
  ·have HD:=Qq (HS0.out.grw.done HN.out.symm (HC0.out (by trivial)));go_wp2_with fail;go_ret
   first
   |exact⟨_,rfl,HS0.out.ext,out0,HS0.out.row,HD.out⟩
   |exact⟨HS0.out.ext,out0,HS0.out.row,HD.out⟩
  have HZ0:=Qq (zerosW_row HS0.out.row (by rw [HS0.out.grw.len];exact h0));obtain⟨wp,hwp⟩:∃v,v=wr:=⟨_,rfl⟩;subst hwp;go_wp2_with fail;go_loopw [6,7] (fun vc vi wr=>∃a:Nat,vi=.int .i64 (a:Int)/\a<=n/\∃fl:Bool,vc=.bool fl/\Hid (∃out,GwS eu w wr g cap n r out/\(fl=false->∀a',a' < a->∀b,b < n->condG eu out a' b)/\zerosG n out<=zerosG n out0/\(fl=true->zerosG n out < zerosG n out0))) (fun _ vi _=>n - (intOf vi).toNat)
  case atStart=>exact⟨0,rfl,Nat.zero_le _,false,rfl,Qq ⟨out0,HS0.out,(fun _ a' ha'=>absurd ha' (by omega)),Nat.le_refl _,fun e=>by cases e⟩⟩
  case round =>
   obtain⟨a,rfl,ha,fl,rfl,HREL⟩:=hrel;by_cases hlt2:a < n
   ·have hk1:(a:Int) < (n:Int):=by omega
    obtain⟨wq,hwq⟩:∃v,v=wr:=⟨_,rfl⟩;subst hwq;go_wp2_with fail;go_loopw [6,8] (fun vc vi wr=>∃b:Nat,vi=.int .i64 (b:Int)/\b<=n/\∃fl:Bool,vc=.bool fl/\Hid (∃out,GwS eu w wr g cap n r out/\(fl=false->(∀a',a' < a->∀b,b < n->condG eu out a' b)/\∀b',b' < b->condG eu out a b')/\zerosG n out<=zerosG n out0/\(fl=true->zerosG n out < zerosG n out0))) (fun _ vi _=>n - (intOf vi).toNat)
    case atStart =>
     obtain⟨out,h1,h2,h3,h4⟩:=HREL.out;exact⟨0,rfl,Nat.zero_le _,fl,rfl,Qq ⟨out,h1,fun e=>⟨h2 e,fun b' hb'=>absurd hb' (by omega)⟩,h3,h4⟩⟩
    case round =>
     clear HREL;obtain⟨b,rfl,hb,fl,rfl,HREL⟩:=hrel;obtain⟨out,hs,hcd,hz1,hz2⟩:=HREL.out;have HS:=Qq hs;have HCD:=Qq hcd;have HZ1:=Qq hz1;have HZ2:=Qq hz2;clear HREL hs hcd hz1 hz2;by_cases hlt3:b < n
     ·have hk2:(b:Int) < (n:Int):=by omega
      have hb64:b < 64:=by omega
      obtain⟨-,gl,-,-,-,hcell,hfr⟩:=HS.out.row.at_ (by rw [HS.out.grw.len];exact h0);have ca:=hcell a (by rw [HS.out.grw.len];exact hlt2);have cb:=hcell b (by rw [HS.out.grw.len];exact hlt3);have HFR:=Qq hfr;have HWA:=Qq (show word (out.getD a 0)from Qy (HS.out.grw.lt a hlt2) (two64 hn62));have HWB:=Qq (show word (out.getD b 0)from Qy (HS.out.grw.lt b hlt3) (two64 hn62));have HNX:=Qq (show condG eu out a b->∀fl:Bool,(fl=false->(∀a',a' < a->∀b,b < n->condG eu out a' b)/\∀b',b' < b->condG eu out a b')->(fl=false->(∀a',a' < a->∀b,b < n->condG eu out a' b)/\∀b',b' < b+1->condG eu out a b')from fun h fl h1 e=>⟨(h1 e).1,upto2 (P:=fun b'=>condG eu out a b') (h1 e).2 h⟩)
      obtain⟨x,hx⟩:∃x,x=out.getD a 0:=⟨_,rfl⟩;obtain⟨y,hy⟩:∃y,y=out.getD b 0:=⟨_,rfl⟩;have HXE:=Qq hx;have HYE:=Qq hy;rw [<-hx]at ca HWA;rw [<-hy]at cb HWB;clear hcell hfr hx hy;obtain⟨tb,htb⟩:∃t,t=x.testBit b:=⟨_,rfl⟩;have HTB:=Qq htb;clear htb;go_wp2_with fail;refine(rIn02_any x b _ hb64 HWA.out).mono ?_;rintro e w4 ⟨rfl,rfl⟩;rw [<-HTB.out];cases tb
      ·have HP:=Qq (HNX.out (cond_no (by rw [<-HXE.out];exact HTB.out.symm)) fl HCD.out);go_wp2_with fail;go_roundw
       case rel=>exact⟨b+1,by go_num,by omega,fl,rfl,Qq ⟨out,HS.out,HP.out,HZ1.out,HZ2.out⟩⟩
       case measure=>simp [intOf];omega
      cases eu
      ·skip
       obtain⟨z,hz⟩:∃z,z=x|||y:=⟨_,rfl⟩;have hor:bits .or .u64 (x:Int) (y:Int)=(z:Int):=by rw [hz];exact bits_or HWA.out HWB.out
       have HZE:=Qq (show z=out.getD (atG false a b) 0|||addG false out a b by rw [hz,HXE.out,HYE.out];rfl);have HATE:=Qq (show x=out.getD (atG false a b) 0 from HXE.out);have gf:=HFR.out a;clear hz;go_upto_region 12 with(fail);refine wp_region_held_drew (S:=fun w'=>w'.cell? (⟨g,a,none⟩)=some (.int .u64 (x:Int))/\w'.cell? (⟨g,b,none⟩)=some (.int .u64 (y:Int))) (by kernel_rfl) ⟨xc gl ca,xc gl cb⟩ (fun hHeld=> ?_);refine tk 0 hHeld ?_;refine tk 1 hHeld ?_;refine tk 2 hHeld ?_;refine tk 3 hHeld ?_;refine tk 4 hHeld ?_;refine tk 5 hHeld ?_;refine tk 6 hHeld ?_;refine wpAnyH_done (by kernel_rfl) ?_ _;obtain⟨W1,hW1⟩:∃v,v=wr.drew:=⟨_,rfl⟩
       have HXW1:=Qq (show Ext wr W1 by rw [hW1];exact Qz.drew);rw [<-hW1];clear hW1;have ca:=(HXW1.out.cell (p:=⟨g,a,none⟩) gl).trans ca;have cb:=(HXW1.out.cell (p:=⟨g,b,none⟩) gl).trans cb;have gf:=(HXW1.out.frozen (p:=⟨g,a,none⟩) gl).trans gf;have gl:=Qy gl HXW1.out.size;go_upto_region 15 with(fail);by_cases hzx:z=x
       ·have hne:((z:Int) !=(x:Int))=false:=by rw [hzx];simp
        have HP:=Qq (HNX.out (cond_keep (by rw [<-HZE.out,<-HATE.out];exact hzx)) fl HCD.out);clear hzx;refine wp_region_held_drew (S:=fun w'=>w'.cell? (⟨g,a,none⟩)=some (.int .u64 (x:Int))/\w'.cell? (⟨g,b,none⟩)=some (.int .u64 (y:Int))) (by kernel_rfl) ⟨xc gl ca,xc gl cb⟩ (fun hHeld=> ?_);refine tk 0 hHeld ?_;refine tk 1 hHeld ?_;refine tk 2 hHeld ?_;refine tk 3 hHeld ?_;refine tk 4 hHeld ?_;refine tk 5 hHeld ?_;refine tk 6 hHeld ?_;refine tk 7 hHeld ?_;refine tk 8 hHeld ?_;refine tk 9 hHeld ?_;refine tk 10 hHeld ?_;refine wpAnyH_done (by kernel_rfl) ?_ _;go_wp2_with fail;go_roundw
        case rel=>exact⟨b+1,by go_num,by omega,fl,rfl,Qq ⟨out,⟨HS.out.ext.trans (HXW1.out.trans Qz.drew),HS.out.row.ext (HXW1.out.trans Qz.drew),HS.out.grw⟩,HP.out,HZ1.out,HZ2.out⟩⟩
        case measure=>simp [intOf];omega
       have hne:((z:Int) !=(x:Int))=true:=by simp;omega
       have HST:=Qq (HS.out.grw.step hlt2 hlt3 (by rw [<-HXE.out];exact HTB.out.symm) (by rw [<-HZE.out,<-HATE.out];exact hzx));rw [<-HZE.out]at HST;clear hzx;refine wp_region_held_drew (S:=fun w'=>w'.cell? (⟨g,a,none⟩)=some (.int .u64 (x:Int))/\w'.cell? (⟨g,b,none⟩)=some (.int .u64 (y:Int))) (by kernel_rfl) ⟨xc gl ca,xc gl cb⟩ (fun hHeld=> ?_);refine tk 0 hHeld ?_;refine tk 1 hHeld ?_;refine tk 2 hHeld ?_;refine tk 3 hHeld ?_;refine tk 4 hHeld ?_;refine tk 5 hHeld ?_;refine tk 6 hHeld ?_;refine tk 7 hHeld ?_;refine tk 8 hHeld ?_;refine tk 9 hHeld ?_;refine tk 10 hHeld ?_;refine wpAnyH_done (by kernel_rfl) ?_ _
       have HXD:=Qq (HXW1.out.trans Qz.drew);have HRW:=Qq (((HS.out.row.ext HXD.out)).set HS.out.grw.len a z);go_wp2_with fail;go_roundw
       case rel=>exact⟨b+1,by go_num,by omega,true,rfl,Qq ⟨_,⟨(HS.out.ext.trans HXD.out).setCell (p:=⟨g,a,none⟩) hgb _,HRW.out,HST.out.1⟩,(fun e=>by cases e),Nat.le_of_lt (Qy HST.out.2 HZ1.out),fun _=>Qy HST.out.2 HZ1.out⟩⟩
       case measure=>simp [intOf];omega
      skip
      obtain⟨z,hz⟩:∃z,z=y|||x:=⟨_,rfl⟩;have hor:bits .or .u64 (y:Int) (x:Int)=(z:Int):=by rw [hz];exact bits_or HWB.out HWA.out
      have HZE:=Qq (show z=out.getD (atG true a b) 0|||addG true out a b by rw [hz,HXE.out,HYE.out];rfl);have HATE:=Qq (show y=out.getD (atG true a b) 0 from HYE.out);have gf:=HFR.out b;clear hz;go_upto_region 12 with(fail);refine wp_region_held_drew (S:=fun w'=>w'.cell? (⟨g,a,none⟩)=some (.int .u64 (x:Int))/\w'.cell? (⟨g,b,none⟩)=some (.int .u64 (y:Int))) (by kernel_rfl) ⟨xc gl ca,xc gl cb⟩ (fun hHeld=> ?_);refine tk 0 hHeld ?_;refine tk 1 hHeld ?_;refine tk 2 hHeld ?_;refine tk 3 hHeld ?_;refine tk 4 hHeld ?_;refine tk 5 hHeld ?_;refine tk 6 hHeld ?_;refine wpAnyH_done (by kernel_rfl) ?_ _;obtain⟨W1,hW1⟩:∃v,v=wr.drew:=⟨_,rfl⟩
      have HXW1:=Qq (show Ext wr W1 by rw [hW1];exact Qz.drew);rw [<-hW1];clear hW1;have ca:=(HXW1.out.cell (p:=⟨g,a,none⟩) gl).trans ca;have cb:=(HXW1.out.cell (p:=⟨g,b,none⟩) gl).trans cb;have gf:=(HXW1.out.frozen (p:=⟨g,b,none⟩) gl).trans gf;have gl:=Qy gl HXW1.out.size;go_upto_region 14 with(fail);refine wp_region_held_drew (S:=fun w'=>w'.cell? (⟨g,a,none⟩)=some (.int .u64 (x:Int))/\w'.cell? (⟨g,b,none⟩)=some (.int .u64 (y:Int))) (by kernel_rfl) ⟨xc gl ca,xc gl cb⟩ (fun hHeld=> ?_);refine tk 0 hHeld ?_;refine tk 1 hHeld ?_;refine tk 2 hHeld ?_;refine tk 3 hHeld ?_;refine tk 4 hHeld ?_;refine tk 5 hHeld ?_
      refine tk 6 hHeld ?_;refine wpAnyH_done (by kernel_rfl) ?_ _;obtain⟨W2,hW2⟩:∃v,v=W1.drew:=⟨_,rfl⟩;have HXW2:=Qq (show Ext W1 W2 by rw [hW2];exact Qz.drew);rw [<-hW2];clear hW2;have ca:=(HXW2.out.cell (p:=⟨g,a,none⟩) gl).trans ca;have cb:=(HXW2.out.cell (p:=⟨g,b,none⟩) gl).trans cb;have gf:=(HXW2.out.frozen (p:=⟨g,b,none⟩) gl).trans gf;have gl:=Qy gl HXW2.out.size;go_upto_region 15 with(fail);by_cases hzx:z=y
      ·have hne:((z:Int) !=(y:Int))=false:=by rw [hzx];simp
       have HP:=Qq (HNX.out (cond_keep (by rw [<-HZE.out,<-HATE.out];exact hzx)) fl HCD.out);clear hzx;refine wp_region_held_drew (S:=fun w'=>w'.cell? (⟨g,a,none⟩)=some (.int .u64 (x:Int))/\w'.cell? (⟨g,b,none⟩)=some (.int .u64 (y:Int))) (by kernel_rfl) ⟨xc gl ca,xc gl cb⟩ (fun hHeld=> ?_);refine tk 0 hHeld ?_;refine tk 1 hHeld ?_;refine tk 2 hHeld ?_;refine tk 3 hHeld ?_;refine tk 4 hHeld ?_;refine tk 5 hHeld ?_;refine tk 6 hHeld ?_;refine tk 7 hHeld ?_;refine tk 8 hHeld ?_;refine tk 9 hHeld ?_;refine tk 10 hHeld ?_;refine wpAnyH_done (by kernel_rfl) ?_ _;go_wp2_with fail;go_roundw
       case rel=>exact⟨b+1,by go_num,by omega,fl,rfl,Qq ⟨out,⟨HS.out.ext.trans ((HXW1.out.trans HXW2.out).trans Qz.drew),HS.out.row.ext ((HXW1.out.trans HXW2.out).trans Qz.drew),HS.out.grw⟩,HP.out,HZ1.out,HZ2.out⟩⟩
       case measure=>simp [intOf];omega
      have hne:((z:Int) !=(y:Int))=true:=by simp;omega
      have HST:=Qq (HS.out.grw.step hlt2 hlt3 (by rw [<-HXE.out];exact HTB.out.symm) (by rw [<-HZE.out,<-HATE.out];exact hzx));rw [<-HZE.out]at HST;clear hzx;refine wp_region_held_drew (S:=fun w'=>w'.cell? (⟨g,a,none⟩)=some (.int .u64 (x:Int))/\w'.cell? (⟨g,b,none⟩)=some (.int .u64 (y:Int))) (by kernel_rfl) ⟨xc gl ca,xc gl cb⟩ (fun hHeld=> ?_);refine tk 0 hHeld ?_;refine tk 1 hHeld ?_;refine tk 2 hHeld ?_;refine tk 3 hHeld ?_;refine tk 4 hHeld ?_;refine tk 5 hHeld ?_;refine tk 6 hHeld ?_;refine tk 7 hHeld ?_;refine tk 8 hHeld ?_;refine tk 9 hHeld ?_;refine tk 10 hHeld ?_;refine wpAnyH_done (by kernel_rfl) ?_ _
      have HXD:=Qq ((HXW1.out.trans HXW2.out).trans Qz.drew);have HRW:=Qq (((HS.out.row.ext HXD.out)).set HS.out.grw.len b z);go_wp2_with fail;go_roundw
      case rel=>exact⟨b+1,by go_num,by omega,true,rfl,Qq ⟨_,⟨(HS.out.ext.trans HXD.out).setCell (p:=⟨g,b,none⟩) hgb _,HRW.out,HST.out.1⟩,(fun e=>by cases e),Nat.le_of_lt (Qy HST.out.2 HZ1.out),fun _=>Qy HST.out.2 HZ1.out⟩⟩
      case measure=>simp [intOf];omega
     obtain rfl:n=b:=by omega
     go_wp2_with fail;go_roundw
     case rel=>exact⟨a+1,by go_num,by omega,fl,rfl,Qq ⟨out,HS.out,(fun e=>upto2 (P:=fun a'=>∀b,b < n->condG eu out a' b) (HCD.out e).1 (HCD.out e).2),HZ1.out,HZ2.out⟩⟩
     case measure=>simp [intOf];omega
   obtain rfl:n=a:=by omega
   obtain⟨out,hs,hcd,hz1,hz2⟩:=HREL.out;have HS:=Qq hs;have HCD:=Qq hcd;have HZ1:=Qq hz1;have HZ2:=Qq hz2;have HZW:=Qq (zerosW_row hs.row (by rw [hs.grw.len];exact h0));clear HREL hs hcd hz1 hz2;go_wp2_with fail;go_roundw
   case rel=>exact⟨fl,rfl,Qq ⟨out,HS.out,HCD.out⟩⟩
   case measure =>
    have h1:=HZ0.out;have h2:=HZW.out;have h3:=HZ1.out;cases fl
    ·show 2*zerosW wr g n+0 < 2*zerosW wp g n+1;omega
    show 2*zerosW wr g n+1 < 2*zerosW wp g n+1;have:=HZ2.out rfl;omega
theorem transitive02_any(v:Value)(l:List Nat)(w:World)(h:U64s w v l)(hw:∀s∈l,word s)(hv:valid02 l=true)(h0:0 < l.length):
 Calls Tryz.prog 139 #[v] w fun e w'=>∃u,e=.returned (.tuple #[u,.int .i64 0])/\Ext w w'/\∃out,MadeU w.heap.size w' u out/\(out=l↔closedG false l):=by
 have H:=Qq h;have HW:=Qq hw;obtain⟨hl64,hby⟩:=valid_iff.1 hv;have HV:=Qq (show check02 l.length l=0 by unfold valid02 at hv;simpa using hv);obtain⟨A,c,rfl,_⟩:=h;clear hw hv;go_enter Tryz.func139,Tryz.ntmps139;go_wp2_with fail;refine(check02_any _ l _ H.out HW.out).mono ?_;rintro e w2 ⟨rfl,hx2⟩;rw [HV.out];have HX2:=Qq hx2;clear hx2;go_wp2_with fail;refine(grow_any false _ l _ (H.out.ext HX2.out) hl64 hby h0).mono ?_;rintro e w3 ⟨u,rfl,hx3,out,hm,hiff⟩;have HX3:=Qq (HX2.out.trans hx3);have HM:=Qq (show MadeU w.heap.size w3 u out from row_base hm HX2.out.size);have HI:=Qq hiff;clear hx3 hm hiff;go_wp2_with fail
 go_ret2;exact⟨u,rfl,HX3.out,out,HM.out,HI.out⟩
theorem euclidean02_any(v:Value)(l:List Nat)(w:World)(h:U64s w v l)(hw:∀s∈l,word s)(hv:valid02 l=true)(h0:0 < l.length):
 Calls Tryz.prog 140 #[v] w fun e w'=>∃u,e=.returned (.tuple #[u,.int .i64 0])/\Ext w w'/\∃out,MadeU w.heap.size w' u out/\(out=l↔closedG true l):=by
 have H:=Qq h;have HW:=Qq hw;obtain⟨hl64,hby⟩:=valid_iff.1 hv;have HV:=Qq (show check02 l.length l=0 by unfold valid02 at hv;simpa using hv);obtain⟨A,c,rfl,_⟩:=h;clear hw hv;go_enter Tryz.func140,Tryz.ntmps140;go_wp2_with fail;refine(check02_any _ l _ H.out HW.out).mono ?_;rintro e w2 ⟨rfl,hx2⟩;rw [HV.out];have HX2:=Qq hx2;clear hx2;go_wp2_with fail;refine(grow_any true _ l _ (H.out.ext HX2.out) hl64 hby h0).mono ?_;rintro e w3 ⟨u,rfl,hx3,out,hm,hiff⟩;have HX3:=Qq (HX2.out.trans hx3);have HM:=Qq (show MadeU w.heap.size w3 u out from row_base hm HX2.out.size);have HI:=Qq hiff;clear hx3 hm hiff;go_wp2_with fail
 go_ret2;exact⟨u,rfl,HX3.out,out,HM.out,HI.out⟩
def checkM(md:Md):Int :=
 if md.n < 1\/64 < md.n then 2 else if 4 < md.rel.length\/8 < md.val.length then 8
 else if md.rel.any (fun r=> !decide ((r.length:Int)=md.n))then 3
 else if beyondN md.val md.n.toNat then 2 else if md.rel.any (fun r=>beyondN r md.n.toNat)then 2 else 0
theorem any_hitR {P:List Nat->Bool} {l:List (List Nat)} {k:Nat}(hk:k < l.length)(h:P (l.getD k [])=true):l.any P=true:=by
 rw [List.any_eq_true];exact⟨l[k],List.getElem_mem hk,by rw [Qk,Qv hk]at h;exact h⟩
theorem any_missR {P:List Nat->Bool} {l:List (List Nat)}(h:∀k,k < l.length->P (l.getD k [])=false):l.any P=false:=by
 rw [List.any_eq_false];intro s hs;obtain⟨k,hk,e⟩:=List.getElem_of_mem hs;have:=h k hk;rw [Qk,Qv hk]at this;have h2:P l[k]=false:=this;rw [e]at h2;rw [h2];simp
theorem cells3y {w:World} {b:Nat} {a0 a1 a2:Value} {t:TypeId}(h:w.heap[b]?=some (.cells #[a0,a1,a2] t (0,0))):w.cell? ⟨b,0,none⟩=some a0/\w.cell? ⟨b,1,none⟩=some a1/\w.cell? ⟨b,2,none⟩=some a2/\b < w.heap.size :=
 ⟨by simp [World.cell?,h],by simp [World.cell?,h],by simp [World.cell?,h],lt_heap h⟩
theorem check13_any(v:Value)(md:Md)(w:World)(h:MdV w v md)(hok:md.ok):
 Calls Tryz.prog 39 #[v] w fun e w'=>e=.returned (.int .i64 (checkM md))/\Ext w w':=by
 obtain⟨vv,vr,rfl,hv,hr⟩:=h;have HV:=Qq hv;have HOK:=Qq hok;obtain⟨Av,cv,rfl,_⟩:=hv;obtain⟨Ar,cr,rfl,_,_,HR⟩:=u64ss_at hr;obtain⟨n,hn⟩:∃n,n=md.n:=⟨_,rfl⟩;have HN:=Qq hn;rw [<-hn];clear hr hok hn;by_cases h1:n < 1
 ·have HE:=Qq (show checkM md=2 by unfold checkM;rw [<-HN.out,if_pos (.inl h1)]);go_enter Tryz.func39,Tryz.ntmps39;go_wp2_with fail;go_ret;exact⟨by rw [HE.out] <;> rfl,Qz.alloc _⟩
 by_cases h64:64 < n
 ·have HE:=Qq (show checkM md=2 by unfold checkM;rw [<-HN.out,if_pos (.inr h64)]);go_enter Tryz.func39,Tryz.ntmps39;go_wp2_with fail;go_ret;exact⟨by rw [HE.out] <;> rfl,Qz.alloc _⟩
 obtain⟨m,rfl⟩:=Int.eq_ofNat_of_zero_le (show 0<=n by omega);have hm64:m<=64:=by omega
 have HCM:=Qq (show checkM md=if 4 < md.rel.length\/8 < md.val.length then 8 else if md.rel.any (fun r=> !decide ((r.length:Int)=(m:Int)))then 3 else if beyondN md.val m then 2 else if md.rel.any (fun r=>beyondN r m)then 2 else 0 by unfold checkM;rw [<-HN.out,if_neg (by omega)];rfl);by_cases hr4:4 < md.rel.length
 ·have HE:=Qq (show checkM md=8 by rw [HCM.out,if_pos (.inl hr4)]);have hi:(4:Int) < (md.rel.length:Int):=by omega
  go_enter Tryz.func39,Tryz.ntmps39;go_wp2_with fail;go_ret;exact⟨by rw [HE.out] <;> rfl,Qz.alloc _⟩
 have hi4:¬(4:Int) < (md.rel.length:Int):=by omega
 by_cases hv8:8 < md.val.length
 ·have HE:=Qq (show checkM md=8 by rw [HCM.out,if_pos (.inr hv8)]);have hi:(8:Int) < (md.val.length:Int):=by omega
  go_enter Tryz.func39,Tryz.ntmps39;go_wp2_with fail;go_ret;exact⟨by rw [HE.out] <;> rfl,Qz.alloc _⟩
 have hi8:¬(8:Int) < (md.val.length:Int):=by omega
 have HC2:=Qq (show checkM md=if md.rel.any (fun r=> !decide ((r.length:Int)=(m:Int)))then 3 else if beyondN md.val m then 2 else if md.rel.any (fun r=>beyondN r m)then 2 else 0 by rw [HCM.out,if_neg (by omega)]);obtain⟨rl,hrl⟩:∃l,l=md.rel:=⟨_,rfl⟩;have HRO:=Qq (show ∀r∈rl,∀s∈r,word s by rw [hrl];exact HOK.out.rel);rw [<-hrl]at HC2 HR hi4 hr4⊢;clear HCM hrl;go_enter Tryz.func39,Tryz.ntmps39;go_upto_region 5 with(fail);obtain⟨W0,hW0⟩:∃W,W=w.alloc (.cells #[.int .i64 (m:Int),.slice Av md.val.length cv,.slice Ar rl.length cr] 38):=⟨_,rfl⟩;have HX0:=Qq (show Ext w W0 by rw [hW0];exact Qz.alloc _);have HB:=Qq (show W0.heap[w.heap.size]?=some (.cells #[.int .i64 (m:Int),.slice Av md.val.length cv,.slice Ar rl.length cr] 38 (0,0)) by rw [hW0];exact heap_alloc_new _ _)
 rw [<-hW0];clear hW0;obtain⟨b,hb⟩:∃b,b=w.heap.size:=⟨_,rfl⟩;rw [<-hb]at HB⊢;clear hb;go_wp2_with fail;go_loopw [3] (fun v wr=>∃k:Nat,v=.int .i64 (k:Int)/\k<=rl.length/\Hid (Ext W0 wr/\∀j,j < k->(!decide (((rl.getD j []).length:Int)=(m:Int)))=false)) (fun v _=>rl.length - (intOf v).toNat)
 case atStart=>exact⟨0,rfl,Nat.zero_le _,Qq ⟨Qz,fun j hj=>absurd hj (by omega)⟩⟩
 case round =>
  obtain⟨k,rfl,hk,HREL⟩:=hrel;have HX:=Qq HREL.out.1;have HJ:=Qq HREL.out.2;obtain⟨e0,e1,e2,eb⟩:=cells3y ((HX.out.block (lt_heap HB.out)).trans HB.out);clear HREL;by_cases hlt2:k < rl.length
  ·have hk1:(k:Int) < (rl.length:Int):=by omega
   obtain⟨ad,u,rfl,hadl,hc,hu⟩:=HR.out k hlt2;obtain⟨Au,cu,rfl,_⟩:=hu;have a0:=(HX.out.cell (p:=ad.add k) (by rw [block_of_add];exact Qy hadl HX0.out.size)).trans ((HX0.out.cell (p:=ad.add k) (Qj hadl)).trans hc);have al:(ad.add k).block < wr.heap.size:=by rw [block_of_add];exact Qy hadl (HX0.out.trans HX.out).size
   have HNX:=Qq (show(!decide (((rl.getD k []).length:Int)=(m:Int)))=false->∀j,j < k+1->(!decide (((rl.getD j []).length:Int)=(m:Int)))=false from fun h=>upto2 (P:=fun j=>(!decide (((rl.getD j []).length:Int)=(m:Int)))=false) HJ.out h);have HHT:=Qq (show(!decide (((rl.getD k []).length:Int)=(m:Int)))=true->checkM md=3 from fun h=>by rw [HC2.out,if_pos (any_hitR hlt2 h)]);obtain⟨q,hq⟩:∃q,q=(rl.getD k []).length:=⟨_,rfl⟩;rw [<-hq]at a0 HNX HHT;clear hc hq;go_upto_region 8 with(fail);by_cases hd:q=m
   ·subst hd;have hqq:((q:Int) !=(q:Int))=false:=by simp
    have HP:=Qq (HNX.out (by simp));refine wp_region_held_drew (S:=fun w'=>w'.cell? (⟨b,0,none⟩)=some (.int .i64 (q:Int))/\w'.cell? (⟨b,2,none⟩)=some (.slice (some ad) rl.length cr)/\w'.cell? (ad.add k)=some (.slice Au q cu)) (by kernel_rfl) ⟨xc eb e0,xc eb e2,xc al a0⟩ (fun hHeld=> ?_);refine tk 0 hHeld ?_;refine tk 1 hHeld ?_;refine tk 2 hHeld ?_;refine tk 3 hHeld ?_;refine tk 4 hHeld ?_;refine tk 5 hHeld ?_;refine tk 6 hHeld ?_;refine tk 7 hHeld ?_;refine tk 8 hHeld ?_;refine wpAnyH_done (by kernel_rfl) ?_ _;go_wp2_with fail;go_roundw
    case rel=>exact⟨k+1,by go_num,by omega,Qq ⟨HX.out.trans Qz.drew,HP.out⟩⟩
    case measure=>simp [intOf];omega
   have hqq:((q:Int) !=(m:Int))=true:=by simp;omega
   have HE:=Qq (HHT.out (by simp;omega));refine wp_region_held_drew (S:=fun w'=>w'.cell? (⟨b,0,none⟩)=some (.int .i64 (m:Int))/\w'.cell? (⟨b,2,none⟩)=some (.slice (some ad) rl.length cr)/\w'.cell? (ad.add k)=some (.slice Au q cu)) (by kernel_rfl) ⟨xc eb e0,xc eb e2,xc al a0⟩ (fun hHeld=> ?_);refine tk 0 hHeld ?_;refine tk 1 hHeld ?_;refine tk 2 hHeld ?_;refine tk 3 hHeld ?_;refine tk 4 hHeld ?_;refine tk 5 hHeld ?_;refine tk 6 hHeld ?_;refine tk 7 hHeld ?_;refine tk 8 hHeld ?_;refine wpAnyH_done (by kernel_rfl) ?_ _;go_wp2_with fail;go_ret;exact⟨by rw [HE.out] <;> rfl,HX0.out.trans (HX.out.trans Qz.drew)⟩
  obtain rfl:rl.length=k:=by omega
  have HC3:=Qq (show checkM md=if beyondN md.val m then 2 else if rl.any (fun r=>beyondN r m)then 2 else 0 by rw [HC2.out,any_missR HJ.out];rfl);have HXW:=Qq (HX0.out.trans HX.out);go_wp2_with fail;refine(beyond_any _ md.val m _ (HV.out.ext HXW.out) HOK.out.val hm64).mono ?_;rintro e w2 ⟨rfl,hx2⟩;have HX2:=Qq hx2;clear hx2 e0 e1 e2 eb;cases hbv:beyondN md.val m
  case true =>
   have HE:=Qq (show checkM md=2 by rw [HC3.out,hbv];rfl);clear hbv;go_wp2_with fail;go_ret;exact⟨by rw [HE.out] <;> rfl,HXW.out.trans HX2.out⟩
  have HC4:=Qq (show checkM md=if rl.any (fun r=>beyondN r m)then 2 else 0 by rw [HC3.out,hbv];rfl);clear hbv;have HB2:=Qq ((HX2.out.block (lt_heap ((HX.out.block (lt_heap HB.out)).trans HB.out))).trans ((HX.out.block (lt_heap HB.out)).trans HB.out));have HXW2:=Qq (HXW.out.trans HX2.out);go_wp2_with fail;go_loopw [4] (fun v wr=>∃k:Nat,v=.int .i64 (k:Int)/\k<=rl.length/\Hid (Ext w2 wr/\∀j,j < k->beyondN (rl.getD j []) m=false)) (fun v _=>rl.length - (intOf v).toNat)
  case atStart=>exact⟨0,rfl,Nat.zero_le _,Qq ⟨Qz,fun j hj=>absurd hj (by omega)⟩⟩
  case round =>
   clear HX HJ;obtain⟨k,rfl,hk,HREL⟩:=hrel;have HX:=Qq HREL.out.1;have HJ:=Qq HREL.out.2;obtain⟨e0,e1,e2,eb⟩:=cells3y ((HX.out.block (lt_heap HB2.out)).trans HB2.out);clear HREL;by_cases hlt2:k < rl.length
   ·have hk1:(k:Int) < (rl.length:Int):=by omega
    obtain⟨ad,u,rfl,hadl,hc,hu⟩:=HR.out k hlt2;have HXK:=Qq (HXW2.out.trans HX.out);have HU:=Qq (hu.ext HXK.out);have HUW:=Qq (getD_words HRO.out k);obtain⟨Au,cu,rfl,_⟩:=hu;have a0:=(HXK.out.cell (p:=ad.add k) (Qj hadl)).trans hc;have al:(ad.add k).block < wr.heap.size:=by rw [block_of_add];exact Qy hadl HXK.out.size
    have HNX:=Qq (show beyondN (rl.getD k []) m=false->∀j,j < k+1->beyondN (rl.getD j []) m=false from fun h=>upto2 (P:=fun j=>beyondN (rl.getD j []) m=false) HJ.out h);have HHT:=Qq (show beyondN (rl.getD k []) m=true->checkM md=2 from fun h=>by rw [HC4.out,if_pos (any_hitR (P:=fun r=>beyondN r m) hlt2 h)]);obtain⟨q,hq⟩:∃q,q=rl.getD k []:=⟨_,rfl⟩;rw [<-hq]at a0 HNX HHT HU HUW;clear hc hq;go_upto_region 15 with(fail);obtain⟨wq,hwq⟩:∃v,v=wr:=⟨_,rfl⟩;subst hwq;refine wp_region_held_drew (S:=fun w'=>w'.cell? (⟨b,0,none⟩)=some (.int .i64 (m:Int))/\w'.cell? (⟨b,2,none⟩)=some (.slice (some ad) rl.length cr)/\w'.cell? (ad.add k)=some (.slice Au q.length cu)) (by kernel_rfl) ⟨xc eb e0,xc eb e2,xc al a0⟩ (fun hHeld=> ?_)
    refine tk 0 hHeld ?_;refine tk 1 hHeld ?_;refine tk 2 hHeld ?_;refine tk 3 hHeld ?_;refine tk 4 hHeld ?_;refine tk 5 hHeld ?_;refine tk 6 hHeld ?_;refine wpAnyH_ready (rs:= [7]) (by kernel_rfl) (by simp) ?_;refine AllReadyH.cons rfl (fun K hK=> ?_) AllReadyH.nil;go_simp;refine(beyond_any _ q m _ (HU.out.ext (by repeat(first|exact Qz|assumption|apply Ext.alloc|apply Ext.drew|apply Ext.setCell))) HUW.out hm64).mono ?_;rintro e w3 ⟨rfl,hx0⟩;have hx3:Ext wq w3:=Ext.trans (by repeat(first|exact Qz|assumption|apply Ext.alloc|apply Ext.drew|apply Ext.setCell)) hx0;have HX3:=Qq hx3;clear hx0;go_wp2_with fail
    refine hK.out _ _ ⟨xc eb e0,xc eb e2,xc al a0⟩ (fun hHeld=> ?_);clear hK K;refine Qd ?_;refine wpAnyH_done (by kernel_rfl) ?_ _;cases hd:beyondN q m
    ·have HP:=Qq (HNX.out hd);clear hd;go_wp2_with fail;go_roundw
     case rel=>exact⟨k+1,by go_num,by omega,Qq ⟨HX.out.trans HX3.out,HP.out⟩⟩
     case measure=>simp [intOf];omega
    have HE:=Qq (HHT.out hd);clear hd;go_wp2_with fail;go_ret;exact⟨by rw [HE.out] <;> rfl,HXK.out.trans HX3.out⟩
   obtain rfl:rl.length=k:=by omega
   have HE:=Qq (show checkM md=0 by rw [HC4.out,any_missR (P:=fun r=>beyondN r m) HJ.out];rfl);go_wp2_with fail;go_ret;exact⟨by rw [HE.out] <;> rfl,HXW2.out.trans HX.out⟩
end Go.Proofs.YtbfeodammikajaaGreat
