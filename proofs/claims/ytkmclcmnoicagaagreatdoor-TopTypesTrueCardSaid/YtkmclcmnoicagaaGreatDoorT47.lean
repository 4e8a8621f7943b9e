/- The model that types make of a formula is a model of it (plain). -/
import Derived.Test.YtkmclcmnoicagaaGreatDoorT43
import Derived.Test.YtkmclcmnoicagaaGreatDoorT46
namespace Go.Proofs.YtkmclcmnoicagaaGreatDoor
set_option maxRecDepth 100000
set_option maxHeartbeats 128000000
theorem Qy9.mdC {lg:Int} {f:List Nd} {S:List Nat} {md:Md}(h:Qy9 lg f S md):Ci lg (Qn f).1 S (Ym (Jn (Qg f))) (Ym (Je (Qg f))) md:=⟨h.n,h.rel,h.vlen,h.vlow,h.fact⟩
theorem Zq0 {lg:Int} {f:List Nd} {S:List Nat} {md:Md}(he:Zd lg f=0)(h:Qy9 lg f S md):Bw lg f md 0:=by
 have hE:=Sy he;have hh:=(Jf hE.ck).2.2.2;have ha4:=An (Ni (Qg f) 0 hh (by decide));have hf8:=An (Ss (Qg f) 0 hh (by decide));have hm:=h.mdC;have hF:=Qcq hE h.al h.sel (fun n a hm=>(Qtc hE he _ hm).1.agent (.inl (hE.b.closed.know n a hm).1)|>.2);have hlt:∀u∈S,u < 2^(Qn f).1.length:=fun u hu=>by have:=Kt (h.al u hu);rwa [Rj]at this
 have hg:=Qck hE.b ⟨hE.l0,hE.l6⟩ hF hlt hm h.pos h.le ha4 hf8;have hl:Kl f=false:=by
  unfold Zd at he;cases ha:decide (lg < 0)||decide (6 < lg)
  ·rw [ha]at he;exact(Ra he).2.1
  rw [ha]at he;cases he
 have hch:=Qej hE.ck hl hg.ck (by rw [hm.rel];simp) hm.vlen.symm;have hch2:Jr md f=0:=by
  obtain⟨h1,_,h3,h4⟩:=Ya hch;have h2:=Gd hE.ck;have h3':Yw (Jh f) 15=true:=by unfold Jh at h3⊢;rw [h2]at h3;exact h3
  have h4':Yg f md.rel.length md.val.length=true:=by
   unfold Yg at h4⊢;rw [h2,Ky hE.ck]at h4;rw [hE.ck];exact h4
  unfold Jr;rw [if_neg (by rw [h1];simp),if_neg (by rw [hE.ck];simp),if_neg (by rw [h3'];simp),if_neg (by rw [h4'];simp)]
 have hnn:md.n.toNat=S.length:=by rw [hm.n];exact Int.toNat_natCast _
 have hp:=h.pos;refine⟨hch2,by omega,hg,fun w hw=>(Qwg hE hF hlt hm rfl rfl w).2 ?_⟩;rw [hw];exact h.root
def Zzj(lg:Int)(f:List Nd)(md:Md)(k:Nat)(er:Int):Prop :=
 (er≠0/\md=⟨0,[],[]⟩/\k=0/\(((lg < 0\/6 < lg)/\er=1)\/((0<=lg/\lg<=6)/\check f≠0/\er=check f)\/((0<=lg/\lg<=6)/\check f=0/\(Jp f).length=0/\er=8)\/
  ((0<=lg/\lg<=6)/\check f=0/\(Jp f).length≠0/\Zd lg (Jp f)≠0/\er=if Zd lg (Jp f)=6 then 14 else Zd lg (Jp f))\/
  ((0<=lg/\lg<=6)/\check f=0/\(Jp f).length≠0/\Zd lg (Jp f)=0/\Kv lg (Jp f)=false/\er=14)\/
  ((0<=lg/\lg<=6)/\check f=0/\(Jp f).length≠0/\Zd lg (Jp f)=0/\Kv lg (Jp f)=true/\6 < (Qn (Jp f)).1.length/\er=8)))\/
 (er=0/\check f=0/\(Jp f).length≠0/\Zd lg (Jp f)=0/\Kv lg (Jp f)=true/\Bw lg (Jp f) md k)
open Go.RowKit
def Nts(w:World)(v:Value)(l:List Nat):Prop:=∃A c,v=.slice A l.length c/\l.length<=c/\c<=maxLen/\Hid (∀i,i < l.length->∃ad,A=some ad/\ad.block < w.heap.size/\w.cell? (ad.add i)=some (.int .i64 ((l.getD i 0:Nat):Int)))
def Mi(base:Nat)(w:World)(v:Value)(l:List Nat):Prop:=w.ownsRow base 3 1 v l.length (Gk l)
section
variable {base:Nat} {w w':World} {v:Value} {l:List Nat}
theorem Nts.ext(h:Nts w v l)(he:Ext w w'):Nts w' v l:=by
 obtain⟨A,c,e,h1,h2,h3⟩:=h;refine⟨A,c,e,h1,h2,Qq fun i hi=> ?_⟩;obtain⟨ad,e,hl,hc⟩:=h3.out i hi;exact⟨ad,e,Qy hl he.size,(he.cell (p:=ad.add i) (Qj hl)).trans hc⟩
theorem Mi.ext(h:Mi base w v l)(he:Ext w w'):Mi base w' v l:=Zf h he
theorem Mi.nil(base:Nat)(w:World):Mi base w (.slice none 0 0) []:=World.ownsRow_nil _ _ _ _
theorem Mi.snoc {w7:World} {u:Nat} {v7:Value}(h:w7.ownsRow base 3 1 v7 (l.length+1) (Gk l++ [.int .i64 (u:Int)])):Mi base w7 v7 (l++ [u]):=by
 unfold Mi Gk;rw [List.map_append,List.length_append];exact h
theorem Jz.snoc {w7:World} {u:Nat} {v7:Value}(h:w7.ownsRow base 41 1 v7 (l.length+1) (uV l++ [.int .u64 (u:Int)])):Jz base w7 v7 (l++ [u]):=by
 unfold Jz uV;rw [List.map_append,List.length_append];exact h
end
theorem Qs7 {s k:Nat}(hs:Zj s):bits .and .u64 ((s:Int) / 2^k) 1=((if s.testBit k then 1 else 0:Nat):Int):=by
 have hlt:s / 2^k < 18446744073709551616:=Nat.lt_of_le_of_lt (Nat.div_le_self _ _) hs;rw [Si,show(1:Int)=((1:Nat):Int)from rfl,bits_and_u64_nat _ 1 hlt (by decide),Nat.and_one_is_mod,Nat.testBit_eq_decide_div_mod_eq];rcases Nat.mod_two_eq_zero_or_one (s / 2^k)with h|h <;> rw [h] <;> rfl
def spa(B:Nat)(vr:Value)(k:Nat):Prop:=k < B\/vr.ownBlock=some k
structure ArI (w0 wr:World) (mb B:Nat) (n:Int) (vv:Value) (vals:List Nat) (vr:Value) (rows:List (List Nat)):Prop where
 ext:Ext w0 wr
 lo:w0.heap.size<=mb
 lt:mb < B
 top:B<=wr.heap.size
 cell:wr.heap[mb]?=some (.cells #[.int .i64 n,vv,vr] 26 (0,0))
 val:Jz B wr vv vals
 rel:∃us:List Value,us.length=rows.length/\wr.ownsRow B 23 1 vr us.length us/\∀(k:Nat) u r,us[k]?=some u->rows[k]?=some r->Frz (spa B vr) wr (fun w'=>Ji w' u r)
 dr:∀g,vr.ownBlock=some g->vv.ownBlock≠some g
section
variable {w0 wr W:World} {mb B:Nat} {n:Int} {vv vr:Value} {vals:List Nat} {rows:List (List Nat)}
theorem ArI.start(he:Ext w0 wr)(hm:w0.heap.size<=mb)(hB:mb < B)(hS:B<=wr.heap.size)(hc:wr.heap[mb]?=some (.cells #[.int .i64 n,.slice none 0 0,.slice none 0 0] 26 (0,0))):ArI w0 wr mb B n (.slice none 0 0) [] (.slice none 0 0) []:=
 ⟨he,hm,hB,hS,hc,Jz.nil _ _,⟨[],rfl,World.ownsRow_nil _ _ _ _,fun k u r hu _=>by simp at hu⟩,fun g hg=>by cases hg⟩
theorem ArI.next(h:ArI w0 wr mb B n vv vals vr rows)(he:Ext wr W):ArI w0 W mb B n vv vals vr rows:=by
 obtain⟨us,e,h1,h2⟩:=h.rel;exact⟨h.ext.trans he,h.lo,h.lt,Qx h.top he.size,(he.block (Qm h.cell)).trans h.cell,h.val.ext he,⟨us,e,Zf h1 he,fun k u r hu hr=>(h2 k u r hu hr).next (Yi.of_ext he) fun _ _ h=>h⟩,h.dr⟩
theorem ArI.mlt(h:ArI w0 wr mb B n vv vals vr rows):mb < wr.heap.size:=Qm h.cell
theorem ArI.cells(h:ArI w0 wr mb B n vv vals vr rows):(wr.cell? ⟨mb,0,none⟩=some (.int .i64 n)/\wr.cell? ⟨mb,1,none⟩=some vv/\wr.cell? ⟨mb,2,none⟩=some vr)/\(wr.frozen? ⟨mb,0,none⟩=false/\wr.frozen? ⟨mb,1,none⟩=false/\wr.frozen? ⟨mb,2,none⟩=false)/\mb < wr.heap.size :=
 Gf h.cell
theorem Jz.low {base B:Nat} {w:World} {v:Value} {l:List Nat}(h:Jz base w v l)(hb:B<=base):Jz B w v l :=
 ⟨h.1,h.2.imp id fun⟨g,cap,cur,e,h1,r⟩=>⟨g,cap,cur,e,Qx hb h1,r⟩⟩
theorem ArI.other(h:ArI w0 wr mb B n vv vals vr rows) {r:Nat}(h0:w0.heap.size<=r)(h1:r < B)(h2:r≠mb)(v:Value):ArI w0 (wr.setCell ⟨r,0,none⟩ v) mb B n vv vals vr rows:=by
 have hset:∀k,k≠r->(wr.setCell ⟨r,0,none⟩ v).heap[k]?=wr.heap[k]?:=fun k e=>Below.heap_setCell _ _ _ _ e
 obtain⟨us,e,h10,h20⟩:=h.rel;refine⟨h.ext.setCell (p:=⟨r,0,none⟩) h0 _,h.lo,h.lt,Qx h.top (by simp [World.setCell]),(hset mb (Ne.symm h2)).trans h.cell,Zi h.val fun k hk=>hset k (by have:=(World.ownsRow.lt h.val k hk).1;omega),⟨us,e,Zi h10 fun k hk=>hset k (by have:=(h10.lt k hk).1;omega),fun k u y hu hy=> ?_⟩,h.dr⟩;exact(h20 k u y hu hy).next (X':=spa B vr) ⟨by simp [World.setCell],fun k hk _=>hset k (fun e=>hk (.inl (by omega)))⟩ (fun _ _ h=>h)
theorem ArI.mdv {w':World}(h:ArI w0 wr mb B n vv vals vr rows)(hs:Yi (fun k=>k < B) wr w'):MdV w' (.agg #[.int .i64 n,vv,vr]) ⟨n,vals,rows⟩:=by
 have hrow:Jz B w' vv vals:=Zi h.val fun k hk=>hs.2 k (by have:=(World.ownsRow.lt h.val k hk).1;omega) (World.ownsRow.lt h.val k hk).2
 refine⟨_,_,rfl,hrow.u64s,?_⟩;obtain⟨us,e,h10,h2⟩:=h.rel;have h1:=Zi (w':=w') h10 fun k hk=>hs.2 k (by have:=(h10.lt k hk).1;omega) (h10.lt k hk).2
 have hsx:Yi (spa B vr) wr w':=⟨hs.1,fun k hk hl=>hs.2 k (fun e=>hk (.inl e)) hl⟩;rcases h1.2 with⟨ev,e0⟩|⟨g,cap,cur,ev,hb,hg,hnc,hm,hs',ht⟩
 ·subst ev;have:rows= []:=List.length_eq_zero_iff.1 (by omega);subst this;exact⟨none,0,rfl,Nat.le_refl _,by unfold maxLen;omega,fun h=>absurd rfl h⟩
 subst ev;refine⟨_,cap,by rw [e],by show rows.length<=cap;omega,hm,fun _=>⟨_,rfl,Qm hg,fun k s hk=> ?_⟩⟩;have hkl:k < rows.length:=(List.getElem?_eq_some_iff.1 hk).1;obtain⟨u,hu⟩:∃u,us[k]?=some u:=⟨_,List.getElem?_eq_getElem (by omega)⟩;refine⟨u,?_,h2 k u s hu hk w' hsx⟩;rw [Qzd];have h3:=hu;rw [<-ht,List.getElem?_take]at h3
 split at h3
 ·have h4:cur[k]?=some u:=by simpa using h3
  simp [World.cell?,hg,h4]
 cases h3
end
theorem Qny {w:World} {b:Nat} {a v:Value} {t:TypeId}(h:w.heap[b]?=some (.cells #[a] t (0,0))):(w.setCell ⟨b,0,none⟩ v).heap[b]?=some (.cells #[v] t (0,0)):=by
 simp only [World.setCell,Array.getElem?_modify,h,if_true,Option.map_some];simp
structure Qvq (w0 wr:World) (b n k j:Nat) (vv:Value) (vals:List Nat) (vr:Value) (rows:List (List Nat)):Prop where
 ar:ArI w0 wr (b+2) (b+4) (n:Int) vv vals vr rows
 rest:wr.heap[b+3]?=some (.cells #[.int .u64 ((k / 2^(n*j):Nat):Int)] 41 (0,0))
 box:wr.cell? ⟨b,0,none⟩=some (.int .i64 (n:Int))
 res:wr.heap[b+1]?=some (.cells #[.int .i64 0,.slice none 0 0,.slice none 0 0] 26 (0,0))
section
variable {w0 wr W:World} {b n k j:Nat} {vv vr:Value} {vals:List Nat} {rows:List (List Nat)}
theorem Qvq.next(h:Qvq w0 wr b n k j vv vals vr rows)(he:Ext wr W):Qvq w0 W b n k j vv vals vr rows :=
 ⟨h.ar.next he,(he.block (Qm h.rest)).trans h.rest,(he.cell (p:=⟨b,0,none⟩) (by have:=Qm h.rest;show b < _;omega)).trans h.box,(he.block (Qm h.res)).trans h.res⟩
theorem Qvq.take(h:Qvq w0 wr b n k j vv vals vr rows)(h0:w0.heap.size<=b+2):Qvq w0 (wr.setCell ⟨b+3,0,none⟩ (.int .u64 ((k / 2^(n*(j+1)):Nat):Int))) b n k (j+1) vv vals vr rows:=by
 have hset:∀q,q≠b+3->(wr.setCell ⟨b+3,0,none⟩ (.int .u64 ((k / 2^(n*(j+1)):Nat):Int))).heap[q]?=wr.heap[q]?:=fun q e=>Below.heap_setCell _ _ _ _ e
 refine⟨h.ar.other (by omega) (by omega) (by omega) _,Qny h.rest,?_,(hset (b+1) (by omega)).trans h.res⟩;have:=h.box;unfold World.cell? at this⊢;rw [hset b (by omega)];exact this
structure Co (w0 wa wr:World) (b n k j:Nat):Prop where
 ext:Ext w0 wr
 same:Yi (fun q=>q < b+4) wa wr
 cell:wr.heap[b+2]?=wa.heap[b+2]?
 rest:wr.heap[b+3]?=some (.cells #[.int .u64 ((k / 2^(n*j):Nat):Int)] 41 (0,0))
 box:wr.cell? ⟨b,0,none⟩=some (.int .i64 (n:Int))
 res:wr.heap[b+1]?=some (.cells #[.int .i64 0,.slice none 0 0,.slice none 0 0] 26 (0,0))
section
variable {wa:World}
theorem Co.next(h:Co w0 wa wr b n k j)(hl:b+4<=wa.heap.size)(he:Ext wr W):Co w0 wa W b n k j:=by
 have hs:=h.same.1;exact⟨h.ext.trans he,⟨Qx hs he.size,fun q h1 h2=>(he.block (Qy h2 hs)).trans (h.same.2 q h1 h2)⟩,(he.block (by omega)).trans h.cell,(he.block (by omega)).trans h.rest,(he.cell (p:=⟨b,0,none⟩) (show b < _ by omega)).trans h.box,(he.block (by omega)).trans h.res⟩
theorem Co.take(h:Co w0 wa wr b n k j)(h0:w0.heap.size<=b+3):Co w0 wa (wr.setCell ⟨b+3,0,none⟩ (.int .u64 ((k / 2^(n*(j+1)):Nat):Int))) b n k (j+1):=by
 have hset:∀q,q≠b+3->(wr.setCell ⟨b+3,0,none⟩ (.int .u64 ((k / 2^(n*(j+1)):Nat):Int))).heap[q]?=wr.heap[q]?:=fun q e=>Below.heap_setCell _ _ _ _ e
 refine⟨h.ext.setCell (p:=⟨b+3,0,none⟩) h0 _,⟨Qx h.same.1 (by simp [World.setCell]),fun q h1 h2=>(hset q (by omega)).trans (h.same.2 q h1 h2)⟩,(hset _ (by omega)).trans h.cell,Qny h.rest,?_,(hset _ (by omega)).trans h.res⟩;have:=h.box;unfold World.cell? at this⊢;rw [hset b (by omega)];exact this
theorem Co.grow(h:Co w0 wa wr b n k j)(hl:b+4<=wa.heap.size)(hw:w0.heap.size<=b+3) {g:Option Nat}(hg:wr.grownBy W g)(hq:∀q,g=some q->wa.heap.size<=q):Co w0 wa W b n k j:=by
 have hblk:∀q,q < wa.heap.size->W.heap[q]?=wr.heap[q]?:=fun q h1=>hg.block q (Qy h1 h.same.1) (fun e=>by have:=hq q e.symm;omega)
 refine⟨h.ext.grown hg (fun q e=>by have:=hq q e;omega),⟨Qx h.same.1 hg.size,fun q h1 h2=>(hblk q h2).trans (h.same.2 q h1 h2)⟩,(hblk _ (by omega)).trans h.cell,(hblk _ (by omega)).trans h.rest,?_,(hblk _ (by omega)).trans h.res⟩;have:=h.box;unfold World.cell? at this⊢;rw [hblk b (by omega)];exact this
end
end
def Qis(md:Md)(s:Nat):Int:=if Zy md≠0 then Zy md else if Yw s (Zl md.n.toNat)=false then 2 else if s=0 then 6 else 0
def Zz6(md:Md)(s:Nat):Md:=if Qis md s=0 then Gq md (Kr s)else⟨0,[],[]⟩
def Zz5(md:Md)(s:Nat):List Nat:=if Qis md s=0 then Kr s else []
theorem ad3 {a:Nat}(h:a<=7378697629483820646):IntKind.u64.wrap ((a:Int) / 16+(a:Int))=((a / 16+a:Nat):Int):=by rw [IntKind.wrap_u64];omega
theorem Frz.keep {B B':Nat} {w w':World} {P:World->Prop}(h:Frz (fun k=>k < B) w P)(hb:B'<=B)(hs:w.heap.size<=w'.heap.size)(hk:∀k,B<=k->k < w.heap.size->w'.heap[k]?=w.heap[k]?):Frz (fun k=>k < B') w' P :=
 h.next (X':=fun k=>k < B) ⟨hs,fun k h1 h2=>hk k (by omega) h2⟩ (fun _ _ h=>h)|>.next (Yi.of_ext Qz) (fun k _ h=>by omega)
def ShC(lo b:Nat)(wr:World)(md:Md):Prop:=∃A c A' c',wr.heap[b]?=some (.cells #[.int .i64 md.n,.slice A md.val.length c,.slice A' md.rel.length c'] 26 (0,0))/\
 Frz (fun k=>k < lo) wr (fun W=>MdV W (.agg #[.int .i64 md.n,.slice A md.val.length c,.slice A' md.rel.length c']) md)
theorem ShC.ext {lo b:Nat} {w w':World} {md:Md}(h:ShC lo b w md)(he:Ext w w'):ShC lo b w' md:=by
 obtain⟨A,c,A',c',h1,h2⟩:=h;exact⟨A,c,A',c',(he.block (Qm h1)).trans h1,h2.next (Yi.of_ext he) (fun _ _ h=>h)⟩
theorem ShC.put {lo lo' b:Nat} {w:World} {md:Md} {u:Value} {a0 a1 a2:Value}(hu:Frz (fun k=>k < lo') w (fun W=>MdV W u md))(hlo:lo<=lo')(hb:b < lo)(hc:w.heap[b]?=some (.cells #[a0,a1,a2] 26 (0,0))):
 ∃A c A' c',u=.agg #[.int .i64 md.n,.slice A md.val.length c,.slice A' md.rel.length c']/\ShC lo b (((w.setCell ⟨b,0,none⟩ (.int .i64 md.n)).setCell ⟨b,1,none⟩ (.slice A md.val.length c)).setCell ⟨b,2,none⟩ (.slice A' md.rel.length c')) md:=by
 obtain⟨vv,vr,rfl,⟨A,c,rfl,_⟩,⟨A',c',rfl,_⟩⟩:=hu.here;refine⟨A,c,A',c',rfl,A,c,A',c',Ls hc _ _ _,hu.keep hlo (by simp [World.setCell]) (fun k h1 _=>Mq (by omega) _ _ _)⟩
def Zz0(lg:Int)(f:List Nd)(md:Md)(wd:Int)(md':Md)(k':Nat):Prop :=
 (cmN lg f md wd≠0/\md'=⟨0,[],[]⟩/\k'=0)\/(cmN lg f md wd=0/\∃k out:Nat,wd=(k:Int)/\Qxa md (2^k) out/\Qzf lg f (Gq md (Kr out)) (Ri out k) md' k')
def nbE(n a v k:Int):Int:=if n < 1\/64 < n\/a < 0\/4 < a\/v < 0\/8 < v then 2 else if 12 < Nq n.toNat a.toNat v.toNat then 8 else if k < 0\/((2^Nq n.toNat a.toNat v.toNat:Nat):Int)<=k then 2 else 0
def nbN(n a v k:Int):Md:=if nbE n a v k=0 then Og n.toNat a.toNat v.toNat k.toNat else⟨0,[],[]⟩
def lsA(f:List Nd):Nat:=Ym (Jn (Qg f))
def lsF(f:List Nd):Nat:=Ym (Je (Qg f))
def Pq(lg:Int)(f:List Nd)(n k:Nat):Prop:=(∀m j,1<=m->m < n->j < 2^Nq m (lsA f) (lsF f)->cmN lg f (Og m (lsA f) (lsF f) j) 0≠0)/\∀j,j < k->cmN lg f (Og n (lsA f) (lsF f) j) 0≠0
def Zzo(lg:Int)(f:List Nd)(most:Int)(md:Md)(er:Int):Prop :=
 (er≠0/\md=⟨0,[],[]⟩/\(((lg < 0\/6 < lg)/\er=1)\/((0<=lg/\lg<=6)/\((check f≠0/\er=check f)\/(check f=0/\((Yw (Jh f) 15=false/\er=10)\/(Yw (Jh f) 15=true/\(((most < 1\/64 < most)/\er=2)\/
  ((1<=most/\most<=64)/\((12 < Nq most.toNat (lsA f) (lsF f)/\er=8)\/(Nq most.toNat (lsA f) (lsF f)<=12/\er=6/\Pq lg f (most.toNat+1) 0)))))))))))\/
 (er=0/\(0<=lg/\lg<=6)/\check f=0/\Yw (Jh f) 15=true/\(1<=most/\most<=64)/\Nq most.toNat (lsA f) (lsF f)<=12/\
  ∃n k,1<=n/\n<=most.toNat/\k < 2^Nq n (lsA f) (lsF f)/\md=Og n (lsA f) (lsF f) k/\cmN lg f md 0=0/\Pq lg f n k)
theorem Pq.step {lg:Int} {f:List Nd} {n k:Nat}(h:Pq lg f n k)(hc:cmN lg f (Og n (lsA f) (lsF f) k) 0≠0):Pq lg f n (k+1):=
 ⟨h.1,fun j hj=>by
  by_cases e:j=k
  ·rw [e];exact hc
  exact h.2 j (by omega)⟩
theorem Pq.turn {lg:Int} {f:List Nd} {n:Nat}(h:Pq lg f n (2^Nq n (lsA f) (lsF f))):Pq lg f (n+1) 0 :=
 ⟨fun m j h1 h2 hj=>by
  by_cases e:m=n
  ·subst e;exact h.2 j hj
  exact h.1 m j h1 (by omega) hj,fun j hj=>absurd hj (by omega)⟩
def Qol(w:World)(lg:Int)(f:List Nd)(e:Ending)(w':World):Prop :=
 Ext w w'/\∃v,e=.returned (.tuple #[v,.int .i64 (Bf lg f)])/\(Bf lg f≠0->Elm w' v 0 [] [])/\(Bf lg f=0->Elm w' v lg ((Xe lg f).2.map Prod.fst) ((Xe lg f).2.map Prod.snd))
theorem Qyo {lg:Int} {f:List Nd}(h:Zd lg f≠0):Bf lg f=Zd lg f:=by
 unfold Bf;rw [show(Zd lg f !=0)=true by simpa using h];rfl
theorem Pt {lg:Int} {f:List Nd}(h:Zd lg f=0):Bf lg f=bif Kv lg f then 15 else 0:=by
 unfold Bf;rw [show(Zd lg f !=0)=false by simpa using h];rfl
theorem Ln(lg:Int)(v:Value)(f:List Nd)(w:World)(h:Fml w v f):
 Calls Tryz.prog 20 #[.int .i64 lg,v] w (Qol w lg f):=by
 have H:=Qq h;obtain⟨Af,cf,rfl,_⟩:=Qa h;clear h;have HW0:=Qq (show(w.alloc (.cells #[.int .i64 0,.slice none 0 0,.slice none 0 0] 38)).heap[w.heap.size]?=some (.cells #[.int .i64 0,.slice none 0 0,.slice none 0 0] 38 (0,0))from heap_alloc_new _ _);have HX0:=Qq (show Ext w (w.alloc (.cells #[.int .i64 0,.slice none 0 0,.slice none 0 0] 38))from Qz.alloc _);obtain⟨er,her⟩:∃er,er=Zd lg f:=⟨_,rfl⟩;have HER:=Qq her;by_cases hz:er=0
 ·subst hz;have HA:=Qq (Qvk (Sy her.symm));clear her;go_enter Tryz.func20,Tryz.ntmps20;go_wp2_with fail;refine(Gr lg _ f _ (H.out.ext HX0.out)).mono ?_;rintro e w1 ⟨hx1,hr⟩;obtain⟨b,g,rfl,hb,hg,hE⟩:=(hr.resolve_left (fun h=>h.1 HER.out.symm)).2;have HE:=Qq hE;have HX1:=Qq hx1;have HGB:=Qq (show w.heap.size < g by simp at hg;omega);clear hr hb hg hE hx1;go_wp2_with fail;refine(Ea b g lg _ _ _ _ _ _ HE.out HA.out.lgr HA.out.le HA.out.len (fun k hk=>⟨(HA.out.ks k hk).1,by rw [(HA.out.ks k hk).2,HA.out.al];exact Nat.le_refl _⟩) (fun c hc=>by have:=HA.out.cs c hc;rw [HA.out.al];exact this)).mono ?_
  rintro e w2 ⟨vt,vw,rfl,hgr,hE2,ht,hw⟩;obtain⟨s,hs⟩:∃s,s=Xe lg f:=⟨_,rfl⟩;have HS:=Qq hs;rw [show Hs lg (Zg (Qn f).1) (Zc (Qn f).1) (Qn f).1.length (Yf lg (Qn f).1)=s from hs.symm]at hE2 ht hw;obtain⟨At,ct,rfl⟩:=Qt ht;obtain⟨Aw,cw,rfl⟩:=Qt hw;have HT:=Qq ht;have HWR:=Qq hw;have HE2:=Qq hE2;have HB1:=Qq ((HX1.out.block (by simp)).trans HW0.out);have HB2:=Qq ((hgr.block w.heap.size (Qm HB1.out) (fun e=>by injection e with e;have:=HGB.out;omega)).trans HB1.out);have HX2:=Qq (show Ext w w2 from(HX0.out.trans HX1.out).grown hgr (fun k e=>by injection e with e;have:=HGB.out;omega))
  have HLO:=Qq (show w.heap.size < w1.heap.size from Qm HB1.out);have HLEN:=Qq (show(Xo f).length=s.1.length by rw [hs,Rj];exact HA.out.root);obtain⟨⟨q0,q1,q2⟩,⟨f0,f1,f2⟩,ql⟩:=Gf HB2.out;clear hgr hE2 ht hw hs;go_wp2_with fail;refine(Ew b lg _ _ _ _ _ _ HE2.out.eng HLEN.out).mono ?_;rintro e w3 ⟨rfl,rfl⟩;have HL:=Qq (show Kg s.1 (Xo f)=Kv lg f by rw [HS.out];rfl);rw [HL.out];have HRE:=Qq (Pt HER.out.symm);cases hl:Kv lg f
  ·have HR0:=Qq (show Bf lg f=0 by rw [HRE.out,hl];rfl);clear hl;go_wp2_with fail
   (try simp only [Exit.inBlock,Exit.then])
   have hx3:=Py HX2.out (Nat.le_refl _) (.int .i64 lg) (.slice At s.2.length ct) (.slice Aw s.2.length cw);have h1:s.2.length=(s.2.map Prod.fst).length:=by rw [List.length_map]
   have h2:s.2.length=(s.2.map Prod.snd).length:=by rw [List.length_map]
   have ht3:=Zi (w':=(((w2.setCell ⟨w.heap.size,0,none⟩ (.int .i64 lg)).setCell ⟨w.heap.size,1,none⟩ (.slice At s.2.length ct)).setCell ⟨w.heap.size,2,none⟩ (.slice Aw s.2.length cw))) HT.out (fun k hk=>Mq (by have:=(HT.out.lt k hk).1;have:=HLO.out;omega) _ _ _);have hw3:=Zi (w':=(((w2.setCell ⟨w.heap.size,0,none⟩ (.int .i64 lg)).setCell ⟨w.heap.size,1,none⟩ (.slice At s.2.length ct)).setCell ⟨w.heap.size,2,none⟩ (.slice Aw s.2.length cw))) HWR.out (fun k hk=>Mq (by have:=(HWR.out.lt k hk).1;have:=HLO.out;omega) _ _ _);refine bodyPost_ret (Er Tryz.results20 _ _ rfl (Gs (Ls HB2.out _ _ _)) Tryz.underlying38 rfl (by kernel_rfl)) rfl ?_
   refine⟨hx3,_,by rw [HR0.out] <;> rfl,fun h=>absurd HR0.out h,fun _=>⟨_,_,rfl,?_,?_⟩⟩
   ·rw [<-HS.out];exact Qb4 (by rw [<-h1];exact ht3)
   rw [<-HS.out];exact Qg3 (by rw [<-h2];exact hw3)
  have HR0:=Qq (show Bf lg f=15 by rw [HRE.out,hl];rfl);clear hl;go_wp2_with fail
  (try simp only [Exit.inBlock,Exit.then])
  refine bodyPost_ret (Er Tryz.results20 _ _ rfl (Gs (Ls HB2.out _ _ _)) Tryz.underlying38 rfl (by kernel_rfl)) rfl ?_;exact⟨Py HX2.out (Nat.le_refl _) _ _ _,_,by rw [HR0.out] <;> rfl,fun _=>Qdb _,fun h=>by rw [HR0.out]at h;cases h⟩
 have HZ:=Qq hz;have HRE:=Qq (show Bf lg f=er by rw [Qyo (by rw [<-her];exact hz),her]);clear her;go_enter Tryz.func20,Tryz.ntmps20;go_wp2_with fail;refine(Gr lg _ f _ (H.out.ext HX0.out)).mono ?_;rintro e w1 ⟨hx1,hr⟩;obtain⟨_,rfl⟩:=hr.resolve_right (fun h=>HZ.out (HER.out.trans h.1));rw [<-HER.out];have HX1:=Qq hx1;have HB1:=Qq ((hx1.block (by simp)).trans HW0.out);obtain⟨⟨q0,q1,q2⟩,⟨f0,f1,f2⟩,ql⟩:=Gf HB1.out;clear hx1 hr;go_wp2_with fail
 (try simp only [Exit.inBlock,Exit.then])
 refine bodyPost_ret (Er Tryz.results20 _ _ rfl (Gs (Ls HB1.out _ _ _)) Tryz.underlying38 rfl (by kernel_rfl)) rfl ?_;exact⟨Py (HX0.out.trans HX1.out) (Nat.le_refl _) _ _ _,_,by rw [HRE.out] <;> rfl,fun _=>Qdb _,fun h=>absurd (HRE.out.symm.trans h) HZ.out⟩
def Qpj(s:Tr):Tr->Prop
 |.leaf n=>s=.leaf n
 |.one n a=>s=.one n a\/Qpj s a
 |.two n a b=>s=.two n a b\/Qpj s a\/Qpj s b
def Zzh:List (Int×Int):= [(6,5),(6,4),(4,2),(4,3),(5,3),(5,1),(2,1),(1,0),(3,0)]
theorem Qwv {lg:Int} {f:List Nd}(h:Zd lg f≠0):Qjt lg f=(false,Zd lg f):=by
 unfold Qjt;rw [show(Zd lg f !=0)=true by simpa using h];rfl
theorem Qma {lg:Int} {f:List Nd}(h:Zd lg f=0):Qjt lg f=(Kv lg f,0):=by
 unfold Qjt;rw [show(Zd lg f !=0)=false by simpa using h];rfl
theorem Qty:∀(l:List Nd),(∀n∈l,(Yd n.op).toNat&&&500=0)->Kq l&&&500=0:=by
 have key:∀(l:List Nd) (m:Nat),m&&&500=0->(∀n∈l,(Yd n.op).toNat&&&500=0)->(l.foldl (fun m n=>m|||(Yd n.op).toNat) m)&&&500=0:=by
  intro l
  induction l with
  |nil=>intro m h _;exact h
  |cons a r ih =>
   intro m h hl;refine ih _ ?_ (fun n hn=>hl n (List.mem_cons_of_mem _ hn));rw [Nat.and_or_distrib_right,h,hl a (List.mem_cons_self ..)];rfl
 intro l h;exact key l 0 (by decide) h
theorem Qen {f:List Nd}(hl:∀n∈Qg f,Nz n.op):Kl f=false:=by
 unfold Kl Jh;have:=Qty (Qg f) fun n hn=>by
  have ho:=hl n hn;have:n.op=1\/n.op=2\/n.op=3\/n.op=4\/n.op=5\/n.op=6\/n.op=7\/n.op=8\/n.op=9\/n.op=10\/n.op=11\/n.op=13:=by unfold Nz at ho;omega
  rcases this with h|h|h|h|h|h|h|h|h|h|h|h <;>(rw [h];decide)
 rw [this];rfl
theorem Qkj {f:List Nd}(hc:check f=0):Kl f=false↔(Ql f).all (fun n=>Nz n.op):=by
 obtain⟨hw,_,hp,hh⟩:=Jf hc;constructor
 ·intro h;have:=To (P:=fun n=>Nz n.op) (fun n k1 k2 h=>h) hw (Nc hc h) ((Qg f).length - 1) (by omega);rw [show tr (Qg f) ((Qg f).length - 1)=Ql f from Vc hc]at this;exact this
 intro h;refine Qen fun n hn=> ?_
 rw [Ko hc]at hn;exact Di (P:=fun n=>Nz n.op) (fun n k1 k2 h=>h) (Ql f) [] h (fun n hn=>by cases hn) n hn
theorem Qj3(g:List Nd):(Vx g).2=0\/(Vx g).2=8:=by
 unfold Vx;cases((Yz g).flatMap Ye).any (fun u=>decide (u.length=0))||decide (12 < (((Yz g).flatMap Ye).foldl Xd (Yz g)).length)
 ·exact .inl rfl
 exact .inr rfl
theorem Qxk(n:Nd)(a:Int):0<=Qo n a/\Qo n a<=10:=by
 unfold Qo;cases !Jk n.op <;> cases !Qs (Qh n.op) n.x a|| !Qs (Qc n.op) n.y a <;> cases Zv n <;> cases Jg n <;> simp
theorem Mf:∀(l:List Nd) (a:Int),0<=Jj l a/\Jj l a<=10
 |[],_=>⟨Int.le_refl 0,show(0:Int)<=10 by decide⟩
 |n :: r,a=>by
  unfold Jj;cases Qo n a !=0
  ·exact Mf r _
  exact Qxk n a
theorem Qbk(l:List Nd):0<=check l/\check l<=10:=by
 unfold check;cases decide (l.length=0)
 ·cases decide (200 < l.length)
  ·exact Mf l 0
  simp
 simp
theorem Wt(lg:Int)(f:List Nd):0<=Zd lg f/\Zd lg f<=10:=by
 unfold Zd;cases decide (lg < 0)||decide (6 < lg)
 ·unfold Qn;cases check f !=0
  ·cases Kl f
   ·cases decide ((Jd f).length=0)
    ·simp only [cond_false];rcases Qj3 (Jd f)with h|h <;> rw [h] <;> simp
    simp
   simp
  exact Qbk f
 simp
theorem Qwy(lg:Int)(v:Value)(f:List Nd)(w:World)(h:Fml w v f):
 Calls Tryz.prog 42 #[.int .i64 lg,v] w fun e w'=>e=.returned (.tuple #[.bool (Qjt lg f).1,.int .i64 (Qjt lg f).2])/\Ext w w':=by
 have H:=Qq h;obtain⟨Af,cf,rfl,_⟩:=Qa h;clear h;have hrg:=Wt lg f;obtain⟨er,her⟩:∃er,er=Zd lg f:=⟨_,rfl⟩;rw [<-her]at hrg;have HER:=Qq her;by_cases hz:er=0
 ·subst hz;have HSO:=Qq (Qma (lg:=lg) her.symm);have HRO:=Qq (Pt (lg:=lg) her.symm);clear her hrg;cases hl:Kv lg f
  ·rw [hl]at HSO HRO;clear hl;go_enter Tryz.func42,Tryz.ntmps42;go_wp2_with fail;refine(Ln lg _ f _ H.out).mono ?_;rintro e w1 ⟨hx1,u,rfl,hn,hy⟩;obtain⟨vt,vw,rfl,⟨At,ct,rfl,_⟩,⟨Aw,cw,rfl,_⟩⟩:=hy HRO.out;rw [HRO.out];have HX1:=Qq hx1;clear hx1 hn hy;go_wp2_with fail;go_ret2;exact⟨by rw [HSO.out] <;> rfl,HX1.out.alloc _⟩
  rw [hl]at HSO HRO;clear hl;go_enter Tryz.func42,Tryz.ntmps42;go_wp2_with fail;refine(Ln lg _ f _ H.out).mono ?_;rintro e w1 ⟨hx1,u,rfl,hn,hy⟩;obtain⟨vt,vw,rfl,⟨At,ct,rfl,_⟩,⟨Aw,cw,rfl,_⟩⟩:=hn (by rw [HRO.out];decide);rw [HRO.out];have HX1:=Qq hx1;clear hx1 hn hy;go_wp2_with fail;go_ret2;exact⟨by rw [HSO.out] <;> rfl,HX1.out.alloc _⟩
 have HZ:=Qq hz;have HSO:=Qq (Qwv (lg:=lg) (f:=f) (by rw [<-her];exact hz));have HRO:=Qq (show Bf lg f=er by rw [Qyo (by rw [<-her];exact hz),her]);rw [<-her]at HSO;have hz0:(er==0)=false:=by rw [beq_eq_false_iff_ne];exact hz
 have hz15:(er==15)=false:=by rw [beq_eq_false_iff_ne];omega
 clear her hrg hz;go_enter Tryz.func42,Tryz.ntmps42;go_wp2_with fail;refine(Ln lg _ f _ H.out).mono ?_;rintro e w1 ⟨hx1,u,rfl,hn,hy⟩;obtain⟨vt,vw,rfl,⟨At,ct,rfl,_⟩,⟨Aw,cw,rfl,_⟩⟩:=hn (by rw [HRO.out];exact HZ.out);rw [HRO.out];have HX1:=Qq hx1;clear hx1 hn hy;go_wp2_with fail;go_ret2;exact⟨by rw [HSO.out] <;> rfl,HX1.out.alloc _⟩
theorem Qgq {md:Md} {f:List Nd} :Jr md (Qg f)=0↔Jr md f=0:=by
 constructor
 ·intro h;obtain⟨h1,_,h3,h4⟩:=Ya h;have hc:=Qbx h;have h2:=Gd hc;have h3':Yw (Jh f) 15=true:=by unfold Jh at h3⊢;rw [h2]at h3;exact h3
  have h4':Yg f md.rel.length md.val.length=true:=by
   unfold Yg at h4⊢;rw [h2,Ky hc]at h4;rw [hc];exact h4
  unfold Jr;rw [if_neg (by rw [h1];simp),if_neg (by rw [hc];simp),if_neg (by rw [h3'];simp),if_neg (by rw [h4'];simp)]
 intro h;obtain⟨h1,hc,h3,h4⟩:=Ya h;have h2:=Gd hc;have hcc:=Ky hc;have h3':Yw (Jh (Qg f)) 15=true:=by unfold Jh at h3⊢;rw [h2];exact h3
 have h4':Yg (Qg f) md.rel.length md.val.length=true:=by
  unfold Yg at h4⊢;rw [h2,hcc];rw [hc]at h4;exact h4
 unfold Jr;rw [if_neg (by rw [h1];simp),if_neg (by rw [hcc];simp),if_neg (by rw [h3'];simp),if_neg (by rw [h4'];simp)]
def tw(k:Int)(s t:Tr):Tr:=.two ⟨k,0,0,0,0,0⟩ s t
def ng(s:Tr):Tr:=.one ⟨4,0,0,0,0,0⟩ s
section
variable {k j:Int} {s t:Tr}
structure Zzm (f g:List Nd):Prop where
 cA:check (Xi f g)=0
 tA:Ql (Xi f g)=tw 5 (Ql f) (Ql g)
 cO:check (orN f g)=0
 tO:Ql (orN f g)=tw 6 (Ql f) (Ql g)
 cN:check (Jp f)=0
 tN:Ql (Jp f)=ng (Ql f)
 eF:(Qn f).2=0
 eG:(Qn g).2=0
 eN:(Qn (Jp f)).2=0
end
def Zze:KM:=⟨Unit,fun _ _ _=>True,fun _ _=>False⟩
def Qta(g:Int)(f:List Nd):List Nd:=Jc ⟨11,0,0,g,0,0⟩ [f]
def Qrv:List Nd:=Ur 0
def Qpl(g:Int)(x:List Nd):List Nd:=De g x Qrv
def Zq6(g:Int)(x:List Nd):List Nd:=Qta g (Cj x (Xi Qrv (Qpl g x)))
def Zz2(g:Int)(x:List Nd):List Nd:=Qrl (Qpl g x) (Zq6 g x)
def Zz3(g:Int)(x:List Nd):List Nd:=Cj (Qpl g x) (Qta g (Cj x Qrv))
section
variable {g:Int} {x:List Nd} {M:KM} {w:M.W}
end
def exB:List Nd:=Ki 0 (Ur 0)
def exF:List Nd:=Xi (Ki 0 (Ur 0)) (Jp (Ur 0))
def exZ:List Nd:=Xi (De 1 Sf (Ur 0)) (Jp (Ki 0 (Ur 0)))
def exW:List Nd:=Xi (Ur 0) (Jp (De 1 (Ur 0) (Ur 1)))
def fT(i:Int):Tr:=.leaf ⟨3,i,0,0,0,0⟩
def pF:List Nd:=Ur 0
def f1A:List Nd:=Xi (Ki 0 pF) (Jp pF)
def tA:List Nd:=Cj (Ki 0 pF) pF
def Zzc(lg:Int)(f:List Nd)(md md':Md)(k':Nat):Prop:=∃out,Qxa md (2^0) out/\Qzf lg f (Gq md (Kr out)) (Ri out 0) md' k'
theorem Qwz {w:World} {cs:List Value} {T:TypeId} {B:Nat}(hB:B=w.heap.size) {k:Nat} {z:Value}(h:cs[k]?=some z):(w.alloc (.cells cs.toArray T)).cell? ⟨B,k,none⟩=some z:=by
 subst hB;have:=Cl w cs.toArray T k z (by simpa using h)
 rwa [Un]at this
theorem Qf4 {w:World} {B:Nat}(hB:B=w.heap.size)(l:List Nat)(h:l.length<=100):Ji (w.alloc (.cells (l.map fun(z:Nat)=>Value.int .u64 (z:Int)).toArray 41)) (.slice (some ⟨B,0,none⟩) l.length l.length) l :=
 ⟨_,_,rfl,Nat.le_refl _,by unfold maxLen;omega,fun _=>⟨_,rfl,by rw [hB];simp,fun k z hk=>by
  rw [Un];exact Qwz hB (by rw [List.getElem?_map,hk];rfl)⟩⟩
theorem Qel {w:World} {u:Value} {md:Md}(h:MdV w u md):∃n A l c A' l' c',u=.agg #[.int .i64 n,.slice A l c,.slice A' l' c']:=by
 obtain⟨vv,vr,rfl,⟨A,c,rfl,_⟩,⟨A',c',rfl,_⟩⟩:=h;exact⟨_,_,_,_,_,_,_,rfl⟩
theorem Qcl {w:World} {u:Value} {md:Md}(h:MdV w u md):∃A l c A' l' c',u=.agg #[.int .i64 md.n,.slice A l c,.slice A' l' c']:=by
 obtain⟨vv,vr,rfl,⟨A,c,rfl,_⟩,⟨A',c',rfl,_⟩⟩:=h;exact⟨_,_,_,_,_,_,rfl⟩
theorem Qno {lg:Int} {f:List Nd} {ts:List Nat} {ws:List Int}(h:Zd lg f≠0):Bk lg f ts ws=Zd lg f:=by
 unfold Bk;rw [show(Zd lg f !=0)=true by simpa using h];rfl
theorem Qni {lg:Int} {f:List Nd} {ts:List Nat} {ws:List Int}(h:Zd lg f=0)(hl:ts.length≠ws.length):Bk lg f ts ws=3:=by
 unfold Bk;rw [show(Zd lg f !=0)=false by simpa using h,show(ts.length !=ws.length)=true by simpa using hl];rfl
noncomputable def lkN (lg:Int) (f:List Nd):List Bool->Nat->Int->Bool:=Yy lg (Zg (Qn f).1) (Zc (Qn f).1)
theorem Po {lg:Int} {f:List Nd} {ts:List Nat} {ws:List Int}(h:Zd lg f=0)(hl:ts.length=ws.length)(hc:Uy (lkN lg f) ts ws (Yf lg (Qn f).1)=none):Bk lg f ts ws=13:=by
 unfold Bk;unfold lkN at hc;rw [show(Zd lg f !=0)=false by simpa using h,show(ts.length !=ws.length)=false by simpa using hl,hc];rfl
theorem Qbv {lg:Int} {f:List Nd} {ts:List Nat} {ws:List Int} {al:List Bool}(h:Zd lg f=0)(hl:ts.length=ws.length)(hc:Uy (lkN lg f) ts ws (Yf lg (Qn f).1)=some al):Bk lg f ts ws=bif Kg al (Xo f)then 13 else 0:=by
 unfold Bk;unfold lkN at hc;rw [show(Zd lg f !=0)=false by simpa using h,show(ts.length !=ws.length)=false by simpa using hl,hc];rfl
theorem Qby {lk:List Bool->Nat->Int->Bool} {ts:List Nat} {ws:List Int} {al:List Bool} {k t:Nat} {i:Int}(ht:ts[k]?=some t)(hi:ws[k]?=some i):
 Uy lk (ts.drop k) (ws.drop k) al=bif decide (t < al.length)&&(al.getD t false&&lk al t i)then Uy lk (ts.drop (k+1)) (ws.drop (k+1)) (al.set t false)else none:=by
 obtain⟨h1,e1⟩:=List.getElem?_eq_some_iff.1 ht;obtain⟨h2,e2⟩:=List.getElem?_eq_some_iff.1 hi;rw [List.drop_eq_getElem_cons h1,List.drop_eq_getElem_cons h2,e1,e2];rfl
theorem Qne {lk:List Bool->Nat->Int->Bool} {ts:List Nat} {ws:List Int} {al:List Bool} :Uy lk (ts.drop ts.length) (ws.drop ts.length) al=some al:=by
 rw [List.drop_length];cases ws.drop ts.length <;> rfl
theorem Qnw(lg:Int)(ve:Value)(ts:List Nat)(ws:List Int)(v:Value)(f:List Nd)(w:World)(h:Fml w v f)(he:Elm w ve lg ts ws)(hws:∀i∈ws,Yj i):
 Calls Tryz.prog 23 #[v,ve] w fun e w'=>e=.returned (.int .i64 (Bk lg f ts ws))/\Ext w w':=by
 have H:=Qq h;obtain⟨Af,cf,rfl,_⟩:=Qa h;obtain⟨vt,vw,rfl,⟨At,ct,rfl,ht1,ht2,ht3⟩,⟨Aw,cw,rfl,hw1,hw2,hw3⟩⟩:=he;unfold maxLen at ht2 hw2;have HT:=Qq ht3;have HW:=Qq hw3;have HWS:=Qq hws;have HX0:=Qq (show Ext w (w.alloc (.cells #[.int .i64 lg,.slice At ts.length ct,.slice Aw ws.length cw] 38))from Qz.alloc _);have HW0:=Qq (show(w.alloc (.cells #[.int .i64 lg,.slice At ts.length ct,.slice Aw ws.length cw] 38)).heap[w.heap.size]?=some (.cells #[.int .i64 lg,.slice At ts.length ct,.slice Aw ws.length cw] 38 (0,0))from heap_alloc_new _ _);clear h ht3 hw3 hws;obtain⟨er,her⟩:∃er,er=Zd lg f:=⟨_,rfl⟩
 have HER:=Qq her;by_cases hz:er=0
 ·subst hz;have HA:=Qq (Qvk (Sy her.symm));clear her;by_cases hll:ts.length=ws.length
  ·have HLL:=Qq hll;have hlb:((ts.length:Int) !=(ws.length:Int))=false:=by rw [hll];simp
   clear hll;go_enter Tryz.func23,Tryz.ntmps23;go_wp2_with fail;refine(Gr lg _ f _ (H.out.ext HX0.out)).mono ?_;rintro e w1 ⟨hx1,hr⟩;obtain⟨b,g,rfl,hb,hg,hE⟩:=(hr.resolve_left (fun h=>h.1 HER.out.symm)).2;have HE:=Qq hE;have HX1:=Qq hx1;have HGB:=Qq (show w.heap.size < g by simp at hg;omega);have HB1:=Qq ((hx1.block (by simp)).trans HW0.out);obtain⟨⟨q0,q1,q2⟩,_,ql⟩:=Gf HB1.out;obtain⟨m,hm⟩:∃m,m=2^(Qn f).1.length:=⟨_,rfl⟩;have HM:=Qq hm;have hm12:m<=4096:=by rw [hm,<-HA.out.al];exact HA.out.le
   obtain⟨base,hbase⟩:∃b,b=(Qn f).1:=⟨_,rfl⟩;have HBASE:=Qq hbase;rw [<-hbase]at HE;clear hr hb hg hE hx1 hm hbase;go_wp2_with fail;go_loopw [29] (fun v wr=>∃k:Nat,v=.int .i64 (k:Int)/\k<=ts.length/\Hid (∃al,Uf wr b g lg base (Xo f) (Zg base) (Zc base) al/\Ext w wr/\wr.heap[w.heap.size]?=some (.cells #[.int .i64 lg,.slice At ts.length ct,.slice Aw ws.length cw] 38 (0,0))/\al.length=m/\Uy (lkN lg f) (ts.drop k) (ws.drop k) al=Uy (lkN lg f) ts ws (Yf lg (Qn f).1))) (fun v _=>ts.length - (intOf v).toNat)
   case atStart=>exact⟨0,rfl,Nat.zero_le _,Qq ⟨Yf lg base,HE.out,HX0.out.trans HX1.out,HB1.out,by rw [Bi,HM.out,HBASE.out],by rw [HBASE.out,List.drop_zero,List.drop_zero]⟩⟩
   case round =>
    clear q0 q1 q2 ql;obtain⟨k,rfl,hk,HREL⟩:=hrel;obtain⟨al,hE,hx,hbx,hal,hck⟩:=HREL.out;have HE2:=Qq hE;have HX:=Qq hx;have HBX:=Qq hbx;have HAL:=Qq hal;have HCK:=Qq hck;obtain⟨_,_,_,_,x0,x1,x2,x5,xl⟩:=hE.cells;rw [hal]at x5;obtain⟨⟨q0,q1,q2⟩,_,ql⟩:=Gf hbx;clear HREL hE hx hbx hal hck;by_cases hlt2:k < ts.length
    ·have hk1:(k:Int) < (ts.length:Int):=by omega
     have hlt3:k < ws.length:=by have:=HLL.out;omega
     have hk2:(k:Int) < (ws.length:Int):=by omega
     obtain⟨t,ht⟩:∃t,ts[k]?=some t:=⟨_,Qv hlt2⟩;obtain⟨i,hi⟩:∃i,ws[k]?=some i:=⟨_,Qv hlt3⟩;obtain⟨ad,rfl,hb1,hc1⟩:=HT.out (by intro e;rw [e]at hlt2;simp at hlt2);obtain⟨aw,rfl,hb2,hc2⟩:=HW.out (by intro e;rw [e]at hlt3;simp at hlt3);have a0:=(HX.out.cell (p:=ad.add k) (Qj hb1)).trans (hc1 k t ht);have a1:=(HX.out.cell (p:=aw.add k) (Qj hb2)).trans (hc2 k i hi);have HSTEP:=Qq (Qby (lk:=lkN lg f) (al:=al) ht hi);rw [HCK.out]at HSTEP;have HI:=Qq (HWS.out i (List.mem_of_getElem? hi));have hwm:IntKind.u64.wrap (m:Int)=(m:Int):=by rw [IntKind.wrap_u64];omega
     clear ht hi hc1 hc2;by_cases htm:t < m
     ·have htm1:(t:Int) < (m:Int):=by omega
      obtain⟨av,hav⟩:∃x,x=al.getD t false:=⟨_,rfl⟩;have HAV:=Qq hav;have gc:wr.cell? ⟨g,t,none⟩=some (.bool av):=HE2.out.row.cell (by rw [hav,Qk,List.getElem?_eq_getElem (by rw [HAL.out];exact htm)];rfl);have gl:g < wr.heap.size:=HE2.out.row.lt.2;clear hav;cases av
      ·have HR:=Qq (Po (lg:=lg) (f:=f) (ts:=ts) (ws:=ws) HER.out.symm HLL.out (by rw [HSTEP.out,<-HAV.out,Bool.false_and,Bool.and_false];rfl));go_wp2_with fail;go_ret;exact⟨by rw [HR.out] <;> rfl,HX.out⟩
      obtain⟨lk,hlk⟩:∃x,x=lkN lg f al t i:=⟨_,rfl⟩;have HLK:=Qq (show Yy lg (Zg base) (Zc base) al t i=lk by rw [hlk,HBASE.out];rfl);have HLK2:=Qq hlk;clear hlk;have HKS:=Qq (show ∀k∈Zg base,k.place < 64/\al.length<=k.holds.length from fun k hk=>by have h:=HA.out.ks k (by rw [<-HBASE.out];exact hk);exact⟨h.1,by rw [HAL.out,HM.out,h.2];exact Nat.le_refl _⟩);have HCS:=Qq (show ∀c∈Zc base,c.place < 64/\c.x.length=al.length/\c.y.length=al.length/\0<=c.group/\c.group < 16 from fun c hc=>by have:=HA.out.cs c (by rw [<-HBASE.out];exact hc);rw [HAL.out,HM.out];exact this);go_wp2_with fail;refine(Qkz b lg base (Xo f) (Zg base) (Zc base) al t i _ HE2.out.eng HA.out.lgr (by rw [HAL.out];exact htm) (by rw [HAL.out];exact hm12) HI.out HKS.out HCS.out).mono ?_
      rintro e w3 ⟨rfl,hx3⟩;rw [HLK.out];have HX3:=Qq hx3;clear x0 x1 x2 x5 xl gc gl q0 q1 q2 ql;cases lk
      ·have HR:=Qq (Po (lg:=lg) (f:=f) (ts:=ts) (ws:=ws) HER.out.symm HLL.out (by rw [HSTEP.out,<-HLK2.out,Bool.and_false,Bool.and_false];rfl));go_wp2_with fail;go_ret;exact⟨by rw [HR.out] <;> rfl,HX.out.trans HX3.out⟩
      have HE3:=Qq (HE2.out.ext hx3);obtain⟨_,_,_,_,_,_,_,y5,yl⟩:=HE3.out.cells;rw [HAL.out]at y5;have gfr:=HE3.out.row.frozen t;have gc:w3.cell? ⟨g,t,none⟩=some (.bool true):=HE3.out.row.cell (by rw [HAV.out,Qk,List.getElem?_eq_getElem (by rw [HAL.out];exact htm)];rfl);have gl:g < w3.heap.size:=HE3.out.row.lt.2;clear hx3;go_wp2_with fail;go_roundw
      case rel=>exact⟨k+1,by go_num,by omega,Qq ⟨al.set t false,HE3.out.set t false,(HX.out.trans HX3.out).setCell (p:=⟨g,t,none⟩) (Nat.le_of_lt HGB.out) _,(Below.heap_setCell _ _ _ _ (Nat.ne_of_lt HGB.out)).trans ((HX3.out.block (Qm HBX.out)).trans HBX.out),by rw [List.length_set];exact HAL.out,by
       rw [HSTEP.out,<-HAV.out,<-HLK2.out,decide_eq_true (by rw [HAL.out];exact htm)];rfl⟩⟩
      case measure=>simp [intOf];omega
     have htm1:(m:Int)<=(t:Int):=by omega
     have HR:=Qq (Po (lg:=lg) (f:=f) (ts:=ts) (ws:=ws) HER.out.symm HLL.out (by rw [HSTEP.out,decide_eq_false (by rw [HAL.out];exact htm)];rfl));go_wp2_with fail;go_ret;exact⟨by rw [HR.out] <;> rfl,HX.out⟩
    obtain rfl:ts.length=k:=by omega
    have HR:=Qq (Qbv (lg:=lg) (f:=f) (ts:=ts) (ws:=ws) (al:=al) HER.out.symm HLL.out (by rw [<-HCK.out,Qne]));go_wp2_with fail;refine(Ew b lg base (Xo f) (Zg base) (Zc base) al _ HE2.out.eng (by rw [HAL.out,HM.out];exact HA.out.root)).mono ?_;rintro e w3 ⟨rfl,rfl⟩;clear x0 x1 x2 x5 xl q0 q1 q2 ql;cases hs:Kg al (Xo f)
    ·rw [hs]at HR;clear hs;go_wp2_with fail;go_ret;exact⟨by rw [HR.out] <;> rfl,HX.out⟩
    rw [hs]at HR;clear hs;go_wp2_with fail;go_ret;exact⟨by rw [HR.out] <;> rfl,HX.out⟩
  have HLL:=Qq hll;have hlb:((ts.length:Int) !=(ws.length:Int))=true:=by simp;omega
  have HRE:=Qq (Qni (lg:=lg) (f:=f) HER.out.symm hll);clear hll;go_enter Tryz.func23,Tryz.ntmps23;go_wp2_with fail;refine(Gr lg _ f _ (H.out.ext HX0.out)).mono ?_;rintro e w1 ⟨hx1,hr⟩;obtain⟨b,g,rfl,hb,hg,hE⟩:=(hr.resolve_left (fun h=>h.1 HER.out.symm)).2;have HX1:=Qq hx1;have HB1:=Qq ((hx1.block (by simp)).trans HW0.out);obtain⟨⟨q0,q1,q2⟩,_,ql⟩:=Gf HB1.out;clear hr hb hg hE hx1;go_wp2_with fail;go_ret;exact⟨by rw [HRE.out] <;> rfl,HX0.out.trans HX1.out⟩
 have HZ:=Qq hz;have HRE:=Qq (show Bk lg f ts ws=er by rw [Qno (by rw [<-her];exact hz),her]);clear her;go_enter Tryz.func23,Tryz.ntmps23;go_wp2_with fail;refine(Gr lg _ f _ (H.out.ext HX0.out)).mono ?_;rintro e w1 ⟨hx1,hr⟩;obtain⟨_,rfl⟩:=hr.resolve_right (fun h=>HZ.out (HER.out.trans h.1));rw [<-HER.out];have HX1:=Qq hx1;clear hx1 hr;go_wp2_with fail;go_ret;exact⟨by rw [HRE.out] <;> rfl,HX0.out.trans HX1.out⟩
theorem Qff {why:List Bool->Nat->Option Int} {P:Int->Prop}(hw:∀al t i,why al t=some i->P i):∀(r:List Nat) (s:List Bool×List (Nat×Int)),(∀p∈s.2,P p.2)->∀p∈(Vl why r s).2,P p.2
 |[],_,h=>h
 |t :: r,s,h=>by
  rw [Te];refine Qff hw r _ ?_;unfold Xs;cases s.1.getD t false
  ·exact h
  simp only [cond_true];cases hq:why s.1 t with
  |none=>exact h
  |some i =>
   intro p hp;rcases List.mem_append.1 hp with hp|hp
   ·exact h p hp
   rw [List.mem_singleton.1 hp];exact hw _ _ _ hq
theorem Qgr {why:List Bool->Nat->Option Int} {P:Int->Prop}(hw:∀al t i,why al t=some i->P i):∀(k:Nat) (s:List Bool×List (Nat×Int)),(∀p∈s.2,P p.2)->∀p∈(Ui why k s).2,P p.2
 |0,_,h=>h
 |k+1,s,h=>by
  rw [Ws];cases(Vl why (List.range s.1.length) s).2.length==s.2.length
  ·exact Qgr hw k _ (Qff hw _ s h)
  exact h
theorem Qpi {lg:Int} {f:List Nd}(hl:(Qn f).1.length<=12):∀i∈(Xe lg f).2.map Prod.snd,Yj i:=by
 intro i hi;obtain⟨p,hp,rfl⟩:=List.mem_map.1 hi;refine Qgr (P:=Yj) (fun al t i h=> ?_) _ _ (fun p hp=>by cases hp) p hp;have h1:=List.mem_of_find?_eq_some h;obtain⟨j,hj,rfl⟩:=List.mem_map.1 h1;have:=List.mem_range.1 hj;exact⟨by omega,by omega⟩
end Go.Proofs.YtkmclcmnoicagaaGreatDoor
