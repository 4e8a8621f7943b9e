/- The model that types make of a formula is a model of it (plain). -/
import Derived.Test.YtkmclcmnoicagaaGreatDoorM01
import Derived.Test.YtkmclcmnoicagaaGreatDoorM24
import Derived.Test.YtkmclcmnoicagaaGreatDoorM38
import Derived.Test.YtkmclcmnoicagaaGreatDoorM23
import Derived.Test.YtkmclcmnoicagaaGreatDoorM26
import Derived.Test.YtkmclcmnoicagaaGreatDoorM21
import Derived.Test.YtkmclcmnoicagaaGreatDoorM17
import Derived.Test.YtkmclcmnoicagaaGreatDoorM34
import Derived.Test.YtkmclcmnoicagaaGreatDoorM37
import Derived.Test.YtkmclcmnoicagaaGreatDoorM10
import Derived.Deep.QuietTactic
import Derived.BigQuiet
import Derived.Test.YtkmclcmnoicagaaGreatDoorM11
import Derived.Test.YtkmclcmnoicagaaGreatDoorM09
namespace Go.Proofs.YtkmclcmnoicagaaGreatDoor
set_option maxRecDepth 100000
set_option maxHeartbeats 128000000
theorem Qv1.mdC {lg:Int} {f:List Nd} {S:List Nat} {md:Md}(h:Qv1 lg f S md):Eg lg (Qr f).1 S (Yk (Je (Qg f))) (Yk (Yl (Qg f))) md:=⟨h.n,h.rel,h.vlen,h.vlow,h.fact⟩
theorem Zzw {lg:Int} {f:List Nd} {S:List Nat} {md:Md}(he:Zr lg f=0)(h:Qv1 lg f S md):Xk lg f md 0:=by
 have hE:=Lr he;have hh:=(Jw hE.ck).2.2.2;have ha4:=Wx (Rq (Qg f) 0 hh (by decide));have hf8:=Wx (Tj (Qg f) 0 hh (by decide));have hm:=h.mdC;have hF:=Qcb hE h.al h.sel (fun n a hm=>(Qt7 hE he _ hm).1.agent (.inl (hE.b.closed.know n a hm).1)|>.2);have hlt:∀u∈S,u < 2^(Qr f).1.length:=fun u hu=>by have:=Kh (h.al u hu);rwa [Rk]at this
 have hg:=Qcl hE.b ⟨hE.l0,hE.l6⟩ hF hlt hm h.pos h.le ha4 hf8;have hl:Up f=false:=by
  unfold Zr at he;cases ha:decide (lg < 0)||decide (6 < lg)
  ·rw [ha]at he;exact(Mv he).2.1
  rw [ha]at he;cases he
 have hch:=Qeb hE.ck hl hg.ck (by rw [hm.rel];simp) hm.vlen.symm;have hch2:Yy md f=0:=by
  obtain⟨h1,_,h3,h4⟩:=Ks hch;have h2:=Ng hE.ck;have h3':Ym (Yn f) 15=true:=by unfold Yn at h3⊢;rw [h2]at h3;exact h3
  have h4':Kf f md.rel.length md.val.length=true:=by
   unfold Kf at h4⊢;rw [h2,Ux hE.ck]at h4;rw [hE.ck];exact h4
  unfold Yy;rw [if_neg (by rw [h1];simp),if_neg (by rw [hE.ck];simp),if_neg (by rw [h3'];simp),if_neg (by rw [h4'];simp)]
 have hnn:md.n.toNat=S.length:=by rw [hm.n];exact Int.toNat_natCast _
 have hp:=h.pos;refine⟨hch2,by omega,hg,fun w hw=>(Qwc hE hF hlt hm rfl rfl w).2 ?_⟩;rw [hw];exact h.root
def Hk(lg:Int)(f:List Nd)(md:Md)(k:Nat)(er:Int):Prop :=
 (er≠0/\md=⟨0,[],[]⟩/\k=0/\(((lg < 0\/6 < lg)/\er=1)\/((0<=lg/\lg<=6)/\check f≠0/\er=check f)\/((0<=lg/\lg<=6)/\check f=0/\(Jj f).length=0/\er=8)\/
  ((0<=lg/\lg<=6)/\check f=0/\(Jj f).length≠0/\Zr lg (Jj f)≠0/\er=if Zr lg (Jj f)=6 then 14 else Zr lg (Jj f))\/
  ((0<=lg/\lg<=6)/\check f=0/\(Jj f).length≠0/\Zr lg (Jj f)=0/\Kt lg (Jj f)=false/\er=14)\/
  ((0<=lg/\lg<=6)/\check f=0/\(Jj f).length≠0/\Zr lg (Jj f)=0/\Kt lg (Jj f)=true/\6 < (Qr (Jj f)).1.length/\er=8)))\/
 (er=0/\check f=0/\(Jj f).length≠0/\Zr lg (Jj f)=0/\Kt lg (Jj f)=true/\Xk lg (Jj f) md k)
open Go.RowKit
def Nts(w:World)(v:Value)(l:List Nat):Prop:=∃A c,v=.slice A l.length c/\l.length<=c/\c<=maxLen/\Hid (∀i,i < l.length->∃ad,A=some ad/\ad.block < w.heap.size/\w.cell? (ad.add i)=some (.int .i64 ((l.getD i 0:Nat):Int)))
def Fm(base:Nat)(w:World)(v:Value)(l:List Nat):Prop:=w.ownsRow base 3 1 v l.length (Gv l)
section
variable {base:Nat} {w w':World} {v:Value} {l:List Nat}
theorem Nts.ext(h:Nts w v l)(he:Ext w w'):Nts w' v l:=by
 obtain⟨A,c,e,h1,h2,h3⟩:=h;refine⟨A,c,e,h1,h2,Qq fun i hi=> ?_⟩;obtain⟨ad,e,hl,hc⟩:=h3.out i hi;exact⟨ad,e,Qy hl he.size,(he.cell (p:=ad.add i) (Qj hl)).trans hc⟩
theorem Fm.ext(h:Fm base w v l)(he:Ext w w'):Fm base w' v l:=Zf h he
theorem Fm.nil(base:Nat)(w:World):Fm base w (.slice none 0 0) []:=World.ownsRow_nil _ _ _ _
theorem Qq9(w:World):Nts w (.slice none 0 0) []:=⟨none,0,rfl,Nat.le_refl _,by unfold maxLen;omega,Qq fun i hi=>absurd hi (by simp)⟩
theorem Fm.nts(h:Fm base w v l):Nts w v l:=by
 have h0:=h;rcases h.2 with⟨e,e0⟩|⟨g,cap,cur,e,hb,hg,hnc,hm,hs,ht⟩
 ·have:l= []:=List.length_eq_zero_iff.1 e0;subst this e;exact Qq9 w
 subst e;refine⟨_,cap,rfl,hnc,hm,Qq fun i hi=> ?_⟩;obtain⟨g',cap',e,hgl,_,_,_,hc⟩:=Ge h0 hi rfl;injection e with e1 e2 e3;injection e1 with e1;injection e1 with e1;subst e1;exact⟨_,rfl,hgl,by rw [Ef];exact hc⟩
theorem Fm.snoc {w7:World} {u:Nat} {v7:Value}(h:w7.ownsRow base 3 1 v7 (l.length+1) (Gv l++ [.int .i64 (u:Int)])):Fm base w7 v7 (l++ [u]):=by
 unfold Fm Gv;rw [List.map_append,List.length_append];exact h
theorem Jn.snoc {w7:World} {u:Nat} {v7:Value}(h:w7.ownsRow base 41 1 v7 (l.length+1) (uV l++ [.int .u64 (u:Int)])):Jn base w7 v7 (l++ [u]):=by
 unfold Jn uV;rw [List.map_append,List.length_append];exact h
end
theorem Qtn {s k:Nat}(hs:Qw s):bits .and .u64 ((s:Int) / 2^k) 1=((if s.testBit k then 1 else 0:Nat):Int):=by
 have hlt:s / 2^k < 18446744073709551616:=Nat.lt_of_le_of_lt (Nat.div_le_self _ _) hs;rw [Tm,show(1:Int)=((1:Nat):Int)from rfl,bits_and_u64_nat _ 1 hlt (by decide),Nat.and_one_is_mod,Nat.testBit_eq_decide_div_mod_eq];rcases Nat.mod_two_eq_zero_or_one (s / 2^k)with h|h <;> rw [h] <;> rfl
theorem Qoe {x:Nat} :IntKind.u64.wrap (1*2^x)=IntKind.u64.wrap ((2:Int)^x):=by rw [Int.one_mul]
theorem Qoh {x:Nat} :IntKind.u64.wrap (0*2^x)=0:=by
 rw [Int.zero_mul];decide
theorem Qhy {z:Nat}(h:Qw z):bits .or .u64 (z:Int) 0=(z:Int):=by
 have:=Bk (a:=z) (b:=0) h (by show(0:Nat) < _;omega);rw [Nat.or_zero]at this;exact this
def spa(B:Nat)(vr:Value)(k:Nat):Prop:=k < B\/vr.ownBlock=some k
structure ArI (w0 wr:World) (mb B:Nat) (n:Int) (vv:Value) (vals:List Nat) (vr:Value) (rows:List (List Nat)):Prop where
 ext:Ext w0 wr
 lo:w0.heap.size<=mb
 lt:mb < B
 top:B<=wr.heap.size
 cell:wr.heap[mb]?=some (.cells #[.int .i64 n,vv,vr] 26 (0,0))
 val:Jn B wr vv vals
 rel:∃us:List Value,us.length=rows.length/\wr.ownsRow B 23 1 vr us.length us/\∀(k:Nat) u r,us[k]?=some u->rows[k]?=some r->Frz (spa B vr) wr (fun w'=>Jv w' u r)
 dr:∀g,vr.ownBlock=some g->vv.ownBlock≠some g
section
variable {w0 wr W:World} {mb B:Nat} {n:Int} {vv vr:Value} {vals:List Nat} {rows:List (List Nat)}
theorem ArI.start(he:Ext w0 wr)(hm:w0.heap.size<=mb)(hB:mb < B)(hS:B<=wr.heap.size)(hc:wr.heap[mb]?=some (.cells #[.int .i64 n,.slice none 0 0,.slice none 0 0] 26 (0,0))):ArI w0 wr mb B n (.slice none 0 0) [] (.slice none 0 0) []:=
 ⟨he,hm,hB,hS,hc,Jn.nil _ _,⟨[],rfl,World.ownsRow_nil _ _ _ _,fun k u r hu _=>by simp at hu⟩,fun g hg=>by cases hg⟩
theorem ArI.next(h:ArI w0 wr mb B n vv vals vr rows)(he:Ext wr W):ArI w0 W mb B n vv vals vr rows:=by
 obtain⟨us,e,h1,h2⟩:=h.rel;exact⟨h.ext.trans he,h.lo,h.lt,Qx h.top he.size,(he.block (Qf h.cell)).trans h.cell,h.val.ext he,⟨us,e,Zf h1 he,fun k u r hu hr=>(h2 k u r hu hr).next (Yr.of_ext he) fun _ _ h=>h⟩,h.dr⟩
theorem ArI.mlt(h:ArI w0 wr mb B n vv vals vr rows):mb < wr.heap.size:=Qf h.cell
theorem ArI.cells(h:ArI w0 wr mb B n vv vals vr rows):(wr.cell? ⟨mb,0,none⟩=some (.int .i64 n)/\wr.cell? ⟨mb,1,none⟩=some vv/\wr.cell? ⟨mb,2,none⟩=some vr)/\(wr.frozen? ⟨mb,0,none⟩=false/\wr.frozen? ⟨mb,1,none⟩=false/\wr.frozen? ⟨mb,2,none⟩=false)/\mb < wr.heap.size :=
 Zt h.cell
theorem ArI.pushVal {w7 W6:World} {v7:Value} {s:Nat}(h:ArI w0 wr mb B n vv vals (.slice none 0 0) [])(hx6:Ext wr W6)
 (ho:w7.ownsRow B 41 1 v7 (vals.length+1) (uV vals++ [.int .u64 (s:Int)]))(hg7:W6.grownBy w7 vv.ownBlock):
 ArI w0 (w7.setCell ⟨mb,1,none⟩ v7) mb B n v7 (vals++ [s]) (.slice none 0 0) []:=by
 have h6:=h.next hx6;have hlt:=h.lt;have hvl:=fun k hk=>(World.ownsRow.lt h6.val k hk)
 have hv7:=fun k hk=>(World.ownsRow.lt ho k hk)
 have hx7:Ext w0 w7:=h6.ext.grown hg7 (fun k hk=>by have:=(hvl k hk).1;have:=h.lo;omega);have hm7:w7.heap[mb]?=some (.cells #[.int .i64 n,vv,.slice none 0 0] 26 (0,0)):=(hg7.block mb h6.mlt (fun e=>by have:=(hvl _ e.symm).1;omega)).trans h6.cell;refine⟨hx7.setCell (p:=⟨mb,1,none⟩) h.lo _,h.lo,h.lt,Qx h6.top (Qx hg7.size (by simp [World.setCell])),?_,?_,⟨[],rfl,World.ownsRow_nil _ _ _ _,fun k u r hu _=>by simp at hu⟩,fun g hg=>by cases hg⟩
 ·simp only [World.setCell,Array.getElem?_modify,hm7,if_true,Option.map_some];simp
 exact Zs (Jn.snoc ho) fun k hk=>Below.heap_setCell _ _ _ _ (show k≠mb by have:=(hv7 k hk).1;omega)
theorem Jn.low {base B:Nat} {w:World} {v:Value} {l:List Nat}(h:Jn base w v l)(hb:B<=base):Jn B w v l :=
 ⟨h.1,h.2.imp id fun⟨g,cap,cur,e,h1,r⟩=>⟨g,cap,cur,e,Qx hb h1,r⟩⟩
theorem ArI.pushRow {wa w7 W6:World} {v7 u:Value} {r:List Nat} {us:List Value}(h:ArI w0 wa mb B n vv vals vr rows)(e:us.length=rows.length)(h10:wa.ownsRow B 23 1 vr us.length us)
 (h20:∀(k:Nat) u r,us[k]?=some u->rows[k]?=some r->Frz (spa B vr) wa (fun w'=>Jv w' u r))(hxe:Ext wa W6)(hu:Jn B wa u r)(hne:∀g,u.ownBlock=some g->vr.ownBlock≠some g)
 (ho:w7.ownsRow B 23 1 v7 (us.length+1) (us++ [u]))(hg7:W6.grownBy w7 vr.ownBlock)(ha7:v7.ownBlock=vr.ownBlock\/v7.ownBlock=some W6.heap.size):
 ArI w0 (w7.setCell ⟨mb,2,none⟩ v7) mb B n vv vals v7 (rows++ [r]):=by
 have h6:=h.next hxe;have hlt:=h.lt;have h1:=Zf h10 hxe;have h2:=fun k u r hu hr=>(h20 k u r hu hr).next (X':=spa B vr) (Yr.of_ext hxe) fun _ _ h=>h
 have hvl:=fun k hk=>(h1.lt k hk)
 have hml:=h6.mlt;have s7:=hg7.size;have hv7:=fun k hk=>(World.ownsRow.lt ho k hk)
 have hx7:Ext w0 w7:=h6.ext.grown hg7 (fun k hk=>by have:=(hvl k hk).1;have:=h.lo;omega);have hset:∀k,k≠mb->(w7.setCell ⟨mb,2,none⟩ v7).heap[k]?=w7.heap[k]?:=fun k e=>Below.heap_setCell _ _ _ _ e
 have hmb7:w7.heap[mb]?=some (.cells #[.int .i64 n,vv,vr] 26 (0,0)):=(hg7.block mb hml (fun e=>by have:=(hvl _ e.symm).1;omega)).trans h6.cell;have hss:(w7.setCell ⟨mb,2,none⟩ v7).heap.size=w7.heap.size:=by simp [World.setCell]
 have hsame:Yr (spa B vr) W6 (w7.setCell ⟨mb,2,none⟩ v7):=⟨by omega,fun k hk hl=>by
  rw [hset k (fun e=>hk (.inl (by omega))),hg7.block k hl (fun e=>hk (.inr e.symm))]⟩
 have hspm:∀k,k < W6.heap.size->spa B v7 k->spa B vr k:=fun k hk hs=>by
  rcases hs with e|e
  ·exact .inl e
  rcases ha7 with e2|e2
  ·exact .inr (e2▸e)
  rw [e2]at e;injection e with e;omega
 refine⟨hx7.setCell (p:=⟨mb,2,none⟩) h.lo _,h.lo,h.lt,Qx h6.top (by omega),?_,?_,⟨us++ [u],by simp [e],?_,fun k x y hx hy=> ?_⟩,fun g hg hv=> ?_⟩
 ·simp only [World.setCell,Array.getElem?_modify,hmb7,if_true,Option.map_some];simp
 ·exact Zs h6.val fun k hk=>by
   have hk1:=World.ownsRow.lt h6.val k hk;rw [hset k (by omega),hg7.block k hk1.2 (fun e=>h.dr k e.symm hk)]
 ·rw [List.length_append,List.length_singleton];exact Zs ho fun k hk=>hset k (by have:=(hv7 k hk).1;omega)
 ·by_cases hk:k < us.length
  ·rw [List.getElem?_append_left hk]at hx;rw [List.getElem?_append_left (by omega)]at hy;exact(h2 k x y hx hy).next hsame hspm
  have hkl:=(List.getElem?_eq_some_iff.1 hx).1;rw [List.length_append,List.length_singleton]at hkl;have ek:k=us.length:=by omega
  subst ek;rw [List.getElem?_append_right (Nat.le_refl _),Nat.sub_self]at hx;rw [e,List.getElem?_append_right (Nat.le_refl _),Nat.sub_self]at hy;obtain rfl:u=x:=by simpa using hx
  obtain rfl:r=y:=by simpa using hy
  intro w' hw';have this:Jn B w' u r:=Zs hu fun g hg=>by
   have hg1:=World.ownsRow.lt hu g hg;have hl6:=hxe.size;have hsp:¬spa B v7 g:=fun hs=>by
    rcases hs with e|e
    ·omega
    rcases ha7 with e2|e2
    ·exact hne g hg (e2▸e)
    rw [e2]at e;injection e with e;omega
   rw [hw'.2 g hsp (by omega),hset g (by omega),hg7.block g (by omega) (fun e=>hne g hg e.symm),hxe.block hg1.2]
  exact this.u64s
 rcases ha7 with e2|e2
 ·exact h.dr g (e2▸hg) hv
 rw [e2]at hg;injection hg with hg;have:=(World.ownsRow.lt h6.val g hv).2;omega
theorem ArI.other(h:ArI w0 wr mb B n vv vals vr rows) {r:Nat}(h0:w0.heap.size<=r)(h1:r < B)(h2:r≠mb)(v:Value):ArI w0 (wr.setCell ⟨r,0,none⟩ v) mb B n vv vals vr rows:=by
 have hset:∀k,k≠r->(wr.setCell ⟨r,0,none⟩ v).heap[k]?=wr.heap[k]?:=fun k e=>Below.heap_setCell _ _ _ _ e
 obtain⟨us,e,h10,h20⟩:=h.rel;refine⟨h.ext.setCell (p:=⟨r,0,none⟩) h0 _,h.lo,h.lt,Qx h.top (by simp [World.setCell]),(hset mb (Ne.symm h2)).trans h.cell,Zs h.val fun k hk=>hset k (by have:=(World.ownsRow.lt h.val k hk).1;omega),⟨us,e,Zs h10 fun k hk=>hset k (by have:=(h10.lt k hk).1;omega),fun k u y hu hy=> ?_⟩,h.dr⟩;exact(h20 k u y hu hy).next (X':=spa B vr) ⟨by simp [World.setCell],fun k hk _=>hset k (fun e=>hk (.inl (by omega)))⟩ (fun _ _ h=>h)
theorem ArI.mdv {w':World}(h:ArI w0 wr mb B n vv vals vr rows)(hs:Yr (fun k=>k < B) wr w'):MdV w' (.agg #[.int .i64 n,vv,vr]) ⟨n,vals,rows⟩:=by
 have hrow:Jn B w' vv vals:=Zs h.val fun k hk=>hs.2 k (by have:=(World.ownsRow.lt h.val k hk).1;omega) (World.ownsRow.lt h.val k hk).2
 refine⟨_,_,rfl,hrow.u64s,?_⟩;obtain⟨us,e,h10,h2⟩:=h.rel;have h1:=Zs (w':=w') h10 fun k hk=>hs.2 k (by have:=(h10.lt k hk).1;omega) (h10.lt k hk).2
 have hsx:Yr (spa B vr) wr w':=⟨hs.1,fun k hk hl=>hs.2 k (fun e=>hk (.inl e)) hl⟩;rcases h1.2 with⟨ev,e0⟩|⟨g,cap,cur,ev,hb,hg,hnc,hm,hs',ht⟩
 ·subst ev;have:rows= []:=List.length_eq_zero_iff.1 (by omega);subst this;exact⟨none,0,rfl,Nat.le_refl _,by unfold maxLen;omega,fun h=>absurd rfl h⟩
 subst ev;refine⟨_,cap,by rw [e],by show rows.length<=cap;omega,hm,fun _=>⟨_,rfl,Qf hg,fun k s hk=> ?_⟩⟩;have hkl:k < rows.length:=(List.getElem?_eq_some_iff.1 hk).1;obtain⟨u,hu⟩:∃u,us[k]?=some u:=⟨_,List.getElem?_eq_getElem (by omega)⟩;refine⟨u,?_,h2 k u s hu hk w' hsx⟩;rw [Ef];have h3:=hu;rw [<-ht,List.getElem?_take]at h3
 split at h3
 ·have h4:cur[k]?=some u:=by simpa using h3
  simp [World.cell?,hg,h4]
 cases h3
end
theorem Ql7 {n a v:Nat}(hn:n<=64)(ha:a<=4)(hv:v<=8):n*v<=512/\n*n<=4096/\n*n*a<=16384:=by
 have h1:n*v<=64*8:=Nat.mul_le_mul hn hv;have h2:n*n<=64*64:=Nat.mul_le_mul hn hn;have h3:n*n*a<=64*64*4:=Nat.mul_le_mul h2 ha;omega
theorem Tc {x:Nat}(h:x < 9223372036854775808):wrap64 (x:Int)=(x:Int):=by unfold wrap64;omega
theorem Wg(n a v:Nat)(hn:n<=64)(ha:a<=4)(hv:v<=8)(w:World):
 Calls Tryz.prog 88 #[.int .i64 (n:Int),.int .i64 (a:Int),.int .i64 (v:Int)] w fun e w'=>e=.returned (.int .i64 ((Jo n a v:Nat):Int))/\w=w':=by
 obtain⟨b1,b2,b3⟩:=Ql7 hn ha hv;obtain⟨p,hp⟩:∃z,z=n*v:=⟨_,rfl⟩;obtain⟨q,hq⟩:∃z,z=n*n:=⟨_,rfl⟩;obtain⟨r,hr⟩:∃z,z=n*n*a:=⟨_,rfl⟩;rw [<-hp]at b1;rw [<-hq]at b2;rw [<-hr]at b3;have f1:wrap64 ((n:Int)*(v:Int))=(p:Int):=by
  rw [show(n:Int)*(v:Int)=((n*v:Nat):Int) by simp,<-hp];exact Tc (by omega)
 have f2:wrap64 ((n:Int)*(n:Int))=(q:Int):=by
  rw [show(n:Int)*(n:Int)=((n*n:Nat):Int) by simp,<-hq];exact Tc (by omega)
 have f3:wrap64 ((q:Int)*(a:Int))=(r:Int):=by
  rw [show(q:Int)*(a:Int)=((q*a:Nat):Int) by simp,hq,<-hr];exact Tc (by omega)
 have HL:=Qq (show p+r=Jo n a v by rw [hp,hr];rfl);clear hn ha hv hp hq hr;go_enter Tryz.func88,Tryz.ntmps88;go_wp2_with fail;go_ret;exact⟨by rw [<-HL.out] <;> first|rfl|simp,rfl⟩
theorem Qba(R B n rest:Nat)(w:World)(hn:n < 64)(hr:Qw rest)(hR:w.heap[R]?=some (.cells #[.int .u64 (rest:Int)] 41 (0,0)))(hB:w.cell? ⟨B,0,none⟩=some (.int .i64 (n:Int)))(hBl:B < w.heap.size):
 Calls Tryz.prog 156 #[.pointer (some ⟨R,0,none⟩),.pointer (some ⟨B,0,none⟩)] w fun e w'=>e=.returned (.int .u64 ((rest % 2^n:Nat):Int))/\∃W,Ext w W/\W.heap=w.heap/\w'=W.setCell ⟨R,0,none⟩ (.int .u64 ((rest / 2^n:Nat):Int)):=by
 have hmn:min n 64=n:=by omega
 have hn1:(n:Int) < 64:=by omega
 have hwa:=Cj hn;have hlt:2^n - 1 < 18446744073709551616:=by
  have:=Sc (show n<=64 by omega);have:=Nat.two_pow_pos n;omega
 have hand:=Ud hr (show Qw (2^n - 1)from hlt);rw [Nat.and_two_pow_sub_one_eq_mod]at hand;obtain⟨al,hal⟩:∃z,z=2^n - 1:=⟨_,rfl⟩;rw [<-hal]at hwa hand;obtain⟨md,hmd⟩:∃z,z=rest % 2^n:=⟨_,rfl⟩;rw [<-hmd]at hand⊢;have hdv:(rest:Int) / 2^n=((rest / 2^n:Nat):Int):=Tm _ _;obtain⟨dv,hdd⟩:∃z,z=rest / 2^n:=⟨_,rfl⟩;rw [<-hdd]at hdv⊢;have c0:w.cell? ⟨R,0,none⟩=some (.int .u64 (rest:Int)):=by simp [World.cell?,hR]
 have cf:w.frozen? ⟨R,0,none⟩=false:=by simp [World.frozen?,hR]
 have cl:=Qf hR;clear hlt hal hmd hdd hr hn;go_enter Tryz.func156,Tryz.ntmps156;go_upto_region 1 with(fail);go_quiet (fail);have HX:=Qq (show Ext w (w.drewN nq)from(Ext.refl w).drewN nq);have HH:=Qq (show(w.drewN nq).heap=w.heap from rfl);obtain⟨W,hW⟩:∃z,z=w.drewN nq:=⟨_,rfl⟩;rw [<-hW]at HX HH⊢;have d0:=(HX.out.cell (p:=⟨R,0,none⟩) cl).trans c0;have d1:=(HX.out.cell (p:=⟨B,0,none⟩) hBl).trans hB;have df:W.frozen? ⟨R,0,none⟩=false:=by
  have:=HX.out.block (k:=R) cl;simp [World.frozen?,this,hR]
 have dl:=Qy cl HX.out.size;clear hW c0 cf cl hB hBl hR;go_wp2_with fail;go_ret;exact⟨rfl,W,HX.out,HH.out,rfl⟩
theorem Qqz(s:Nat):(Zc s).length<=64:=by
 rw [Qkd];unfold Xx;exact Qx List.countP_le_length (by rw [List.length_range];exact Nat.le_refl _)
theorem Qds(s:Nat)(hs:Qw s)(w:World)(hT:Vf w):
 Calls Tryz.prog 95 #[.int .u64 (s:Int)] w fun e w'=>∃u,e=.returned u/\Fm w.heap.size w' u (Zc s)/\Ext w w':=by
 have HT:=Qq hT;have HS:=Qq hs;obtain⟨iI,hiI,hzI0,hzI1,hzI2⟩:=info_parts Qvo;clear hT hs;go_enter Tryz.func95,Tryz.ntmps95;go_wp2_with fail;go_loopw [0,3] (fun v0 v3 wr=>∃cur:Nat,v0=.int .u64 (cur:Int)/\Hid (∃pre,pre++Zc cur=Zc s/\Qw cur/\Ext w wr/\Fm w.heap.size wr v3 pre)) (fun v _ _=>(Zc (intOf v).toNat).length)
 case atStart=>exact⟨s,rfl,Qq ⟨[],rfl,HS.out,Qz,Fm.nil _ _⟩⟩
 case round =>
  obtain⟨cur,rfl,HREL⟩:=hrel;obtain⟨pre,hpre,hcw,hx,hmd⟩:=HREL.out;have HP:=Qq hpre;have HC:=Qq hcw;have HX:=Qq hx;have HM:=Qq hmd;obtain⟨A1,c1,rfl⟩:=Qt hmd;clear HREL hpre hcw hx hmd;by_cases h0:cur=0
  ·subst h0;have hne:(((0:Nat):Int) !=0)=false:=by simp
   go_wp2_with fail;go_ret;exact⟨_,rfl,by rw [<-HP.out,Qbv,List.append_nil];exact HM.out,HX.out⟩
  have hne:((cur:Int) !=0)=true:=by simpa using h0
  have H0:=Qq h0;have HST:=Qq (Qby HC.out h0);have hpl:pre.length+1<=64:=by
   have h1:=Qqz s;rw [<-HP.out,HST.out,List.length_append,List.length_cons]at h1;omega
  have hw1:IntKind.u64.wrap ((cur:Int) - 1)=((cur - 1:Nat):Int):=by
   have:=HC.out;unfold Qw at this;rw [IntKind.wrap_u64];omega
  have hand:bits .and .u64 (cur:Int) ((cur - 1:Nat):Int)=((cur&&&(cur - 1):Nat):Int):=Ud HC.out (Nat.lt_of_le_of_lt (Nat.sub_le _ _) HC.out);have hc3:pre.length+1<=maxLen:=by unfold maxLen;omega
  have hc4:(pre.length+1)*8<=140737488355328:=by omega
  clear h0;go_wp2_with fail;refine(Qbw cur HC.out H0.out _ (HT.out.ext HX.out)).mono ?_;rintro e w1 ⟨rfl,rfl⟩;go_wp2_with(at_builtin;refine wpList_append_own_at _ rfl _ _ 36 rfl w.heap.size 3 iI (.int .i64 0) 1 8 Tryz.underlying36 hiI hzI0 hzI1 hzI2 rfl (by decide) _ pre.length (Gv pre) rfl (Zf HM.out (Qz.alloc _)) ⟨_,0,none⟩ 1 1 [.int .i64 ((Fp cur:Nat):Int)] rfl rfl (Jk _ _ _ (by simp)) (fun u hu=>by rw [List.mem_singleton.1 hu];rfl) hc3 hc4 (Qx HX.out.size (by simp)) ?_);intro v7 w7 hown7 hgrow7 _ _;have HX7:=Qq (show Ext w w7 from(HX.out.alloc _).grown hgrow7 (fun k hk=>(HM.out.lt k hk).1))
  have HM7:=Qq (Fm.snoc hown7);obtain⟨A7,c7,rfl⟩:=Qt hown7;clear hown7 hgrow7;go_wp2_with fail;go_roundw
  case rel=>exact⟨cur&&&(cur - 1),rfl,Qq ⟨pre++ [Fp cur],by rw [List.append_assoc,<-HP.out,HST.out];rfl,Nat.lt_of_le_of_lt Nat.and_le_left HC.out,HX7.out,HM7.out⟩⟩
  case measure =>
   show(Zc ((cur&&&(cur - 1):Nat):Int).toNat).length < (Zc ((cur:Nat):Int).toNat).length;rw [Int.toNat_natCast,Int.toNat_natCast,HST.out,List.length_cons];omega
theorem Qbk(s:Nat)(hs:Qw s)(v:Value)(ws:List Nat)(w:World)(h:Nts w v ws)(hlt:∀u∈ws,u < 64)(hl:ws.length<=64):
 Calls Tryz.prog 160 #[.int .u64 (s:Int),v] w fun e w'=>e=.returned (.int .u64 ((Vm s ws:Nat):Int))/\w=w':=by
 have HS:=Qq hs;have HL:=Qq hlt;obtain⟨A,c,rfl,_,_,HA⟩:=h;clear hs hlt;go_enter Tryz.func160,Tryz.ntmps160;go_wp2_with fail;go_loopw [5,10] (fun vo vi wr=>∃i:Nat,vi=.int .i64 (i:Int)/\i<=ws.length/\∃z:Nat,vo=.int .u64 (z:Int)/\Hid (z=Kk i (fun i=>s.testBit (ws.getD i 0))/\w=wr)) (fun _ v _=>ws.length - (intOf v).toNat)
 case atStart=>exact⟨0,rfl,Nat.zero_le _,0,rfl,Qq ⟨rfl,rfl⟩⟩
 case round =>
  obtain⟨i,rfl,hi,z,rfl,HREL⟩:=hrel;obtain⟨hz,rfl⟩:=HREL.out;have HZ:=Qq hz;have HZW:=Qq (show Qw z by rw [hz];exact Lm (by omega) _);clear HREL hz;by_cases hlt2:i < ws.length
  ·have hk1:(i:Int) < (ws.length:Int):=by omega
   have hk2:(i:Int) < 64:=by omega
   have hmi:min i 64=i:=by omega
   obtain⟨ad,rfl,hadl,hc⟩:=HA.out i hlt2;have hul:ws.getD i 0 < 64:=HL.out _ (by rw [Qk,Qv hlt2];exact List.getElem_mem _);have HST:=Qq (Rc i (fun i=>s.testBit (ws.getD i 0)));obtain⟨u,hu⟩:∃u,u=ws.getD i 0:=⟨_,rfl⟩;have hand:=Qtn (k:=u) HS.out;have HST2:=Qq (show Kk (i+1) (fun i=>s.testBit (ws.getD i 0))=if s.testBit u then z|||2^i else z by rw [HST.out,HZ.out,hu]);rw [<-hu]at hc hul;have hu1:(u:Int) < 64:=by omega
   have hmu:min u 64=u:=by omega
   have al:(ad.add i).block < w.heap.size:=by rw [Qc];exact hadl
   clear hu HST HZ;cases htb:s.testBit u
   ·rw [htb]at hand HST2;have hand2:bits .and .u64 ((s:Int) / 2^u) 1=0:=hand;have hsh:=Qoh (x:=i);have hor:=Qhy HZW.out;clear htb hand;go_wp2_with fail;go_roundw
    case rel=>exact⟨i+1,by go_num,by omega,z,rfl,Qq ⟨by rw [HST2.out];rfl,by first|rfl|trivial⟩⟩
    case measure=>simp [intOf];omega
   rw [htb]at hand HST2;have hand2:bits .and .u64 ((s:Int) / 2^u) 1=1:=hand;have hsh:=Qoe (x:=i);have hor:=Qvn HZW.out (show i < 64 by omega);clear htb hand;go_wp2_with fail;go_roundw
   case rel=>exact⟨i+1,by go_num,by omega,z|||2^i,rfl,Qq ⟨by rw [HST2.out];rfl,by first|rfl|trivial⟩⟩
   case measure=>simp [intOf];omega
  obtain rfl:ws.length=i:=by omega
  have HE:=Qq (show Vm s ws=z from HZ.out.symm);go_wp2_with fail;go_ret;exact⟨by rw [HE.out] <;> rfl,rfl⟩
theorem Qbh:(Tryz.prog.info? 23).map (fun i=>(i.zero,i.size,i.bytes))=some (some (.slice none 0 0),1,24):=by kernel_rfl
theorem Qj0 {α β:Type} {f:α->β} {l:List α} {k:Nat}(hk:k < l.length):(l.take (k+1)).map f=(l.take k).map f++ [f l[k]]:=by
 rw [List.take_add_one,Qv hk,Option.toList_some,List.map_append];rfl
theorem Qb5(vm v:Value)(md:Md)(ws:List Nat)(w:World)(hm:MdV w vm md)(hok:md.ok)(hck:Zj md=0)(h:Nts w v ws)(hlt:∀u∈ws,u < md.n.toNat)(hl:ws.length<=64):
 Calls Tryz.prog 96 #[vm,v] w fun e w'=>∃u,e=.returned u/\Frz (fun k=>k < w.heap.size) w' (fun W=>MdV W u (Jp md ws))/\Ext w w':=by
 have HM:=Qq hm;have HN:=Qq h;have HOK:=Qq hok;have HLT:=Qq hlt;obtain⟨hn1,hn64,hr4,hv8,hrl0,_,_⟩:=Zv hck;have HL64:=Qq (show ∀u∈ws,u < 64 from fun u hu=>by have:=hlt u hu;omega);have HRL:=Qq (show ∀r∈md.rel,r.length=md.n.toNat from fun r hr=>by have:=hrl0 r hr;omega);obtain⟨iU,hiU,hzU0,hzU1,hzU2⟩:=info_parts Ej;obtain⟨iS,hiS,hzS0,hzS1,hzS2⟩:=info_parts Qbh;obtain⟨A,c,rfl,hlc,hcm,HA⟩:=h;obtain⟨vv,vr,rfl,hv,hr⟩:=hm;obtain⟨Av,cv,rfl,hvc,hvm,HV⟩:=Gy hv;obtain⟨Ar,cr,rfl,hrc,hrm,HR⟩:=Bq hr;obtain⟨val,hval⟩:∃z,z=md.val:=⟨_,rfl⟩;obtain⟨rel,hrel0⟩:∃z,z=md.rel:=⟨_,rfl⟩;have HVAL:=Qq hval
 have HREL0:=Qq hrel0;have HVW:=Qq (show ∀s∈val,Qw s by rw [hval];exact hok.val);have HRW:=Qq (show ∀r∈rel,∀s∈r,Qw s by rw [hrel0];exact hok.rel);rw [<-hval]at HV hv8 hvc⊢;rw [<-hrel0]at HR HRL hr4 hrc⊢;clear hlt hv hr hrl0 hok hck hval hrel0 hn1 hn64;obtain⟨W0,hW0⟩:∃W,W=(w.alloc (.cells #[.int .i64 md.n,.slice Av val.length cv,.slice Ar rel.length cr] 26)).alloc (.cells #[.int .i64 0,.slice none 0 0,.slice none 0 0] 26):=⟨_,rfl⟩;have X0:=Qq (show Ext w W0 by rw [hW0];exact(Qz.alloc _).alloc _);obtain⟨b,hb⟩:∃b,b=w.heap.size:=⟨_,rfl⟩;have B0:=Qq (show W0.heap[b]?=some (.cells #[.int .i64 md.n,.slice Av val.length cv,.slice Ar rel.length cr] 26 (0,0)) by rw [hW0,hb];exact((Qz.alloc _).block (by simp)).trans (heap_alloc_new _ _))
 have B1:=Qq (show W0.heap[b+1]?=some (.cells #[.int .i64 0,.slice none 0 0,.slice none 0 0] 26 (0,0)) by
  have h1:=heap_alloc_new (w.alloc (.cells #[.int .i64 md.n,.slice Av val.length cv,.slice Ar rel.length cr] 26)) (.cells #[.int .i64 0,.slice none 0 0,.slice none 0 0] 26);rw [hW0,hb]
  simpa using h1)
 have hbs:W0.heap.size=b+1+1:=by rw [hW0,hb];simp
 have HBB:=Qq hb;obtain⟨mn,hmn⟩:∃z,z=md.n:=⟨_,rfl⟩;have HMN:=Qq hmn;rw [<-hmn]at B0;go_enter Tryz.func96,Tryz.ntmps96;go_upto_region 1 with(fail);rw [<-hW0,<-hmn];rw [<-hb];clear hW0 hb hmn;go_upto_region 2 with(fail);obtain⟨W1,hW1⟩:∃W,W=W0.alloc (.cells #[.int .i64 (ws.length:Int),.slice none 0 0,.slice none 0 0] 26):=⟨_,rfl⟩;rw [<-hW1];obtain⟨mb,hmb⟩:∃z,z=b+1+1:=⟨_,rfl⟩;rw [<-hmb];have HI0:=Qq (show ArI W0 W1 mb (mb+1) (ws.length:Int) (.slice none 0 0) ((val.take 0).map fun s=>Vm s ws) (.slice none 0 0) []from ArI.start (by rw [hW1];exact Qz.alloc _) (by omega) (Nat.lt_succ_self _) (by rw [hW1,World.size_alloc,hmb,<-hbs];exact Nat.le_refl _) (by rw [hW1,hmb,<-hbs];exact heap_alloc_new _ _))
 have HMB:=Qq hmb;obtain⟨e0,e1,e2,el⟩:=Zd ((HI0.out.ext.block (Qf B0.out)).trans B0.out);clear hW1 hbs hmb;go_wp2_with fail;clear e0 e1 e2 el;go_loopw [19] (fun v wr=>∃k:Nat,v=.int .i64 (k:Int)/\k<=val.length/\Hid (∃vx,ArI W0 wr mb (mb+1) (ws.length:Int) vx ((val.take k).map fun s=>Vm s ws) (.slice none 0 0) [])) (fun v _=>val.length - (intOf v).toNat)
 case atStart=>exact⟨0,rfl,Nat.zero_le _,Qq ⟨_,HI0.out⟩⟩
 case round =>
  clear HI0;obtain⟨k,rfl,hk,HREL⟩:=hrel;obtain⟨vx,hai⟩:=HREL.out;have HI:=Qq hai;have HX:=Qq (X0.out.trans hai.ext);clear HREL;by_cases hlt2:k < val.length
  ·have hk1:(k:Int) < (val.length:Int):=by omega
   obtain⟨ad,rfl,hadl,hcz⟩:=HV.out k hlt2;have a0:=(HX.out.cell (p:=ad.add k) (Qj hadl)).trans hcz;have al:(ad.add k).block < wr.heap.size:=by rw [Qc];exact Qy hadl HX.out.size
   have HSW:=Qq (show Qw (val.getD k 0)from HVW.out _ (by rw [Qk,Qv hlt2];exact List.getElem_mem _));have HNX:=Qq (show(val.take (k+1)).map (fun s=>Vm s ws)=(val.take k).map (fun s=>Vm s ws)++ [Vm (val.getD k 0) ws]from by
    rw [Qj0 hlt2,Qk,Qv hlt2];rfl)
   obtain⟨s,hs⟩:∃s,s=val.getD k 0:=⟨_,rfl⟩;rw [<-hs]at a0 HSW HNX;obtain⟨vs,hvs⟩:∃z,z=(val.take k).map (fun s=>Vm s ws):=⟨_,rfl⟩;have hvl:vs.length<=8:=by rw [hvs,List.length_map,List.length_take];omega
   rw [<-hvs]at HI HNX;obtain⟨Ax,cx,rfl⟩:=Qt HI.out.val;obtain⟨pz,hpz⟩:∃z,z=Vm s ws:=⟨_,rfl⟩;have HPZ:=Qq hpz;rw [<-hpz]at HNX;obtain⟨⟨m0,m1,m2⟩,⟨mf0,mf1,mf2⟩,ml⟩:=HI.out.cells;have hc3:vs.length+1<=maxLen:=by unfold maxLen;omega
   have hc4:(vs.length+1)*8<=140737488355328:=by omega
   clear hai hcz hs hvs hadl hpz m0 m2 mf0 mf2;go_upto_region 5 with(fail);clear a0 al;refine Vx 8 (fun w'=>w'.cell? (⟨mb,1,none⟩)=some (.slice Ax vs.length cx)) (by kernel_rfl) (xd ml m1) (fun hHeld=> ?_);refine utk 0 hHeld ?_;refine utk 1 hHeld ?_;refine utk 2 hHeld ?_;refine utk 3 hHeld ?_;refine Qs (rs:= [4]) (by kernel_rfl) (by simp) ?_;refine Ql.cons rfl (fun K hK=> ?_) Ql.nil;go_simp;refine(Qbk s HSW.out _ ws _ (HN.out.ext (HX.out.trans xv)) HL64.out hl).mono ?_;rintro e w6 ⟨rfl,rfl⟩;rw [<-HPZ.out];go_wp2_with fail;refine hK.out _ _ (xd ml m1) (fun hHeld=> ?_);clear hK K
   refine Qb ?_;refine Qs (rs:= [5]) (by kernel_rfl) (by simp) ?_;refine Ql.cons rfl (fun K hK=> ?_) Ql.nil;go_simp;refine hK.out _ _ (xd ml m1) (fun hHeld=> ?_);clear hK K;refine Qb ?_;refine Qs (rs:= [6]) (by kernel_rfl) (by simp) ?_;refine Ql.cons rfl (fun K hK=> ?_) Ql.nil;refine Di rfl (.tmp 24) (.tmp 28) 23 rfl (mb+1) 41 iU (.int .u64 0) 1 8 Tryz.underlying23 hiU hzU0 hzU1 hzU2 rfl (by decide) (.slice Ax vs.length cx) vs.length (uV vs) (by simp [Act.eval]) (Zf HI.out.val xv) ⟨wr.heap.size,0,none⟩ 1 1 [.int .u64 (pz:Int)] (by simp [Act.eval]) rfl (by exact Jk _ _ _ (by simp)) (fun u hu=>by rw [List.mem_singleton.1 hu];rfl) hc3 hc4 (Qx (show mb+1<=wr.heap.size from ml) (Ext.size (a:=wr) xv)) ?_
   intro v7 w7 hown7 hgrow7 hat7;have HP7:=Qq (HI.out.pushVal (show Ext wr _ from xv) hown7 hgrow7);have HB7:=Qq ((hgrow7.block mb (Qy ml (Ext.size (a:=wr) xv)) (fun e=>absurd (World.ownsRow.lt HI.out.val mb e.symm).1 (by omega))).trans ((Ext.block (a:=wr) (k:=mb) xv ml).trans HI.out.cell));obtain⟨⟨_,p1,_⟩,⟨_,pf1,_⟩,pl⟩:=Zt HB7.out;obtain⟨A7,c7,hv7⟩:=Qt hown7;subst hv7;clear hown7 hgrow7 hat7;refine hK.out _ _ p1 (fun hHeld=> ?_);clear hK K;refine Qb ?_;refine utk 7 hHeld ?_;refine Jm (by kernel_rfl) rfl (fun K hK=> ?_);go_simp;refine hK.out _ _ ?_;clear hK K;refine Qb ?_;refine Jl (by kernel_rfl) ?_ _
   go_wp2_with fail;go_roundw
   case rel=>exact⟨k+1,by go_num,by omega,Qq ⟨_,by rw [HNX.out];exact HP7.out⟩⟩
   case measure=>simp [intOf];omega
  obtain rfl:val.length=k:=by omega
  rw [List.take_length]at HI;have hai2:=HI.out;obtain⟨vals,hvals⟩:∃z,z=val.map (fun s=>Vm s ws):=⟨_,rfl⟩;have HVALS:=Qq hvals;rw [<-hvals]at HI;obtain⟨e0,e1,e2,el⟩:=Zd (((hai2.ext.block (Qf B0.out))).trans B0.out);clear hai hai2 hvals;go_wp2_with fail;clear e0 e1 e2 el;go_loopw [35] (fun v wr=>∃k:Nat,v=.int .i64 (k:Int)/\k<=rel.length/\Hid (∃vy,ArI W0 wr mb (mb+1) (ws.length:Int) vx vals vy ((rel.take k).map fun r=>ws.map fun w=>Vm (r.getD w 0) ws))) (fun v _=>rel.length - (intOf v).toNat)
  case atStart=>exact⟨0,rfl,Nat.zero_le _,Qq ⟨_,HI.out⟩⟩
  case round =>
   clear HI HX;obtain⟨k,rfl,hk,HREL⟩:=hrel;obtain⟨vy,hai⟩:=HREL.out;have HI:=Qq hai;have HX:=Qq (X0.out.trans hai.ext);clear HREL;by_cases hlt2:k < rel.length
   ·have hk1:(k:Int) < (rel.length:Int):=by omega
    obtain⟨ad,u,rfl,hadl,hcl,hu⟩:=HR.out k hlt2;have HNX:=Qq (show(rel.take (k+1)).map (fun r=>ws.map fun w=>Vm (r.getD w 0) ws)=(rel.take k).map (fun r=>ws.map fun w=>Vm (r.getD w 0) ws)++ [ws.map fun w=>Vm ((rel.getD k []).getD w 0) ws]from by
     rw [Qj0 hlt2,Qk (l:=rel),Qv hlt2];rfl)
    have hrm:rel.getD k []∈rel:=by rw [Qk,Qv hlt2];exact List.getElem_mem _
    have HRL1:=Qq (HRL.out _ hrm);have HRW1:=Qq (HRW.out _ hrm);obtain⟨Au,cu,rfl,huc,hum,HU⟩:=Gy hu;have a0:=(HX.out.cell (p:=ad.add k) (Qj hadl)).trans hcl;have al:(ad.add k).block < wr.heap.size:=by rw [Qc];exact Qy hadl HX.out.size
    obtain⟨r,hr⟩:∃r,r=rel.getD k []:=⟨_,rfl⟩;rw [<-hr]at a0 HNX HRL1 HRW1 HU;obtain⟨rows,hrows⟩:∃z,z=(rel.take k).map (fun r=>ws.map fun w=>Vm (r.getD w 0) ws):=⟨_,rfl⟩;have hrowl:rows.length<=4:=by rw [hrows,List.length_map,List.length_take];omega
    rw [<-hrows]at HI HNX;obtain⟨wa,hwa⟩:∃v,v=wr:=⟨_,rfl⟩;subst hwa;clear hai hadl hcl hu hrm hrows hr;go_wp2_with fail;clear a0 al;go_loopw [10,41] (fun v vi wr=>∃i:Nat,vi=.int .i64 (i:Int)/\i<=ws.length/\Hid (Ext wa wr/\Jn wa.heap.size wr v ((ws.take i).map fun w=>Vm (r.getD w 0) ws))) (fun _ v _=>ws.length - (intOf v).toNat)
    case atStart=>exact⟨0,rfl,Nat.zero_le _,Qq ⟨Qz,Jn.nil _ _⟩⟩
    case round =>
     obtain⟨i,rfl,hi,HREL⟩:=hrel;have HXB:=Qq HREL.out.1;have HMD:=Qq HREL.out.2;clear HREL;by_cases hlt3:i < ws.length
     ·have hk2:(i:Int) < (ws.length:Int):=by omega
      obtain⟨wd,rfl,hwdl,hwc⟩:=HA.out i hlt3;have HXT:=Qq (HX.out.trans HXB.out);have HN2:=Qq (show(ws.take (i+1)).map (fun w=>Vm (r.getD w 0) ws)=(ws.take i).map (fun w=>Vm (r.getD w 0) ws)++ [Vm (r.getD (ws.getD i 0) 0) ws]from by
       rw [Qj0 hlt3,Qk (l:=ws),Qv hlt3];rfl)
      have hum2:ws.getD i 0 < r.length:=by
       rw [HRL1.out];exact HLT.out _ (by rw [Qk,Qv hlt3];exact List.getElem_mem _)
      obtain⟨q,hq⟩:∃q,q=ws.getD i 0:=⟨_,rfl⟩;rw [<-hq]at hwc hum2 HN2;obtain⟨ud,rfl,hudl,huz⟩:=HU.out q hum2;have hum3:(q:Int) < (r.length:Int):=by omega
      have HSW:=Qq (show Qw (r.getD q 0)from HRW1.out _ (by rw [Qk,Qv hum2];exact List.getElem_mem _));obtain⟨s,hs⟩:∃s,s=r.getD q 0:=⟨_,rfl⟩;rw [<-hs]at huz HSW HN2;obtain⟨pz,hpz⟩:∃z,z=Vm s ws:=⟨_,rfl⟩;have HPZ:=Qq hpz;rw [<-hpz]at HN2;have b0:=(HXT.out.cell (p:=wd.add i) (Qj hwdl)).trans hwc;have bl:(wd.add i).block < wr.heap.size:=by rw [Qc];exact Qy hwdl HXT.out.size
      have c0:=(HXT.out.cell (p:=ud.add q) (Qj hudl)).trans huz;have cl:(ud.add q).block < wr.heap.size:=by rw [Qc];exact Qy hudl HXT.out.size
      obtain⟨out,hout⟩:∃z,z=(ws.take i).map (fun w=>Vm (r.getD w 0) ws):=⟨_,rfl⟩;have hol:out.length<=64:=by rw [hout,List.length_map,List.length_take];omega
      rw [<-hout]at HMD HN2;have hc3:out.length+1<=maxLen:=by unfold maxLen;omega
      have hc4:(out.length+1)*8<=140737488355328:=by omega
      obtain⟨A1,c1,rfl⟩:=Qt HMD.out;clear hwdl hwc hq hudl huz hs hpz hout hum2;go_wp2_with fail;refine(Qbk s HSW.out _ ws _ (HN.out.ext HXT.out) HL64.out hl).mono ?_;rintro e w6 ⟨rfl,rfl⟩;rw [<-HPZ.out];go_wp2_with(at_builtin;refine wpList_append_own_at _ rfl _ _ 23 rfl wa.heap.size 41 iU (.int .u64 0) 1 8 Tryz.underlying23 hiU hzU0 hzU1 hzU2 rfl (by decide) _ out.length (uV out) rfl (Zf HMD.out (Qz.alloc _)) ⟨_,0,none⟩ 1 1 [.int .u64 (pz:Int)] rfl rfl (Jk _ _ _ (by simp)) (fun u hu=>by rw [List.mem_singleton.1 hu];rfl) hc3 hc4 (Qx HXB.out.size (by simp)) ?_);intro v7 w7 hown7 hgrow7 _ _
      have HX7:=Qq (show Ext wa w7 from(HXB.out.alloc _).grown hgrow7 (fun k hk=>(World.ownsRow.lt HMD.out k hk).1));have HM7:=Qq (Jn.snoc hown7);obtain⟨A7,c7,rfl⟩:=Qt hown7;clear hown7 hgrow7;go_wp2_with fail;go_roundw
      case rel=>exact⟨i+1,by go_num,by omega,Qq ⟨HX7.out,by rw [HN2.out];exact HM7.out⟩⟩
      case measure=>simp [intOf];omega
     obtain rfl:ws.length=i:=by omega
     rw [List.take_length]at HMD;obtain⟨rw1,hrw1⟩:∃z,z=ws.map (fun w=>Vm (r.getD w 0) ws):=⟨_,rfl⟩;rw [<-hrw1]at HMD HNX;have HIA:=Qq (HI.out.next HXB.out);obtain⟨us,hus,hrow,hfz⟩:=HIA.out.rel;have HVB:=Qq (show ∀g,vy.ownBlock=some g->g < wa.heap.size from fun g hg=>by obtain⟨us2,_,h10,_⟩:=HI.out.rel;exact(h10.lt g hg).2);have HUS:=Qq hus;have HROW:=Qq hrow;have HFZ:=Qq hfz;have hul4:us.length<=4:=by rw [hus];exact hrowl
     obtain⟨⟨m0,m1,m2⟩,⟨mf0,mf1,mf2⟩,ml⟩:=HIA.out.cells;obtain⟨Av2,cv2,rfl⟩:=Qt hrow;obtain⟨A1,c1,rfl⟩:=Qt HMD.out;have hc3:us.length+1<=maxLen:=by unfold maxLen;omega
     have hc4:(us.length+1)*24<=140737488355328:=by omega
     clear hus hrow hfz m0 m1 hrw1 hrowl;obtain⟨wo,hwo⟩:∃v,v=wr:=⟨_,rfl⟩;subst hwo;go_wp2_with(at_builtin;refine wpList_append_own_at _ rfl _ _ 24 rfl (mb+1) 23 iS (.slice none 0 0) 1 24 Tryz.underlying24 hiS hzS0 hzS1 hzS2 rfl (by decide) _ us.length us rfl (Zf HROW.out (Qz.alloc _)) ⟨_,0,none⟩ 1 1 [.slice A1 rw1.length c1] rfl rfl (Jk _ _ _ (by simp)) (fun u hu=>by rw [List.mem_singleton.1 hu];rfl) hc3 hc4 (Qx (show mb+1<=wo.heap.size from ml) (by simp)) ?_);intro v7 w7 hown7 hgrow7 hnew7 hat7;have HP7:=Qq (HIA.out.pushRow HUS.out HROW.out HFZ.out (Qz.alloc _) (HMD.out.low (Nat.succ_le_of_lt HI.out.mlt)) (fun g hg hv=>absurd (HVB.out g hv) (by have:=(World.ownsRow.lt HMD.out g hg).1;omega)) hown7 hgrow7 (hat7.imp_right fun h=>by rw [h];simp))
     obtain⟨⟨p0,p1,p2⟩,⟨pf0,pf1,pf2⟩,pl⟩:=Zt ((hgrow7.block mb (Qy ml ((Ext.refl wo).alloc (.cells #[.slice A1 rw1.length c1] 23)).size) (fun e=>absurd (World.ownsRow.lt HROW.out mb e.symm).1 (by omega))).trans ((((Ext.refl wo).alloc (.cells #[.slice A1 rw1.length c1] 23)).block ml).trans HIA.out.cell));obtain⟨A7,c7,rfl⟩:=Qt hown7;clear hown7 hgrow7 hnew7 hat7 m2 mf0 mf1 mf2 p0 p1 pf0 pf1;go_wp2_with fail;go_roundw
     case rel=>exact⟨k+1,by go_num,by omega,Qq ⟨_,by rw [HNX.out];exact HP7.out⟩⟩
     case measure=>simp [intOf];omega
   obtain rfl:rel.length=k:=by omega
   rw [List.take_length]at HI;obtain⟨us,-,hrow,-⟩:=HI.out.rel;obtain⟨Az,cz,rfl⟩:=Qt HI.out.val;obtain⟨Ay,cy,rfl⟩:=Qt hrow;clear hrow;obtain⟨⟨m0,m1,m2⟩,⟨mf0,mf1,mf2⟩,ml⟩:=HI.out.cells;have HBR:=Qq ((hai.ext.block (Qf B1.out)).trans B1.out);obtain⟨⟨q0,q1,q2⟩,⟨f0,f1,f2⟩,ql⟩:=Zt HBR.out;have HLO:=Qq (show w.heap.size<=b+1 by rw [HBB.out];omega);have HLO2:=Qq (show b+1<=mb by rw [HMB.out];omega);have HE:=Qq (show Jp md ws=⟨(ws.length:Int),vals,rel.map fun r=>ws.map fun w=>Vm (r.getD w 0) ws⟩ by rw [HVALS.out,HVAL.out,HREL0.out];rfl);clear hai;go_wp2_with fail
   (try simp only [Exit.inBlock,Exit.then])
   refine bodyPost_ret (Pa Tryz.results96 _ _ rfl (Zl (Jh HBR.out _ _ _)) Tryz.underlying26 rfl (by kernel_rfl)) rfl ?_;refine⟨_,rfl,fun W hW=> ?_,Jc HX.out HLO.out _ _ _⟩;rw [HE.out];have h1:=HLO.out;have h2:=HLO2.out;exact HI.out.mdv ⟨Qx (by simp [World.setCell]) hW.1,fun k hk hl=>(hW.2 k (by omega) (by simpa [World.setCell]using hl)).trans (Vd (fun e=>hk (by rw [e];exact Nat.lt_succ_of_le HLO2.out)) _ _ _)⟩
end Go.Proofs.YtkmclcmnoicagaaGreatDoor
