/- The model that types make of a formula is a model of it (plain). -/
import Derived.Test.YtkmclcmnoicagaaGreatDoorK29
namespace Go.Proofs.YtkmclcmnoicagaaGreatDoor
set_option maxRecDepth 100000
set_option maxHeartbeats 128000000
theorem Qxv.mdC {lg:Int} {f:List Nd} {S:List Nat} {md:Md}(h:Qxv lg f S md):Wp lg (Qm f).1 S (Ya (Jr (Qg f))) (Ya (Yy (Qg f))) md:=⟨h.n,h.rel,h.vlen,h.vlow,h.fact⟩
theorem Zyh {lg:Int} {f:List Nd} {S:List Nat} {md:Md}(he:Yj lg f=0)(h:Qxv lg f S md):Uh lg f md 0:=by
 have hE:=Qql he;have hh:=(Jf hE.ck).2.2.2;have V6:=Oa (Nb (Qg f) 0 hh (by decide));have T5:=Oa (Sg (Qg f) 0 hh (by decide));have hm:=h.mdC;have hF:=Qaf hE h.al h.sel (fun n a hm=>(Qme hE he _ hm).1.agent (.inl (hE.b.closed.know n a hm).1)|>.2);have zG:∀u∈S,u < 2^(Qm f).1.length:=fun u hu=>by have:=Xg (h.al u hu);rwa [Lv]at this
 have hg:=Qat hE.b ⟨hE.l0,hE.l6⟩ hF zG hm h.pos h.le V6 T5;have hl:Dc f=false:=by
  unfold Yj at he;cases ha:decide (lg < 0)||decide (6 < lg)
  ·rw [ha]at he;exact(Py he).2.1
  rw [ha]at he;cases he
 have YE:=Qo1 hE.ck hl hg.ck (by rw [hm.rel];simp) hm.vlen.symm;have EF:Zi md f=0:=by
  obtain⟨h1,_,h3,h4⟩:=Vr YE;have h2:=Ud hE.ck;have aO:Js (Jm f) 15=true:=by unfold Jm at h3⊢;rw [h2]at h3;exact h3
  have VH:Yc f md.rel.length md.val.length=true:=by
   unfold Yc at h4⊢;rw [h2,Xi hE.ck]at h4;rw [hE.ck];exact h4
  unfold Zi;rw [if_neg (by rw [h1];simp),if_neg (by rw [hE.ck];simp),if_neg (by rw [aO];simp),if_neg (by rw [VH];simp)]
 have uM:md.n.toNat=S.length:=by rw [hm.n];exact Int.toNat_natCast _
 have hp:=h.pos;refine⟨EF,by omega,hg,fun w hw=>(Qi6 hE hF zG hm rfl rfl w).2 ?_⟩;rw [hw];exact h.root
def Qqj(lg:Int)(f:List Nd)(md:Md)(k:Nat)(er:Int):Prop :=
 (er≠0/\md=⟨0,[],[]⟩/\k=0/\(((lg < 0\/6 < lg)/\er=1)\/((0<=lg/\lg<=6)/\check f≠0/\er=check f)\/((0<=lg/\lg<=6)/\check f=0/\(Kq f).length=0/\er=8)\/
  ((0<=lg/\lg<=6)/\check f=0/\(Kq f).length≠0/\Yj lg (Kq f)≠0/\er=if Yj lg (Kq f)=6 then 14 else Yj lg (Kq f))\/
  ((0<=lg/\lg<=6)/\check f=0/\(Kq f).length≠0/\Yj lg (Kq f)=0/\Uf lg (Kq f)=false/\er=14)\/
  ((0<=lg/\lg<=6)/\check f=0/\(Kq f).length≠0/\Yj lg (Kq f)=0/\Uf lg (Kq f)=true/\6 < (Qm (Kq f)).1.length/\er=8)))\/
 (er=0/\check f=0/\(Kq f).length≠0/\Yj lg (Kq f)=0/\Uf lg (Kq f)=true/\Uh lg (Kq f) md k)
open Go.RowKit
def Nts(w:World)(v:Value)(l:List Nat):Prop:=∃A c,v=.slice A l.length c/\l.length<=c/\c<=maxLen/\Hid (∀i,i < l.length->∃ad,A=some ad/\ad.block < w.heap.size/\w.cell? (ad.add i)=some (.int .i64 ((l.getD i 0:Nat):Int)))
def Bh(base:Nat)(w:World)(v:Value)(l:List Nat):Prop:=w.ownsRow base 3 1 v l.length (Ga l)
section
variable {base:Nat} {w w':World} {v:Value} {l:List Nat}
theorem Nts.ext(h:Nts w v l)(he:Ext w w'):Nts w' v l:=by
 obtain⟨A,c,e,h1,h2,h3⟩:=h;refine⟨A,c,e,h1,h2,Qq fun i hi=> ?_⟩;obtain⟨ad,e,hl,hc⟩:=h3.out i hi;exact⟨ad,e,Qy hl he.size,(he.cell (p:=ad.add i) (Qj hl)).trans hc⟩
theorem Bh.ext(h:Bh base w v l)(he:Ext w w'):Bh base w' v l:=Zf h he
theorem Bh.nil(base:Nat)(w:World):Bh base w (.slice none 0 0) []:=World.ownsRow_nil _ _ _ _
theorem Qjb(w:World):Nts w (.slice none 0 0) []:=⟨none,0,rfl,Nat.le_refl _,by unfold maxLen;omega,Qq fun i hi=>absurd hi (by simp)⟩
theorem Bh.nts(h:Bh base w v l):Nts w v l:=by
 have h0:=h;rcases h.2 with⟨e,e0⟩|⟨g,cap,cur,e,hb,hg,iG,hm,hs,ht⟩
 ·have:l= []:=List.length_eq_zero_iff.1 e0;subst this e;exact Qjb w
 subst e;refine⟨_,cap,rfl,iG,hm,Qq fun i hi=> ?_⟩;obtain⟨g',cap',e,xO,_,_,_,hc⟩:=Us h0 hi rfl;injection e with e1 e2 e3;injection e1 with e1;injection e1 with e1;subst e1;exact⟨_,rfl,xO,by rw [Wc];exact hc⟩
theorem Bh.snoc {w7:World} {u:Nat} {v7:Value}(h:w7.ownsRow base 3 1 v7 (l.length+1) (Ga l++ [.int .i64 (u:Int)])):Bh base w7 v7 (l++ [u]):=by
 unfold Bh Ga;rw [List.map_append,List.length_append];exact h
theorem Zx.snoc {w7:World} {u:Nat} {v7:Value}(h:w7.ownsRow base 41 1 v7 (l.length+1) (uV l++ [.int .u64 (u:Int)])):Zx base w7 v7 (l++ [u]):=by
 unfold Zx uV;rw [List.map_append,List.length_append];exact h
end
theorem Qmq {s k:Nat}(hs:Qp s):bits .and .u64 ((s:Int) / 2^k) 1=((if s.testBit k then 1 else 0:Nat):Int):=by
 have zG:s / 2^k < 18446744073709551616:=Nat.lt_of_le_of_lt (Nat.div_le_self _ _) hs;rw [Tf,show(1:Int)=((1:Nat):Int)from rfl,bits_and_u64_nat _ 1 zG (by decide),Nat.and_one_is_mod,Nat.testBit_eq_decide_div_mod_eq];rcases Nat.mod_two_eq_zero_or_one (s / 2^k)with h|h <;> rw [h] <;> rfl
theorem Zq5 {x:Nat} :IntKind.u64.wrap (1*2^x)=IntKind.u64.wrap ((2:Int)^x):=by rw [Int.one_mul]
theorem Zq3 {x:Nat} :IntKind.u64.wrap (0*2^x)=0:=by
 rw [Int.zero_mul];decide
theorem Qeb {z:Nat}(h:Qp z):bits .or .u64 (z:Int) 0=(z:Int):=by
 have:=Xw (a:=z) (b:=0) h (by show(0:Nat) < _;omega);rw [Nat.or_zero]at this;exact this
def spa(B:Nat)(vr:Value)(k:Nat):Prop:=k < B\/vr.ownBlock=some k
structure ArI (w0 wr:World) (mb B:Nat) (n:Int) (vv:Value) (vals:List Nat) (vr:Value) (rows:List (List Nat)):Prop where
 ext:Ext w0 wr
 lo:w0.heap.size<=mb
 lt:mb < B
 top:B<=wr.heap.size
 cell:wr.heap[mb]?=some (.cells #[.int .i64 n,vv,vr] 26 (0,0))
 val:Zx B wr vv vals
 rel:∃us:List Value,us.length=rows.length/\wr.ownsRow B 23 1 vr us.length us/\∀(k:Nat) u r,us[k]?=some u->rows[k]?=some r->Frz (spa B vr) wr (fun w'=>Jb w' u r)
 dr:∀g,vr.ownBlock=some g->vv.ownBlock≠some g
section
variable {w0 wr W:World} {mb B:Nat} {n:Int} {vv vr:Value} {vals:List Nat} {rows:List (List Nat)}
theorem ArI.start(he:Ext w0 wr)(hm:w0.heap.size<=mb)(hB:mb < B)(hS:B<=wr.heap.size)(hc:wr.heap[mb]?=some (.cells #[.int .i64 n,.slice none 0 0,.slice none 0 0] 26 (0,0))):ArI w0 wr mb B n (.slice none 0 0) [] (.slice none 0 0) []:=
 ⟨he,hm,hB,hS,hc,Zx.nil _ _,⟨[],rfl,World.ownsRow_nil _ _ _ _,fun k u r hu _=>by simp at hu⟩,fun g hg=>by cases hg⟩
theorem ArI.next(h:ArI w0 wr mb B n vv vals vr rows)(he:Ext wr W):ArI w0 W mb B n vv vals vr rows:=by
 obtain⟨us,e,h1,h2⟩:=h.rel;exact⟨h.ext.trans he,h.lo,h.lt,Qx h.top he.size,(he.block (Qf h.cell)).trans h.cell,h.val.ext he,⟨us,e,Zf h1 he,fun k u r hu hr=>(h2 k u r hu hr).next (Yp.of_ext he) fun _ _ h=>h⟩,h.dr⟩
theorem ArI.mlt(h:ArI w0 wr mb B n vv vals vr rows):mb < wr.heap.size:=Qf h.cell
theorem ArI.cells(h:ArI w0 wr mb B n vv vals vr rows):(wr.cell? ⟨mb,0,none⟩=some (.int .i64 n)/\wr.cell? ⟨mb,1,none⟩=some vv/\wr.cell? ⟨mb,2,none⟩=some vr)/\(wr.frozen? ⟨mb,0,none⟩=false/\wr.frozen? ⟨mb,1,none⟩=false/\wr.frozen? ⟨mb,2,none⟩=false)/\mb < wr.heap.size :=
 Zc h.cell
theorem ArI.pushVal {w7 W6:World} {v7:Value} {s:Nat}(h:ArI w0 wr mb B n vv vals (.slice none 0 0) [])(uT:Ext wr W6)
 (ho:w7.ownsRow B 41 1 v7 (vals.length+1) (uV vals++ [.int .u64 (s:Int)]))(uF:W6.grownBy w7 vv.ownBlock):
 ArI w0 (w7.setCell ⟨mb,1,none⟩ v7) mb B n v7 (vals++ [s]) (.slice none 0 0) []:=by
 have h6:=h.next uT;have zG:=h.lt;have pT:=fun k hk=>(World.ownsRow.lt h6.val k hk)
 have qZ:=fun k hk=>(World.ownsRow.lt ho k hk)
 have kG:Ext w0 w7:=h6.ext.grown uF (fun k hk=>by have:=(pT k hk).1;have:=h.lo;omega);have hm7:w7.heap[mb]?=some (.cells #[.int .i64 n,vv,.slice none 0 0] 26 (0,0)):=(uF.block mb h6.mlt (fun e=>by have:=(pT _ e.symm).1;omega)).trans h6.cell;refine⟨kG.setCell (p:=⟨mb,1,none⟩) h.lo _,h.lo,h.lt,Qx h6.top (Qx uF.size (by simp [World.setCell])),?_,?_,⟨[],rfl,World.ownsRow_nil _ _ _ _,fun k u r hu _=>by simp at hu⟩,fun g hg=>by cases hg⟩
 ·simp only [World.setCell,Array.getElem?_modify,hm7,if_true,Option.map_some];simp
 exact Zp (Zx.snoc ho) fun k hk=>Below.heap_setCell _ _ _ _ (show k≠mb by have:=(qZ k hk).1;omega)
theorem Zx.low {base B:Nat} {w:World} {v:Value} {l:List Nat}(h:Zx base w v l)(hb:B<=base):Zx B w v l :=
 ⟨h.1,h.2.imp id fun⟨g,cap,cur,e,h1,r⟩=>⟨g,cap,cur,e,Qx hb h1,r⟩⟩
theorem ArI.pushRow {wa w7 W6:World} {v7 u:Value} {r:List Nat} {us:List Value}(h:ArI w0 wa mb B n vv vals vr rows)(e:us.length=rows.length)(xQ:wa.ownsRow B 23 1 vr us.length us)
 (aP:∀(k:Nat) u r,us[k]?=some u->rows[k]?=some r->Frz (spa B vr) wa (fun w'=>Jb w' u r))(XE:Ext wa W6)(hu:Zx B wa u r)(zQ:∀g,u.ownBlock=some g->vr.ownBlock≠some g)
 (ho:w7.ownsRow B 23 1 v7 (us.length+1) (us++ [u]))(uF:W6.grownBy w7 vr.ownBlock)(fB:v7.ownBlock=vr.ownBlock\/v7.ownBlock=some W6.heap.size):
 ArI w0 (w7.setCell ⟨mb,2,none⟩ v7) mb B n vv vals v7 (rows++ [r]):=by
 have h6:=h.next XE;have zG:=h.lt;have h1:=Zf xQ XE;have h2:=fun k u r hu hr=>(aP k u r hu hr).next (X':=spa B vr) (Yp.of_ext XE) fun _ _ h=>h
 have pT:=fun k hk=>(h1.lt k hk)
 have jE:=h6.mlt;have s7:=uF.size;have qZ:=fun k hk=>(World.ownsRow.lt ho k hk)
 have kG:Ext w0 w7:=h6.ext.grown uF (fun k hk=>by have:=(pT k hk).1;have:=h.lo;omega);have wV:∀k,k≠mb->(w7.setCell ⟨mb,2,none⟩ v7).heap[k]?=w7.heap[k]?:=fun k e=>Below.heap_setCell _ _ _ _ e
 have TY:w7.heap[mb]?=some (.cells #[.int .i64 n,vv,vr] 26 (0,0)):=(uF.block mb jE (fun e=>by have:=(pT _ e.symm).1;omega)).trans h6.cell;have jC:(w7.setCell ⟨mb,2,none⟩ v7).heap.size=w7.heap.size:=by simp [World.setCell]
 have dT:Yp (spa B vr) W6 (w7.setCell ⟨mb,2,none⟩ v7):=⟨by omega,fun k hk hl=>by
  rw [wV k (fun e=>hk (.inl (by omega))),uF.block k hl (fun e=>hk (.inr e.symm))]⟩
 have TE:∀k,k < W6.heap.size->spa B v7 k->spa B vr k:=fun k hk hs=>by
  rcases hs with e|e
  ·exact .inl e
  rcases fB with e2|e2
  ·exact .inr (e2▸e)
  rw [e2]at e;injection e with e;omega
 refine⟨kG.setCell (p:=⟨mb,2,none⟩) h.lo _,h.lo,h.lt,Qx h6.top (by omega),?_,?_,⟨us++ [u],by simp [e],?_,fun k x y hx hy=> ?_⟩,fun g hg hv=> ?_⟩
 ·simp only [World.setCell,Array.getElem?_modify,TY,if_true,Option.map_some];simp
 ·exact Zp h6.val fun k hk=>by
   have yP:=World.ownsRow.lt h6.val k hk;rw [wV k (by omega),uF.block k yP.2 (fun e=>h.dr k e.symm hk)]
 ·rw [List.length_append,List.length_singleton];exact Zp ho fun k hk=>wV k (by have:=(qZ k hk).1;omega)
 ·by_cases hk:k < us.length
  ·rw [List.getElem?_append_left hk]at hx;rw [List.getElem?_append_left (by omega)]at hy;exact(h2 k x y hx hy).next dT TE
  have wO:=(List.getElem?_eq_some_iff.1 hx).1;rw [List.length_append,List.length_singleton]at wO;have ek:k=us.length:=by omega
  subst ek;rw [List.getElem?_append_right (Nat.le_refl _),Nat.sub_self]at hx;rw [e,List.getElem?_append_right (Nat.le_refl _),Nat.sub_self]at hy;obtain rfl:u=x:=by simpa using hx
  obtain rfl:r=y:=by simpa using hy
  intro w' BQ;have this:Zx B w' u r:=Zp hu fun g hg=>by
   have vL:=World.ownsRow.lt hu g hg;have hl6:=XE.size;have LQ:¬spa B v7 g:=fun hs=>by
    rcases hs with e|e
    ·omega
    rcases fB with e2|e2
    ·exact zQ g hg (e2▸e)
    rw [e2]at e;injection e with e;omega
   rw [BQ.2 g LQ (by omega),wV g (by omega),uF.block g (by omega) (fun e=>zQ g hg e.symm),XE.block vL.2]
  exact this.u64s
 rcases fB with e2|e2
 ·exact h.dr g (e2▸hg) hv
 rw [e2]at hg;injection hg with hg;have:=(World.ownsRow.lt h6.val g hv).2;omega
theorem ArI.other(h:ArI w0 wr mb B n vv vals vr rows) {r:Nat}(h0:w0.heap.size<=r)(h1:r < B)(h2:r≠mb)(v:Value):ArI w0 (wr.setCell ⟨r,0,none⟩ v) mb B n vv vals vr rows:=by
 have wV:∀k,k≠r->(wr.setCell ⟨r,0,none⟩ v).heap[k]?=wr.heap[k]?:=fun k e=>Below.heap_setCell _ _ _ _ e
 obtain⟨us,e,xQ,aP⟩:=h.rel;refine⟨h.ext.setCell (p:=⟨r,0,none⟩) h0 _,h.lo,h.lt,Qx h.top (by simp [World.setCell]),(wV mb (Ne.symm h2)).trans h.cell,Zp h.val fun k hk=>wV k (by have:=(World.ownsRow.lt h.val k hk).1;omega),⟨us,e,Zp xQ fun k hk=>wV k (by have:=(xQ.lt k hk).1;omega),fun k u y hu hy=> ?_⟩,h.dr⟩;exact(aP k u y hu hy).next (X':=spa B vr) ⟨by simp [World.setCell],fun k hk _=>wV k (fun e=>hk (.inl (by omega)))⟩ (fun _ _ h=>h)
theorem ArI.mdv {w':World}(h:ArI w0 wr mb B n vv vals vr rows)(hs:Yp (fun k=>k < B) wr w'):MdV w' (.agg #[.int .i64 n,vv,vr]) ⟨n,vals,rows⟩:=by
 have zP:Zx B w' vv vals:=Zp h.val fun k hk=>hs.2 k (by have:=(World.ownsRow.lt h.val k hk).1;omega) (World.ownsRow.lt h.val k hk).2
 refine⟨_,_,rfl,zP.u64s,?_⟩;obtain⟨us,e,xQ,h2⟩:=h.rel;have h1:=Zp (w':=w') xQ fun k hk=>hs.2 k (by have:=(xQ.lt k hk).1;omega) (xQ.lt k hk).2
 have tD:Yp (spa B vr) wr w':=⟨hs.1,fun k hk hl=>hs.2 k (fun e=>hk (.inl e)) hl⟩;rcases h1.2 with⟨ev,e0⟩|⟨g,cap,cur,ev,hb,hg,iG,hm,XP,ht⟩
 ·subst ev;have:rows= []:=List.length_eq_zero_iff.1 (by omega);subst this;exact⟨none,0,rfl,Nat.le_refl _,by unfold maxLen;omega,fun h=>absurd rfl h⟩
 subst ev;refine⟨_,cap,by rw [e],by show rows.length<=cap;omega,hm,fun _=>⟨_,rfl,Qf hg,fun k s hk=> ?_⟩⟩;have wO:k < rows.length:=(List.getElem?_eq_some_iff.1 hk).1;obtain⟨u,hu⟩:∃u,us[k]?=some u:=⟨_,List.getElem?_eq_getElem (by omega)⟩;refine⟨u,?_,h2 k u s hu hk w' tD⟩;rw [Wc];have h3:=hu;rw [<-ht,List.getElem?_take]at h3
 split at h3
 ·have h4:cur[k]?=some u:=by simpa using h3
  simp [World.cell?,hg,h4]
 cases h3
end
theorem Qpi {n a v:Nat}(hn:n<=64)(ha:a<=4)(hv:v<=8):n*v<=512/\n*n<=4096/\n*n*a<=16384:=by
 have h1:n*v<=64*8:=Nat.mul_le_mul hn hv;have h2:n*n<=64*64:=Nat.mul_le_mul hn hn;have h3:n*n*a<=64*64*4:=Nat.mul_le_mul h2 ha;omega
theorem Hx {x:Nat}(h:x < 9223372036854775808):wrap64 (x:Int)=(x:Int):=by unfold wrap64;omega
theorem Oe(n a v:Nat)(hn:n<=64)(ha:a<=4)(hv:v<=8)(w:World):
 Calls Tryz.prog 88 #[.int .i64 (n:Int),.int .i64 (a:Int),.int .i64 (v:Int)] w fun e w'=>e=.returned (.int .i64 ((Yk n a v:Nat):Int))/\w=w':=by
 obtain⟨b1,b2,b3⟩:=Qpi hn ha hv;obtain⟨p,hp⟩:∃z,z=n*v:=⟨_,rfl⟩;obtain⟨q,hq⟩:∃z,z=n*n:=⟨_,rfl⟩;obtain⟨r,hr⟩:∃z,z=n*n*a:=⟨_,rfl⟩;rw [<-hp]at b1;rw [<-hq]at b2;rw [<-hr]at b3;have f1:wrap64 ((n:Int)*(v:Int))=(p:Int):=by
  rw [show(n:Int)*(v:Int)=((n*v:Nat):Int) by simp,<-hp];exact Hx (by omega)
 have f2:wrap64 ((n:Int)*(n:Int))=(q:Int):=by
  rw [show(n:Int)*(n:Int)=((n*n:Nat):Int) by simp,<-hq];exact Hx (by omega)
 have f3:wrap64 ((q:Int)*(a:Int))=(r:Int):=by
  rw [show(q:Int)*(a:Int)=((q*a:Nat):Int) by simp,hq,<-hr];exact Hx (by omega)
 have HL:=Qq (show p+r=Yk n a v by rw [hp,hr];rfl);clear hn ha hv hp hq hr;go_enter Tryz.func88,Tryz.ntmps88;go_wp2_with fail;go_ret;exact⟨by rw [<-HL.out] <;> first|rfl|simp,rfl⟩
theorem Qnj(R B n rest:Nat)(w:World)(hn:n < 64)(hr:Qp rest)(hR:w.heap[R]?=some (.cells #[.int .u64 (rest:Int)] 41 (0,0)))(hB:w.cell? ⟨B,0,none⟩=some (.int .i64 (n:Int)))(YM:B < w.heap.size):
 Calls Tryz.prog 156 #[.pointer (some ⟨R,0,none⟩),.pointer (some ⟨B,0,none⟩)] w fun e w'=>e=.returned (.int .u64 ((rest % 2^n:Nat):Int))/\∃W,Ext w W/\W.heap=w.heap/\w'=W.setCell ⟨R,0,none⟩ (.int .u64 ((rest / 2^n:Nat):Int)):=by
 have RQ:min n 64=n:=by omega
 have vR:(n:Int) < 64:=by omega
 have uU:=Sp hn;have zG:2^n - 1 < 18446744073709551616:=by
  have:=Ng (show n<=64 by omega);have:=Nat.two_pow_pos n;omega
 have xZ:=Xz hr (show Qp (2^n - 1)from zG);rw [Nat.and_two_pow_sub_one_eq_mod]at xZ;obtain⟨al,vS⟩:∃z,z=2^n - 1:=⟨_,rfl⟩;rw [<-vS]at uU xZ;obtain⟨md,rO⟩:∃z,z=rest % 2^n:=⟨_,rfl⟩;rw [<-rO]at xZ⊢;have C7:(rest:Int) / 2^n=((rest / 2^n:Nat):Int):=Tf _ _;obtain⟨dv,eQ⟩:∃z,z=rest / 2^n:=⟨_,rfl⟩;rw [<-eQ]at C7⊢;have c0:w.cell? ⟨R,0,none⟩=some (.int .u64 (rest:Int)):=by simp [World.cell?,hR]
 have cf:w.frozen? ⟨R,0,none⟩=false:=by simp [World.frozen?,hR]
 have cl:=Qf hR;clear zG vS rO eQ hr hn;go_enter Tryz.func156,Tryz.ntmps156;go_upto_region 1 with(fail);go_quiet (fail);have HX:=Qq (show Ext w (w.drewN nq)from(Ext.refl w).drewN nq);have HH:=Qq (show(w.drewN nq).heap=w.heap from rfl);obtain⟨W,hW⟩:∃z,z=w.drewN nq:=⟨_,rfl⟩;rw [<-hW]at HX HH⊢;have d0:=(HX.out.cell (p:=⟨R,0,none⟩) cl).trans c0;have d1:=(HX.out.cell (p:=⟨B,0,none⟩) YM).trans hB;have df:W.frozen? ⟨R,0,none⟩=false:=by
  have:=HX.out.block (k:=R) cl;simp [World.frozen?,this,hR]
 have dl:=Qy cl HX.out.size;clear hW c0 cf cl hB YM hR;go_wp2_with fail;go_ret;exact⟨rfl,W,HX.out,HH.out,rfl⟩
theorem Qdp(s:Nat):(Jy s).length<=64:=by
 rw [Qxo];unfold Gz;exact Qx List.countP_le_length (by rw [List.length_range];exact Nat.le_refl _)
theorem Qn3(s:Nat)(hs:Qp s)(w:World)(hT:Ky w):
 Calls Tryz.prog 95 #[.int .u64 (s:Int)] w fun e w'=>∃u,e=.returned u/\Bh w.heap.size w' u (Jy s)/\Ext w w':=by
 have HT:=Qq hT;have HS:=Qq hs;obtain⟨iI,pK,vO,vN,vM⟩:=info_parts Qzl;clear hT hs;go_enter Tryz.func95,Tryz.ntmps95;go_wp2_with fail;go_loopw [0,3] (fun v0 v3 wr=>∃cur:Nat,v0=.int .u64 (cur:Int)/\Hid (∃pre,pre++Jy cur=Jy s/\Qp cur/\Ext w wr/\Bh w.heap.size wr v3 pre)) (fun v _ _=>(Jy (intOf v).toNat).length)
 case atStart=>exact⟨s,rfl,Qq ⟨[],rfl,HS.out,Qz,Bh.nil _ _⟩⟩
 case round =>
  obtain⟨cur,rfl,zY⟩:=hrel;obtain⟨pre,rF,U4,hx,rO⟩:=zY.out;have HP:=Qq rF;have HC:=Qq U4;have HX:=Qq hx;have HM:=Qq rO;obtain⟨A1,c1,rfl⟩:=Qs rO;clear zY rF U4 hx rO;by_cases h0:cur=0
  ·subst h0;have zQ:(((0:Nat):Int) !=0)=false:=by simp
   go_wp2_with fail;go_ret;exact⟨_,rfl,by rw [<-HP.out,Qdh,List.append_nil];exact HM.out,HX.out⟩
  have zQ:((cur:Int) !=0)=true:=by simpa using h0
  have H0:=Qq h0;have yX:=Qq (Qdc HC.out h0);have lU:pre.length+1<=64:=by
   have h1:=Qdp s;rw [<-HP.out,yX.out,List.length_append,List.length_cons]at h1;omega
  have tT:IntKind.u64.wrap ((cur:Int) - 1)=((cur - 1:Nat):Int):=by
   have:=HC.out;unfold Qp at this;rw [IntKind.wrap_u64];omega
  have xZ:bits .and .u64 (cur:Int) ((cur - 1:Nat):Int)=((cur&&&(cur - 1):Nat):Int):=Xz HC.out (Nat.lt_of_le_of_lt (Nat.sub_le _ _) HC.out);have xN:pre.length+1<=maxLen:=by unfold maxLen;omega
  have xJ:(pre.length+1)*8<=140737488355328:=by omega
  clear h0;go_wp2_with fail;refine(Qnv cur HC.out H0.out _ (HT.out.ext HX.out)).mono ?_;rintro e w1 ⟨rfl,rfl⟩;go_wp2_with(at_builtin;refine wpList_append_own_at _ rfl _ _ 36 rfl w.heap.size 3 iI (.int .i64 0) 1 8 Tryz.underlying36 pK vO vN vM rfl (by decide) _ pre.length (Ga pre) rfl (Zf HM.out (Qz.alloc _)) ⟨_,0,none⟩ 1 1 [.int .i64 ((Be cur:Nat):Int)] rfl rfl (Zm _ _ _ (by simp)) (fun u hu=>by rw [List.mem_singleton.1 hu];rfl) xN xJ (Qx HX.out.size (by simp)) ?_);intro v7 w7 zW zX _ _;have rS:=Qq (show Ext w w7 from(HX.out.alloc _).grown zX (fun k hk=>(HM.out.lt k hk).1))
  have qA:=Qq (Bh.snoc zW);obtain⟨A7,c7,rfl⟩:=Qs zW;clear zW zX;go_wp2_with fail;go_roundw
  case rel=>exact⟨cur&&&(cur - 1),rfl,Qq ⟨pre++ [Be cur],by rw [List.append_assoc,<-HP.out,yX.out];rfl,Nat.lt_of_le_of_lt Nat.and_le_left HC.out,rS.out,qA.out⟩⟩
  case measure =>
   show(Jy ((cur&&&(cur - 1):Nat):Int).toNat).length < (Jy ((cur:Nat):Int).toNat).length;rw [Int.toNat_natCast,Int.toNat_natCast,yX.out,List.length_cons];omega
theorem Qda(s:Nat)(hs:Qp s)(v:Value)(ws:List Nat)(w:World)(h:Nts w v ws)(zG:∀u∈ws,u < 64)(hl:ws.length<=64):
 Calls Tryz.prog 160 #[.int .u64 (s:Int),v] w fun e w'=>e=.returned (.int .u64 ((Kj s ws:Nat):Int))/\w=w':=by
 have HS:=Qq hs;have HL:=Qq zG;obtain⟨A,c,rfl,_,_,HA⟩:=h;clear hs zG;go_enter Tryz.func160,Tryz.ntmps160;go_wp2_with fail;go_loopw [5,10] (fun vo vi wr=>∃i:Nat,vi=.int .i64 (i:Int)/\i<=ws.length/\∃z:Nat,vo=.int .u64 (z:Int)/\Hid (z=Vt i (fun i=>s.testBit (ws.getD i 0))/\w=wr)) (fun _ v _=>ws.length - (intOf v).toNat)
 case atStart=>exact⟨0,rfl,Nat.zero_le _,0,rfl,Qq ⟨rfl,rfl⟩⟩
 case round =>
  obtain⟨i,rfl,hi,z,rfl,zY⟩:=hrel;obtain⟨hz,rfl⟩:=zY.out;have HZ:=Qq hz;have KN:=Qq (show Qp z by rw [hz];exact Fp (by omega) _);clear zY hz;by_cases hlt2:i < ws.length
  ·have yP:(i:Int) < (ws.length:Int):=by omega
   have wM:(i:Int) < 64:=by omega
   have mK:min i 64=i:=by omega
   obtain⟨ad,rfl,zU,hc⟩:=HA.out i hlt2;have qF:ws.getD i 0 < 64:=HL.out _ (by rw [Qk,Qv hlt2];exact List.getElem_mem _);have yX:=Qq (Bl i (fun i=>s.testBit (ws.getD i 0)));obtain⟨u,hu⟩:∃u,u=ws.getD i 0:=⟨_,rfl⟩;have xZ:=Qmq (k:=u) HS.out;have aX:=Qq (show Vt (i+1) (fun i=>s.testBit (ws.getD i 0))=if s.testBit u then z|||2^i else z by rw [yX.out,HZ.out,hu]);rw [<-hu]at hc qF;have JN:(u:Int) < 64:=by omega
   have kP:min u 64=u:=by omega
   have al:(ad.add i).block < w.heap.size:=by rw [Qr];exact zU
   clear hu yX HZ;cases yB:s.testBit u
   ·rw [yB]at xZ aX;have OH:bits .and .u64 ((s:Int) / 2^u) 1=0:=xZ;have XL:=Zq3 (x:=i);have uL:=Qeb KN.out;clear yB xZ;go_wp2_with fail;go_roundw
    case rel=>exact⟨i+1,by go_num,by omega,z,rfl,Qq ⟨by rw [aX.out];rfl,by first|rfl|trivial⟩⟩
    case measure=>simp [intOf];omega
   rw [yB]at xZ aX;have OH:bits .and .u64 ((s:Int) / 2^u) 1=1:=xZ;have XL:=Zq5 (x:=i);have uL:=Wx KN.out (show i < 64 by omega);clear yB xZ;go_wp2_with fail;go_roundw
   case rel=>exact⟨i+1,by go_num,by omega,z|||2^i,rfl,Qq ⟨by rw [aX.out];rfl,by first|rfl|trivial⟩⟩
   case measure=>simp [intOf];omega
  obtain rfl:ws.length=i:=by omega
  have HE:=Qq (show Kj s ws=z from HZ.out.symm);go_wp2_with fail;go_ret;exact⟨by rw [HE.out] <;> rfl,rfl⟩
theorem Qnq:(Tryz.prog.info? 23).map (fun i=>(i.zero,i.size,i.bytes))=some (some (.slice none 0 0),1,24):=by kernel_rfl
theorem Qvj {α β:Type} {f:α->β} {l:List α} {k:Nat}(hk:k < l.length):(l.take (k+1)).map f=(l.take k).map f++ [f l[k]]:=by
 rw [List.take_add_one,Qv hk,Option.toList_some,List.map_append];rfl
theorem Qnn(vm v:Value)(md:Md)(ws:List Nat)(w:World)(hm:MdV w vm md)(zO:md.ok)(zT:Zq md=0)(h:Nts w v ws)(zG:∀u∈ws,u < md.n.toNat)(hl:ws.length<=64):
 Calls Tryz.prog 96 #[vm,v] w fun e w'=>∃u,e=.returned u/\Frz (fun k=>k < w.heap.size) w' (fun W=>MdV W u (Ji md ws))/\Ext w w':=by
 have HM:=Qq hm;have HN:=Qq h;have zD:=Qq zO;have fS:=Qq zG;obtain⟨vR,yN,uC,gK,uX,_,_⟩:=Zn zT;have PY:=Qq (show ∀u∈ws,u < 64 from fun u hu=>by have:=zG u hu;omega);have nO:=Qq (show ∀r∈md.rel,r.length=md.n.toNat from fun r hr=>by have:=uX r hr;omega);obtain⟨iU,sK,xC,xB,xA⟩:=info_parts De;obtain⟨iS,NG,dK,dJ,dI⟩:=info_parts Qnq;obtain⟨A,c,rfl,JZ,xI,HA⟩:=h;obtain⟨vv,vr,rfl,hv,hr⟩:=hm;obtain⟨Av,cv,rfl,cG,hvm,HV⟩:=Vp hv;obtain⟨Ar,cr,rfl,JR,ZY,HR⟩:=Ge hr;obtain⟨val,rW⟩:∃z,z=md.val:=⟨_,rfl⟩;obtain⟨rel,jD⟩:∃z,z=md.rel:=⟨_,rfl⟩;have VO:=Qq rW
 have PH:=Qq jD;have I9:=Qq (show ∀s∈val,Qp s by rw [rW];exact zO.val);have tJ:=Qq (show ∀r∈rel,∀s∈r,Qp s by rw [jD];exact zO.rel);rw [<-rW]at HV gK cG⊢;rw [<-jD]at HR nO uC JR⊢;clear zG hv hr uX zO zT rW jD vR yN;obtain⟨W0,zE⟩:∃W,W=(w.alloc (.cells #[.int .i64 md.n,.slice Av val.length cv,.slice Ar rel.length cr] 26)).alloc (.cells #[.int .i64 0,.slice none 0 0,.slice none 0 0] 26):=⟨_,rfl⟩;have X0:=Qq (show Ext w W0 by rw [zE];exact(Qz.alloc _).alloc _);obtain⟨b,hb⟩:∃b,b=w.heap.size:=⟨_,rfl⟩;have B0:=Qq (show W0.heap[b]?=some (.cells #[.int .i64 md.n,.slice Av val.length cv,.slice Ar rel.length cr] 26 (0,0)) by rw [zE,hb];exact((Qz.alloc _).block (by simp)).trans (heap_alloc_new _ _))
 have B1:=Qq (show W0.heap[b+1]?=some (.cells #[.int .i64 0,.slice none 0 0,.slice none 0 0] 26 (0,0)) by
  have h1:=heap_alloc_new (w.alloc (.cells #[.int .i64 md.n,.slice Av val.length cv,.slice Ar rel.length cr] 26)) (.cells #[.int .i64 0,.slice none 0 0,.slice none 0 0] 26);rw [zE,hb]
  simpa using h1)
 have RY:W0.heap.size=b+1+1:=by rw [zE,hb];simp
 have rU:=Qq hb;obtain⟨mn,RQ⟩:∃z,z=md.n:=⟨_,rfl⟩;have HMN:=Qq RQ;rw [<-RQ]at B0;go_enter Tryz.func96,Tryz.ntmps96;go_upto_region 1 with(fail);rw [<-zE,<-RQ];rw [<-hb];clear zE hb RQ;go_upto_region 2 with(fail);obtain⟨W1,sH⟩:∃W,W=W0.alloc (.cells #[.int .i64 (ws.length:Int),.slice none 0 0,.slice none 0 0] 26):=⟨_,rfl⟩;rw [<-sH];obtain⟨mb,ML⟩:∃z,z=b+1+1:=⟨_,rfl⟩;rw [<-ML];have bR:=Qq (show ArI W0 W1 mb (mb+1) (ws.length:Int) (.slice none 0 0) ((val.take 0).map fun s=>Kj s ws) (.slice none 0 0) []from ArI.start (by rw [sH];exact Qz.alloc _) (by omega) (Nat.lt_succ_self _) (by rw [sH,World.size_alloc,ML,<-RY];exact Nat.le_refl _) (by rw [sH,ML,<-RY];exact heap_alloc_new _ _))
 have L0:=Qq ML;obtain⟨e0,e1,e2,el⟩:=Zt ((bR.out.ext.block (Qf B0.out)).trans B0.out);clear sH RY ML;go_wp2_with fail;clear e0 e1 e2 el;go_loopw [19] (fun v wr=>∃k:Nat,v=.int .i64 (k:Int)/\k<=val.length/\Hid (∃vx,ArI W0 wr mb (mb+1) (ws.length:Int) vx ((val.take k).map fun s=>Kj s ws) (.slice none 0 0) [])) (fun v _=>val.length - (intOf v).toNat)
 case atStart=>exact⟨0,rfl,Nat.zero_le _,Qq ⟨_,bR.out⟩⟩
 case round =>
  clear bR;obtain⟨k,rfl,hk,zY⟩:=hrel;obtain⟨vx,nK⟩:=zY.out;have HI:=Qq nK;have HX:=Qq (X0.out.trans nK.ext);clear zY;by_cases hlt2:k < val.length
  ·have yP:(k:Int) < (val.length:Int):=by omega
   obtain⟨ad,rfl,zU,sD⟩:=HV.out k hlt2;have a0:=(HX.out.cell (p:=ad.add k) (Qj zU)).trans sD;have al:(ad.add k).block < wr.heap.size:=by rw [Qr];exact Qy zU HX.out.size
   have pM:=Qq (show Qp (val.getD k 0)from I9.out _ (by rw [Qk,Qv hlt2];exact List.getElem_mem _));have zA:=Qq (show(val.take (k+1)).map (fun s=>Kj s ws)=(val.take k).map (fun s=>Kj s ws)++ [Kj (val.getD k 0) ws]from by
    rw [Qvj hlt2,Qk,Qv hlt2];rfl)
   obtain⟨s,hs⟩:∃s,s=val.getD k 0:=⟨_,rfl⟩;rw [<-hs]at a0 pM zA;obtain⟨vs,ZR⟩:∃z,z=(val.take k).map (fun s=>Kj s ws):=⟨_,rfl⟩;have pT:vs.length<=8:=by rw [ZR,List.length_map,List.length_take];omega
   rw [<-ZR]at HI zA;obtain⟨Ax,cx,rfl⟩:=Qs HI.out.val;obtain⟨pz,kO⟩:∃z,z=Kj s ws:=⟨_,rfl⟩;have WC:=Qq kO;rw [<-kO]at zA;obtain⟨⟨m0,m1,m2⟩,⟨mf0,mf1,mf2⟩,ml⟩:=HI.out.cells;have xN:vs.length+1<=maxLen:=by unfold maxLen;omega
   have xJ:(vs.length+1)*8<=140737488355328:=by omega
   clear nK sD hs ZR zU kO m0 m2 mf0 mf2;go_upto_region 5 with(fail);clear a0 al;refine Yd 8 (fun w'=>w'.cell? (⟨mb,1,none⟩)=some (.slice Ax vs.length cx)) (by kernel_rfl) (xd ml m1) (fun zZ=> ?_);refine utk 0 zZ ?_;refine utk 1 zZ ?_;refine utk 2 zZ ?_;refine utk 3 zZ ?_;refine Qa (rs:= [4]) (by kernel_rfl) (by simp) ?_;refine Zj.cons rfl (fun K hK=> ?_) Zj.nil;go_simp;refine(Qda s pM.out _ ws _ (HN.out.ext (HX.out.trans xv)) PY.out hl).mono ?_;rintro e w6 ⟨rfl,rfl⟩;rw [<-WC.out];go_wp2_with fail;refine hK.out _ _ (xd ml m1) (fun zZ=> ?_);clear hK K
   refine Qb ?_;refine Qa (rs:= [5]) (by kernel_rfl) (by simp) ?_;refine Zj.cons rfl (fun K hK=> ?_) Zj.nil;go_simp;refine hK.out _ _ (xd ml m1) (fun zZ=> ?_);clear hK K;refine Qb ?_;refine Qa (rs:= [6]) (by kernel_rfl) (by simp) ?_;refine Zj.cons rfl (fun K hK=> ?_) Zj.nil;refine Gq rfl (.tmp 24) (.tmp 28) 23 rfl (mb+1) 41 iU (.int .u64 0) 1 8 Tryz.underlying23 sK xC xB xA rfl (by decide) (.slice Ax vs.length cx) vs.length (uV vs) (by simp [Act.eval]) (Zf HI.out.val xv) ⟨wr.heap.size,0,none⟩ 1 1 [.int .u64 (pz:Int)] (by simp [Act.eval]) rfl (by exact Zm _ _ _ (by simp)) (fun u hu=>by rw [List.mem_singleton.1 hu];rfl) xN xJ (Qx (show mb+1<=wr.heap.size from ml) (Ext.size (a:=wr) xv)) ?_
   intro v7 w7 zW zX zF;have oY:=Qq (HI.out.pushVal (show Ext wr _ from xv) zW zX);have cA:=Qq ((zX.block mb (Qy ml (Ext.size (a:=wr) xv)) (fun e=>absurd (World.ownsRow.lt HI.out.val mb e.symm).1 (by omega))).trans ((Ext.block (a:=wr) (k:=mb) xv ml).trans HI.out.cell));obtain⟨⟨_,p1,_⟩,⟨_,pf1,_⟩,pl⟩:=Zc cA.out;obtain⟨A7,c7,qZ⟩:=Qs zW;subst qZ;clear zW zX zF;refine hK.out _ _ p1 (fun zZ=> ?_);clear hK K;refine Qb ?_;refine utk 7 zZ ?_;refine Yt (by kernel_rfl) rfl (fun K hK=> ?_);go_simp;refine hK.out _ _ ?_;clear hK K;refine Qb ?_;refine Ys (by kernel_rfl) ?_ _
   go_wp2_with fail;go_roundw
   case rel=>exact⟨k+1,by go_num,by omega,Qq ⟨_,by rw [zA.out];exact oY.out⟩⟩
   case measure=>simp [intOf];omega
  obtain rfl:val.length=k:=by omega
  rw [List.take_length]at HI;have OJ:=HI.out;obtain⟨vals,qE⟩:∃z,z=val.map (fun s=>Kj s ws):=⟨_,rfl⟩;have fE:=Qq qE;rw [<-qE]at HI;obtain⟨e0,e1,e2,el⟩:=Zt (((OJ.ext.block (Qf B0.out))).trans B0.out);clear nK OJ qE;go_wp2_with fail;clear e0 e1 e2 el;go_loopw [35] (fun v wr=>∃k:Nat,v=.int .i64 (k:Int)/\k<=rel.length/\Hid (∃vy,ArI W0 wr mb (mb+1) (ws.length:Int) vx vals vy ((rel.take k).map fun r=>ws.map fun w=>Kj (r.getD w 0) ws))) (fun v _=>rel.length - (intOf v).toNat)
  case atStart=>exact⟨0,rfl,Nat.zero_le _,Qq ⟨_,HI.out⟩⟩
  case round =>
   clear HI HX;obtain⟨k,rfl,hk,zY⟩:=hrel;obtain⟨vy,nK⟩:=zY.out;have HI:=Qq nK;have HX:=Qq (X0.out.trans nK.ext);clear zY;by_cases hlt2:k < rel.length
   ·have yP:(k:Int) < (rel.length:Int):=by omega
    obtain⟨ad,u,rfl,zU,yS,hu⟩:=HR.out k hlt2;have zA:=Qq (show(rel.take (k+1)).map (fun r=>ws.map fun w=>Kj (r.getD w 0) ws)=(rel.take k).map (fun r=>ws.map fun w=>Kj (r.getD w 0) ws)++ [ws.map fun w=>Kj ((rel.getD k []).getD w 0) ws]from by
     rw [Qvj hlt2,Qk (l:=rel),Qv hlt2];rfl)
    have ZY:rel.getD k []∈rel:=by rw [Qk,Qv hlt2];exact List.getElem_mem _
    have PG:=Qq (nO.out _ ZY);have PC:=Qq (tJ.out _ ZY);obtain⟨Au,cu,rfl,rX,nW,HU⟩:=Vp hu;have a0:=(HX.out.cell (p:=ad.add k) (Qj zU)).trans yS;have al:(ad.add k).block < wr.heap.size:=by rw [Qr];exact Qy zU HX.out.size
    obtain⟨r,hr⟩:∃r,r=rel.getD k []:=⟨_,rfl⟩;rw [<-hr]at a0 zA PG PC HU;obtain⟨rows,tZ⟩:∃z,z=(rel.take k).map (fun r=>ws.map fun w=>Kj (r.getD w 0) ws):=⟨_,rfl⟩;have mJ:rows.length<=4:=by rw [tZ,List.length_map,List.length_take];omega
    rw [<-tZ]at HI zA;obtain⟨wa,uU⟩:∃v,v=wr:=⟨_,rfl⟩;subst uU;clear nK zU yS hu ZY tZ hr;go_wp2_with fail;clear a0 al;go_loopw [10,41] (fun v vi wr=>∃i:Nat,vi=.int .i64 (i:Int)/\i<=ws.length/\Hid (Ext wa wr/\Zx wa.heap.size wr v ((ws.take i).map fun w=>Kj (r.getD w 0) ws))) (fun _ v _=>ws.length - (intOf v).toNat)
    case atStart=>exact⟨0,rfl,Nat.zero_le _,Qq ⟨Qz,Zx.nil _ _⟩⟩
    case round =>
     obtain⟨i,rfl,hi,zY⟩:=hrel;have tI:=Qq zY.out.1;have sO:=Qq zY.out.2;clear zY;by_cases yK:i < ws.length
     ·have wM:(i:Int) < (ws.length:Int):=by omega
      obtain⟨wd,rfl,SZ,sP⟩:=HA.out i yK;have rQ:=Qq (HX.out.trans tI.out);have oZ:=Qq (show(ws.take (i+1)).map (fun w=>Kj (r.getD w 0) ws)=(ws.take i).map (fun w=>Kj (r.getD w 0) ws)++ [Kj (r.getD (ws.getD i 0) 0) ws]from by
       rw [Qvj yK,Qk (l:=ws),Qv yK];rfl)
      have ZU:ws.getD i 0 < r.length:=by
       rw [PG.out];exact fS.out _ (by rw [Qk,Qv yK];exact List.getElem_mem _)
      obtain⟨q,hq⟩:∃q,q=ws.getD i 0:=⟨_,rfl⟩;rw [<-hq]at sP ZU oZ;obtain⟨ud,rfl,tU,BT⟩:=HU.out q ZU;have hum3:(q:Int) < (r.length:Int):=by omega
      have pM:=Qq (show Qp (r.getD q 0)from PC.out _ (by rw [Qk,Qv ZU];exact List.getElem_mem _));obtain⟨s,hs⟩:∃s,s=r.getD q 0:=⟨_,rfl⟩;rw [<-hs]at BT pM oZ;obtain⟨pz,kO⟩:∃z,z=Kj s ws:=⟨_,rfl⟩;have WC:=Qq kO;rw [<-kO]at oZ;have b0:=(rQ.out.cell (p:=wd.add i) (Qj SZ)).trans sP;have bl:(wd.add i).block < wr.heap.size:=by rw [Qr];exact Qy SZ rQ.out.size
      have c0:=(rQ.out.cell (p:=ud.add q) (Qj tU)).trans BT;have cl:(ud.add q).block < wr.heap.size:=by rw [Qr];exact Qy tU rQ.out.size
      obtain⟨out,yC⟩:∃z,z=(ws.take i).map (fun w=>Kj (r.getD w 0) ws):=⟨_,rfl⟩;have tG:out.length<=64:=by rw [yC,List.length_map,List.length_take];omega
      rw [<-yC]at sO oZ;have xN:out.length+1<=maxLen:=by unfold maxLen;omega
      have xJ:(out.length+1)*8<=140737488355328:=by omega
      obtain⟨A1,c1,rfl⟩:=Qs sO.out;clear SZ sP hq tU BT hs kO yC ZU;go_wp2_with fail;refine(Qda s pM.out _ ws _ (HN.out.ext rQ.out) PY.out hl).mono ?_;rintro e w6 ⟨rfl,rfl⟩;rw [<-WC.out];go_wp2_with(at_builtin;refine wpList_append_own_at _ rfl _ _ 23 rfl wa.heap.size 41 iU (.int .u64 0) 1 8 Tryz.underlying23 sK xC xB xA rfl (by decide) _ out.length (uV out) rfl (Zf sO.out (Qz.alloc _)) ⟨_,0,none⟩ 1 1 [.int .u64 (pz:Int)] rfl rfl (Zm _ _ _ (by simp)) (fun u hu=>by rw [List.mem_singleton.1 hu];rfl) xN xJ (Qx tI.out.size (by simp)) ?_);intro v7 w7 zW zX _ _
      have rS:=Qq (show Ext wa w7 from(tI.out.alloc _).grown zX (fun k hk=>(World.ownsRow.lt sO.out k hk).1));have qA:=Qq (Zx.snoc zW);obtain⟨A7,c7,rfl⟩:=Qs zW;clear zW zX;go_wp2_with fail;go_roundw
      case rel=>exact⟨i+1,by go_num,by omega,Qq ⟨rS.out,by rw [oZ.out];exact qA.out⟩⟩
      case measure=>simp [intOf];omega
     obtain rfl:ws.length=i:=by omega
     rw [List.take_length]at sO;obtain⟨rw1,dU⟩:∃z,z=ws.map (fun w=>Kj (r.getD w 0) ws):=⟨_,rfl⟩;rw [<-dU]at sO zA;have iZ:=Qq (HI.out.next tI.out);obtain⟨us,sR,zP,wY⟩:=iZ.out.rel;have aU:=Qq (show ∀g,vy.ownBlock=some g->g < wa.heap.size from fun g hg=>by obtain⟨us2,_,xQ,_⟩:=HI.out.rel;exact(xQ.lt g hg).2);have jO:=Qq sR;have yJ:=Qq zP;have nR:=Qq wY;have LN:us.length<=4:=by rw [sR];exact mJ
     obtain⟨⟨m0,m1,m2⟩,⟨mf0,mf1,mf2⟩,ml⟩:=iZ.out.cells;obtain⟨Av2,cv2,rfl⟩:=Qs zP;obtain⟨A1,c1,rfl⟩:=Qs sO.out;have xN:us.length+1<=maxLen:=by unfold maxLen;omega
     have xJ:(us.length+1)*24<=140737488355328:=by omega
     clear sR zP wY m0 m1 dU mJ;obtain⟨wo,ZL⟩:∃v,v=wr:=⟨_,rfl⟩;subst ZL;go_wp2_with(at_builtin;refine wpList_append_own_at _ rfl _ _ 24 rfl (mb+1) 23 iS (.slice none 0 0) 1 24 Tryz.underlying24 NG dK dJ dI rfl (by decide) _ us.length us rfl (Zf yJ.out (Qz.alloc _)) ⟨_,0,none⟩ 1 1 [.slice A1 rw1.length c1] rfl rfl (Zm _ _ _ (by simp)) (fun u hu=>by rw [List.mem_singleton.1 hu];rfl) xN xJ (Qx (show mb+1<=wo.heap.size from ml) (by simp)) ?_);intro v7 w7 zW zX qK zF;have oY:=Qq (iZ.out.pushRow jO.out yJ.out nR.out (Qz.alloc _) (sO.out.low (Nat.succ_le_of_lt HI.out.mlt)) (fun g hg hv=>absurd (aU.out g hv) (by have:=(World.ownsRow.lt sO.out g hg).1;omega)) zW zX (zF.imp_right fun h=>by rw [h];simp))
     obtain⟨⟨p0,p1,p2⟩,⟨pf0,pf1,pf2⟩,pl⟩:=Zc ((zX.block mb (Qy ml ((Ext.refl wo).alloc (.cells #[.slice A1 rw1.length c1] 23)).size) (fun e=>absurd (World.ownsRow.lt yJ.out mb e.symm).1 (by omega))).trans ((((Ext.refl wo).alloc (.cells #[.slice A1 rw1.length c1] 23)).block ml).trans iZ.out.cell));obtain⟨A7,c7,rfl⟩:=Qs zW;clear zW zX qK zF m2 mf0 mf1 mf2 p0 p1 pf0 pf1;go_wp2_with fail;go_roundw
     case rel=>exact⟨k+1,by go_num,by omega,Qq ⟨_,by rw [zA.out];exact oY.out⟩⟩
     case measure=>simp [intOf];omega
   obtain rfl:rel.length=k:=by omega
   rw [List.take_length]at HI;obtain⟨us,-,zP,-⟩:=HI.out.rel;obtain⟨Az,cz,rfl⟩:=Qs HI.out.val;obtain⟨Ay,cy,rfl⟩:=Qs zP;clear zP;obtain⟨⟨m0,m1,m2⟩,⟨mf0,mf1,mf2⟩,ml⟩:=HI.out.cells;have vX:=Qq ((nK.ext.block (Qf B1.out)).trans B1.out);obtain⟨⟨q0,q1,q2⟩,⟨f0,f1,f2⟩,ql⟩:=Zc vX.out;have xT:=Qq (show w.heap.size<=b+1 by rw [rU.out];omega);have iX:=Qq (show b+1<=mb by rw [L0.out];omega);have HE:=Qq (show Ji md ws=⟨(ws.length:Int),vals,rel.map fun r=>ws.map fun w=>Kj (r.getD w 0) ws⟩ by rw [fE.out,VO.out,PH.out];rfl);clear nK;go_wp2_with fail
   (try simp only [Exit.inBlock,Exit.then])
   refine bodyPost_ret (Cw Tryz.results96 _ _ rfl (Ze (Yx vX.out _ _ _)) Tryz.underlying26 rfl (by kernel_rfl)) rfl ?_;refine⟨_,rfl,fun W hW=> ?_,Yv HX.out xT.out _ _ _⟩;rw [HE.out];have h1:=xT.out;have h2:=iX.out;exact HI.out.mdv ⟨Qx (by simp [World.setCell]) hW.1,fun k hk hl=>(hW.2 k (by omega) (by simpa [World.setCell]using hl)).trans (Kv (fun e=>hk (by rw [e];exact Nat.lt_succ_of_le iX.out)) _ _ _)⟩
theorem Qsn {w:World} {b:Nat} {a v:Value} {t:TypeId}(h:w.heap[b]?=some (.cells #[a] t (0,0))):(w.setCell ⟨b,0,none⟩ v).heap[b]?=some (.cells #[v] t (0,0)):=by
 simp only [World.setCell,Array.getElem?_modify,h,if_true,Option.map_some];simp
theorem Qra(k n j:Nat):k / 2^(n*j) / 2^n=k / 2^(n*(j+1)):=by
 rw [Nat.div_div_eq_div_mul,<-Nat.pow_add,Nat.mul_add,Nat.mul_one]
structure Bb (w0 wr:World) (b n k j:Nat) (vv:Value) (vals:List Nat) (vr:Value) (rows:List (List Nat)):Prop where
 ar:ArI w0 wr (b+2) (b+4) (n:Int) vv vals vr rows
 rest:wr.heap[b+3]?=some (.cells #[.int .u64 ((k / 2^(n*j):Nat):Int)] 41 (0,0))
 box:wr.cell? ⟨b,0,none⟩=some (.int .i64 (n:Int))
 res:wr.heap[b+1]?=some (.cells #[.int .i64 0,.slice none 0 0,.slice none 0 0] 26 (0,0))
section
variable {w0 wr W:World} {b n k j:Nat} {vv vr:Value} {vals:List Nat} {rows:List (List Nat)}
theorem Bb.next(h:Bb w0 wr b n k j vv vals vr rows)(he:Ext wr W):Bb w0 W b n k j vv vals vr rows :=
 ⟨h.ar.next he,(he.block (Qf h.rest)).trans h.rest,(he.cell (p:=⟨b,0,none⟩) (by have:=Qf h.rest;show b < _;omega)).trans h.box,(he.block (Qf h.res)).trans h.res⟩
theorem Bb.take(h:Bb w0 wr b n k j vv vals vr rows)(h0:w0.heap.size<=b+2):Bb w0 (wr.setCell ⟨b+3,0,none⟩ (.int .u64 ((k / 2^(n*(j+1)):Nat):Int))) b n k (j+1) vv vals vr rows:=by
 have wV:∀q,q≠b+3->(wr.setCell ⟨b+3,0,none⟩ (.int .u64 ((k / 2^(n*(j+1)):Nat):Int))).heap[q]?=wr.heap[q]?:=fun q e=>Below.heap_setCell _ _ _ _ e
 refine⟨h.ar.other (by omega) (by omega) (by omega) _,Qsn h.rest,?_,(wV (b+1) (by omega)).trans h.res⟩;have:=h.box;unfold World.cell? at this⊢;rw [wV b (by omega)];exact this
structure Me (w0 wa wr:World) (b n k j:Nat):Prop where
 ext:Ext w0 wr
 same:Yp (fun q=>q < b+4) wa wr
 cell:wr.heap[b+2]?=wa.heap[b+2]?
 rest:wr.heap[b+3]?=some (.cells #[.int .u64 ((k / 2^(n*j):Nat):Int)] 41 (0,0))
 box:wr.cell? ⟨b,0,none⟩=some (.int .i64 (n:Int))
 res:wr.heap[b+1]?=some (.cells #[.int .i64 0,.slice none 0 0,.slice none 0 0] 26 (0,0))
theorem Bb.mid(h:Bb w0 wr b n k j vv vals vr rows):Me w0 wr wr b n k j:=⟨h.ar.ext,⟨Nat.le_refl _,fun _ _ _=>rfl⟩,rfl,h.rest,h.box,h.res⟩
theorem Bb.of_mid {j0:Nat} {wa:World}(h:Bb w0 wa b n k j0 vv vals vr rows)(m:Me w0 wa wr b n k j):Bb w0 wr b n k j vv vals vr rows:=by
 obtain⟨us,e,xQ,aP⟩:=h.ar.rel
 refine⟨⟨m.ext,h.ar.lo,h.ar.lt,Qx h.ar.top m.same.1,m.cell.trans h.ar.cell,Zp h.ar.val fun q hk=>m.same.2 q (by have:=(World.ownsRow.lt h.ar.val q hk).1;omega) (World.ownsRow.lt h.ar.val q hk).2,
  ⟨us,e,Zp xQ fun q hk=>m.same.2 q (by have:=(xQ.lt q hk).1;omega) (xQ.lt q hk).2,fun i u y hu hy=>(aP i u y hu hy).next (X':=spa (b+4) vr) ⟨m.same.1,fun q hq hl=>m.same.2 q (fun e=>hq (.inl e)) hl⟩ (fun _ _ h=>h)⟩,h.ar.dr⟩,m.rest,m.box,m.res⟩
section
variable {wa:World}
theorem Me.next(h:Me w0 wa wr b n k j)(hl:b+4<=wa.heap.size)(he:Ext wr W):Me w0 wa W b n k j:=by
 have hs:=h.same.1;exact⟨h.ext.trans he,⟨Qx hs he.size,fun q h1 h2=>(he.block (Qy h2 hs)).trans (h.same.2 q h1 h2)⟩,(he.block (by omega)).trans h.cell,(he.block (by omega)).trans h.rest,(he.cell (p:=⟨b,0,none⟩) (show b < _ by omega)).trans h.box,(he.block (by omega)).trans h.res⟩
theorem Me.take(h:Me w0 wa wr b n k j)(h0:w0.heap.size<=b+3):Me w0 wa (wr.setCell ⟨b+3,0,none⟩ (.int .u64 ((k / 2^(n*(j+1)):Nat):Int))) b n k (j+1):=by
 have wV:∀q,q≠b+3->(wr.setCell ⟨b+3,0,none⟩ (.int .u64 ((k / 2^(n*(j+1)):Nat):Int))).heap[q]?=wr.heap[q]?:=fun q e=>Below.heap_setCell _ _ _ _ e
 refine⟨h.ext.setCell (p:=⟨b+3,0,none⟩) h0 _,⟨Qx h.same.1 (by simp [World.setCell]),fun q h1 h2=>(wV q (by omega)).trans (h.same.2 q h1 h2)⟩,(wV _ (by omega)).trans h.cell,Qsn h.rest,?_,(wV _ (by omega)).trans h.res⟩;have:=h.box;unfold World.cell? at this⊢;rw [wV b (by omega)];exact this
theorem Me.grow(h:Me w0 wa wr b n k j)(hl:b+4<=wa.heap.size)(hw:w0.heap.size<=b+3) {g:Option Nat}(hg:wr.grownBy W g)(hq:∀q,g=some q->wa.heap.size<=q):Me w0 wa W b n k j:=by
 have yZ:∀q,q < wa.heap.size->W.heap[q]?=wr.heap[q]?:=fun q h1=>hg.block q (Qy h1 h.same.1) (fun e=>by have:=hq q e.symm;omega)
 refine⟨h.ext.grown hg (fun q e=>by have:=hq q e;omega),⟨Qx h.same.1 hg.size,fun q h1 h2=>(yZ q h2).trans (h.same.2 q h1 h2)⟩,(yZ _ (by omega)).trans h.cell,(yZ _ (by omega)).trans h.rest,?_,(yZ _ (by omega)).trans h.res⟩;have:=h.box;unfold World.cell? at this⊢;rw [yZ b (by omega)];exact this
end
theorem Bb.pushVal {w7 W6:World} {v7:Value} {s:Nat}(h:Bb w0 wr b n k j vv vals (.slice none 0 0) [])(uT:Ext wr W6)
 (ho:w7.ownsRow (b+4) 41 1 v7 (vals.length+1) (uV vals++ [.int .u64 (s:Int)]))(uF:W6.grownBy w7 vv.ownBlock):
 Bb w0 (w7.setCell ⟨b+2,1,none⟩ v7) b n k j v7 (vals++ [s]) (.slice none 0 0) []:=by
 have h6:=h.next uT;have pT:=fun q hk=>(World.ownsRow.lt h6.ar.val q hk)
 have yZ:∀q,q < b+4->q < W6.heap.size->q≠b+2->(w7.setCell ⟨b+2,1,none⟩ v7).heap[q]?=W6.heap[q]?:=fun q h1 h2 h3 =>
  (Below.heap_setCell _ _ _ _ h3).trans (uF.block q h2 (fun e=>by have:=(pT q e.symm).1;omega))
 have hl:=Qf h6.rest;refine⟨h.ar.pushVal uT ho uF,(yZ _ (by omega) hl (by omega)).trans h6.rest,?_,(yZ _ (by omega) (Qf h6.res) (by omega)).trans h6.res⟩;have:=h6.box;unfold World.cell? at this⊢;rw [yZ b (by omega) (by omega) (by omega)];exact this
theorem Bb.pushRow {w7 W6:World} {v7 u:Value} {r:List Nat} {us:List Value}(h:Bb w0 wr b n k j vv vals vr rows)(e:us.length=rows.length)(xQ:wr.ownsRow (b+4) 23 1 vr us.length us)
 (aP:∀(k:Nat) u r,us[k]?=some u->rows[k]?=some r->Frz (spa (b+4) vr) wr (fun w'=>Jb w' u r))(XE:Ext wr W6)(hu:Zx (b+4) wr u r)(zQ:∀g,u.ownBlock=some g->vr.ownBlock≠some g)
 (ho:w7.ownsRow (b+4) 23 1 v7 (us.length+1) (us++ [u]))(uF:W6.grownBy w7 vr.ownBlock)(fB:v7.ownBlock=vr.ownBlock\/v7.ownBlock=some W6.heap.size):
 Bb w0 (w7.setCell ⟨b+2,2,none⟩ v7) b n k j vv vals v7 (rows++ [r]):=by
 have h6:=h.next XE;have yZ:∀q,q < b+4->q < W6.heap.size->q≠b+2->(w7.setCell ⟨b+2,2,none⟩ v7).heap[q]?=W6.heap[q]?:=fun q h1 h2 h3 =>
  (Below.heap_setCell _ _ _ _ h3).trans (uF.block q h2 (fun e=>by have:=(xQ.lt q e.symm).1;omega))
 have hl:=Qf h6.rest;refine⟨h.ar.pushRow e xQ aP XE hu zQ ho uF fB,(yZ _ (by omega) hl (by omega)).trans h6.rest,?_,(yZ _ (by omega) (Qf h6.res) (by omega)).trans h6.res⟩;have:=h6.box;unfold World.cell? at this⊢;rw [yZ b (by omega) (by omega) (by omega)];exact this
end
theorem Qzj(n a v k:Nat)(w:World)(pH:1<=n)(hn:n<=64)(ha:a<=4)(hv:v<=8)(hl:Yk n a v<=12)(hk:k < 2^Yk n a v):
 Calls Tryz.prog 89 #[.int .i64 (n:Int),.int .i64 (a:Int),.int .i64 (v:Int),.int .i64 (k:Int)] w fun e w'=>∃u,e=.returned u/\Frz (fun q=>q < w.heap.size) w' (fun W=>MdV W u (Fg n a v k))/\Ext w w':=by
 have hk12:k < 4096:=Qy hk (show 2^Yk n a v<=2^12 from Nat.pow_le_pow_right (by decide) hl);have YU:=Qq (show v≠0\/a≠0->n < 64 from fun h=>by
  unfold Yk at hl;rcases h with h|h
  ·have:n*1<=n*v:=Nat.mul_le_mul_left n (by omega);omega
  have h1:n*n*1<=n*n*a:=Nat.mul_le_mul_left _ (by omega);have h2:n*1<=n*n:=Nat.mul_le_mul_left n pH
  omega)
 have AG:=Qq (fun j:Nat=>show Qp (k / 2^(n*j))from Nat.lt_of_le_of_lt (Nat.div_le_self _ _) (by show k < _;omega));obtain⟨iU,sK,xC,xB,xA⟩:=info_parts De;obtain⟨iS,NG,dK,dJ,dI⟩:=info_parts Qnq;have R6:IntKind.u64.wrap (k:Int)=(k:Int):=by rw [IntKind.wrap_u64];omega
 obtain⟨b,hb⟩:∃b,b=w.heap.size:=⟨_,rfl⟩;have xT:=Qq (show w.heap.size<=b by omega);have iX:=Qq (show w.heap.size<=b+2 by omega);clear hk hl;go_enter Tryz.func89,Tryz.ntmps89;go_upto_region 3 with(fail);rw [<-hb,show b+1+1+1=b+3 from rfl,show b+1+1=b+2 from rfl];obtain⟨w1,tT⟩:∃z,z=w.alloc (.cells #[.int .i64 (n:Int)] 3):=⟨_,rfl⟩;obtain⟨w2,lR⟩:∃z,z=w1.alloc (.cells #[.int .i64 0,.slice none 0 0,.slice none 0 0] 26):=⟨_,rfl⟩;obtain⟨w3,ZM⟩:∃z,z=w2.alloc (.cells #[.int .i64 (n:Int),.slice none 0 0,.slice none 0 0] 26):=⟨_,rfl⟩;obtain⟨W1,sH⟩:∃z,z=w3.alloc (.cells #[.int .u64 (k:Int)] 41):=⟨_,rfl⟩
 have s1:w1.heap.size=b+1:=by rw [tT,hb];simp
 have s2:w2.heap.size=b+2:=by rw [lR,World.size_alloc,s1]
 have s3:w3.heap.size=b+3:=by rw [ZM,World.size_alloc,s2]
 have s4:W1.heap.size=b+4:=by rw [sH,World.size_alloc,s3]
 have x1:Ext w w1:=by rw [tT];exact Qz.alloc _
 have x2:Ext w1 w2:=by rw [lR];exact Qz.alloc _
 have x3:Ext w2 w3:=by rw [ZM];exact Qz.alloc _
 have x4:Ext w3 W1:=by rw [sH];exact Qz.alloc _
 have c1:w1.heap[b]?=some (.cells #[.int .i64 (n:Int)] 3 (0,0)):=by rw [tT,hb];exact heap_alloc_new _ _
 have c2:w2.heap[b+1]?=some (.cells #[.int .i64 0,.slice none 0 0,.slice none 0 0] 26 (0,0)):=by rw [lR,<-s1];exact heap_alloc_new _ _
 have c3:w3.heap[b+2]?=some (.cells #[.int .i64 (n:Int),.slice none 0 0,.slice none 0 0] 26 (0,0)):=by rw [ZM,<-s2];exact heap_alloc_new _ _
 have c4:W1.heap[b+3]?=some (.cells #[.int .u64 (k:Int)] 41 (0,0)):=by rw [sH,<-s3];exact heap_alloc_new _ _
 have bR:=Qq (show Bb w W1 b n k 0 (.slice none 0 0) ((List.range 0).map fun i=>Gk n k i) (.slice none 0 0) []from
  ⟨ArI.start (x1.trans (x2.trans (x3.trans x4))) (by omega) (by omega) (by omega) ((x4.block (by omega)).trans c3),by rw [Nat.mul_zero,Nat.pow_zero,Nat.div_one];exact c4,by
   have h:=((x2.trans (x3.trans x4)).block (k:=b) (by omega)).trans c1;simp [World.cell?,h],((x3.trans x4).block (by omega)).trans c2⟩)
 rw [<-tT,<-lR,<-ZM,<-sH];clear tT lR ZM sH s1 s2 s3 s4 x1 x2 x3 x4 c1 c2 c3 c4 hb;go_wp2_with fail;go_loopw [19] (fun v' wr=>∃j:Nat,v'=.int .i64 (j:Int)/\j<=v/\Hid (∃vx,Bb w wr b n k j vx ((List.range j).map fun i=>Gk n k i) (.slice none 0 0) [])) (fun v' _=>v - (intOf v').toNat)
 case atStart=>exact⟨0,rfl,Nat.zero_le _,Qq ⟨_,bR.out⟩⟩
 case round =>
  clear bR;obtain⟨j,rfl,hj,zY⟩:=hrel;obtain⟨vx,nG⟩:=zY.out;have HI:=Qq nG;clear zY;by_cases hlt2:j < v
  ·have yP:(j:Int) < (v:Int):=by omega
   have GY:=Qq (YU.out (.inl (by omega)));have zA:=Qq (show(List.range (j+1)).map (fun i=>Gk n k i)=(List.range j).map (fun i=>Gk n k i)++ [Gk n k j]from by rw [List.range_succ,List.map_append];rfl);obtain⟨vs,ZR⟩:∃z,z=(List.range j).map (fun i=>Gk n k i):=⟨_,rfl⟩;have pT:vs.length<=8:=by rw [ZR,List.length_map,List.length_range];omega
   rw [<-ZR]at HI zA;obtain⟨Ax,cx,rfl⟩:=Qs HI.out.ar.val;obtain⟨pz,kO⟩:∃z,z=Gk n k j:=⟨_,rfl⟩;have WC:=Qq (show k / 2^(n*j) % 2^n=pz from kO.symm);rw [<-kO]at zA;obtain⟨⟨m0,m1,m2⟩,⟨mf0,mf1,mf2⟩,ml⟩:=HI.out.ar.cells;have xN:vs.length+1<=maxLen:=by unfold maxLen;omega
   have xJ:(vs.length+1)*8<=140737488355328:=by omega
   have yW:b < wr.heap.size:=by omega
   clear nG ZR kO m0 m2 mf0 mf2;go_upto_region 6 with(fail);refine Yd 7 (fun w'=>w'.cell? (⟨b+2,1,none⟩)=some (.slice Ax vs.length cx)) (by kernel_rfl) (xd ml m1) (fun zZ=> ?_);refine utk 0 zZ ?_;refine utk 1 zZ ?_;refine utk 2 zZ ?_;refine Qa (rs:= [3]) (by kernel_rfl) (by simp) ?_;refine Zj.cons rfl (fun K hK=> ?_) Zj.nil;go_simp;refine(Qnj (b+3) b n _ _ GY.out (AG.out j) (HI.out.next (W:=wr.drew) xv).rest (HI.out.next (W:=wr.drew) xv).box (by first|exact yW|(simp;omega))).mono ?_;rintro e w6 ⟨rfl,W,SU,DR,hZ⟩;subst hZ;rw [WC.out,Qra];have dE:=Qq ((HI.out.next (Ext.trans xv SU)).take iX.out)
   obtain⟨w6,hZ⟩:∃z,z=W.setCell ⟨b+3,0,none⟩ (.int .u64 ((k / 2^(n*(j+1)):Nat):Int)):=⟨_,rfl⟩;rw [<-hZ]at dE⊢;obtain⟨⟨_,m61,_⟩,_,ml6⟩:=dE.out.ar.cells;have pO:=Qq (show b+4<=w6.heap.size from dE.out.ar.top);clear hZ SU DR;go_wp2_with fail;refine hK.out _ _ m61 (fun zZ=> ?_);clear hK K;refine Qb ?_;refine Qa (rs:= [4]) (by kernel_rfl) (by simp) ?_;refine Zj.cons rfl (fun K hK=> ?_) Zj.nil;go_simp;refine hK.out _ _ (xd ml6 m61) (fun zZ=> ?_);clear hK K;refine Qb ?_;refine Qa (rs:= [5]) (by kernel_rfl) (by simp) ?_;refine Zj.cons rfl (fun K hK=> ?_) Zj.nil;refine Gq rfl (.tmp 22) (.tmp 25) 23 rfl (b+4) 41 iU (.int .u64 0) 1 8 Tryz.underlying23 sK xC xB xA rfl (by decide) (.slice Ax vs.length cx) vs.length (uV vs) (by simp [Act.eval]) (Zf dE.out.ar.val xv) ⟨w6.heap.size,0,none⟩ 1 1 [.int .u64 (pz:Int)] (by simp [Act.eval]) rfl (by exact Zm _ _ _ (by simp)) (fun u hu=>by rw [List.mem_singleton.1 hu];rfl) xN xJ (Qx pO.out (Ext.size (a:=w6) xv)) ?_
   intro v7 w7 zW zX zF;have oY:=Qq (dE.out.pushVal (show Ext w6 _ from xv) zW zX);have cA:=Qq ((zX.block (b+2) (Qy ml6 (Ext.size (a:=w6) xv)) (fun e=>absurd (World.ownsRow.lt dE.out.ar.val (b+2) e.symm).1 (by omega))).trans ((Ext.block (a:=w6) (k:=b+2) xv ml6).trans dE.out.ar.cell));obtain⟨⟨_,p1,_⟩,⟨_,pf1,_⟩,pl⟩:=Zc cA.out;obtain⟨A7,c7,qZ⟩:=Qs zW;subst qZ;clear zW zX zF;refine hK.out _ _ p1 (fun zZ=> ?_);clear hK K;refine Qb ?_;refine utk 6 zZ ?_;refine Yt (by kernel_rfl) rfl (fun K hK=> ?_);go_simp;refine hK.out _ _ ?_;clear hK K
   refine Qb ?_;refine Ys (by kernel_rfl) ?_ _;go_wp2_with fail;go_roundw
   case rel=>exact⟨j+1,by go_num,by omega,Qq ⟨_,by rw [zA.out];exact oY.out⟩⟩
   case measure=>simp [intOf] <;> omega
  obtain rfl:v=j:=by omega
  obtain⟨vals,qE⟩:∃z,z=(List.range v).map (fun i=>Gk n k i):=⟨_,rfl⟩;have fE:=Qq qE;rw [<-qE]at HI;clear nG qE;go_wp2_with fail;go_loopw [30] (fun v' wr=>∃i:Nat,v'=.int .i64 (i:Int)/\i<=a/\Hid (∃vy,Bb w wr b n k (v+n*i) vx vals vy ((List.range i).map fun q=>(List.range n).map fun u=>Gk n k (v+(n*q+u))))) (fun v' _=>a - (intOf v').toNat)
  case atStart=>exact⟨0,rfl,Nat.zero_le _,Qq ⟨_,by rw [Nat.mul_zero,Nat.add_zero];exact HI.out⟩⟩
  case round =>
   clear HI;obtain⟨i,rfl,hi,zY⟩:=hrel;obtain⟨vy,nG⟩:=zY.out;have HI:=Qq nG;clear zY;by_cases hlt2:i < a
   ·have yP:(i:Int) < (a:Int):=by omega
    have GY:=Qq (YU.out (.inr (by omega)));have zA:=Qq (show(List.range (i+1)).map (fun q=>(List.range n).map fun u=>Gk n k (v+(n*q+u)))=(List.range i).map (fun q=>(List.range n).map fun u=>Gk n k (v+(n*q+u)))++ [(List.range n).map fun u=>Gk n k (v+(n*i+u))]from by rw [List.range_succ,List.map_append];rfl);obtain⟨rows,tZ⟩:∃z,z=(List.range i).map (fun q=>(List.range n).map fun u=>Gk n k (v+(n*q+u))):=⟨_,rfl⟩;have mJ:rows.length<=4:=by rw [tZ,List.length_map,List.length_range];omega
    rw [<-tZ]at HI zA;have aU:=Qq (show ∀g,vy.ownBlock=some g->g < wr.heap.size from fun g hg=>by obtain⟨us2,_,xQ,_⟩:=HI.out.ar.rel;exact(xQ.lt g hg).2);have xD:=Qq HI.out.box;have c0:=xD.out;have yW:b < wr.heap.size:=by have:=HI.out.ar.mlt;omega
    have fH:=Qq HI.out.ar.top;obtain⟨wa,uU⟩:∃v,v=wr:=⟨_,rfl⟩;subst uU;clear nG tZ;go_wp2_with fail;clear c0;go_loopw [12,33] (fun v12 vi wr=>∃u:Nat,vi=.int .i64 (u:Int)/\u<=n/\Hid (Me w wa wr b n k (v+(n*i+u))/\Zx wa.heap.size wr v12 ((List.range u).map fun u=>Gk n k (v+(n*i+u))))) (fun _ vi _=>n - (intOf vi).toNat)
    case atStart=>exact⟨0,rfl,Nat.zero_le _,Qq ⟨HI.out.mid,Zx.nil _ _⟩⟩
    case round =>
     obtain⟨u,rfl,hu,zY⟩:=hrel;obtain⟨nG,rO⟩:=zY.out;have uK:=Qq nG;have SG:=Qq nG.same.1;have sO:=Qq rO;clear zY;by_cases yK:u < n
     ·have wM:(u:Int) < (n:Int):=by omega
      have oZ:=Qq (show(List.range (u+1)).map (fun u=>Gk n k (v+(n*i+u)))=(List.range u).map (fun u=>Gk n k (v+(n*i+u)))++ [Gk n k (v+(n*i+u))]from by rw [List.range_succ,List.map_append];rfl);obtain⟨out,yC⟩:∃z,z=(List.range u).map (fun u=>Gk n k (v+(n*i+u))):=⟨_,rfl⟩;have tG:out.length<=64:=by rw [yC,List.length_map,List.length_range];omega
      rw [<-yC]at sO oZ;obtain⟨pz,kO⟩:∃z,z=Gk n k (v+(n*i+u)):=⟨_,rfl⟩;have WC:=Qq (show k / 2^(n*(v+(n*i+u))) % 2^n=pz from kO.symm);rw [<-kO]at oZ;have xN:out.length+1<=maxLen:=by unfold maxLen;omega
      have xJ:(out.length+1)*8<=140737488355328:=by omega
      obtain⟨A1,c1,rfl⟩:=Qs sO.out;have sG:b < wr.heap.size:=by have:=Qf nG.rest;omega
      clear nG rO yC kO;go_wp2_with fail;refine(Qnj (b+3) b n _ _ GY.out (AG.out (v+(n*i+u))) uK.out.rest uK.out.box sG).mono ?_;rintro e w6 ⟨rfl,W,SU,DR,rfl⟩;rw [WC.out,Qra];have dE:=Qq ((uK.out.next fH.out SU).take (Nat.le_succ_of_le iX.out));have dD:=Qq (show Zx wa.heap.size (W.setCell ⟨b+3,0,none⟩ (.int .u64 ((k / 2^(n*(v+(n*i+u)+1)):Nat):Int))) (.slice A1 out.length c1) out from Zp (sO.out.ext SU) fun q hq=>Below.heap_setCell _ _ _ _ (show q≠b+3 by have:=(World.ownsRow.lt sO.out q hq).1;have:=fH.out;omega));obtain⟨w6,hZ⟩:∃z,z=W.setCell ⟨b+3,0,none⟩ (.int .u64 ((k / 2^(n*(v+(n*i+u)+1)):Nat):Int)):=⟨_,rfl⟩
      have pO:=Qq (show wr.heap.size<=w6.heap.size by rw [hZ];simp only [World.setCell,Array.size_modify];exact SU.size);rw [<-hZ]at dE dD⊢;clear hZ SU DR;go_wp2_with(at_builtin;refine wpList_append_own_at _ rfl _ _ 23 rfl wa.heap.size 41 iU (.int .u64 0) 1 8 Tryz.underlying23 sK xC xB xA rfl (by decide) _ out.length (uV out) rfl (Zf dD.out (Qz.alloc _)) ⟨_,0,none⟩ 1 1 [.int .u64 (pz:Int)] rfl rfl (Zm _ _ _ (by simp)) (fun u hu=>by rw [List.mem_singleton.1 hu];rfl) xN xJ (Qx (Qx SG.out pO.out) (by simp)) ?_);intro v7 w7 zW zX _ _;have qA:=Qq (Zx.snoc zW)
      have M1:=Qq ((dE.out.next fH.out (Qz.alloc (.cells #[.int .u64 (pz:Int)] 41))).grow fH.out (Nat.le_succ_of_le iX.out) zX (fun q hq=>(World.ownsRow.lt dD.out q hq).1));obtain⟨A7,c7,rfl⟩:=Qs zW;clear zW zX;go_wp2_with fail;go_roundw
      case rel=>exact⟨u+1,by go_num,by omega,Qq ⟨M1.out,by rw [oZ.out];exact qA.out⟩⟩
      case measure=>simp [intOf] <;> omega
     obtain rfl:n=u:=by omega
     obtain⟨rw1,dU⟩:∃z,z=(List.range n).map (fun u=>Gk n k (v+(n*i+u))):=⟨_,rfl⟩;rw [<-dU]at sO zA;have iZ:=Qq (HI.out.of_mid uK.out);obtain⟨us,sR,zP,wY⟩:=iZ.out.ar.rel;have jO:=Qq sR;have yJ:=Qq zP;have nR:=Qq wY;have LN:us.length<=4:=by rw [sR];exact mJ
     obtain⟨⟨m0,m1,m2⟩,⟨mf0,mf1,mf2⟩,ml⟩:=iZ.out.ar.cells;obtain⟨Av2,cv2,rfl⟩:=Qs zP;obtain⟨A1,c1,rfl⟩:=Qs sO.out;have xN:us.length+1<=maxLen:=by unfold maxLen;omega
     have xJ:(us.length+1)*24<=140737488355328:=by omega
     have cY:=Qq (show b+4<=wr.heap.size from iZ.out.ar.top);clear sR zP wY m0 m1 dU mJ nG rO;go_wp2_with(at_builtin;refine wpList_append_own_at _ rfl _ _ 24 rfl (b+4) 23 iS (.slice none 0 0) 1 24 Tryz.underlying24 NG dK dJ dI rfl (by decide) _ us.length us rfl (Zf yJ.out (Qz.alloc _)) ⟨_,0,none⟩ 1 1 [.slice A1 rw1.length c1] rfl rfl (Zm _ _ _ (by simp)) (fun u hu=>by rw [List.mem_singleton.1 hu];rfl) xN xJ (Qx cY.out (by simp)) ?_);intro v7 w7 zW zX qK zF;have oY:=Qq (iZ.out.pushRow jO.out yJ.out nR.out (Qz.alloc _) (sO.out.low fH.out) (fun g hg hv=>absurd (aU.out g hv) (by have:=(World.ownsRow.lt sO.out g hg).1;omega)) zW zX (zF.imp_right fun h=>by rw [h];simp))
     obtain⟨⟨p0,p1,p2⟩,⟨pf0,pf1,pf2⟩,pl⟩:=Zc ((zX.block (b+2) (Qy ml ((Ext.refl wr).alloc (.cells #[.slice A1 rw1.length c1] 23)).size) (fun e=>absurd (World.ownsRow.lt yJ.out (b+2) e.symm).1 (by omega))).trans ((((Ext.refl wr).alloc (.cells #[.slice A1 rw1.length c1] 23)).block ml).trans iZ.out.ar.cell));obtain⟨A7,c7,rfl⟩:=Qs zW;clear zW zX qK zF m2 mf0 mf1 mf2 p0 p1 pf0 pf1;go_wp2_with fail;go_roundw
     case rel=>exact⟨i+1,by go_num,by omega,Qq ⟨_,by rw [zA.out,Nat.mul_add,Nat.mul_one];exact oY.out⟩⟩
     case measure=>simp [intOf] <;> omega
   obtain rfl:a=i:=by omega
   obtain⟨us,-,zP,-⟩:=HI.out.ar.rel;obtain⟨Az,cz,rfl⟩:=Qs HI.out.ar.val;obtain⟨Ay,cy,rfl⟩:=Qs zP;obtain⟨⟨m0,m1,m2⟩,⟨mf0,mf1,mf2⟩,ml⟩:=HI.out.ar.cells;obtain⟨⟨q0,q1,q2⟩,⟨f0,f1,f2⟩,ql⟩:=Zc HI.out.res;have HE:=Qq (show Fg n a v k=⟨(n:Int),vals,(List.range a).map fun q=>(List.range n).map fun u=>Gk n k (v+(n*q+u))⟩ by rw [fE.out];rfl);clear nG zP;go_wp2_with fail
   (try simp only [Exit.inBlock,Exit.then])
   refine bodyPost_ret (Cw Tryz.results89 _ _ rfl (Ze (Yx HI.out.res _ _ _)) Tryz.underlying26 rfl (by kernel_rfl)) rfl ?_;refine⟨_,rfl,fun W hW=> ?_,Yv HI.out.ar.ext (by have:=xT.out;omega) _ _ _⟩;rw [HE.out];have h1:=xT.out;exact HI.out.ar.mdv ⟨Qx (by simp [World.setCell]) hW.1,fun k hk hl=>(hW.2 k (by omega) (by simpa [World.setCell]using hl)).trans (Kv (by omega) _ _ _)⟩
def Ss(md:Md)(s:Nat):Int:=if Zq md≠0 then Zq md else if Js s (Zs md.n.toNat)=false then 2 else if s=0 then 6 else 0
def Qx0(md:Md)(s:Nat):Md:=if Ss md s=0 then Ji md (Jy s)else⟨0,[],[]⟩
def Qxi(md:Md)(s:Nat):List Nat:=if Ss md s=0 then Jy s else []
theorem Gw(w:World):MdV w (.agg #[.int .i64 0,.slice none 0 0,.slice none 0 0]) ⟨0,[],[]⟩:=
 ⟨_,_,rfl,Qvi w,⟨none,0,rfl,Nat.le_refl _,by unfold maxLen;omega,fun h=>absurd rfl h⟩⟩
theorem Qdi(vm:Value)(md:Md)(s:Nat)(w:World)(hs:Qp s)(hT:Ky w)(hm:MdV w vm md)(zO:md.ok):
 Calls Tryz.prog 36 #[vm,.int .u64 (s:Int)] w fun e w'=>∃vr vl,e=.returned (.tuple #[vr,vl,.int .i64 (Ss md s)])/\Ext w w'/\Frz (fun k=>k < w.heap.size) w' (fun W=>MdV W vr (Qx0 md s)/\Nts W vl (Qxi md s)):=by
 have HM:=Qq hm;have HS:=Qq hs;have HT:=Qq hT;have zD:=Qq zO;obtain⟨vv,vr,rfl,⟨Av,cv,rfl,_⟩,⟨Ar,cr,rfl,_⟩⟩:=hm;obtain⟨n,hn⟩:∃n,n=md.n:=⟨_,rfl⟩;have HN:=Qq hn;rw [<-hn]at HM⊢;obtain⟨rE,CI⟩:∃z,z=Ss md s:=⟨_,rfl⟩;have rT:=Qq CI;rw [<-CI];obtain⟨ck,zT⟩:∃z,z=Zq md:=⟨_,rfl⟩;have xV:=Qq zT;obtain⟨W0,zE⟩:∃W,W=(w.alloc (.cells #[.int .i64 n,.slice Av md.val.length cv,.slice Ar md.rel.length cr] 26)).alloc (.cells #[.int .i64 0,.slice none 0 0,.slice none 0 0] 26):=⟨_,rfl⟩;have X0:=Qq (show Ext w W0 by rw [zE];exact(Qz.alloc _).alloc _);obtain⟨b,hb⟩:∃b,b=w.heap.size:=⟨_,rfl⟩;have B0:=Qq (show W0.heap[b]?=some (.cells #[.int .i64 n,.slice Av md.val.length cv,.slice Ar md.rel.length cr] 26 (0,0)) by rw [zE,hb];exact((Qz.alloc _).block (by simp)).trans (heap_alloc_new _ _))
 have B1:=Qq (show W0.heap[b+1]?=some (.cells #[.int .i64 0,.slice none 0 0,.slice none 0 0] 26 (0,0)) by
  have h1:=heap_alloc_new (w.alloc (.cells #[.int .i64 n,.slice Av md.val.length cv,.slice Ar md.rel.length cr] 26)) (.cells #[.int .i64 0,.slice none 0 0,.slice none 0 0] 26);rw [zE,hb]
  simpa using h1)
 have xT:=Qq (show w.heap.size<=b+1 by omega);clear hs hT zO hn CI zT;obtain⟨e0,e1,e2,el⟩:=Zt B0.out;go_enter Tryz.func36,Tryz.ntmps36;go_upto_region 1 with(fail);rw [<-zE,<-hb];clear zE hb;go_wp2_with fail;refine(Xs _ md _ (HM.out.ext X0.out) zD.out).mono ?_;rintro e w1 ⟨rfl,hx⟩;rw [<-xV.out];have zL:=Qq hx;have vX:=Qq ((hx.block (Qf B1.out)).trans B1.out);obtain⟨⟨q0,q1,q2⟩,⟨f0,f1,f2⟩,ql⟩:=Zc vX.out;clear hx e0 e1 e2 el;by_cases hz:ck=0
 case neg =>
  have zQ:(ck !=0)=true:=by simpa using hz
  have HE:=Qq (show rE=ck by rw [rT.out,xV.out];unfold Ss;rw [if_pos (by rw [<-xV.out];exact hz)]);have HZ:=Qq (show Ss md s≠0 by rw [<-rT.out,HE.out];exact hz);clear hz;go_wp2_with fail
  (try simp only [Exit.inBlock,Exit.then])
  refine bodyPost_ret (Yh Tryz.results36 _ _ rfl (Ze (Yx vX.out _ _ _)) Tryz.underlying26 rfl (by kernel_rfl)) rfl ?_;exact⟨_,_,by rw [HE.out] <;> rfl,Yv (X0.out.trans zL.out) xT.out _ _ _,fun W _=>by unfold Qx0 Qxi;rw [if_neg HZ.out,if_neg HZ.out];exact⟨Gw _,Qjb _⟩⟩
 subst hz;have zT:=xV.out.symm;obtain⟨vR,yN,_⟩:=Zn zT;obtain⟨N,oT⟩:=Int.eq_ofNat_of_zero_le (show 0<=n by rw [HN.out];omega);have qV:=Qq (show md.n.toNat=N by rw [<-HN.out,oT];exact Int.toNat_natCast N);have xH:N<=64:=by have:=HN.out;omega
 have sV:=Qq (show rE=if Js s (Zs N)=false then 2 else if s=0 then 6 else 0 by rw [rT.out];unfold Ss;rw [if_neg (by rw [zT];simp),qV.out]);subst oT;have xZ:=Vx HS.out (Vl xH);have jL:=Ly (a:=s) (b:=Zs N);obtain⟨d,hd⟩:∃d,d=Jv s (Zs N):=⟨_,rfl⟩;rw [<-hd]at xZ jL;obtain⟨e0,e1,e2,el⟩:=Zt ((zL.out.block (Qf B0.out)).trans B0.out);clear zT vR yN hd;go_wp2_with fail;refine(Ij N xH _).mono ?_;rintro e w2 ⟨rfl,rfl⟩;cases hsb:Js s (Zs N)
 ·rw [hsb]at jL sV;have zQ:((d:Int) !=0)=true:=by
   have:d≠0:=by intro e;rw [e]at jL;cases jL
   simp;omega
  have HE:=Qq (show rE=2 by rw [sV.out,if_pos rfl]);have HZ:=Qq (show Ss md s≠0 by rw [<-rT.out,HE.out];decide);clear jL hsb;go_wp2_with fail
  (try simp only [Exit.inBlock,Exit.then])
  refine bodyPost_ret (Yh Tryz.results36 _ _ rfl (Ze (Yx vX.out _ _ _)) Tryz.underlying26 rfl (by kernel_rfl)) rfl ?_;exact⟨_,_,by rw [HE.out] <;> rfl,Yv (X0.out.trans zL.out) xT.out _ _ _,fun W _=>by unfold Qx0 Qxi;rw [if_neg HZ.out,if_neg HZ.out];exact⟨Gw _,Qjb _⟩⟩
 rw [hsb]at jL sV;rw [if_neg (by simp)]at sV;have mO:d=0:=by simpa using jL
 subst mO;have cY:=Qq hsb;clear jL hsb;by_cases rA:s=0
 ·have zQ:((s:Int)==0)=true:=by rw [rA];rfl
  have HE:=Qq (show rE=6 by rw [sV.out,if_pos rA]);have HZ:=Qq (show Ss md s≠0 by rw [<-rT.out,HE.out];decide);clear rA;go_wp2_with fail
  (try simp only [Exit.inBlock,Exit.then])
  refine bodyPost_ret (Yh Tryz.results36 _ _ rfl (Ze (Yx vX.out _ _ _)) Tryz.underlying26 rfl (by kernel_rfl)) rfl ?_;exact⟨_,_,by rw [HE.out] <;> rfl,Yv (X0.out.trans zL.out) xT.out _ _ _,fun W _=>by unfold Qx0 Qxi;rw [if_neg HZ.out,if_neg HZ.out];exact⟨Gw _,Qjb _⟩⟩
 have zQ:((s:Int)==0)=false:=by rw [beq_eq_false_iff_ne];omega
 have HE:=Qq (show rE=0 by rw [sV.out,if_neg rA]);have HZ:=Qq (show Ss md s=0 by rw [<-rT.out,HE.out]);clear rA e0 e1 e2 el q0 q1 q2 f0 f1 f2 ql;go_wp2_with fail;refine(Qn3 s HS.out _ (HT.out.ext (X0.out.trans zL.out))).mono ?_;rintro e w2 ⟨vl,rfl,jE,hx⟩;have dC:=Qq jE;have K9:=Qq jE.nts;obtain⟨Al,cl,pT,_⟩:=jE.nts;subst pT;have zR:=Qq hx;have X2:=Qq (zL.out.trans hx);obtain⟨e0,e1,e2,el⟩:=Zt ((X2.out.block (Qf B0.out)).trans B0.out);clear jE hx;go_wp2_with fail;refine(Qnn _ _ md (Jy s) _ (HM.out.ext (X0.out.trans X2.out)) zD.out xV.out.symm K9.out (fun u hu=> ?_) (Qdp s)).mono ?_
 ·have h1:=Yb.1 cY.out u (Da.1 hu).2;rw [Kf,decide_eq_true_iff]at h1;rw [qV.out];exact h1
 rintro e w3 ⟨u,rfl,rO,hx⟩;have sO:=Qq rO;have zC:=Qq hx;have X3:=Qq (X2.out.trans hx);have vX:=Qq ((X3.out.block (Qf B1.out)).trans B1.out);obtain⟨u0,u1,hu,⟨A1,c1,rfl,_⟩,⟨A2,c2,rfl,_⟩⟩:=rO.here;subst hu;obtain⟨l1,rC⟩:∃z,z=(Ji md (Jy s)).n:=⟨_,rfl⟩;obtain⟨l2,sX⟩:∃z,z=(Ji md (Jy s)).val.length:=⟨_,rfl⟩;obtain⟨l3,rP⟩:∃z,z=(Ji md (Jy s)).rel.length:=⟨_,rfl⟩;rw [<-rC,<-sX,<-rP]at sO⊢;obtain⟨⟨q0,q1,q2⟩,⟨f0,f1,f2⟩,ql⟩:=Zc vX.out;have PZ:=Qq (show b+1 < w1.heap.size from Qy (Qf B1.out) zL.out.size);have HL2:=Qq X2.out.size;clear rO hx e0 e1 e2 el rC sX rP;go_wp2_with fail
 (try simp only [Exit.inBlock,Exit.then])
 refine bodyPost_ret (Yh Tryz.results36 _ _ rfl (Ze (Yx vX.out _ _ _)) Tryz.underlying26 rfl (by kernel_rfl)) rfl ?_;refine⟨_,_,by rw [HE.out] <;> rfl,Yv (X0.out.trans X3.out) xT.out _ _ _,fun W hW=> ?_⟩;have h1:=PZ.out;have h2:=zL.out.size;have h3:=X0.out.size;have h4:=zC.out.size;have h5:=xT.out;unfold Qx0 Qxi;rw [if_pos HZ.out,if_pos HZ.out];have wV:(((w3.setCell ⟨b+1,0,none⟩ (.int .i64 l1)).setCell ⟨b+1,1,none⟩ (.slice A1 l2 c1)).setCell ⟨b+1,2,none⟩ (.slice A2 l3 c2)).heap.size=w3.heap.size:=by simp [World.setCell]
 have vE:∀k,w1.heap.size<=k->k < w3.heap.size->W.heap[k]?=w3.heap[k]?:=fun k hk hl=>(hW.2 k (by omega) (by omega)).trans (Kv (by omega) _ _ _)
 have h6:=hW.1;have h7:w1.heap.size<=w2.heap.size:=zR.out.size;have zP:Bh w1.heap.size W (.slice Al (Jy s).length cl) (Jy s):=Zp dC.out fun k hk=>by
  have yP:=World.ownsRow.lt dC.out k hk;rw [vE k yP.1 (by omega),zC.out.block yP.2]
 exact⟨sO.out W ⟨by omega,fun k hk hl=>vE k (by omega) hl⟩,zP.nts⟩
theorem Qwl {a b:Nat}(h:a+b < 18446744073709551616):IntKind.u64.wrap ((a:Int)+(b:Int))=((a+b:Nat):Int):=by
 rw [IntKind.wrap_u64];omega
theorem Qv9(a M:Nat)(ha:a < 18446744073709551616)(hM:M < 18446744073709551616):bits .and .u64 (a:Int) (M:Int)=((a&&&M:Nat):Int):=Xz ha hM
theorem Qw7 {y c:Nat}(h:y < 9223372036854775808)(e:y % 128=c):bits .and .i64 (y:Int) 127=(c:Int):=by
 have h1:=My y 127 h (by omega);have h2:=Nat.and_two_pow_sub_one_eq_mod y 7;simp only [Nat.reducePow,Nat.reduceSub]at h2;rw [h2,e,show((127:Nat):Int)=127 from rfl]at h1;exact h1
theorem bd4 {a:Nat}(h:a<=1085102592571150095):a+a / 256<=1100000000000000000:=by omega
theorem bd5 {a:Nat}(h:a<=1100000000000000000):a+a / 65536<=1110000000000000000:=by omega
theorem bd6 {a:Nat}(h:a<=1110000000000000000):a+a / 4294967296<=1120000000000000000:=by omega
theorem ad4 {a:Nat}(h:a<=1085102592571150095):IntKind.u64.wrap ((a:Int)+(a:Int) / 256)=((a+a / 256:Nat):Int):=by rw [IntKind.wrap_u64];omega
theorem ad5 {a:Nat}(h:a<=1100000000000000000):IntKind.u64.wrap ((a:Int)+(a:Int) / 65536)=((a+a / 65536:Nat):Int):=by rw [IntKind.wrap_u64];omega
theorem ad6 {a:Nat}(h:a<=1110000000000000000):IntKind.u64.wrap ((a:Int)+(a:Int) / 4294967296)=((a+a / 4294967296:Nat):Int):=by rw [IntKind.wrap_u64];omega
theorem ad3 {a:Nat}(h:a<=7378697629483820646):IntKind.u64.wrap ((a:Int) / 16+(a:Int))=((a / 16+a:Nat):Int):=by rw [IntKind.wrap_u64];omega
theorem wr6 {a:Nat}(h:a<=1120000000000000000):wrap64 (a:Int)=(a:Int):=by unfold wrap64;omega
theorem an1 {a:Nat}(h:a < 18446744073709551616):bits .and .u64 ((a:Int) / 2) 6148914691236517205=((a / 2&&&6148914691236517205:Nat):Int):=by
 rw [show(a:Int) / 2=((a / 2:Nat):Int) by omega];exact Qv9 (a / 2) 6148914691236517205 (by omega) (by decide)
theorem an3 {a:Nat}(h:a < 18446744073709551616):bits .and .u64 ((a:Int) / 4) 3689348814741910323=((a / 4&&&3689348814741910323:Nat):Int):=by
 rw [show(a:Int) / 4=((a / 4:Nat):Int) by omega];exact Qv9 (a / 4) 3689348814741910323 (by omega) (by decide)
theorem Qek(x:Nat)(hx:Qp x)(w:World):Calls Tryz.prog 81 #[.int .u64 (x:Int)] w fun e w'=>e=.returned (.int .i64 ((Gz x 64:Nat):Int))/\w=w':=by
 obtain⟨x1,zN⟩:∃z,z=st1 6148914691236517205 x:=⟨_,rfl⟩;obtain⟨x2,zS⟩:∃z,z=st2 3689348814741910323 x1:=⟨_,rfl⟩;obtain⟨x3,zI⟩:∃z,z=st3 1085102592571150095 x2:=⟨_,rfl⟩;obtain⟨x4,yD⟩:∃z,z=st4 x3:=⟨_,rfl⟩;obtain⟨x5,xF⟩:∃z,z=st5 x4:=⟨_,rfl⟩;obtain⟨x6,uT⟩:∃z,z=st6 x5:=⟨_,rfl⟩;have HR:=Qq (show x6 % 128=Gz x 64 by
  rw [uT,xF,yD,zI,zS,zN];exact Qim hx)
 have hw:x < 18446744073709551616:=hx;obtain⟨p1,lW⟩:∃z,z=x / 2&&&6148914691236517205:=⟨_,rfl⟩;obtain⟨p2,tF⟩:∃z,z=x&&&6148914691236517205:=⟨_,rfl⟩;obtain⟨p3,JT⟩:∃z,z=x1 / 4&&&3689348814741910323:=⟨_,rfl⟩;obtain⟨p4,TP⟩:∃z,z=x1&&&3689348814741910323:=⟨_,rfl⟩;obtain⟨p5,JS⟩:∃z,z=x2 / 16+x2:=⟨_,rfl⟩;have k1:p1<=6148914691236517205:=by rw [lW];exact Nat.and_le_right
 have k2:p2<=6148914691236517205:=by rw [tF];exact Nat.and_le_right
 have k3:p3<=3689348814741910323:=by rw [JT];exact Nat.and_le_right
 have k4:p4<=3689348814741910323:=by rw [TP];exact Nat.and_le_right
 have e1:x1=p1+p2:=by rw [zN,lW,tF];rfl
 have e2:x2=p3+p4:=by rw [zS,JT,TP];rfl
 have b1:x1 < 18446744073709551616:=by rw [e1];omega
 have b2:x2<=7378697629483820646:=by rw [e2];omega
 have b5:p5 < 18446744073709551616:=by rw [JS];omega
 have e3:x3=p5&&&1085102592571150095:=by rw [zI,JS];rfl
 have b3:x3<=1085102592571150095:=by rw [e3];exact Nat.and_le_right
 have b4:x4<=1100000000000000000:=by rw [yD];exact bd4 b3
 have c5:x5<=1110000000000000000:=by rw [xF];exact bd5 b4
 have c6:x6<=1120000000000000000:=by rw [uT];exact bd6 c5
 have b6:x6 < 9223372036854775808:=Nat.lt_of_le_of_lt c6 (by decide);obtain⟨cn,ED⟩:∃z,z=Gz x 64:=⟨_,rfl⟩;have HF:=Qq (Qw7 b6 (HR.out.trans ED.symm));rw [<-ED];have f1:bits .and .u64 ((x:Int) / 2) 6148914691236517205=(p1:Int):=by rw [lW];exact an1 hw
 have f2:bits .and .u64 (x:Int) 6148914691236517205=(p2:Int):=by rw [tF];exact Qv9 x 6148914691236517205 hw (by decide)
 have f3:IntKind.u64.wrap ((p1:Int)+(p2:Int))=(x1:Int):=by rw [Qwl (e1▸b1),e1]
 have f4:bits .and .u64 ((x1:Int) / 4) 3689348814741910323=(p3:Int):=by rw [JT];exact an3 b1
 have f5:bits .and .u64 (x1:Int) 3689348814741910323=(p4:Int):=by rw [TP];exact Qv9 x1 3689348814741910323 b1 (by decide)
 have f6:IntKind.u64.wrap ((p3:Int)+(p4:Int))=(x2:Int):=by rw [Qwl (Nat.lt_of_le_of_lt (e2▸b2) (by decide)),e2]
 have f7:IntKind.u64.wrap ((x2:Int) / 16+(x2:Int))=(p5:Int):=by rw [JS];exact ad3 b2
 have f8:bits .and .u64 (p5:Int) 1085102592571150095=(x3:Int):=by rw [e3];exact Qv9 p5 1085102592571150095 b5 (by decide)
 have f9:IntKind.u64.wrap ((x3:Int)+(x3:Int) / 256)=(x4:Int):=by rw [yD];exact ad4 b3
 have f10:IntKind.u64.wrap ((x4:Int)+(x4:Int) / 65536)=(x5:Int):=by rw [xF];exact ad5 b4
 have f11:IntKind.u64.wrap ((x5:Int)+(x5:Int) / 4294967296)=(x6:Int):=by rw [uT];exact ad6 c5
 have f12:wrap64 (x6:Int)=(x6:Int):=wr6 c6;clear ED b6 hx hw zN zS zI yD xF uT HR lW tF JT TP JS e1 e2 e3 k1 k2 k3 k4 b1 b2 b3 b4 b5 c5 c6;go_enter Tryz.func81,Tryz.ntmps81;go_wp2_with fail;go_ret;exact⟨by rw [<-HF.out] <;> rfl,rfl⟩
end Go.Proofs.YtkmclcmnoicagaaGreatDoor
