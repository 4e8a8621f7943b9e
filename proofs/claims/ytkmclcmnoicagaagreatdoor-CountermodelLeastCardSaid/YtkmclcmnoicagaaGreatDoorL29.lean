/- The model that types make of a formula is a model of it (plain). -/
import Derived.Test.YtkmclcmnoicagaaGreatDoorL28
namespace Go.Proofs.YtkmclcmnoicagaaGreatDoor
set_option maxRecDepth 100000
set_option maxHeartbeats 128000000
theorem Qx0.mdC {lg:Int} {f:List Nd} {S:List Nat} {md:Md}(h:Qx0 lg f S md):Id lg (Qm f).1 S (Yj (Jd (Qf f))) (Yj (Je (Qf f))) md:=⟨h.n,h.rel,h.vlen,h.vlow,h.fact⟩
theorem Zvv {lg:Int} {f:List Nd} {S:List Nat} {md:Md}(he:Ji lg f=0)(h:Qx0 lg f S md):Ua lg f md 0:=by
 have hE:=Qzw he;have hh:=(Jj hE.ck).2.2.2;have U3:=Qqr (Dy (Qf f) 0 hh (by decide));have R9:=Qqr (Rp (Qf f) 0 hh (by decide));have hm:=h.mdC;have hF:=Qa5 hE h.al h.sel (fun n a hm=>(Qpb hE he _ hm).1.agent (.inl (hE.b.closed.know n a hm).1)|>.2);have zI:∀u∈S,u < 2^(Qm f).1.length:=fun u hu=>by have:=Xd (h.al u hu);rwa [Mx]at this
 have hg:=Qez hE.b ⟨hE.l0,hE.l6⟩ hF zI hm h.pos h.le U3 R9;have hl:Nr f=false:=by
  unfold Ji at he;cases ha:decide (lg < 0)||decide (6 < lg)
  ·rw [ha]at he;exact(Cp he).2.1
  rw [ha]at he;cases he
 have YJ:=Qis hE.ck hl hg.ck (by rw [hm.rel];simp) hm.vlen.symm;have EB:Jq md f=0:=by
  obtain⟨h1,_,h3,h4⟩:=Vb YJ;have h2:=Uf hE.ck;have aM:Jr (Js f) 15=true:=by unfold Js at h3⊢;rw [h2]at h3;exact h3
  have VK:Yd f md.rel.length md.val.length=true:=by
   unfold Yd at h4⊢;rw [h2,Gj hE.ck]at h4;rw [hE.ck];exact h4
  unfold Jq;rw [if_neg (by rw [h1];simp),if_neg (by rw [hE.ck];simp),if_neg (by rw [aM];simp),if_neg (by rw [VK];simp)]
 have uN:md.n.toNat=S.length:=by rw [hm.n];exact Int.toNat_natCast _
 have hp:=h.pos;refine⟨EB,by omega,hg,fun w hw=>(Zqc hE hF zI hm rfl rfl w).2 ?_⟩;rw [hw];exact h.root
def Qzb(lg:Int)(f:List Nd)(md:Md)(k:Nat)(er:Int):Prop :=
 (er≠0/\md=⟨0,[],[]⟩/\k=0/\(((lg < 0\/6 < lg)/\er=1)\/((0<=lg/\lg<=6)/\check f≠0/\er=check f)\/((0<=lg/\lg<=6)/\check f=0/\(Kj f).length=0/\er=8)\/
  ((0<=lg/\lg<=6)/\check f=0/\(Kj f).length≠0/\Ji lg (Kj f)≠0/\er=if Ji lg (Kj f)=6 then 14 else Ji lg (Kj f))\/
  ((0<=lg/\lg<=6)/\check f=0/\(Kj f).length≠0/\Ji lg (Kj f)=0/\Ux lg (Kj f)=false/\er=14)\/
  ((0<=lg/\lg<=6)/\check f=0/\(Kj f).length≠0/\Ji lg (Kj f)=0/\Ux lg (Kj f)=true/\6 < (Qm (Kj f)).1.length/\er=8)))\/
 (er=0/\check f=0/\(Kj f).length≠0/\Ji lg (Kj f)=0/\Ux lg (Kj f)=true/\Ua lg (Kj f) md k)
open Go.RowKit
def Nts(w:World)(v:Value)(l:List Nat):Prop:=∃A c,v=.slice A l.length c/\l.length<=c/\c<=maxLen/\Hid (∀i,i < l.length->∃ad,A=some ad/\ad.block < w.heap.size/\w.cell? (ad.add i)=some (.int .i64 ((l.getD i 0:Nat):Int)))
def Dd(base:Nat)(w:World)(v:Value)(l:List Nat):Prop:=w.ownsRow base 3 1 v l.length (Gh l)
section
variable {base:Nat} {w w':World} {v:Value} {l:List Nat}
theorem Nts.ext(h:Nts w v l)(he:Qg w w'):Nts w' v l:=by
 obtain⟨A,c,e,h1,h2,h3⟩:=h;refine⟨A,c,e,h1,h2,Qq fun i hi=> ?_⟩;obtain⟨ad,e,hl,hc⟩:=h3.out i hi;exact⟨ad,e,Qy hl he.size,(he.cell (p:=ad.add i) (Qj hl)).trans hc⟩
theorem Dd.ext(h:Dd base w v l)(he:Qg w w'):Dd base w' v l:=Zk h he
theorem Dd.nil(base:Nat)(w:World):Dd base w (.slice none 0 0) []:=World.ownsRow_nil _ _ _ _
theorem Qyn(w:World):Nts w (.slice none 0 0) []:=⟨none,0,rfl,Nat.le_refl _,by unfold maxLen;omega,Qq fun i hi=>absurd hi (by simp)⟩
theorem Dd.nts(h:Dd base w v l):Nts w v l:=by
 have h0:=h;rcases h.2 with⟨e,e0⟩|⟨g,cap,cur,e,hb,hg,iE,hm,hs,ht⟩
 ·have:l= []:=List.length_eq_zero_iff.1 e0;subst this e;exact Qyn w
 subst e;refine⟨_,cap,rfl,iE,hm,Qq fun i hi=> ?_⟩;obtain⟨g',cap',e,xP,_,_,_,hc⟩:=Un h0 hi rfl;injection e with e1 e2 e3;injection e1 with e1;injection e1 with e1;subst e1;exact⟨_,rfl,xP,by rw [Ir];exact hc⟩
theorem Dd.snoc {w7:World} {u:Nat} {v7:Value}(h:w7.ownsRow base 3 1 v7 (l.length+1) (Gh l++ [.int .i64 (u:Int)])):Dd base w7 v7 (l++ [u]):=by
 unfold Dd Gh;rw [List.map_append,List.length_append];exact h
theorem Zv.snoc {w7:World} {u:Nat} {v7:Value}(h:w7.ownsRow base 41 1 v7 (l.length+1) (uV l++ [.int .u64 (u:Int)])):Zv base w7 v7 (l++ [u]):=by
 unfold Zv uV;rw [List.map_append,List.length_append];exact h
end
theorem Qmo {s k:Nat}(hs:Qp s):bits .and .u64 ((s:Int) / 2^k) 1=((if s.testBit k then 1 else 0:Nat):Int):=by
 have zI:s / 2^k < 18446744073709551616:=Nat.lt_of_le_of_lt (Nat.div_le_self _ _) hs;rw [Dq,show(1:Int)=((1:Nat):Int)from rfl,bits_and_u64_nat _ 1 zI (by decide),Nat.and_one_is_mod,Nat.testBit_eq_decide_div_mod_eq];rcases Nat.mod_two_eq_zero_or_one (s / 2^k)with h|h <;> rw [h] <;> rfl
theorem Zzp {x:Nat} :IntKind.u64.wrap (1*2^x)=IntKind.u64.wrap ((2:Int)^x):=by rw [Int.one_mul]
theorem Zzl {x:Nat} :IntKind.u64.wrap (0*2^x)=0:=by
 rw [Int.zero_mul];decide
theorem Qe6 {z:Nat}(h:Qp z):bits .or .u64 (z:Int) 0=(z:Int):=by
 have:=Gq (a:=z) (b:=0) h (by show(0:Nat) < _;omega);rw [Nat.or_zero]at this;exact this
def spa(B:Nat)(vr:Value)(k:Nat):Prop:=k < B\/vr.ownBlock=some k
structure Fb (w0 wr:World) (mb B:Nat) (n:Int) (vv:Value) (vals:List Nat) (vr:Value) (rows:List (List Nat)):Prop where
 ext:Qg w0 wr
 lo:w0.heap.size<=mb
 lt:mb < B
 top:B<=wr.heap.size
 cell:wr.heap[mb]?=some (.cells #[.int .i64 n,vv,vr] 26 (0,0))
 val:Zv B wr vv vals
 rel:∃us:List Value,us.length=rows.length/\wr.ownsRow B 23 1 vr us.length us/\∀(k:Nat) u r,us[k]?=some u->rows[k]?=some r->Kr (spa B vr) wr (fun w'=>Jb w' u r)
 dr:∀g,vr.ownBlock=some g->vv.ownBlock≠some g
section
variable {w0 wr W:World} {mb B:Nat} {n:Int} {vv vr:Value} {vals:List Nat} {rows:List (List Nat)}
theorem Fb.start(he:Qg w0 wr)(hm:w0.heap.size<=mb)(hB:mb < B)(hS:B<=wr.heap.size)(hc:wr.heap[mb]?=some (.cells #[.int .i64 n,.slice none 0 0,.slice none 0 0] 26 (0,0))):Fb w0 wr mb B n (.slice none 0 0) [] (.slice none 0 0) []:=
 ⟨he,hm,hB,hS,hc,Zv.nil _ _,⟨[],rfl,World.ownsRow_nil _ _ _ _,fun k u r hu _=>by simp at hu⟩,fun g hg=>by cases hg⟩
theorem Fb.next(h:Fb w0 wr mb B n vv vals vr rows)(he:Qg wr W):Fb w0 W mb B n vv vals vr rows:=by
 obtain⟨us,e,h1,h2⟩:=h.rel;exact⟨h.ext.trans he,h.lo,h.lt,Qx h.top he.size,(he.block (Qn h.cell)).trans h.cell,h.val.ext he,⟨us,e,Zk h1 he,fun k u r hu hr=>(h2 k u r hu hr).next (Yk.of_ext he) fun _ _ h=>h⟩,h.dr⟩
theorem Fb.mlt(h:Fb w0 wr mb B n vv vals vr rows):mb < wr.heap.size:=Qn h.cell
theorem Fb.cells(h:Fb w0 wr mb B n vv vals vr rows):(wr.cell? ⟨mb,0,none⟩=some (.int .i64 n)/\wr.cell? ⟨mb,1,none⟩=some vv/\wr.cell? ⟨mb,2,none⟩=some vr)/\(wr.frozen? ⟨mb,0,none⟩=false/\wr.frozen? ⟨mb,1,none⟩=false/\wr.frozen? ⟨mb,2,none⟩=false)/\mb < wr.heap.size :=
 Zp h.cell
theorem Fb.pushVal {w7 W6:World} {v7:Value} {s:Nat}(h:Fb w0 wr mb B n vv vals (.slice none 0 0) [])(uX:Qg wr W6)
 (ho:w7.ownsRow B 41 1 v7 (vals.length+1) (uV vals++ [.int .u64 (s:Int)]))(uD:W6.grownBy w7 vv.ownBlock):
 Fb w0 (w7.setCell ⟨mb,1,none⟩ v7) mb B n v7 (vals++ [s]) (.slice none 0 0) []:=by
 have h6:=h.next uX;have zI:=h.lt;have qG:=fun k hk=>(World.ownsRow.lt h6.val k hk)
 have qA:=fun k hk=>(World.ownsRow.lt ho k hk)
 have kO:Qg w0 w7:=h6.ext.grown uD (fun k hk=>by have:=(qG k hk).1;have:=h.lo;omega);have hm7:w7.heap[mb]?=some (.cells #[.int .i64 n,vv,.slice none 0 0] 26 (0,0)):=(uD.block mb h6.mlt (fun e=>by have:=(qG _ e.symm).1;omega)).trans h6.cell;refine⟨kO.setCell (p:=⟨mb,1,none⟩) h.lo _,h.lo,h.lt,Qx h6.top (Qx uD.size (by simp [World.setCell])),?_,?_,⟨[],rfl,World.ownsRow_nil _ _ _ _,fun k u r hu _=>by simp at hu⟩,fun g hg=>by cases hg⟩
 ·simp only [World.setCell,Array.getElem?_modify,hm7,if_true,Option.map_some];simp
 exact Zm (Zv.snoc ho) fun k hk=>Below.heap_setCell _ _ _ _ (show k≠mb by have:=(qA k hk).1;omega)
theorem Zv.low {base B:Nat} {w:World} {v:Value} {l:List Nat}(h:Zv base w v l)(hb:B<=base):Zv B w v l :=
 ⟨h.1,h.2.imp id fun⟨g,cap,cur,e,h1,r⟩=>⟨g,cap,cur,e,Qx hb h1,r⟩⟩
theorem Fb.pushRow {wa w7 W6:World} {v7 u:Value} {r:List Nat} {us:List Value}(h:Fb w0 wa mb B n vv vals vr rows)(e:us.length=rows.length)(xW:wa.ownsRow B 23 1 vr us.length us)
 (aN:∀(k:Nat) u r,us[k]?=some u->rows[k]?=some r->Kr (spa B vr) wa (fun w'=>Jb w' u r))(XN:Qg wa W6)(hu:Zv B wa u r)(zQ:∀g,u.ownBlock=some g->vr.ownBlock≠some g)
 (ho:w7.ownsRow B 23 1 v7 (us.length+1) (us++ [u]))(uD:W6.grownBy w7 vr.ownBlock)(eQ:v7.ownBlock=vr.ownBlock\/v7.ownBlock=some W6.heap.size):
 Fb w0 (w7.setCell ⟨mb,2,none⟩ v7) mb B n vv vals v7 (rows++ [r]):=by
 have h6:=h.next XN;have zI:=h.lt;have h1:=Zk xW XN;have h2:=fun k u r hu hr=>(aN k u r hu hr).next (X':=spa B vr) (Yk.of_ext XN) fun _ _ h=>h
 have qG:=fun k hk=>(h1.lt k hk)
 have qL:=h6.mlt;have s7:=uD.size;have qA:=fun k hk=>(World.ownsRow.lt ho k hk)
 have kO:Qg w0 w7:=h6.ext.grown uD (fun k hk=>by have:=(qG k hk).1;have:=h.lo;omega);have xA:∀k,k≠mb->(w7.setCell ⟨mb,2,none⟩ v7).heap[k]?=w7.heap[k]?:=fun k e=>Below.heap_setCell _ _ _ _ e
 have TY:w7.heap[mb]?=some (.cells #[.int .i64 n,vv,vr] 26 (0,0)):=(uD.block mb qL (fun e=>by have:=(qG _ e.symm).1;omega)).trans h6.cell;have dH:(w7.setCell ⟨mb,2,none⟩ v7).heap.size=w7.heap.size:=by simp [World.setCell]
 have dJ:Yk (spa B vr) W6 (w7.setCell ⟨mb,2,none⟩ v7):=⟨by omega,fun k hk hl=>by
  rw [xA k (fun e=>hk (.inl (by omega))),uD.block k hl (fun e=>hk (.inr e.symm))]⟩
 have TE:∀k,k < W6.heap.size->spa B v7 k->spa B vr k:=fun k hk hs=>by
  rcases hs with e|e
  ·exact .inl e
  rcases eQ with e2|e2
  ·exact .inr (e2▸e)
  rw [e2]at e;injection e with e;omega
 refine⟨kO.setCell (p:=⟨mb,2,none⟩) h.lo _,h.lo,h.lt,Qx h6.top (by omega),?_,?_,⟨us++ [u],by simp [e],?_,fun k x y hx hy=> ?_⟩,fun g hg hv=> ?_⟩
 ·simp only [World.setCell,Array.getElem?_modify,TY,if_true,Option.map_some];simp
 ·exact Zm h6.val fun k hk=>by
   have yT:=World.ownsRow.lt h6.val k hk;rw [xA k (by omega),uD.block k yT.2 (fun e=>h.dr k e.symm hk)]
 ·rw [List.length_append,List.length_singleton];exact Zm ho fun k hk=>xA k (by have:=(qA k hk).1;omega)
 ·by_cases hk:k < us.length
  ·rw [List.getElem?_append_left hk]at hx;rw [List.getElem?_append_left (by omega)]at hy;exact(h2 k x y hx hy).next dJ TE
  have xD:=(List.getElem?_eq_some_iff.1 hx).1;rw [List.length_append,List.length_singleton]at xD;have ek:k=us.length:=by omega
  subst ek;rw [List.getElem?_append_right (Nat.le_refl _),Nat.sub_self]at hx;rw [e,List.getElem?_append_right (Nat.le_refl _),Nat.sub_self]at hy;obtain rfl:u=x:=by simpa using hx
  obtain rfl:r=y:=by simpa using hy
  intro w' BG;have this:Zv B w' u r:=Zm hu fun g hg=>by
   have vK:=World.ownsRow.lt hu g hg;have hl6:=XN.size;have LP:¬spa B v7 g:=fun hs=>by
    rcases hs with e|e
    ·omega
    rcases eQ with e2|e2
    ·exact zQ g hg (e2▸e)
    rw [e2]at e;injection e with e;omega
   rw [BG.2 g LP (by omega),xA g (by omega),uD.block g (by omega) (fun e=>zQ g hg e.symm),XN.block vK.2]
  exact this.u64s
 rcases eQ with e2|e2
 ·exact h.dr g (e2▸hg) hv
 rw [e2]at hg;injection hg with hg;have:=(World.ownsRow.lt h6.val g hv).2;omega
theorem Fb.other(h:Fb w0 wr mb B n vv vals vr rows) {r:Nat}(h0:w0.heap.size<=r)(h1:r < B)(h2:r≠mb)(v:Value):Fb w0 (wr.setCell ⟨r,0,none⟩ v) mb B n vv vals vr rows:=by
 have xA:∀k,k≠r->(wr.setCell ⟨r,0,none⟩ v).heap[k]?=wr.heap[k]?:=fun k e=>Below.heap_setCell _ _ _ _ e
 obtain⟨us,e,xW,aN⟩:=h.rel;refine⟨h.ext.setCell (p:=⟨r,0,none⟩) h0 _,h.lo,h.lt,Qx h.top (by simp [World.setCell]),(xA mb (Ne.symm h2)).trans h.cell,Zm h.val fun k hk=>xA k (by have:=(World.ownsRow.lt h.val k hk).1;omega),⟨us,e,Zm xW fun k hk=>xA k (by have:=(xW.lt k hk).1;omega),fun k u y hu hy=> ?_⟩,h.dr⟩;exact(aN k u y hu hy).next (X':=spa B vr) ⟨by simp [World.setCell],fun k hk _=>xA k (fun e=>hk (.inl (by omega)))⟩ (fun _ _ h=>h)
theorem Fb.mdv {w':World}(h:Fb w0 wr mb B n vv vals vr rows)(hs:Yk (fun k=>k < B) wr w'):Yz w' (.agg #[.int .i64 n,vv,vr]) ⟨n,vals,rows⟩:=by
 have zR:Zv B w' vv vals:=Zm h.val fun k hk=>hs.2 k (by have:=(World.ownsRow.lt h.val k hk).1;omega) (World.ownsRow.lt h.val k hk).2
 refine⟨_,_,rfl,zR.u64s,?_⟩;obtain⟨us,e,xW,h2⟩:=h.rel;have h1:=Zm (w':=w') xW fun k hk=>hs.2 k (by have:=(xW.lt k hk).1;omega) (xW.lt k hk).2
 have tB:Yk (spa B vr) wr w':=⟨hs.1,fun k hk hl=>hs.2 k (fun e=>hk (.inl e)) hl⟩;rcases h1.2 with⟨ev,e0⟩|⟨g,cap,cur,ev,hb,hg,iE,hm,XW,ht⟩
 ·subst ev;have:rows= []:=List.length_eq_zero_iff.1 (by omega);subst this;exact⟨none,0,rfl,Nat.le_refl _,by unfold maxLen;omega,fun h=>absurd rfl h⟩
 subst ev;refine⟨_,cap,by rw [e],by show rows.length<=cap;omega,hm,fun _=>⟨_,rfl,Qn hg,fun k s hk=> ?_⟩⟩;have xD:k < rows.length:=(List.getElem?_eq_some_iff.1 hk).1;obtain⟨u,hu⟩:∃u,us[k]?=some u:=⟨_,List.getElem?_eq_getElem (by omega)⟩;refine⟨u,?_,h2 k u s hu hk w' tB⟩;rw [Ir];have h3:=hu;rw [<-ht,List.getElem?_take]at h3
 split at h3
 ·have h4:cur[k]?=some u:=by simpa using h3
  simp [World.cell?,hg,h4]
 cases h3
end
theorem Qg7 {n a v:Nat}(hn:n<=64)(ha:a<=4)(hv:v<=8):n*v<=512/\n*n<=4096/\n*n*a<=16384:=by
 have h1:n*v<=64*8:=Nat.mul_le_mul hn hv;have h2:n*n<=64*64:=Nat.mul_le_mul hn hn;have h3:n*n*a<=64*64*4:=Nat.mul_le_mul h2 ha;omega
theorem Sd {x:Nat}(h:x < 9223372036854775808):wrap64 (x:Int)=(x:Int):=by unfold wrap64;omega
theorem Qqs(n a v:Nat)(hn:n<=64)(ha:a<=4)(hv:v<=8)(w:World):
 Calls Tryz.prog 88 #[.int .i64 (n:Int),.int .i64 (a:Int),.int .i64 (v:Int)] w fun e w'=>e=.returned (.int .i64 ((Zh n a v:Nat):Int))/\w=w':=by
 obtain⟨b1,b2,b3⟩:=Qg7 hn ha hv;obtain⟨p,hp⟩:∃z,z=n*v:=⟨_,rfl⟩;obtain⟨q,hq⟩:∃z,z=n*n:=⟨_,rfl⟩;obtain⟨r,hr⟩:∃z,z=n*n*a:=⟨_,rfl⟩;rw [<-hp]at b1;rw [<-hq]at b2;rw [<-hr]at b3;have f1:wrap64 ((n:Int)*(v:Int))=(p:Int):=by
  rw [show(n:Int)*(v:Int)=((n*v:Nat):Int) by simp,<-hp];exact Sd (by omega)
 have f2:wrap64 ((n:Int)*(n:Int))=(q:Int):=by
  rw [show(n:Int)*(n:Int)=((n*n:Nat):Int) by simp,<-hq];exact Sd (by omega)
 have f3:wrap64 ((q:Int)*(a:Int))=(r:Int):=by
  rw [show(q:Int)*(a:Int)=((q*a:Nat):Int) by simp,hq,<-hr];exact Sd (by omega)
 have HL:=Qq (show p+r=Zh n a v by rw [hp,hr];rfl);clear hn ha hv hp hq hr;go_enter Tryz.func88,Tryz.ntmps88;go_wp2_with fail;go_ret;exact⟨by rw [<-HL.out] <;> first|rfl|simp,rfl⟩
theorem Qni(R B n rest:Nat)(w:World)(hn:n < 64)(hr:Qp rest)(hR:w.heap[R]?=some (.cells #[.int .u64 (rest:Int)] 41 (0,0)))(hB:w.cell? ⟨B,0,none⟩=some (.int .i64 (n:Int)))(YQ:B < w.heap.size):
 Calls Tryz.prog 156 #[.pointer (some ⟨R,0,none⟩),.pointer (some ⟨B,0,none⟩)] w fun e w'=>e=.returned (.int .u64 ((rest % 2^n:Nat):Int))/\∃W,Qg w W/\W.heap=w.heap/\w'=W.setCell ⟨R,0,none⟩ (.int .u64 ((rest / 2^n:Nat):Int)):=by
 have YE:min n 64=n:=by omega
 have wH:(n:Int) < 64:=by omega
 have vJ:=Th hn;have zI:2^n - 1 < 18446744073709551616:=by
  have:=Rv (show n<=64 by omega);have:=Nat.two_pow_pos n;omega
 have xT:=Xy hr (show Qp (2^n - 1)from zI);rw [Nat.and_two_pow_sub_one_eq_mod]at xT;obtain⟨al,vS⟩:∃z,z=2^n - 1:=⟨_,rfl⟩;rw [<-vS]at vJ xT;obtain⟨md,rR⟩:∃z,z=rest % 2^n:=⟨_,rfl⟩;rw [<-rR]at xT⊢;have NS:(rest:Int) / 2^n=((rest / 2^n:Nat):Int):=Dq _ _;obtain⟨dv,eH⟩:∃z,z=rest / 2^n:=⟨_,rfl⟩;rw [<-eH]at NS⊢;have c0:w.cell? ⟨R,0,none⟩=some (.int .u64 (rest:Int)):=by simp [World.cell?,hR]
 have cf:w.frozen? ⟨R,0,none⟩=false:=by simp [World.frozen?,hR]
 have cl:=Qn hR;clear zI vS rR eH hr hn;go_enter Tryz.func156,Tryz.ntmps156;go_upto_region 1 with(fail);go_quiet (fail);have HX:=Qq (show Qg w (w.drewN nq)from(Qg.refl w).drewN nq);have HH:=Qq (show(w.drewN nq).heap=w.heap from rfl);obtain⟨W,hW⟩:∃z,z=w.drewN nq:=⟨_,rfl⟩;rw [<-hW]at HX HH⊢;have d0:=(HX.out.cell (p:=⟨R,0,none⟩) cl).trans c0;have d1:=(HX.out.cell (p:=⟨B,0,none⟩) YQ).trans hB;have df:W.frozen? ⟨R,0,none⟩=false:=by
  have:=HX.out.block (k:=R) cl;simp [World.frozen?,this,hR]
 have dl:=Qy cl HX.out.size;clear hW c0 cf cl hB YQ hR;go_wp2_with fail;go_ret;exact⟨rfl,W,HX.out,HH.out,rfl⟩
theorem Qnv(s:Nat):(Yq s).length<=64:=by
 rw [Qgg];unfold Gy;exact Qx List.countP_le_length (by rw [List.length_range];exact Nat.le_refl _)
theorem Qrt(s:Nat)(hs:Qp s)(w:World)(hT:Kk w):
 Calls Tryz.prog 95 #[.int .u64 (s:Int)] w fun e w'=>∃u,e=.returned u/\Dd w.heap.size w' u (Yq s)/\Qg w w':=by
 have HT:=Qq hT;have HS:=Qq hs;obtain⟨iI,pO,vO,vN,vM⟩:=info_parts Qjc;clear hT hs;go_enter Tryz.func95,Tryz.ntmps95;go_wp2_with fail;go_loopw [0,3] (fun v0 v3 wr=>∃cur:Nat,v0=.int .u64 (cur:Int)/\Hid (∃pre,pre++Yq cur=Yq s/\Qp cur/\Qg w wr/\Dd w.heap.size wr v3 pre)) (fun v _ _=>(Yq (intOf v).toNat).length)
 case atStart=>exact⟨s,rfl,Qq ⟨[],rfl,HS.out,Qz,Dd.nil _ _⟩⟩
 case round =>
  obtain⟨cur,rfl,zY⟩:=hrel;obtain⟨pre,rB,T1,hx,rR⟩:=zY.out;have HP:=Qq rB;have HC:=Qq T1;have HX:=Qq hx;have HM:=Qq rR;obtain⟨A1,c1,rfl⟩:=Qs rR;clear zY rB T1 hx rR;by_cases h0:cur=0
  ·subst h0;have zQ:(((0:Nat):Int) !=0)=false:=by simp
   go_wp2_with fail;go_ret;exact⟨_,rfl,by rw [<-HP.out,Qnx,List.append_nil];exact HM.out,HX.out⟩
  have zQ:((cur:Int) !=0)=true:=by simpa using h0
  have H0:=Qq h0;have yY:=Qq (Qnk HC.out h0);have lZ:pre.length+1<=64:=by
   have h1:=Qnv s;rw [<-HP.out,yY.out,List.length_append,List.length_cons]at h1;omega
  have sY:IntKind.u64.wrap ((cur:Int) - 1)=((cur - 1:Nat):Int):=by
   have:=HC.out;unfold Qp at this;rw [IntKind.wrap_u64];omega
  have xT:bits .and .u64 (cur:Int) ((cur - 1:Nat):Int)=((cur&&&(cur - 1):Nat):Int):=Xy HC.out (Nat.lt_of_le_of_lt (Nat.sub_le _ _) HC.out);have xS:pre.length+1<=maxLen:=by unfold maxLen;omega
  have xR:(pre.length+1)*8<=140737488355328:=by omega
  clear h0;go_wp2_with fail;refine(Qn1 cur HC.out H0.out _ (HT.out.ext HX.out)).mono ?_;rintro e w1 ⟨rfl,rfl⟩;go_wp2_with(at_builtin;refine wpList_append_own_at _ rfl _ _ 36 rfl w.heap.size 3 iI (.int .i64 0) 1 8 Tryz.underlying36 pO vO vN vM rfl (by decide) _ pre.length (Gh pre) rfl (Zk HM.out (Qz.alloc _)) ⟨_,0,none⟩ 1 1 [.int .i64 ((Dt cur:Nat):Int)] rfl rfl (Zt _ _ _ (by simp)) (fun u hu=>by rw [List.mem_singleton.1 hu];rfl) xS xR (Qx HX.out.size (by simp)) ?_);intro v7 w7 zW zX _ _;have qY:=Qq (show Qg w w7 from(HX.out.alloc _).grown zX (fun k hk=>(HM.out.lt k hk).1))
  have pA:=Qq (Dd.snoc zW);obtain⟨A7,c7,rfl⟩:=Qs zW;clear zW zX;go_wp2_with fail;go_roundw
  case rel=>exact⟨cur&&&(cur - 1),rfl,Qq ⟨pre++ [Dt cur],by rw [List.append_assoc,<-HP.out,yY.out];rfl,Nat.lt_of_le_of_lt Nat.and_le_left HC.out,qY.out,pA.out⟩⟩
  case measure =>
   show(Yq ((cur&&&(cur - 1):Nat):Int).toNat).length < (Yq ((cur:Nat):Int).toNat).length;rw [Int.toNat_natCast,Int.toNat_natCast,yY.out,List.length_cons];omega
theorem Qng(s:Nat)(hs:Qp s)(v:Value)(ws:List Nat)(w:World)(h:Nts w v ws)(zI:∀u∈ws,u < 64)(hl:ws.length<=64):
 Calls Tryz.prog 160 #[.int .u64 (s:Int),v] w fun e w'=>e=.returned (.int .u64 ((Kv s ws:Nat):Int))/\w=w':=by
 have HS:=Qq hs;have HL:=Qq zI;obtain⟨A,c,rfl,_,_,HA⟩:=h;clear hs zI;go_enter Tryz.func160,Tryz.ntmps160;go_wp2_with fail;go_loopw [5,10] (fun vo vi wr=>∃i:Nat,vi=.int .i64 (i:Int)/\i<=ws.length/\∃z:Nat,vo=.int .u64 (z:Int)/\Hid (z=Vd i (fun i=>s.testBit (ws.getD i 0))/\w=wr)) (fun _ v _=>ws.length - (intOf v).toNat)
 case atStart=>exact⟨0,rfl,Nat.zero_le _,0,rfl,Qq ⟨rfl,rfl⟩⟩
 case round =>
  obtain⟨i,rfl,hi,z,rfl,zY⟩:=hrel;obtain⟨hz,rfl⟩:=zY.out;have HZ:=Qq hz;have KK:=Qq (show Qp z by rw [hz];exact Fi (by omega) _);clear zY hz;by_cases hlt2:i < ws.length
  ·have yT:(i:Int) < (ws.length:Int):=by omega
   have wW:(i:Int) < 64:=by omega
   have mM:min i 64=i:=by omega
   obtain⟨ad,rfl,zV,hc⟩:=HA.out i hlt2;have qH:ws.getD i 0 < 64:=HL.out _ (by rw [Qk,Qv hlt2];exact List.getElem_mem _);have yY:=Qq (Dk i (fun i=>s.testBit (ws.getD i 0)));obtain⟨u,hu⟩:∃u,u=ws.getD i 0:=⟨_,rfl⟩;have xT:=Qmo (k:=u) HS.out;have aU:=Qq (show Vd (i+1) (fun i=>s.testBit (ws.getD i 0))=if s.testBit u then z|||2^i else z by rw [yY.out,HZ.out,hu]);rw [<-hu]at hc qH;have JL:(u:Int) < 64:=by omega
   have kZ:min u 64=u:=by omega
   have al:(ad.add i).block < w.heap.size:=by rw [Qt];exact zV
   clear hu yY HZ;cases yC:s.testBit u
   ·rw [yC]at xT aU;have OG:bits .and .u64 ((s:Int) / 2^u) 1=0:=xT;have bW:=Zzl (x:=i);have uM:=Qe6 KK.out;clear yC xT;go_wp2_with fail;go_roundw
    case rel=>exact⟨i+1,by go_num,by omega,z,rfl,Qq ⟨by rw [aU.out];rfl,by first|rfl|trivial⟩⟩
    case measure=>simp [intOf];omega
   rw [yC]at xT aU;have OG:bits .and .u64 ((s:Int) / 2^u) 1=1:=xT;have bW:=Zzp (x:=i);have uM:=Oo KK.out (show i < 64 by omega);clear yC xT;go_wp2_with fail;go_roundw
   case rel=>exact⟨i+1,by go_num,by omega,z|||2^i,rfl,Qq ⟨by rw [aU.out];rfl,by first|rfl|trivial⟩⟩
   case measure=>simp [intOf];omega
  obtain rfl:ws.length=i:=by omega
  have HE:=Qq (show Kv s ws=z from HZ.out.symm);go_wp2_with fail;go_ret;exact⟨by rw [HE.out] <;> rfl,rfl⟩
theorem Qkx:(Tryz.prog.info? 23).map (fun i=>(i.zero,i.size,i.bytes))=some (some (.slice none 0 0),1,24):=by kernel_rfl
theorem Qv4 {α β:Type} {f:α->β} {l:List α} {k:Nat}(hk:k < l.length):(l.take (k+1)).map f=(l.take k).map f++ [f l[k]]:=by
 rw [List.take_add_one,Qv hk,Option.toList_some,List.map_append];rfl
theorem Qn8(vm v:Value)(md:Md)(ws:List Nat)(w:World)(hm:Yz w vm md)(zO:md.ok)(zU:Qa md=0)(h:Nts w v ws)(zI:∀u∈ws,u < md.n.toNat)(hl:ws.length<=64):
 Calls Tryz.prog 96 #[vm,v] w fun e w'=>∃u,e=.returned u/\Kr (fun k=>k < w.heap.size) w' (fun W=>Yz W u (Vc md ws))/\Qg w w':=by
 have HM:=Qq hm;have HN:=Qq h;have zC:=Qq zO;have fL:=Qq zI;obtain⟨wH,yW,vA,gF,uZ,_,_⟩:=Zb zU;have PZ:=Qq (show ∀u∈ws,u < 64 from fun u hu=>by have:=zI u hu;omega);have nR:=Qq (show ∀r∈md.rel,r.length=md.n.toNat from fun r hr=>by have:=uZ r hr;omega);obtain⟨iU,sR,xG,xF,xE⟩:=info_parts Dz;obtain⟨iS,UH,kI,kH,kG⟩:=info_parts Qkx;obtain⟨A,c,rfl,JW,xK,HA⟩:=h;obtain⟨vv,vr,rfl,hv,hr⟩:=hm;obtain⟨Av,cv,rfl,bU,hvm,HV⟩:=Vl hv;obtain⟨Ar,cr,rfl,JP,kX,HR⟩:=Ut hr;obtain⟨val,sM⟩:∃z,z=md.val:=⟨_,rfl⟩;obtain⟨rel,jE⟩:∃z,z=md.rel:=⟨_,rfl⟩;have VS:=Qq sM
 have PF:=Qq jE;have H9:=Qq (show ∀s∈val,Qp s by rw [sM];exact zO.val);have tE:=Qq (show ∀r∈rel,∀s∈r,Qp s by rw [jE];exact zO.rel);rw [<-sM]at HV gF bU⊢;rw [<-jE]at HR nR vA JP⊢;clear zI hv hr uZ zO zU sM jE wH yW;obtain⟨W0,zB⟩:∃W,W=(w.alloc (.cells #[.int .i64 md.n,.slice Av val.length cv,.slice Ar rel.length cr] 26)).alloc (.cells #[.int .i64 0,.slice none 0 0,.slice none 0 0] 26):=⟨_,rfl⟩;have X0:=Qq (show Qg w W0 by rw [zB];exact(Qz.alloc _).alloc _);obtain⟨b,hb⟩:∃b,b=w.heap.size:=⟨_,rfl⟩;have B0:=Qq (show W0.heap[b]?=some (.cells #[.int .i64 md.n,.slice Av val.length cv,.slice Ar rel.length cr] 26 (0,0)) by rw [zB,hb];exact((Qz.alloc _).block (by simp)).trans (heap_alloc_new _ _))
 have B1:=Qq (show W0.heap[b+1]?=some (.cells #[.int .i64 0,.slice none 0 0,.slice none 0 0] 26 (0,0)) by
  have h1:=heap_alloc_new (w.alloc (.cells #[.int .i64 md.n,.slice Av val.length cv,.slice Ar rel.length cr] 26)) (.cells #[.int .i64 0,.slice none 0 0,.slice none 0 0] 26);rw [zB,hb]
  simpa using h1)
 have SB:W0.heap.size=b+1+1:=by rw [zB,hb];simp
 have rX:=Qq hb;obtain⟨mn,YE⟩:∃z,z=md.n:=⟨_,rfl⟩;have HMN:=Qq YE;rw [<-YE]at B0;go_enter Tryz.func96,Tryz.ntmps96;go_upto_region 1 with(fail);rw [<-zB,<-YE];rw [<-hb];clear zB hb YE;go_upto_region 2 with(fail);obtain⟨W1,tT⟩:∃W,W=W0.alloc (.cells #[.int .i64 (ws.length:Int),.slice none 0 0,.slice none 0 0] 26):=⟨_,rfl⟩;rw [<-tT];obtain⟨mb,dY⟩:∃z,z=b+1+1:=⟨_,rfl⟩;rw [<-dY];have gW:=Qq (show Fb W0 W1 mb (mb+1) (ws.length:Int) (.slice none 0 0) ((val.take 0).map fun s=>Kv s ws) (.slice none 0 0) []from Fb.start (by rw [tT];exact Qz.alloc _) (by omega) (Nat.lt_succ_self _) (by rw [tT,World.size_alloc,dY,<-SB];exact Nat.le_refl _) (by rw [tT,dY,<-SB];exact heap_alloc_new _ _))
 have GW:=Qq dY;obtain⟨e0,e1,e2,el⟩:=Zs ((gW.out.ext.block (Qn B0.out)).trans B0.out);clear tT SB dY;go_wp2_with fail;clear e0 e1 e2 el;go_loopw [19] (fun v wr=>∃k:Nat,v=.int .i64 (k:Int)/\k<=val.length/\Hid (∃vx,Fb W0 wr mb (mb+1) (ws.length:Int) vx ((val.take k).map fun s=>Kv s ws) (.slice none 0 0) [])) (fun v _=>val.length - (intOf v).toNat)
 case atStart=>exact⟨0,rfl,Nat.zero_le _,Qq ⟨_,gW.out⟩⟩
 case round =>
  clear gW;obtain⟨k,rfl,hk,zY⟩:=hrel;obtain⟨vx,sJ⟩:=zY.out;have HI:=Qq sJ;have HX:=Qq (X0.out.trans sJ.ext);clear zY;by_cases hlt2:k < val.length
  ·have yT:(k:Int) < (val.length:Int):=by omega
   obtain⟨ad,rfl,zV,tK⟩:=HV.out k hlt2;have a0:=(HX.out.cell (p:=ad.add k) (Qj zV)).trans tK;have al:(ad.add k).block < wr.heap.size:=by rw [Qt];exact Qy zV HX.out.size
   have nP:=Qq (show Qp (val.getD k 0)from H9.out _ (by rw [Qk,Qv hlt2];exact List.getElem_mem _));have zE:=Qq (show(val.take (k+1)).map (fun s=>Kv s ws)=(val.take k).map (fun s=>Kv s ws)++ [Kv (val.getD k 0) ws]from by
    rw [Qv4 hlt2,Qk,Qv hlt2];rfl)
   obtain⟨s,hs⟩:∃s,s=val.getD k 0:=⟨_,rfl⟩;rw [<-hs]at a0 nP zE;obtain⟨vs,dB⟩:∃z,z=(val.take k).map (fun s=>Kv s ws):=⟨_,rfl⟩;have qG:vs.length<=8:=by rw [dB,List.length_map,List.length_take];omega
   rw [<-dB]at HI zE;obtain⟨Ax,cx,rfl⟩:=Qs HI.out.val;obtain⟨pz,mL⟩:∃z,z=Kv s ws:=⟨_,rfl⟩;have WH:=Qq mL;rw [<-mL]at zE;obtain⟨⟨m0,m1,m2⟩,⟨mf0,mf1,mf2⟩,ml⟩:=HI.out.cells;have xS:vs.length+1<=maxLen:=by unfold maxLen;omega
   have xR:(vs.length+1)*8<=140737488355328:=by omega
   clear sJ tK hs dB zV mL m0 m2 mf0 mf2;go_upto_region 5 with(fail);clear a0 al;refine Yp 8 (fun w'=>w'.cell? (⟨mb,1,none⟩)=some (.slice Ax vs.length cx)) (by kernel_rfl) (xd ml m1) (fun zZ=> ?_);refine Zz 0 zZ ?_;refine Zz 1 zZ ?_;refine Zz 2 zZ ?_;refine Zz 3 zZ ?_;refine Qo (rs:= [4]) (by kernel_rfl) (by simp) ?_;refine Zj.cons rfl (fun K hK=> ?_) Zj.nil;go_simp;refine(Qng s nP.out _ ws _ (HN.out.ext (HX.out.trans xv)) PZ.out hl).mono ?_;rintro e w6 ⟨rfl,rfl⟩;rw [<-WH.out];go_wp2_with fail;refine hK.out _ _ (xd ml m1) (fun zZ=> ?_);clear hK K
   refine Qb ?_;refine Qo (rs:= [5]) (by kernel_rfl) (by simp) ?_;refine Zj.cons rfl (fun K hK=> ?_) Zj.nil;go_simp;refine hK.out _ _ (xd ml m1) (fun zZ=> ?_);clear hK K;refine Qb ?_;refine Qo (rs:= [6]) (by kernel_rfl) (by simp) ?_;refine Zj.cons rfl (fun K hK=> ?_) Zj.nil;refine Ga rfl (.tmp 24) (.tmp 28) 23 rfl (mb+1) 41 iU (.int .u64 0) 1 8 Tryz.underlying23 sR xG xF xE rfl (by decide) (.slice Ax vs.length cx) vs.length (uV vs) (by simp [Act.eval]) (Zk HI.out.val xv) ⟨wr.heap.size,0,none⟩ 1 1 [.int .u64 (pz:Int)] (by simp [Act.eval]) rfl (by exact Zt _ _ _ (by simp)) (fun u hu=>by rw [List.mem_singleton.1 hu];rfl) xS xR (Qx (show mb+1<=wr.heap.size from ml) (Qg.size (a:=wr) xv)) ?_
   intro v7 w7 zW zX zH;have qZ:=Qq (HI.out.pushVal (show Qg wr _ from xv) zW zX);have fX:=Qq ((zX.block mb (Qy ml (Qg.size (a:=wr) xv)) (fun e=>absurd (World.ownsRow.lt HI.out.val mb e.symm).1 (by omega))).trans ((Qg.block (a:=wr) (k:=mb) xv ml).trans HI.out.cell));obtain⟨⟨_,p1,_⟩,⟨_,pf1,_⟩,pl⟩:=Zp fX.out;obtain⟨A7,c7,qA⟩:=Qs zW;subst qA;clear zW zX zH;refine hK.out _ _ p1 (fun zZ=> ?_);clear hK K;refine Qb ?_;refine Zz 7 zZ ?_;refine Yi (by kernel_rfl) rfl (fun K hK=> ?_);go_simp;refine hK.out _ _ ?_;clear hK K;refine Qb ?_;refine Yo (by kernel_rfl) ?_ _
   go_wp2_with fail;go_roundw
   case rel=>exact⟨k+1,by go_num,by omega,Qq ⟨_,by rw [zE.out];exact qZ.out⟩⟩
   case measure=>simp [intOf];omega
  obtain rfl:val.length=k:=by omega
  rw [List.take_length]at HI;have OI:=HI.out;obtain⟨vals,tY⟩:∃z,z=val.map (fun s=>Kv s ws):=⟨_,rfl⟩;have mW:=Qq tY;rw [<-tY]at HI;obtain⟨e0,e1,e2,el⟩:=Zs (((OI.ext.block (Qn B0.out))).trans B0.out);clear sJ OI tY;go_wp2_with fail;clear e0 e1 e2 el;go_loopw [35] (fun v wr=>∃k:Nat,v=.int .i64 (k:Int)/\k<=rel.length/\Hid (∃vy,Fb W0 wr mb (mb+1) (ws.length:Int) vx vals vy ((rel.take k).map fun r=>ws.map fun w=>Kv (r.getD w 0) ws))) (fun v _=>rel.length - (intOf v).toNat)
  case atStart=>exact⟨0,rfl,Nat.zero_le _,Qq ⟨_,HI.out⟩⟩
  case round =>
   clear HI HX;obtain⟨k,rfl,hk,zY⟩:=hrel;obtain⟨vy,sJ⟩:=zY.out;have HI:=Qq sJ;have HX:=Qq (X0.out.trans sJ.ext);clear zY;by_cases hlt2:k < rel.length
   ·have yT:(k:Int) < (rel.length:Int):=by omega
    obtain⟨ad,u,rfl,zV,yR,hu⟩:=HR.out k hlt2;have zE:=Qq (show(rel.take (k+1)).map (fun r=>ws.map fun w=>Kv (r.getD w 0) ws)=(rel.take k).map (fun r=>ws.map fun w=>Kv (r.getD w 0) ws)++ [ws.map fun w=>Kv ((rel.getD k []).getD w 0) ws]from by
     rw [Qv4 hlt2,Qk (l:=rel),Qv hlt2];rfl)
    have kX:rel.getD k []∈rel:=by rw [Qk,Qv hlt2];exact List.getElem_mem _
    have PE:=Qq (nR.out _ kX);have PB:=Qq (tE.out _ kX);obtain⟨Au,cu,rfl,rZ,oC,HU⟩:=Vl hu;have a0:=(HX.out.cell (p:=ad.add k) (Qj zV)).trans yR;have al:(ad.add k).block < wr.heap.size:=by rw [Qt];exact Qy zV HX.out.size
    obtain⟨r,hr⟩:∃r,r=rel.getD k []:=⟨_,rfl⟩;rw [<-hr]at a0 zE PE PB HU;obtain⟨rows,wS⟩:∃z,z=(rel.take k).map (fun r=>ws.map fun w=>Kv (r.getD w 0) ws):=⟨_,rfl⟩;have rP:rows.length<=4:=by rw [wS,List.length_map,List.length_take];omega
    rw [<-wS]at HI zE;obtain⟨wa,vJ⟩:∃v,v=wr:=⟨_,rfl⟩;subst vJ;clear sJ zV yR hu kX wS hr;go_wp2_with fail;clear a0 al;go_loopw [10,41] (fun v vi wr=>∃i:Nat,vi=.int .i64 (i:Int)/\i<=ws.length/\Hid (Qg wa wr/\Zv wa.heap.size wr v ((ws.take i).map fun w=>Kv (r.getD w 0) ws))) (fun _ v _=>ws.length - (intOf v).toNat)
    case atStart=>exact⟨0,rfl,Nat.zero_le _,Qq ⟨Qz,Zv.nil _ _⟩⟩
    case round =>
     obtain⟨i,rfl,hi,zY⟩:=hrel;have uH:=Qq zY.out.1;have uW:=Qq zY.out.2;clear zY;by_cases yQ:i < ws.length
     ·have wW:(i:Int) < (ws.length:Int):=by omega
      obtain⟨wd,rfl,SY,sL⟩:=HA.out i yQ;have rT:=Qq (HX.out.trans uH.out);have rM:=Qq (show(ws.take (i+1)).map (fun w=>Kv (r.getD w 0) ws)=(ws.take i).map (fun w=>Kv (r.getD w 0) ws)++ [Kv (r.getD (ws.getD i 0) 0) ws]from by
       rw [Qv4 yQ,Qk (l:=ws),Qv yQ];rfl)
      have ZT:ws.getD i 0 < r.length:=by
       rw [PE.out];exact fL.out _ (by rw [Qk,Qv yQ];exact List.getElem_mem _)
      obtain⟨q,hq⟩:∃q,q=ws.getD i 0:=⟨_,rfl⟩;rw [<-hq]at sL ZT rM;obtain⟨ud,rfl,tR,BK⟩:=HU.out q ZT;have hum3:(q:Int) < (r.length:Int):=by omega
      have nP:=Qq (show Qp (r.getD q 0)from PB.out _ (by rw [Qk,Qv ZT];exact List.getElem_mem _));obtain⟨s,hs⟩:∃s,s=r.getD q 0:=⟨_,rfl⟩;rw [<-hs]at BK nP rM;obtain⟨pz,mL⟩:∃z,z=Kv s ws:=⟨_,rfl⟩;have WH:=Qq mL;rw [<-mL]at rM;have b0:=(rT.out.cell (p:=wd.add i) (Qj SY)).trans sL;have bl:(wd.add i).block < wr.heap.size:=by rw [Qt];exact Qy SY rT.out.size
      have c0:=(rT.out.cell (p:=ud.add q) (Qj tR)).trans BK;have cl:(ud.add q).block < wr.heap.size:=by rw [Qt];exact Qy tR rT.out.size
      obtain⟨out,yH⟩:∃z,z=(ws.take i).map (fun w=>Kv (r.getD w 0) ws):=⟨_,rfl⟩;have tJ:out.length<=64:=by rw [yH,List.length_map,List.length_take];omega
      rw [<-yH]at uW rM;have xS:out.length+1<=maxLen:=by unfold maxLen;omega
      have xR:(out.length+1)*8<=140737488355328:=by omega
      obtain⟨A1,c1,rfl⟩:=Qs uW.out;clear SY sL hq tR BK hs mL yH ZT;go_wp2_with fail;refine(Qng s nP.out _ ws _ (HN.out.ext rT.out) PZ.out hl).mono ?_;rintro e w6 ⟨rfl,rfl⟩;rw [<-WH.out];go_wp2_with(at_builtin;refine wpList_append_own_at _ rfl _ _ 23 rfl wa.heap.size 41 iU (.int .u64 0) 1 8 Tryz.underlying23 sR xG xF xE rfl (by decide) _ out.length (uV out) rfl (Zk uW.out (Qz.alloc _)) ⟨_,0,none⟩ 1 1 [.int .u64 (pz:Int)] rfl rfl (Zt _ _ _ (by simp)) (fun u hu=>by rw [List.mem_singleton.1 hu];rfl) xS xR (Qx uH.out.size (by simp)) ?_);intro v7 w7 zW zX _ _
      have qY:=Qq (show Qg wa w7 from(uH.out.alloc _).grown zX (fun k hk=>(World.ownsRow.lt uW.out k hk).1));have pA:=Qq (Zv.snoc zW);obtain⟨A7,c7,rfl⟩:=Qs zW;clear zW zX;go_wp2_with fail;go_roundw
      case rel=>exact⟨i+1,by go_num,by omega,Qq ⟨qY.out,by rw [rM.out];exact pA.out⟩⟩
      case measure=>simp [intOf];omega
     obtain rfl:ws.length=i:=by omega
     rw [List.take_length]at uW;obtain⟨rw1,oE⟩:∃z,z=ws.map (fun w=>Kv (r.getD w 0) ws):=⟨_,rfl⟩;rw [<-oE]at uW zE;have nV:=Qq (HI.out.next uH.out);obtain⟨us,tQ,zR,wX⟩:=nV.out.rel;have eT:=Qq (show ∀g,vy.ownBlock=some g->g < wa.heap.size from fun g hg=>by obtain⟨us2,_,xW,_⟩:=HI.out.rel;exact(xW.lt g hg).2);have mE:=Qq tQ;have yS:=Qq zR;have jZ:=Qq wX;have TA:us.length<=4:=by rw [tQ];exact rP
     obtain⟨⟨m0,m1,m2⟩,⟨mf0,mf1,mf2⟩,ml⟩:=nV.out.cells;obtain⟨Av2,cv2,rfl⟩:=Qs zR;obtain⟨A1,c1,rfl⟩:=Qs uW.out;have xS:us.length+1<=maxLen:=by unfold maxLen;omega
     have xR:(us.length+1)*24<=140737488355328:=by omega
     clear tQ zR wX m0 m1 oE rP;obtain⟨wo,cZ⟩:∃v,v=wr:=⟨_,rfl⟩;subst cZ;go_wp2_with(at_builtin;refine wpList_append_own_at _ rfl _ _ 24 rfl (mb+1) 23 iS (.slice none 0 0) 1 24 Tryz.underlying24 UH kI kH kG rfl (by decide) _ us.length us rfl (Zk yS.out (Qz.alloc _)) ⟨_,0,none⟩ 1 1 [.slice A1 rw1.length c1] rfl rfl (Zt _ _ _ (by simp)) (fun u hu=>by rw [List.mem_singleton.1 hu];rfl) xS xR (Qx (show mb+1<=wo.heap.size from ml) (by simp)) ?_);intro v7 w7 zW zX sQ zH;have qZ:=Qq (nV.out.pushRow mE.out yS.out jZ.out (Qz.alloc _) (uW.out.low (Nat.succ_le_of_lt HI.out.mlt)) (fun g hg hv=>absurd (eT.out g hv) (by have:=(World.ownsRow.lt uW.out g hg).1;omega)) zW zX (zH.imp_right fun h=>by rw [h];simp))
     obtain⟨⟨p0,p1,p2⟩,⟨pf0,pf1,pf2⟩,pl⟩:=Zp ((zX.block mb (Qy ml ((Qg.refl wo).alloc (.cells #[.slice A1 rw1.length c1] 23)).size) (fun e=>absurd (World.ownsRow.lt yS.out mb e.symm).1 (by omega))).trans ((((Qg.refl wo).alloc (.cells #[.slice A1 rw1.length c1] 23)).block ml).trans nV.out.cell));obtain⟨A7,c7,rfl⟩:=Qs zW;clear zW zX sQ zH m2 mf0 mf1 mf2 p0 p1 pf0 pf1;go_wp2_with fail;go_roundw
     case rel=>exact⟨k+1,by go_num,by omega,Qq ⟨_,by rw [zE.out];exact qZ.out⟩⟩
     case measure=>simp [intOf];omega
   obtain rfl:rel.length=k:=by omega
   rw [List.take_length]at HI;obtain⟨us,-,zR,-⟩:=HI.out.rel;obtain⟨Az,cz,rfl⟩:=Qs HI.out.val;obtain⟨Ay,cy,rfl⟩:=Qs zR;clear zR;obtain⟨⟨m0,m1,m2⟩,⟨mf0,mf1,mf2⟩,ml⟩:=HI.out.cells;have vI:=Qq ((sJ.ext.block (Qn B1.out)).trans B1.out);obtain⟨⟨q0,q1,q2⟩,⟨f0,f1,f2⟩,ql⟩:=Zp vI.out;have xY:=Qq (show w.heap.size<=b+1 by rw [rX.out];omega);have mZ:=Qq (show b+1<=mb by rw [GW.out];omega);have HE:=Qq (show Vc md ws=⟨(ws.length:Int),vals,rel.map fun r=>ws.map fun w=>Kv (r.getD w 0) ws⟩ by rw [mW.out,VS.out,PF.out];rfl);clear sJ;go_wp2_with fail
   (try simp only [Exit.inBlock,Exit.then])
   refine bodyPost_ret (Eg Tryz.results96 _ _ rfl (Jv (Vq vI.out _ _ _)) Tryz.underlying26 rfl (by kernel_rfl)) rfl ?_;refine⟨_,rfl,fun W hW=> ?_,Yl HX.out xY.out _ _ _⟩;rw [HE.out];have h1:=xY.out;have h2:=mZ.out;exact HI.out.mdv ⟨Qx (by simp [World.setCell]) hW.1,fun k hk hl=>(hW.2 k (by omega) (by simpa [World.setCell]using hl)).trans (Xn (fun e=>hk (by rw [e];exact Nat.lt_succ_of_le mZ.out)) _ _ _)⟩
theorem Qs9 {w:World} {b:Nat} {a v:Value} {t:TypeId}(h:w.heap[b]?=some (.cells #[a] t (0,0))):(w.setCell ⟨b,0,none⟩ v).heap[b]?=some (.cells #[v] t (0,0)):=by
 simp only [World.setCell,Array.getElem?_modify,h,if_true,Option.map_some];simp
theorem Qyz(k n j:Nat):k / 2^(n*j) / 2^n=k / 2^(n*(j+1)):=by
 rw [Nat.div_div_eq_div_mul,<-Nat.pow_add,Nat.mul_add,Nat.mul_one]
structure Ba (w0 wr:World) (b n k j:Nat) (vv:Value) (vals:List Nat) (vr:Value) (rows:List (List Nat)):Prop where
 ar:Fb w0 wr (b+2) (b+4) (n:Int) vv vals vr rows
 rest:wr.heap[b+3]?=some (.cells #[.int .u64 ((k / 2^(n*j):Nat):Int)] 41 (0,0))
 box:wr.cell? ⟨b,0,none⟩=some (.int .i64 (n:Int))
 res:wr.heap[b+1]?=some (.cells #[.int .i64 0,.slice none 0 0,.slice none 0 0] 26 (0,0))
section
variable {w0 wr W:World} {b n k j:Nat} {vv vr:Value} {vals:List Nat} {rows:List (List Nat)}
theorem Ba.next(h:Ba w0 wr b n k j vv vals vr rows)(he:Qg wr W):Ba w0 W b n k j vv vals vr rows :=
 ⟨h.ar.next he,(he.block (Qn h.rest)).trans h.rest,(he.cell (p:=⟨b,0,none⟩) (by have:=Qn h.rest;show b < _;omega)).trans h.box,(he.block (Qn h.res)).trans h.res⟩
theorem Ba.take(h:Ba w0 wr b n k j vv vals vr rows)(h0:w0.heap.size<=b+2):Ba w0 (wr.setCell ⟨b+3,0,none⟩ (.int .u64 ((k / 2^(n*(j+1)):Nat):Int))) b n k (j+1) vv vals vr rows:=by
 have xA:∀q,q≠b+3->(wr.setCell ⟨b+3,0,none⟩ (.int .u64 ((k / 2^(n*(j+1)):Nat):Int))).heap[q]?=wr.heap[q]?:=fun q e=>Below.heap_setCell _ _ _ _ e
 refine⟨h.ar.other (by omega) (by omega) (by omega) _,Qs9 h.rest,?_,(xA (b+1) (by omega)).trans h.res⟩;have:=h.box;unfold World.cell? at this⊢;rw [xA b (by omega)];exact this
structure Cx (w0 wa wr:World) (b n k j:Nat):Prop where
 ext:Qg w0 wr
 same:Yk (fun q=>q < b+4) wa wr
 cell:wr.heap[b+2]?=wa.heap[b+2]?
 rest:wr.heap[b+3]?=some (.cells #[.int .u64 ((k / 2^(n*j):Nat):Int)] 41 (0,0))
 box:wr.cell? ⟨b,0,none⟩=some (.int .i64 (n:Int))
 res:wr.heap[b+1]?=some (.cells #[.int .i64 0,.slice none 0 0,.slice none 0 0] 26 (0,0))
theorem Ba.mid(h:Ba w0 wr b n k j vv vals vr rows):Cx w0 wr wr b n k j:=⟨h.ar.ext,⟨Nat.le_refl _,fun _ _ _=>rfl⟩,rfl,h.rest,h.box,h.res⟩
theorem Ba.of_mid {j0:Nat} {wa:World}(h:Ba w0 wa b n k j0 vv vals vr rows)(m:Cx w0 wa wr b n k j):Ba w0 wr b n k j vv vals vr rows:=by
 obtain⟨us,e,xW,aN⟩:=h.ar.rel
 refine⟨⟨m.ext,h.ar.lo,h.ar.lt,Qx h.ar.top m.same.1,m.cell.trans h.ar.cell,Zm h.ar.val fun q hk=>m.same.2 q (by have:=(World.ownsRow.lt h.ar.val q hk).1;omega) (World.ownsRow.lt h.ar.val q hk).2,
  ⟨us,e,Zm xW fun q hk=>m.same.2 q (by have:=(xW.lt q hk).1;omega) (xW.lt q hk).2,fun i u y hu hy=>(aN i u y hu hy).next (X':=spa (b+4) vr) ⟨m.same.1,fun q hq hl=>m.same.2 q (fun e=>hq (.inl e)) hl⟩ (fun _ _ h=>h)⟩,h.ar.dr⟩,m.rest,m.box,m.res⟩
section
variable {wa:World}
theorem Cx.next(h:Cx w0 wa wr b n k j)(hl:b+4<=wa.heap.size)(he:Qg wr W):Cx w0 wa W b n k j:=by
 have hs:=h.same.1;exact⟨h.ext.trans he,⟨Qx hs he.size,fun q h1 h2=>(he.block (Qy h2 hs)).trans (h.same.2 q h1 h2)⟩,(he.block (by omega)).trans h.cell,(he.block (by omega)).trans h.rest,(he.cell (p:=⟨b,0,none⟩) (show b < _ by omega)).trans h.box,(he.block (by omega)).trans h.res⟩
theorem Cx.take(h:Cx w0 wa wr b n k j)(h0:w0.heap.size<=b+3):Cx w0 wa (wr.setCell ⟨b+3,0,none⟩ (.int .u64 ((k / 2^(n*(j+1)):Nat):Int))) b n k (j+1):=by
 have xA:∀q,q≠b+3->(wr.setCell ⟨b+3,0,none⟩ (.int .u64 ((k / 2^(n*(j+1)):Nat):Int))).heap[q]?=wr.heap[q]?:=fun q e=>Below.heap_setCell _ _ _ _ e
 refine⟨h.ext.setCell (p:=⟨b+3,0,none⟩) h0 _,⟨Qx h.same.1 (by simp [World.setCell]),fun q h1 h2=>(xA q (by omega)).trans (h.same.2 q h1 h2)⟩,(xA _ (by omega)).trans h.cell,Qs9 h.rest,?_,(xA _ (by omega)).trans h.res⟩;have:=h.box;unfold World.cell? at this⊢;rw [xA b (by omega)];exact this
theorem Cx.grow(h:Cx w0 wa wr b n k j)(hl:b+4<=wa.heap.size)(hw:w0.heap.size<=b+3) {g:Option Nat}(hg:wr.grownBy W g)(hq:∀q,g=some q->wa.heap.size<=q):Cx w0 wa W b n k j:=by
 have zA:∀q,q < wa.heap.size->W.heap[q]?=wr.heap[q]?:=fun q h1=>hg.block q (Qy h1 h.same.1) (fun e=>by have:=hq q e.symm;omega)
 refine⟨h.ext.grown hg (fun q e=>by have:=hq q e;omega),⟨Qx h.same.1 hg.size,fun q h1 h2=>(zA q h2).trans (h.same.2 q h1 h2)⟩,(zA _ (by omega)).trans h.cell,(zA _ (by omega)).trans h.rest,?_,(zA _ (by omega)).trans h.res⟩;have:=h.box;unfold World.cell? at this⊢;rw [zA b (by omega)];exact this
end
theorem Ba.pushVal {w7 W6:World} {v7:Value} {s:Nat}(h:Ba w0 wr b n k j vv vals (.slice none 0 0) [])(uX:Qg wr W6)
 (ho:w7.ownsRow (b+4) 41 1 v7 (vals.length+1) (uV vals++ [.int .u64 (s:Int)]))(uD:W6.grownBy w7 vv.ownBlock):
 Ba w0 (w7.setCell ⟨b+2,1,none⟩ v7) b n k j v7 (vals++ [s]) (.slice none 0 0) []:=by
 have h6:=h.next uX;have qG:=fun q hk=>(World.ownsRow.lt h6.ar.val q hk)
 have zA:∀q,q < b+4->q < W6.heap.size->q≠b+2->(w7.setCell ⟨b+2,1,none⟩ v7).heap[q]?=W6.heap[q]?:=fun q h1 h2 h3 =>
  (Below.heap_setCell _ _ _ _ h3).trans (uD.block q h2 (fun e=>by have:=(qG q e.symm).1;omega))
 have hl:=Qn h6.rest;refine⟨h.ar.pushVal uX ho uD,(zA _ (by omega) hl (by omega)).trans h6.rest,?_,(zA _ (by omega) (Qn h6.res) (by omega)).trans h6.res⟩;have:=h6.box;unfold World.cell? at this⊢;rw [zA b (by omega) (by omega) (by omega)];exact this
theorem Ba.pushRow {w7 W6:World} {v7 u:Value} {r:List Nat} {us:List Value}(h:Ba w0 wr b n k j vv vals vr rows)(e:us.length=rows.length)(xW:wr.ownsRow (b+4) 23 1 vr us.length us)
 (aN:∀(k:Nat) u r,us[k]?=some u->rows[k]?=some r->Kr (spa (b+4) vr) wr (fun w'=>Jb w' u r))(XN:Qg wr W6)(hu:Zv (b+4) wr u r)(zQ:∀g,u.ownBlock=some g->vr.ownBlock≠some g)
 (ho:w7.ownsRow (b+4) 23 1 v7 (us.length+1) (us++ [u]))(uD:W6.grownBy w7 vr.ownBlock)(eQ:v7.ownBlock=vr.ownBlock\/v7.ownBlock=some W6.heap.size):
 Ba w0 (w7.setCell ⟨b+2,2,none⟩ v7) b n k j vv vals v7 (rows++ [r]):=by
 have h6:=h.next XN;have zA:∀q,q < b+4->q < W6.heap.size->q≠b+2->(w7.setCell ⟨b+2,2,none⟩ v7).heap[q]?=W6.heap[q]?:=fun q h1 h2 h3 =>
  (Below.heap_setCell _ _ _ _ h3).trans (uD.block q h2 (fun e=>by have:=(xW.lt q e.symm).1;omega))
 have hl:=Qn h6.rest;refine⟨h.ar.pushRow e xW aN XN hu zQ ho uD eQ,(zA _ (by omega) hl (by omega)).trans h6.rest,?_,(zA _ (by omega) (Qn h6.res) (by omega)).trans h6.res⟩;have:=h6.box;unfold World.cell? at this⊢;rw [zA b (by omega) (by omega) (by omega)];exact this
end
theorem Qjx(n a v k:Nat)(w:World)(pK:1<=n)(hn:n<=64)(ha:a<=4)(hv:v<=8)(hl:Zh n a v<=12)(hk:k < 2^Zh n a v):
 Calls Tryz.prog 89 #[.int .i64 (n:Int),.int .i64 (a:Int),.int .i64 (v:Int),.int .i64 (k:Int)] w fun e w'=>∃u,e=.returned u/\Kr (fun q=>q < w.heap.size) w' (fun W=>Yz W u (Uy n a v k))/\Qg w w':=by
 have hk12:k < 4096:=Qy hk (show 2^Zh n a v<=2^12 from Nat.pow_le_pow_right (by decide) hl);have fF:=Qq (show v≠0\/a≠0->n < 64 from fun h=>by
  unfold Zh at hl;rcases h with h|h
  ·have:n*1<=n*v:=Nat.mul_le_mul_left n (by omega);omega
  have h1:n*n*1<=n*n*a:=Nat.mul_le_mul_left _ (by omega);have h2:n*1<=n*n:=Nat.mul_le_mul_left n pK
  omega)
 have Z7:=Qq (fun j:Nat=>show Qp (k / 2^(n*j))from Nat.lt_of_le_of_lt (Nat.div_le_self _ _) (by show k < _;omega));obtain⟨iU,sR,xG,xF,xE⟩:=info_parts Dz;obtain⟨iS,UH,kI,kH,kG⟩:=info_parts Qkx;have Q3:IntKind.u64.wrap (k:Int)=(k:Int):=by rw [IntKind.wrap_u64];omega
 obtain⟨b,hb⟩:∃b,b=w.heap.size:=⟨_,rfl⟩;have xY:=Qq (show w.heap.size<=b by omega);have mZ:=Qq (show w.heap.size<=b+2 by omega);clear hk hl;go_enter Tryz.func89,Tryz.ntmps89;go_upto_region 3 with(fail);rw [<-hb,show b+1+1+1=b+3 from rfl,show b+1+1=b+2 from rfl];obtain⟨w1,sY⟩:∃z,z=w.alloc (.cells #[.int .i64 (n:Int)] 3):=⟨_,rfl⟩;obtain⟨w2,jC⟩:∃z,z=w1.alloc (.cells #[.int .i64 0,.slice none 0 0,.slice none 0 0] 26):=⟨_,rfl⟩;obtain⟨w3,jB⟩:∃z,z=w2.alloc (.cells #[.int .i64 (n:Int),.slice none 0 0,.slice none 0 0] 26):=⟨_,rfl⟩;obtain⟨W1,tT⟩:∃z,z=w3.alloc (.cells #[.int .u64 (k:Int)] 41):=⟨_,rfl⟩
 have s1:w1.heap.size=b+1:=by rw [sY,hb];simp
 have s2:w2.heap.size=b+2:=by rw [jC,World.size_alloc,s1]
 have s3:w3.heap.size=b+3:=by rw [jB,World.size_alloc,s2]
 have s4:W1.heap.size=b+4:=by rw [tT,World.size_alloc,s3]
 have x1:Qg w w1:=by rw [sY];exact Qz.alloc _
 have x2:Qg w1 w2:=by rw [jC];exact Qz.alloc _
 have x3:Qg w2 w3:=by rw [jB];exact Qz.alloc _
 have x4:Qg w3 W1:=by rw [tT];exact Qz.alloc _
 have c1:w1.heap[b]?=some (.cells #[.int .i64 (n:Int)] 3 (0,0)):=by rw [sY,hb];exact heap_alloc_new _ _
 have c2:w2.heap[b+1]?=some (.cells #[.int .i64 0,.slice none 0 0,.slice none 0 0] 26 (0,0)):=by rw [jC,<-s1];exact heap_alloc_new _ _
 have c3:w3.heap[b+2]?=some (.cells #[.int .i64 (n:Int),.slice none 0 0,.slice none 0 0] 26 (0,0)):=by rw [jB,<-s2];exact heap_alloc_new _ _
 have c4:W1.heap[b+3]?=some (.cells #[.int .u64 (k:Int)] 41 (0,0)):=by rw [tT,<-s3];exact heap_alloc_new _ _
 have gW:=Qq (show Ba w W1 b n k 0 (.slice none 0 0) ((List.range 0).map fun i=>Vr n k i) (.slice none 0 0) []from
  ⟨Fb.start (x1.trans (x2.trans (x3.trans x4))) (by omega) (by omega) (by omega) ((x4.block (by omega)).trans c3),by rw [Nat.mul_zero,Nat.pow_zero,Nat.div_one];exact c4,by
   have h:=((x2.trans (x3.trans x4)).block (k:=b) (by omega)).trans c1;simp [World.cell?,h],((x3.trans x4).block (by omega)).trans c2⟩)
 rw [<-sY,<-jC,<-jB,<-tT];clear sY jC jB tT s1 s2 s3 s4 x1 x2 x3 x4 c1 c2 c3 c4 hb;go_wp2_with fail;go_loopw [19] (fun v' wr=>∃j:Nat,v'=.int .i64 (j:Int)/\j<=v/\Hid (∃vx,Ba w wr b n k j vx ((List.range j).map fun i=>Vr n k i) (.slice none 0 0) [])) (fun v' _=>v - (intOf v').toNat)
 case atStart=>exact⟨0,rfl,Nat.zero_le _,Qq ⟨_,gW.out⟩⟩
 case round =>
  clear gW;obtain⟨j,rfl,hj,zY⟩:=hrel;obtain⟨vx,nI⟩:=zY.out;have HI:=Qq nI;clear zY;by_cases hlt2:j < v
  ·have yT:(j:Int) < (v:Int):=by omega
   have GU:=Qq (fF.out (.inl (by omega)));have zE:=Qq (show(List.range (j+1)).map (fun i=>Vr n k i)=(List.range j).map (fun i=>Vr n k i)++ [Vr n k j]from by rw [List.range_succ,List.map_append];rfl);obtain⟨vs,dB⟩:∃z,z=(List.range j).map (fun i=>Vr n k i):=⟨_,rfl⟩;have qG:vs.length<=8:=by rw [dB,List.length_map,List.length_range];omega
   rw [<-dB]at HI zE;obtain⟨Ax,cx,rfl⟩:=Qs HI.out.ar.val;obtain⟨pz,mL⟩:∃z,z=Vr n k j:=⟨_,rfl⟩;have WH:=Qq (show k / 2^(n*j) % 2^n=pz from mL.symm);rw [<-mL]at zE;obtain⟨⟨m0,m1,m2⟩,⟨mf0,mf1,mf2⟩,ml⟩:=HI.out.ar.cells;have xS:vs.length+1<=maxLen:=by unfold maxLen;omega
   have xR:(vs.length+1)*8<=140737488355328:=by omega
   have xQ:b < wr.heap.size:=by omega
   clear nI dB mL m0 m2 mf0 mf2;go_upto_region 6 with(fail);refine Yp 7 (fun w'=>w'.cell? (⟨b+2,1,none⟩)=some (.slice Ax vs.length cx)) (by kernel_rfl) (xd ml m1) (fun zZ=> ?_);refine Zz 0 zZ ?_;refine Zz 1 zZ ?_;refine Zz 2 zZ ?_;refine Qo (rs:= [3]) (by kernel_rfl) (by simp) ?_;refine Zj.cons rfl (fun K hK=> ?_) Zj.nil;go_simp;refine(Qni (b+3) b n _ _ GU.out (Z7.out j) (HI.out.next (W:=wr.drew) xv).rest (HI.out.next (W:=wr.drew) xv).box (by first|exact xQ|(simp;omega))).mono ?_;rintro e w6 ⟨rfl,W,SU,DN,hH⟩;subst hH;rw [WH.out,Qyz];have cS:=Qq ((HI.out.next (Qg.trans xv SU)).take mZ.out)
   obtain⟨w6,hH⟩:∃z,z=W.setCell ⟨b+3,0,none⟩ (.int .u64 ((k / 2^(n*(j+1)):Nat):Int)):=⟨_,rfl⟩;rw [<-hH]at cS⊢;obtain⟨⟨_,m61,_⟩,_,ml6⟩:=cS.out.ar.cells;have pU:=Qq (show b+4<=w6.heap.size from cS.out.ar.top);clear hH SU DN;go_wp2_with fail;refine hK.out _ _ m61 (fun zZ=> ?_);clear hK K;refine Qb ?_;refine Qo (rs:= [4]) (by kernel_rfl) (by simp) ?_;refine Zj.cons rfl (fun K hK=> ?_) Zj.nil;go_simp;refine hK.out _ _ (xd ml6 m61) (fun zZ=> ?_);clear hK K;refine Qb ?_;refine Qo (rs:= [5]) (by kernel_rfl) (by simp) ?_;refine Zj.cons rfl (fun K hK=> ?_) Zj.nil;refine Ga rfl (.tmp 22) (.tmp 25) 23 rfl (b+4) 41 iU (.int .u64 0) 1 8 Tryz.underlying23 sR xG xF xE rfl (by decide) (.slice Ax vs.length cx) vs.length (uV vs) (by simp [Act.eval]) (Zk cS.out.ar.val xv) ⟨w6.heap.size,0,none⟩ 1 1 [.int .u64 (pz:Int)] (by simp [Act.eval]) rfl (by exact Zt _ _ _ (by simp)) (fun u hu=>by rw [List.mem_singleton.1 hu];rfl) xS xR (Qx pU.out (Qg.size (a:=w6) xv)) ?_
   intro v7 w7 zW zX zH;have qZ:=Qq (cS.out.pushVal (show Qg w6 _ from xv) zW zX);have fX:=Qq ((zX.block (b+2) (Qy ml6 (Qg.size (a:=w6) xv)) (fun e=>absurd (World.ownsRow.lt cS.out.ar.val (b+2) e.symm).1 (by omega))).trans ((Qg.block (a:=w6) (k:=b+2) xv ml6).trans cS.out.ar.cell));obtain⟨⟨_,p1,_⟩,⟨_,pf1,_⟩,pl⟩:=Zp fX.out;obtain⟨A7,c7,qA⟩:=Qs zW;subst qA;clear zW zX zH;refine hK.out _ _ p1 (fun zZ=> ?_);clear hK K;refine Qb ?_;refine Zz 6 zZ ?_;refine Yi (by kernel_rfl) rfl (fun K hK=> ?_);go_simp;refine hK.out _ _ ?_;clear hK K
   refine Qb ?_;refine Yo (by kernel_rfl) ?_ _;go_wp2_with fail;go_roundw
   case rel=>exact⟨j+1,by go_num,by omega,Qq ⟨_,by rw [zE.out];exact qZ.out⟩⟩
   case measure=>simp [intOf] <;> omega
  obtain rfl:v=j:=by omega
  obtain⟨vals,tY⟩:∃z,z=(List.range v).map (fun i=>Vr n k i):=⟨_,rfl⟩;have mW:=Qq tY;rw [<-tY]at HI;clear nI tY;go_wp2_with fail;go_loopw [30] (fun v' wr=>∃i:Nat,v'=.int .i64 (i:Int)/\i<=a/\Hid (∃vy,Ba w wr b n k (v+n*i) vx vals vy ((List.range i).map fun q=>(List.range n).map fun u=>Vr n k (v+(n*q+u))))) (fun v' _=>a - (intOf v').toNat)
  case atStart=>exact⟨0,rfl,Nat.zero_le _,Qq ⟨_,by rw [Nat.mul_zero,Nat.add_zero];exact HI.out⟩⟩
  case round =>
   clear HI;obtain⟨i,rfl,hi,zY⟩:=hrel;obtain⟨vy,nI⟩:=zY.out;have HI:=Qq nI;clear zY;by_cases hlt2:i < a
   ·have yT:(i:Int) < (a:Int):=by omega
    have GU:=Qq (fF.out (.inr (by omega)));have zE:=Qq (show(List.range (i+1)).map (fun q=>(List.range n).map fun u=>Vr n k (v+(n*q+u)))=(List.range i).map (fun q=>(List.range n).map fun u=>Vr n k (v+(n*q+u)))++ [(List.range n).map fun u=>Vr n k (v+(n*i+u))]from by rw [List.range_succ,List.map_append];rfl);obtain⟨rows,wS⟩:∃z,z=(List.range i).map (fun q=>(List.range n).map fun u=>Vr n k (v+(n*q+u))):=⟨_,rfl⟩;have rP:rows.length<=4:=by rw [wS,List.length_map,List.length_range];omega
    rw [<-wS]at HI zE;have eT:=Qq (show ∀g,vy.ownBlock=some g->g < wr.heap.size from fun g hg=>by obtain⟨us2,_,xW,_⟩:=HI.out.ar.rel;exact(xW.lt g hg).2);have vW:=Qq HI.out.box;have c0:=vW.out;have xQ:b < wr.heap.size:=by have:=HI.out.ar.mlt;omega
    have eW:=Qq HI.out.ar.top;obtain⟨wa,vJ⟩:∃v,v=wr:=⟨_,rfl⟩;subst vJ;clear nI wS;go_wp2_with fail;clear c0;go_loopw [12,33] (fun v12 vi wr=>∃u:Nat,vi=.int .i64 (u:Int)/\u<=n/\Hid (Cx w wa wr b n k (v+(n*i+u))/\Zv wa.heap.size wr v12 ((List.range u).map fun u=>Vr n k (v+(n*i+u))))) (fun _ vi _=>n - (intOf vi).toNat)
    case atStart=>exact⟨0,rfl,Nat.zero_le _,Qq ⟨HI.out.mid,Zv.nil _ _⟩⟩
    case round =>
     obtain⟨u,rfl,hu,zY⟩:=hrel;obtain⟨nI,rR⟩:=zY.out;have uK:=Qq nI;have SJ:=Qq nI.same.1;have uW:=Qq rR;clear zY;by_cases yQ:u < n
     ·have wW:(u:Int) < (n:Int):=by omega
      have rM:=Qq (show(List.range (u+1)).map (fun u=>Vr n k (v+(n*i+u)))=(List.range u).map (fun u=>Vr n k (v+(n*i+u)))++ [Vr n k (v+(n*i+u))]from by rw [List.range_succ,List.map_append];rfl);obtain⟨out,yH⟩:∃z,z=(List.range u).map (fun u=>Vr n k (v+(n*i+u))):=⟨_,rfl⟩;have tJ:out.length<=64:=by rw [yH,List.length_map,List.length_range];omega
      rw [<-yH]at uW rM;obtain⟨pz,mL⟩:∃z,z=Vr n k (v+(n*i+u)):=⟨_,rfl⟩;have WH:=Qq (show k / 2^(n*(v+(n*i+u))) % 2^n=pz from mL.symm);rw [<-mL]at rM;have xS:out.length+1<=maxLen:=by unfold maxLen;omega
      have xR:(out.length+1)*8<=140737488355328:=by omega
      obtain⟨A1,c1,rfl⟩:=Qs uW.out;have sG:b < wr.heap.size:=by have:=Qn nI.rest;omega
      clear nI rR yH mL;go_wp2_with fail;refine(Qni (b+3) b n _ _ GU.out (Z7.out (v+(n*i+u))) uK.out.rest uK.out.box sG).mono ?_;rintro e w6 ⟨rfl,W,SU,DN,rfl⟩;rw [WH.out,Qyz];have cS:=Qq ((uK.out.next eW.out SU).take (Nat.le_succ_of_le mZ.out));have cR:=Qq (show Zv wa.heap.size (W.setCell ⟨b+3,0,none⟩ (.int .u64 ((k / 2^(n*(v+(n*i+u)+1)):Nat):Int))) (.slice A1 out.length c1) out from Zm (uW.out.ext SU) fun q hq=>Below.heap_setCell _ _ _ _ (show q≠b+3 by have:=(World.ownsRow.lt uW.out q hq).1;have:=eW.out;omega));obtain⟨w6,hH⟩:∃z,z=W.setCell ⟨b+3,0,none⟩ (.int .u64 ((k / 2^(n*(v+(n*i+u)+1)):Nat):Int)):=⟨_,rfl⟩
      have pU:=Qq (show wr.heap.size<=w6.heap.size by rw [hH];simp only [World.setCell,Array.size_modify];exact SU.size);rw [<-hH]at cS cR⊢;clear hH SU DN;go_wp2_with(at_builtin;refine wpList_append_own_at _ rfl _ _ 23 rfl wa.heap.size 41 iU (.int .u64 0) 1 8 Tryz.underlying23 sR xG xF xE rfl (by decide) _ out.length (uV out) rfl (Zk cR.out (Qz.alloc _)) ⟨_,0,none⟩ 1 1 [.int .u64 (pz:Int)] rfl rfl (Zt _ _ _ (by simp)) (fun u hu=>by rw [List.mem_singleton.1 hu];rfl) xS xR (Qx (Qx SJ.out pU.out) (by simp)) ?_);intro v7 w7 zW zX _ _;have pA:=Qq (Zv.snoc zW)
      have K8:=Qq ((cS.out.next eW.out (Qz.alloc (.cells #[.int .u64 (pz:Int)] 41))).grow eW.out (Nat.le_succ_of_le mZ.out) zX (fun q hq=>(World.ownsRow.lt cR.out q hq).1));obtain⟨A7,c7,rfl⟩:=Qs zW;clear zW zX;go_wp2_with fail;go_roundw
      case rel=>exact⟨u+1,by go_num,by omega,Qq ⟨K8.out,by rw [rM.out];exact pA.out⟩⟩
      case measure=>simp [intOf] <;> omega
     obtain rfl:n=u:=by omega
     obtain⟨rw1,oE⟩:∃z,z=(List.range n).map (fun u=>Vr n k (v+(n*i+u))):=⟨_,rfl⟩;rw [<-oE]at uW zE;have nV:=Qq (HI.out.of_mid uK.out);obtain⟨us,tQ,zR,wX⟩:=nV.out.ar.rel;have mE:=Qq tQ;have yS:=Qq zR;have jZ:=Qq wX;have TA:us.length<=4:=by rw [tQ];exact rP
     obtain⟨⟨m0,m1,m2⟩,⟨mf0,mf1,mf2⟩,ml⟩:=nV.out.ar.cells;obtain⟨Av2,cv2,rfl⟩:=Qs zR;obtain⟨A1,c1,rfl⟩:=Qs uW.out;have xS:us.length+1<=maxLen:=by unfold maxLen;omega
     have xR:(us.length+1)*24<=140737488355328:=by omega
     have lJ:=Qq (show b+4<=wr.heap.size from nV.out.ar.top);clear tQ zR wX m0 m1 oE rP nI rR;go_wp2_with(at_builtin;refine wpList_append_own_at _ rfl _ _ 24 rfl (b+4) 23 iS (.slice none 0 0) 1 24 Tryz.underlying24 UH kI kH kG rfl (by decide) _ us.length us rfl (Zk yS.out (Qz.alloc _)) ⟨_,0,none⟩ 1 1 [.slice A1 rw1.length c1] rfl rfl (Zt _ _ _ (by simp)) (fun u hu=>by rw [List.mem_singleton.1 hu];rfl) xS xR (Qx lJ.out (by simp)) ?_);intro v7 w7 zW zX sQ zH;have qZ:=Qq (nV.out.pushRow mE.out yS.out jZ.out (Qz.alloc _) (uW.out.low eW.out) (fun g hg hv=>absurd (eT.out g hv) (by have:=(World.ownsRow.lt uW.out g hg).1;omega)) zW zX (zH.imp_right fun h=>by rw [h];simp))
     obtain⟨⟨p0,p1,p2⟩,⟨pf0,pf1,pf2⟩,pl⟩:=Zp ((zX.block (b+2) (Qy ml ((Qg.refl wr).alloc (.cells #[.slice A1 rw1.length c1] 23)).size) (fun e=>absurd (World.ownsRow.lt yS.out (b+2) e.symm).1 (by omega))).trans ((((Qg.refl wr).alloc (.cells #[.slice A1 rw1.length c1] 23)).block ml).trans nV.out.ar.cell));obtain⟨A7,c7,rfl⟩:=Qs zW;clear zW zX sQ zH m2 mf0 mf1 mf2 p0 p1 pf0 pf1;go_wp2_with fail;go_roundw
     case rel=>exact⟨i+1,by go_num,by omega,Qq ⟨_,by rw [zE.out,Nat.mul_add,Nat.mul_one];exact qZ.out⟩⟩
     case measure=>simp [intOf] <;> omega
   obtain rfl:a=i:=by omega
   obtain⟨us,-,zR,-⟩:=HI.out.ar.rel;obtain⟨Az,cz,rfl⟩:=Qs HI.out.ar.val;obtain⟨Ay,cy,rfl⟩:=Qs zR;obtain⟨⟨m0,m1,m2⟩,⟨mf0,mf1,mf2⟩,ml⟩:=HI.out.ar.cells;obtain⟨⟨q0,q1,q2⟩,⟨f0,f1,f2⟩,ql⟩:=Zp HI.out.res;have HE:=Qq (show Uy n a v k=⟨(n:Int),vals,(List.range a).map fun q=>(List.range n).map fun u=>Vr n k (v+(n*q+u))⟩ by rw [mW.out];rfl);clear nI zR;go_wp2_with fail
   (try simp only [Exit.inBlock,Exit.then])
   refine bodyPost_ret (Eg Tryz.results89 _ _ rfl (Jv (Vq HI.out.res _ _ _)) Tryz.underlying26 rfl (by kernel_rfl)) rfl ?_;refine⟨_,rfl,fun W hW=> ?_,Yl HI.out.ar.ext (by have:=xY.out;omega) _ _ _⟩;rw [HE.out];have h1:=xY.out;exact HI.out.ar.mdv ⟨Qx (by simp [World.setCell]) hW.1,fun k hk hl=>(hW.2 k (by omega) (by simpa [World.setCell]using hl)).trans (Xn (by omega) _ _ _)⟩
def Tl(md:Md)(s:Nat):Int:=if Qa md≠0 then Qa md else if Jr s (Zn md.n.toNat)=false then 2 else if s=0 then 6 else 0
def Qgb(md:Md)(s:Nat):Md:=if Tl md s=0 then Vc md (Yq s)else⟨0,[],[]⟩
def Qgf(md:Md)(s:Nat):List Nat:=if Tl md s=0 then Yq s else []
theorem Bt(w:World):Yz w (.agg #[.int .i64 0,.slice none 0 0,.slice none 0 0]) ⟨0,[],[]⟩:=
 ⟨_,_,rfl,Qn2 w,⟨none,0,rfl,Nat.le_refl _,by unfold maxLen;omega,fun h=>absurd rfl h⟩⟩
theorem Qnn(vm:Value)(md:Md)(s:Nat)(w:World)(hs:Qp s)(hT:Kk w)(hm:Yz w vm md)(zO:md.ok):
 Calls Tryz.prog 36 #[vm,.int .u64 (s:Int)] w fun e w'=>∃vr vl,e=.returned (.tuple #[vr,vl,.int .i64 (Tl md s)])/\Qg w w'/\Kr (fun k=>k < w.heap.size) w' (fun W=>Yz W vr (Qgb md s)/\Nts W vl (Qgf md s)):=by
 have HM:=Qq hm;have HS:=Qq hs;have HT:=Qq hT;have zC:=Qq zO;obtain⟨vv,vr,rfl,⟨Av,cv,rfl,_⟩,⟨Ar,cr,rfl,_⟩⟩:=hm;obtain⟨n,hn⟩:∃n,n=md.n:=⟨_,rfl⟩;have HN:=Qq hn;rw [<-hn]at HM⊢;obtain⟨rE,CB⟩:∃z,z=Tl md s:=⟨_,rfl⟩;have rV:=Qq CB;rw [<-CB];obtain⟨ck,zU⟩:∃z,z=Qa md:=⟨_,rfl⟩;have yF:=Qq zU;obtain⟨W0,zB⟩:∃W,W=(w.alloc (.cells #[.int .i64 n,.slice Av md.val.length cv,.slice Ar md.rel.length cr] 26)).alloc (.cells #[.int .i64 0,.slice none 0 0,.slice none 0 0] 26):=⟨_,rfl⟩;have X0:=Qq (show Qg w W0 by rw [zB];exact(Qz.alloc _).alloc _);obtain⟨b,hb⟩:∃b,b=w.heap.size:=⟨_,rfl⟩;have B0:=Qq (show W0.heap[b]?=some (.cells #[.int .i64 n,.slice Av md.val.length cv,.slice Ar md.rel.length cr] 26 (0,0)) by rw [zB,hb];exact((Qz.alloc _).block (by simp)).trans (heap_alloc_new _ _))
 have B1:=Qq (show W0.heap[b+1]?=some (.cells #[.int .i64 0,.slice none 0 0,.slice none 0 0] 26 (0,0)) by
  have h1:=heap_alloc_new (w.alloc (.cells #[.int .i64 n,.slice Av md.val.length cv,.slice Ar md.rel.length cr] 26)) (.cells #[.int .i64 0,.slice none 0 0,.slice none 0 0] 26);rw [zB,hb]
  simpa using h1)
 have xY:=Qq (show w.heap.size<=b+1 by omega);clear hs hT zO hn CB zU;obtain⟨e0,e1,e2,el⟩:=Zs B0.out;go_enter Tryz.func36,Tryz.ntmps36;go_upto_region 1 with(fail);rw [<-zB,<-hb];clear zB hb;go_wp2_with fail;refine(Xm _ md _ (HM.out.ext X0.out) zC.out).mono ?_;rintro e w1 ⟨rfl,hx⟩;rw [<-yF.out];have zM:=Qq hx;have vI:=Qq ((hx.block (Qn B1.out)).trans B1.out);obtain⟨⟨q0,q1,q2⟩,⟨f0,f1,f2⟩,ql⟩:=Zp vI.out;clear hx e0 e1 e2 el;by_cases hz:ck=0
 case neg =>
  have zQ:(ck !=0)=true:=by simpa using hz
  have HE:=Qq (show rE=ck by rw [rV.out,yF.out];unfold Tl;rw [if_pos (by rw [<-yF.out];exact hz)]);have HZ:=Qq (show Tl md s≠0 by rw [<-rV.out,HE.out];exact hz);clear hz;go_wp2_with fail
  (try simp only [Exit.inBlock,Exit.then])
  refine bodyPost_ret (Yn Tryz.results36 _ _ rfl (Jv (Vq vI.out _ _ _)) Tryz.underlying26 rfl (by kernel_rfl)) rfl ?_;exact⟨_,_,by rw [HE.out] <;> rfl,Yl (X0.out.trans zM.out) xY.out _ _ _,fun W _=>by unfold Qgb Qgf;rw [if_neg HZ.out,if_neg HZ.out];exact⟨Bt _,Qyn _⟩⟩
 subst hz;have zU:=yF.out.symm;obtain⟨wH,yW,_⟩:=Zb zU;obtain⟨N,oV⟩:=Int.eq_ofNat_of_zero_le (show 0<=n by rw [HN.out];omega);have rL:=Qq (show md.n.toNat=N by rw [<-HN.out,oV];exact Int.toNat_natCast N);have xI:N<=64:=by have:=HN.out;omega
 have vB:=Qq (show rE=if Jr s (Zn N)=false then 2 else if s=0 then 6 else 0 by rw [rV.out];unfold Tl;rw [if_neg (by rw [zU];simp),rL.out]);subst oV;have xT:=Vy HS.out (Vn xI);have jO:=Mk (a:=s) (b:=Zn N);obtain⟨d,hd⟩:∃d,d=Jk s (Zn N):=⟨_,rfl⟩;rw [<-hd]at xT jO;obtain⟨e0,e1,e2,el⟩:=Zs ((zM.out.block (Qn B0.out)).trans B0.out);clear zU wH yW hd;go_wp2_with fail;refine(Qqe N xI _).mono ?_;rintro e w2 ⟨rfl,rfl⟩;cases hsb:Jr s (Zn N)
 ·rw [hsb]at jO vB;have zQ:((d:Int) !=0)=true:=by
   have:d≠0:=by intro e;rw [e]at jO;cases jO
   simp;omega
  have HE:=Qq (show rE=2 by rw [vB.out,if_pos rfl]);have HZ:=Qq (show Tl md s≠0 by rw [<-rV.out,HE.out];decide);clear jO hsb;go_wp2_with fail
  (try simp only [Exit.inBlock,Exit.then])
  refine bodyPost_ret (Yn Tryz.results36 _ _ rfl (Jv (Vq vI.out _ _ _)) Tryz.underlying26 rfl (by kernel_rfl)) rfl ?_;exact⟨_,_,by rw [HE.out] <;> rfl,Yl (X0.out.trans zM.out) xY.out _ _ _,fun W _=>by unfold Qgb Qgf;rw [if_neg HZ.out,if_neg HZ.out];exact⟨Bt _,Qyn _⟩⟩
 rw [hsb]at jO vB;rw [if_neg (by simp)]at vB;have mQ:d=0:=by simpa using jO
 subst mQ;have lJ:=Qq hsb;clear jO hsb;by_cases qW:s=0
 ·have zQ:((s:Int)==0)=true:=by rw [qW];rfl
  have HE:=Qq (show rE=6 by rw [vB.out,if_pos qW]);have HZ:=Qq (show Tl md s≠0 by rw [<-rV.out,HE.out];decide);clear qW;go_wp2_with fail
  (try simp only [Exit.inBlock,Exit.then])
  refine bodyPost_ret (Yn Tryz.results36 _ _ rfl (Jv (Vq vI.out _ _ _)) Tryz.underlying26 rfl (by kernel_rfl)) rfl ?_;exact⟨_,_,by rw [HE.out] <;> rfl,Yl (X0.out.trans zM.out) xY.out _ _ _,fun W _=>by unfold Qgb Qgf;rw [if_neg HZ.out,if_neg HZ.out];exact⟨Bt _,Qyn _⟩⟩
 have zQ:((s:Int)==0)=false:=by rw [beq_eq_false_iff_ne];omega
 have HE:=Qq (show rE=0 by rw [vB.out,if_neg qW]);have HZ:=Qq (show Tl md s=0 by rw [<-rV.out,HE.out]);clear qW e0 e1 e2 el q0 q1 q2 f0 f1 f2 ql;go_wp2_with fail;refine(Qrt s HS.out _ (HT.out.ext (X0.out.trans zM.out))).mono ?_;rintro e w2 ⟨vl,rfl,qL,hx⟩;have cQ:=Qq qL;have KW:=Qq qL.nts;obtain⟨Al,cl,qG,_⟩:=qL.nts;subst qG;have zS:=Qq hx;have X2:=Qq (zM.out.trans hx);obtain⟨e0,e1,e2,el⟩:=Zs ((X2.out.block (Qn B0.out)).trans B0.out);clear qL hx;go_wp2_with fail;refine(Qn8 _ _ md (Yq s) _ (HM.out.ext (X0.out.trans X2.out)) zC.out yF.out.symm KW.out (fun u hu=> ?_) (Qnv s)).mono ?_
 ·have h1:=Yy.1 lJ.out u (Nl.1 hu).2;rw [Kb,decide_eq_true_iff]at h1;rw [rL.out];exact h1
 rintro e w3 ⟨u,rfl,rR,hx⟩;have uW:=Qq rR;have zD:=Qq hx;have X3:=Qq (X2.out.trans hx);have vI:=Qq ((X3.out.block (Qn B1.out)).trans B1.out);obtain⟨u0,u1,hu,⟨A1,c1,rfl,_⟩,⟨A2,c2,rfl,_⟩⟩:=rR.here;subst hu;obtain⟨l1,lC⟩:∃z,z=(Vc md (Yq s)).n:=⟨_,rfl⟩;obtain⟨l2,pM⟩:∃z,z=(Vc md (Yq s)).val.length:=⟨_,rfl⟩;obtain⟨l3,mN⟩:∃z,z=(Vc md (Yq s)).rel.length:=⟨_,rfl⟩;rw [<-lC,<-pM,<-mN]at uW⊢;obtain⟨⟨q0,q1,q2⟩,⟨f0,f1,f2⟩,ql⟩:=Zp vI.out;have QA:=Qq (show b+1 < w1.heap.size from Qy (Qn B1.out) zM.out.size);have HL2:=Qq X2.out.size;clear rR hx e0 e1 e2 el lC pM mN;go_wp2_with fail
 (try simp only [Exit.inBlock,Exit.then])
 refine bodyPost_ret (Yn Tryz.results36 _ _ rfl (Jv (Vq vI.out _ _ _)) Tryz.underlying26 rfl (by kernel_rfl)) rfl ?_;refine⟨_,_,by rw [HE.out] <;> rfl,Yl (X0.out.trans X3.out) xY.out _ _ _,fun W hW=> ?_⟩;have h1:=QA.out;have h2:=zM.out.size;have h3:=X0.out.size;have h4:=zD.out.size;have h5:=xY.out;unfold Qgb Qgf;rw [if_pos HZ.out,if_pos HZ.out];have xA:(((w3.setCell ⟨b+1,0,none⟩ (.int .i64 l1)).setCell ⟨b+1,1,none⟩ (.slice A1 l2 c1)).setCell ⟨b+1,2,none⟩ (.slice A2 l3 c2)).heap.size=w3.heap.size:=by simp [World.setCell]
 have vF:∀k,w1.heap.size<=k->k < w3.heap.size->W.heap[k]?=w3.heap[k]?:=fun k hk hl=>(hW.2 k (by omega) (by omega)).trans (Xn (by omega) _ _ _)
 have h6:=hW.1;have h7:w1.heap.size<=w2.heap.size:=zS.out.size;have zR:Dd w1.heap.size W (.slice Al (Yq s).length cl) (Yq s):=Zm cQ.out fun k hk=>by
  have yT:=World.ownsRow.lt cQ.out k hk;rw [vF k yT.1 (by omega),zD.out.block yT.2]
 exact⟨uW.out W ⟨by omega,fun k hk hl=>vF k (by omega) hl⟩,zR.nts⟩
theorem Qoj {a b:Nat}(h:a+b < 18446744073709551616):IntKind.u64.wrap ((a:Int)+(b:Int))=((a+b:Nat):Int):=by
 rw [IntKind.wrap_u64];omega
theorem Qkh(a M:Nat)(ha:a < 18446744073709551616)(hM:M < 18446744073709551616):bits .and .u64 (a:Int) (M:Int)=((a&&&M:Nat):Int):=Xy ha hM
theorem Qoh {y c:Nat}(h:y < 9223372036854775808)(e:y % 128=c):bits .and .i64 (y:Int) 127=(c:Int):=by
 have h1:=Px y 127 h (by omega);have h2:=Nat.and_two_pow_sub_one_eq_mod y 7;simp only [Nat.reducePow,Nat.reduceSub]at h2;rw [h2,e,show((127:Nat):Int)=127 from rfl]at h1;exact h1
theorem bd4 {a:Nat}(h:a<=1085102592571150095):a+a / 256<=1100000000000000000:=by omega
theorem bd5 {a:Nat}(h:a<=1100000000000000000):a+a / 65536<=1110000000000000000:=by omega
theorem bd6 {a:Nat}(h:a<=1110000000000000000):a+a / 4294967296<=1120000000000000000:=by omega
theorem ad4 {a:Nat}(h:a<=1085102592571150095):IntKind.u64.wrap ((a:Int)+(a:Int) / 256)=((a+a / 256:Nat):Int):=by rw [IntKind.wrap_u64];omega
theorem ad5 {a:Nat}(h:a<=1100000000000000000):IntKind.u64.wrap ((a:Int)+(a:Int) / 65536)=((a+a / 65536:Nat):Int):=by rw [IntKind.wrap_u64];omega
theorem ad6 {a:Nat}(h:a<=1110000000000000000):IntKind.u64.wrap ((a:Int)+(a:Int) / 4294967296)=((a+a / 4294967296:Nat):Int):=by rw [IntKind.wrap_u64];omega
theorem ad3 {a:Nat}(h:a<=7378697629483820646):IntKind.u64.wrap ((a:Int) / 16+(a:Int))=((a / 16+a:Nat):Int):=by rw [IntKind.wrap_u64];omega
theorem wr6 {a:Nat}(h:a<=1120000000000000000):wrap64 (a:Int)=(a:Int):=by unfold wrap64;omega
theorem an1 {a:Nat}(h:a < 18446744073709551616):bits .and .u64 ((a:Int) / 2) 6148914691236517205=((a / 2&&&6148914691236517205:Nat):Int):=by
 rw [show(a:Int) / 2=((a / 2:Nat):Int) by omega];exact Qkh (a / 2) 6148914691236517205 (by omega) (by decide)
theorem an3 {a:Nat}(h:a < 18446744073709551616):bits .and .u64 ((a:Int) / 4) 3689348814741910323=((a / 4&&&3689348814741910323:Nat):Int):=by
 rw [show(a:Int) / 4=((a / 4:Nat):Int) by omega];exact Qkh (a / 4) 3689348814741910323 (by omega) (by decide)
theorem Qe2(x:Nat)(hx:Qp x)(w:World):Calls Tryz.prog 81 #[.int .u64 (x:Int)] w fun e w'=>e=.returned (.int .i64 ((Gy x 64:Nat):Int))/\w=w':=by
 obtain⟨x1,zP⟩:∃z,z=st1 6148914691236517205 x:=⟨_,rfl⟩;obtain⟨x2,zT⟩:∃z,z=st2 3689348814741910323 x1:=⟨_,rfl⟩;obtain⟨x3,zF⟩:∃z,z=st3 1085102592571150095 x2:=⟨_,rfl⟩;obtain⟨x4,yE⟩:∃z,z=st4 x3:=⟨_,rfl⟩;obtain⟨x5,xH⟩:∃z,z=st5 x4:=⟨_,rfl⟩;obtain⟨x6,uX⟩:∃z,z=st6 x5:=⟨_,rfl⟩;have HR:=Qq (show x6 % 128=Gy x 64 by
  rw [uX,xH,yE,zF,zT,zP];exact Zqy hx)
 have hw:x < 18446744073709551616:=hx;obtain⟨p1,mB⟩:∃z,z=x / 2&&&6148914691236517205:=⟨_,rfl⟩;obtain⟨p2,uQ⟩:∃z,z=x&&&6148914691236517205:=⟨_,rfl⟩;obtain⟨p3,JR⟩:∃z,z=x1 / 4&&&3689348814741910323:=⟨_,rfl⟩;obtain⟨p4,TP⟩:∃z,z=x1&&&3689348814741910323:=⟨_,rfl⟩;obtain⟨p5,JQ⟩:∃z,z=x2 / 16+x2:=⟨_,rfl⟩;have k1:p1<=6148914691236517205:=by rw [mB];exact Nat.and_le_right
 have k2:p2<=6148914691236517205:=by rw [uQ];exact Nat.and_le_right
 have k3:p3<=3689348814741910323:=by rw [JR];exact Nat.and_le_right
 have k4:p4<=3689348814741910323:=by rw [TP];exact Nat.and_le_right
 have e1:x1=p1+p2:=by rw [zP,mB,uQ];rfl
 have e2:x2=p3+p4:=by rw [zT,JR,TP];rfl
 have b1:x1 < 18446744073709551616:=by rw [e1];omega
 have b2:x2<=7378697629483820646:=by rw [e2];omega
 have b5:p5 < 18446744073709551616:=by rw [JQ];omega
 have e3:x3=p5&&&1085102592571150095:=by rw [zF,JQ];rfl
 have b3:x3<=1085102592571150095:=by rw [e3];exact Nat.and_le_right
 have b4:x4<=1100000000000000000:=by rw [yE];exact bd4 b3
 have c5:x5<=1110000000000000000:=by rw [xH];exact bd5 b4
 have c6:x6<=1120000000000000000:=by rw [uX];exact bd6 c5
 have b6:x6 < 9223372036854775808:=Nat.lt_of_le_of_lt c6 (by decide);obtain⟨cn,DZ⟩:∃z,z=Gy x 64:=⟨_,rfl⟩;have HF:=Qq (Qoh b6 (HR.out.trans DZ.symm));rw [<-DZ];have f1:bits .and .u64 ((x:Int) / 2) 6148914691236517205=(p1:Int):=by rw [mB];exact an1 hw
 have f2:bits .and .u64 (x:Int) 6148914691236517205=(p2:Int):=by rw [uQ];exact Qkh x 6148914691236517205 hw (by decide)
 have f3:IntKind.u64.wrap ((p1:Int)+(p2:Int))=(x1:Int):=by rw [Qoj (e1▸b1),e1]
 have f4:bits .and .u64 ((x1:Int) / 4) 3689348814741910323=(p3:Int):=by rw [JR];exact an3 b1
 have f5:bits .and .u64 (x1:Int) 3689348814741910323=(p4:Int):=by rw [TP];exact Qkh x1 3689348814741910323 b1 (by decide)
 have f6:IntKind.u64.wrap ((p3:Int)+(p4:Int))=(x2:Int):=by rw [Qoj (Nat.lt_of_le_of_lt (e2▸b2) (by decide)),e2]
 have f7:IntKind.u64.wrap ((x2:Int) / 16+(x2:Int))=(p5:Int):=by rw [JQ];exact ad3 b2
 have f8:bits .and .u64 (p5:Int) 1085102592571150095=(x3:Int):=by rw [e3];exact Qkh p5 1085102592571150095 b5 (by decide)
 have f9:IntKind.u64.wrap ((x3:Int)+(x3:Int) / 256)=(x4:Int):=by rw [yE];exact ad4 b3
 have f10:IntKind.u64.wrap ((x4:Int)+(x4:Int) / 65536)=(x5:Int):=by rw [xH];exact ad5 b4
 have f11:IntKind.u64.wrap ((x5:Int)+(x5:Int) / 4294967296)=(x6:Int):=by rw [uX];exact ad6 c5
 have f12:wrap64 (x6:Int)=(x6:Int):=wr6 c6;clear DZ b6 hx hw zP zT zF yE xH uX HR mB uQ JR TP JQ e1 e2 e3 k1 k2 k3 k4 b1 b2 b3 b4 b5 c5 c6;go_enter Tryz.func81,Tryz.ntmps81;go_wp2_with fail;go_ret;exact⟨by rw [<-HF.out] <;> rfl,rfl⟩
end Go.Proofs.YtkmclcmnoicagaaGreatDoor
