/- The model that types make of a formula is a model of it (plain). -/
import Derived.Test.YtkmclcmnoicagaaGreatDoorH28
namespace Go.Proofs.YtkmclcmnoicagaaGreatDoor
set_option maxRecDepth 100000
set_option maxHeartbeats 128000000
theorem Qgk.mdC {lg:Int} {f:List Nd} {S:List Nat} {md:Md}(h:Qgk lg f S md):Io lg (Qp f).1 S (Ye (Jl (Qf f))) (Ye (Yy (Qf f))) md:=⟨h.n,h.rel,h.vlen,h.vlow,h.fact⟩
theorem Zkz {lg:Int} {f:List Nd} {S:List Nat} {md:Md}(he:Yj lg f=0)(h:Qgk lg f S md):Uj lg f md 0:=by
 have hE:=Qjq he;have hh:=(Jb hE.ck).2.2.2;have Q6:=Qqw (Ry (Qf f) 0 hh (by decide));have N9:=Qqw (Tb (Qf f) 0 hh (by decide));have hm:=h.mdC;have hF:=Qea hE h.al h.sel (fun n a hm=>(Qp2 hE he _ hm).1.agent (.inl (hE.b.closed.know n a hm).1)|>.2);have zJ:∀u∈S,u < 2^(Qp f).1.length:=fun u hu=>by have:=Xr (h.al u hu);rwa [Mb]at this
 have hg:=Qe1 hE.b ⟨hE.l0,hE.l6⟩ hF zJ hm h.pos h.le Q6 N9;have hl:Nf f=false:=by
  unfold Yj at he;cases ha:decide (lg < 0)||decide (6 < lg)
  ·rw [ha]at he;exact(Hj he).2.1
  rw [ha]at he;cases he
 have WY:=Zqg hE.ck hl hg.ck (by rw [hm.rel];simp) hm.vlen.symm;have CT:Jz md f=0:=by
  obtain⟨h1,_,h3,h4⟩:=Vm WY;have h2:=Ul hE.ck;have ZK:Jr (Jp f) 15=true:=by unfold Jp at h3⊢;rw [h2]at h3;exact h3
  have TT:Yl f md.rel.length md.val.length=true:=by
   unfold Yl at h4⊢;rw [h2,Gv hE.ck]at h4;rw [hE.ck];exact h4
  unfold Jz;rw [if_neg (by rw [h1];simp),if_neg (by rw [hE.ck];simp),if_neg (by rw [ZK];simp),if_neg (by rw [TT];simp)]
 have uD:md.n.toNat=S.length:=by rw [hm.n];exact Int.toNat_natCast _
 have hp:=h.pos;refine⟨CT,by omega,hg,fun w hw=>(Zzs hE hF zJ hm rfl rfl w).2 ?_⟩;rw [hw];exact h.root
def Qze(lg:Int)(f:List Nd)(md:Md)(k:Nat)(er:Int):Prop :=
 (er≠0/\md=⟨0,[],[]⟩/\k=0/\(((lg < 0\/6 < lg)/\er=1)\/((0<=lg/\lg<=6)/\check f≠0/\er=check f)\/((0<=lg/\lg<=6)/\check f=0/\(Kk f).length=0/\er=8)\/
  ((0<=lg/\lg<=6)/\check f=0/\(Kk f).length≠0/\Yj lg (Kk f)≠0/\er=if Yj lg (Kk f)=6 then 14 else Yj lg (Kk f))\/
  ((0<=lg/\lg<=6)/\check f=0/\(Kk f).length≠0/\Yj lg (Kk f)=0/\Us lg (Kk f)=false/\er=14)\/
  ((0<=lg/\lg<=6)/\check f=0/\(Kk f).length≠0/\Yj lg (Kk f)=0/\Us lg (Kk f)=true/\6 < (Qp (Kk f)).1.length/\er=8)))\/
 (er=0/\check f=0/\(Kk f).length≠0/\Yj lg (Kk f)=0/\Us lg (Kk f)=true/\Uj lg (Kk f) md k)
open Go.RowKit
def Mk(w:World)(v:Value)(l:List Nat):Prop:=∃A c,v=.slice A l.length c/\l.length<=c/\c<=maxLen/\Hid (∀i,i < l.length->∃ad,A=some ad/\ad.block < w.heap.size/\w.cell? (ad.add i)=some (.int .i64 ((l.getD i 0:Nat):Int)))
def Uv(base:Nat)(w:World)(v:Value)(l:List Nat):Prop:=w.ownsRow base 3 1 v l.length (Ge l)
section
variable {base:Nat} {w w':World} {v:Value} {l:List Nat}
theorem Mk.ext(h:Mk w v l)(he:Qg w w'):Mk w' v l:=by
 obtain⟨A,c,e,h1,h2,h3⟩:=h;refine⟨A,c,e,h1,h2,Qq fun i hi=> ?_⟩;obtain⟨ad,e,hl,hc⟩:=h3.out i hi;exact⟨ad,e,Qy hl he.size,(he.cell (p:=ad.add i) (Qj hl)).trans hc⟩
theorem Uv.ext(h:Uv base w v l)(he:Qg w w'):Uv base w' v l:=Zg h he
theorem Uv.nil(base:Nat)(w:World):Uv base w (.slice none 0 0) []:=World.ownsRow_nil _ _ _ _
theorem Mw(w:World):Mk w (.slice none 0 0) []:=⟨none,0,rfl,Nat.le_refl _,by unfold maxLen;omega,Qq fun i hi=>absurd hi (by simp)⟩
theorem Uv.nts(h:Uv base w v l):Mk w v l:=by
 have h0:=h;rcases h.2 with⟨e,e0⟩|⟨g,cap,cur,e,hb,hg,gM,hm,hs,ht⟩
 ·have:l= []:=List.length_eq_zero_iff.1 e0;subst this e;exact Mw w
 subst e;refine⟨_,cap,rfl,gM,hm,Qq fun i hi=> ?_⟩;obtain⟨g',cap',e,xK,_,_,_,hc⟩:=Up h0 hi rfl;injection e with e1 e2 e3;injection e1 with e1;injection e1 with e1;subst e1;exact⟨_,rfl,xK,by rw [Qqq];exact hc⟩
theorem Uv.snoc {w7:World} {u:Nat} {v7:Value}(h:w7.ownsRow base 3 1 v7 (l.length+1) (Ge l++ [.int .i64 (u:Int)])):Uv base w7 v7 (l++ [u]):=by
 unfold Uv Ge;rw [List.map_append,List.length_append];exact h
theorem Zf.snoc {w7:World} {u:Nat} {v7:Value}(h:w7.ownsRow base 41 1 v7 (l.length+1) (uV l++ [.int .u64 (u:Int)])):Zf base w7 v7 (l++ [u]):=by
 unfold Zf uV;rw [List.map_append,List.length_append];exact h
end
theorem Qpx {s k:Nat}(hs:Qm s):bits .and .u64 ((s:Int) / 2^k) 1=((if s.testBit k then 1 else 0:Nat):Int):=by
 have zJ:s / 2^k < 18446744073709551616:=Nat.lt_of_le_of_lt (Nat.div_le_self _ _) hs;rw [Ld,show(1:Int)=((1:Nat):Int)from rfl,bits_and_u64_nat _ 1 zJ (by decide),Nat.and_one_is_mod,Nat.testBit_eq_decide_div_mod_eq];rcases Nat.mod_two_eq_zero_or_one (s / 2^k)with h|h <;> rw [h] <;> rfl
theorem Qto {x:Nat} :IntKind.u64.wrap (1*2^x)=IntKind.u64.wrap ((2:Int)^x):=by rw [Int.one_mul]
theorem Zjd {x:Nat} :IntKind.u64.wrap (0*2^x)=0:=by
 rw [Int.zero_mul];decide
theorem Qwi {z:Nat}(h:Qm z):bits .or .u64 (z:Int) 0=(z:Int):=by
 have:=Xq (a:=z) (b:=0) h (by show(0:Nat) < _;omega);rw [Nat.or_zero]at this;exact this
def spa(B:Nat)(vr:Value)(k:Nat):Prop:=k < B\/vr.ownBlock=some k
structure Fm (w0 wr:World) (mb B:Nat) (n:Int) (vv:Value) (vals:List Nat) (vr:Value) (rows:List (List Nat)):Prop where
 ext:Qg w0 wr
 lo:w0.heap.size<=mb
 lt:mb < B
 top:B<=wr.heap.size
 cell:wr.heap[mb]?=some (.cells #[.int .i64 n,vv,vr] 26 (0,0))
 val:Zf B wr vv vals
 rel:∃us:List Value,us.length=rows.length/\wr.ownsRow B 23 1 vr us.length us/\∀(k:Nat) u r,us[k]?=some u->rows[k]?=some r->Vs (spa B vr) wr (fun w'=>Jn w' u r)
 dr:∀g,vr.ownBlock=some g->vv.ownBlock≠some g
section
variable {w0 wr W:World} {mb B:Nat} {n:Int} {vv vr:Value} {vals:List Nat} {rows:List (List Nat)}
theorem Fm.start(he:Qg w0 wr)(hm:w0.heap.size<=mb)(hB:mb < B)(hS:B<=wr.heap.size)(hc:wr.heap[mb]?=some (.cells #[.int .i64 n,.slice none 0 0,.slice none 0 0] 26 (0,0))):Fm w0 wr mb B n (.slice none 0 0) [] (.slice none 0 0) []:=
 ⟨he,hm,hB,hS,hc,Zf.nil _ _,⟨[],rfl,World.ownsRow_nil _ _ _ _,fun k u r hu _=>by simp at hu⟩,fun g hg=>by cases hg⟩
theorem Fm.next(h:Fm w0 wr mb B n vv vals vr rows)(he:Qg wr W):Fm w0 W mb B n vv vals vr rows:=by
 obtain⟨us,e,h1,h2⟩:=h.rel;exact⟨h.ext.trans he,h.lo,h.lt,Qx h.top he.size,(he.block (Qn h.cell)).trans h.cell,h.val.ext he,⟨us,e,Zg h1 he,fun k u r hu hr=>(h2 k u r hu hr).next (Yv.of_ext he) fun _ _ h=>h⟩,h.dr⟩
theorem Fm.mlt(h:Fm w0 wr mb B n vv vals vr rows):mb < wr.heap.size:=Qn h.cell
theorem Fm.cells(h:Fm w0 wr mb B n vv vals vr rows):(wr.cell? ⟨mb,0,none⟩=some (.int .i64 n)/\wr.cell? ⟨mb,1,none⟩=some vv/\wr.cell? ⟨mb,2,none⟩=some vr)/\(wr.frozen? ⟨mb,0,none⟩=false/\wr.frozen? ⟨mb,1,none⟩=false/\wr.frozen? ⟨mb,2,none⟩=false)/\mb < wr.heap.size :=
 Zc h.cell
theorem Fm.pushVal {w7 W6:World} {v7:Value} {s:Nat}(h:Fm w0 wr mb B n vv vals (.slice none 0 0) [])(uP:Qg wr W6)
 (ho:w7.ownsRow B 41 1 v7 (vals.length+1) (uV vals++ [.int .u64 (s:Int)]))(tW:W6.grownBy w7 vv.ownBlock):
 Fm w0 (w7.setCell ⟨mb,1,none⟩ v7) mb B n v7 (vals++ [s]) (.slice none 0 0) []:=by
 have h6:=h.next uP;have zJ:=h.lt;have sN:=fun k hk=>(World.ownsRow.lt h6.val k hk)
 have qL:=fun k hk=>(World.ownsRow.lt ho k hk)
 have jT:Qg w0 w7:=h6.ext.grown tW (fun k hk=>by have:=(sN k hk).1;have:=h.lo;omega);have hm7:w7.heap[mb]?=some (.cells #[.int .i64 n,vv,.slice none 0 0] 26 (0,0)):=(tW.block mb h6.mlt (fun e=>by have:=(sN _ e.symm).1;omega)).trans h6.cell;refine⟨jT.setCell (p:=⟨mb,1,none⟩) h.lo _,h.lo,h.lt,Qx h6.top (Qx tW.size (by simp [World.setCell])),?_,?_,⟨[],rfl,World.ownsRow_nil _ _ _ _,fun k u r hu _=>by simp at hu⟩,fun g hg=>by cases hg⟩
 ·simp only [World.setCell,Array.getElem?_modify,hm7,if_true,Option.map_some];simp
 exact Zp (Zf.snoc ho) fun k hk=>Below.heap_setCell _ _ _ _ (show k≠mb by have:=(qL k hk).1;omega)
theorem Zf.low {base B:Nat} {w:World} {v:Value} {l:List Nat}(h:Zf base w v l)(hb:B<=base):Zf B w v l :=
 ⟨h.1,h.2.imp id fun⟨g,cap,cur,e,h1,r⟩=>⟨g,cap,cur,e,Qx hb h1,r⟩⟩
theorem Fm.pushRow {wa w7 W6:World} {v7 u:Value} {r:List Nat} {us:List Value}(h:Fm w0 wa mb B n vv vals vr rows)(e:us.length=rows.length)(xT:wa.ownsRow B 23 1 vr us.length us)
 (ZL:∀(k:Nat) u r,us[k]?=some u->rows[k]?=some r->Vs (spa B vr) wa (fun w'=>Jn w' u r))(WA:Qg wa W6)(hu:Zf B wa u r)(zQ:∀g,u.ownBlock=some g->vr.ownBlock≠some g)
 (ho:w7.ownsRow B 23 1 v7 (us.length+1) (us++ [u]))(tW:W6.grownBy w7 vr.ownBlock)(dR:v7.ownBlock=vr.ownBlock\/v7.ownBlock=some W6.heap.size):
 Fm w0 (w7.setCell ⟨mb,2,none⟩ v7) mb B n vv vals v7 (rows++ [r]):=by
 have h6:=h.next WA;have zJ:=h.lt;have h1:=Zg xT WA;have h2:=fun k u r hu hr=>(ZL k u r hu hr).next (X':=spa B vr) (Yv.of_ext WA) fun _ _ h=>h
 have sN:=fun k hk=>(h1.lt k hk)
 have nJ:=h6.mlt;have s7:=tW.size;have qL:=fun k hk=>(World.ownsRow.lt ho k hk)
 have jT:Qg w0 w7:=h6.ext.grown tW (fun k hk=>by have:=(sN k hk).1;have:=h.lo;omega);have xB:∀k,k≠mb->(w7.setCell ⟨mb,2,none⟩ v7).heap[k]?=w7.heap[k]?:=fun k e=>Below.heap_setCell _ _ _ _ e
 have SI:w7.heap[mb]?=some (.cells #[.int .i64 n,vv,vr] 26 (0,0)):=(tW.block mb nJ (fun e=>by have:=(sN _ e.symm).1;omega)).trans h6.cell;have cD:(w7.setCell ⟨mb,2,none⟩ v7).heap.size=w7.heap.size:=by simp [World.setCell]
 have cF:Yv (spa B vr) W6 (w7.setCell ⟨mb,2,none⟩ v7):=⟨by omega,fun k hk hl=>by
  rw [xB k (fun e=>hk (.inl (by omega))),tW.block k hl (fun e=>hk (.inr e.symm))]⟩
 have RN:∀k,k < W6.heap.size->spa B v7 k->spa B vr k:=fun k hk hs=>by
  rcases hs with e|e
  ·exact .inl e
  rcases dR with e2|e2
  ·exact .inr (e2▸e)
  rw [e2]at e;injection e with e;omega
 refine⟨jT.setCell (p:=⟨mb,2,none⟩) h.lo _,h.lo,h.lt,Qx h6.top (by omega),?_,?_,⟨us++ [u],by simp [e],?_,fun k x y hx hy=> ?_⟩,fun g hg hv=> ?_⟩
 ·simp only [World.setCell,Array.getElem?_modify,SI,if_true,Option.map_some];simp
 ·exact Zp h6.val fun k hk=>by
   have yV:=World.ownsRow.lt h6.val k hk;rw [xB k (by omega),tW.block k yV.2 (fun e=>h.dr k e.symm hk)]
 ·rw [List.length_append,List.length_singleton];exact Zp ho fun k hk=>xB k (by have:=(qL k hk).1;omega)
 ·by_cases hk:k < us.length
  ·rw [List.getElem?_append_left hk]at hx;rw [List.getElem?_append_left (by omega)]at hy;exact(h2 k x y hx hy).next cF RN
  have wR:=(List.getElem?_eq_some_iff.1 hx).1;rw [List.length_append,List.length_singleton]at wR;have ek:k=us.length:=by omega
  subst ek;rw [List.getElem?_append_right (Nat.le_refl _),Nat.sub_self]at hx;rw [e,List.getElem?_append_right (Nat.le_refl _),Nat.sub_self]at hy;obtain rfl:u=x:=by simpa using hx
  obtain rfl:r=y:=by simpa using hy
  intro w' AA;have this:Zf B w' u r:=Zp hu fun g hg=>by
   have vD:=World.ownsRow.lt hu g hg;have hl6:=WA.size;have KG:¬spa B v7 g:=fun hs=>by
    rcases hs with e|e
    ·omega
    rcases dR with e2|e2
    ·exact zQ g hg (e2▸e)
    rw [e2]at e;injection e with e;omega
   rw [AA.2 g KG (by omega),xB g (by omega),tW.block g (by omega) (fun e=>zQ g hg e.symm),WA.block vD.2]
  exact this.u64s
 rcases dR with e2|e2
 ·exact h.dr g (e2▸hg) hv
 rw [e2]at hg;injection hg with hg;have:=(World.ownsRow.lt h6.val g hv).2;omega
theorem Fm.other(h:Fm w0 wr mb B n vv vals vr rows) {r:Nat}(h0:w0.heap.size<=r)(h1:r < B)(h2:r≠mb)(v:Value):Fm w0 (wr.setCell ⟨r,0,none⟩ v) mb B n vv vals vr rows:=by
 have xB:∀k,k≠r->(wr.setCell ⟨r,0,none⟩ v).heap[k]?=wr.heap[k]?:=fun k e=>Below.heap_setCell _ _ _ _ e
 obtain⟨us,e,xT,ZL⟩:=h.rel;refine⟨h.ext.setCell (p:=⟨r,0,none⟩) h0 _,h.lo,h.lt,Qx h.top (by simp [World.setCell]),(xB mb (Ne.symm h2)).trans h.cell,Zp h.val fun k hk=>xB k (by have:=(World.ownsRow.lt h.val k hk).1;omega),⟨us,e,Zp xT fun k hk=>xB k (by have:=(xT.lt k hk).1;omega),fun k u y hu hy=> ?_⟩,h.dr⟩;exact(ZL k u y hu hy).next (X':=spa B vr) ⟨by simp [World.setCell],fun k hk _=>xB k (fun e=>hk (.inl (by omega)))⟩ (fun _ _ h=>h)
theorem Fm.mdv {w':World}(h:Fm w0 wr mb B n vv vals vr rows)(hs:Yv (fun k=>k < B) wr w'):Jk w' (.agg #[.int .i64 n,vv,vr]) ⟨n,vals,rows⟩:=by
 have zR:Zf B w' vv vals:=Zp h.val fun k hk=>hs.2 k (by have:=(World.ownsRow.lt h.val k hk).1;omega) (World.ownsRow.lt h.val k hk).2
 refine⟨_,_,rfl,zR.u64s,?_⟩;obtain⟨us,e,xT,h2⟩:=h.rel;have h1:=Zp (w':=w') xT fun k hk=>hs.2 k (by have:=(xT.lt k hk).1;omega) (xT.lt k hk).2
 have sQ:Yv (spa B vr) wr w':=⟨hs.1,fun k hk hl=>hs.2 k (fun e=>hk (.inl e)) hl⟩;rcases h1.2 with⟨ev,e0⟩|⟨g,cap,cur,ev,hb,hg,gM,hm,WL,ht⟩
 ·subst ev;have:rows= []:=List.length_eq_zero_iff.1 (by omega);subst this;exact⟨none,0,rfl,Nat.le_refl _,by unfold maxLen;omega,fun h=>absurd rfl h⟩
 subst ev;refine⟨_,cap,by rw [e],by show rows.length<=cap;omega,hm,fun _=>⟨_,rfl,Qn hg,fun k s hk=> ?_⟩⟩;have wR:k < rows.length:=(List.getElem?_eq_some_iff.1 hk).1;obtain⟨u,hu⟩:∃u,us[k]?=some u:=⟨_,List.getElem?_eq_getElem (by omega)⟩;refine⟨u,?_,h2 k u s hu hk w' sQ⟩;rw [Qqq];have h3:=hu;rw [<-ht,List.getElem?_take]at h3
 split at h3
 ·have h4:cur[k]?=some u:=by simpa using h3
  simp [World.cell?,hg,h4]
 cases h3
end
theorem Qc5 {n a v:Nat}(hn:n<=64)(ha:a<=4)(hv:v<=8):n*v<=512/\n*n<=4096/\n*n*a<=16384:=by
 have h1:n*v<=64*8:=Nat.mul_le_mul hn hv;have h2:n*n<=64*64:=Nat.mul_le_mul hn hn;have h3:n*n*a<=64*64*4:=Nat.mul_le_mul h2 ha;omega
theorem Wk {x:Nat}(h:x < 9223372036854775808):wrap64 (x:Int)=(x:Int):=by unfold wrap64;omega
theorem Qqo(n a v:Nat)(hn:n<=64)(ha:a<=4)(hv:v<=8)(w:World):
 Calls Tryz.prog 88 #[.int .i64 (n:Int),.int .i64 (a:Int),.int .i64 (v:Int)] w fun e w'=>e=.returned (.int .i64 ((Yd n a v:Nat):Int))/\w=w':=by
 obtain⟨b1,b2,b3⟩:=Qc5 hn ha hv;obtain⟨p,hp⟩:∃z,z=n*v:=⟨_,rfl⟩;obtain⟨q,hq⟩:∃z,z=n*n:=⟨_,rfl⟩;obtain⟨r,hr⟩:∃z,z=n*n*a:=⟨_,rfl⟩;rw [<-hp]at b1;rw [<-hq]at b2;rw [<-hr]at b3;have f1:wrap64 ((n:Int)*(v:Int))=(p:Int):=by
  rw [show(n:Int)*(v:Int)=((n*v:Nat):Int) by simp,<-hp];exact Wk (by omega)
 have f2:wrap64 ((n:Int)*(n:Int))=(q:Int):=by
  rw [show(n:Int)*(n:Int)=((n*n:Nat):Int) by simp,<-hq];exact Wk (by omega)
 have f3:wrap64 ((q:Int)*(a:Int))=(r:Int):=by
  rw [show(q:Int)*(a:Int)=((q*a:Nat):Int) by simp,hq,<-hr];exact Wk (by omega)
 have HL:=Qq (show p+r=Yd n a v by rw [hp,hr];rfl);clear hn ha hv hp hq hr;go_enter Tryz.func88,Tryz.ntmps88;go_wp2_with fail;go_ret;exact⟨by rw [<-HL.out] <;> first|rfl|simp,rfl⟩
theorem Qrk(R B n rest:Nat)(w:World)(hn:n < 64)(hr:Qm rest)(hR:w.heap[R]?=some (.cells #[.int .u64 (rest:Int)] 41 (0,0)))(hB:w.cell? ⟨B,0,none⟩=some (.int .i64 (n:Int)))(XF:B < w.heap.size):
 Calls Tryz.prog 156 #[.pointer (some ⟨R,0,none⟩),.pointer (some ⟨B,0,none⟩)] w fun e w'=>e=.returned (.int .u64 ((rest % 2^n:Nat):Int))/\∃W,Qg w W/\W.heap=w.heap/\w'=W.setCell ⟨R,0,none⟩ (.int .u64 ((rest / 2^n:Nat):Int)):=by
 have cU:min n 64=n:=by omega
 have wU:(n:Int) < 64:=by omega
 have xC:=Th hn;have zJ:2^n - 1 < 18446744073709551616:=by
  have:=Nw (show n<=64 by omega);have:=Nat.two_pow_pos n;omega
 have yH:=Xk hr (show Qm (2^n - 1)from zJ);rw [Nat.and_two_pow_sub_one_eq_mod]at yH;obtain⟨al,wJ⟩:∃z,z=2^n - 1:=⟨_,rfl⟩;rw [<-wJ]at xC yH;obtain⟨md,sJ⟩:∃z,z=rest % 2^n:=⟨_,rfl⟩;rw [<-sJ]at yH⊢;have hdv:(rest:Int) / 2^n=((rest / 2^n:Nat):Int):=Ld _ _;obtain⟨dv,dH⟩:∃z,z=rest / 2^n:=⟨_,rfl⟩;rw [<-dH]at hdv⊢;have c0:w.cell? ⟨R,0,none⟩=some (.int .u64 (rest:Int)):=by simp [World.cell?,hR]
 have cf:w.frozen? ⟨R,0,none⟩=false:=by simp [World.frozen?,hR]
 have cl:=Qn hR;clear zJ wJ sJ dH hr hn;go_enter Tryz.func156,Tryz.ntmps156;go_upto_region 1 with(fail);go_quiet (fail);have HX:=Qq (show Qg w (w.drewN nq)from(Qg.refl w).drewN nq);have HH:=Qq (show(w.drewN nq).heap=w.heap from rfl);obtain⟨W,hW⟩:∃z,z=w.drewN nq:=⟨_,rfl⟩;rw [<-hW]at HX HH⊢;have d0:=(HX.out.cell (p:=⟨R,0,none⟩) cl).trans c0;have d1:=(HX.out.cell (p:=⟨B,0,none⟩) XF).trans hB;have df:W.frozen? ⟨R,0,none⟩=false:=by
  have:=HX.out.block (k:=R) cl;simp [World.frozen?,this,hR]
 have dl:=Qy cl HX.out.size;clear hW c0 cf cl hB XF hR;go_wp2_with fail;go_ret;exact⟨rfl,W,HX.out,HH.out,rfl⟩
theorem Ea(s:Nat):(Za s).length<=64:=by
 rw [Qgo];unfold Xc;exact Qx List.countP_le_length (by rw [List.length_range];exact Nat.le_refl _)
theorem Qr6(s:Nat)(hs:Qm s)(w:World)(hT:Kb w):
 Calls Tryz.prog 95 #[.int .u64 (s:Int)] w fun e w'=>∃u,e=.returned u/\Uv w.heap.size w' u (Za s)/\Qg w w':=by
 have HT:=Qq hT;have HS:=Qq hs;obtain⟨iI,pU,vQ,vP,vO⟩:=info_parts Ih;clear hT hs;go_enter Tryz.func95,Tryz.ntmps95;go_wp2_with fail;go_loopw [0,3] (fun v0 v3 wr=>∃cur:Nat,v0=.int .u64 (cur:Int)/\Hid (∃pre,pre++Za cur=Za s/\Qm cur/\Qg w wr/\Uv w.heap.size wr v3 pre)) (fun v _ _=>(Za (intOf v).toNat).length)
 case atStart=>exact⟨s,rfl,Qq ⟨[],rfl,HS.out,Qz,Uv.nil _ _⟩⟩
 case round =>
  obtain⟨cur,rfl,zY⟩:=hrel;obtain⟨pre,sS,P6,hx,sJ⟩:=zY.out;have HP:=Qq sS;have HC:=Qq P6;have HX:=Qq hx;have HM:=Qq sJ;obtain⟨A1,c1,rfl⟩:=Qt sJ;clear zY sS P6 hx sJ;by_cases h0:cur=0
  ·subst h0;have zQ:(((0:Nat):Int) !=0)=false:=by simp
   go_wp2_with fail;go_ret;exact⟨_,rfl,by rw [<-HP.out,Qne,List.append_nil];exact HM.out,HX.out⟩
  have zQ:((cur:Int) !=0)=true:=by simpa using h0
  have H0:=Qq h0;have zA:=Qq (Qna HC.out h0);have sE:pre.length+1<=64:=by
   have h1:=Ea s;rw [<-HP.out,zA.out,List.length_append,List.length_cons]at h1;omega
  have tI:IntKind.u64.wrap ((cur:Int) - 1)=((cur - 1:Nat):Int):=by
   have:=HC.out;unfold Qm at this;rw [IntKind.wrap_u64];omega
  have yH:bits .and .u64 (cur:Int) ((cur - 1:Nat):Int)=((cur&&&(cur - 1):Nat):Int):=Xk HC.out (Nat.lt_of_le_of_lt (Nat.sub_le _ _) HC.out);have xS:pre.length+1<=maxLen:=by unfold maxLen;omega
  have xP:(pre.length+1)*8<=140737488355328:=by omega
  clear h0;go_wp2_with fail;refine(Qrg cur HC.out H0.out _ (HT.out.ext HX.out)).mono ?_;rintro e w1 ⟨rfl,rfl⟩;go_wp2_with(at_builtin;refine wpList_append_own_at _ rfl _ _ 36 rfl w.heap.size 3 iI (.int .i64 0) 1 8 Tryz.underlying36 pU vQ vP vO rfl (by decide) _ pre.length (Ge pre) rfl (Zg HM.out (Qz.alloc _)) ⟨_,0,none⟩ 1 1 [.int .i64 ((Dt cur:Nat):Int)] rfl rfl (Zt _ _ _ (by simp)) (fun u hu=>by rw [List.mem_singleton.1 hu];rfl) xS xP (Qx HX.out.size (by simp)) ?_);intro v7 w7 zW zX _ _;have sL:=Qq (show Qg w w7 from(HX.out.alloc _).grown zX (fun k hk=>(HM.out.lt k hk).1))
  have pL:=Qq (Uv.snoc zW);obtain⟨A7,c7,rfl⟩:=Qt zW;clear zW zX;go_wp2_with fail;go_roundw
  case rel=>exact⟨cur&&&(cur - 1),rfl,Qq ⟨pre++ [Dt cur],by rw [List.append_assoc,<-HP.out,zA.out];rfl,Nat.lt_of_le_of_lt Nat.and_le_left HC.out,sL.out,pL.out⟩⟩
  case measure =>
   show(Za ((cur&&&(cur - 1):Nat):Int).toNat).length < (Za ((cur:Nat):Int).toNat).length;rw [Int.toNat_natCast,Int.toNat_natCast,zA.out,List.length_cons];omega
theorem Qnw(s:Nat)(hs:Qm s)(v:Value)(ws:List Nat)(w:World)(h:Mk w v ws)(zJ:∀u∈ws,u < 64)(hl:ws.length<=64):
 Calls Tryz.prog 160 #[.int .u64 (s:Int),v] w fun e w'=>e=.returned (.int .u64 ((Jt s ws:Nat):Int))/\w=w':=by
 have HS:=Qq hs;have HL:=Qq zJ;obtain⟨A,c,rfl,_,_,HA⟩:=h;clear hs zJ;go_enter Tryz.func160,Tryz.ntmps160;go_wp2_with fail;go_loopw [5,10] (fun vo vi wr=>∃i:Nat,vi=.int .i64 (i:Int)/\i<=ws.length/\∃z:Nat,vo=.int .u64 (z:Int)/\Hid (z=Yi i (fun i=>s.testBit (ws.getD i 0))/\w=wr)) (fun _ v _=>ws.length - (intOf v).toNat)
 case atStart=>exact⟨0,rfl,Nat.zero_le _,0,rfl,Qq ⟨rfl,rfl⟩⟩
 case round =>
  obtain⟨i,rfl,hi,z,rfl,zY⟩:=hrel;obtain⟨hz,rfl⟩:=zY.out;have HZ:=Qq hz;have ZM:=Qq (show Qm z by rw [hz];exact Fk (by omega) _);clear zY hz;by_cases hlt2:i < ws.length
  ·have yV:(i:Int) < (ws.length:Int):=by omega
   have wV:(i:Int) < 64:=by omega
   have mT:min i 64=i:=by omega
   obtain⟨ad,rfl,zV,hc⟩:=HA.out i hlt2;have rS:ws.getD i 0 < 64:=HL.out _ (by rw [Qk,Qv hlt2];exact List.getElem_mem _);have zA:=Qq (Bk i (fun i=>s.testBit (ws.getD i 0)));obtain⟨u,hu⟩:∃u,u=ws.getD i 0:=⟨_,rfl⟩;have yH:=Qpx (k:=u) HS.out;have mE:=Qq (show Yi (i+1) (fun i=>s.testBit (ws.getD i 0))=if s.testBit u then z|||2^i else z by rw [zA.out,HZ.out,hu]);rw [<-hu]at hc rS;have IB:(u:Int) < 64:=by omega
   have kB:min u 64=u:=by omega
   have al:(ad.add i).block < w.heap.size:=by rw [Qr];exact zV
   clear hu zA HZ;cases yK:s.testBit u
   ·rw [yK]at yH mE;have MY:bits .and .u64 ((s:Int) / 2^u) 1=0:=yH;have fK:=Zjd (x:=i);have uW:=Qwi ZM.out;clear yK yH;go_wp2_with fail;go_roundw
    case rel=>exact⟨i+1,by go_num,by omega,z,rfl,Qq ⟨by rw [mE.out];rfl,by first|rfl|trivial⟩⟩
    case measure=>simp [intOf];omega
   rw [yK]at yH mE;have MY:bits .and .u64 ((s:Int) / 2^u) 1=1:=yH;have fK:=Qto (x:=i);have uW:=Ep ZM.out (show i < 64 by omega);clear yK yH;go_wp2_with fail;go_roundw
   case rel=>exact⟨i+1,by go_num,by omega,z|||2^i,rfl,Qq ⟨by rw [mE.out];rfl,by first|rfl|trivial⟩⟩
   case measure=>simp [intOf];omega
  obtain rfl:ws.length=i:=by omega
  have HE:=Qq (show Jt s ws=z from HZ.out.symm);go_wp2_with fail;go_ret;exact⟨by rw [HE.out] <;> rfl,rfl⟩
theorem Qkh:(Tryz.prog.info? 23).map (fun i=>(i.zero,i.size,i.bytes))=some (some (.slice none 0 0),1,24):=by kernel_rfl
theorem Ma {α β:Type} {f:α->β} {l:List α} {k:Nat}(hk:k < l.length):(l.take (k+1)).map f=(l.take k).map f++ [f l[k]]:=by
 rw [List.take_add_one,Qv hk,Option.toList_some,List.map_append];rfl
theorem Qrt(vm v:Value)(md:Md)(ws:List Nat)(w:World)(hm:Jk w vm md)(zP:md.ok)(zU:Qa md=0)(h:Mk w v ws)(zJ:∀u∈ws,u < md.n.toNat)(hl:ws.length<=64):
 Calls Tryz.prog 96 #[vm,v] w fun e w'=>∃u,e=.returned u/\Vs (fun k=>k < w.heap.size) w' (fun W=>Jk W u (Vj md ws))/\Qg w w':=by
 have HM:=Qq hm;have HN:=Qq h;have zE:=Qq zP;have hZ:=Qq zJ;obtain⟨wU,yZ,uR,iJ,wO,_,_⟩:=Zv zU;have eO:=Qq (show ∀u∈ws,u < 64 from fun u hu=>by have:=zJ u hu;omega);have qI:=Qq (show ∀r∈md.rel,r.length=md.n.toNat from fun r hr=>by have:=wO r hr;omega);obtain⟨iU,sG,xF,xE,xD⟩:=info_parts Dx;obtain⟨iS,SR,jN,jM,jL⟩:=info_parts Qkh;obtain⟨A,c,rfl,QE,xY,HA⟩:=h;obtain⟨vv,vr,rfl,hv,hr⟩:=hm;obtain⟨Av,cv,rfl,fH,hvm,HV⟩:=Vf hv;obtain⟨Ar,cr,rfl,RS,oH,HR⟩:=Gj hr;obtain⟨val,uJ⟩:∃z,z=md.val:=⟨_,rfl⟩;obtain⟨rel,sD⟩:∃z,z=md.rel:=⟨_,rfl⟩;have dV:=Qq uJ
 have eD:=Qq sD;have EG:=Qq (show ∀s∈val,Qm s by rw [uJ];exact zP.val);have tM:=Qq (show ∀r∈rel,∀s∈r,Qm s by rw [sD];exact zP.rel);rw [<-uJ]at HV iJ fH⊢;rw [<-sD]at HR qI uR RS⊢;clear zJ hv hr wO zP zU uJ sD wU yZ;obtain⟨W0,zK⟩:∃W,W=(w.alloc (.cells #[.int .i64 md.n,.slice Av val.length cv,.slice Ar rel.length cr] 26)).alloc (.cells #[.int .i64 0,.slice none 0 0,.slice none 0 0] 26):=⟨_,rfl⟩;have X0:=Qq (show Qg w W0 by rw [zK];exact(Qz.alloc _).alloc _);obtain⟨b,hb⟩:∃b,b=w.heap.size:=⟨_,rfl⟩;have B0:=Qq (show W0.heap[b]?=some (.cells #[.int .i64 md.n,.slice Av val.length cv,.slice Ar rel.length cr] 26 (0,0)) by rw [zK,hb];exact((Qz.alloc _).block (by simp)).trans (heap_alloc_new _ _))
 have B1:=Qq (show W0.heap[b+1]?=some (.cells #[.int .i64 0,.slice none 0 0,.slice none 0 0] 26 (0,0)) by
  have h1:=heap_alloc_new (w.alloc (.cells #[.int .i64 md.n,.slice Av val.length cv,.slice Ar rel.length cr] 26)) (.cells #[.int .i64 0,.slice none 0 0,.slice none 0 0] 26);rw [zK,hb]
  simpa using h1)
 have bD:W0.heap.size=b+1+1:=by rw [zK,hb];simp
 have rX:=Qq hb;obtain⟨mn,cU⟩:∃z,z=md.n:=⟨_,rfl⟩;have H3:=Qq cU;rw [<-cU]at B0;go_enter Tryz.func96,Tryz.ntmps96;go_upto_region 1 with(fail);rw [<-zK,<-cU];rw [<-hb];clear zK hb cU;go_upto_region 2 with(fail);obtain⟨W1,tL⟩:∃W,W=W0.alloc (.cells #[.int .i64 (ws.length:Int),.slice none 0 0,.slice none 0 0] 26):=⟨_,rfl⟩;rw [<-tL];obtain⟨mb,cX⟩:∃z,z=b+1+1:=⟨_,rfl⟩;rw [<-cX];have iA:=Qq (show Fm W0 W1 mb (mb+1) (ws.length:Int) (.slice none 0 0) ((val.take 0).map fun s=>Jt s ws) (.slice none 0 0) []from Fm.start (by rw [tL];exact Qz.alloc _) (by omega) (Nat.lt_succ_self _) (by rw [tL,World.size_alloc,cX,<-bD];exact Nat.le_refl _) (by rw [tL,cX,<-bD];exact heap_alloc_new _ _))
 have FQ:=Qq cX;obtain⟨e0,e1,e2,el⟩:=Zy ((iA.out.ext.block (Qn B0.out)).trans B0.out);clear tL bD cX;go_wp2_with fail;clear e0 e1 e2 el;go_loopw [19] (fun v wr=>∃k:Nat,v=.int .i64 (k:Int)/\k<=val.length/\Hid (∃vx,Fm W0 wr mb (mb+1) (ws.length:Int) vx ((val.take k).map fun s=>Jt s ws) (.slice none 0 0) [])) (fun v _=>val.length - (intOf v).toNat)
 case atStart=>exact⟨0,rfl,Nat.zero_le _,Qq ⟨_,iA.out⟩⟩
 case round =>
  clear iA;obtain⟨k,rfl,hk,zY⟩:=hrel;obtain⟨vx,tF⟩:=zY.out;have HI:=Qq tF;have HX:=Qq (X0.out.trans tF.ext);clear zY;by_cases hlt2:k < val.length
  ·have yV:(k:Int) < (val.length:Int):=by omega
   obtain⟨ad,rfl,zV,uG⟩:=HV.out k hlt2;have a0:=(HX.out.cell (p:=ad.add k) (Qj zV)).trans uG;have al:(ad.add k).block < wr.heap.size:=by rw [Qr];exact Qy zV HX.out.size
   have rD:=Qq (show Qm (val.getD k 0)from EG.out _ (by rw [Qk,Qv hlt2];exact List.getElem_mem _));have zD:=Qq (show(val.take (k+1)).map (fun s=>Jt s ws)=(val.take k).map (fun s=>Jt s ws)++ [Jt (val.getD k 0) ws]from by
    rw [Ma hlt2,Qk,Qv hlt2];rfl)
   obtain⟨s,hs⟩:∃s,s=val.getD k 0:=⟨_,rfl⟩;rw [<-hs]at a0 rD zD;obtain⟨vs,gF⟩:∃z,z=(val.take k).map (fun s=>Jt s ws):=⟨_,rfl⟩;have sN:vs.length<=8:=by rw [gF,List.length_map,List.length_take];omega
   rw [<-gF]at HI zD;obtain⟨Ax,cx,rfl⟩:=Qt HI.out.val;obtain⟨pz,pO⟩:∃z,z=Jt s ws:=⟨_,rfl⟩;have eE:=Qq pO;rw [<-pO]at zD;obtain⟨⟨m0,m1,m2⟩,⟨mf0,mf1,mf2⟩,ml⟩:=HI.out.cells;have xS:vs.length+1<=maxLen:=by unfold maxLen;omega
   have xP:(vs.length+1)*8<=140737488355328:=by omega
   clear tF uG hs gF zV pO m0 m2 mf0 mf2;go_upto_region 5 with(fail);clear a0 al;refine Ym 8 (fun w'=>w'.cell? (⟨mb,1,none⟩)=some (.slice Ax vs.length cx)) (by kernel_rfl) (xd ml m1) (fun zZ=> ?_);refine Qo 0 zZ ?_;refine Qo 1 zZ ?_;refine Qo 2 zZ ?_;refine Qo 3 zZ ?_;refine Qe (rs:= [4]) (by kernel_rfl) (by simp) ?_;refine Zj.cons rfl (fun K hK=> ?_) Zj.nil;go_simp;refine(Qnw s rD.out _ ws _ (HN.out.ext (HX.out.trans xv)) eO.out hl).mono ?_;rintro e w6 ⟨rfl,rfl⟩;rw [<-eE.out];go_wp2_with fail;refine hK.out _ _ (xd ml m1) (fun zZ=> ?_);clear hK K
   refine Qb ?_;refine Qe (rs:= [5]) (by kernel_rfl) (by simp) ?_;refine Zj.cons rfl (fun K hK=> ?_) Zj.nil;go_simp;refine hK.out _ _ (xd ml m1) (fun zZ=> ?_);clear hK K;refine Qb ?_;refine Qe (rs:= [6]) (by kernel_rfl) (by simp) ?_;refine Zj.cons rfl (fun K hK=> ?_) Zj.nil;refine Gk rfl (.tmp 24) (.tmp 28) 23 rfl (mb+1) 41 iU (.int .u64 0) 1 8 Tryz.underlying23 sG xF xE xD rfl (by decide) (.slice Ax vs.length cx) vs.length (uV vs) (by simp [Act.eval]) (Zg HI.out.val xv) ⟨wr.heap.size,0,none⟩ 1 1 [.int .u64 (pz:Int)] (by simp [Act.eval]) rfl (by exact Zt _ _ _ (by simp)) (fun u hu=>by rw [List.mem_singleton.1 hu];rfl) xS xP (Qx (show mb+1<=wr.heap.size from ml) (Qg.size (a:=wr) xv)) ?_
   intro v7 w7 zW zX zF;have qQ:=Qq (HI.out.pushVal (show Qg wr _ from xv) zW zX);have fB:=Qq ((zX.block mb (Qy ml (Qg.size (a:=wr) xv)) (fun e=>absurd (World.ownsRow.lt HI.out.val mb e.symm).1 (by omega))).trans ((Qg.block (a:=wr) (k:=mb) xv ml).trans HI.out.cell));obtain⟨⟨_,p1,_⟩,⟨_,pf1,_⟩,pl⟩:=Zc fB.out;obtain⟨A7,c7,qL⟩:=Qt zW;subst qL;clear zW zX zF;refine hK.out _ _ p1 (fun zZ=> ?_);clear hK K;refine Qb ?_;refine Qo 7 zZ ?_;refine Yh (by kernel_rfl) rfl (fun K hK=> ?_);go_simp;refine hK.out _ _ ?_;clear hK K;refine Qb ?_;refine Yc (by kernel_rfl) ?_ _
   go_wp2_with fail;go_roundw
   case rel=>exact⟨k+1,by go_num,by omega,Qq ⟨_,by rw [zD.out];exact qQ.out⟩⟩
   case measure=>simp [intOf];omega
  obtain rfl:val.length=k:=by omega
  rw [List.take_length]at HI;have dP:=HI.out;obtain⟨vals,tR⟩:∃z,z=val.map (fun s=>Jt s ws):=⟨_,rfl⟩;have mD:=Qq tR;rw [<-tR]at HI;obtain⟨e0,e1,e2,el⟩:=Zy (((dP.ext.block (Qn B0.out))).trans B0.out);clear tF dP tR;go_wp2_with fail;clear e0 e1 e2 el;go_loopw [35] (fun v wr=>∃k:Nat,v=.int .i64 (k:Int)/\k<=rel.length/\Hid (∃vy,Fm W0 wr mb (mb+1) (ws.length:Int) vx vals vy ((rel.take k).map fun r=>ws.map fun w=>Jt (r.getD w 0) ws))) (fun v _=>rel.length - (intOf v).toNat)
  case atStart=>exact⟨0,rfl,Nat.zero_le _,Qq ⟨_,HI.out⟩⟩
  case round =>
   clear HI HX;obtain⟨k,rfl,hk,zY⟩:=hrel;obtain⟨vy,tF⟩:=zY.out;have HI:=Qq tF;have HX:=Qq (X0.out.trans tF.ext);clear zY;by_cases hlt2:k < rel.length
   ·have yV:(k:Int) < (rel.length:Int):=by omega
    obtain⟨ad,u,rfl,zV,yU,hu⟩:=HR.out k hlt2;have zD:=Qq (show(rel.take (k+1)).map (fun r=>ws.map fun w=>Jt (r.getD w 0) ws)=(rel.take k).map (fun r=>ws.map fun w=>Jt (r.getD w 0) ws)++ [ws.map fun w=>Jt ((rel.getD k []).getD w 0) ws]from by
     rw [Ma hlt2,Qk (l:=rel),Qv hlt2];rfl)
    have oH:rel.getD k []∈rel:=by rw [Qk,Qv hlt2];exact List.getElem_mem _
    have eC:=Qq (qI.out _ oH);have eA:=Qq (tM.out _ oH);obtain⟨Au,cu,rfl,sO,oF,HU⟩:=Vf hu;have a0:=(HX.out.cell (p:=ad.add k) (Qj zV)).trans yU;have al:(ad.add k).block < wr.heap.size:=by rw [Qr];exact Qy zV HX.out.size
    obtain⟨r,hr⟩:∃r,r=rel.getD k []:=⟨_,rfl⟩;rw [<-hr]at a0 zD eC eA HU;obtain⟨rows,vT⟩:∃z,z=(rel.take k).map (fun r=>ws.map fun w=>Jt (r.getD w 0) ws):=⟨_,rfl⟩;have rA:rows.length<=4:=by rw [vT,List.length_map,List.length_take];omega
    rw [<-vT]at HI zD;obtain⟨wa,xC⟩:∃v,v=wr:=⟨_,rfl⟩;subst xC;clear tF zV yU hu oH vT hr;go_wp2_with fail;clear a0 al;go_loopw [10,41] (fun v vi wr=>∃i:Nat,vi=.int .i64 (i:Int)/\i<=ws.length/\Hid (Qg wa wr/\Zf wa.heap.size wr v ((ws.take i).map fun w=>Jt (r.getD w 0) ws))) (fun _ v _=>ws.length - (intOf v).toNat)
    case atStart=>exact⟨0,rfl,Nat.zero_le _,Qq ⟨Qz,Zf.nil _ _⟩⟩
    case round =>
     obtain⟨i,rfl,hi,zY⟩:=hrel;have wY:=Qq zY.out.1;have vB:=Qq zY.out.2;clear zY;by_cases yW:i < ws.length
     ·have wV:(i:Int) < (ws.length:Int):=by omega
      obtain⟨wd,rfl,jW,tH⟩:=HA.out i yW;have tG:=Qq (HX.out.trans wY.out);have tQ:=Qq (show(ws.take (i+1)).map (fun w=>Jt (r.getD w 0) ws)=(ws.take i).map (fun w=>Jt (r.getD w 0) ws)++ [Jt (r.getD (ws.getD i 0) 0) ws]from by
       rw [Ma yW,Qk (l:=ws),Qv yW];rfl)
      have nG:ws.getD i 0 < r.length:=by
       rw [eC.out];exact hZ.out _ (by rw [Qk,Qv yW];exact List.getElem_mem _)
      obtain⟨q,hq⟩:∃q,q=ws.getD i 0:=⟨_,rfl⟩;rw [<-hq]at tH nG tQ;obtain⟨ud,rfl,wF,RJ⟩:=HU.out q nG;have AD:(q:Int) < (r.length:Int):=by omega
      have rD:=Qq (show Qm (r.getD q 0)from eA.out _ (by rw [Qk,Qv nG];exact List.getElem_mem _));obtain⟨s,hs⟩:∃s,s=r.getD q 0:=⟨_,rfl⟩;rw [<-hs]at RJ rD tQ;obtain⟨pz,pO⟩:∃z,z=Jt s ws:=⟨_,rfl⟩;have eE:=Qq pO;rw [<-pO]at tQ;have b0:=(tG.out.cell (p:=wd.add i) (Qj jW)).trans tH;have bl:(wd.add i).block < wr.heap.size:=by rw [Qr];exact Qy jW tG.out.size
      have c0:=(tG.out.cell (p:=ud.add q) (Qj wF)).trans RJ;have cl:(ud.add q).block < wr.heap.size:=by rw [Qr];exact Qy wF tG.out.size
      obtain⟨out,yF⟩:∃z,z=(ws.take i).map (fun w=>Jt (r.getD w 0) ws):=⟨_,rfl⟩;have sZ:out.length<=64:=by rw [yF,List.length_map,List.length_take];omega
      rw [<-yF]at vB tQ;have xS:out.length+1<=maxLen:=by unfold maxLen;omega
      have xP:(out.length+1)*8<=140737488355328:=by omega
      obtain⟨A1,c1,rfl⟩:=Qt vB.out;clear jW tH hq wF RJ hs pO yF nG;go_wp2_with fail;refine(Qnw s rD.out _ ws _ (HN.out.ext tG.out) eO.out hl).mono ?_;rintro e w6 ⟨rfl,rfl⟩;rw [<-eE.out];go_wp2_with(at_builtin;refine wpList_append_own_at _ rfl _ _ 23 rfl wa.heap.size 41 iU (.int .u64 0) 1 8 Tryz.underlying23 sG xF xE xD rfl (by decide) _ out.length (uV out) rfl (Zg vB.out (Qz.alloc _)) ⟨_,0,none⟩ 1 1 [.int .u64 (pz:Int)] rfl rfl (Zt _ _ _ (by simp)) (fun u hu=>by rw [List.mem_singleton.1 hu];rfl) xS xP (Qx wY.out.size (by simp)) ?_);intro v7 w7 zW zX _ _
      have sL:=Qq (show Qg wa w7 from(wY.out.alloc _).grown zX (fun k hk=>(World.ownsRow.lt vB.out k hk).1));have pL:=Qq (Zf.snoc zW);obtain⟨A7,c7,rfl⟩:=Qt zW;clear zW zX;go_wp2_with fail;go_roundw
      case rel=>exact⟨i+1,by go_num,by omega,Qq ⟨sL.out,by rw [tQ.out];exact pL.out⟩⟩
      case measure=>simp [intOf];omega
     obtain rfl:ws.length=i:=by omega
     rw [List.take_length]at vB;obtain⟨rw1,lP⟩:∃z,z=ws.map (fun w=>Jt (r.getD w 0) ws):=⟨_,rfl⟩;rw [<-lP]at vB zD;have nB:=Qq (HI.out.next wY.out);obtain⟨us,tJ,zR,xQ⟩:=nB.out.rel;have dU:=Qq (show ∀g,vy.ownBlock=some g->g < wa.heap.size from fun g hg=>by obtain⟨us2,_,xT,_⟩:=HI.out.rel;exact(xT.lt g hg).2);have lG:=Qq tJ;have yO:=Qq zR;have oD:=Qq xQ;have RK:us.length<=4:=by rw [tJ];exact rA
     obtain⟨⟨m0,m1,m2⟩,⟨mf0,mf1,mf2⟩,ml⟩:=nB.out.cells;obtain⟨Av2,cv2,rfl⟩:=Qt zR;obtain⟨A1,c1,rfl⟩:=Qt vB.out;have xS:us.length+1<=maxLen:=by unfold maxLen;omega
     have xP:(us.length+1)*24<=140737488355328:=by omega
     clear tJ zR xQ m0 m1 lP rA;obtain⟨wo,bV⟩:∃v,v=wr:=⟨_,rfl⟩;subst bV;go_wp2_with(at_builtin;refine wpList_append_own_at _ rfl _ _ 24 rfl (mb+1) 23 iS (.slice none 0 0) 1 24 Tryz.underlying24 SR jN jM jL rfl (by decide) _ us.length us rfl (Zg yO.out (Qz.alloc _)) ⟨_,0,none⟩ 1 1 [.slice A1 rw1.length c1] rfl rfl (Zt _ _ _ (by simp)) (fun u hu=>by rw [List.mem_singleton.1 hu];rfl) xS xP (Qx (show mb+1<=wo.heap.size from ml) (by simp)) ?_);intro v7 w7 zW zX sF zF;have qQ:=Qq (nB.out.pushRow lG.out yO.out oD.out (Qz.alloc _) (vB.out.low (Nat.succ_le_of_lt HI.out.mlt)) (fun g hg hv=>absurd (dU.out g hv) (by have:=(World.ownsRow.lt vB.out g hg).1;omega)) zW zX (zF.imp_right fun h=>by rw [h];simp))
     obtain⟨⟨p0,p1,p2⟩,⟨pf0,pf1,pf2⟩,pl⟩:=Zc ((zX.block mb (Qy ml ((Qg.refl wo).alloc (.cells #[.slice A1 rw1.length c1] 23)).size) (fun e=>absurd (World.ownsRow.lt yO.out mb e.symm).1 (by omega))).trans ((((Qg.refl wo).alloc (.cells #[.slice A1 rw1.length c1] 23)).block ml).trans nB.out.cell));obtain⟨A7,c7,rfl⟩:=Qt zW;clear zW zX sF zF m2 mf0 mf1 mf2 p0 p1 pf0 pf1;go_wp2_with fail;go_roundw
     case rel=>exact⟨k+1,by go_num,by omega,Qq ⟨_,by rw [zD.out];exact qQ.out⟩⟩
     case measure=>simp [intOf];omega
   obtain rfl:rel.length=k:=by omega
   rw [List.take_length]at HI;obtain⟨us,-,zR,-⟩:=HI.out.rel;obtain⟨Az,cz,rfl⟩:=Qt HI.out.val;obtain⟨Ay,cy,rfl⟩:=Qt zR;clear zR;obtain⟨⟨m0,m1,m2⟩,⟨mf0,mf1,mf2⟩,ml⟩:=HI.out.cells;have wD:=Qq ((tF.ext.block (Qn B1.out)).trans B1.out);obtain⟨⟨q0,q1,q2⟩,⟨f0,f1,f2⟩,ql⟩:=Zc wD.out;have yB:=Qq (show w.heap.size<=b+1 by rw [rX.out];omega);have oC:=Qq (show b+1<=mb by rw [FQ.out];omega);have HE:=Qq (show Vj md ws=⟨(ws.length:Int),vals,rel.map fun r=>ws.map fun w=>Jt (r.getD w 0) ws⟩ by rw [mD.out,dV.out,eD.out];rfl);clear tF;go_wp2_with fail
   (try simp only [Exit.inBlock,Exit.then])
   refine bodyPost_ret (My Tryz.results96 _ _ rfl (Jj (Yn wD.out _ _ _)) Tryz.underlying26 rfl (by kernel_rfl)) rfl ?_;refine⟨_,rfl,fun W hW=> ?_,Yb HX.out yB.out _ _ _⟩;rw [HE.out];have h1:=yB.out;have h2:=oC.out;exact HI.out.mdv ⟨Qx (by simp [World.setCell]) hW.1,fun k hk hl=>(hW.2 k (by omega) (by simpa [World.setCell]using hl)).trans (Kx (fun e=>hk (by rw [e];exact Nat.lt_succ_of_le oC.out)) _ _ _)⟩
theorem Qtt {w:World} {b:Nat} {a v:Value} {t:TypeId}(h:w.heap[b]?=some (.cells #[a] t (0,0))):(w.setCell ⟨b,0,none⟩ v).heap[b]?=some (.cells #[v] t (0,0)):=by
 simp only [World.setCell,Array.getElem?_modify,h,if_true,Option.map_some];simp
theorem Qsw(k n j:Nat):k / 2^(n*j) / 2^n=k / 2^(n*(j+1)):=by
 rw [Nat.div_div_eq_div_mul,<-Nat.pow_add,Nat.mul_add,Nat.mul_one]
structure Dq (w0 wr:World) (b n k j:Nat) (vv:Value) (vals:List Nat) (vr:Value) (rows:List (List Nat)):Prop where
 ar:Fm w0 wr (b+2) (b+4) (n:Int) vv vals vr rows
 rest:wr.heap[b+3]?=some (.cells #[.int .u64 ((k / 2^(n*j):Nat):Int)] 41 (0,0))
 box:wr.cell? ⟨b,0,none⟩=some (.int .i64 (n:Int))
 res:wr.heap[b+1]?=some (.cells #[.int .i64 0,.slice none 0 0,.slice none 0 0] 26 (0,0))
section
variable {w0 wr W:World} {b n k j:Nat} {vv vr:Value} {vals:List Nat} {rows:List (List Nat)}
theorem Dq.next(h:Dq w0 wr b n k j vv vals vr rows)(he:Qg wr W):Dq w0 W b n k j vv vals vr rows :=
 ⟨h.ar.next he,(he.block (Qn h.rest)).trans h.rest,(he.cell (p:=⟨b,0,none⟩) (by have:=Qn h.rest;show b < _;omega)).trans h.box,(he.block (Qn h.res)).trans h.res⟩
theorem Dq.take(h:Dq w0 wr b n k j vv vals vr rows)(h0:w0.heap.size<=b+2):Dq w0 (wr.setCell ⟨b+3,0,none⟩ (.int .u64 ((k / 2^(n*(j+1)):Nat):Int))) b n k (j+1) vv vals vr rows:=by
 have xB:∀q,q≠b+3->(wr.setCell ⟨b+3,0,none⟩ (.int .u64 ((k / 2^(n*(j+1)):Nat):Int))).heap[q]?=wr.heap[q]?:=fun q e=>Below.heap_setCell _ _ _ _ e
 refine⟨h.ar.other (by omega) (by omega) (by omega) _,Qtt h.rest,?_,(xB (b+1) (by omega)).trans h.res⟩;have:=h.box;unfold World.cell? at this⊢;rw [xB b (by omega)];exact this
structure Ct (w0 wa wr:World) (b n k j:Nat):Prop where
 ext:Qg w0 wr
 same:Yv (fun q=>q < b+4) wa wr
 cell:wr.heap[b+2]?=wa.heap[b+2]?
 rest:wr.heap[b+3]?=some (.cells #[.int .u64 ((k / 2^(n*j):Nat):Int)] 41 (0,0))
 box:wr.cell? ⟨b,0,none⟩=some (.int .i64 (n:Int))
 res:wr.heap[b+1]?=some (.cells #[.int .i64 0,.slice none 0 0,.slice none 0 0] 26 (0,0))
theorem Dq.mid(h:Dq w0 wr b n k j vv vals vr rows):Ct w0 wr wr b n k j:=⟨h.ar.ext,⟨Nat.le_refl _,fun _ _ _=>rfl⟩,rfl,h.rest,h.box,h.res⟩
theorem Dq.of_mid {j0:Nat} {wa:World}(h:Dq w0 wa b n k j0 vv vals vr rows)(m:Ct w0 wa wr b n k j):Dq w0 wr b n k j vv vals vr rows:=by
 obtain⟨us,e,xT,ZL⟩:=h.ar.rel
 refine⟨⟨m.ext,h.ar.lo,h.ar.lt,Qx h.ar.top m.same.1,m.cell.trans h.ar.cell,Zp h.ar.val fun q hk=>m.same.2 q (by have:=(World.ownsRow.lt h.ar.val q hk).1;omega) (World.ownsRow.lt h.ar.val q hk).2,
  ⟨us,e,Zp xT fun q hk=>m.same.2 q (by have:=(xT.lt q hk).1;omega) (xT.lt q hk).2,fun i u y hu hy=>(ZL i u y hu hy).next (X':=spa (b+4) vr) ⟨m.same.1,fun q hq hl=>m.same.2 q (fun e=>hq (.inl e)) hl⟩ (fun _ _ h=>h)⟩,h.ar.dr⟩,m.rest,m.box,m.res⟩
section
variable {wa:World}
theorem Ct.next(h:Ct w0 wa wr b n k j)(hl:b+4<=wa.heap.size)(he:Qg wr W):Ct w0 wa W b n k j:=by
 have hs:=h.same.1;exact⟨h.ext.trans he,⟨Qx hs he.size,fun q h1 h2=>(he.block (Qy h2 hs)).trans (h.same.2 q h1 h2)⟩,(he.block (by omega)).trans h.cell,(he.block (by omega)).trans h.rest,(he.cell (p:=⟨b,0,none⟩) (show b < _ by omega)).trans h.box,(he.block (by omega)).trans h.res⟩
theorem Ct.take(h:Ct w0 wa wr b n k j)(h0:w0.heap.size<=b+3):Ct w0 wa (wr.setCell ⟨b+3,0,none⟩ (.int .u64 ((k / 2^(n*(j+1)):Nat):Int))) b n k (j+1):=by
 have xB:∀q,q≠b+3->(wr.setCell ⟨b+3,0,none⟩ (.int .u64 ((k / 2^(n*(j+1)):Nat):Int))).heap[q]?=wr.heap[q]?:=fun q e=>Below.heap_setCell _ _ _ _ e
 refine⟨h.ext.setCell (p:=⟨b+3,0,none⟩) h0 _,⟨Qx h.same.1 (by simp [World.setCell]),fun q h1 h2=>(xB q (by omega)).trans (h.same.2 q h1 h2)⟩,(xB _ (by omega)).trans h.cell,Qtt h.rest,?_,(xB _ (by omega)).trans h.res⟩;have:=h.box;unfold World.cell? at this⊢;rw [xB b (by omega)];exact this
theorem Ct.grow(h:Ct w0 wa wr b n k j)(hl:b+4<=wa.heap.size)(hw:w0.heap.size<=b+3) {g:Option Nat}(hg:wr.grownBy W g)(hq:∀q,g=some q->wa.heap.size<=q):Ct w0 wa W b n k j:=by
 have yX:∀q,q < wa.heap.size->W.heap[q]?=wr.heap[q]?:=fun q h1=>hg.block q (Qy h1 h.same.1) (fun e=>by have:=hq q e.symm;omega)
 refine⟨h.ext.grown hg (fun q e=>by have:=hq q e;omega),⟨Qx h.same.1 hg.size,fun q h1 h2=>(yX q h2).trans (h.same.2 q h1 h2)⟩,(yX _ (by omega)).trans h.cell,(yX _ (by omega)).trans h.rest,?_,(yX _ (by omega)).trans h.res⟩;have:=h.box;unfold World.cell? at this⊢;rw [yX b (by omega)];exact this
end
theorem Dq.pushVal {w7 W6:World} {v7:Value} {s:Nat}(h:Dq w0 wr b n k j vv vals (.slice none 0 0) [])(uP:Qg wr W6)
 (ho:w7.ownsRow (b+4) 41 1 v7 (vals.length+1) (uV vals++ [.int .u64 (s:Int)]))(tW:W6.grownBy w7 vv.ownBlock):
 Dq w0 (w7.setCell ⟨b+2,1,none⟩ v7) b n k j v7 (vals++ [s]) (.slice none 0 0) []:=by
 have h6:=h.next uP;have sN:=fun q hk=>(World.ownsRow.lt h6.ar.val q hk)
 have yX:∀q,q < b+4->q < W6.heap.size->q≠b+2->(w7.setCell ⟨b+2,1,none⟩ v7).heap[q]?=W6.heap[q]?:=fun q h1 h2 h3 =>
  (Below.heap_setCell _ _ _ _ h3).trans (tW.block q h2 (fun e=>by have:=(sN q e.symm).1;omega))
 have hl:=Qn h6.rest;refine⟨h.ar.pushVal uP ho tW,(yX _ (by omega) hl (by omega)).trans h6.rest,?_,(yX _ (by omega) (Qn h6.res) (by omega)).trans h6.res⟩;have:=h6.box;unfold World.cell? at this⊢;rw [yX b (by omega) (by omega) (by omega)];exact this
theorem Dq.pushRow {w7 W6:World} {v7 u:Value} {r:List Nat} {us:List Value}(h:Dq w0 wr b n k j vv vals vr rows)(e:us.length=rows.length)(xT:wr.ownsRow (b+4) 23 1 vr us.length us)
 (ZL:∀(k:Nat) u r,us[k]?=some u->rows[k]?=some r->Vs (spa (b+4) vr) wr (fun w'=>Jn w' u r))(WA:Qg wr W6)(hu:Zf (b+4) wr u r)(zQ:∀g,u.ownBlock=some g->vr.ownBlock≠some g)
 (ho:w7.ownsRow (b+4) 23 1 v7 (us.length+1) (us++ [u]))(tW:W6.grownBy w7 vr.ownBlock)(dR:v7.ownBlock=vr.ownBlock\/v7.ownBlock=some W6.heap.size):
 Dq w0 (w7.setCell ⟨b+2,2,none⟩ v7) b n k j vv vals v7 (rows++ [r]):=by
 have h6:=h.next WA;have yX:∀q,q < b+4->q < W6.heap.size->q≠b+2->(w7.setCell ⟨b+2,2,none⟩ v7).heap[q]?=W6.heap[q]?:=fun q h1 h2 h3 =>
  (Below.heap_setCell _ _ _ _ h3).trans (tW.block q h2 (fun e=>by have:=(xT.lt q e.symm).1;omega))
 have hl:=Qn h6.rest;refine⟨h.ar.pushRow e xT ZL WA hu zQ ho tW dR,(yX _ (by omega) hl (by omega)).trans h6.rest,?_,(yX _ (by omega) (Qn h6.res) (by omega)).trans h6.res⟩;have:=h6.box;unfold World.cell? at this⊢;rw [yX b (by omega) (by omega) (by omega)];exact this
end
theorem Qjc(n a v k:Nat)(w:World)(oW:1<=n)(hn:n<=64)(ha:a<=4)(hv:v<=8)(hl:Yd n a v<=12)(hk:k < 2^Yd n a v):
 Calls Tryz.prog 89 #[.int .i64 (n:Int),.int .i64 (a:Int),.int .i64 (v:Int),.int .i64 (k:Int)] w fun e w'=>∃u,e=.returned u/\Vs (fun q=>q < w.heap.size) w' (fun W=>Jk W u (Bl n a v k))/\Qg w w':=by
 have hk12:k < 4096:=Qy hk (show 2^Yd n a v<=2^12 from Nat.pow_le_pow_right (by decide) hl);have XO:=Qq (show v≠0\/a≠0->n < 64 from fun h=>by
  unfold Yd at hl;rcases h with h|h
  ·have:n*1<=n*v:=Nat.mul_le_mul_left n (by omega);omega
  have h1:n*n*1<=n*n*a:=Nat.mul_le_mul_left _ (by omega);have h2:n*1<=n*n:=Nat.mul_le_mul_left n oW
  omega)
 have U4:=Qq (fun j:Nat=>show Qm (k / 2^(n*j))from Nat.lt_of_le_of_lt (Nat.div_le_self _ _) (by show k < _;omega));obtain⟨iU,sG,xF,xE,xD⟩:=info_parts Dx;obtain⟨iS,SR,jN,jM,jL⟩:=info_parts Qkh;have M2:IntKind.u64.wrap (k:Int)=(k:Int):=by rw [IntKind.wrap_u64];omega
 obtain⟨b,hb⟩:∃b,b=w.heap.size:=⟨_,rfl⟩;have yB:=Qq (show w.heap.size<=b by omega);have oC:=Qq (show w.heap.size<=b+2 by omega);clear hk hl;go_enter Tryz.func89,Tryz.ntmps89;go_upto_region 3 with(fail);rw [<-hb,show b+1+1+1=b+3 from rfl,show b+1+1=b+2 from rfl];obtain⟨w1,tI⟩:∃z,z=w.alloc (.cells #[.int .i64 (n:Int)] 3):=⟨_,rfl⟩;obtain⟨w2,mN⟩:∃z,z=w1.alloc (.cells #[.int .i64 0,.slice none 0 0,.slice none 0 0] 26):=⟨_,rfl⟩;obtain⟨w3,iH⟩:∃z,z=w2.alloc (.cells #[.int .i64 (n:Int),.slice none 0 0,.slice none 0 0] 26):=⟨_,rfl⟩;obtain⟨W1,tL⟩:∃z,z=w3.alloc (.cells #[.int .u64 (k:Int)] 41):=⟨_,rfl⟩
 have s1:w1.heap.size=b+1:=by rw [tI,hb];simp
 have s2:w2.heap.size=b+2:=by rw [mN,World.size_alloc,s1]
 have s3:w3.heap.size=b+3:=by rw [iH,World.size_alloc,s2]
 have s4:W1.heap.size=b+4:=by rw [tL,World.size_alloc,s3]
 have x1:Qg w w1:=by rw [tI];exact Qz.alloc _
 have x2:Qg w1 w2:=by rw [mN];exact Qz.alloc _
 have x3:Qg w2 w3:=by rw [iH];exact Qz.alloc _
 have x4:Qg w3 W1:=by rw [tL];exact Qz.alloc _
 have c1:w1.heap[b]?=some (.cells #[.int .i64 (n:Int)] 3 (0,0)):=by rw [tI,hb];exact heap_alloc_new _ _
 have c2:w2.heap[b+1]?=some (.cells #[.int .i64 0,.slice none 0 0,.slice none 0 0] 26 (0,0)):=by rw [mN,<-s1];exact heap_alloc_new _ _
 have c3:w3.heap[b+2]?=some (.cells #[.int .i64 (n:Int),.slice none 0 0,.slice none 0 0] 26 (0,0)):=by rw [iH,<-s2];exact heap_alloc_new _ _
 have c4:W1.heap[b+3]?=some (.cells #[.int .u64 (k:Int)] 41 (0,0)):=by rw [tL,<-s3];exact heap_alloc_new _ _
 have iA:=Qq (show Dq w W1 b n k 0 (.slice none 0 0) ((List.range 0).map fun i=>Gf n k i) (.slice none 0 0) []from
  ⟨Fm.start (x1.trans (x2.trans (x3.trans x4))) (by omega) (by omega) (by omega) ((x4.block (by omega)).trans c3),by rw [Nat.mul_zero,Nat.pow_zero,Nat.div_one];exact c4,by
   have h:=((x2.trans (x3.trans x4)).block (k:=b) (by omega)).trans c1;simp [World.cell?,h],((x3.trans x4).block (by omega)).trans c2⟩)
 rw [<-tI,<-mN,<-iH,<-tL];clear tI mN iH tL s1 s2 s3 s4 x1 x2 x3 x4 c1 c2 c3 c4 hb;go_wp2_with fail;go_loopw [19] (fun v' wr=>∃j:Nat,v'=.int .i64 (j:Int)/\j<=v/\Hid (∃vx,Dq w wr b n k j vx ((List.range j).map fun i=>Gf n k i) (.slice none 0 0) [])) (fun v' _=>v - (intOf v').toNat)
 case atStart=>exact⟨0,rfl,Nat.zero_le _,Qq ⟨_,iA.out⟩⟩
 case round =>
  clear iA;obtain⟨j,rfl,hj,zY⟩:=hrel;obtain⟨vx,mS⟩:=zY.out;have HI:=Qq mS;clear zY;by_cases hlt2:j < v
  ·have yV:(j:Int) < (v:Int):=by omega
   have FN:=Qq (XO.out (.inl (by omega)));have zD:=Qq (show(List.range (j+1)).map (fun i=>Gf n k i)=(List.range j).map (fun i=>Gf n k i)++ [Gf n k j]from by rw [List.range_succ,List.map_append];rfl);obtain⟨vs,gF⟩:∃z,z=(List.range j).map (fun i=>Gf n k i):=⟨_,rfl⟩;have sN:vs.length<=8:=by rw [gF,List.length_map,List.length_range];omega
   rw [<-gF]at HI zD;obtain⟨Ax,cx,rfl⟩:=Qt HI.out.ar.val;obtain⟨pz,pO⟩:∃z,z=Gf n k j:=⟨_,rfl⟩;have eE:=Qq (show k / 2^(n*j) % 2^n=pz from pO.symm);rw [<-pO]at zD;obtain⟨⟨m0,m1,m2⟩,⟨mf0,mf1,mf2⟩,ml⟩:=HI.out.ar.cells;have xS:vs.length+1<=maxLen:=by unfold maxLen;omega
   have xP:(vs.length+1)*8<=140737488355328:=by omega
   have xL:b < wr.heap.size:=by omega
   clear mS gF pO m0 m2 mf0 mf2;go_upto_region 6 with(fail);refine Ym 7 (fun w'=>w'.cell? (⟨b+2,1,none⟩)=some (.slice Ax vs.length cx)) (by kernel_rfl) (xd ml m1) (fun zZ=> ?_);refine Qo 0 zZ ?_;refine Qo 1 zZ ?_;refine Qo 2 zZ ?_;refine Qe (rs:= [3]) (by kernel_rfl) (by simp) ?_;refine Zj.cons rfl (fun K hK=> ?_) Zj.nil;go_simp;refine(Qrk (b+3) b n _ _ FN.out (U4.out j) (HI.out.next (W:=wr.drew) xv).rest (HI.out.next (W:=wr.drew) xv).box (by first|exact xL|(simp;omega))).mono ?_;rintro e w6 ⟨rfl,W,RD,CG,mM⟩;subst mM;rw [eE.out,Qsw];have bO:=Qq ((HI.out.next (Qg.trans xv RD)).take oC.out)
   obtain⟨w6,mM⟩:∃z,z=W.setCell ⟨b+3,0,none⟩ (.int .u64 ((k / 2^(n*(j+1)):Nat):Int)):=⟨_,rfl⟩;rw [<-mM]at bO⊢;obtain⟨⟨_,m61,_⟩,_,ml6⟩:=bO.out.ar.cells;have pB:=Qq (show b+4<=w6.heap.size from bO.out.ar.top);clear mM RD CG;go_wp2_with fail;refine hK.out _ _ m61 (fun zZ=> ?_);clear hK K;refine Qb ?_;refine Qe (rs:= [4]) (by kernel_rfl) (by simp) ?_;refine Zj.cons rfl (fun K hK=> ?_) Zj.nil;go_simp;refine hK.out _ _ (xd ml6 m61) (fun zZ=> ?_);clear hK K;refine Qb ?_;refine Qe (rs:= [5]) (by kernel_rfl) (by simp) ?_;refine Zj.cons rfl (fun K hK=> ?_) Zj.nil;refine Gk rfl (.tmp 22) (.tmp 25) 23 rfl (b+4) 41 iU (.int .u64 0) 1 8 Tryz.underlying23 sG xF xE xD rfl (by decide) (.slice Ax vs.length cx) vs.length (uV vs) (by simp [Act.eval]) (Zg bO.out.ar.val xv) ⟨w6.heap.size,0,none⟩ 1 1 [.int .u64 (pz:Int)] (by simp [Act.eval]) rfl (by exact Zt _ _ _ (by simp)) (fun u hu=>by rw [List.mem_singleton.1 hu];rfl) xS xP (Qx pB.out (Qg.size (a:=w6) xv)) ?_
   intro v7 w7 zW zX zF;have qQ:=Qq (bO.out.pushVal (show Qg w6 _ from xv) zW zX);have fB:=Qq ((zX.block (b+2) (Qy ml6 (Qg.size (a:=w6) xv)) (fun e=>absurd (World.ownsRow.lt bO.out.ar.val (b+2) e.symm).1 (by omega))).trans ((Qg.block (a:=w6) (k:=b+2) xv ml6).trans bO.out.ar.cell));obtain⟨⟨_,p1,_⟩,⟨_,pf1,_⟩,pl⟩:=Zc fB.out;obtain⟨A7,c7,qL⟩:=Qt zW;subst qL;clear zW zX zF;refine hK.out _ _ p1 (fun zZ=> ?_);clear hK K;refine Qb ?_;refine Qo 6 zZ ?_;refine Yh (by kernel_rfl) rfl (fun K hK=> ?_);go_simp;refine hK.out _ _ ?_;clear hK K
   refine Qb ?_;refine Yc (by kernel_rfl) ?_ _;go_wp2_with fail;go_roundw
   case rel=>exact⟨j+1,by go_num,by omega,Qq ⟨_,by rw [zD.out];exact qQ.out⟩⟩
   case measure=>simp [intOf] <;> omega
  obtain rfl:v=j:=by omega
  obtain⟨vals,tR⟩:∃z,z=(List.range v).map (fun i=>Gf n k i):=⟨_,rfl⟩;have mD:=Qq tR;rw [<-tR]at HI;clear mS tR;go_wp2_with fail;go_loopw [30] (fun v' wr=>∃i:Nat,v'=.int .i64 (i:Int)/\i<=a/\Hid (∃vy,Dq w wr b n k (v+n*i) vx vals vy ((List.range i).map fun q=>(List.range n).map fun u=>Gf n k (v+(n*q+u))))) (fun v' _=>a - (intOf v').toNat)
  case atStart=>exact⟨0,rfl,Nat.zero_le _,Qq ⟨_,by rw [Nat.mul_zero,Nat.add_zero];exact HI.out⟩⟩
  case round =>
   clear HI;obtain⟨i,rfl,hi,zY⟩:=hrel;obtain⟨vy,mS⟩:=zY.out;have HI:=Qq mS;clear zY;by_cases hlt2:i < a
   ·have yV:(i:Int) < (a:Int):=by omega
    have FN:=Qq (XO.out (.inr (by omega)));have zD:=Qq (show(List.range (i+1)).map (fun q=>(List.range n).map fun u=>Gf n k (v+(n*q+u)))=(List.range i).map (fun q=>(List.range n).map fun u=>Gf n k (v+(n*q+u)))++ [(List.range n).map fun u=>Gf n k (v+(n*i+u))]from by rw [List.range_succ,List.map_append];rfl);obtain⟨rows,vT⟩:∃z,z=(List.range i).map (fun q=>(List.range n).map fun u=>Gf n k (v+(n*q+u))):=⟨_,rfl⟩;have rA:rows.length<=4:=by rw [vT,List.length_map,List.length_range];omega
    rw [<-vT]at HI zD;have dU:=Qq (show ∀g,vy.ownBlock=some g->g < wr.heap.size from fun g hg=>by obtain⟨us2,_,xT,_⟩:=HI.out.ar.rel;exact(xT.lt g hg).2);have wC:=Qq HI.out.box;have c0:=wC.out;have xL:b < wr.heap.size:=by have:=HI.out.ar.mlt;omega
    have dY:=Qq HI.out.ar.top;obtain⟨wa,xC⟩:∃v,v=wr:=⟨_,rfl⟩;subst xC;clear mS vT;go_wp2_with fail;clear c0;go_loopw [12,33] (fun v12 vi wr=>∃u:Nat,vi=.int .i64 (u:Int)/\u<=n/\Hid (Ct w wa wr b n k (v+(n*i+u))/\Zf wa.heap.size wr v12 ((List.range u).map fun u=>Gf n k (v+(n*i+u))))) (fun _ vi _=>n - (intOf vi).toNat)
    case atStart=>exact⟨0,rfl,Nat.zero_le _,Qq ⟨HI.out.mid,Zf.nil _ _⟩⟩
    case round =>
     obtain⟨u,rfl,hu,zY⟩:=hrel;obtain⟨mS,sJ⟩:=zY.out;have uC:=Qq mS;have ZS:=Qq mS.same.1;have vB:=Qq sJ;clear zY;by_cases yW:u < n
     ·have wV:(u:Int) < (n:Int):=by omega
      have tQ:=Qq (show(List.range (u+1)).map (fun u=>Gf n k (v+(n*i+u)))=(List.range u).map (fun u=>Gf n k (v+(n*i+u)))++ [Gf n k (v+(n*i+u))]from by rw [List.range_succ,List.map_append];rfl);obtain⟨out,yF⟩:∃z,z=(List.range u).map (fun u=>Gf n k (v+(n*i+u))):=⟨_,rfl⟩;have sZ:out.length<=64:=by rw [yF,List.length_map,List.length_range];omega
      rw [<-yF]at vB tQ;obtain⟨pz,pO⟩:∃z,z=Gf n k (v+(n*i+u)):=⟨_,rfl⟩;have eE:=Qq (show k / 2^(n*(v+(n*i+u))) % 2^n=pz from pO.symm);rw [<-pO]at tQ;have xS:out.length+1<=maxLen:=by unfold maxLen;omega
      have xP:(out.length+1)*8<=140737488355328:=by omega
      obtain⟨A1,c1,rfl⟩:=Qt vB.out;have rO:b < wr.heap.size:=by have:=Qn mS.rest;omega
      clear mS sJ yF pO;go_wp2_with fail;refine(Qrk (b+3) b n _ _ FN.out (U4.out (v+(n*i+u))) uC.out.rest uC.out.box rO).mono ?_;rintro e w6 ⟨rfl,W,RD,CG,rfl⟩;rw [eE.out,Qsw];have bO:=Qq ((uC.out.next dY.out RD).take (Nat.le_succ_of_le oC.out));have bM:=Qq (show Zf wa.heap.size (W.setCell ⟨b+3,0,none⟩ (.int .u64 ((k / 2^(n*(v+(n*i+u)+1)):Nat):Int))) (.slice A1 out.length c1) out from Zp (vB.out.ext RD) fun q hq=>Below.heap_setCell _ _ _ _ (show q≠b+3 by have:=(World.ownsRow.lt vB.out q hq).1;have:=dY.out;omega));obtain⟨w6,mM⟩:∃z,z=W.setCell ⟨b+3,0,none⟩ (.int .u64 ((k / 2^(n*(v+(n*i+u)+1)):Nat):Int)):=⟨_,rfl⟩
      have pB:=Qq (show wr.heap.size<=w6.heap.size by rw [mM];simp only [World.setCell,Array.size_modify];exact RD.size);rw [<-mM]at bO bM⊢;clear mM RD CG;go_wp2_with(at_builtin;refine wpList_append_own_at _ rfl _ _ 23 rfl wa.heap.size 41 iU (.int .u64 0) 1 8 Tryz.underlying23 sG xF xE xD rfl (by decide) _ out.length (uV out) rfl (Zg bM.out (Qz.alloc _)) ⟨_,0,none⟩ 1 1 [.int .u64 (pz:Int)] rfl rfl (Zt _ _ _ (by simp)) (fun u hu=>by rw [List.mem_singleton.1 hu];rfl) xS xP (Qx (Qx ZS.out pB.out) (by simp)) ?_);intro v7 w7 zW zX _ _;have pL:=Qq (Zf.snoc zW)
      have I3:=Qq ((bO.out.next dY.out (Qz.alloc (.cells #[.int .u64 (pz:Int)] 41))).grow dY.out (Nat.le_succ_of_le oC.out) zX (fun q hq=>(World.ownsRow.lt bM.out q hq).1));obtain⟨A7,c7,rfl⟩:=Qt zW;clear zW zX;go_wp2_with fail;go_roundw
      case rel=>exact⟨u+1,by go_num,by omega,Qq ⟨I3.out,by rw [tQ.out];exact pL.out⟩⟩
      case measure=>simp [intOf] <;> omega
     obtain rfl:n=u:=by omega
     obtain⟨rw1,lP⟩:∃z,z=(List.range n).map (fun u=>Gf n k (v+(n*i+u))):=⟨_,rfl⟩;rw [<-lP]at vB zD;have nB:=Qq (HI.out.of_mid uC.out);obtain⟨us,tJ,zR,xQ⟩:=nB.out.ar.rel;have lG:=Qq tJ;have yO:=Qq zR;have oD:=Qq xQ;have RK:us.length<=4:=by rw [tJ];exact rA
     obtain⟨⟨m0,m1,m2⟩,⟨mf0,mf1,mf2⟩,ml⟩:=nB.out.ar.cells;obtain⟨Av2,cv2,rfl⟩:=Qt zR;obtain⟨A1,c1,rfl⟩:=Qt vB.out;have xS:us.length+1<=maxLen:=by unfold maxLen;omega
     have xP:(us.length+1)*24<=140737488355328:=by omega
     have fV:=Qq (show b+4<=wr.heap.size from nB.out.ar.top);clear tJ zR xQ m0 m1 lP rA mS sJ;go_wp2_with(at_builtin;refine wpList_append_own_at _ rfl _ _ 24 rfl (b+4) 23 iS (.slice none 0 0) 1 24 Tryz.underlying24 SR jN jM jL rfl (by decide) _ us.length us rfl (Zg yO.out (Qz.alloc _)) ⟨_,0,none⟩ 1 1 [.slice A1 rw1.length c1] rfl rfl (Zt _ _ _ (by simp)) (fun u hu=>by rw [List.mem_singleton.1 hu];rfl) xS xP (Qx fV.out (by simp)) ?_);intro v7 w7 zW zX sF zF;have qQ:=Qq (nB.out.pushRow lG.out yO.out oD.out (Qz.alloc _) (vB.out.low dY.out) (fun g hg hv=>absurd (dU.out g hv) (by have:=(World.ownsRow.lt vB.out g hg).1;omega)) zW zX (zF.imp_right fun h=>by rw [h];simp))
     obtain⟨⟨p0,p1,p2⟩,⟨pf0,pf1,pf2⟩,pl⟩:=Zc ((zX.block (b+2) (Qy ml ((Qg.refl wr).alloc (.cells #[.slice A1 rw1.length c1] 23)).size) (fun e=>absurd (World.ownsRow.lt yO.out (b+2) e.symm).1 (by omega))).trans ((((Qg.refl wr).alloc (.cells #[.slice A1 rw1.length c1] 23)).block ml).trans nB.out.ar.cell));obtain⟨A7,c7,rfl⟩:=Qt zW;clear zW zX sF zF m2 mf0 mf1 mf2 p0 p1 pf0 pf1;go_wp2_with fail;go_roundw
     case rel=>exact⟨i+1,by go_num,by omega,Qq ⟨_,by rw [zD.out,Nat.mul_add,Nat.mul_one];exact qQ.out⟩⟩
     case measure=>simp [intOf] <;> omega
   obtain rfl:a=i:=by omega
   obtain⟨us,-,zR,-⟩:=HI.out.ar.rel;obtain⟨Az,cz,rfl⟩:=Qt HI.out.ar.val;obtain⟨Ay,cy,rfl⟩:=Qt zR;obtain⟨⟨m0,m1,m2⟩,⟨mf0,mf1,mf2⟩,ml⟩:=HI.out.ar.cells;obtain⟨⟨q0,q1,q2⟩,⟨f0,f1,f2⟩,ql⟩:=Zc HI.out.res;have HE:=Qq (show Bl n a v k=⟨(n:Int),vals,(List.range a).map fun q=>(List.range n).map fun u=>Gf n k (v+(n*q+u))⟩ by rw [mD.out];rfl);clear mS zR;go_wp2_with fail
   (try simp only [Exit.inBlock,Exit.then])
   refine bodyPost_ret (My Tryz.results89 _ _ rfl (Jj (Yn HI.out.res _ _ _)) Tryz.underlying26 rfl (by kernel_rfl)) rfl ?_;refine⟨_,rfl,fun W hW=> ?_,Yb HI.out.ar.ext (by have:=yB.out;omega) _ _ _⟩;rw [HE.out];have h1:=yB.out;exact HI.out.ar.mdv ⟨Qx (by simp [World.setCell]) hW.1,fun k hk hl=>(hW.2 k (by omega) (by simpa [World.setCell]using hl)).trans (Kx (by omega) _ _ _)⟩
def Gw(md:Md)(s:Nat):Int:=if Qa md≠0 then Qa md else if Jr s (Zk md.n.toNat)=false then 2 else if s=0 then 6 else 0
def Cw(md:Md)(s:Nat):Md:=if Gw md s=0 then Vj md (Za s)else⟨0,[],[]⟩
def Ce(md:Md)(s:Nat):List Nat:=if Gw md s=0 then Za s else []
theorem Gs(w:World):Jk w (.agg #[.int .i64 0,.slice none 0 0,.slice none 0 0]) ⟨0,[],[]⟩:=
 ⟨_,_,rfl,Qko w,⟨none,0,rfl,Nat.le_refl _,by unfold maxLen;omega,fun h=>absurd rfl h⟩⟩
theorem Qn2(vm:Value)(md:Md)(s:Nat)(w:World)(hs:Qm s)(hT:Kb w)(hm:Jk w vm md)(zP:md.ok):
 Calls Tryz.prog 36 #[vm,.int .u64 (s:Int)] w fun e w'=>∃vr vl,e=.returned (.tuple #[vr,vl,.int .i64 (Gw md s)])/\Qg w w'/\Vs (fun k=>k < w.heap.size) w' (fun W=>Jk W vr (Cw md s)/\Mk W vl (Ce md s)):=by
 have HM:=Qq hm;have HS:=Qq hs;have HT:=Qq hT;have zE:=Qq zP;obtain⟨vv,vr,rfl,⟨Av,cv,rfl,_⟩,⟨Ar,cr,rfl,_⟩⟩:=hm;obtain⟨n,hn⟩:∃n,n=md.n:=⟨_,rfl⟩;have HN:=Qq hn;rw [<-hn]at HM⊢;obtain⟨rE,RT⟩:∃z,z=Gw md s:=⟨_,rfl⟩;have uB:=Qq RT;rw [<-RT];obtain⟨ck,zU⟩:∃z,z=Qa md:=⟨_,rfl⟩;have yD:=Qq zU;obtain⟨W0,zK⟩:∃W,W=(w.alloc (.cells #[.int .i64 n,.slice Av md.val.length cv,.slice Ar md.rel.length cr] 26)).alloc (.cells #[.int .i64 0,.slice none 0 0,.slice none 0 0] 26):=⟨_,rfl⟩;have X0:=Qq (show Qg w W0 by rw [zK];exact(Qz.alloc _).alloc _);obtain⟨b,hb⟩:∃b,b=w.heap.size:=⟨_,rfl⟩;have B0:=Qq (show W0.heap[b]?=some (.cells #[.int .i64 n,.slice Av md.val.length cv,.slice Ar md.rel.length cr] 26 (0,0)) by rw [zK,hb];exact((Qz.alloc _).block (by simp)).trans (heap_alloc_new _ _))
 have B1:=Qq (show W0.heap[b+1]?=some (.cells #[.int .i64 0,.slice none 0 0,.slice none 0 0] 26 (0,0)) by
  have h1:=heap_alloc_new (w.alloc (.cells #[.int .i64 n,.slice Av md.val.length cv,.slice Ar md.rel.length cr] 26)) (.cells #[.int .i64 0,.slice none 0 0,.slice none 0 0] 26);rw [zK,hb]
  simpa using h1)
 have yB:=Qq (show w.heap.size<=b+1 by omega);clear hs hT zP hn RT zU;obtain⟨e0,e1,e2,el⟩:=Zy B0.out;go_enter Tryz.func36,Tryz.ntmps36;go_upto_region 1 with(fail);rw [<-zK,<-hb];clear zK hb;go_wp2_with fail;refine(Xa _ md _ (HM.out.ext X0.out) zE.out).mono ?_;rintro e w1 ⟨rfl,hx⟩;rw [<-yD.out];have zO:=Qq hx;have wD:=Qq ((hx.block (Qn B1.out)).trans B1.out);obtain⟨⟨q0,q1,q2⟩,⟨f0,f1,f2⟩,ql⟩:=Zc wD.out;clear hx e0 e1 e2 el;by_cases hz:ck=0
 case neg =>
  have zQ:(ck !=0)=true:=by simpa using hz
  have HE:=Qq (show rE=ck by rw [uB.out,yD.out];unfold Gw;rw [if_pos (by rw [<-yD.out];exact hz)]);have HZ:=Qq (show Gw md s≠0 by rw [<-uB.out,HE.out];exact hz);clear hz;go_wp2_with fail
  (try simp only [Exit.inBlock,Exit.then])
  refine bodyPost_ret (Jd Tryz.results36 _ _ rfl (Jj (Yn wD.out _ _ _)) Tryz.underlying26 rfl (by kernel_rfl)) rfl ?_;exact⟨_,_,by rw [HE.out] <;> rfl,Yb (X0.out.trans zO.out) yB.out _ _ _,fun W _=>by unfold Cw Ce;rw [if_neg HZ.out,if_neg HZ.out];exact⟨Gs _,Mw _⟩⟩
 subst hz;have zU:=yD.out.symm;obtain⟨wU,yZ,_⟩:=Zv zU;obtain⟨N,rP⟩:=Int.eq_ofNat_of_zero_le (show 0<=n by rw [HN.out];omega);have vJ:=Qq (show md.n.toNat=N by rw [<-HN.out,rP];exact Int.toNat_natCast N);have yC:N<=64:=by have:=HN.out;omega
 have uI:=Qq (show rE=if Jr s (Zk N)=false then 2 else if s=0 then 6 else 0 by rw [uB.out];unfold Gw;rw [if_neg (by rw [zU];simp),vJ.out]);subst rP;have yH:=Yg HS.out (Yk yC);have rC:=Rr (a:=s) (b:=Zk N);obtain⟨d,hd⟩:∃d,d=Zl s (Zk N):=⟨_,rfl⟩;rw [<-hd]at yH rC;obtain⟨e0,e1,e2,el⟩:=Zy ((zO.out.block (Qn B0.out)).trans B0.out);clear zU wU yZ hd;go_wp2_with fail;refine(Qq7 N yC _).mono ?_;rintro e w2 ⟨rfl,rfl⟩;cases hsb:Jr s (Zk N)
 ·rw [hsb]at rC uI;have zQ:((d:Int) !=0)=true:=by
   have:d≠0:=by intro e;rw [e]at rC;cases rC
   simp;omega
  have HE:=Qq (show rE=2 by rw [uI.out,if_pos rfl]);have HZ:=Qq (show Gw md s≠0 by rw [<-uB.out,HE.out];decide);clear rC hsb;go_wp2_with fail
  (try simp only [Exit.inBlock,Exit.then])
  refine bodyPost_ret (Jd Tryz.results36 _ _ rfl (Jj (Yn wD.out _ _ _)) Tryz.underlying26 rfl (by kernel_rfl)) rfl ?_;exact⟨_,_,by rw [HE.out] <;> rfl,Yb (X0.out.trans zO.out) yB.out _ _ _,fun W _=>by unfold Cw Ce;rw [if_neg HZ.out,if_neg HZ.out];exact⟨Gs _,Mw _⟩⟩
 rw [hsb]at rC uI;rw [if_neg (by simp)]at uI;have nP:d=0:=by simpa using rC
 subst nP;have fV:=Qq hsb;clear rC hsb;by_cases sI:s=0
 ·have zQ:((s:Int)==0)=true:=by rw [sI];rfl
  have HE:=Qq (show rE=6 by rw [uI.out,if_pos sI]);have HZ:=Qq (show Gw md s≠0 by rw [<-uB.out,HE.out];decide);clear sI;go_wp2_with fail
  (try simp only [Exit.inBlock,Exit.then])
  refine bodyPost_ret (Jd Tryz.results36 _ _ rfl (Jj (Yn wD.out _ _ _)) Tryz.underlying26 rfl (by kernel_rfl)) rfl ?_;exact⟨_,_,by rw [HE.out] <;> rfl,Yb (X0.out.trans zO.out) yB.out _ _ _,fun W _=>by unfold Cw Ce;rw [if_neg HZ.out,if_neg HZ.out];exact⟨Gs _,Mw _⟩⟩
 have zQ:((s:Int)==0)=false:=by rw [beq_eq_false_iff_ne];omega
 have HE:=Qq (show rE=0 by rw [uI.out,if_neg sI]);have HZ:=Qq (show Gw md s=0 by rw [<-uB.out,HE.out]);clear sI e0 e1 e2 el q0 q1 q2 f0 f1 f2 ql;go_wp2_with fail;refine(Qr6 s HS.out _ (HT.out.ext (X0.out.trans zO.out))).mono ?_;rintro e w2 ⟨vl,rfl,nJ,hx⟩;have hO:=Qq nJ;have FO:=Qq nJ.nts;obtain⟨Al,cl,sN,_⟩:=nJ.nts;subst sN;have zT:=Qq hx;have X2:=Qq (zO.out.trans hx);obtain⟨e0,e1,e2,el⟩:=Zy ((X2.out.block (Qn B0.out)).trans B0.out);clear nJ hx;go_wp2_with fail;refine(Qrt _ _ md (Za s) _ (HM.out.ext (X0.out.trans X2.out)) zE.out yD.out.symm FO.out (fun u hu=> ?_) (Ea s)).mono ?_
 ·have h1:=Je.1 fV.out u (Ff.1 hu).2;rw [Vz,decide_eq_true_iff]at h1;rw [vJ.out];exact h1
 rintro e w3 ⟨u,rfl,sJ,hx⟩;have vB:=Qq sJ;have zB:=Qq hx;have X3:=Qq (X2.out.trans hx);have wD:=Qq ((X3.out.block (Qn B1.out)).trans B1.out);obtain⟨u0,u1,hu,⟨A1,c1,rfl,_⟩,⟨A2,c2,rfl,_⟩⟩:=sJ.here;subst hu;obtain⟨l1,mU⟩:∃z,z=(Vj md (Za s)).n:=⟨_,rfl⟩;obtain⟨l2,qN⟩:∃z,z=(Vj md (Za s)).val.length:=⟨_,rfl⟩;obtain⟨l3,oK⟩:∃z,z=(Vj md (Za s)).rel.length:=⟨_,rfl⟩;rw [<-mU,<-qN,<-oK]at vB⊢;obtain⟨⟨q0,q1,q2⟩,⟨f0,f1,f2⟩,ql⟩:=Zc wD.out;have VA:=Qq (show b+1 < w1.heap.size from Qy (Qn B1.out) zO.out.size);have H4:=Qq X2.out.size;clear sJ hx e0 e1 e2 el mU qN oK;go_wp2_with fail
 (try simp only [Exit.inBlock,Exit.then])
 refine bodyPost_ret (Jd Tryz.results36 _ _ rfl (Jj (Yn wD.out _ _ _)) Tryz.underlying26 rfl (by kernel_rfl)) rfl ?_;refine⟨_,_,by rw [HE.out] <;> rfl,Yb (X0.out.trans X3.out) yB.out _ _ _,fun W hW=> ?_⟩;have h1:=VA.out;have h2:=zO.out.size;have h3:=X0.out.size;have h4:=zB.out.size;have h5:=yB.out;unfold Cw Ce;rw [if_pos HZ.out,if_pos HZ.out];have xB:(((w3.setCell ⟨b+1,0,none⟩ (.int .i64 l1)).setCell ⟨b+1,1,none⟩ (.slice A1 l2 c1)).setCell ⟨b+1,2,none⟩ (.slice A2 l3 c2)).heap.size=w3.heap.size:=by simp [World.setCell]
 have vU:∀k,w1.heap.size<=k->k < w3.heap.size->W.heap[k]?=w3.heap[k]?:=fun k hk hl=>(hW.2 k (by omega) (by omega)).trans (Kx (by omega) _ _ _)
 have h6:=hW.1;have h7:w1.heap.size<=w2.heap.size:=zT.out.size;have zR:Uv w1.heap.size W (.slice Al (Za s).length cl) (Za s):=Zp hO.out fun k hk=>by
  have yV:=World.ownsRow.lt hO.out k hk;rw [vU k yV.1 (by omega),zB.out.block yV.2]
 exact⟨vB.out W ⟨by omega,fun k hk hl=>vU k (by omega) hl⟩,zR.nts⟩
theorem Qo6 {a b:Nat}(h:a+b < 18446744073709551616):IntKind.u64.wrap ((a:Int)+(b:Int))=((a+b:Nat):Int):=by
 rw [IntKind.wrap_u64];omega
theorem Qk8(a M:Nat)(ha:a < 18446744073709551616)(hM:M < 18446744073709551616):bits .and .u64 (a:Int) (M:Int)=((a&&&M:Nat):Int):=Xk ha hM
theorem Qis {y c:Nat}(h:y < 9223372036854775808)(e:y % 128=c):bits .and .i64 (y:Int) 127=(c:Int):=by
 have h1:=Pn y 127 h (by omega);have h2:=Nat.and_two_pow_sub_one_eq_mod y 7;simp only [Nat.reducePow,Nat.reduceSub]at h2;rw [h2,e,show((127:Nat):Int)=127 from rfl]at h1;exact h1
theorem bd4 {a:Nat}(h:a<=1085102592571150095):a+a / 256<=1100000000000000000:=by omega
theorem bd5 {a:Nat}(h:a<=1100000000000000000):a+a / 65536<=1110000000000000000:=by omega
theorem bd6 {a:Nat}(h:a<=1110000000000000000):a+a / 4294967296<=1120000000000000000:=by omega
theorem ad4 {a:Nat}(h:a<=1085102592571150095):IntKind.u64.wrap ((a:Int)+(a:Int) / 256)=((a+a / 256:Nat):Int):=by rw [IntKind.wrap_u64];omega
theorem ad5 {a:Nat}(h:a<=1100000000000000000):IntKind.u64.wrap ((a:Int)+(a:Int) / 65536)=((a+a / 65536:Nat):Int):=by rw [IntKind.wrap_u64];omega
theorem ad6 {a:Nat}(h:a<=1110000000000000000):IntKind.u64.wrap ((a:Int)+(a:Int) / 4294967296)=((a+a / 4294967296:Nat):Int):=by rw [IntKind.wrap_u64];omega
theorem ad3 {a:Nat}(h:a<=7378697629483820646):IntKind.u64.wrap ((a:Int) / 16+(a:Int))=((a / 16+a:Nat):Int):=by rw [IntKind.wrap_u64];omega
theorem wr6 {a:Nat}(h:a<=1120000000000000000):wrap64 (a:Int)=(a:Int):=by unfold wrap64;omega
theorem an1 {a:Nat}(h:a < 18446744073709551616):bits .and .u64 ((a:Int) / 2) 6148914691236517205=((a / 2&&&6148914691236517205:Nat):Int):=by
 rw [show(a:Int) / 2=((a / 2:Nat):Int) by omega];exact Qk8 (a / 2) 6148914691236517205 (by omega) (by decide)
theorem an3 {a:Nat}(h:a < 18446744073709551616):bits .and .u64 ((a:Int) / 4) 3689348814741910323=((a / 4&&&3689348814741910323:Nat):Int):=by
 rw [show(a:Int) / 4=((a / 4:Nat):Int) by omega];exact Qk8 (a / 4) 3689348814741910323 (by omega) (by decide)
theorem Qwa(x:Nat)(hx:Qm x)(w:World):Calls Tryz.prog 81 #[.int .u64 (x:Int)] w fun e w'=>e=.returned (.int .i64 ((Xc x 64:Nat):Int))/\w=w':=by
 obtain⟨x1,zN⟩:∃z,z=st1 6148914691236517205 x:=⟨_,rfl⟩;obtain⟨x2,zS⟩:∃z,z=st2 3689348814741910323 x1:=⟨_,rfl⟩;obtain⟨x3,zC⟩:∃z,z=st3 1085102592571150095 x2:=⟨_,rfl⟩;obtain⟨x4,yA⟩:∃z,z=st4 x3:=⟨_,rfl⟩;obtain⟨x5,xG⟩:∃z,z=st5 x4:=⟨_,rfl⟩;obtain⟨x6,uP⟩:∃z,z=st6 x5:=⟨_,rfl⟩;have HR:=Qq (show x6 % 128=Xc x 64 by
  rw [uP,xG,yA,zC,zS,zN];exact Zq8 hx)
 have hw:x < 18446744073709551616:=hx;obtain⟨p1,lC⟩:∃z,z=x / 2&&&6148914691236517205:=⟨_,rfl⟩;obtain⟨p2,sT⟩:∃z,z=x&&&6148914691236517205:=⟨_,rfl⟩;obtain⟨p3,IG⟩:∃z,z=x1 / 4&&&3689348814741910323:=⟨_,rfl⟩;obtain⟨p4,SA⟩:∃z,z=x1&&&3689348814741910323:=⟨_,rfl⟩;obtain⟨p5,IF⟩:∃z,z=x2 / 16+x2:=⟨_,rfl⟩;have k1:p1<=6148914691236517205:=by rw [lC];exact Nat.and_le_right
 have k2:p2<=6148914691236517205:=by rw [sT];exact Nat.and_le_right
 have k3:p3<=3689348814741910323:=by rw [IG];exact Nat.and_le_right
 have k4:p4<=3689348814741910323:=by rw [SA];exact Nat.and_le_right
 have e1:x1=p1+p2:=by rw [zN,lC,sT];rfl
 have e2:x2=p3+p4:=by rw [zS,IG,SA];rfl
 have b1:x1 < 18446744073709551616:=by rw [e1];omega
 have b2:x2<=7378697629483820646:=by rw [e2];omega
 have b5:p5 < 18446744073709551616:=by rw [IF];omega
 have e3:x3=p5&&&1085102592571150095:=by rw [zC,IF];rfl
 have b3:x3<=1085102592571150095:=by rw [e3];exact Nat.and_le_right
 have b4:x4<=1100000000000000000:=by rw [yA];exact bd4 b3
 have c5:x5<=1110000000000000000:=by rw [xG];exact bd5 b4
 have c6:x6<=1120000000000000000:=by rw [uP];exact bd6 c5
 have b6:x6 < 9223372036854775808:=Nat.lt_of_le_of_lt c6 (by decide);obtain⟨cn,CR⟩:∃z,z=Xc x 64:=⟨_,rfl⟩;have HF:=Qq (Qis b6 (HR.out.trans CR.symm));rw [<-CR];have f1:bits .and .u64 ((x:Int) / 2) 6148914691236517205=(p1:Int):=by rw [lC];exact an1 hw
 have f2:bits .and .u64 (x:Int) 6148914691236517205=(p2:Int):=by rw [sT];exact Qk8 x 6148914691236517205 hw (by decide)
 have f3:IntKind.u64.wrap ((p1:Int)+(p2:Int))=(x1:Int):=by rw [Qo6 (e1▸b1),e1]
 have f4:bits .and .u64 ((x1:Int) / 4) 3689348814741910323=(p3:Int):=by rw [IG];exact an3 b1
 have f5:bits .and .u64 (x1:Int) 3689348814741910323=(p4:Int):=by rw [SA];exact Qk8 x1 3689348814741910323 b1 (by decide)
 have f6:IntKind.u64.wrap ((p3:Int)+(p4:Int))=(x2:Int):=by rw [Qo6 (Nat.lt_of_le_of_lt (e2▸b2) (by decide)),e2]
 have f7:IntKind.u64.wrap ((x2:Int) / 16+(x2:Int))=(p5:Int):=by rw [IF];exact ad3 b2
 have f8:bits .and .u64 (p5:Int) 1085102592571150095=(x3:Int):=by rw [e3];exact Qk8 p5 1085102592571150095 b5 (by decide)
 have f9:IntKind.u64.wrap ((x3:Int)+(x3:Int) / 256)=(x4:Int):=by rw [yA];exact ad4 b3
 have f10:IntKind.u64.wrap ((x4:Int)+(x4:Int) / 65536)=(x5:Int):=by rw [xG];exact ad5 b4
 have f11:IntKind.u64.wrap ((x5:Int)+(x5:Int) / 4294967296)=(x6:Int):=by rw [uP];exact ad6 c5
 have f12:wrap64 (x6:Int)=(x6:Int):=wr6 c6;clear CR b6 hx hw zN zS zC yA xG uP HR lC sT IG SA IF e1 e2 e3 k1 k2 k3 k4 b1 b2 b3 b4 b5 c5 c6;go_enter Tryz.func81,Tryz.ntmps81;go_wp2_with fail;go_ret;exact⟨by rw [<-HF.out] <;> rfl,rfl⟩
end Go.Proofs.YtkmclcmnoicagaaGreatDoor
