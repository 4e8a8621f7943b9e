/- Truth along an embedding with a closed image: the part of a model that is closed under its relations says the same (plain). -/
import Derived.Test.YtkmclcmnoicagaaGreatDoorM01
import Derived.Test.YtkmclcmnoicagaaGreatDoorM14
import Derived.Test.YtkmclcmnoicagaaGreatDoorM16
import Derived.Test.YtkmclcmnoicagaaGreatDoorM07
import Derived.Deep.DeepCutAuto
import Derived.Test.YtkmclcmnoicagaaGreatDoorM06
import Derived.Deep.RegionLaw
import Derived.Maps.AppendAt
import Derived.Test.YtkmclcmnoicagaaGreatDoorM09
import Derived.OrdersHeld
import Derived.RegionTactic
import Derived.Test.YtkmclcmnoicagaaGreatDoorM13
import Derived.Test.YtkmclcmnoicagaaGreatDoorM08
namespace Go.Proofs.YtkmclcmnoicagaaGreatDoor
set_option maxRecDepth 100000
set_option maxHeartbeats 128000000
def Qps(A F:Nat)(n:Nd):Prop :=
 (n.op=3->0<=n.i/\n.i < F)/\(n.op=9\/n.op=10->0<=n.i/\n.i < A)/\
  (n.op=11\/n.op=12\/n.op=13->(∀j:Nat,Yi n.g j=true->j < A)/\∃j:Nat,j < 4/\Yi n.g j=true)
structure Emb (M N:KM) (A F:Nat) (e:M.W->N.W):Prop where
 fact:∀i:Int,0<=i->i < F->∀u,M.V i u↔N.V i (e u)
 rel:∀i:Int,0<=i->i < A->∀u v,M.R i u v↔N.R i (e u) (e v)
 cl:∀i:Int,0<=i->i < A->∀u y,N.R i (e u) y->∃v,e v=y
section
variable {M N:KM} {A F:Nat} {e:M.W->N.W}
theorem Emb.sat(h:Emb M N A F e):∀(t:Tr),t.all (Qps A F)->∀u,M.sat t u↔N.sat t (e u)
 |.leaf n,hf,u=>by
  show(n.op=1\/(n.op=3/\M.V n.i u))↔(n.op=1\/(n.op=3/\N.V n.i (e u)));refine or_congr Iff.rfl (and_congr_right fun h3=>h.fact _ (hf.1 h3).1 (hf.1 h3).2 u)
 |.one n a,hf,u=>by
  have ih:=h.sat a hf.2;unfold KM.sat;by_cases h4:n.op=4
  ·rw [if_pos h4,if_pos h4,ih u]
  rw [if_neg h4,if_neg h4];by_cases h9:n.op=9
  ·rw [if_pos h9,if_pos h9];obtain⟨h0,h1⟩:=hf.1.2.1 (.inl h9);constructor
   ·intro k y hy;obtain⟨v,rfl⟩:=h.cl _ h0 h1 u y hy;exact(ih v).1 (k v ((h.rel _ h0 h1 u v).2 hy))
   intro k v hv;exact(ih v).2 (k (e v) ((h.rel _ h0 h1 u v).1 hv))
  rw [if_neg h9,if_neg h9];by_cases h10:n.op=10
  ·rw [if_pos h10,if_pos h10];obtain⟨h0,h1⟩:=hf.1.2.1 (.inr h10);constructor
   ·rintro⟨v,hv,k⟩;exact⟨e v,(h.rel _ h0 h1 u v).1 hv,(ih v).1 k⟩
   rintro⟨y,hy,k⟩;obtain⟨v,rfl⟩:=h.cl _ h0 h1 u y hy;exact⟨v,(h.rel _ h0 h1 u v).2 hy,(ih v).2 k⟩
  rw [if_neg h10,if_neg h10];by_cases h11:n.op=11
  ·rw [if_pos h11,if_pos h11];obtain⟨hA,_⟩:=hf.1.2.2 (.inl h11);have hA2:∀i:Nat,Yi n.g i=true->(0:Int)<=i/\(i:Int) < A:=fun i hi=>by have:=hA i hi;omega
   constructor
   ·intro k i hi hg y hy;obtain⟨v,rfl⟩:=h.cl _ (hA2 i hg).1 (hA2 i hg).2 u y hy;exact(ih v).1 (k i hi hg v ((h.rel _ (hA2 i hg).1 (hA2 i hg).2 u v).2 hy))
   intro k i hi hg v hv;exact(ih v).2 (k i hi hg (e v) ((h.rel _ (hA2 i hg).1 (hA2 i hg).2 u v).1 hv))
  rw [if_neg h11,if_neg h11];by_cases h12:n.op=12
  ·rw [if_pos h12,if_pos h12];obtain⟨hA,j,hj,hgj⟩:=hf.1.2.2 (.inr (.inl h12));have hA2:∀i:Nat,Yi n.g i=true->(0:Int)<=i/\(i:Int) < A:=fun i hi=>by have:=hA i hi;omega
   constructor
   ·intro k y hy;obtain⟨v,rfl⟩:=h.cl _ (hA2 j hgj).1 (hA2 j hgj).2 u y (hy j hj hgj);exact(ih v).1 (k v fun i hi hg=>(h.rel _ (hA2 i hg).1 (hA2 i hg).2 u v).2 (hy i hi hg))
   intro k v hv;exact(ih v).2 (k (e v) fun i hi hg=>(h.rel _ (hA2 i hg).1 (hA2 i hg).2 u v).1 (hv i hi hg))
  rw [if_neg h12,if_neg h12]
 |.two n a b,hf,u=>by
  have iha:=h.sat a hf.2.1;have ihb:=h.sat b hf.2.2;unfold KM.sat;by_cases h5:n.op=5
  ·rw [if_pos h5,if_pos h5,iha u,ihb u]
  rw [if_neg h5,if_neg h5];by_cases h6:n.op=6
  ·rw [if_pos h6,if_pos h6,iha u,ihb u]
  rw [if_neg h6,if_neg h6];by_cases h7:n.op=7
  ·rw [if_pos h7,if_pos h7,iha u,ihb u]
  rw [if_neg h7,if_neg h7];by_cases h8:n.op=8
  ·rw [if_pos h8,if_pos h8,iha u,ihb u]
  rw [if_neg h8,if_neg h8];by_cases h13:n.op=13
  ·rw [if_pos h13,if_pos h13];obtain⟨hA,_⟩:=hf.1.2.2 (.inr (.inr h13));have hA2:∀i:Nat,Yi n.g i=true->(0:Int)<=i/\(i:Int) < A:=fun i hi=>by have:=hA i hi;omega
   have hst:∀x y,M.step n.g (M.sat a) x y↔N.step n.g (N.sat a) (e x) (e y):=fun x y=>by
    unfold KM.step;rw [iha y];refine and_congr ⟨?_,?_⟩ Iff.rfl
    ·rintro⟨i,hi,hg,hr⟩;exact⟨i,hi,hg,(h.rel _ (hA2 i hg).1 (hA2 i hg).2 x y).1 hr⟩
    rintro⟨i,hi,hg,hr⟩;exact⟨i,hi,hg,(h.rel _ (hA2 i hg).1 (hA2 i hg).2 x y).2 hr⟩
   have hcl:∀x q,N.step n.g (N.sat a) (e x) q->∃y,e y=q:=fun x q=>by
    rintro⟨⟨i,hi,hg,hr⟩,_⟩;exact h.cl _ (hA2 i hg).1 (hA2 i hg).2 x q hr
   have up:∀x y,Rch (M.step n.g (M.sat a)) x y->Rch (N.step n.g (N.sat a)) (e x) (e y):=fun x y hr=>hr.map e (fun x y h=>(hst x y).1 h)
   have down:∀p q,Rch (N.step n.g (N.sat a)) p q->∀x,e x=p->∃y,e y=q/\Rch (M.step n.g (M.sat a)) x y:=by
    intro p q hr
    induction hr with
    |@one p q hp =>
     rintro x rfl;obtain⟨y,rfl⟩:=hcl x q hp;exact⟨y,rfl,.one ((hst x y).2 hp)⟩
    |@cons p q r hp _ ih =>
     rintro x rfl;obtain⟨y,rfl⟩:=hcl x q hp;obtain⟨z,hz,hr⟩:=ih y rfl;exact⟨z,hz,.cons ((hst x y).2 hp) hr⟩
   constructor
   ·intro k v hv;obtain⟨y,rfl,hy⟩:=down _ _ hv u rfl;exact(ihb y).1 (k y hy)
   intro k v hv;exact(ihb v).2 (k (e v) (up _ _ hv))
  rw [if_neg h13,if_neg h13]
theorem Emb.frm(h:Emb M N A F e) {lg:Int} {i:Int}(h0:0<=i)(h1:i < A)(hN:Frm lg (N.R i)):Frm lg (M.R i) where
 ser:=fun hl w=>by
  obtain⟨y,hy⟩:=hN.ser hl (e w);obtain⟨v,rfl⟩:=h.cl i h0 h1 w y hy;exact⟨v,(h.rel i h0 h1 w v).2 hy⟩
 refl:=fun hl w=>(h.rel i h0 h1 w w).2 (hN.refl hl (e w))
 trans:=fun hl u v w a b=>(h.rel i h0 h1 u w).2 (hN.trans hl _ _ _ ((h.rel i h0 h1 u v).1 a) ((h.rel i h0 h1 v w).1 b))
 eucl:=fun hl u v w a b=>(h.rel i h0 h1 v w).2 (hN.eucl hl _ _ _ ((h.rel i h0 h1 u v).1 a) ((h.rel i h0 h1 u w).1 b))
end
theorem Wy {md:Md} {lg:Int}(hck:Zj md=0)(hlg:0<=lg/\lg<=6):Nk md lg↔∀a:Nat,a < md.rel.length->Frm lg ((Ko md).R (a:Int)):=by
 constructor
 ·intro h a _;exact Qkk h (a:Int)
 intro h;refine⟨hlg,hck,fun r hr=> ?_⟩;obtain⟨a,ha,rfl⟩:=List.getElem_of_mem hr;have hF:=h a ha;have hl:=(Zv hck).2.2.2.2.1 _ hr;have hln:(md.rel[a]).length=md.n.toNat:=by omega
 have ea:md.rel.getD a []=md.rel[a]:=by rw [Qk,Qv ha];rfl
 have hR:∀u v:Fin md.n.toNat,(Ko md).R (a:Int) u v↔((md.rel[a]).getD u.1 0).testBit v.1=true:=fun u v=>by
  rw [kmR ha u v,ea]
 have hb:∀u v,((md.rel[a]).getD u 0).testBit v=true->u < md.n.toNat/\v < md.n.toNat:=fun u v hv=>by
  refine Fo hck a u v ?_;rw [ea];exact hv
 unfold Wj Uh;intro q hq;have hp:(q=1/\(lg=1\/lg=5))\/(q=2/\(lg=2\/lg=4\/lg=6))\/(q=4/\3<=lg/\lg<=6)\/(q=5/\(lg=5\/lg=6)):=by
  have hc:lg=0\/lg=1\/lg=2\/lg=3\/lg=4\/lg=5\/lg=6:=by omega
  rcases hc with rfl|rfl|rfl|rfl|rfl|rfl|rfl <;> simp at hq <;> omega
 rcases hp with⟨rfl,hl⟩|⟨rfl,hl⟩|⟨rfl,hl⟩|⟨rfl,hl⟩
 ·have h1:∀i,i < (md.rel[a]).length->(md.rel[a]).getD i 0≠0:=fun i hi e=>by
   obtain⟨v,hv⟩:=hF.ser hl ⟨i,by omega⟩;have:=(hR _ _).1 hv;rw [e,Nat.zero_testBit]at this;cases this
  exact h1
 ·have h1:Qgt (md.rel[a]):=fun i hi=>(hR ⟨i,by omega⟩ ⟨i,by omega⟩).1 (hF.refl hl _)
  exact h1
 ·have h1:Gl false (md.rel[a]):=fun i j hi hj hij=>Yd.2 fun k hk=>by
   have h2:=hb _ _ hk;exact(hR ⟨i,by omega⟩ ⟨k,h2.2⟩).1 (hF.trans hl ⟨i,by omega⟩ ⟨j,by omega⟩ ⟨k,h2.2⟩ ((hR _ _).2 hij) ((hR _ _).2 hk))
  exact h1
 have h1:Gl true (md.rel[a]):=fun i j hi hj hij=>Yd.2 fun k hk=>by
  have h2:=hb _ _ hk;exact(hR ⟨j,by omega⟩ ⟨k,h2.2⟩).1 (hF.eucl hl ⟨i,by omega⟩ ⟨j,by omega⟩ ⟨k,h2.2⟩ ((hR _ _).2 hij) ((hR _ _).2 hk))
 exact h1
open Go.RowKit
theorem Lf {w:World} {b:Nat} {a0 a1:Value} {t:TypeId}(h:w.heap[b]?=some (.cells #[a0,a1] t (0,0))):
 w.cell? ⟨b,0,none⟩=some a0/\w.cell? ⟨b,1,none⟩=some a1/\(∀j,w.frozen? ⟨b,j,none⟩=false)/\b < w.heap.size :=
 ⟨by simp [World.cell?,h],by simp [World.cell?,h],fun j=>by simp [World.frozen?,h],Qf h⟩
theorem Qm8 {w:World} {b:Nat} {a0 a1:Value} {t:TypeId}(h:w.heap[b]?=some (.cells #[a0,a1] t (0,0)))(u:Value):(w.setCell ⟨b,0,none⟩ u).heap[b]?=some (.cells #[u,a1] t (0,0)):=by
 simp only [World.setCell,Array.getElem?_modify,h,if_true,Option.map_some];simp
theorem Qva {w:World} {b:Nat} {a0 a1:Value} {t:TypeId}(h:w.heap[b]?=some (.cells #[a0,a1] t (0,0)))(u:Value):(w.setCell ⟨b,1,none⟩ u).heap[b]?=some (.cells #[a0,u] t (0,0)):=by
 simp only [World.setCell,Array.getElem?_modify,h,if_true,Option.map_some];simp
theorem Qvo:(Tryz.prog.info? 3).map (fun i=>(i.zero,i.size,i.bytes))=some (some (.int .i64 0),1,8):=by kernel_rfl
structure Cf (bw:Nat) (w w':World) (v v':Value):Prop where
 os:w'.os=w.os
 tape:w'.tape=w.tape
 output:w'.output=w.output
 size:w.heap.size<=w'.heap.size
 block:∀k,k < w.heap.size->k≠bw->v.ownBlock≠some k->w'.heap[k]?=w.heap[k]?
 row:∀g,v'.ownBlock=some g->v.ownBlock=some g\/w.heap.size<=g
section
variable {a b c w w':World} {va vb vc v v':Value} {bw:Nat}
theorem Cf.refl(w:World)(v:Value):Cf bw w w v v:=⟨rfl,rfl,rfl,Nat.le_refl _,fun _ _ _ _=>rfl,fun _ h=> .inl h⟩
theorem Cf.trans(h:Cf bw a b va vb)(k:Cf bw b c vb vc):Cf bw a c va vc :=
 ⟨k.os.trans h.os,k.tape.trans h.tape,k.output.trans h.output,Qx h.size k.size,
  fun i hi hb h4=>(k.block i (Qy hi h.size) hb (fun e=>by
   rcases h.row i e with e'|e'
   ·exact h4 e'
   omega)).trans (h.block i hi hb h4),
  fun g hg=>by
   rcases k.row g hg with e|e
   ·exact h.row g e
   exact .inr (Qx h.size e)⟩
theorem Cf.of_ext(e:Ext a b):Cf bw a b v v:=⟨e.os,e.tape,e.output,e.size,fun _ hk _ _=>e.block hk,fun _ h=> .inl h⟩
end
def Ex(f o:List Nd)(d:List Int):Prop:=d.length=f.length/\∀i,i < f.length->d[i]?=some (-1)\/(Za f i o=(o,(Za f i o).2)/\d[i]?=some (((Za f i o).2:Nat):Int))
theorem Ex.grow {f o o':List Nd} {d:List Int}(hf:Wf f)(h:Ex f o d)(hp:o <+: o'):Ex f o' d:=by
 refine⟨h.1,fun i hi=> ?_⟩;rcases h.2 i hi with h1|⟨h1,h2⟩
 ·exact .inl h1
 have hg:=Fh hf i o o' hi (by rw [h1];exact hp);exact .inr ⟨by rw [hg],by rw [hg];exact h2⟩
theorem Ex.put {f o:List Nd} {d:List Int} {i:Nat}(h:Ex f o d)(hi:i < f.length)(hfin:Za f i o=(o,(Za f i o).2)):Ex f o (d.set i (((Za f i o).2:Nat):Int)):=by
 refine⟨by simpa using h.1,fun j hj=> ?_⟩;by_cases e:j=i
 ·subst e;exact .inr ⟨hfin,by rw [List.getElem?_set_self (by rw [h.1];exact hi)]⟩
 rw [List.getElem?_set_ne (Ne.symm e)];exact h.2 j hj
structure Pk (bw:Nat) (W0 w:World) (A:Option Addr) (c:Nat) (f o:List Nd) (d:List Int) (vo vd:Value):Prop where
 below:Go.RowKit.Below W0.heap.size W0 w
 nds:Ta W0 A c f
 blk:w.heap[bw]?=some (.cells #[vo,vd] 170 (0,0))
 row:w.ownsRow W0.heap.size 71 6 vo o.length (o.flatMap Nd.cells)
 drow:w.ownsRow W0.heap.size 3 1 vd f.length (d.map (Value.int .i64))
 done:Ex f o d
 low:W0.heap.size<=bw
 oks:∀n∈o,n.ok
structure Nv (bw:Nat) (vd:Value) (w w':World) (v v':Value):Prop where
 os:w'.os=w.os
 tape:w'.tape=w.tape
 output:w'.output=w.output
 size:w.heap.size<=w'.heap.size
 block:∀k,k < w.heap.size->k≠bw->vd.ownBlock≠some k->v.ownBlock≠some k->w'.heap[k]?=w.heap[k]?
 row:∀g,v'.ownBlock=some g->v.ownBlock=some g\/w.heap.size<=g
section
variable {a b c w w':World} {va vb vc v v' vd:Value} {bw:Nat}
theorem Nv.refl(w:World)(v:Value):Nv bw vd w w v v:=⟨rfl,rfl,rfl,Nat.le_refl _,fun _ _ _ _ _=>rfl,fun _ h=> .inl h⟩
theorem Nv.trans(h:Nv bw vd a b va vb)(k:Nv bw vd b c vb vc):Nv bw vd a c va vc :=
 ⟨k.os.trans h.os,k.tape.trans h.tape,k.output.trans h.output,Qx h.size k.size,
  fun i hi hb hd h4=>(k.block i (Qy hi h.size) hb hd (fun e=>by
   rcases h.row i e with e'|e'
   ·exact h4 e'
   omega)).trans (h.block i hi hb hd h4),
  fun g hg=>by
   rcases k.row g hg with e|e
   ·exact h.row g e
   exact .inr (Qx h.size e)⟩
theorem Nv.of_ext(e:Ext a b):Nv bw vd a b v v:=⟨e.os,e.tape,e.output,e.size,fun _ hk _ _ _=>e.block hk,fun _ h=> .inl h⟩
end
section
variable {bw:Nat} {W0 we w w':World} {A:Option Addr} {c:Nat} {f o:List Nd} {d:List Int} {vo vd voe:Value} {bx:Nat} {m:Nd}
theorem Pk.keep(h:Pk bw W0 w A c f o d vo vd)(hb:Go.RowKit.Below W0.heap.size W0 w')(hk:∀k,k < w.heap.size->(k=bw\/vo.ownBlock=some k\/vd.ownBlock=some k)->w'.heap[k]?=w.heap[k]?):Pk bw W0 w' A c f o d vo vd :=
 ⟨hb,h.nds,(hk _ (Qf h.blk) (by simp)).trans h.blk,Zs h.row fun g hg=>hk g (h.row.lt g hg).2 (by simp [hg]),Zs h.drow fun g hg=>hk g (h.drow.lt g hg).2 (by simp [hg]),h.done,h.low,h.oks⟩
theorem Pk.ext(h:Pk bw W0 w A c f o d vo vd)(he:Ext w w'):Pk bw W0 w' A c f o d vo vd :=
 h.keep (h.below.trans (Below.mono he h.below.size)) fun _ hk _=>he.block hk
structure Ot (bw:Nat) (W0 we w:World) (A:Option Addr) (c:Nat) (f o:List Nd) (d:List Int) (voe vo vd:Value) (bx:Nat) (m:Nd):Prop where
 inv:Pk bw W0 w A c f o d vo vd
 step:Nv bw vd we w voe vo
 bwlt:bw < we.heap.size
 dlt:∀g,vd.ownBlock=some g->g < we.heap.size
 box:w.heap[bx]?=some (.cells #[.int .i64 m.op,.int .i64 m.i,.int .i64 m.e,.int .i64 m.g,.int .i64 m.x,.int .i64 m.y] 71 (0,0))
 fresh:we.heap.size<=bx/\vo.ownBlock≠some bx
theorem Ot.start(h:Pk bw W0 we A c f o d vo vd)(n:Nd):Ot bw W0 we (we.alloc (.cells #[.int .i64 n.op,.int .i64 n.i,.int .i64 n.e,.int .i64 n.g,.int .i64 n.x,.int .i64 n.y] 71)) A c f o d vo vo vd we.heap.size n :=
 ⟨h.ext (Qz.alloc _),Nv.of_ext (Qz.alloc _),Qf h.blk,fun g hg=>(h.drow.lt g hg).2,heap_alloc_new _ _,Nat.le_refl _,fun e=>absurd (h.row.lt _ e).2 (by omega)⟩
theorem Ot.call {o':List Nd} {d':List Int} {vo':Value}(h:Ot bw W0 we w A c f o d voe vo vd bx m)(he:Pk bw W0 w' A c f o' d' vo' vd)(hs:Nv bw vd w w' vo vo'):Ot bw W0 we w' A c f o' d' voe vo' vd bx m:=by
 obtain⟨f1,f4⟩:=h.fresh;have hbx:=Qf h.box;have hb:=h.bwlt;refine⟨he,h.step.trans hs,h.bwlt,h.dlt,(hs.block _ hbx (by omega) (fun e=>by have:=h.dlt _ e;omega) f4).trans h.box,f1,fun e=> ?_⟩;rcases hs.row _ e with e|e
 ·exact f4 e
 omega
theorem Ot.store(h:Ot bw W0 we w A c f o d voe vo vd bx m)(j:Nat)(u:Value)(m':Nd)
 (hm:(#[.int .i64 m.op,.int .i64 m.i,.int .i64 m.e,.int .i64 m.g,.int .i64 m.x,.int .i64 m.y]:Array Value).setIfInBounds j u=#[.int .i64 m'.op,.int .i64 m'.i,.int .i64 m'.e,.int .i64 m'.g,.int .i64 m'.x,.int .i64 m'.y]):
 Ot bw W0 we (w.setCell ⟨bx,j,none⟩ u) A c f o d voe vo vd bx m':=by
 obtain⟨f1,f4⟩:=h.fresh;have hb:=h.bwlt;have hlow:=h.inv.low;have hoth:∀k,k≠bx->(w.setCell ⟨bx,j,none⟩ u).heap[k]?=w.heap[k]?:=fun k hk=>Below.heap_setCell _ _ _ _ hk
 have hsz:(w.setCell ⟨bx,j,none⟩ u).heap.size=w.heap.size:=by simp [World.setCell]
 refine⟨h.inv.keep (h.inv.below.setCell (by show W0.heap.size<=bx;omega) _) fun k _ hk=>hoth k ?_,?_,h.bwlt,h.dlt,?_,f1,f4⟩
 ·rcases hk with hk|hk|hk
  ·omega
  ·exact fun e=>f4 (by rw [hk,e])
  intro e;have:=h.dlt k hk;omega
 ·exact⟨h.step.os,h.step.tape,h.step.output,by rw [hsz];exact h.step.size,fun k hk h1 h2 h3=>(hoth k (by omega)).trans (h.step.block k hk h1 h2 h3),h.step.row⟩
 have hb:=h.box;simp only [World.setCell,Array.getElem?_modify,hb,if_true,Option.map_some];simp [hm]
end
def Zjv(bw:Nat)(W0:World)(A:Option Addr)(c:Nat)(f:List Nd)(vd:Value)(z:Int):Prop :=
 ∀(w:World) (o:List Nd) (d:List Int) (vo:Value),Pk bw W0 w A c f o d vo vd->pot f o<=f.length->
  Calls Tryz.prog 181 #[.slice A f.length c,.int .i64 z,.pointer (some ⟨bw,0,none⟩)] w
   fun e w'=>∃vo' d',e=.returned (.int .i64 (Za f z.toNat o).2)/\Pk bw W0 w' A c f (Za f z.toNat o).1 d' vo' vd/\Nv bw vd w w' vo vo'
structure Zj5 (w1:World) (k:Nat) (vd:Value) (wr:World):Prop where
 blk:wr.heap[w1.heap.size]?=some (.cells #[.slice none 0 0,vd] 170 (0,0))
 row:wr.ownsRow (w1.heap.size+1) 3 1 vd k ((List.replicate k (-1:Int)).map (Value.int .i64))
 ext:Ext w1 wr
section
variable {P:Program} {ops:Array Oper} {Q:Exit->Act->World->Prop} {md:Region.Mode} {S:World->Prop} {z:Nat}
def Ub(P:Program)(md:Region.Mode)(ops:Array Oper)(Q:Exit->Act->World->Prop)(S:World->Prop)(z:Nat):Nat->Array Bool->Act->World->Prop
 |0,up,a,w=>Region.ready md ops up= []/\Q .normal a w
 |n+1,up,a,w=>(Region.ready md ops up= []->Q .normal a w)/\∀i∈Region.ready md ops up,wpOp P ops Q i (fun b v=>(i≠z->S v)/\Ub P md ops Q S z n (up.setIfInBounds i true) b v) a w
theorem Ub.any:∀(n:Nat) (up:Array Bool) (a:Act) (w:World),Ub P md ops Q S z n up a w->wpAny P md ops Q n up a w
 |0,_,_,_,h=>h
 |n+1,_,_,_,h=>⟨h.1,fun i hi=>wpOp_mono (fun b v g=>Ub.any n _ b v g.2) (h.2 i hi)⟩
def Qgw(md:Region.Mode)(ops:Array Oper)(z i:Nat):Prop:=∀o,ops[z]?=some o->∃e∈o.after,Region.binds md e=true/\e.on=i
theorem Qoz {up:Array Bool} {i:Nat}(h0:up.getD i true=false)(h1:up.getD i false=true):False:=by
 rcases Nat.lt_or_ge i up.size with h'|h'
 ·simp [h']at h0 h1;rw [h0]at h1;cases h1
 simp [Array.getElem?_eq_none h']at h1
theorem Ub.first {i:Nat} {oi:Oper} {v:Value}(hi:ops[i]?=some oi)(hsel:∀(j:Nat) (o:Oper) cs b,ops[j]?=some o->o.op≠.select cs b)(hQ:∀c a w,Q (.panic c) (a.put oi.dst v) w->Q (.panic c) a w)
 (hz:Qgw md ops z i):∀(n:Nat) (up:Array Bool) (a:Act) (w:World),
  (∀j oj,ops[j]?=some oj->j≠i->up.getD j true=false->(∀e∈oj.after,Region.binds md e=true->e.on≠i)->oi.apart ops oj=true)->
  i∈Region.ready md ops up->YieldsIf P ops S oi v a->S w->Ub P md ops Q S z n (up.setIfInBounds i true) (a.put oi.dst v) w->Ub P md ops Q S z (n+1) up a w
 |0,up,a,w,_,hr,hy,hS,H=>⟨fun h=>(by rw [h]at hr;cases hr),fun j hj=>by
  by_cases e:j=i
  ·subst e;exact hy.wpOp hi hS ⟨fun _=>hS,H⟩
  have h2:=ready_mono hj e;rw [H.1]at h2;cases h2⟩
 |n+1,up,a,w,hfree,hr,hy,hS,H=>⟨fun h=>(by rw [h]at hr;cases hr),fun j hj=>by
  by_cases e:j=i
  ·subst e;exact hy.wpOp hi hS ⟨fun _=>hS,H⟩
  obtain⟨hjun,oj,hoj,hall⟩:=mem_ready.1 hj;have hiun:=(mem_ready.1 hr).1;have hnot:∀e∈oj.after,Region.binds md e=true->e.on≠i:=fun d hd hb hq=>Qoz hiun (by have:=hall d hd hb;rwa [hq]at this)
  have hjz:j≠z:=fun hjz=>by
   subst hjz;obtain⟨d,hd,hb,hq⟩:=hz oj hoj;exact hnot d hd hb hq
  have h2:=wpOp_putIf hoj (hfree j oj hoj e hjun hnot) (fun cs b=>hsel i oi cs b hi) (fun cs b=>hsel j oj cs b hoj) hQ hy (H.2 j (ready_mono hj e));refine wpOp_mono (fun b v h3=>⟨h3.2.1,Ub.first hi hsel hQ hz n (up.setIfInBounds j true) b v (fun k ok hk hki hun hno=>hfree k ok hk hki ?_ hno) (ready_mono hr (Ne.symm e)) h3.1 (h3.2.1 hjz) ?_⟩) h2
  ·by_cases hjk:j=k
   ·subst hjk;exact hjun
   rw [getD_set_ne true hjk]at hun;exact hun
  rw [Array.setIfInBounds_comm _ _ e];exact h3.2.2⟩
def Qv0(md:Region.Mode)(ops:Array Oper)(z i:Nat):Bool:=match ops[z]? with|none=>true|some o=>o.after.any fun e=>Region.binds md e&&e.on==i
theorem Qh3 {i:Nat}(h:Qv0 md ops z i=true):Qgw md ops z i:=by
 intro o ho;unfold Qv0 at h;rw [ho]at h;simp only [Array.any_eq_true']at h;obtain⟨e,he,hb⟩:=h;rw [Bool.and_eq_true]at hb;exact⟨e,he,hb.1,eq_of_beq hb.2⟩
theorem Zy {i:Nat} {oi:Oper} {v:Value} {n:Nat} {up:Array Bool} {a:Act} {w:World}(hi:ops[i]?=some oi)(hs:Region.noSelect ops=true)(hf:Region.free md ops up i=true)(hr:(Region.ready md ops up).contains i=true)
 (hz:Qv0 md ops z i=true)(hQ:∀c a w,Q (.panic c) (a.put oi.dst v) w->Q (.panic c) a w)(hy:YieldsIf P ops S oi v a)(hS:S w)
 (h:Ub P md ops Q S z n (up.setIfInBounds i true) (a.put oi.dst v) w):Ub P md ops Q S z (n+1) up a w :=
 Ub.first hi (Region.noSelect_spec hs) hQ (Qh3 hz) n up a w (Region.free_spec hi hf) (by simpa using hr) hy hS h
def Ql(P:Program)(md:Region.Mode)(ops:Array Oper)(Q:Exit->Act->World->Prop)(S:World->Prop)(z n:Nat)(up:Array Bool)(a:Act)(w:World)(rs:List Nat):Prop :=
 ∀i∈rs,wpOp P ops Q i (fun b v=>(i≠z->S v)/\Ub P md ops Q S z n (up.setIfInBounds i true) b v) a w
theorem Qs {rs:List Nat} {n:Nat} {up:Array Bool} {a:Act} {w:World}(hr:Region.ready md ops up=rs)(hne:rs≠ [])(h:Ql P md ops Q S z n up a w rs):Ub P md ops Q S z (n+1) up a w :=
 ⟨fun h0=>absurd (hr▸h0) hne,hr▸h⟩
theorem Ql.nil {n:Nat} {up:Array Bool} {a:Act} {w:World} :Ql P md ops Q S z n up a w []:=fun _ h=>by cases h
theorem Ql.cons {n:Nat} {up:Array Bool} {a:Act} {w:World} {i:Nat} {o:Oper} {rs:List Nat}(ho:ops[i]?=some o)
 (h:∀K:Act->World->Prop,Hid (∀a w,S w->(S w->Ub P md ops Q S z n (up.setIfInBounds i true) a w)->K a w)->if Region.wanted o (yielded ops a.tmps)=true then Oper.wp P o a w K Q else K (a.put o.dst undef) w)
 (hs:Ql P md ops Q S z n up a w rs):Ql P md ops Q S z n up a w (i :: rs):=fun j hj=>by
 rcases List.mem_cons.1 hj with rfl|hj
 ·exact wpOp_step ho (fun K hK=>h K (Qq (fun a w hS hW=>hK a w ⟨fun _=>hS,hW hS⟩)))
 exact hs j hj
theorem Jm {n:Nat} {up:Array Bool} {a:Act} {w:World} {o:Oper}(hr:Region.ready md ops up= [z])(ho:ops[z]?=some o)
 (h:∀K:Act->World->Prop,Hid (∀a w,Ub P md ops Q S z n (up.setIfInBounds z true) a w->K a w)->if Region.wanted o (yielded ops a.tmps)=true then Oper.wp P o a w K Q else K (a.put o.dst undef) w):Ub P md ops Q S z (n+1) up a w :=
 ⟨fun h0=>(by rw [hr]at h0;cases h0),fun j hj=>by
  rw [hr,List.mem_singleton]at hj;subst hj;exact wpOp_step ho (fun K hK=>h K (Qq (fun a w hW=>hK a w ⟨fun hne=>absurd rfl hne,hW⟩)))⟩
theorem Jl {up:Array Bool} {a:Act} {w:World}(hr:Region.ready md ops up= [])(h:Q .normal a w):∀n,Ub P md ops Q S z n up a w
 |0=>⟨hr,h⟩
 |_+1=>⟨fun _=>h,by rw [hr];simp⟩
theorem Vx {id:Nat} {a:Act} {w:World}(z:Nat)(S:World->Prop)(hm:P.follows .mixedOrders=true)(hS:S w.drew)(h:S w.drew->Ub P .any ops Q S z ops.size (Array.replicate ops.size false) a w.drew):(Code.region id ops true).wp P Q a w :=
 wp_region_any hm (Ub.any _ _ _ _ (h hS))
end
theorem Qb {P:Program} {md:Region.Mode} {ops:Array Oper} {Q:Exit->Act->World->Prop} {S:World->Prop} {z n:Nat} {up:Array Bool} {a a':Act} {w:World}(h:Ub P md ops Q S z n up a' w)(e:a=a':=by(try simp only [Act.put,List.setIfInBounds_toArray,List.set_cons_zero,List.set_cons_succ,List.getElem_toArray,List.getElem_cons_succ,List.getElem_cons_zero]);exact rfl):Ub P md ops Q S z n up a w:=e▸h
section
variable {P:Program} {md:Region.Mode} {ops:Array Oper} {Q:Exit->Act->World->Prop} {S:World->Prop} {z:Nat}
theorem utk(i:Nat) {oi:Oper} {v:Value} {n:Nat} {up:Array Bool} {a a':Act} {w:World}(hS:S w)
 (h:Ub P md ops Q S z n (up.setIfInBounds i true) a' w)
 (hi:ops[i]?=some oi:=by exact rfl)(hs:Region.noSelect ops=true:=by kernel_rfl)(hf:Region.free md ops up i=true:=by kernel_rfl)(hr:(Region.ready md ops up).contains i=true:=by kernel_rfl)(hz:Qv0 md ops z i=true:=by kernel_rfl)
 (hy:YieldsIf P ops S oi v a:=by refine Or.inl ⟨by rfl,?_⟩;intro w' hSw;(try dsimp only at hSw);go_simp;(try with_reducible rfl))
 (hQ:∀c a w,Q (.panic c) (a.put oi.dst v) w->Q (.panic c) a w:=by exact fun _ _ _ h=>h)
 (ha:a.put oi.dst v=a':=by(try simp only [Act.put,List.setIfInBounds_toArray,List.set_cons_zero,List.set_cons_succ,List.getElem_toArray,List.getElem_cons_succ,List.getElem_cons_zero]);exact rfl):Ub P md ops Q S z (n+1) up a w :=
 Zy hi hs hf hr hz hQ hy hS (by rw [ha];exact h)
end
section
variable {a b:World} {p:Addr} {v:Value}
theorem xd(hb:p.block < a.heap.size)(f:a.cell? p=some v)(h:Ext a b:=by repeat(first|exact Qz|assumption|apply Ext.alloc|apply Ext.drew|apply Ext.setCell)):b.cell? p=some v:=(h.cell hb).trans f
theorem xv(e:Ext a b:=by repeat(first|exact Qz|assumption|apply Ext.alloc|apply Ext.drew|apply Ext.setCell)):Ext a b:=e
end
theorem Qi3(v1 v2:Value)(f g:List Nd)(w:World)(h1:Fml w v1 f)(h2:Fml w v2 g):
 Calls Tryz.prog 123 #[v1,v2] w fun e w'=>∃u,e=.returned u/\Vg w w' u (orN f g):=by
 have H1:=Qq h1;have H2:=Qq h2;obtain⟨A1,c1,rfl,_⟩:=Qm h1;obtain⟨A2,c2,rfl,_⟩:=Qm h2;clear h1 h2;go_enter Tryz.func123,Tryz.ntmps123;go_wp2_with fail;refine(Uv ⟨6,0,0,0,0,0⟩ _ [f,g] _ (Us (Qi (by omega) (by omega)) (Qi (by omega) (by omega)) (Qi (by omega) (by omega)) (Qi (by omega) (by omega)) (Qi (by omega) (by omega)) (Qi (by omega) (by omega))) (Pt H1.out H2.out) (by simp)).mono ?_;rintro e w1 ⟨u,rfl,hm⟩;have HM:=Qq hm;clear hm;go_wp2_with fail;go_ret;exact⟨_,rfl,(HM.out.before (Qz.alloc _))⟩
theorem Qcy(v1 v2:Value)(f g:List Nd)(w:World)(h1:Fml w v1 f)(h2:Fml w v2 g):
 Calls Tryz.prog 124 #[v1,v2] w fun e w'=>∃u,e=.returned u/\Vg w w' u (Qce f g):=by
 have H1:=Qq h1;have H2:=Qq h2;obtain⟨A1,c1,rfl,_⟩:=Qm h1;obtain⟨A2,c2,rfl,_⟩:=Qm h2;clear h1 h2;go_enter Tryz.func124,Tryz.ntmps124;go_wp2_with fail;refine(Uv ⟨8,0,0,0,0,0⟩ _ [f,g] _ (Us (Qi (by omega) (by omega)) (Qi (by omega) (by omega)) (Qi (by omega) (by omega)) (Qi (by omega) (by omega)) (Qi (by omega) (by omega)) (Qi (by omega) (by omega))) (Pt H1.out H2.out) (by simp)).mono ?_;rintro e w1 ⟨u,rfl,hm⟩;have HM:=Qq hm;clear hm;go_wp2_with fail;go_ret;exact⟨_,rfl,(HM.out.before (Qz.alloc _))⟩
def Qv6(g:Int)(a b:List Nd):List Nd:=Yp ⟨13,0,0,g,0,0⟩ [a,b]
theorem Qrp(k:Int)(hk:Yo k)(v1 v2:Value)(f g:List Nd)(w:World)(h1:Fml w v1 f)(h2:Fml w v2 g):
 Calls Tryz.prog 125 #[.int .i64 k,v1,v2] w fun e w'=>∃u,e=.returned u/\Vg w w' u (Qv6 k f g):=by
 have H1:=Qq h1;have H2:=Qq h2;obtain⟨A1,c1,rfl,_⟩:=Qm h1;obtain⟨A2,c2,rfl,_⟩:=Qm h2;clear h1 h2;go_enter Tryz.func125,Tryz.ntmps125;go_wp2_with fail;refine(Uv ⟨13,0,0,k,0,0⟩ _ [f,g] _ (Us (Qi (by omega) (by omega)) (Qi (by omega) (by omega)) (Qi (by omega) (by omega)) hk (Qi (by omega) (by omega)) (Qi (by omega) (by omega))) (Pt H1.out H2.out) (by simp)).mono ?_;rintro e w1 ⟨u,rfl,hm⟩;have HM:=Qq hm;clear hm;go_wp2_with fail;go_ret;exact⟨_,rfl,(HM.out.before (Qz.alloc _))⟩
def Hi(g:Int)(a:List Nd):List (List Nd):=((List.range 4).filter fun i=>Yi g i).map fun(i:Nat)=>Gj (i:Int) a
def Qgn(e:List Nd):List (List Nd)->List Nd
 |[]=>e
 |f :: r=>r.foldl Uo (Qg f)
def Qjj(l:List (List Nd)):List Nd:=Qgn Oq l
def Jd(x:Nd)(a b:List Nd):List Nd :=
 bif x.op==1 then Oq else bif x.op==2 then Ag else bif x.op==3 then Qy6 x.i else bif x.op==4 then Jj a
 else bif x.op==9 then Gj x.i a else bif x.op==10 then Jj (Gj x.i (Jj a))
 else bif x.op==11 then Qjj (Hi x.g a)
 else bif x.op==5 then Uo a b else bif x.op==6 then orN a b else bif x.op==7 then Qje a b else bif x.op==8 then Qce a b else Qv6 x.g a b
def Gx:List Nd->List (List Nd)->Option (List (List Nd))
 |[],d=>some d
 |x :: r,d=>bif decide ((Jd x (d.getD x.x.toNat []) (d.getD x.y.toNat [])).length=0)then none else Gx r (d++ [Jd x (d.getD x.x.toNat []) (d.getD x.y.toNat [])])
def Jg(f:List Nd):List Nd:=match Gx (Qg f) []with|none=> []|some d=>d.getLastD []
def Js(n:Nd):Bool:=n.op==3||(n.op==9||n.op==13)
def Gi(i:Nat)(c:List Nd):List Nd:=Gj (i:Int) (Qje (Yz c (Qo c).x) (Uo (Yz c (Qo c).y) c))
def Qzv(f:List Nd):List (List Nd):=Dj (Qg f)
def Yg(g:List Nd):List (List Nd):=(Qzv g).filter fun s=>Js (Qo s)
def Vv(c:List Nd):List (List Nd):=bif (Qo c).op==13 then((List.range 4).filter fun i=>Yi (Qo c).g i).map fun i=>Gi i c else []
def Xt(l:List (List Nd))(g:List Nd):List (List Nd):=bif decide (Yx l g < 0)then l++ [g]else l
def Vp(g:List Nd):List (List Nd)×Int :=
 bif ((Yg g).flatMap Vv).any (fun u=>decide (u.length=0))||decide (12 < (((Yg g).flatMap Vv).foldl Xt (Yg g)).length)then([],8)
 else(((Yg g).flatMap Vv).foldl Xt (Yg g),0)
def Up(f:List Nd):Bool:=(Yn f&&&500) !=0
def Qr(f:List Nd):List (List Nd)×Int :=
 bif check f !=0 then([],check f)else bif Up f then([],10)else bif decide ((Jg f).length=0)then([],8)else Vp (Jg f)
def Kq(base:List (List Nd))(f:List Nd):List Int:=(List.range f.length).map fun(i:Nat)=>bif Js (f.getD i Nd.zero)then Yx base (Yz f (i:Int))else -1
def Vh(n:Nd)(k:Int)(t:Nat)(v:List Bool):Bool :=
 bif decide (0<=k)then t.testBit k.toNat
 else bif n.op==1 then true
 else bif n.op==4 then !v.getD n.x.toNat false
 else bif n.op==5 then v.getD n.x.toNat false&&v.getD n.y.toNat false
 else bif n.op==6 then v.getD n.x.toNat false||v.getD n.y.toNat false
 else bif n.op==7 then !v.getD n.x.toNat false||v.getD n.y.toNat false
 else bif n.op==8 then v.getD n.x.toNat false==v.getD n.y.toNat false
 else false
def Om(t:Nat):List Nd->List Int->List Bool->List Bool
 |n :: r,k :: s,v=>Om t r s (v++ [Vh n k t v])
 |_,_,v=>v
def atN(f:List Nd)(ps:List Int)(t:Nat):Bool:=(Om t f ps []).getLastD false
def Ya(base:List (List Nd))(f:List Nd):List Bool:=(List.range (2^base.length)).map fun t=>atN f (Kq base f) t
structure Kn where
 agent:Int
 place:Nat
 holds:List Bool
structure Cm where
 place:Nat
 group:Int
 x:List Bool
 y:List Bool
 parts:Nat
def Ds(base:List (List Nd))(g:List Nd):Nat:=((List.range 4).filter fun i=>Yi (Qo g).g i).foldl (fun p i=>p|||2^(Yx base (Gi i g)).toNat) 0
def Li(base:List (List Nd))(g:List Nd)(i:Nat):List Kn:=bif (Qo g).op==9 then [⟨(Qo g).i,i,Ya base (Yz g (Qo g).x)⟩]else []
def So(base:List (List Nd))(g:List Nd)(i:Nat):List Cm:=bif (Qo g).op==13 then [⟨i,(Qo g).g,Ya base (Yz g (Qo g).x),Ya base (Yz g (Qo g).y),Ds base g⟩]else []
def Zb(base:List (List Nd)):List Kn:=(List.range base.length).flatMap fun i=>Li base (base.getD i []) i
def Jf(base:List (List Nd)):List Cm:=(List.range base.length).flatMap fun i=>So base (base.getD i []) i
def Fk(lg:Int):Bool:=lg==2||(lg==4||lg==6)
def Ye(lg:Int)(ks:List Kn)(cs:List Cm)(t:Nat):Bool :=
 cs.all (fun c=>t.testBit c.place==((t&&&c.parts)==c.parts))&&ks.all (fun k=> !(Fk lg&&(t.testBit k.place&& !k.holds.getD t false)))
def Ze(lg:Int)(ks:List Kn)(a:Int)(t u:Nat):Bool:=ks.all fun k=>k.agent !=a||Ve lg (t.testBit k.place) (k.holds.getD u false) (u.testBit k.place)
def Xj(lg:Int)(ks:List Kn)(alive:List Bool)(a:Int)(t:Nat)(wanted:Nat->Bool)(u:Nat):Bool:=alive.getD u false&&(wanted u&&Ze lg ks a t u)
def Xz(lg:Int)(ks:List Kn)(alive:List Bool)(a:Int)(t:Nat)(wanted:Nat->Bool):Int:=match (List.range alive.length).find? (Xj lg ks alive a t wanted)with|none=> -1|some u=>u
def Lv(lg:Int)(ks:List Kn)(alive:List Bool)(c:Cm)(t u:Nat):Bool:=alive.getD u false&&(c.x.getD u false&&(List.range 4).any fun(a:Nat)=>Yi c.group a&&Ze lg ks (a:Int) t u)
open Classical in
noncomputable def Ms (lg:Int) (ks:List Kn) (alive:List Bool) (c:Cm) (t:Nat):Bool:=decide (∃u,Rch (fun a b=>Lv lg ks alive c a b=true) t u/\c.y.getD u false=false)
noncomputable def Vj (lg:Int) (ks:List Kn) (cs:List Cm) (alive:List Bool) (t:Nat) (num:Int):Bool :=
 bif decide (num < 0)then(lg==1||lg==5)&&(ks.any (fun k=>k.agent== -1 - num)&&decide (Xz lg ks alive (-1 - num) t (fun _=>true) < 0))
 else match ks.find? (fun k=>(k.place:Int)==num)with
  |some k=> !t.testBit num.toNat&&decide (Xz lg ks alive k.agent t (fun u=> !k.holds.getD u false) < 0)
  |none=>match cs.find? (fun c=>(c.place:Int)==num)with
   |some c=> !t.testBit num.toNat&& !Ms lg ks alive c t
   |none=>false
def Gd(alive root:List Bool):Bool:=(List.range alive.length).any fun t=>alive.getD t false&&root.getD t false
noncomputable def Ni (lg:Int) (ks:List Kn) (cs:List Cm) (m:Nat) (alive:List Bool) (t:Nat):Option Int :=
 ((List.range (m+4)).map fun(j:Nat)=>(j:Int) - 4).find? fun i=>Vj lg ks cs alive t i
def Kl(why:List Bool->Nat->Option Int):List Nat->List Bool×List (Nat×Int)->List Bool×List (Nat×Int)
 |[],s=>s
 |t :: r,s=>Kl why r (bif s.1.getD t false then(match why s.1 t with|none=>s|some i=>(s.1.set t false,s.2++ [(t,i)]))else s)
def Da(why:List Bool->Nat->Option Int):Nat->List Bool×List (Nat×Int)->List Bool×List (Nat×Int)
 |0,s=>s
 |k+1,s=>bif (Kl why (List.range s.1.length) s).2.length==s.2.length then s else Da why k (Kl why (List.range s.1.length) s)
noncomputable def Qqi (lg:Int) (ks:List Kn) (cs:List Cm) (m:Nat) (alive:List Bool):List Bool×List (Nat×Int):=Da (Ni lg ks cs m) (alive.length+1) (alive,[])
def Vo(lg:Int)(base:List (List Nd)):List Bool:=(List.range (2^base.length)).map fun t=>Ye lg (Zb base) (Jf base) t
def Zr(lg:Int)(f:List Nd):Int:=bif decide (lg < 0)||decide (6 < lg)then 1 else(Qr f).2
noncomputable def Fd (lg:Int) (f:List Nd):List Bool×List (Nat×Int):=Qqi lg (Zb (Qr f).1) (Jf (Qr f).1) (Qr f).1.length (Vo lg (Qr f).1)
def Fx(f:List Nd):List Bool:=Ya (Qr f).1 (Jg f)
noncomputable def Kt (lg:Int) (f:List Nd):Bool:=Gd (Fd lg f).1 (Fx f)
noncomputable def Dt (lg:Int) (f:List Nd):Int:=bif Zr lg f !=0 then Zr lg f else bif Kt lg f then 15 else 0
noncomputable def Nz (lg:Int) (f:List Nd):Bool×Int:=bif Zr lg f !=0 then(false,Zr lg f)else(Kt lg f,0)
def Qg6(lk:List Bool->Nat->Int->Bool):List Nat->List Int->List Bool->Option (List Bool)
 |t :: r,i :: s,al=>bif decide (t < al.length)&&(al.getD t false&&lk al t i)then Qg6 lk r s (al.set t false)else none
 |_,_,al=>some al
noncomputable def Zjh (lg:Int) (f:List Nd) (ts:List Nat) (ws:List Int):Int :=
 bif Zr lg f !=0 then Zr lg f else bif ts.length !=ws.length then 3
 else match Qg6 (Vj lg (Zb (Qr f).1) (Jf (Qr f).1)) ts ws (Vo lg (Qr f).1)with
  |none=>13
  |some al=>bif Gd al (Fx f)then 13 else 0
def Zh(t:Tr):List Nd:=bif decide (200 < (Qn t).length)then []else Qn t
theorem Xn {t:Tr}(h:(Qn t).length<=200):Zh t=Qn t:=by
 unfold Zh;rw [decide_eq_false (by omega)];rfl
theorem Kp {t:Tr}(h:200 < (Qn t).length):Zh t= []:=by
 unfold Zh;rw [decide_eq_true h];rfl
theorem Dh:check []≠0:=by decide
def Zje(l:List Nd):List Nd:=bif decide (200 < (Za l (l.length - 1) []).1.length)then []else(Za l (l.length - 1) []).1
theorem Qvg(f:List Nd):f.map (Jt 0)=f:=by
 rw [show Jt 0=id from by funext m;unfold Jt;cases Qe m.op <;> cases Qh m.op <;> simp];simp
theorem Qy1 {n:Nd} {f:List Nd}(hf:check f=0)(h1:Qe n.op=true)(h2:Qh n.op=false)(hh:Zp n):Yp n [f]=Zh (.one n.head (Qp f)):=by
 obtain⟨cw,cl,cp,_⟩:=Jw hf;unfold Yp;have e0: [f].any (fun o=>check o !=0)=false:=by simp [hf]
 rw [e0,cond_false];have eL:Fr [f] 0 [] n=(Qg f,{ n with x:=((Qg f).length:Int) - 1 }):=by
  simp only [Fr,Mt,List.nil_append,List.length_nil,Qvg];rfl
 rw [eL];generalize hm:({ n with x:=((Qg f).length:Int) - 1 } :Nd)=m;have mo:m.op=n.op:=by rw [<-hm]
 have mx:m.x=((Qg f).length:Int) - 1:=by rw [<-hm]
 have mh:m.head=n.head:=by
  rw [<-hm];unfold Nd.head Nd.with_;simp [h1,h2]
 have hmh:Zp m:=by
  rw [<-hm];exact⟨hh.1,hh.2.1,hh.2.2.1,fun h=>by(rw [h1]at h;cases h),hh.2.2.2.2⟩
 have herr:Zq m (Qg f).length=0:=hmh.err (fun _=>by omega) (fun h=>by rw [mo,h2]at h;cases h);have hw:Wf (Qg f++ [m]):=Py cw (fun _=>by omega) (fun h=>by rw [mo,h2]at h;cases h);have htr:tr (Qg f++ [m]) (Qg f).length=.one n.head (Qp f):=by
  rw [Xv hw (n:=m) (by simp)];unfold Yh;rw [mo,h1,h2,mh,mx];rw [show(((Qg f).length:Int) - 1).toNat=(Qg f).length - 1 by omega,Ua cw hw (List.prefix_append _ _) _ (by omega)];rw [show tr (Qg f) ((Qg f).length - 1)=Qp (Qg f)from rfl,Xr hf];rfl
 unfold Nf;have hfin:(Za (Qg f++ [m]) (Qg f).length []).1=Qn (.one n.head (Qp f)):=by
  rw [Ty hw _ _ (by simp),htr];rfl
 simp only [herr,hfin];rfl
theorem Qrd {n:Nd} {f g:List Nd}(hf:check f=0)(hg:check g=0)(h1:Qe n.op=true)(h2:Qh n.op=true)(hh:Zp n):Yp n [f,g]=Zh (.two n.head (Qp f) (Qp g)):=by
 obtain⟨cw,cl,cp,_⟩:=Jw hf;obtain⟨dw,dl,dp,_⟩:=Jw hg;unfold Yp;have e0: [f,g].any (fun o=>check o !=0)=false:=by simp [hf,hg]
 rw [e0,cond_false];have eL:Fr [f,g] 0 [] n=(Qg f++(Qg g).map (Jt (Qg f).length),{ n with x:=((Qg f).length:Int) - 1,y:=((Qg f).length:Int)+(Qg g).length - 1 }):=by
  simp only [Fr,Mt,List.nil_append,List.length_nil,Qvg];simp
 rw [eL];have hFw:=Qyx cw dw;have hFl:(Qg f++(Qg g).map (Jt (Qg f).length)).length=(Qg f).length+(Qg g).length:=by simp
 have hF1:tr (Qg f++(Qg g).map (Jt (Qg f).length)) ((Qg f).length - 1)=Qp f:=by
  rw [Ua cw hFw (List.prefix_append _ _) _ (by omega),show tr (Qg f) ((Qg f).length - 1)=Qp (Qg f)from rfl,Xr hf]
 have hF2:tr (Qg f++(Qg g).map (Jt (Qg f).length)) ((Qg f).length+(Qg g).length - 1)=Qp g:=by
  rw [show(Qg f).length+(Qg g).length - 1=(Qg f).length+((Qg g).length - 1) by omega,Qhw cw dw _ (by omega),show tr (Qg g) ((Qg g).length - 1)=Qp (Qg g)from rfl,Xr hg]
 generalize Qg f++(Qg g).map (Jt (Qg f).length)=F at *;generalize hm:({ n with x:=((Qg f).length:Int) - 1,y:=((Qg f).length:Int)+(Qg g).length - 1 } :Nd)=m;have mo:m.op=n.op:=by rw [<-hm]
 have mx:m.x=((Qg f).length:Int) - 1:=by rw [<-hm]
 have my:m.y=((Qg f).length:Int)+(Qg g).length - 1:=by rw [<-hm]
 have mh:m.head=n.head:=by
  rw [<-hm];unfold Nd.head Nd.with_;simp [h1,h2]
 have hmh:Zp m:=by
  rw [<-hm];exact⟨hh.1,hh.2.1,hh.2.2.1,fun h=>by(rw [h1]at h;cases h),fun h=>by(rw [h2]at h;cases h)⟩
 have herr:Zq m F.length=0:=hmh.err (fun _=>by omega) (fun _=>by omega);have hw:Wf (F++ [m]):=Py hFw (fun _=>by omega) (fun _=>by omega);have htr:tr (F++ [m]) F.length=.two n.head (Qp f) (Qp g):=by
  rw [Xv hw (n:=m) (by simp)];unfold Yh;rw [mo,h2,mh,mx,my];rw [show(((Qg f).length:Int) - 1).toNat=(Qg f).length - 1 by omega,Ua hFw hw (List.prefix_append _ _) _ (by omega),hF1];rw [show(((Qg f).length:Int)+(Qg g).length - 1).toNat=(Qg f).length+(Qg g).length - 1 by omega,Ua hFw hw (List.prefix_append _ _) _ (by omega),hF2];rfl
 unfold Nf;have hfin:(Za (F++ [m]) F.length []).1=Qn (.two n.head (Qp f) (Qp g)):=by
  rw [Ty hw _ _ (by simp),htr];rfl
 simp only [herr,hfin];rfl
theorem Qyi {n:Nd} {f:List Nd}(hf:check f≠0):Yp n [f]= []:=by
 unfold Yp;have e0: [f].any (fun o=>check o !=0)=true:=by simpa using hf
 rw [e0,cond_true]
theorem Qy0 {n:Nd} {f g:List Nd}(hf:check f≠0\/check g≠0):Yp n [f,g]= []:=by
 unfold Yp;have e0: [f,g].any (fun o=>check o !=0)=true:=by simp;exact hf
 rw [e0,cond_true]
def Can(l:List Nd):Prop:=l= []\/∃t:Tr,t.ok/\l=Qn t
theorem Sb(n:Nd):Qn (.leaf n)= [n]:=by simp [Qn,ins,Jb]
theorem En {n:Nd}(h1:Qe n.op=false)(h2:Qh n.op=false)(hh:Zp n):Zq n 0=0/\Yp n []= [n]:=by
 have herr:Zq n 0=0:=hh.err (a:=0) (fun h=>by rw [h1]at h;cases h) (fun h=>by rw [h2]at h;cases h);refine⟨herr,?_⟩;have hw:Wf ([]++ [n]):=Py By (fun h=>by rw [h1]at h;cases h) (fun h=>by rw [h2]at h;cases h);have hfin:(Za ([]++ [n]) ([]:List Nd).length []).1= [n]:=by
  rw [Ty hw _ _ (by simp),Xv hw (n:=n) (by simp)];unfold Yh;rw [h1,h2];exact Sb n
 unfold Yp;show Nf [] n= [n];unfold Nf;have e:Zq n (([]:List Nd).length:Int)=0:=herr;simp only [hfin,e];rfl
theorem Qag(k:Int)(h:k=1\/k=2\/k=4\/k=5\/k=6):Zp ⟨k,0,0,0,0,0⟩:=by
 rcases h with rfl|rfl|rfl|rfl|rfl <;> exact⟨by decide,by decide,by decide,fun _=>rfl,fun _=>rfl⟩
theorem Zzm {n:Nd}(h:Zp n)(ho:n.op=3):Zp ⟨3,n.i,0,0,0,0⟩:=by
 obtain⟨_,_,h3,_,_⟩:=h;refine⟨rfl,by simp [Ji,Zm,Zz,Zn,Zg],?_,fun _=>rfl,fun _=>rfl⟩;unfold Yb at h3⊢;rw [ho]at h3
 simpa [Jy,Zm,Zz,Zn,Zg]using h3
theorem Qxh:Oq= [⟨1,0,0,0,0,0⟩]:=(En rfl rfl (Qag 1 (by omega))).2
theorem Qr5:Ag= [⟨2,0,0,0,0,0⟩]:=(En rfl rfl (Qag 2 (by omega))).2
def Zjr(x:Nd)(a b:List Nd):List Nd :=
 bif Qh x.op then Yp { x with x:=0,y:=0 } [a,b]else bif Qe x.op then Yp { x with x:=0,y:=0 } [a]else [{ x with x:=0,y:=0 }]
end Go.Proofs.YtkmclcmnoicagaaGreatDoor
