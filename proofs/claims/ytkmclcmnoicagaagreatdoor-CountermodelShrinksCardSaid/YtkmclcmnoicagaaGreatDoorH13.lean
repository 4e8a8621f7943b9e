/- Truth along an embedding with a closed image: the part of a model that is closed under its relations says the same (plain). -/
import Derived.Test.YtkmclcmnoicagaaGreatDoorH12
import Derived.RegionTactic
import Derived.Maps.AppendAt
namespace Go.Proofs.YtkmclcmnoicagaaGreatDoor
set_option maxRecDepth 100000
set_option maxHeartbeats 128000000
def Qaw(A F:Nat)(n:Nd):Prop :=
 (n.op=3->0<=n.i/\n.i < F)/\(n.op=9\/n.op=10->0<=n.i/\n.i < A)/\
  (n.op=11\/n.op=12\/n.op=13->(∀j:Nat,Vg n.g j=true->j < A)/\∃j:Nat,j < 4/\Vg n.g j=true)
structure Emb (M N:KM) (A F:Nat) (e:M.W->N.W):Prop where
 fact:∀i:Int,0<=i->i < F->∀u,M.V i u↔N.V i (e u)
 rel:∀i:Int,0<=i->i < A->∀u v,M.R i u v↔N.R i (e u) (e v)
 cl:∀i:Int,0<=i->i < A->∀u y,N.R i (e u) y->∃v,e v=y
section
variable {M N:KM} {A F:Nat} {e:M.W->N.W}
theorem Emb.sat(h:Emb M N A F e):∀(t:Tr),t.all (Qaw A F)->∀u,M.sat t u↔N.sat t (e u)
 |.leaf n,hf,u=>by
  show(n.op=1\/(n.op=3/\M.V n.i u))↔(n.op=1\/(n.op=3/\N.V n.i (e u)));refine or_congr Iff.rfl (and_congr_right fun h3=>h.fact _ (hf.1 h3).1 (hf.1 h3).2 u)
 |.one n a,hf,u=>by
  have ih:=h.sat a hf.2;unfold KM.sat;by_cases h4:n.op=4
  ·rw [if_pos h4,if_pos h4,ih u]
  rw [if_neg h4,if_neg h4];by_cases h9:n.op=9
  ·rw [if_pos h9,if_pos h9];obtain⟨h0,h1⟩:=hf.1.2.1 (.inl h9);constructor
   ·intro k y hy;obtain⟨v,rfl⟩:=h.cl _ h0 h1 u y hy;exact(ih v).1 (k v ((h.rel _ h0 h1 u v).2 hy))
   intro k v hv;exact(ih v).2 (k (e v) ((h.rel _ h0 h1 u v).1 hv))
  rw [if_neg h9,if_neg h9];by_cases xT:n.op=10
  ·rw [if_pos xT,if_pos xT];obtain⟨h0,h1⟩:=hf.1.2.1 (.inr xT);constructor
   ·rintro⟨v,hv,k⟩;exact⟨e v,(h.rel _ h0 h1 u v).1 hv,(ih v).1 k⟩
   rintro⟨y,hy,k⟩;obtain⟨v,rfl⟩:=h.cl _ h0 h1 u y hy;exact⟨v,(h.rel _ h0 h1 u v).2 hy,(ih v).2 k⟩
  rw [if_neg xT,if_neg xT];by_cases uL:n.op=11
  ·rw [if_pos uL,if_pos uL];obtain⟨hA,_⟩:=hf.1.2.2 (.inl uL);have oN:∀i:Nat,Vg n.g i=true->(0:Int)<=i/\(i:Int) < A:=fun i hi=>by have:=hA i hi;omega
   constructor
   ·intro k i hi hg y hy;obtain⟨v,rfl⟩:=h.cl _ (oN i hg).1 (oN i hg).2 u y hy;exact(ih v).1 (k i hi hg v ((h.rel _ (oN i hg).1 (oN i hg).2 u v).2 hy))
   intro k i hi hg v hv;exact(ih v).2 (k i hi hg (e v) ((h.rel _ (oN i hg).1 (oN i hg).2 u v).1 hv))
  rw [if_neg uL,if_neg uL];by_cases h12:n.op=12
  ·rw [if_pos h12,if_pos h12];obtain⟨hA,j,hj,YY⟩:=hf.1.2.2 (.inr (.inl h12));have oN:∀i:Nat,Vg n.g i=true->(0:Int)<=i/\(i:Int) < A:=fun i hi=>by have:=hA i hi;omega
   constructor
   ·intro k y hy;obtain⟨v,rfl⟩:=h.cl _ (oN j YY).1 (oN j YY).2 u y (hy j hj YY);exact(ih v).1 (k v fun i hi hg=>(h.rel _ (oN i hg).1 (oN i hg).2 u v).2 (hy i hi hg))
   intro k v hv;exact(ih v).2 (k (e v) fun i hi hg=>(h.rel _ (oN i hg).1 (oN i hg).2 u v).1 (hv i hi hg))
  rw [if_neg h12,if_neg h12]
 |.two n a b,hf,u=>by
  have iha:=h.sat a hf.2.1;have ihb:=h.sat b hf.2.2;unfold KM.sat;by_cases h5:n.op=5
  ·rw [if_pos h5,if_pos h5,iha u,ihb u]
  rw [if_neg h5,if_neg h5];by_cases h6:n.op=6
  ·rw [if_pos h6,if_pos h6,iha u,ihb u]
  rw [if_neg h6,if_neg h6];by_cases h7:n.op=7
  ·rw [if_pos h7,if_pos h7,iha u,ihb u]
  rw [if_neg h7,if_neg h7];by_cases h8:n.op=8
  ·rw [if_pos h8,if_pos h8,iha u,ihb u]
  rw [if_neg h8,if_neg h8];by_cases xI:n.op=13
  ·rw [if_pos xI,if_pos xI];obtain⟨hA,_⟩:=hf.1.2.2 (.inr (.inr xI));have oN:∀i:Nat,Vg n.g i=true->(0:Int)<=i/\(i:Int) < A:=fun i hi=>by have:=hA i hi;omega
   have wZ:∀x y,M.step n.g (M.sat a) x y↔N.step n.g (N.sat a) (e x) (e y):=fun x y=>by
    unfold KM.step;rw [iha y];refine and_congr ⟨?_,?_⟩ Iff.rfl
    ·rintro⟨i,hi,hg,hr⟩;exact⟨i,hi,hg,(h.rel _ (oN i hg).1 (oN i hg).2 x y).1 hr⟩
    rintro⟨i,hi,hg,hr⟩;exact⟨i,hi,hg,(h.rel _ (oN i hg).1 (oN i hg).2 x y).2 hr⟩
   have yU:∀x q,N.step n.g (N.sat a) (e x) q->∃y,e y=q:=fun x q=>by
    rintro⟨⟨i,hi,hg,hr⟩,_⟩;exact h.cl _ (oN i hg).1 (oN i hg).2 x q hr
   have up:∀x y,Kj (M.step n.g (M.sat a)) x y->Kj (N.step n.g (N.sat a)) (e x) (e y):=fun x y hr=>hr.map e (fun x y h=>(wZ x y).1 h)
   have down:∀p q,Kj (N.step n.g (N.sat a)) p q->∀x,e x=p->∃y,e y=q/\Kj (M.step n.g (M.sat a)) x y:=by
    intro p q hr
    induction hr with
    |@one p q hp =>
     rintro x rfl;obtain⟨y,rfl⟩:=yU x q hp;exact⟨y,rfl,.one ((wZ x y).2 hp)⟩
    |@cons p q r hp _ ih =>
     rintro x rfl;obtain⟨y,rfl⟩:=yU x q hp;obtain⟨z,hz,hr⟩:=ih y rfl;exact⟨z,hz,.cons ((wZ x y).2 hp) hr⟩
   constructor
   ·intro k v hv;obtain⟨y,rfl,hy⟩:=down _ _ hv u rfl;exact(ihb y).1 (k y hy)
   intro k v hv;exact(ihb v).2 (k (e v) (up _ _ hv))
  rw [if_neg xI,if_neg xI]
theorem Emb.frm(h:Emb M N A F e) {lg:Int} {i:Int}(h0:0<=i)(h1:i < A)(hN:Frm lg (N.R i)):Frm lg (M.R i) where
 ser:=fun hl w=>by
  obtain⟨y,hy⟩:=hN.ser hl (e w);obtain⟨v,rfl⟩:=h.cl i h0 h1 w y hy;exact⟨v,(h.rel i h0 h1 w v).2 hy⟩
 refl:=fun hl w=>(h.rel i h0 h1 w w).2 (hN.refl hl (e w))
 trans:=fun hl u v w a b=>(h.rel i h0 h1 u w).2 (hN.trans hl _ _ _ ((h.rel i h0 h1 u v).1 a) ((h.rel i h0 h1 v w).1 b))
 eucl:=fun hl u v w a b=>(h.rel i h0 h1 v w).2 (hN.eucl hl _ _ _ ((h.rel i h0 h1 u v).1 a) ((h.rel i h0 h1 u w).1 b))
end
theorem Qqh {md:Md} {lg:Int}(zU:Qa md=0)(xX:0<=lg/\lg<=6):Fw md lg↔∀a:Nat,a < md.rel.length->Frm lg ((Gx md).R (a:Int)):=by
 constructor
 ·intro h a _;exact Qs3 h (a:Int)
 intro h;refine⟨xX,zU,fun r hr=> ?_⟩;obtain⟨a,ha,rfl⟩:=List.getElem_of_mem hr;have hF:=h a ha;have hl:=(Zv zU).2.2.2.2.1 _ hr;have IK:(md.rel[a]).length=md.n.toNat:=by omega
 have ea:md.rel.getD a []=md.rel[a]:=by rw [Qk,Qv ha];rfl
 have hR:∀u v:Fin md.n.toNat,(Gx md).R (a:Int) u v↔((md.rel[a]).getD u.1 0).testBit v.1=true:=fun u v=>by
  rw [kmR ha u v,ea]
 have hb:∀u v,((md.rel[a]).getD u 0).testBit v=true->u < md.n.toNat/\v < md.n.toNat:=fun u v hv=>by
  refine Da zU a u v ?_;rw [ea];exact hv
 unfold Dm Gd;intro q hq;have hp:(q=1/\(lg=1\/lg=5))\/(q=2/\(lg=2\/lg=4\/lg=6))\/(q=4/\3<=lg/\lg<=6)\/(q=5/\(lg=5\/lg=6)):=by
  have hc:lg=0\/lg=1\/lg=2\/lg=3\/lg=4\/lg=5\/lg=6:=by omega
  rcases hc with rfl|rfl|rfl|rfl|rfl|rfl|rfl <;> simp at hq <;> omega
 rcases hp with⟨rfl,hl⟩|⟨rfl,hl⟩|⟨rfl,hl⟩|⟨rfl,hl⟩
 ·have h1:∀i,i < (md.rel[a]).length->(md.rel[a]).getD i 0≠0:=fun i hi e=>by
   obtain⟨v,hv⟩:=hF.ser hl ⟨i,by omega⟩;have:=(hR _ _).1 hv;rw [e,Nat.zero_testBit]at this;cases this
  exact h1
 ·have h1:Qx8 (md.rel[a]):=fun i hi=>(hR ⟨i,by omega⟩ ⟨i,by omega⟩).1 (hF.refl hl _)
  exact h1
 ·have h1:Gy false (md.rel[a]):=fun i j hi hj sK=>Je.2 fun k hk=>by
   have h2:=hb _ _ hk;exact(hR ⟨i,by omega⟩ ⟨k,h2.2⟩).1 (hF.trans hl ⟨i,by omega⟩ ⟨j,by omega⟩ ⟨k,h2.2⟩ ((hR _ _).2 sK) ((hR _ _).2 hk))
  exact h1
 have h1:Gy true (md.rel[a]):=fun i j hi hj sK=>Je.2 fun k hk=>by
  have h2:=hb _ _ hk;exact(hR ⟨j,by omega⟩ ⟨k,h2.2⟩).1 (hF.eucl hl ⟨i,by omega⟩ ⟨j,by omega⟩ ⟨k,h2.2⟩ ((hR _ _).2 sK) ((hR _ _).2 hk))
 exact h1
open Go.RowKit
section
variable {P:Program} {ops:Array Oper} {Q:Exit->Act->World->Prop} {md:Region.Mode} {S:World->Prop} {z:Nat}
def Fr(P:Program)(md:Region.Mode)(ops:Array Oper)(Q:Exit->Act->World->Prop)(S:World->Prop)(z:Nat):Nat->Array Bool->Act->World->Prop
 |0,up,a,w=>Region.ready md ops up= []/\Q .normal a w
 |n+1,up,a,w=>(Region.ready md ops up= []->Q .normal a w)/\∀i∈Region.ready md ops up,wpOp P ops Q i (fun b v=>(i≠z->S v)/\Fr P md ops Q S z n (up.setIfInBounds i true) b v) a w
theorem Fr.any:∀(n:Nat) (up:Array Bool) (a:Act) (w:World),Fr P md ops Q S z n up a w->wpAny P md ops Q n up a w
 |0,_,_,_,h=>h
 |n+1,_,_,_,h=>⟨h.1,fun i hi=>wpOp_mono (fun b v g=>Fr.any n _ b v g.2) (h.2 i hi)⟩
def Qdk(md:Region.Mode)(ops:Array Oper)(z i:Nat):Prop:=∀o,ops[z]?=some o->∃e∈o.after,Region.binds md e=true/\e.on=i
theorem Zz4 {up:Array Bool} {i:Nat}(h0:up.getD i true=false)(h1:up.getD i false=true):False:=by
 rcases Nat.lt_or_ge i up.size with h'|h'
 ·simp [h']at h0 h1;rw [h0]at h1;cases h1
 simp [Array.getElem?_eq_none h']at h1
theorem Fr.first {i:Nat} {oi:Oper} {v:Value}(hi:ops[i]?=some oi)(cE:∀(j:Nat) (o:Oper) cs b,ops[j]?=some o->o.op≠.select cs b)(hQ:∀c a w,Q (.panic c) (a.put oi.dst v) w->Q (.panic c) a w)
 (hz:Qdk md ops z i):∀(n:Nat) (up:Array Bool) (a:Act) (w:World),
  (∀j oj,ops[j]?=some oj->j≠i->up.getD j true=false->(∀e∈oj.after,Region.binds md e=true->e.on≠i)->oi.apart ops oj=true)->
  i∈Region.ready md ops up->YieldsIf P ops S oi v a->S w->Fr P md ops Q S z n (up.setIfInBounds i true) (a.put oi.dst v) w->Fr P md ops Q S z (n+1) up a w
 |0,up,a,w,_,hr,hy,hS,H=>⟨fun h=>(by rw [h]at hr;cases hr),fun j hj=>by
  by_cases e:j=i
  ·subst e;exact hy.wpOp hi hS ⟨fun _=>hS,H⟩
  have h2:=ready_mono hj e;rw [H.1]at h2;cases h2⟩
 |n+1,up,a,w,hfree,hr,hy,hS,H=>⟨fun h=>(by rw [h]at hr;cases hr),fun j hj=>by
  by_cases e:j=i
  ·subst e;exact hy.wpOp hi hS ⟨fun _=>hS,H⟩
  obtain⟨LR,oj,II,DD⟩:=mem_ready.1 hj;have BY:=(mem_ready.1 hr).1;have KT:∀e∈oj.after,Region.binds md e=true->e.on≠i:=fun d hd hb hq=>Zz4 BY (by have:=DD d hd hb;rwa [hq]at this)
  have BQ:j≠z:=fun BQ=>by
   subst BQ;obtain⟨d,hd,hb,hq⟩:=hz oj II;exact KT d hd hb hq
  have h2:=wpOp_putIf II (hfree j oj II e LR KT) (fun cs b=>cE i oi cs b hi) (fun cs b=>cE j oj cs b II) hQ hy (H.2 j (ready_mono hj e));refine wpOp_mono (fun b v h3=>⟨h3.2.1,Fr.first hi cE hQ hz n (up.setIfInBounds j true) b v (fun k ok hk hki bZ oI=>hfree k ok hk hki ?_ oI) (ready_mono hr (Ne.symm e)) h3.1 (h3.2.1 BQ) ?_⟩) h2
  ·by_cases qO:j=k
   ·subst qO;exact LR
   rw [getD_set_ne true qO]at bZ;exact bZ
  rw [Array.setIfInBounds_comm _ _ e];exact h3.2.2⟩
def Qgy(md:Region.Mode)(ops:Array Oper)(z i:Nat):Bool:=match ops[z]? with|none=>true|some o=>o.after.any fun e=>Region.binds md e&&e.on==i
theorem Qoo {i:Nat}(h:Qgy md ops z i=true):Qdk md ops z i:=by
 intro o ho;unfold Qgy at h;rw [ho]at h;simp only [Array.any_eq_true']at h;obtain⟨e,he,hb⟩:=h;rw [Bool.and_eq_true]at hb;exact⟨e,he,hb.1,eq_of_beq hb.2⟩
theorem Qhp {i:Nat} {oi:Oper} {v:Value} {n:Nat} {up:Array Bool} {a:Act} {w:World}(hi:ops[i]?=some oi)(hs:Region.noSelect ops=true)(hf:Region.free md ops up i=true)(hr:(Region.ready md ops up).contains i=true)
 (hz:Qgy md ops z i=true)(hQ:∀c a w,Q (.panic c) (a.put oi.dst v) w->Q (.panic c) a w)(hy:YieldsIf P ops S oi v a)(hS:S w)
 (h:Fr P md ops Q S z n (up.setIfInBounds i true) (a.put oi.dst v) w):Fr P md ops Q S z (n+1) up a w :=
 Fr.first hi (Region.noSelect_spec hs) hQ (Qoo hz) n up a w (Region.free_spec hi hf) (by simpa using hr) hy hS h
def Zj(P:Program)(md:Region.Mode)(ops:Array Oper)(Q:Exit->Act->World->Prop)(S:World->Prop)(z n:Nat)(up:Array Bool)(a:Act)(w:World)(rs:List Nat):Prop :=
 ∀i∈rs,wpOp P ops Q i (fun b v=>(i≠z->S v)/\Fr P md ops Q S z n (up.setIfInBounds i true) b v) a w
theorem Qe {rs:List Nat} {n:Nat} {up:Array Bool} {a:Act} {w:World}(hr:Region.ready md ops up=rs)(zQ:rs≠ [])(h:Zj P md ops Q S z n up a w rs):Fr P md ops Q S z (n+1) up a w :=
 ⟨fun h0=>absurd (hr▸h0) zQ,hr▸h⟩
theorem Zj.nil {n:Nat} {up:Array Bool} {a:Act} {w:World} :Zj P md ops Q S z n up a w []:=fun _ h=>by cases h
theorem Zj.cons {n:Nat} {up:Array Bool} {a:Act} {w:World} {i:Nat} {o:Oper} {rs:List Nat}(ho:ops[i]?=some o)
 (h:∀K:Act->World->Prop,Hid (∀a w,S w->(S w->Fr P md ops Q S z n (up.setIfInBounds i true) a w)->K a w)->if Region.wanted o (yielded ops a.tmps)=true then Oper.wp P o a w K Q else K (a.put o.dst undef) w)
 (hs:Zj P md ops Q S z n up a w rs):Zj P md ops Q S z n up a w (i :: rs):=fun j hj=>by
 rcases List.mem_cons.1 hj with rfl|hj
 ·exact wpOp_step ho (fun K hK=>h K (Qq (fun a w hS hW=>hK a w ⟨fun _=>hS,hW hS⟩)))
 exact hs j hj
theorem Yh {n:Nat} {up:Array Bool} {a:Act} {w:World} {o:Oper}(hr:Region.ready md ops up= [z])(ho:ops[z]?=some o)
 (h:∀K:Act->World->Prop,Hid (∀a w,Fr P md ops Q S z n (up.setIfInBounds z true) a w->K a w)->if Region.wanted o (yielded ops a.tmps)=true then Oper.wp P o a w K Q else K (a.put o.dst undef) w):Fr P md ops Q S z (n+1) up a w :=
 ⟨fun h0=>(by rw [hr]at h0;cases h0),fun j hj=>by
  rw [hr,List.mem_singleton]at hj;subst hj;exact wpOp_step ho (fun K hK=>h K (Qq (fun a w hW=>hK a w ⟨fun zQ=>absurd rfl zQ,hW⟩)))⟩
theorem Yc {up:Array Bool} {a:Act} {w:World}(hr:Region.ready md ops up= [])(h:Q .normal a w):∀n,Fr P md ops Q S z n up a w
 |0=>⟨hr,h⟩
 |_+1=>⟨fun _=>h,by rw [hr];simp⟩
theorem Ym {id:Nat} {a:Act} {w:World}(z:Nat)(S:World->Prop)(hm:P.follows .mixedOrders=true)(hS:S w.drew)(h:S w.drew->Fr P .any ops Q S z ops.size (Array.replicate ops.size false) a w.drew):(Code.region id ops true).wp P Q a w :=
 wp_region_any hm (Fr.any _ _ _ _ (h hS))
end
theorem Qb {P:Program} {md:Region.Mode} {ops:Array Oper} {Q:Exit->Act->World->Prop} {S:World->Prop} {z n:Nat} {up:Array Bool} {a a':Act} {w:World}(h:Fr P md ops Q S z n up a' w)(e:a=a':=by(try simp only [Act.put,List.setIfInBounds_toArray,List.set_cons_zero,List.set_cons_succ,List.getElem_toArray,List.getElem_cons_succ,List.getElem_cons_zero]);exact rfl):Fr P md ops Q S z n up a w:=e▸h
section
variable {P:Program} {md:Region.Mode} {ops:Array Oper} {Q:Exit->Act->World->Prop} {S:World->Prop} {z:Nat}
theorem Qo(i:Nat) {oi:Oper} {v:Value} {n:Nat} {up:Array Bool} {a a':Act} {w:World}(hS:S w)
 (h:Fr P md ops Q S z n (up.setIfInBounds i true) a' w)
 (hi:ops[i]?=some oi:=by exact rfl)(hs:Region.noSelect ops=true:=by kernel_rfl)(hf:Region.free md ops up i=true:=by kernel_rfl)(hr:(Region.ready md ops up).contains i=true:=by kernel_rfl)(hz:Qgy md ops z i=true:=by kernel_rfl)
 (hy:YieldsIf P ops S oi v a:=by refine Or.inl ⟨by rfl,?_⟩;intro w' DK;(try dsimp only at DK);go_simp;(try with_reducible rfl))
 (hQ:∀c a w,Q (.panic c) (a.put oi.dst v) w->Q (.panic c) a w:=by exact fun _ _ _ h=>h)
 (ha:a.put oi.dst v=a':=by(try simp only [Act.put,List.setIfInBounds_toArray,List.set_cons_zero,List.set_cons_succ,List.getElem_toArray,List.getElem_cons_succ,List.getElem_cons_zero]);exact rfl):Fr P md ops Q S z (n+1) up a w :=
 Qhp hi hs hf hr hz hQ hy hS (by rw [ha];exact h)
end
section
variable {a b:World} {p:Addr} {v:Value}
theorem xd(hb:p.block < a.heap.size)(f:a.cell? p=some v)(h:Qg a b:=by repeat(first|exact Qz|assumption|apply Qg.alloc|apply Qg.drew|apply Qg.setCell)):b.cell? p=some v:=(h.cell hb).trans f
theorem xv(e:Qg a b:=by repeat(first|exact Qz|assumption|apply Qg.alloc|apply Qg.drew|apply Qg.setCell)):Qg a b:=e
end
theorem Cx {op:Int}(h:op<=0\/22<=op):Zq op=false/\Qw op=false/\Zb op=false/\Zm op=false/\Zo op=false/\Zd op=false/\Vn op=0:=by
 have e:∀k:Int,1<=k->k<=21->(op==k)=false:=fun k h1 h2=>by rw [beq_eq_false_iff_ne];omega
 have a:(decide (4<=op)&&decide (op<=21))=false:=by simp;omega
 have b:(decide (5<=op)&&decide (op<=8))=false:=by simp;omega
 have c:(decide (11<=op)&&decide (op<=13))=false:=by simp;omega
 have d:(decide (18<=op)&&decide (op<=21))=false:=by simp;omega
 simp [Zq,Qw,Zb,Zm,Zo,Zd,Vn,a,b,c,d,e 3 (by omega) (by omega),e 9 (by omega) (by omega),e 10 (by omega) (by omega),e 11 (by omega) (by omega),e 12 (by omega) (by omega),e 13 (by omega) (by omega),e 14 (by omega) (by omega),e 15 (by omega) (by omega),e 16 (by omega) (by omega),e 17 (by omega) (by omega),e 19 (by omega) (by omega),e 21 (by omega) (by omega)]
theorem Qbx(op:Int)(w:World):Calls Tryz.prog 103 #[.int .i64 op] w fun e w'=>e=.returned (.bool (Zq op))/\w=w':=by
 rcases Dh op with h|h|h|h|h|h|h|h|h|h|h|h|h|h|h|h|h|h|h|h|h|h|h
 ·have hs:=Cx (.inl h);have HS:=Qq hs;clear hs;go_enter Tryz.func103,Tryz.ntmps103;go_wp2;go_ret;exact⟨by rw [HS.out.1];rfl,rfl⟩
 ·have hs:=Cx (.inr h);have d21:decide (op<=21)=false:=by simp;omega
  have HS:=Qq hs;clear hs;go_enter Tryz.func103,Tryz.ntmps103;go_wp2;go_ret;exact⟨by rw [HS.out.1];rfl,rfl⟩
 all_goals(subst h;go_enter Tryz.func103,Tryz.ntmps103;go_wp2;go_ret;exact⟨rfl,rfl⟩)
theorem Qbg(op:Int)(w:World):Calls Tryz.prog 104 #[.int .i64 op] w fun e w'=>e=.returned (.bool (Qw op))/\w=w':=by
 rcases Dh op with h|h|h|h|h|h|h|h|h|h|h|h|h|h|h|h|h|h|h|h|h|h|h
 ·have hs:=Cx (.inl h);have e13:(op==13)=false:=by rw [beq_eq_false_iff_ne];omega
  have e14:(op==14)=false:=by rw [beq_eq_false_iff_ne];omega
  have e16:(op==16)=false:=by rw [beq_eq_false_iff_ne];omega
  have e19:(op==19)=false:=by rw [beq_eq_false_iff_ne];omega
  have e21:(op==21)=false:=by rw [beq_eq_false_iff_ne];omega
  have HS:=Qq hs;clear hs;go_enter Tryz.func104,Tryz.ntmps104;go_wp2;go_ret;exact⟨by rw [HS.out.2.1];rfl,rfl⟩
 ·have hs:=Cx (.inr h);have e13:(op==13)=false:=by rw [beq_eq_false_iff_ne];omega
  have e14:(op==14)=false:=by rw [beq_eq_false_iff_ne];omega
  have e16:(op==16)=false:=by rw [beq_eq_false_iff_ne];omega
  have e19:(op==19)=false:=by rw [beq_eq_false_iff_ne];omega
  have e21:(op==21)=false:=by rw [beq_eq_false_iff_ne];omega
  have d8:decide (op<=8)=false:=by simp;omega
  have HS:=Qq hs;clear hs;go_enter Tryz.func104,Tryz.ntmps104;go_wp2;go_ret;exact⟨by rw [HS.out.2.1];rfl,rfl⟩
 all_goals(subst h;go_enter Tryz.func104,Tryz.ntmps104;go_wp2;go_ret;exact⟨rfl,rfl⟩)
theorem Ee(op:Int)(w:World):Calls Tryz.prog 105 #[.int .i64 op] w fun e w'=>e=.returned (.bool (Zb op))/\w=w':=by
 rcases Dh op with h|h|h|h|h|h|h|h|h|h|h|h|h|h|h|h|h|h|h|h|h|h|h
 ·have hs:=Cx (.inl h);have e9:(op==9)=false:=by rw [beq_eq_false_iff_ne];omega
  have e10:(op==10)=false:=by rw [beq_eq_false_iff_ne];omega
  have e14:(op==14)=false:=by rw [beq_eq_false_iff_ne];omega
  have e15:(op==15)=false:=by rw [beq_eq_false_iff_ne];omega
  have HS:=Qq hs;clear hs;go_enter Tryz.func105,Tryz.ntmps105;go_wp2;go_ret;exact⟨by rw [HS.out.2.2.1];rfl,rfl⟩
 ·have hs:=Cx (.inr h);have e9:(op==9)=false:=by rw [beq_eq_false_iff_ne];omega
  have e10:(op==10)=false:=by rw [beq_eq_false_iff_ne];omega
  have e14:(op==14)=false:=by rw [beq_eq_false_iff_ne];omega
  have e15:(op==15)=false:=by rw [beq_eq_false_iff_ne];omega
  have HS:=Qq hs;clear hs;go_enter Tryz.func105,Tryz.ntmps105;go_wp2;go_ret;exact⟨by rw [HS.out.2.2.1];rfl,rfl⟩
 all_goals(subst h;go_enter Tryz.func105,Tryz.ntmps105;go_wp2;go_ret;exact⟨rfl,rfl⟩)
theorem Qn0(op:Int)(w:World):Calls Tryz.prog 106 #[.int .i64 op] w fun e w'=>e=.returned (.bool (Zm op))/\w=w':=by
 rcases Dh op with h|h|h|h|h|h|h|h|h|h|h|h|h|h|h|h|h|h|h|h|h|h|h
 ·have hs:=Cx (.inl h);have HS:=Qq hs;clear hs;go_enter Tryz.func106,Tryz.ntmps106;go_wp2;go_ret;exact⟨by rw [HS.out.2.2.2.1];rfl,rfl⟩
 ·have hs:=Cx (.inr h);have d13:decide (op<=13)=false:=by simp;omega
  have HS:=Qq hs;clear hs;go_enter Tryz.func106,Tryz.ntmps106;go_wp2;go_ret;exact⟨by rw [HS.out.2.2.2.1];rfl,rfl⟩
 all_goals(subst h;go_enter Tryz.func106,Tryz.ntmps106;go_wp2;go_ret;exact⟨rfl,rfl⟩)
theorem Pq {op:Int} {b:Bool}(h:Zq op=b)(w:World):Calls Tryz.prog 103 #[.int .i64 op] w fun e w'=>e=.returned (.bool b)/\w=w':=by
 subst h;exact Qbx op w
theorem Pz {op:Int} {b:Bool}(h:Qw op=b)(w:World):Calls Tryz.prog 104 #[.int .i64 op] w fun e w'=>e=.returned (.bool b)/\w=w':=by
 subst h;exact Qbg op w
theorem Bs {op:Int} {b:Bool}(h:Zb op=b)(w:World):Calls Tryz.prog 105 #[.int .i64 op] w fun e w'=>e=.returned (.bool b)/\w=w':=by
 subst h;exact Ee op w
theorem Ve {op:Int} {b:Bool}(h:Zm op=b)(w:World):Calls Tryz.prog 106 #[.int .i64 op] w fun e w'=>e=.returned (.bool b)/\w=w':=by
 subst h;exact Qn0 op w
theorem Qmb {n:Nd} {a:Int}(h:Yp n.op=false):Zr n a=10:=by simp [Zr,h]
theorem Qhb {n:Nd} {a:Int}(h:Yp n.op=true)(hx:Zx (Zq n.op) n.x a=false):Zr n a=3:=by simp [Zr,h,hx]
theorem Qhd {n:Nd} {a:Int}(h:Yp n.op=true)(hx:Zx (Zq n.op) n.x a=true)(hy:Zx (Qw n.op) n.y a=false):Zr n a=3:=by simp [Zr,h,hx,hy]
theorem Qhf {n:Nd} {a:Int}(h:Yp n.op=true)(hx:Zx (Zq n.op) n.x a=true)(hy:Zx (Qw n.op) n.y a=true)(hf:Zh n=true):Zr n a=3:=by simp [Zr,h,hx,hy,hf]
theorem Qjl {n:Nd} {a:Int}(h:Yp n.op=true)(hx:Zx (Zq n.op) n.x a=true)(hy:Zx (Qw n.op) n.y a=true)(hf:Zh n=false)(hr:Ya n=true):Zr n a=2:=by simp [Zr,h,hx,hy,hf,hr]
theorem Cz {op:Int} {b:Bool}(h:Zo op=b):(op==3)=b:=h
theorem Sd {op:Int} {b:Bool}(h:Zd op=b):(op==17)=b:=h
theorem Pi {op:Int} {b:Bool}(h:Zd op=b):(op !=17)= !b:=by rw [<-Sd h];rfl
theorem Qw7 {n:Nd}(h0:(Ql (Zo n.op) n.i 0 7||Ql (Zb n.op) n.i 0 3)=false)(h1:(Ql (Zd n.op) n.i 0 7||Ql (Zd n.op) n.e 0 7)=false)(h2:(Ql (Zm n.op) n.g 1 15)=false):Ya n=false:=by
 simp only [Bool.or_eq_false_iff]at h0 h1;simp [Ya,h0.1,h0.2,h1.1,h1.2,h2]
theorem Qml {n:Nd}(h:(Ql (Zo n.op) n.i 0 7||Ql (Zb n.op) n.i 0 3)=true):Ya n=true:=by
 unfold Ya;rw [h];rfl
theorem Qmm {n:Nd}(h:(Ql (Zd n.op) n.i 0 7||Ql (Zd n.op) n.e 0 7)=true):Ya n=true:=by
 unfold Ya;rw [Bool.or_assoc (_||_) (Ql (Zd n.op) n.i 0 7),h];simp
theorem Qmp {n:Nd}(h:(Ql (Zm n.op) n.g 1 15)=true):Ya n=true:=by
 unfold Ya;rw [h];simp
theorem Qvt(n:Nd)(at_:Int)(w:World):
 Calls Tryz.prog 43 #[.agg #[.int .i64 n.op,.int .i64 n.i,.int .i64 n.e,.int .i64 n.g,.int .i64 n.x,.int .i64 n.y],.int .i64 at_] w fun e w'=>e=.returned (.int .i64 (Zr n at_))/\Qg w w':=by
 obtain⟨W,hW⟩:∃W,W=w.alloc (.cells #[.int .i64 n.op,.int .i64 n.i,.int .i64 n.e,.int .i64 n.g,.int .i64 n.x,.int .i64 n.y] 71):=⟨_,rfl⟩;have HW:=Qq hW;clear hW;go_enter Tryz.func43,Tryz.ntmps43;go_upto_region 1 with(fail);go_cut [13] (fun s wx=>s=.bool (!Yp n.op)/\wx=W)
 case first =>
  as_aux_lemma =>
   by_cases h1:n.op < 1
   ·have HO:=Qq (show Yp n.op=false by simp [Yp];omega);go_wp2_with fail;go_meet;exact⟨by rw [HO.out];rfl,HW.out.symm⟩
   by_cases h2:21 < n.op
   ·have HO:=Qq (show Yp n.op=false by simp [Yp];omega);go_wp2_with fail;go_meet;exact⟨by rw [HO.out];rfl,HW.out.symm⟩
   have HO:=Qq (show Yp n.op=true by simp [Yp];omega);go_wp2_with fail;go_meet;exact⟨by rw [HO.out];rfl,HW.out.symm⟩
 case rest =>
  obtain⟨rfl,rfl⟩:=hcut;cases ho:Yp n.op
  ·have HR:=Qq (Qmb (a:=at_) ho);go_wp2_with fail;go_ret;exact⟨Ko HR.out.symm,by rw [HW.out];exact Qz.alloc _⟩
  have HO:=Qq ho;clear ho;obtain⟨⟨d0,d1,d2,d3,d4,d5⟩,dfr,dlt⟩:=Vc (show wc.heap[w.heap.size]?=some (.cells #[.int .i64 n.op,.int .i64 n.i,.int .i64 n.e,.int .i64 n.g,.int .i64 n.x,.int .i64 n.y] 71 (0,0)) by rw [HW.out];exact heap_alloc_new _ _);go_upto_region 3 with(fail);go_cut [38] (fun s wx=>s=.bool (!Zx (Zq n.op) n.x at_)/\wx=wc)
  case first =>
   as_aux_lemma =>
    cases hu:Zq n.op
    ·have HU:=Qq hu;clear hu;by_cases h:n.x=0
     ·have HS:=Qq (show Zx false n.x at_=true by simp [Zx,h]);have hb:(n.x !=0)=false:=by simp [h]
      clear h;go_wp2_with(go_at_call 103;refine(Pq HU.out _).mono ?_;rintro e w' ⟨rfl,rfl⟩);go_meet;exact⟨by rw [HU.out,HS.out];rfl,rfl⟩
     have HS:=Qq (show Zx false n.x at_=false by simp [Zx,h]);have hb:(n.x !=0)=true:=by simpa using h
     clear h;go_wp2_with(go_at_call 103;refine(Pq HU.out _).mono ?_;rintro e w' ⟨rfl,rfl⟩);go_meet;exact⟨by rw [HU.out,HS.out];rfl,rfl⟩
    have HU:=Qq hu;clear hu;by_cases h:n.x < 0
    ·have HS:=Qq (show Zx true n.x at_=false by simp [Zx];omega);have hd:decide (n.x < 0)=true:=by simp;omega
     go_wp2_with(go_at_call 103;refine(Pq HU.out _).mono ?_;rintro e w' ⟨rfl,rfl⟩);go_meet;exact⟨by rw [HU.out,HS.out];rfl,rfl⟩
    have hd:decide (n.x < 0)=false:=by simp;omega
    by_cases h2:n.x < at_
    ·have HS:=Qq (show Zx true n.x at_=true by simp [Zx];omega);have hb:decide (at_<=n.x)=false:=by simp;omega
     clear h h2;go_wp2_with(go_at_call 103;refine(Pq HU.out _).mono ?_;rintro e w' ⟨rfl,rfl⟩);go_meet;exact⟨by rw [HU.out,HS.out];rfl,rfl⟩
    have HS:=Qq (show Zx true n.x at_=false by simp [Zx];omega);have hb:decide (at_<=n.x)=true:=by simp;omega
    clear h h2;go_wp2_with(go_at_call 103;refine(Pq HU.out _).mono ?_;rintro e w' ⟨rfl,rfl⟩);go_meet;exact⟨by rw [HU.out,HS.out];rfl,rfl⟩
  case rest =>
   obtain⟨rfl,rfl⟩:=hcut;cases hx:Zx (Zq n.op) n.x at_
   ·have HR:=Qq (Qhb HO.out hx);go_wp2_with fail;go_ret;exact⟨Ko HR.out.symm,by rw [HW.out];exact Qz.alloc _⟩
   have HX:=Qq hx;clear hx;go_upto_region 5 with(fail);go_cut [63] (fun s wx=>s=.bool (!Zx (Qw n.op) n.y at_)/\wx=wc)
   case first =>
    as_aux_lemma =>
     cases hu:Qw n.op
     ·have HU:=Qq hu;clear hu;by_cases h:n.y=0
      ·have HS:=Qq (show Zx false n.y at_=true by simp [Zx,h]);have hb:(n.y !=0)=false:=by simp [h]
       clear h;go_wp2_with(go_at_call 104;refine(Pz HU.out _).mono ?_;rintro e w' ⟨rfl,rfl⟩);go_meet;exact⟨by rw [HU.out,HS.out];rfl,rfl⟩
      have HS:=Qq (show Zx false n.y at_=false by simp [Zx,h]);have hb:(n.y !=0)=true:=by simpa using h
      clear h;go_wp2_with(go_at_call 104;refine(Pz HU.out _).mono ?_;rintro e w' ⟨rfl,rfl⟩);go_meet;exact⟨by rw [HU.out,HS.out];rfl,rfl⟩
     have HU:=Qq hu;clear hu;by_cases h:n.y < 0
     ·have HS:=Qq (show Zx true n.y at_=false by simp [Zx];omega);have hd:decide (n.y < 0)=true:=by simp;omega
      go_wp2_with(go_at_call 104;refine(Pz HU.out _).mono ?_;rintro e w' ⟨rfl,rfl⟩);go_meet;exact⟨by rw [HU.out,HS.out];rfl,rfl⟩
     have hd:decide (n.y < 0)=false:=by simp;omega
     by_cases h2:n.y < at_
     ·have HS:=Qq (show Zx true n.y at_=true by simp [Zx];omega);have hb:decide (at_<=n.y)=false:=by simp;omega
      clear h h2;go_wp2_with(go_at_call 104;refine(Pz HU.out _).mono ?_;rintro e w' ⟨rfl,rfl⟩);go_meet;exact⟨by rw [HU.out,HS.out];rfl,rfl⟩
     have HS:=Qq (show Zx true n.y at_=false by simp [Zx];omega);have hb:decide (at_<=n.y)=true:=by simp;omega
     clear h h2;go_wp2_with(go_at_call 104;refine(Pz HU.out _).mono ?_;rintro e w' ⟨rfl,rfl⟩);go_meet;exact⟨by rw [HU.out,HS.out];rfl,rfl⟩
   case rest =>
    obtain⟨rfl,rfl⟩:=hcut;cases hy:Zx (Qw n.op) n.y at_
    ·have HR:=Qq (Qhd HO.out HX.out hy);go_wp2_with fail;go_ret;exact⟨Ko HR.out.symm,by rw [HW.out];exact Qz.alloc _⟩
    have HY:=Qq hy;clear hy;go_upto_region 7 with(fail);go_cut [5] (fun s wx=>s=.bool (Zo n.op||Zb n.op||Zd n.op)/\wx=wc)
    case first =>
     as_aux_lemma =>
      rcases Qye n.op with⟨hf,ha,hg,he⟩|⟨hf,ha,hg,he⟩|⟨hf,ha,hg,he⟩|⟨hf,ha,hg,he⟩|⟨hf,ha,hg,he⟩ <;>
       (have e3:=Cz hf;have e17:=Sd he;have n17:=Pi he;have HF:=Qq hf;have HA:=Qq ha;have HG:=Qq hg;have HE:=Qq he;clear hf ha hg he n17;go_wp2_with(go_at_call 105;refine(Bs HA.out _).mono ?_;rintro e w' ⟨rfl,rfl⟩);go_meet)
      ·exact⟨by rw [HF.out,HA.out,HE.out];rfl,rfl⟩
      ·exact⟨by rw [HF.out,HA.out,HE.out];rfl,rfl⟩
      ·exact⟨by rw [HF.out,HA.out,HE.out];rfl,rfl⟩
      ·exact⟨by rw [HF.out,HA.out,HE.out];rfl,rfl⟩
      exact⟨by rw [HF.out,HA.out,HE.out];rfl,rfl⟩
    case rest =>
     obtain⟨rfl,rfl⟩:=hcut;go_upto_region 8 with(fail);go_cut [5,104] (fun _ s wx=>s=.bool (Zh n)/\wx=wc)
     case first =>
      as_aux_lemma =>
       rcases Qye n.op with⟨hf,ha,hg,he⟩|⟨hf,ha,hg,he⟩|⟨hf,ha,hg,he⟩|⟨hf,ha,hg,he⟩|⟨hf,ha,hg,he⟩ <;>
        (have e3:=Cz hf;have e17:=Sd he;have n17:=Pi he;have HF:=Qq hf;have HA:=Qq ha;have HG:=Qq hg;have HE:=Qq he;rw [hf,ha,he];clear hf ha hg he e3 e17)
       ·by_cases hi:n.i=0
        ·skip
         by_cases he:n.e=0
         ·skip
          by_cases hg:n.g=0
          ·skip
           have HS:=Qq (show Zh n=false by simp [Zh,HF.out,HA.out,HG.out,HE.out,hi,he,hg]);have zi:(n.i !=0)=false:=by simp [hi]
           have ze:(n.e !=0)=false:=by simp [he]
           have zg:(n.g !=0)=false:=by simp [hg]
           clear hi he hg;go_wp2_with(go_at_call 106;refine(Ve HG.out _).mono ?_;rintro e w' ⟨rfl,rfl⟩);go_meet;exact⟨by rw [HS.out],rfl⟩
          have zg:(n.g !=0)=true:=by simpa using hg
          have HS:=Qq (show Zh n=true by simp only [Zh,HF.out,HA.out,HG.out,HE.out,zg];simp);have zi:(n.i !=0)=false:=by simp [hi]
          have ze:(n.e !=0)=false:=by simp [he]
          clear hi he hg;go_wp2_with(go_at_call 106;refine(Ve HG.out _).mono ?_;rintro e w' ⟨rfl,rfl⟩);go_meet;exact⟨by rw [HS.out],rfl⟩
         have ze:(n.e !=0)=true:=by simpa using he
         have HS:=Qq (show Zh n=true by simp only [Zh,HF.out,HA.out,HG.out,HE.out,ze];simp);have zi:(n.i !=0)=false:=by simp [hi]
         clear hi he;go_wp2_with(go_at_call 106;refine(Ve HG.out _).mono ?_;rintro e w' ⟨rfl,rfl⟩);go_meet;exact⟨by rw [HS.out],rfl⟩
        have zi:(n.i !=0)=true:=by simpa using hi
        have HS:=Qq (show Zh n=true by simp only [Zh,HF.out,HA.out,HG.out,HE.out,zi];simp);clear hi;go_wp2_with(go_at_call 106;refine(Ve HG.out _).mono ?_;rintro e w' ⟨rfl,rfl⟩);go_meet;exact⟨by rw [HS.out],rfl⟩
       ·by_cases he:n.e=0
        ·skip
         by_cases hg:n.g=0
         ·skip
          have HS:=Qq (show Zh n=false by simp [Zh,HF.out,HA.out,HG.out,HE.out,he,hg]);have ze:(n.e !=0)=false:=by simp [he]
          have zg:(n.g !=0)=false:=by simp [hg]
          clear he hg;go_wp2_with(go_at_call 106;refine(Ve HG.out _).mono ?_;rintro e w' ⟨rfl,rfl⟩);go_meet;exact⟨by rw [HS.out],rfl⟩
         have zg:(n.g !=0)=true:=by simpa using hg
         have HS:=Qq (show Zh n=true by simp only [Zh,HF.out,HA.out,HG.out,HE.out,zg];simp);have ze:(n.e !=0)=false:=by simp [he]
         clear he hg;go_wp2_with(go_at_call 106;refine(Ve HG.out _).mono ?_;rintro e w' ⟨rfl,rfl⟩);go_meet;exact⟨by rw [HS.out],rfl⟩
        have ze:(n.e !=0)=true:=by simpa using he
        have HS:=Qq (show Zh n=true by simp only [Zh,HF.out,HA.out,HG.out,HE.out,ze];simp);clear he;go_wp2_with(go_at_call 106;refine(Ve HG.out _).mono ?_;rintro e w' ⟨rfl,rfl⟩);go_meet;exact⟨by rw [HS.out],rfl⟩
       ·by_cases he:n.e=0
        ·skip
         by_cases hg:n.g=0
         ·skip
          have HS:=Qq (show Zh n=false by simp [Zh,HF.out,HA.out,HG.out,HE.out,he,hg]);have ze:(n.e !=0)=false:=by simp [he]
          have zg:(n.g !=0)=false:=by simp [hg]
          clear he hg;go_wp2_with(go_at_call 106;refine(Ve HG.out _).mono ?_;rintro e w' ⟨rfl,rfl⟩);go_meet;exact⟨by rw [HS.out],rfl⟩
         have zg:(n.g !=0)=true:=by simpa using hg
         have HS:=Qq (show Zh n=true by simp only [Zh,HF.out,HA.out,HG.out,HE.out,zg];simp);have ze:(n.e !=0)=false:=by simp [he]
         clear he hg;go_wp2_with(go_at_call 106;refine(Ve HG.out _).mono ?_;rintro e w' ⟨rfl,rfl⟩);go_meet;exact⟨by rw [HS.out],rfl⟩
        have ze:(n.e !=0)=true:=by simpa using he
        have HS:=Qq (show Zh n=true by simp only [Zh,HF.out,HA.out,HG.out,HE.out,ze];simp);clear he;go_wp2_with(go_at_call 106;refine(Ve HG.out _).mono ?_;rintro e w' ⟨rfl,rfl⟩);go_meet;exact⟨by rw [HS.out],rfl⟩
       ·by_cases hi:n.i=0
        ·skip
         by_cases he:n.e=0
         ·skip
          have HS:=Qq (show Zh n=false by simp [Zh,HF.out,HA.out,HG.out,HE.out,hi,he]);have zi:(n.i !=0)=false:=by simp [hi]
          have ze:(n.e !=0)=false:=by simp [he]
          clear hi he;go_wp2_with(go_at_call 106;refine(Ve HG.out _).mono ?_;rintro e w' ⟨rfl,rfl⟩);go_meet;exact⟨by rw [HS.out],rfl⟩
         have ze:(n.e !=0)=true:=by simpa using he
         have HS:=Qq (show Zh n=true by simp only [Zh,HF.out,HA.out,HG.out,HE.out,ze];simp);have zi:(n.i !=0)=false:=by simp [hi]
         clear hi he;go_wp2_with(go_at_call 106;refine(Ve HG.out _).mono ?_;rintro e w' ⟨rfl,rfl⟩);go_meet;exact⟨by rw [HS.out],rfl⟩
        have zi:(n.i !=0)=true:=by simpa using hi
        have HS:=Qq (show Zh n=true by simp only [Zh,HF.out,HA.out,HG.out,HE.out,zi];simp);clear hi;go_wp2_with(go_at_call 106;refine(Ve HG.out _).mono ?_;rintro e w' ⟨rfl,rfl⟩);go_meet;exact⟨by rw [HS.out],rfl⟩
       by_cases hg:n.g=0
       ·skip
        have HS:=Qq (show Zh n=false by simp [Zh,HF.out,HA.out,HG.out,HE.out,hg]);have zg:(n.g !=0)=false:=by simp [hg]
        clear hg;go_wp2_with(go_at_call 106;refine(Ve HG.out _).mono ?_;rintro e w' ⟨rfl,rfl⟩);go_meet;exact⟨by rw [HS.out],rfl⟩
       have zg:(n.g !=0)=true:=by simpa using hg
       have HS:=Qq (show Zh n=true by simp only [Zh,HF.out,HA.out,HG.out,HE.out,zg];simp);clear hg;go_wp2_with(go_at_call 106;refine(Ve HG.out _).mono ?_;rintro e w' ⟨rfl,rfl⟩);go_meet;exact⟨by rw [HS.out],rfl⟩
     case rest =>
      obtain⟨rfl,rfl⟩:=hcut;cases hfb:Zh n
      ·have JQ:=Qq hfb;clear hfb;go_upto_region 10 with(fail);go_cut [132] (fun s wx=>s=.bool (Ql (Zo n.op) n.i 0 7||Ql (Zb n.op) n.i 0 3)/\wx=wc)
       case first =>
        as_aux_lemma =>
         rcases Qye n.op with⟨hf,ha,hg,he⟩|⟨hf,ha,hg,he⟩|⟨hf,ha,hg,he⟩|⟨hf,ha,hg,he⟩|⟨hf,ha,hg,he⟩ <;>
          (have e3:=Cz hf;have e17:=Sd he;have n17:=Pi he;have HF:=Qq hf;have HA:=Qq ha;have HG:=Qq hg;have HE:=Qq he;clear hf ha hg he n17)
         ·have HS:=Qq (show(Ql (Zo n.op) n.i 0 7||Ql (Zb n.op) n.i 0 3)=false by simp [Ql,HF.out,HA.out]);go_wp2_with(go_at_call 105;refine(Bs HA.out _).mono ?_;rintro e w' ⟨rfl,rfl⟩);go_meet;exact⟨by rw [HS.out],rfl⟩
         ·by_cases l0:n.i < 0
          ·have d0:decide (n.i < 0)=true:=by simp;omega
           have HS:=Qq (show(Ql (Zo n.op) n.i 0 7||Ql (Zb n.op) n.i 0 3)=true by simp [Ql,HF.out,HA.out];omega);go_wp2_with(go_at_call 105;refine(Bs HA.out _).mono ?_;rintro e w' ⟨rfl,rfl⟩);go_meet;exact⟨by rw [HS.out],rfl⟩
          have d0:decide (n.i < 0)=false:=by simp;omega
          by_cases u0:8<=n.i
          ·have v0:decide (8<=n.i)=true:=by simp;omega
           have HS:=Qq (show(Ql (Zo n.op) n.i 0 7||Ql (Zb n.op) n.i 0 3)=true by simp [Ql,HF.out,HA.out];omega);go_wp2_with(go_at_call 105;refine(Bs HA.out _).mono ?_;rintro e w' ⟨rfl,rfl⟩);go_meet;exact⟨by rw [HS.out],rfl⟩
          have v0:decide (8<=n.i)=false:=by simp;omega
          have HS:=Qq (show(Ql (Zo n.op) n.i 0 7||Ql (Zb n.op) n.i 0 3)=false by simp [Ql,HF.out,HA.out];omega);go_wp2_with(go_at_call 105;refine(Bs HA.out _).mono ?_;rintro e w' ⟨rfl,rfl⟩);go_meet;exact⟨by rw [HS.out],rfl⟩
         ·by_cases l0:n.i < 0
          ·have d0:decide (n.i < 0)=true:=by simp;omega
           have HS:=Qq (show(Ql (Zo n.op) n.i 0 7||Ql (Zb n.op) n.i 0 3)=true by simp [Ql,HF.out,HA.out];omega);go_wp2_with(go_at_call 105;refine(Bs HA.out _).mono ?_;rintro e w' ⟨rfl,rfl⟩);go_meet;exact⟨by rw [HS.out],rfl⟩
          have d0:decide (n.i < 0)=false:=by simp;omega
          by_cases u0:4<=n.i
          ·have v0:decide (4<=n.i)=true:=by simp;omega
           have HS:=Qq (show(Ql (Zo n.op) n.i 0 7||Ql (Zb n.op) n.i 0 3)=true by simp [Ql,HF.out,HA.out];omega);go_wp2_with(go_at_call 105;refine(Bs HA.out _).mono ?_;rintro e w' ⟨rfl,rfl⟩);go_meet;exact⟨by rw [HS.out],rfl⟩
          have v0:decide (4<=n.i)=false:=by simp;omega
          have HS:=Qq (show(Ql (Zo n.op) n.i 0 7||Ql (Zb n.op) n.i 0 3)=false by simp [Ql,HF.out,HA.out];omega);go_wp2_with(go_at_call 105;refine(Bs HA.out _).mono ?_;rintro e w' ⟨rfl,rfl⟩);go_meet;exact⟨by rw [HS.out],rfl⟩
         ·have HS:=Qq (show(Ql (Zo n.op) n.i 0 7||Ql (Zb n.op) n.i 0 3)=false by simp [Ql,HF.out,HA.out]);go_wp2_with(go_at_call 105;refine(Bs HA.out _).mono ?_;rintro e w' ⟨rfl,rfl⟩);go_meet;exact⟨by rw [HS.out],rfl⟩
         have HS:=Qq (show(Ql (Zo n.op) n.i 0 7||Ql (Zb n.op) n.i 0 3)=false by simp [Ql,HF.out,HA.out]);go_wp2_with(go_at_call 105;refine(Bs HA.out _).mono ?_;rintro e w' ⟨rfl,rfl⟩);go_meet;exact⟨by rw [HS.out],rfl⟩
       case rest =>
        obtain⟨rfl,rfl⟩:=hcut;cases cI:(Ql (Zo n.op) n.i 0 7||Ql (Zb n.op) n.i 0 3)
        ·have aB:=Qq cI;clear cI;go_upto_region 12 with(fail);go_cut [155] (fun s wx=>s=.bool (Ql (Zd n.op) n.i 0 7||Ql (Zd n.op) n.e 0 7)/\wx=wc)
         case first =>
          as_aux_lemma =>
           rcases Qye n.op with⟨hf,ha,hg,he⟩|⟨hf,ha,hg,he⟩|⟨hf,ha,hg,he⟩|⟨hf,ha,hg,he⟩|⟨hf,ha,hg,he⟩ <;>
            (have e3:=Cz hf;have e17:=Sd he;have n17:=Pi he;have HF:=Qq hf;have HA:=Qq ha;have HG:=Qq hg;have HE:=Qq he;clear hf ha hg he n17)
           ·have HS:=Qq (show(Ql (Zd n.op) n.i 0 7||Ql (Zd n.op) n.e 0 7)=false by simp [Ql,HE.out]);go_wp2_with(fail);go_meet;exact⟨by rw [HS.out],rfl⟩
           ·have HS:=Qq (show(Ql (Zd n.op) n.i 0 7||Ql (Zd n.op) n.e 0 7)=false by simp [Ql,HE.out]);go_wp2_with(fail);go_meet;exact⟨by rw [HS.out],rfl⟩
           ·have HS:=Qq (show(Ql (Zd n.op) n.i 0 7||Ql (Zd n.op) n.e 0 7)=false by simp [Ql,HE.out]);go_wp2_with(fail);go_meet;exact⟨by rw [HS.out],rfl⟩
           ·have HS:=Qq (show(Ql (Zd n.op) n.i 0 7||Ql (Zd n.op) n.e 0 7)=false by simp [Ql,HE.out]);go_wp2_with(fail);go_meet;exact⟨by rw [HS.out],rfl⟩
           by_cases l0:n.i < 0
           ·have d0:decide (n.i < 0)=true:=by simp;omega
            have HS:=Qq (show(Ql (Zd n.op) n.i 0 7||Ql (Zd n.op) n.e 0 7)=true by simp [Ql,HE.out];omega);go_wp2_with(fail);go_meet;exact⟨by rw [HS.out],rfl⟩
           have d0:decide (n.i < 0)=false:=by simp;omega
           by_cases u0:8<=n.i
           ·have v0:decide (8<=n.i)=true:=by simp;omega
            have HS:=Qq (show(Ql (Zd n.op) n.i 0 7||Ql (Zd n.op) n.e 0 7)=true by simp [Ql,HE.out];omega);go_wp2_with(fail);go_meet;exact⟨by rw [HS.out],rfl⟩
           have v0:decide (8<=n.i)=false:=by simp;omega
           by_cases l1:n.e < 0
           ·have d1:decide (n.e < 0)=true:=by simp;omega
            have HS:=Qq (show(Ql (Zd n.op) n.i 0 7||Ql (Zd n.op) n.e 0 7)=true by simp [Ql,HE.out];omega);go_wp2_with(fail);go_meet;exact⟨by rw [HS.out],rfl⟩
           have d1:decide (n.e < 0)=false:=by simp;omega
           by_cases u1:8<=n.e
           ·have v1:decide (8<=n.e)=true:=by simp;omega
            have HS:=Qq (show(Ql (Zd n.op) n.i 0 7||Ql (Zd n.op) n.e 0 7)=true by simp [Ql,HE.out];omega);go_wp2_with(fail);go_meet;exact⟨by rw [HS.out],rfl⟩
           have v1:decide (8<=n.e)=false:=by simp;omega
           have HS:=Qq (show(Ql (Zd n.op) n.i 0 7||Ql (Zd n.op) n.e 0 7)=false by simp [Ql,HE.out];omega);go_wp2_with(fail);go_meet;exact⟨by rw [HS.out],rfl⟩
         case rest =>
          obtain⟨rfl,rfl⟩:=hcut;cases aV:(Ql (Zd n.op) n.i 0 7||Ql (Zd n.op) n.e 0 7)
          ·have aA:=Qq aV;clear aV;go_upto_region 14 with(fail);go_cut [168] (fun s wx=>s=.bool (Ql (Zm n.op) n.g 1 15)/\wx=wc)
           case first =>
            as_aux_lemma =>
             rcases Qye n.op with⟨hf,ha,hg,he⟩|⟨hf,ha,hg,he⟩|⟨hf,ha,hg,he⟩|⟨hf,ha,hg,he⟩|⟨hf,ha,hg,he⟩ <;>
              (have e3:=Cz hf;have e17:=Sd he;have n17:=Pi he;have HF:=Qq hf;have HA:=Qq ha;have HG:=Qq hg;have HE:=Qq he;clear hf ha hg he n17)
             ·have HS:=Qq (show(Ql (Zm n.op) n.g 1 15)=false by simp [Ql,HG.out]);go_wp2_with(go_at_call 106;refine(Ve HG.out _).mono ?_;rintro e w' ⟨rfl,rfl⟩);go_meet;exact⟨by rw [HS.out],rfl⟩
             ·have HS:=Qq (show(Ql (Zm n.op) n.g 1 15)=false by simp [Ql,HG.out]);go_wp2_with(go_at_call 106;refine(Ve HG.out _).mono ?_;rintro e w' ⟨rfl,rfl⟩);go_meet;exact⟨by rw [HS.out],rfl⟩
             ·have HS:=Qq (show(Ql (Zm n.op) n.g 1 15)=false by simp [Ql,HG.out]);go_wp2_with(go_at_call 106;refine(Ve HG.out _).mono ?_;rintro e w' ⟨rfl,rfl⟩);go_meet;exact⟨by rw [HS.out],rfl⟩
             ·by_cases l0:n.g < 1
              ·have d0:decide (n.g < 1)=true:=by simp;omega
               have HS:=Qq (show(Ql (Zm n.op) n.g 1 15)=true by simp [Ql,HG.out];omega);go_wp2_with(go_at_call 106;refine(Ve HG.out _).mono ?_;rintro e w' ⟨rfl,rfl⟩);go_meet;exact⟨by rw [HS.out],rfl⟩
              have d0:decide (n.g < 1)=false:=by simp;omega
              by_cases u0:16<=n.g
              ·have v0:decide (16<=n.g)=true:=by simp;omega
               have HS:=Qq (show(Ql (Zm n.op) n.g 1 15)=true by simp [Ql,HG.out];omega);go_wp2_with(go_at_call 106;refine(Ve HG.out _).mono ?_;rintro e w' ⟨rfl,rfl⟩);go_meet;exact⟨by rw [HS.out],rfl⟩
              have v0:decide (16<=n.g)=false:=by simp;omega
              have HS:=Qq (show(Ql (Zm n.op) n.g 1 15)=false by simp [Ql,HG.out];omega);go_wp2_with(go_at_call 106;refine(Ve HG.out _).mono ?_;rintro e w' ⟨rfl,rfl⟩);go_meet;exact⟨by rw [HS.out],rfl⟩
             have HS:=Qq (show(Ql (Zm n.op) n.g 1 15)=false by simp [Ql,HG.out]);go_wp2_with(go_at_call 106;refine(Ve HG.out _).mono ?_;rintro e w' ⟨rfl,rfl⟩);go_meet;exact⟨by rw [HS.out],rfl⟩
           case rest =>
            obtain⟨rfl,rfl⟩:=hcut;cases kA:(Ql (Zm n.op) n.g 1 15)
            ·have ZZ:=Qq kA;clear kA;have HR:=Qq (Qxw HO.out HX.out HY.out JQ.out (Qw7 aB.out aA.out ZZ.out));go_wp2_with fail;go_ret;exact⟨Ko HR.out.symm,by rw [HW.out];exact Qz.alloc _⟩
            have HR:=Qq (Qjl HO.out HX.out HY.out JQ.out (Qmp kA));clear kA;go_wp2_with fail;go_ret;exact⟨Ko HR.out.symm,by rw [HW.out];exact Qz.alloc _⟩
          have HR:=Qq (Qjl HO.out HX.out HY.out JQ.out (Qmm aV));clear aV;go_wp2_with fail;go_ret;exact⟨Ko HR.out.symm,by rw [HW.out];exact Qz.alloc _⟩
        have HR:=Qq (Qjl HO.out HX.out HY.out JQ.out (Qml cI));clear cI;go_wp2_with fail;go_ret;exact⟨Ko HR.out.symm,by rw [HW.out];exact Qz.alloc _⟩
      have HR:=Qq (Qhf HO.out HX.out HY.out hfb);clear hfb;go_wp2_with fail;go_ret;exact⟨Ko HR.out.symm,by rw [HW.out];exact Qz.alloc _⟩
theorem Uz {w:World} {b:Nat} {a0 a1:Value} {t:TypeId}(h:w.heap[b]?=some (.cells #[a0,a1] t (0,0))):
 w.cell? ⟨b,0,none⟩=some a0/\w.cell? ⟨b,1,none⟩=some a1/\(∀j,w.frozen? ⟨b,j,none⟩=false)/\b < w.heap.size :=
 ⟨by simp [World.cell?,h],by simp [World.cell?,h],fun j=>by simp [World.frozen?,h],Qn h⟩
theorem Qf6 {w:World} {b:Nat} {a0 a1:Value} {t:TypeId}(h:w.heap[b]?=some (.cells #[a0,a1] t (0,0)))(u:Value):(w.setCell ⟨b,0,none⟩ u).heap[b]?=some (.cells #[u,a1] t (0,0)):=by
 simp only [World.setCell,Array.getElem?_modify,h,if_true,Option.map_some];simp
theorem Qzg {w:World} {b:Nat} {a0 a1:Value} {t:TypeId}(h:w.heap[b]?=some (.cells #[a0,a1] t (0,0)))(u:Value):(w.setCell ⟨b,1,none⟩ u).heap[b]?=some (.cells #[a0,u] t (0,0)):=by
 simp only [World.setCell,Array.getElem?_modify,h,if_true,Option.map_some];simp
theorem Ih:(Tryz.prog.info? 3).map (fun i=>(i.zero,i.size,i.bytes))=some (some (.int .i64 0),1,8):=by kernel_rfl
theorem Qvg:∀{o:List Nd} {k:Nat} {a x:Nd},o[k]?=some a->a=x->x∉o.take k->o.idxOf x=k
 |[],k,a,x,h,_,_=>by simp at h
 |b :: r,0,a,x,h,qF,_=>by
  simp only [List.getElem?_cons_zero,Option.some.injEq]at h;subst h qF;simp
 |b :: r,k+1,a,x,h,qF,hn=>by
  simp only [List.take_succ_cons,List.mem_cons,not_or]at hn;have ih:=Qvg (o:=r) (k:=k) (a:=a) (x:=x) (by simpa using h) qF hn.2;have hb:(b==x)=false:=by rw [beq_eq_false_iff_ne];exact fun e=>hn.1 e.symm
  rw [List.idxOf_cons,hb,ih];rfl
structure Xg (bw:Nat) (w w':World) (v v':Value):Prop where
 os:w'.os=w.os
 tape:w'.tape=w.tape
 output:w'.output=w.output
 size:w.heap.size<=w'.heap.size
 block:∀k,k < w.heap.size->k≠bw->v.ownBlock≠some k->w'.heap[k]?=w.heap[k]?
 row:∀g,v'.ownBlock=some g->v.ownBlock=some g\/w.heap.size<=g
section
variable {a b c w w':World} {va vb vc v v':Value} {bw:Nat}
theorem Xg.refl(w:World)(v:Value):Xg bw w w v v:=⟨rfl,rfl,rfl,Nat.le_refl _,fun _ _ _ _=>rfl,fun _ h=> .inl h⟩
theorem Xg.trans(h:Xg bw a b va vb)(k:Xg bw b c vb vc):Xg bw a c va vc :=
 ⟨k.os.trans h.os,k.tape.trans h.tape,k.output.trans h.output,Qx h.size k.size,
  fun i hi hb h4=>(k.block i (Qy hi h.size) hb (fun e=>by
   rcases h.row i e with e'|e'
   ·exact h4 e'
   omega)).trans (h.block i hi hb h4),
  fun g hg=>by
   rcases k.row g hg with e|e
   ·exact h.row g e
   exact .inr (Qx h.size e)⟩
theorem Xg.of_ext(e:Qg a b):Xg bw a b v v:=⟨e.os,e.tape,e.output,e.size,fun _ hk _ _=>e.block hk,fun _ h=> .inl h⟩
theorem Xg.of_r(h:Uk a b va vb):Xg bw a b va vb:=⟨h.os,h.tape,h.output,h.size,fun k hk _ hv=>h.block k hk hv,h.row⟩
theorem Xg.set_(w:World)(v:Value)(p:Addr)(hp:p.block=bw)(u:Value):Xg bw w (w.setCell p u) v v :=
 ⟨rfl,rfl,rfl,by simp [World.setCell],fun k _ hb _=>Below.heap_setCell _ _ _ _ (by rw [hp];exact hb),fun _ h=> .inl h⟩
end
theorem Qw5 {w W w4:World} {bw:Nat} {v v0 vd:Value} {t:TypeId}(hb:w.heap[bw]?=some (.cells #[v0,vd] t (0,0)))(zQ:v.ownBlock≠some bw)(he:Qg w W)(hg:W.grownBy w4 v.ownBlock):w4.heap[bw]?=some (.cells #[v0,vd] t (0,0)):=
 ((hg.block bw (Qy (Qn hb) he.size) (fun e=>zQ e.symm)).trans (he.block (Qn hb))).trans hb
theorem Qw6 {w W w4:World} {bw:Nat} {v v':Value}(he:Qg w W)(hg:W.grownBy w4 v.ownBlock)(yM:v'.ownBlock=v.ownBlock\/v'.ownBlock=some W.heap.size):Xg bw w w4 v v' :=
 Xg.of_r (((Uk.refl w v).ext he).appended hg yM)
theorem Qmt {w w4:World} {bw:Nat} {v v':Value}(h:Xg bw w w4 v v')(zQ:v.ownBlock≠some bw)(zJ:bw < w.heap.size):v'.ownBlock≠some bw:=fun e=>by
 rcases h.row bw e with h1|h1
 ·exact zQ h1
 omega
theorem Zzf(bw base:Nat)(x:Nd)(o:List Nd)(vo vd:Value)(w:World)(yX:w.heap[bw]?=some (.cells #[vo,vd] 170 (0,0)))(zR:w.ownsRow base 71 6 vo o.length (o.flatMap Nd.cells))
 (hb:base<=w.heap.size)(zG:o.length<=1000)(zQ:vo.ownBlock≠some bw):
 Calls Tryz.prog 207 #[.pointer (some ⟨bw,0,none⟩),.agg #[.int .i64 x.op,.int .i64 x.i,.int .i64 x.e,.int .i64 x.g,.int .i64 x.x,.int .i64 x.y]] w fun e w'=>∃vo',e=.returned (.int .i64 (o.idxOf x:Nat))/\
  w'.heap[bw]?=some (.cells #[vo',vd] 170 (0,0))/\w'.ownsRow base 71 6 vo' (Jq o x).length ((Jq o x).flatMap Nd.cells)/\Xg bw w w' vo vo':=by
 obtain⟨i0,iO,xH,oE,jR⟩:=info_parts Qm1;obtain⟨Ao,co,rfl⟩:=Qt zR;have yO:=Qq zR;have kU:=Qq yX;have iZ:=Qq zQ;obtain⟨A2,c2,e2,xR,yN,zM⟩:=Hb zR;obtain⟨rfl,rfl⟩:A2=Ao/\c2=co:=by injection e2 with e2 _ e3;exact⟨e2.symm,e3.symm⟩
 have uA:=Qq zM;unfold maxLen at yN;obtain⟨d0,d1,dfr,dlt⟩:=Uz yX;clear zR yX zQ e2 zM;go_enter Tryz.func207,Tryz.ntmps207;go_wp2_with fail;go_loopw [5] (fun i wr=>∃k:Nat,k<=o.length/\i=.int .i64 k/\Hid (x∉o.take k)/\Qg w wr/\Hid (wr.heap[w.heap.size]?=some (.cells #[.int .i64 x.op,.int .i64 x.i,.int .i64 x.e,.int .i64 x.g,.int .i64 x.x,.int .i64 x.y] 71 (0,0)))) (fun i _=>o.length - (intOf i).toNat)
 case atStart=>exact⟨0,Nat.zero_le _,rfl,Qq (by simp),Qz.alloc _,Qq (heap_alloc_new _ _)⟩
 case round =>
  obtain⟨k,hk,rfl,tP,yT,wC⟩:=hrel;have k0:=(yT.cell (p:=⟨bw,0,none⟩) dlt).trans d0;have k1:=(yT.cell (p:=⟨bw,1,none⟩) dlt).trans d1;obtain⟨⟨b0,b1,b2,b3,b4,b5⟩,bfr,blt⟩:=Vc wC.out;by_cases hlt2:k < o.length
  ·obtain⟨a,ha⟩:∃a,o[k]?=some a:=⟨_,Qv hlt2⟩;obtain⟨ad,rfl,yS,xV⟩:=uA.out (by intro e;rw [e]at hlt2;simp at hlt2);obtain⟨a0,a1,a2,a3,a4,a5⟩:=(xV k a ha).keep fun p hp=>yT.cell (p:=p) (by rw [hp,Qr];exact yS)
   have hi0':(0:Int)<=(k:Int):=by omega
   have hi1':(k:Int) < (o.length:Int):=by omega
   have ZA:=fun W=>Qp3 a x W
   have HA:=Qq ha;clear ha xV;by_cases qF:a=x
   ·have hd:decide (a=x)=true:=by simpa using qF
    have aK:Hid (o.idxOf x=k):=Qq (Qvg HA.out qF tP.out);have VD:Hid (Jq o x=o):=Qq (by unfold Jq;rw [if_pos (by rw [<-qF];exact List.mem_of_getElem? HA.out)]);clear qF;go_wp2_with fail;go_quiet (fail);go_wp2_with fail;go_ret;refine⟨_,Ko (by rw [aK.out]),?_,?_,Xg.of_ext (yT.drewN _)⟩
    ·exact((yT.drewN _).block dlt).trans kU.out
    rw [VD.out];exact Zg yO.out (yT.drewN _)
   have hd:decide (a=x)=false:=by simpa using qF
   have HT:Hid (x∉o.take (k+1)):=Qq (by rw [Kd HA.out];simp [tP.out,Ne.symm qF]);clear qF;go_wp2_with fail;go_quiet (fail);go_wp2_with fail;go_roundw
   case rel=>exact⟨k+1,by omega,by go_num,HT,yT.drewN _,Qq wC.out⟩
   case measure=>simp [intOf];omega
  obtain rfl:o.length=k:=by omega
  have OD:Hid (x∉o):=Qq (by have:=tP.out;rwa [List.take_of_length_le (Nat.le_refl _)]at this);have xS:o.length+1<=maxLen:=by unfold maxLen;omega
  have xP:(o.length+1)*48<=140737488355328:=by omega
  have blt2:bw < wr.heap.size:=Qy dlt yT.size;have k2:=(yT.frozen (p:=⟨bw,0,none⟩) dlt).trans (dfr 0);go_wp2_with fail;go_region_law (refine Gk rfl (.tmp 29) (.tmp 31) 22 rfl base 71 i0 Nd.zero.val 6 48 Tryz.underlying22 iO xH oE jR rfl (by decide) (.slice A2 o.length c2) _ _ (by simp [Act.eval]) (Zg yO.out (by repeat(first|exact yT|apply Qg.alloc|apply Qg.drew|apply Qg.drewN))) ⟨wr.heap.size,0,none⟩ 1 1 x.cells (by simp [Act.eval]) rfl (Zt _ _ _ (by simp)) (Qq2 x) xS xP (Qx hb (Qg.size (a:=w) (by repeat(first|exact yT|apply Qg.alloc|apply Qg.drew|apply Qg.drewN)))) ?_;intro v' w4 yE yL tY;obtain⟨A4,c4,rfl⟩:=Qt yE;have kb:=Qw5 kU.out iZ.out (by repeat(first|exact yT|apply Qg.alloc|apply Qg.drew|apply Qg.drewN)) yL;obtain⟨q0,q1,qfr,qlt⟩:=Uz kb;have ST:=Qq (Qw6 (bw:=bw) (by repeat(first|exact yT|apply Qg.alloc|apply Qg.drew|apply Qg.drewN)) yL (tY.imp id fun e=>by simp [e]));have tZ:=Qq yE;have KB:=Qq kb;clear yE yL tY kb)
  all_goals
   go_wp2_with fail;go_ret;refine⟨.slice A4 (o.length+1) c4,Ko (by rw [List.idxOf_eq_length OD.out]),?_,?_,?_⟩
   ·exact Qf6 KB.out _
   ·rw [show Jq o x=o++ [x] by unfold Jq;rw [if_neg OD.out]];refine ownsRow_setCell_other (a:=⟨bw,0,none⟩) ?_ (Qmt ST.out iZ.out (Qn kU.out)) _;have h4:=tZ.out
    simpa using h4
   exact ST.out.trans (Xg.set_ _ _ ⟨bw,0,none⟩ rfl _)
def Iw(f o:List Nd)(d:List Int):Prop:=d.length=f.length/\∀i,i < f.length->d[i]?=some (-1)\/(Zw f i o=(o,(Zw f i o).2)/\d[i]?=some (((Zw f i o).2:Nat):Int))
theorem Iw.grow {f o o':List Nd} {d:List Int}(hf:Wf f)(h:Iw f o d)(hp:o <+: o'):Iw f o' d:=by
 refine⟨h.1,fun i hi=> ?_⟩;rcases h.2 i hi with h1|⟨h1,h2⟩
 ·exact .inl h1
 have hg:=Bq hf i o o' hi (by rw [h1];exact hp);exact .inr ⟨by rw [hg],by rw [hg];exact h2⟩
theorem Iw.put {f o:List Nd} {d:List Int} {i:Nat}(h:Iw f o d)(hi:i < f.length)(wX:Zw f i o=(o,(Zw f i o).2)):Iw f o (d.set i (((Zw f i o).2:Nat):Int)):=by
 refine⟨by simpa using h.1,fun j hj=> ?_⟩;by_cases e:j=i
 ·subst e;exact .inr ⟨wX,by rw [List.getElem?_set_self (by rw [h.1];exact hi)]⟩
 rw [List.getElem?_set_ne (Ne.symm e)];exact h.2 j hj
structure Dz (bw:Nat) (W0 w:World) (A:Option Addr) (c:Nat) (f o:List Nd) (d:List Int) (vo vd:Value):Prop where
 below:Go.RowKit.Below W0.heap.size W0 w
 nds:Py W0 A c f
 blk:w.heap[bw]?=some (.cells #[vo,vd] 170 (0,0))
 row:w.ownsRow W0.heap.size 71 6 vo o.length (o.flatMap Nd.cells)
 drow:w.ownsRow W0.heap.size 3 1 vd f.length (d.map (Value.int .i64))
 done:Iw f o d
 low:W0.heap.size<=bw
 oks:∀n∈o,n.ok
structure Gi (bw:Nat) (vd:Value) (w w':World) (v v':Value):Prop where
 os:w'.os=w.os
 tape:w'.tape=w.tape
 output:w'.output=w.output
 size:w.heap.size<=w'.heap.size
 block:∀k,k < w.heap.size->k≠bw->vd.ownBlock≠some k->v.ownBlock≠some k->w'.heap[k]?=w.heap[k]?
 row:∀g,v'.ownBlock=some g->v.ownBlock=some g\/w.heap.size<=g
section
variable {a b c w w':World} {va vb vc v v' vd:Value} {bw:Nat}
theorem Gi.refl(w:World)(v:Value):Gi bw vd w w v v:=⟨rfl,rfl,rfl,Nat.le_refl _,fun _ _ _ _ _=>rfl,fun _ h=> .inl h⟩
theorem Gi.trans(h:Gi bw vd a b va vb)(k:Gi bw vd b c vb vc):Gi bw vd a c va vc :=
 ⟨k.os.trans h.os,k.tape.trans h.tape,k.output.trans h.output,Qx h.size k.size,
  fun i hi hb hd h4=>(k.block i (Qy hi h.size) hb hd (fun e=>by
   rcases h.row i e with e'|e'
   ·exact h4 e'
   omega)).trans (h.block i hi hb hd h4),
  fun g hg=>by
   rcases k.row g hg with e|e
   ·exact h.row g e
   exact .inr (Qx h.size e)⟩
theorem Gi.of_ext(e:Qg a b):Gi bw vd a b v v:=⟨e.os,e.tape,e.output,e.size,fun _ hk _ _ _=>e.block hk,fun _ h=> .inl h⟩
theorem Gi.of_p(h:Xg bw a b va vb):Gi bw vd a b va vb:=⟨h.os,h.tape,h.output,h.size,fun k hk hb _ hv=>h.block k hk hb hv,h.row⟩
theorem Gi.set_(w:World)(v:Value)(p:Addr)(hp:vd.ownBlock=some p.block)(u:Value):Gi bw vd w (w.setCell p u) v v :=
 ⟨rfl,rfl,rfl,by simp [World.setCell],fun k _ _ hd _=>Below.heap_setCell _ _ _ _ (fun e=>hd (by rw [hp,e])),fun _ h=> .inl h⟩
end
section
variable {bw:Nat} {W0 we w w':World} {A:Option Addr} {c:Nat} {f o:List Nd} {d:List Int} {vo vd voe:Value} {bx:Nat} {m:Nd}
theorem Qkl {w:World} {base k:Nat} {e t:TypeId} {size n:Nat} {v:Value} {xs:List Value} {cs:Array Value}(h:w.ownsRow base e size v n xs)(hk:w.heap[k]?=some (.cells cs t (0,0)))(ht:t≠e):v.ownBlock≠some k:=by
 intro hg;rcases h.2 with⟨rfl,_⟩|⟨g,cap,cur,rfl,_,hb,_⟩
 ·cases hg
 obtain rfl:g=k:=by simpa [Value.ownBlock]using hg
 rw [hb]at hk;injection hk with hk;injection hk with _ hk;exact ht hk.symm
theorem Zzb {w:World} {b1 b2:Nat} {e1 e2:TypeId} {s1 s2 n1 n2:Nat} {v1 v2:Value} {xs1 xs2:List Value}(h1:w.ownsRow b1 e1 s1 v1 n1 xs1)(h2:w.ownsRow b2 e2 s2 v2 n2 xs2)(zQ:e1≠e2):
 ∀g,v1.ownBlock=some g->v2.ownBlock≠some g:=by
 intro g hg;rcases h1.2 with⟨rfl,_⟩|⟨g',cap,cur,rfl,_,hb,_⟩
 ·cases hg
 obtain rfl:g'=g:=by simpa [Value.ownBlock]using hg
 exact Qkl h2 hb zQ
theorem Dz.aparts(h:Dz bw W0 w A c f o d vo vd):vo.ownBlock≠some bw/\vd.ownBlock≠some bw/\(∀g,vd.ownBlock=some g->vo.ownBlock≠some g):=
 ⟨Qkl h.row h.blk (by decide),Qkl h.drow h.blk (by decide),Zzb h.drow h.row (by decide)⟩
theorem Dz.keep(h:Dz bw W0 w A c f o d vo vd)(hb:Go.RowKit.Below W0.heap.size W0 w')(hk:∀k,k < w.heap.size->(k=bw\/vo.ownBlock=some k\/vd.ownBlock=some k)->w'.heap[k]?=w.heap[k]?):Dz bw W0 w' A c f o d vo vd :=
 ⟨hb,h.nds,(hk _ (Qn h.blk) (by simp)).trans h.blk,Zp h.row fun g hg=>hk g (h.row.lt g hg).2 (by simp [hg]),Zp h.drow fun g hg=>hk g (h.drow.lt g hg).2 (by simp [hg]),h.done,h.low,h.oks⟩
theorem Dz.ext(h:Dz bw W0 w A c f o d vo vd)(he:Qg w w'):Dz bw W0 w' A c f o d vo vd :=
 h.keep (h.below.trans (Below.mono he h.below.size)) fun _ hk _=>he.block hk
structure Cl (bw:Nat) (W0 we w:World) (A:Option Addr) (c:Nat) (f o:List Nd) (d:List Int) (voe vo vd:Value) (bx:Nat) (m:Nd):Prop where
 inv:Dz bw W0 w A c f o d vo vd
 step:Gi bw vd we w voe vo
 bwlt:bw < we.heap.size
 dlt:∀g,vd.ownBlock=some g->g < we.heap.size
 box:w.heap[bx]?=some (.cells #[.int .i64 m.op,.int .i64 m.i,.int .i64 m.e,.int .i64 m.g,.int .i64 m.x,.int .i64 m.y] 71 (0,0))
 fresh:we.heap.size<=bx/\vo.ownBlock≠some bx
theorem Cl.start(h:Dz bw W0 we A c f o d vo vd)(n:Nd):Cl bw W0 we (we.alloc (.cells #[.int .i64 n.op,.int .i64 n.i,.int .i64 n.e,.int .i64 n.g,.int .i64 n.x,.int .i64 n.y] 71)) A c f o d vo vo vd we.heap.size n :=
 ⟨h.ext (Qz.alloc _),Gi.of_ext (Qz.alloc _),Qn h.blk,fun g hg=>(h.drow.lt g hg).2,heap_alloc_new _ _,Nat.le_refl _,fun e=>absurd (h.row.lt _ e).2 (by omega)⟩
theorem Cl.call {o':List Nd} {d':List Int} {vo':Value}(h:Cl bw W0 we w A c f o d voe vo vd bx m)(he:Dz bw W0 w' A c f o' d' vo' vd)(hs:Gi bw vd w w' vo vo'):Cl bw W0 we w' A c f o' d' voe vo' vd bx m:=by
 obtain⟨f1,f4⟩:=h.fresh;have vE:=Qn h.box;have hb:=h.bwlt;refine⟨he,h.step.trans hs,h.bwlt,h.dlt,(hs.block _ vE (by omega) (fun e=>by have:=h.dlt _ e;omega) f4).trans h.box,f1,fun e=> ?_⟩;rcases hs.row _ e with e|e
 ·exact f4 e
 omega
theorem Cl.store(h:Cl bw W0 we w A c f o d voe vo vd bx m)(j:Nat)(u:Value)(m':Nd)
 (hm:(#[.int .i64 m.op,.int .i64 m.i,.int .i64 m.e,.int .i64 m.g,.int .i64 m.x,.int .i64 m.y]:Array Value).setIfInBounds j u=#[.int .i64 m'.op,.int .i64 m'.i,.int .i64 m'.e,.int .i64 m'.g,.int .i64 m'.x,.int .i64 m'.y]):
 Cl bw W0 we (w.setCell ⟨bx,j,none⟩ u) A c f o d voe vo vd bx m':=by
 obtain⟨f1,f4⟩:=h.fresh;have hb:=h.bwlt;have wQ:=h.inv.low;have gJ:∀k,k≠bx->(w.setCell ⟨bx,j,none⟩ u).heap[k]?=w.heap[k]?:=fun k hk=>Below.heap_setCell _ _ _ _ hk
 have mP:(w.setCell ⟨bx,j,none⟩ u).heap.size=w.heap.size:=by simp [World.setCell]
 refine⟨h.inv.keep (h.inv.below.setCell (by show W0.heap.size<=bx;omega) _) fun k _ hk=>gJ k ?_,?_,h.bwlt,h.dlt,?_,f1,f4⟩
 ·rcases hk with hk|hk|hk
  ·omega
  ·exact fun e=>f4 (by rw [hk,e])
  intro e;have:=h.dlt k hk;omega
 ·exact⟨h.step.os,h.step.tape,h.step.output,by rw [mP];exact h.step.size,fun k hk h1 h2 h3=>(gJ k (by omega)).trans (h.step.block k hk h1 h2 h3),h.step.row⟩
 have hb:=h.box;simp only [World.setCell,Array.getElem?_modify,hb,if_true,Option.map_some];simp [hm]
theorem Zzd {w:World} {base:Nat} {e:TypeId} {n g cap i:Nat} {xs:List Value}(h:w.ownsRow base e 1 (.slice (some ⟨g,0,none⟩) n cap) n xs)(u:Value):
 (w.setCell ⟨g,i,none⟩ u).ownsRow base e 1 (.slice (some ⟨g,0,none⟩) n cap) n (xs.set i u):=by
 refine⟨by simpa using h.1,.inr ?_⟩;rcases h.2 with⟨he,_⟩|⟨g',cap',cur,he,hb,hg,hn,hm,hs,ht⟩
 ·cases he
 injection he with e1 _ e3;injection e1 with e1;injection e1 with e1;subst e1 e3;refine⟨g,cap,cur.setIfInBounds i u,rfl,hb,?_,hn,hm,by simpa using hs,?_⟩
 ·simp only [World.setCell,Array.getElem?_modify,hg,if_true,Option.map_some];simp
 rw [<-ht];simp only [Array.toList_setIfInBounds];rw [List.take_set]
theorem Zzt {d:List Int} {i n:Nat} {z:Int}(h:d.length=n)(hi:i < n):(d.set i z)[i]?=some z:=by rw [List.getElem?_set_self (by omega)]
theorem Qoj {g cap i:Nat} {w5:World} {vo3:Value}(hf:Wf f)(h:Cl bw W0 we w A c f o d voe vo (.slice (some ⟨g,0,none⟩) f.length cap) bx m) {o0:List Nd}(wX:Zw f i o0=(Jq o m,o.idxOf m))(hi:i < f.length)
 (yX:w5.heap[bw]?=some (.cells #[vo3,.slice (some ⟨g,0,none⟩) f.length cap] 170 (0,0)))(zR:w5.ownsRow W0.heap.size 71 6 vo3 (Jq o m).length ((Jq o m).flatMap Nd.cells))(wZ:Xg bw w w5 vo vo3)(zP:m.ok):
 d.length=f.length/\Hid (Dz bw W0 (w5.setCell ⟨g,i,none⟩ (.int .i64 (o.idxOf m:Nat))) A c f (Jq o m) (d.set i (o.idxOf m:Nat)) vo3 (.slice (some ⟨g,0,none⟩) f.length cap))/\
  Hid (Gi bw (.slice (some ⟨g,0,none⟩) f.length cap) we (w5.setCell ⟨g,i,none⟩ (.int .i64 (o.idxOf m:Nat))) voe vo3):=by
 obtain⟨a1,a2,a3⟩:=h.inv.aparts;have hg:=(h.inv.drow.lt g rfl);have tV:w5.heap[g]?=w.heap[g]?:=wZ.block g hg.2 (fun e=>a2 (by rw [<-e];rfl)) (a3 g rfl);have CI:g≠bw:=fun e=>a2 (by rw [<-e];rfl)
 have hvg:vo3.ownBlock≠some g:=fun e=>by
  rcases wZ.row g e with e1|e1
  ·exact a3 g rfl e1
  omega
 have MK:w5.ownsRow W0.heap.size 3 1 (.slice (some ⟨g,0,none⟩) f.length cap) f.length (d.map (Value.int .i64)):=Zp h.inv.drow fun k hk=>by
  injection hk with hk;subst hk;exact tV
 have uZ:=Bq hf i o0 (Jq o m) hi (by rw [wX];exact List.prefix_refl _);rw [wX]at uZ;refine⟨h.inv.done.1,⟨?_,h.inv.nds,?_,?_,?_,?_,h.inv.low,?_⟩,?_⟩
 ·refine Below.setCell (Below.trans h.inv.below ?_) (by exact hg.1) _;refine⟨wZ.os,wZ.tape,wZ.output,wZ.size,fun k hk=>wZ.block k (Qy hk h.inv.below.size) (by have:=h.inv.low;omega) (fun e=> ?_)⟩;have:=(h.inv.row.lt k e).1;omega
 ·exact(Below.heap_setCell _ _ _ _ (Ne.symm CI)).trans yX
 ·exact ownsRow_setCell_other zR hvg _
 ·have h2:=Zzd MK (i:=i) (.int .i64 (o.idxOf m:Nat));rw [<-List.map_set]at h2;exact h2
 ·have h3:=(h.inv.done.grow hf (Xl o m)).put hi (by rw [uZ]);rw [uZ]at h3;exact h3
 ·intro n hn;unfold Jq at hn
  split at hn
  ·exact h.inv.oks n hn
  rcases List.mem_append.1 hn with hn|hn
  ·exact h.inv.oks n hn
  rw [List.mem_singleton.1 hn];exact zP
 exact h.step.trans ((Gi.of_p wZ).trans (Gi.set_ _ _ ⟨g,i,none⟩ rfl _))
end
def Qdj(bw:Nat)(W0:World)(A:Option Addr)(c:Nat)(f:List Nd)(vd:Value)(z:Int):Prop :=
 ∀(w:World) (o:List Nd) (d:List Int) (vo:Value),Dz bw W0 w A c f o d vo vd->Dk f o<=f.length->
  Calls Tryz.prog 181 #[.slice A f.length c,.int .i64 z,.pointer (some ⟨bw,0,none⟩)] w
   fun e w'=>∃vo' d',e=.returned (.int .i64 (Zw f z.toNat o).2)/\Dz bw W0 w' A c f (Zw f z.toNat o).1 d' vo' vd/\Gi bw vd w w' vo vo'
theorem Qaj {bw:Nat} {W0 w:World} {A:Option Addr} {c:Nat} {f o:List Nd} {d:List Int} {vo vd:Value}(h:Dz bw W0 w A c f o d vo vd)(zG:f.length<=1000)(i k:Nat)(hi:i < f.length)(hd:d[i]?=some (k:Int)):
 Calls Tryz.prog 181 #[.slice A f.length c,.int .i64 i,.pointer (some ⟨bw,0,none⟩)] w fun e w'=>e=.returned (.int .i64 k)/\w=w':=by
 obtain⟨b0,b1,bfr,blt⟩:=Uz h.blk;obtain⟨g,cap,rfl,hg,xR,yN,yR⟩:=Le h.drow (by omega);obtain⟨hc,_⟩:=yR i k hd;have iR:w.cell? ((⟨g,0,none⟩:Addr).add i)=some (.int .i64 (k:Int)):=by rw [Fo];exact hc
 unfold maxLen at yN;clear yR h hd;go_enter Tryz.func181,Tryz.ntmps181;go_wp2_with fail;go_ret;exact⟨rfl,rfl⟩
theorem Xg.undrew {bw:Nat} {w w':World} {v v':Value}(h:Xg bw w.drew w' v v'):Xg bw w w' v v':=⟨h.os,h.tape,h.output,h.size,h.block,h.row⟩
theorem Qln {bw:Nat} {W0 w w5:World} {A:Option Addr} {c i g cap:Nat} {f o:List Nd} {d:List Int} {vo vo3:Value}(h:Dz bw W0 w A c f o d vo (.slice (some ⟨g,0,none⟩) f.length cap))(hi:i < f.length)(wZ:Xg bw w w5 vo vo3):
 (∃z,w5.cell? ⟨g,i,none⟩=some (.int .i64 z))/\w5.frozen? ⟨g,i,none⟩=false/\g < w5.heap.size:=by
 obtain⟨g',cap',e',vM,_,_,rM⟩:=Le h.drow (by omega);obtain⟨rfl,rfl⟩:g=g'/\cap=cap':=by injection e' with e1 _ e3;injection e1 with e1;injection e1 with e1;exact⟨e1,e3⟩
 have hl:i < d.length:=by rw [h.done.1];exact hi
 obtain⟨c1,c2⟩:=rM i _ (Qv hl);obtain⟨a1,a2,a3⟩:=h.aparts;have hb:=wZ.block g vM (fun e=>a2 (by rw [<-e];rfl)) (a3 g rfl);exact⟨⟨_,(World.cell?_of_block (a:=⟨g,i,none⟩) hb).trans c1⟩,(World.frozen?_of_block (a:=⟨g,i,none⟩) hb).trans c2,Qy vM wZ.size⟩
theorem Qoz {bw:Nat} {W0 w:World} {A:Option Addr} {c:Nat} {f o:List Nd} {d:List Int} {vo vd:Value}(hf:Wf f)(zP:∀n∈f,n.ok)(h:Dz bw W0 w A c f o d vo vd)(zG:f.length<=1000)(i:Nat)(n:Nd)(hn:f[i]?=some n)
 (hd:d[i]?=some (-1))(nI:Dk f o<=f.length)(ih:∀z:Int,0<=z->z < i->Qdj bw W0 A c f vd z)(ux uy:Bool)(pJ:Zq n.op=ux)(sA:Qw n.op=uy):
 Calls Tryz.prog 181 #[.slice A f.length c,.int .i64 i,.pointer (some ⟨bw,0,none⟩)] w
  fun e w'=>∃vo' d',e=.returned (.int .i64 (Zw f i o).2)/\Dz bw W0 w' A c f (Zw f i o).1 d' vo' vd/\Gi bw vd w w' vo vo':=by
 have hi:i < f.length:=(List.getElem?_eq_some_iff.1 hn).1;obtain⟨b0,b1,bfr,blt⟩:=Uz h.blk;obtain⟨g,cap,rfl,hg,xR,yN,yR⟩:=Le h.drow (by omega);obtain⟨hc,_⟩:=yR i _ hd;unfold maxLen at yN;obtain⟨ad,rfl,zJ,zH⟩:=h.nds.2.2 (by intro e;rw [e]at hi;simp at hi);have MR:=h.nds.1;have dJ:=h.nds.2.1;unfold maxLen at dJ;obtain⟨c0,c1,c2,c3,c4,c5⟩:=(zH i n hn).keep fun p hp=>h.below.cell (p:=p) (by rw [hp,Qr];exact zJ)
 have DG:(ad.add (i*6)).block < w.heap.size:=by rw [Qr];exact Qy zJ h.below.size
 have qJ:=Qq (zH i n hn);have H:=Qq h;have HN:=Qq hn;have nW:=Qq pJ;have oP:=Qq sA;have IH:=Qq ih;have HF:=Qq hf;have zE:=Qq zP;have HP:=Qq nI;clear h hn pJ sA ih zH hf zP yR hd nI;have bL:=Qq (Cl.start H.out n);go_enter Tryz.func181,Tryz.ntmps181;go_upto_if 29 with(go_at_call 103;refine(Pq nW.out _).mono ?_;rintro e w' ⟨rfl,rfl⟩);go_cut [] (fun wx=>∃vo1 d1,Cl bw W0 w wx (some ad) c f (Yf f n o).1 d1 vo vo1 (.slice (some ⟨g,0,none⟩) f.length cap) w.heap.size (n.with_ (Yf f n o).2 n.y.toNat))
 case first =>
  cases ux
  ·go_wp2_with fail;go_meet;exact⟨vo,d,by rw [Qht nW.out,Qah nW.out (fun e=>((HF.out i n HN.out).2 e).1)];exact bL.out⟩
  obtain⟨yI,zN⟩:=(HF.out i n HN.out).1 nW.out;go_wp2_with fail;refine(IH.out n.x yI zN _ _ _ _ bL.out.inv HP.out).mono ?_;rintro e w2 ⟨vo1,d1,rfl,tU,vI⟩;have wE:=Qq (bL.out.call tU vI);clear tU vI;obtain⟨⟨d0,d1',d2,d3,d4,d5⟩,dfr,dlt⟩:=Vc wE.out.box;go_wp2_with fail;go_meet;refine⟨vo1,d1,?_⟩;rw [Qtj nW.out];exact wE.out.store 4 _ _ (Qtl nW.out (fun e=>((HF.out i n HN.out).2 e).1))
 case rest =>
  obtain⟨vo1,d1,uQ⟩:=hcut;have gZ:Hid (Dk f (Yf f n o).1<=f.length):=Qq (Qx (Qtx HF.out HN.out o) HP.out);obtain⟨o1,k1,SG⟩:∃o1 k1,Yf f n o=(o1,k1):=⟨_,_,rfl⟩;have uT:=Qq SG;rw [SG]at uQ gZ;simp only at uQ gZ;clear SG b0 b1 bfr blt hc c0 c1 c2 c3 c4 c5 DG bL;obtain⟨⟨q0,q1,q2,q3,q4,q5⟩,qfr,qlt⟩:=Vc uQ.box;rw [show(n.with_ k1 n.y.toNat).op=n.op from rfl]at q0;obtain⟨c0,c1,c2,c3,c4,c5⟩:=qJ.out.keep fun p hp=>uQ.inv.below.cell (p:=p) (by rw [hp,Qr];exact zJ)
  have HM:=Qq uQ;clear uQ;go_upto_if 41 with(go_at_call 104;refine(Pz oP.out _).mono ?_;rintro e w' ⟨rfl,rfl⟩);go_cut [] (fun wx=>∃vo2 d2,Cl bw W0 w wx (some ad) c f (Vh f n o1).1 d2 vo vo2 (.slice (some ⟨g,0,none⟩) f.length cap) w.heap.size (n.with_ k1 (Vh f n o1).2))
  case first =>
   cases uy
   ·go_wp2_with fail;go_meet;exact⟨vo1,d1,by rw [Qhl oP.out,Qtw oP.out];exact HM.out⟩
   obtain⟨YB,GW⟩:=(HF.out i n HN.out).2 oP.out;go_wp2_with fail;refine(IH.out n.y YB GW _ _ _ _ HM.out.inv gZ.out).mono ?_;rintro e w2 ⟨vo2,d2,rfl,tU,vI⟩;have wE:=Qq (HM.out.call tU vI);clear tU vI q0 q1 q2 q3 q4 q5 qfr qlt c0 c1 c2 c3 c4 c5;obtain⟨⟨q0,q1,q2,q3,q4,q5⟩,qfr,qlt⟩:=Vc wE.out.box;go_wp2_with fail;go_meet;refine⟨vo2,d2,?_⟩;rw [Qty oP.out];exact wE.out.store 5 _ _ (Qtm oP.out _ rfl)
  case rest =>
   obtain⟨vo2,d2,wM⟩:=hcut;have gY:Hid (Dk f (Vh f n o1).1<=f.length):=Qq (Qx (Qtg HF.out HN.out o1) gZ.out);obtain⟨o2,k2,fL⟩:∃o2 k2,Vh f n o1=(o2,k2):=⟨_,_,rfl⟩;have XN:=Qq fL;rw [fL]at wM gY;simp only at wM gY;clear fL q0 q1 q2 q3 q4 q5 qfr qlt c0 c1 c2 c3 c4 c5;have yV:k1<=1000:=Qij HF.out HN.out uT.out zG gZ.out;have wV:k2<=1000:=Qiy HF.out HN.out XN.out zG gY.out;have oA:=Qq (Qte (zE.out n (List.mem_of_getElem? HN.out)) yV wV);have wB:=Qq (Qcq HF.out HN.out uT.out XN.out);clear yV wV;generalize n.with_ k1 k2=mm at wM oA wB;obtain⟨⟨q0,q1,q2,q3,q4,q5⟩,qfr,qlt⟩:=Vc wM.box
   obtain⟨b0,b1,bfr,blt⟩:=Uz wM.inv.blk;have wE:=Qq wM;clear wM;go_upto_region 8 with(fail);go_cut [] (fun wx=>∃vo3 d3,Hid (d3[i]?=some ((o2.idxOf mm:Nat):Int))/\Hid (Dz bw W0 wx (some ad) c f (Jq o2 mm) d3 vo3 (.slice (some ⟨g,0,none⟩) f.length cap))/\Hid (Gi bw (.slice (some ⟨g,0,none⟩) f.length cap) w wx vo vo3))
   case first =>
    have IX:=wE.out.inv.aparts;have UM:=Qq (Zzf bw W0.heap.size mm o2 vo2 (.slice (some ⟨g,0,none⟩) f.length cap));have J7:=Qq IX;have sT:o2.length<=1000:=Qx (Gp f o2) (Qx gY.out zG);clear IX;go_region_with (go_at_call 207;refine(UM.out _ (by exact wE.out.inv.blk) (by exact wE.out.inv.row) (by exact wE.out.inv.below.size) sT J7.out.1).mono ?_;rintro e w5 ⟨vo3,rfl,dL,sB,cC⟩;have RM:Xg bw wc w5 vo2 vo3:=(by first|exact cC|exact Xg.undrew cC);obtain⟨r0,r1,rfr,rlt⟩:=Uz dL;obtain⟨⟨z0,s0⟩,s1,slt⟩:=Qln wE.out.inv hi RM;have H5:=Qq (Qoj HF.out wE.out wB.out hi dL sB RM oA.out);clear dL sB RM cC)
    all_goals
     go_wp2_with fail;go_meet;exact⟨vo3,_,Qq (Zzt H5.out.1 hi),H5.out.2.1,H5.out.2.2⟩
   case rest =>
    obtain⟨vo3,d3,GP,nC,qH⟩:=hcut;obtain⟨b0',b1',bfr',blt'⟩:=Uz nC.out.blk;obtain⟨g',cap',e',vM,P9,M1,rM⟩:=Le nC.out.drow (by omega);obtain⟨rfl,rfl⟩:g=g'/\cap=cap':=by injection e' with e1 _ e3;injection e1 with e1;injection e1 with e1;exact⟨e1,e3⟩
    have xS:=(rM i _ GP.out).1;clear rM e';go_wp2_with fail;go_ret;refine⟨vo3,d3,Ko ?_,?_,qH.out⟩
    ·rw [wB.out]
    rw [wB.out];exact nC.out
end Go.Proofs.YtkmclcmnoicagaaGreatDoor
