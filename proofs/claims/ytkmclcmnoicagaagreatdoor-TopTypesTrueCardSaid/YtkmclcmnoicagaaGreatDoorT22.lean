/- Truth along an embedding with a closed image: the part of a model that is closed under its relations says the same (plain). -/
import Derived.Test.YtkmclcmnoicagaaGreatDoorT21
import Derived.RegionTactic
namespace Go.Proofs.YtkmclcmnoicagaaGreatDoor
set_option maxRecDepth 100000
set_option maxHeartbeats 128000000
def Qpz(A F:Nat)(n:Nd):Prop :=
 (n.op=3->0<=n.i/\n.i < F)/\(n.op=9\/n.op=10->0<=n.i/\n.i < A)/\
  (n.op=11\/n.op=12\/n.op=13->(∀j:Nat,Yl n.g j=true->j < A)/\∃j:Nat,j < 4/\Yl n.g j=true)
structure Emb (M N:KM) (A F:Nat) (e:M.W->N.W):Prop where
 fact:∀i:Int,0<=i->i < F->∀u,M.V i u↔N.V i (e u)
 rel:∀i:Int,0<=i->i < A->∀u v,M.R i u v↔N.R i (e u) (e v)
 cl:∀i:Int,0<=i->i < A->∀u y,N.R i (e u) y->∃v,e v=y
section
variable {M N:KM} {A F:Nat} {e:M.W->N.W}
theorem Emb.sat(h:Emb M N A F e):∀(t:Tr),t.all (Qpz A F)->∀u,M.sat t u↔N.sat t (e u)
 |.leaf n,hf,u=>by
  show(n.op=1\/(n.op=3/\M.V n.i u))↔(n.op=1\/(n.op=3/\N.V n.i (e u)));refine or_congr Iff.rfl (and_congr_right fun h3=>h.fact _ (hf.1 h3).1 (hf.1 h3).2 u)
 |.one n a,hf,u=>by
  have ih:=h.sat a hf.2;unfold KM.sat;by_cases h4:n.op=4
  ·rw [if_pos h4,if_pos h4,ih u]
  rw [if_neg h4,if_neg h4];by_cases h9:n.op=9
  ·rw [if_pos h9,if_pos h9];obtain⟨h0,h1⟩:=hf.1.2.1 (.inl h9);constructor
   ·intro k y hy;obtain⟨v,rfl⟩:=h.cl _ h0 h1 u y hy;exact(ih v).1 (k v ((h.rel _ h0 h1 u v).2 hy))
   intro k v hv;exact(ih v).2 (k (e v) ((h.rel _ h0 h1 u v).1 hv))
  rw [if_neg h9,if_neg h9];by_cases h10:n.op=10
  ·rw [if_pos h10,if_pos h10];obtain⟨h0,h1⟩:=hf.1.2.1 (.inr h10);constructor
   ·rintro⟨v,hv,k⟩;exact⟨e v,(h.rel _ h0 h1 u v).1 hv,(ih v).1 k⟩
   rintro⟨y,hy,k⟩;obtain⟨v,rfl⟩:=h.cl _ h0 h1 u y hy;exact⟨v,(h.rel _ h0 h1 u v).2 hy,(ih v).2 k⟩
  rw [if_neg h10,if_neg h10];by_cases h11:n.op=11
  ·rw [if_pos h11,if_pos h11];obtain⟨hA,_⟩:=hf.1.2.2 (.inl h11);have hA2:∀i:Nat,Yl n.g i=true->(0:Int)<=i/\(i:Int) < A:=fun i hi=>by have:=hA i hi;omega
   constructor
   ·intro k i hi hg y hy;obtain⟨v,rfl⟩:=h.cl _ (hA2 i hg).1 (hA2 i hg).2 u y hy;exact(ih v).1 (k i hi hg v ((h.rel _ (hA2 i hg).1 (hA2 i hg).2 u v).2 hy))
   intro k i hi hg v hv;exact(ih v).2 (k i hi hg (e v) ((h.rel _ (hA2 i hg).1 (hA2 i hg).2 u v).1 hv))
  rw [if_neg h11,if_neg h11];by_cases h12:n.op=12
  ·rw [if_pos h12,if_pos h12];obtain⟨hA,j,hj,hgj⟩:=hf.1.2.2 (.inr (.inl h12));have hA2:∀i:Nat,Yl n.g i=true->(0:Int)<=i/\(i:Int) < A:=fun i hi=>by have:=hA i hi;omega
   constructor
   ·intro k y hy;obtain⟨v,rfl⟩:=h.cl _ (hA2 j hgj).1 (hA2 j hgj).2 u y (hy j hj hgj);exact(ih v).1 (k v fun i hi hg=>(h.rel _ (hA2 i hg).1 (hA2 i hg).2 u v).2 (hy i hi hg))
   intro k v hv;exact(ih v).2 (k (e v) fun i hi hg=>(h.rel _ (hA2 i hg).1 (hA2 i hg).2 u v).1 (hv i hi hg))
  rw [if_neg h12,if_neg h12]
 |.two n a b,hf,u=>by
  have iha:=h.sat a hf.2.1;have ihb:=h.sat b hf.2.2;unfold KM.sat;by_cases h5:n.op=5
  ·rw [if_pos h5,if_pos h5,iha u,ihb u]
  rw [if_neg h5,if_neg h5];by_cases h6:n.op=6
  ·rw [if_pos h6,if_pos h6,iha u,ihb u]
  rw [if_neg h6,if_neg h6];by_cases h7:n.op=7
  ·rw [if_pos h7,if_pos h7,iha u,ihb u]
  rw [if_neg h7,if_neg h7];by_cases h8:n.op=8
  ·rw [if_pos h8,if_pos h8,iha u,ihb u]
  rw [if_neg h8,if_neg h8];by_cases h13:n.op=13
  ·rw [if_pos h13,if_pos h13];obtain⟨hA,_⟩:=hf.1.2.2 (.inr (.inr h13));have hA2:∀i:Nat,Yl n.g i=true->(0:Int)<=i/\(i:Int) < A:=fun i hi=>by have:=hA i hi;omega
   have hst:∀x y,M.step n.g (M.sat a) x y↔N.step n.g (N.sat a) (e x) (e y):=fun x y=>by
    unfold KM.step;rw [iha y];refine and_congr ⟨?_,?_⟩ Iff.rfl
    ·rintro⟨i,hi,hg,hr⟩;exact⟨i,hi,hg,(h.rel _ (hA2 i hg).1 (hA2 i hg).2 x y).1 hr⟩
    rintro⟨i,hi,hg,hr⟩;exact⟨i,hi,hg,(h.rel _ (hA2 i hg).1 (hA2 i hg).2 x y).2 hr⟩
   have hcl:∀x q,N.step n.g (N.sat a) (e x) q->∃y,e y=q:=fun x q=>by
    rintro⟨⟨i,hi,hg,hr⟩,_⟩;exact h.cl _ (hA2 i hg).1 (hA2 i hg).2 x q hr
   have up:∀x y,Rch (M.step n.g (M.sat a)) x y->Rch (N.step n.g (N.sat a)) (e x) (e y):=fun x y hr=>hr.map e (fun x y h=>(hst x y).1 h)
   have down:∀p q,Rch (N.step n.g (N.sat a)) p q->∀x,e x=p->∃y,e y=q/\Rch (M.step n.g (M.sat a)) x y:=by
    intro p q hr
    induction hr with
    |@one p q hp =>
     rintro x rfl;obtain⟨y,rfl⟩:=hcl x q hp;exact⟨y,rfl,.one ((hst x y).2 hp)⟩
    |@cons p q r hp _ ih =>
     rintro x rfl;obtain⟨y,rfl⟩:=hcl x q hp;obtain⟨z,hz,hr⟩:=ih y rfl;exact⟨z,hz,.cons ((hst x y).2 hp) hr⟩
   constructor
   ·intro k v hv;obtain⟨y,rfl,hy⟩:=down _ _ hv u rfl;exact(ihb y).1 (k y hy)
   intro k v hv;exact(ihb v).2 (k (e v) (up _ _ hv))
  rw [if_neg h13,if_neg h13]
theorem Emb.frm(h:Emb M N A F e) {lg:Int} {i:Int}(h0:0<=i)(h1:i < A)(hN:Frm lg (N.R i)):Frm lg (M.R i) where
 ser:=fun hl w=>by
  obtain⟨y,hy⟩:=hN.ser hl (e w);obtain⟨v,rfl⟩:=h.cl i h0 h1 w y hy;exact⟨v,(h.rel i h0 h1 w v).2 hy⟩
 refl:=fun hl w=>(h.rel i h0 h1 w w).2 (hN.refl hl (e w))
 trans:=fun hl u v w a b=>(h.rel i h0 h1 u w).2 (hN.trans hl _ _ _ ((h.rel i h0 h1 u v).1 a) ((h.rel i h0 h1 v w).1 b))
 eucl:=fun hl u v w a b=>(h.rel i h0 h1 v w).2 (hN.eucl hl _ _ _ ((h.rel i h0 h1 u v).1 a) ((h.rel i h0 h1 u w).1 b))
end
theorem Hi {md:Md} {lg:Int}(hck:Zy md=0)(hlg:0<=lg/\lg<=6):Fm md lg↔∀a:Nat,a < md.rel.length->Frm lg ((Kd md).R (a:Int)):=by
 constructor
 ·intro h a _;exact Qdc h (a:Int)
 intro h;refine⟨hlg,hck,fun r hr=> ?_⟩;obtain⟨a,ha,rfl⟩:=List.getElem_of_mem hr;have hF:=h a ha;have hl:=(Jv hck).2.2.2.2.1 _ hr;have hln:(md.rel[a]).length=md.n.toNat:=by omega
 have ea:md.rel.getD a []=md.rel[a]:=by rw [Qk,Qv ha];rfl
 have hR:∀u v:Fin md.n.toNat,(Kd md).R (a:Int) u v↔((md.rel[a]).getD u.1 0).testBit v.1=true:=fun u v=>by
  rw [kmR ha u v,ea]
 have hb:∀u v,((md.rel[a]).getD u 0).testBit v=true->u < md.n.toNat/\v < md.n.toNat:=fun u v hv=>by
  refine Dt hck a u v ?_;rw [ea];exact hv
 unfold Fh Bg;intro q hq;have hp:(q=1/\(lg=1\/lg=5))\/(q=2/\(lg=2\/lg=4\/lg=6))\/(q=4/\3<=lg/\lg<=6)\/(q=5/\(lg=5\/lg=6)):=by
  have hc:lg=0\/lg=1\/lg=2\/lg=3\/lg=4\/lg=5\/lg=6:=by omega
  rcases hc with rfl|rfl|rfl|rfl|rfl|rfl|rfl <;> simp at hq <;> omega
 rcases hp with⟨rfl,hl⟩|⟨rfl,hl⟩|⟨rfl,hl⟩|⟨rfl,hl⟩
 ·have h1:∀i,i < (md.rel[a]).length->(md.rel[a]).getD i 0≠0:=fun i hi e=>by
   obtain⟨v,hv⟩:=hF.ser hl ⟨i,by omega⟩;have:=(hR _ _).1 hv;rw [e,Nat.zero_testBit]at this;cases this
  exact h1
 ·have h1:Qsl (md.rel[a]):=fun i hi=>(hR ⟨i,by omega⟩ ⟨i,by omega⟩).1 (hF.refl hl _)
  exact h1
 ·have h1:Fk false (md.rel[a]):=fun i j hi hj hij=>Vg.2 fun k hk=>by
   have h2:=hb _ _ hk;exact(hR ⟨i,by omega⟩ ⟨k,h2.2⟩).1 (hF.trans hl ⟨i,by omega⟩ ⟨j,by omega⟩ ⟨k,h2.2⟩ ((hR _ _).2 hij) ((hR _ _).2 hk))
  exact h1
 have h1:Fk true (md.rel[a]):=fun i j hi hj hij=>Vg.2 fun k hk=>by
  have h2:=hb _ _ hk;exact(hR ⟨j,by omega⟩ ⟨k,h2.2⟩).1 (hF.eucl hl ⟨i,by omega⟩ ⟨j,by omega⟩ ⟨k,h2.2⟩ ((hR _ _).2 hij) ((hR _ _).2 hk))
 exact h1
open Go.RowKit
section
variable {P:Program} {ops:Array Oper} {Q:Exit->Act->World->Prop} {md:Region.Mode} {S:World->Prop} {z:Nat}
def Uz(P:Program)(md:Region.Mode)(ops:Array Oper)(Q:Exit->Act->World->Prop)(S:World->Prop)(z:Nat):Nat->Array Bool->Act->World->Prop
 |0,up,a,w=>Region.ready md ops up= []/\Q .normal a w
 |n+1,up,a,w=>(Region.ready md ops up= []->Q .normal a w)/\∀i∈Region.ready md ops up,wpOp P ops Q i (fun b v=>(i≠z->S v)/\Uz P md ops Q S z n (up.setIfInBounds i true) b v) a w
theorem Uz.any:∀(n:Nat) (up:Array Bool) (a:Act) (w:World),Uz P md ops Q S z n up a w->wpAny P md ops Q n up a w
 |0,_,_,_,h=>h
 |n+1,_,_,_,h=>⟨h.1,fun i hi=>wpOp_mono (fun b v g=>Uz.any n _ b v g.2) (h.2 i hi)⟩
def Qx1(md:Region.Mode)(ops:Array Oper)(z i:Nat):Prop:=∀o,ops[z]?=some o->∃e∈o.after,Region.binds md e=true/\e.on=i
theorem Qw1 {up:Array Bool} {i:Nat}(h0:up.getD i true=false)(h1:up.getD i false=true):False:=by
 rcases Nat.lt_or_ge i up.size with h'|h'
 ·simp [h']at h0 h1;rw [h0]at h1;cases h1
 simp [Array.getElem?_eq_none h']at h1
theorem Uz.first {i:Nat} {oi:Oper} {v:Value}(hi:ops[i]?=some oi)(hsel:∀(j:Nat) (o:Oper) cs b,ops[j]?=some o->o.op≠.select cs b)(hQ:∀c a w,Q (.panic c) (a.put oi.dst v) w->Q (.panic c) a w)
 (hz:Qx1 md ops z i):∀(n:Nat) (up:Array Bool) (a:Act) (w:World),
  (∀j oj,ops[j]?=some oj->j≠i->up.getD j true=false->(∀e∈oj.after,Region.binds md e=true->e.on≠i)->oi.apart ops oj=true)->
  i∈Region.ready md ops up->YieldsIf P ops S oi v a->S w->Uz P md ops Q S z n (up.setIfInBounds i true) (a.put oi.dst v) w->Uz P md ops Q S z (n+1) up a w
 |0,up,a,w,_,hr,hy,hS,H=>⟨fun h=>(by rw [h]at hr;cases hr),fun j hj=>by
  by_cases e:j=i
  ·subst e;exact hy.wpOp hi hS ⟨fun _=>hS,H⟩
  have h2:=ready_mono hj e;rw [H.1]at h2;cases h2⟩
 |n+1,up,a,w,hfree,hr,hy,hS,H=>⟨fun h=>(by rw [h]at hr;cases hr),fun j hj=>by
  by_cases e:j=i
  ·subst e;exact hy.wpOp hi hS ⟨fun _=>hS,H⟩
  obtain⟨hjun,oj,hoj,hall⟩:=mem_ready.1 hj;have hiun:=(mem_ready.1 hr).1;have hnot:∀e∈oj.after,Region.binds md e=true->e.on≠i:=fun d hd hb hq=>Qw1 hiun (by have:=hall d hd hb;rwa [hq]at this)
  have hjz:j≠z:=fun hjz=>by
   subst hjz;obtain⟨d,hd,hb,hq⟩:=hz oj hoj;exact hnot d hd hb hq
  have h2:=wpOp_putIf hoj (hfree j oj hoj e hjun hnot) (fun cs b=>hsel i oi cs b hi) (fun cs b=>hsel j oj cs b hoj) hQ hy (H.2 j (ready_mono hj e));refine wpOp_mono (fun b v h3=>⟨h3.2.1,Uz.first hi hsel hQ hz n (up.setIfInBounds j true) b v (fun k ok hk hki hun hno=>hfree k ok hk hki ?_ hno) (ready_mono hr (Ne.symm e)) h3.1 (h3.2.1 hjz) ?_⟩) h2
  ·by_cases hjk:j=k
   ·subst hjk;exact hjun
   rw [getD_set_ne true hjk]at hun;exact hun
  rw [Array.setIfInBounds_comm _ _ e];exact h3.2.2⟩
def Qy6(md:Region.Mode)(ops:Array Oper)(z i:Nat):Bool:=match ops[z]? with|none=>true|some o=>o.after.any fun e=>Region.binds md e&&e.on==i
theorem Qh0 {i:Nat}(h:Qy6 md ops z i=true):Qx1 md ops z i:=by
 intro o ho;unfold Qy6 at h;rw [ho]at h;simp only [Array.any_eq_true']at h;obtain⟨e,he,hb⟩:=h;rw [Bool.and_eq_true]at hb;exact⟨e,he,hb.1,eq_of_beq hb.2⟩
theorem Rr {i:Nat} {oi:Oper} {v:Value} {n:Nat} {up:Array Bool} {a:Act} {w:World}(hi:ops[i]?=some oi)(hs:Region.noSelect ops=true)(hf:Region.free md ops up i=true)(hr:(Region.ready md ops up).contains i=true)
 (hz:Qy6 md ops z i=true)(hQ:∀c a w,Q (.panic c) (a.put oi.dst v) w->Q (.panic c) a w)(hy:YieldsIf P ops S oi v a)(hS:S w)
 (h:Uz P md ops Q S z n (up.setIfInBounds i true) (a.put oi.dst v) w):Uz P md ops Q S z (n+1) up a w :=
 Uz.first hi (Region.noSelect_spec hs) hQ (Qh0 hz) n up a w (Region.free_spec hi hf) (by simpa using hr) hy hS h
def Za(P:Program)(md:Region.Mode)(ops:Array Oper)(Q:Exit->Act->World->Prop)(S:World->Prop)(z n:Nat)(up:Array Bool)(a:Act)(w:World)(rs:List Nat):Prop :=
 ∀i∈rs,wpOp P ops Q i (fun b v=>(i≠z->S v)/\Uz P md ops Q S z n (up.setIfInBounds i true) b v) a w
theorem Zs {rs:List Nat} {n:Nat} {up:Array Bool} {a:Act} {w:World}(hr:Region.ready md ops up=rs)(hne:rs≠ [])(h:Za P md ops Q S z n up a w rs):Uz P md ops Q S z (n+1) up a w :=
 ⟨fun h0=>absurd (hr▸h0) hne,hr▸h⟩
theorem Za.nil {n:Nat} {up:Array Bool} {a:Act} {w:World} :Za P md ops Q S z n up a w []:=fun _ h=>by cases h
theorem Za.cons {n:Nat} {up:Array Bool} {a:Act} {w:World} {i:Nat} {o:Oper} {rs:List Nat}(ho:ops[i]?=some o)
 (h:∀K:Act->World->Prop,Hid (∀a w,S w->(S w->Uz P md ops Q S z n (up.setIfInBounds i true) a w)->K a w)->if Region.wanted o (yielded ops a.tmps)=true then Oper.wp P o a w K Q else K (a.put o.dst undef) w)
 (hs:Za P md ops Q S z n up a w rs):Za P md ops Q S z n up a w (i :: rs):=fun j hj=>by
 rcases List.mem_cons.1 hj with rfl|hj
 ·exact wpOp_step ho (fun K hK=>h K (Qq (fun a w hS hW=>hK a w ⟨fun _=>hS,hW hS⟩)))
 exact hs j hj
theorem Vk {n:Nat} {up:Array Bool} {a:Act} {w:World} {o:Oper}(hr:Region.ready md ops up= [z])(ho:ops[z]?=some o)
 (h:∀K:Act->World->Prop,Hid (∀a w,Uz P md ops Q S z n (up.setIfInBounds z true) a w->K a w)->if Region.wanted o (yielded ops a.tmps)=true then Oper.wp P o a w K Q else K (a.put o.dst undef) w):Uz P md ops Q S z (n+1) up a w :=
 ⟨fun h0=>(by rw [hr]at h0;cases h0),fun j hj=>by
  rw [hr,List.mem_singleton]at hj;subst hj;exact wpOp_step ho (fun K hK=>h K (Qq (fun a w hW=>hK a w ⟨fun hne=>absurd rfl hne,hW⟩)))⟩
theorem Vv {up:Array Bool} {a:Act} {w:World}(hr:Region.ready md ops up= [])(h:Q .normal a w):∀n,Uz P md ops Q S z n up a w
 |0=>⟨hr,h⟩
 |_+1=>⟨fun _=>h,by rw [hr];simp⟩
theorem Vb {id:Nat} {a:Act} {w:World}(z:Nat)(S:World->Prop)(hm:P.follows .mixedOrders=true)(hS:S w.drew)(h:S w.drew->Uz P .any ops Q S z ops.size (Array.replicate ops.size false) a w.drew):(Code.region id ops true).wp P Q a w :=
 wp_region_any hm (Uz.any _ _ _ _ (h hS))
end
theorem Qb {P:Program} {md:Region.Mode} {ops:Array Oper} {Q:Exit->Act->World->Prop} {S:World->Prop} {z n:Nat} {up:Array Bool} {a a':Act} {w:World}(h:Uz P md ops Q S z n up a' w)(e:a=a':=by(try simp only [Act.put,List.setIfInBounds_toArray,List.set_cons_zero,List.set_cons_succ,List.getElem_toArray,List.getElem_cons_succ,List.getElem_cons_zero]);exact rfl):Uz P md ops Q S z n up a w:=e▸h
section
variable {P:Program} {md:Region.Mode} {ops:Array Oper} {Q:Exit->Act->World->Prop} {S:World->Prop} {z:Nat}
theorem utk(i:Nat) {oi:Oper} {v:Value} {n:Nat} {up:Array Bool} {a a':Act} {w:World}(hS:S w)
 (h:Uz P md ops Q S z n (up.setIfInBounds i true) a' w)
 (hi:ops[i]?=some oi:=by exact rfl)(hs:Region.noSelect ops=true:=by kernel_rfl)(hf:Region.free md ops up i=true:=by kernel_rfl)(hr:(Region.ready md ops up).contains i=true:=by kernel_rfl)(hz:Qy6 md ops z i=true:=by kernel_rfl)
 (hy:YieldsIf P ops S oi v a:=by refine Or.inl ⟨by rfl,?_⟩;intro w' hSw;(try dsimp only at hSw);go_simp;(try with_reducible rfl))
 (hQ:∀c a w,Q (.panic c) (a.put oi.dst v) w->Q (.panic c) a w:=by exact fun _ _ _ h=>h)
 (ha:a.put oi.dst v=a':=by(try simp only [Act.put,List.setIfInBounds_toArray,List.set_cons_zero,List.set_cons_succ,List.getElem_toArray,List.getElem_cons_succ,List.getElem_cons_zero]);exact rfl):Uz P md ops Q S z (n+1) up a w :=
 Rr hi hs hf hr hz hQ hy hS (by rw [ha];exact h)
end
section
variable {a b:World} {p:Addr} {v:Value}
theorem xd(hb:p.block < a.heap.size)(f:a.cell? p=some v)(h:Ext a b:=by repeat(first|exact Qz|assumption|apply Ext.alloc|apply Ext.drew|apply Ext.setCell)):b.cell? p=some v:=(h.cell hb).trans f
theorem xv(e:Ext a b:=by repeat(first|exact Qz|assumption|apply Ext.alloc|apply Ext.drew|apply Ext.setCell)):Ext a b:=e
end
theorem Qig(v1 v2:Value)(f g:List Nd)(w:World)(h1:Fml w v1 f)(h2:Fml w v2 g):
 Calls Tryz.prog 123 #[v1,v2] w fun e w'=>∃u,e=.returned u/\Jl w w' u (orN f g):=by
 have H1:=Qq h1;have H2:=Qq h2;obtain⟨A1,c1,rfl,_⟩:=Qa h1;obtain⟨A2,c2,rfl,_⟩:=Qa h2;clear h1 h2;go_enter Tryz.func123,Tryz.ntmps123;go_wp2_with fail;refine(Ge ⟨6,0,0,0,0,0⟩ _ [f,g] _ (Ux (Zq (by omega) (by omega)) (Zq (by omega) (by omega)) (Zq (by omega) (by omega)) (Zq (by omega) (by omega)) (Zq (by omega) (by omega)) (Zq (by omega) (by omega))) (Mr H1.out H2.out) (by simp)).mono ?_;rintro e w1 ⟨u,rfl,hm⟩;have HM:=Qq hm;clear hm;go_wp2_with fail;go_ret;exact⟨_,rfl,(HM.out.before (Qz.alloc _))⟩
theorem Qp4(v1 v2:Value)(f g:List Nd)(w:World)(h1:Fml w v1 f)(h2:Fml w v2 g):
 Calls Tryz.prog 124 #[v1,v2] w fun e w'=>∃u,e=.returned u/\Jl w w' u (Qrl f g):=by
 have H1:=Qq h1;have H2:=Qq h2;obtain⟨A1,c1,rfl,_⟩:=Qa h1;obtain⟨A2,c2,rfl,_⟩:=Qa h2;clear h1 h2;go_enter Tryz.func124,Tryz.ntmps124;go_wp2_with fail;refine(Ge ⟨8,0,0,0,0,0⟩ _ [f,g] _ (Ux (Zq (by omega) (by omega)) (Zq (by omega) (by omega)) (Zq (by omega) (by omega)) (Zq (by omega) (by omega)) (Zq (by omega) (by omega)) (Zq (by omega) (by omega))) (Mr H1.out H2.out) (by simp)).mono ?_;rintro e w1 ⟨u,rfl,hm⟩;have HM:=Qq hm;clear hm;go_wp2_with fail;go_ret;exact⟨_,rfl,(HM.out.before (Qz.alloc _))⟩
def De(g:Int)(a b:List Nd):List Nd:=Jc ⟨13,0,0,g,0,0⟩ [a,b]
theorem Qn2(k:Int)(hk:Yj k)(v1 v2:Value)(f g:List Nd)(w:World)(h1:Fml w v1 f)(h2:Fml w v2 g):
 Calls Tryz.prog 125 #[.int .i64 k,v1,v2] w fun e w'=>∃u,e=.returned u/\Jl w w' u (De k f g):=by
 have H1:=Qq h1;have H2:=Qq h2;obtain⟨A1,c1,rfl,_⟩:=Qa h1;obtain⟨A2,c2,rfl,_⟩:=Qa h2;clear h1 h2;go_enter Tryz.func125,Tryz.ntmps125;go_wp2_with fail;refine(Ge ⟨13,0,0,k,0,0⟩ _ [f,g] _ (Ux (Zq (by omega) (by omega)) (Zq (by omega) (by omega)) (Zq (by omega) (by omega)) hk (Zq (by omega) (by omega)) (Zq (by omega) (by omega))) (Mr H1.out H2.out) (by simp)).mono ?_;rintro e w1 ⟨u,rfl,hm⟩;have HM:=Qq hm;clear hm;go_wp2_with fail;go_ret;exact⟨_,rfl,(HM.out.before (Qz.alloc _))⟩
def Cd(g:Int)(a:List Nd):List (List Nd):=((List.range 4).filter fun i=>Yl g i).map fun(i:Nat)=>Ki (i:Int) a
def Qxr(e:List Nd):List (List Nd)->List Nd
 |[]=>e
 |f :: r=>r.foldl Xi (Qg f)
def Qzn(l:List (List Nd)):List Nd:=Qxr Sf l
def Js(x:Nd)(a b:List Nd):List Nd :=
 bif x.op==1 then Sf else bif x.op==2 then Tp else bif x.op==3 then Ur x.i else bif x.op==4 then Jp a
 else bif x.op==9 then Ki x.i a else bif x.op==10 then Jp (Ki x.i (Jp a))
 else bif x.op==11 then Qzn (Cd x.g a)
 else bif x.op==5 then Xi a b else bif x.op==6 then orN a b else bif x.op==7 then Cj a b else bif x.op==8 then Qrl a b else De x.g a b
def Gy:List Nd->List (List Nd)->Option (List (List Nd))
 |[],d=>some d
 |x :: r,d=>bif decide ((Js x (d.getD x.x.toNat []) (d.getD x.y.toNat [])).length=0)then none else Gy r (d++ [Js x (d.getD x.x.toNat []) (d.getD x.y.toNat [])])
def Jd(f:List Nd):List Nd:=match Gy (Qg f) []with|none=> []|some d=>d.getLastD []
def Jm(n:Nd):Bool:=n.op==3||(n.op==9||n.op==13)
def Gl(i:Nat)(c:List Nd):List Nd:=Ki (i:Int) (Cj (Jb c (Qi c).x) (Xi (Jb c (Qi c).y) c))
def Qqb(f:List Nd):List (List Nd):=Dv (Qg f)
def Yz(g:List Nd):List (List Nd):=(Qqb g).filter fun s=>Jm (Qi s)
def Ye(c:List Nd):List (List Nd):=bif (Qi c).op==13 then((List.range 4).filter fun i=>Yl (Qi c).g i).map fun i=>Gl i c else []
def Xd(l:List (List Nd))(g:List Nd):List (List Nd):=bif decide (Yq l g < 0)then l++ [g]else l
def Vx(g:List Nd):List (List Nd)×Int :=
 bif ((Yz g).flatMap Ye).any (fun u=>decide (u.length=0))||decide (12 < (((Yz g).flatMap Ye).foldl Xd (Yz g)).length)then([],8)
 else(((Yz g).flatMap Ye).foldl Xd (Yz g),0)
def Kl(f:List Nd):Bool:=(Jh f&&&500) !=0
def Qn(f:List Nd):List (List Nd)×Int :=
 bif check f !=0 then([],check f)else bif Kl f then([],10)else bif decide ((Jd f).length=0)then([],8)else Vx (Jd f)
def Vp(base:List (List Nd))(f:List Nd):List Int:=(List.range f.length).map fun(i:Nat)=>bif Jm (f.getD i Nd.zero)then Yq base (Jb f (i:Int))else -1
def Vd(n:Nd)(k:Int)(t:Nat)(v:List Bool):Bool :=
 bif decide (0<=k)then t.testBit k.toNat
 else bif n.op==1 then true
 else bif n.op==4 then !v.getD n.x.toNat false
 else bif n.op==5 then v.getD n.x.toNat false&&v.getD n.y.toNat false
 else bif n.op==6 then v.getD n.x.toNat false||v.getD n.y.toNat false
 else bif n.op==7 then !v.getD n.x.toNat false||v.getD n.y.toNat false
 else bif n.op==8 then v.getD n.x.toNat false==v.getD n.y.toNat false
 else false
def Wv(t:Nat):List Nd->List Int->List Bool->List Bool
 |n :: r,k :: s,v=>Wv t r s (v++ [Vd n k t v])
 |_,_,v=>v
def atN(f:List Nd)(ps:List Int)(t:Nat):Bool:=(Wv t f ps []).getLastD false
def Yr(base:List (List Nd))(f:List Nd):List Bool:=(List.range (2^base.length)).map fun t=>atN f (Vp base f) t
structure Kn where
 agent:Int
 place:Nat
 holds:List Bool
structure Cm where
 place:Nat
 group:Int
 x:List Bool
 y:List Bool
 parts:Nat
def Ds(base:List (List Nd))(g:List Nd):Nat:=((List.range 4).filter fun i=>Yl (Qi g).g i).foldl (fun p i=>p|||2^(Yq base (Gl i g)).toNat) 0
def Lz(base:List (List Nd))(g:List Nd)(i:Nat):List Kn:=bif (Qi g).op==9 then [⟨(Qi g).i,i,Yr base (Jb g (Qi g).x)⟩]else []
def Sn(base:List (List Nd))(g:List Nd)(i:Nat):List Cm:=bif (Qi g).op==13 then [⟨i,(Qi g).g,Yr base (Jb g (Qi g).x),Yr base (Jb g (Qi g).y),Ds base g⟩]else []
def Zg(base:List (List Nd)):List Kn:=(List.range base.length).flatMap fun i=>Lz base (base.getD i []) i
def Zc(base:List (List Nd)):List Cm:=(List.range base.length).flatMap fun i=>Sn base (base.getD i []) i
def Fz(lg:Int):Bool:=lg==2||(lg==4||lg==6)
def Ys(lg:Int)(ks:List Kn)(cs:List Cm)(t:Nat):Bool :=
 cs.all (fun c=>t.testBit c.place==((t&&&c.parts)==c.parts))&&ks.all (fun k=> !(Fz lg&&(t.testBit k.place&& !k.holds.getD t false)))
def Ze(lg:Int)(ks:List Kn)(a:Int)(t u:Nat):Bool:=ks.all fun k=>k.agent !=a||Vs lg (t.testBit k.place) (k.holds.getD u false) (u.testBit k.place)
def Xz(lg:Int)(ks:List Kn)(alive:List Bool)(a:Int)(t:Nat)(wanted:Nat->Bool)(u:Nat):Bool:=alive.getD u false&&(wanted u&&Ze lg ks a t u)
def Xq(lg:Int)(ks:List Kn)(alive:List Bool)(a:Int)(t:Nat)(wanted:Nat->Bool):Int:=match (List.range alive.length).find? (Xz lg ks alive a t wanted)with|none=> -1|some u=>u
def Tb(lg:Int)(ks:List Kn)(alive:List Bool)(c:Cm)(t u:Nat):Bool:=alive.getD u false&&(c.x.getD u false&&(List.range 4).any fun(a:Nat)=>Yl c.group a&&Ze lg ks (a:Int) t u)
open Classical in
noncomputable def Ld (lg:Int) (ks:List Kn) (alive:List Bool) (c:Cm) (t:Nat):Bool:=decide (∃u,Rch (fun a b=>Tb lg ks alive c a b=true) t u/\c.y.getD u false=false)
noncomputable def Yy (lg:Int) (ks:List Kn) (cs:List Cm) (alive:List Bool) (t:Nat) (num:Int):Bool :=
 bif decide (num < 0)then(lg==1||lg==5)&&(ks.any (fun k=>k.agent== -1 - num)&&decide (Xq lg ks alive (-1 - num) t (fun _=>true) < 0))
 else match ks.find? (fun k=>(k.place:Int)==num)with
  |some k=> !t.testBit num.toNat&&decide (Xq lg ks alive k.agent t (fun u=> !k.holds.getD u false) < 0)
  |none=>match cs.find? (fun c=>(c.place:Int)==num)with
   |some c=> !t.testBit num.toNat&& !Ld lg ks alive c t
   |none=>false
def Kg(alive root:List Bool):Bool:=(List.range alive.length).any fun t=>alive.getD t false&&root.getD t false
noncomputable def Nj (lg:Int) (ks:List Kn) (cs:List Cm) (m:Nat) (alive:List Bool) (t:Nat):Option Int :=
 ((List.range (m+4)).map fun(j:Nat)=>(j:Int) - 4).find? fun i=>Yy lg ks cs alive t i
def Vl(why:List Bool->Nat->Option Int):List Nat->List Bool×List (Nat×Int)->List Bool×List (Nat×Int)
 |[],s=>s
 |t :: r,s=>Vl why r (bif s.1.getD t false then(match why s.1 t with|none=>s|some i=>(s.1.set t false,s.2++ [(t,i)]))else s)
def Ui(why:List Bool->Nat->Option Int):Nat->List Bool×List (Nat×Int)->List Bool×List (Nat×Int)
 |0,s=>s
 |k+1,s=>bif (Vl why (List.range s.1.length) s).2.length==s.2.length then s else Ui why k (Vl why (List.range s.1.length) s)
noncomputable def Hs (lg:Int) (ks:List Kn) (cs:List Cm) (m:Nat) (alive:List Bool):List Bool×List (Nat×Int):=Ui (Nj lg ks cs m) (alive.length+1) (alive,[])
def Yf(lg:Int)(base:List (List Nd)):List Bool:=(List.range (2^base.length)).map fun t=>Ys lg (Zg base) (Zc base) t
def Zd(lg:Int)(f:List Nd):Int:=bif decide (lg < 0)||decide (6 < lg)then 1 else(Qn f).2
noncomputable def Xe (lg:Int) (f:List Nd):List Bool×List (Nat×Int):=Hs lg (Zg (Qn f).1) (Zc (Qn f).1) (Qn f).1.length (Yf lg (Qn f).1)
def Xo(f:List Nd):List Bool:=Yr (Qn f).1 (Jd f)
noncomputable def Kv (lg:Int) (f:List Nd):Bool:=Kg (Xe lg f).1 (Xo f)
noncomputable def Bf (lg:Int) (f:List Nd):Int:=bif Zd lg f !=0 then Zd lg f else bif Kv lg f then 15 else 0
noncomputable def Qjt (lg:Int) (f:List Nd):Bool×Int:=bif Zd lg f !=0 then(false,Zd lg f)else(Kv lg f,0)
def Uy(lk:List Bool->Nat->Int->Bool):List Nat->List Int->List Bool->Option (List Bool)
 |t :: r,i :: s,al=>bif decide (t < al.length)&&(al.getD t false&&lk al t i)then Uy lk r s (al.set t false)else none
 |_,_,al=>some al
noncomputable def Bk (lg:Int) (f:List Nd) (ts:List Nat) (ws:List Int):Int :=
 bif Zd lg f !=0 then Zd lg f else bif ts.length !=ws.length then 3
 else match Uy (Yy lg (Zg (Qn f).1) (Zc (Qn f).1)) ts ws (Yf lg (Qn f).1)with
  |none=>13
  |some al=>bif Kg al (Xo f)then 13 else 0
def Lk:Tr->List Tr->Tr
 |t,[]=>t
 |t,u :: r=>Lk (.two ⟨5,0,0,0,0,0⟩ t u) r
def Lq:List Tr->Tr
 |[]=> .leaf ⟨1,0,0,0,0,0⟩
 |t :: r=>Lk t r
def Tm(g:Int)(a:Tr):List Tr:=((List.range 4).filter fun i=>Yl g i).map fun(i:Nat)=> .one ⟨9,i,0,0,0,0⟩ a
def Dy(n:Nd)(a b:Tr):Tr :=
 if n.op=10 then .one ⟨4,0,0,0,0,0⟩ (.one ⟨9,n.i,0,0,0,0⟩ (.one ⟨4,0,0,0,0,0⟩ a))
 else if n.op=11 then Lq (Tm n.g a)
 else Yv n a b
def Vq:Tr->Tr
 |.leaf n=> .leaf n
 |.one n a=>if n.op=10 then .one ⟨4,0,0,0,0,0⟩ (.one ⟨9,n.i,0,0,0,0⟩ (.one ⟨4,0,0,0,0,0⟩ (Vq a)))else if n.op=11 then Lq (Tm n.g (Vq a))else .one n (Vq a)
 |.two n a b=> .two n (Vq a) (Vq b)
theorem Qez(n:Nd)(a b:Tr):Vq (Yv n a b)=Dy n (Vq a) (Vq b):=by
 unfold Yv Dy;cases h2:Qc n.op
 ·cases h1:Qh n.op
  ·have h10:n.op≠10:=fun e=>by rw [e]at h1;cases h1
   have h11:n.op≠11:=fun e=>by rw [e]at h1;cases h1
   rw [if_neg h10,if_neg h11];unfold Yv;rw [h1,h2];rfl
  unfold Yv;rw [h1,h2];simp only [cond_false,cond_true,Vq,Bn];rfl
 have h10:n.op≠10:=fun e=>by rw [e]at h2;cases h2
 have h11:n.op≠11:=fun e=>by rw [e]at h2;cases h2
 rw [if_neg h10,if_neg h11];unfold Yv;rw [h2];rfl
section
variable {M:KM}
theorem Qfl:∀(r:List Tr) (t:Tr) (w:M.W),M.sat (Lk t r) w↔M.sat t w/\∀u∈r,M.sat u w
 |[],t,w=>by simp [Lk]
 |u :: r,t,w=>by
  rw [Lk,Qfl r,Qvl];simp only [List.mem_cons,forall_eq_or_imp];exact and_assoc
theorem Qwj(l:List Tr)(w:M.W):M.sat (Lq l) w↔∀u∈l,M.sat u w:=by
 cases l with
 |nil=>simp [Lq,KM.sat]
 |cons t r=>rw [Lq,Qfl];simp
theorem Qmh(g:Int)(a:Tr)(w:M.W):M.sat (Lq (Tm g a)) w↔∀i:Nat,i < 4->Yl g i=true->∀v,M.R (i:Int) w v->M.sat a v:=by
 rw [Qwj];unfold Tm;constructor
 ·intro h i hi hg v hv;exact(Gt rfl).1 (h (.one ⟨9,i,0,0,0,0⟩ a) (List.mem_map.2 ⟨i,List.mem_filter.2 ⟨List.mem_range.2 hi,hg⟩,rfl⟩)) v hv
 intro h u hu;obtain⟨i,hi,rfl⟩:=List.mem_map.1 hu;obtain⟨h1,h2⟩:=List.mem_filter.1 hi;rw [Gt rfl];exact h i (List.mem_range.1 h1) h2
theorem Qwx {a:Tr} {w:M.W} :M.sat (.one ⟨4,0,0,0,0,0⟩ a) w↔¬M.sat a w:=by simp [KM.sat]
theorem My:∀(t:Tr) (w:M.W),M.sat (Vq t) w↔M.sat t w
 |.leaf n,w=>Iff.rfl
 |.one n a,w=>by
  have ih:=My a;unfold Vq;by_cases h10:n.op=10
  ·rw [if_pos h10,Qwx,Gt rfl];simp only [ih,KM.sat,h10,show ¬(10:Int)=4 by decide,show ¬(10:Int)=9 by decide,if_false,if_true];constructor
   ·intro h;obtain⟨v,hv⟩:=Classical.not_forall.1 h;obtain⟨h1,h2⟩:=Classical.not_imp.1 hv;exact⟨v,h1,Classical.not_not.1 h2⟩
   rintro⟨v,h1,h2⟩ h;exact h v h1 h2
  rw [if_neg h10];by_cases h11:n.op=11
  ·rw [if_pos h11,Qmh];simp only [ih,KM.sat,h11,show ¬(11:Int)=4 by decide,show ¬(11:Int)=9 by decide,show ¬(11:Int)=10 by decide,if_false,if_true]
  rw [if_neg h11];simp only [KM.sat,ih,h10,h11,if_false]
 |.two n a b,w=>by
  have iha:M.sat (Vq a)=M.sat a:=funext fun v=>propext (My a v)
  have ihb:M.sat (Vq b)=M.sat b:=funext fun v=>propext (My b v)
  simp only [Vq,KM.sat,iha,ihb]
end
def Hd(t:Tr):Prop:=t.ok/\t.all Zn
section
variable {n:Nd} {s t u:Tr}
theorem Hd.wf(h:Hd t):Wf (Qf t):=Hk h.1
theorem Hd.check(h:Hd t)(hl:(Qf t).length<=200):check (Qf t)=0:=by
 have hp:=Gv h.1;exact Qzm (by intro e;rw [e]at hp;simp at hp) hl h.wf (fun n hn=>Di (fun _ k1 k2 h=>h.with_ k1 k2) t [] h.2 (fun n hn=>by cases hn) n hn)
theorem Hd.one(h1:Qh n.op=true)(h2:Qc n.op=false)(hh:Zn n)(hn:n.head=n)(hs:Hd s):Hd (.one n s):=⟨⟨h1,h2,hn,hs.1⟩,hh,hs.2⟩
theorem Hd.two(h1:Qh n.op=true)(h2:Qc n.op=true)(hh:Zn n)(hn:n.head=n)(hs:Hd s)(ht:Hd t):Hd (.two n s t):=⟨⟨h1,h2,hn,hs.1,ht.1⟩,hh,hs.2,ht.2⟩
theorem Qvd(hs:Hd s)(h1:Qh n.op=true)(h2:Qc n.op=false)(hh:Zn n)(hn:n.head=n):Jc n [Zp s]=Zp (.one n s):=by
 have ho:(Tr.one n s).ok:=⟨h1,h2,hn,hs.1⟩;by_cases hl:(Qf s).length<=200
 ·rw [Xx hl,Hv (hs.check hl) h1 h2 hh,hn,Vf hs.1]
 have:=Qd0 ho;rw [Kf (t:=s) (by omega),Kf (t:=.one n s) (by omega),Hy Da]
theorem Qrt(hs:Hd s)(ht:Hd t)(h1:Qh n.op=true)(h2:Qc n.op=true)(hh:Zn n)(hn:n.head=n):Jc n [Zp s,Zp t]=Zp (.two n s t):=by
 have ho:(Tr.two n s t).ok:=⟨h1,h2,hn,hs.1,ht.1⟩;have hlen:=Qvc ho;by_cases hl:(Qf s).length<=200
 ·by_cases hm:(Qf t).length<=200
  ·rw [Xx hl,Xx hm,Qj6 (hs.check hl) (ht.check hm) h1 h2 hh,hn,Vf hs.1,Vf ht.1]
  rw [Kf (t:=t) (by omega),Kf (t:=.two n s t) (by omega),Lx (.inr Da)]
 rw [Kf (t:=s) (by omega),Kf (t:=.two n s t) (by omega),Lx (.inl Da)]
end
theorem Qn6 {s:Tr}(hs:Hd s):Qg (Zp s)=Zp s:=by
 by_cases hl:(Qf s).length<=200
 ·rw [Xx hl,Ko (hs.check hl),Vf hs.1]
 rw [Kf (by omega),Qgx Da]
theorem Qn5 {s:Tr}(hs:Hd s)(hl:(Qf s).length<=200):Qg (Qf s)=Qf s:=by
 rw [Ko (hs.check hl),Vf hs.1]
theorem Wh(k:Int)(hk:k=5\/k=7):Zn ⟨k,0,0,0,0,0⟩:=by rcases hk with rfl|rfl <;> exact⟨rfl,rfl,rfl,fun _=>rfl,fun _=>rfl⟩
theorem Qgo:Zn ⟨4,0,0,0,0,0⟩:=⟨rfl,rfl,rfl,fun _=>rfl,fun _=>rfl⟩
theorem Qyd {i:Int}(h0:0<=i)(h1:i < 4):Zn ⟨9,i,0,0,0,0⟩:=by
 refine⟨rfl,by simp [Zv,Zk,Qe,Qw,Zz],?_,fun _=>rfl,fun _=>rfl⟩;simp [Jg,Qr,Zk,Qe,Qw,Zz];omega
theorem Qyf {s:Tr}(hs:Hd s):Hd (.one ⟨4,0,0,0,0,0⟩ s):=hs.one rfl rfl Qgo rfl
theorem Qqq {i:Int}(h0:0<=i)(h1:i < 4) {s:Tr}(hs:Hd s):Hd (.one ⟨9,i,0,0,0,0⟩ s):=hs.one rfl rfl (Qyd h0 h1) rfl
theorem Qlg {s t:Tr}(hs:Hd s)(ht:Hd t):Hd (.two ⟨5,0,0,0,0,0⟩ s t):=hs.two rfl rfl (Wh 5 (by omega)) rfl ht
theorem Qo7 {s t:Tr}(hs:Hd s)(ht:Hd t):Hd (.two ⟨7,0,0,0,0,0⟩ s t):=hs.two rfl rfl (Wh 7 (by omega)) rfl ht
theorem Qef:Hd (.leaf ⟨1,0,0,0,0,0⟩):=⟨⟨rfl,rfl⟩,rfl,rfl,rfl,fun _=>rfl,fun _=>rfl⟩
theorem Qj1:∀(r:List Tr) (t:Tr),Hd t->(∀u∈r,Hd u)->(r.map Zp).foldl Xi (Zp t)=Zp (Lk t r)/\Hd (Lk t r)
 |[],t,ht,_=>⟨rfl,ht⟩
 |u :: r,t,ht,hr=>by
  have hu:=hr u (List.mem_cons_self ..);rw [List.map_cons,List.foldl_cons,show Xi (Zp t) (Zp u)=Zp (.two ⟨5,0,0,0,0,0⟩ t u)from Qrt ht hu rfl rfl (Wh 5 (by omega)) rfl];exact Qj1 r _ (Qlg ht hu) (fun v hv=>hr v (List.mem_cons_of_mem _ hv))
theorem Qs5(l:List Tr)(hl:∀u∈l,Hd u):Qzn (l.map Zp)=Zp (Lq l)/\Hd (Lq l):=by
 cases l with
 |nil=>exact⟨by rw [List.map_nil,Qzn,Qxr,Ij,Lq,Xx (by rw [Ro];simp),Ro],Qef⟩
 |cons t r =>
  have ht:=hl t (List.mem_cons_self ..);rw [List.map_cons,Qzn,Qxr,Qn6 ht];exact Qj1 r t ht (fun v hv=>hl v (List.mem_cons_of_mem _ hv))
theorem Qbn {g:Int} {a:Tr}(ha:Hd a):Cd g (Zp a)=(Tm g a).map Zp/\∀u∈Tm g a,Hd u:=by
 have hi:∀i∈(List.range 4).filter (fun i=>Yl g i),i < 4:=fun i h=>List.mem_range.1 (List.mem_filter.1 h).1
 constructor
 ·unfold Cd Tm;rw [List.map_map];refine List.map_congr_left fun i h=> ?_
  exact Qvd ha rfl rfl (Qyd (by omega) (by have:=hi i h;omega)) rfl
 intro u hu;obtain⟨i,h,rfl⟩:=List.mem_map.1 hu;exact Qqq (by omega) (by have:=hi i h;omega) ha
def Nz(op:Int):Prop:=(1<=op/\op<=11)\/op=13
theorem Hq {n:Nd}(h:Zn n)(hk:n.op=1\/n.op=2\/n.op=4\/n.op=5\/n.op=6\/n.op=7\/n.op=8):n.head=⟨n.op,0,0,0,0,0⟩:=by
 obtain⟨op,i,e,g,x,y⟩:=n;obtain⟨_,h2,_,h4,h5⟩:=h;unfold Zv at h2;simp only at hk;rcases hk with rfl|rfl|rfl|rfl|rfl|rfl|rfl <;>(simp [Zk,Qe,Qw,Zz]at h2;obtain⟨⟨a,b⟩,c⟩:=h2;simp [Qh,Qc]at h4 h5;simp [Nd.head,Nd.with_,Qh,Qc,a,b,c];try first|exact⟨h4,h5⟩|exact h5)
theorem Qnm {n:Nd}(h:Zn n)(hk:n.op=3\/n.op=9):n.head=⟨n.op,n.i,0,0,0,0⟩:=by
 obtain⟨op,i,e,g,x,y⟩:=n;obtain⟨_,h2,_,h4,h5⟩:=h;unfold Zv at h2;simp only at hk;rcases hk with rfl|rfl <;>(simp [Zk,Qe,Qw,Zz]at h2;obtain⟨b,c⟩:=h2;simp [Qh,Qc]at h4 h5;simp [Nd.head,Nd.with_,Qh,Qc,b,c];try first|exact⟨h4,h5⟩|exact h5)
theorem Zqg {n:Nd}(h:Zn n)(hk:n.op=13):n.head=⟨n.op,0,0,n.g,0,0⟩:=by
 obtain⟨op,i,e,g,x,y⟩:=n;obtain⟨_,h2,_,h4,h5⟩:=h;unfold Zv at h2;simp only at hk;subst hk;simp [Zk,Qe,Qw,Zz]at h2;obtain⟨a,b⟩:=h2;simp [Nd.head,Nd.with_,Qh,Qc,a,b]
theorem Qx5 {n:Nd}(h:Zn n)(hk:n.op=9\/n.op=10):0<=n.i/\n.i < 4:=by
 obtain⟨_,_,h3,_,_⟩:=h;unfold Jg at h3;rcases hk with ho|ho <;>(rw [ho]at h3;simp [Qr,Zk,Qe,Qw,Zz]at h3;omega)
theorem Zn.head {n:Nd}(h:Zn n):Zn n.head:=h.with_ 0 0
theorem Px {n:Nd}(h1:Qh n.op=false)(h2:Qc n.op=false):n.head=n:=Qk3 h1 h2 0 0
theorem Qry {n:Nd} {a b:Tr}(hn:Zn n)(ho:Nz n.op)(ha:Qh n.op=true->Hd a)(hb:Qc n.op=true->Hd b):Js n (Zp a) (Zp b)=Zp (Dy n a b)/\Hd (Dy n a b):=by
 have hop:n.op=1\/n.op=2\/n.op=3\/n.op=4\/n.op=5\/n.op=6\/n.op=7\/n.op=8\/n.op=9\/n.op=10\/n.op=11\/n.op=13:=by unfold Nz at ho;omega
 have leafc:∀m:Nd,Zp (.leaf m)= [m]:=fun m=>by rw [Xx (by rw [Ro];simp),Ro]
 have hX:∀{k:Int},n.op=k->Qh k=true->Qh n.op=true:=fun h k=>by rw [h];exact k
 have hY:∀{k:Int},n.op=k->Qc k=true->Qc n.op=true:=fun h k=>by rw [h];exact k
 have nX:∀{k:Int},n.op=k->Qh k=false->Qh n.op=false:=fun h k=>by rw [h];exact k
 have nY:∀{k:Int},n.op=k->Qc k=false->Qc n.op=false:=fun h k=>by rw [h];exact k
 have m0:∀{k:Int},n.op=k->Qh k=false->Qc k=false->k≠10->k≠11->Dy n a b=.leaf n:=fun h h1 h2 h3 h4=>by
  unfold Dy Yv;rw [if_neg (by omega),if_neg (by omega),nX h h1,nY h h2];rfl
 have m1:∀{k:Int},n.op=k->Qh k=true->Qc k=false->k≠10->k≠11->Dy n a b=.one n.head a:=fun h h1 h2 h3 h4=>by
  unfold Dy Yv;rw [if_neg (by omega),if_neg (by omega),hX h h1,nY h h2];rfl
 have m2:∀{k:Int},n.op=k->Qc k=true->k≠10->k≠11->Dy n a b=.two n.head a b:=fun h h2 h3 h4=>by
  unfold Dy Yv;rw [if_neg (by omega),if_neg (by omega),hY h h2];rfl
 have two:∀{m:Nd},n.head=m->Qh m.op=true->Qc m.op=true->Hd a->Hd b->Jc m [Zp a,Zp b]=Zp (.two n.head a b)/\Hd (.two n.head a b):=fun {m} e h1 h2 h3 h4=>by
  subst e;exact⟨Qrt h3 h4 h1 h2 hn.head (Rx n),h3.two h1 h2 hn.head (Rx n) h4⟩
 have one:∀{m:Nd},n.head=m->Qh m.op=true->Qc m.op=false->Hd a->Jc m [Zp a]=Zp (.one n.head a)/\Hd (.one n.head a):=fun {m} e h1 h2 h3=>by
  subst e;exact⟨Qvd h3 h1 h2 hn.head (Rx n),h3.one h1 h2 hn.head (Rx n)⟩
 have leaf:∀{k:Int},n.op=k->Qh k=false->Qc k=false->Hd (.leaf n):=fun h h1 h2=>⟨⟨nX h h1,nY h h2⟩,hn⟩
 rcases hop with h|h|h|h|h|h|h|h|h|h|h|h
 ·rw [m0 h rfl rfl (by omega) (by omega),leafc];refine⟨?_,leaf h rfl rfl⟩;have e:=Hq hn (by omega);rw [Px (nX h rfl) (nY h rfl),h]at e;simp only [Js,h];exact Ij.trans (by rw [<-e])
 ·rw [m0 h rfl rfl (by omega) (by omega),leafc];refine⟨?_,leaf h rfl rfl⟩;have e:=Hq hn (by omega);rw [Px (nX h rfl) (nY h rfl),h]at e;simp only [Js,h];exact Qyz.trans (by rw [<-e])
 ·rw [m0 h rfl rfl (by omega) (by omega),leafc];refine⟨?_,leaf h rfl rfl⟩;have e:=Qnm hn (by omega);rw [Px (nX h rfl) (nY h rfl),h]at e;simp only [Js,h];refine((Rw rfl rfl (Zqo hn h)).2).trans ?_;rw [<-e]
 ·rw [m1 h rfl rfl (by omega) (by omega)];have e:=Hq hn (by omega);rw [h]at e;have:=one e rfl rfl (ha (hX h rfl));simp only [Js,h];exact this
 ·rw [m2 h rfl (by omega) (by omega)];have e:=Hq hn (by omega);rw [h]at e;have:=two e rfl rfl (ha (hX h rfl)) (hb (hY h rfl));simp only [Js,h];exact this
 ·rw [m2 h rfl (by omega) (by omega)];have e:=Hq hn (by omega);rw [h]at e;have:=two e rfl rfl (ha (hX h rfl)) (hb (hY h rfl));simp only [Js,h];exact this
 ·rw [m2 h rfl (by omega) (by omega)];have e:=Hq hn (by omega);rw [h]at e;have:=two e rfl rfl (ha (hX h rfl)) (hb (hY h rfl));simp only [Js,h];exact this
 ·rw [m2 h rfl (by omega) (by omega)];have e:=Hq hn (by omega);rw [h]at e;have:=two e rfl rfl (ha (hX h rfl)) (hb (hY h rfl));simp only [Js,h];exact this
 ·rw [m1 h rfl rfl (by omega) (by omega)];have e:=Qnm hn (by omega);rw [h]at e;have:=one e rfl rfl (ha (hX h rfl));simp only [Js,h];exact this
 ·have hA:=ha (hX h rfl);have hi:=Qx5 hn (.inr h);have e1:Jp (Zp a)=Zp (.one ⟨4,0,0,0,0,0⟩ a):=Qvd hA rfl rfl Qgo rfl;have e2:Ki n.i (Zp (.one ⟨4,0,0,0,0,0⟩ a))=Zp (.one ⟨9,n.i,0,0,0,0⟩ (.one ⟨4,0,0,0,0,0⟩ a)):=Qvd (Qyf hA) rfl rfl (Qyd hi.1 hi.2) rfl;have e3:Jp (Zp (.one ⟨9,n.i,0,0,0,0⟩ (.one ⟨4,0,0,0,0,0⟩ a)))=Zp (.one ⟨4,0,0,0,0,0⟩ (.one ⟨9,n.i,0,0,0,0⟩ (.one ⟨4,0,0,0,0,0⟩ a))):=Qvd (Qqq hi.1 hi.2 (Qyf hA)) rfl rfl Qgo rfl;have em:Dy n a b=.one ⟨4,0,0,0,0,0⟩ (.one ⟨9,n.i,0,0,0,0⟩ (.one ⟨4,0,0,0,0,0⟩ a)):=by unfold Dy;rw [if_pos h]
  rw [em];refine⟨?_,Qyf (Qqq hi.1 hi.2 (Qyf hA))⟩;simp only [Js,h];show Jp (Ki n.i (Jp (Zp a)))=_;rw [e1,e2,e3]
 ·have hA:=ha (hX h rfl);have em:Dy n a b=Lq (Tm n.g a):=by unfold Dy;rw [if_neg (by omega),if_pos h]
  rw [em];obtain⟨e1,e2⟩:=Qbn (g:=n.g) hA;obtain⟨e3,e4⟩:=Qs5 _ e2;refine⟨?_,e4⟩;simp only [Js,h];show Qzn (Cd n.g (Zp a))=_;rw [e1,e3]
 rw [m2 h rfl (by omega) (by omega)];have e:=Zqg hn h;rw [h]at e;have:=two e rfl rfl (ha (hX h rfl)) (hb (hY h rfl));simp only [Js,h];exact this
end Go.Proofs.YtkmclcmnoicagaaGreatDoor
