/- Truth along an embedding with a closed image: the part of a model that is closed under its relations says the same (plain). -/
import Derived.Test.YtkmclcmnoicagaaGreatDoorL12
import Derived.RegionTactic
import Derived.Maps.AppendAt
namespace Go.Proofs.YtkmclcmnoicagaaGreatDoor
set_option maxRecDepth 100000
set_option maxHeartbeats 128000000
def Qaq(A F:Nat)(n:Nd):Prop :=
 (n.op=3->0<=n.i/\n.i < F)/\(n.op=9\/n.op=10->0<=n.i/\n.i < A)/\
  (n.op=11\/n.op=12\/n.op=13->(∀j:Nat,Vz n.g j=true->j < A)/\∃j:Nat,j < 4/\Vz n.g j=true)
structure Emb (M N:KM) (A F:Nat) (e:M.W->N.W):Prop where
 fact:∀i:Int,0<=i->i < F->∀u,M.V i u↔N.V i (e u)
 rel:∀i:Int,0<=i->i < A->∀u v,M.R i u v↔N.R i (e u) (e v)
 cl:∀i:Int,0<=i->i < A->∀u y,N.R i (e u) y->∃v,e v=y
section
variable {M N:KM} {A F:Nat} {e:M.W->N.W}
theorem Emb.sat(h:Emb M N A F e):∀(t:Tr),t.all (Qaq A F)->∀u,M.sat t u↔N.sat t (e u)
 |.leaf n,hf,u=>by
  show(n.op=1\/(n.op=3/\M.V n.i u))↔(n.op=1\/(n.op=3/\N.V n.i (e u)));refine or_congr Iff.rfl (and_congr_right fun h3=>h.fact _ (hf.1 h3).1 (hf.1 h3).2 u)
 |.one n a,hf,u=>by
  have ih:=h.sat a hf.2;unfold KM.sat;by_cases h4:n.op=4
  ·rw [if_pos h4,if_pos h4,ih u]
  rw [if_neg h4,if_neg h4];by_cases h9:n.op=9
  ·rw [if_pos h9,if_pos h9];obtain⟨h0,h1⟩:=hf.1.2.1 (.inl h9);constructor
   ·intro k y hy;obtain⟨v,rfl⟩:=h.cl _ h0 h1 u y hy;exact(ih v).1 (k v ((h.rel _ h0 h1 u v).2 hy))
   intro k v hv;exact(ih v).2 (k (e v) ((h.rel _ h0 h1 u v).1 hv))
  rw [if_neg h9,if_neg h9];by_cases xW:n.op=10
  ·rw [if_pos xW,if_pos xW];obtain⟨h0,h1⟩:=hf.1.2.1 (.inr xW);constructor
   ·rintro⟨v,hv,k⟩;exact⟨e v,(h.rel _ h0 h1 u v).1 hv,(ih v).1 k⟩
   rintro⟨y,hy,k⟩;obtain⟨v,rfl⟩:=h.cl _ h0 h1 u y hy;exact⟨v,(h.rel _ h0 h1 u v).2 hy,(ih v).2 k⟩
  rw [if_neg xW,if_neg xW];by_cases uT:n.op=11
  ·rw [if_pos uT,if_pos uT];obtain⟨hA,_⟩:=hf.1.2.2 (.inl uT);have oW:∀i:Nat,Vz n.g i=true->(0:Int)<=i/\(i:Int) < A:=fun i hi=>by have:=hA i hi;omega
   constructor
   ·intro k i hi hg y hy;obtain⟨v,rfl⟩:=h.cl _ (oW i hg).1 (oW i hg).2 u y hy;exact(ih v).1 (k i hi hg v ((h.rel _ (oW i hg).1 (oW i hg).2 u v).2 hy))
   intro k i hi hg v hv;exact(ih v).2 (k i hi hg (e v) ((h.rel _ (oW i hg).1 (oW i hg).2 u v).1 hv))
  rw [if_neg uT,if_neg uT];by_cases h12:n.op=12
  ·rw [if_pos h12,if_pos h12];obtain⟨hA,j,hj,aD⟩:=hf.1.2.2 (.inr (.inl h12));have oW:∀i:Nat,Vz n.g i=true->(0:Int)<=i/\(i:Int) < A:=fun i hi=>by have:=hA i hi;omega
   constructor
   ·intro k y hy;obtain⟨v,rfl⟩:=h.cl _ (oW j aD).1 (oW j aD).2 u y (hy j hj aD);exact(ih v).1 (k v fun i hi hg=>(h.rel _ (oW i hg).1 (oW i hg).2 u v).2 (hy i hi hg))
   intro k v hv;exact(ih v).2 (k (e v) fun i hi hg=>(h.rel _ (oW i hg).1 (oW i hg).2 u v).1 (hv i hi hg))
  rw [if_neg h12,if_neg h12]
 |.two n a b,hf,u=>by
  have iha:=h.sat a hf.2.1;have ihb:=h.sat b hf.2.2;unfold KM.sat;by_cases h5:n.op=5
  ·rw [if_pos h5,if_pos h5,iha u,ihb u]
  rw [if_neg h5,if_neg h5];by_cases h6:n.op=6
  ·rw [if_pos h6,if_pos h6,iha u,ihb u]
  rw [if_neg h6,if_neg h6];by_cases h7:n.op=7
  ·rw [if_pos h7,if_pos h7,iha u,ihb u]
  rw [if_neg h7,if_neg h7];by_cases h8:n.op=8
  ·rw [if_pos h8,if_pos h8,iha u,ihb u]
  rw [if_neg h8,if_neg h8];by_cases xL:n.op=13
  ·rw [if_pos xL,if_pos xL];obtain⟨hA,_⟩:=hf.1.2.2 (.inr (.inr xL));have oW:∀i:Nat,Vz n.g i=true->(0:Int)<=i/\(i:Int) < A:=fun i hi=>by have:=hA i hi;omega
   have xM:∀x y,M.step n.g (M.sat a) x y↔N.step n.g (N.sat a) (e x) (e y):=fun x y=>by
    unfold KM.step;rw [iha y];refine and_congr ⟨?_,?_⟩ Iff.rfl
    ·rintro⟨i,hi,hg,hr⟩;exact⟨i,hi,hg,(h.rel _ (oW i hg).1 (oW i hg).2 x y).1 hr⟩
    rintro⟨i,hi,hg,hr⟩;exact⟨i,hi,hg,(h.rel _ (oW i hg).1 (oW i hg).2 x y).2 hr⟩
   have yR:∀x q,N.step n.g (N.sat a) (e x) q->∃y,e y=q:=fun x q=>by
    rintro⟨⟨i,hi,hg,hr⟩,_⟩;exact h.cl _ (oW i hg).1 (oW i hg).2 x q hr
   have up:∀x y,Vi (M.step n.g (M.sat a)) x y->Vi (N.step n.g (N.sat a)) (e x) (e y):=fun x y hr=>hr.map e (fun x y h=>(xM x y).1 h)
   have down:∀p q,Vi (N.step n.g (N.sat a)) p q->∀x,e x=p->∃y,e y=q/\Vi (M.step n.g (M.sat a)) x y:=by
    intro p q hr
    induction hr with
    |@one p q hp =>
     rintro x rfl;obtain⟨y,rfl⟩:=yR x q hp;exact⟨y,rfl,.one ((xM x y).2 hp)⟩
    |@cons p q r hp _ ih =>
     rintro x rfl;obtain⟨y,rfl⟩:=yR x q hp;obtain⟨z,hz,hr⟩:=ih y rfl;exact⟨z,hz,.cons ((xM x y).2 hp) hr⟩
   constructor
   ·intro k v hv;obtain⟨y,rfl,hy⟩:=down _ _ hv u rfl;exact(ihb y).1 (k y hy)
   intro k v hv;exact(ihb v).2 (k (e v) (up _ _ hv))
  rw [if_neg xL,if_neg xL]
theorem Emb.frm(h:Emb M N A F e) {lg:Int} {i:Int}(h0:0<=i)(h1:i < A)(hN:Frm lg (N.R i)):Frm lg (M.R i) where
 ser:=fun hl w=>by
  obtain⟨y,hy⟩:=hN.ser hl (e w);obtain⟨v,rfl⟩:=h.cl i h0 h1 w y hy;exact⟨v,(h.rel i h0 h1 w v).2 hy⟩
 refl:=fun hl w=>(h.rel i h0 h1 w w).2 (hN.refl hl (e w))
 trans:=fun hl u v w a b=>(h.rel i h0 h1 u w).2 (hN.trans hl _ _ _ ((h.rel i h0 h1 u v).1 a) ((h.rel i h0 h1 v w).1 b))
 eucl:=fun hl u v w a b=>(h.rel i h0 h1 v w).2 (hN.eucl hl _ _ _ ((h.rel i h0 h1 u v).1 a) ((h.rel i h0 h1 u w).1 b))
end
theorem Qqb {md:Md} {lg:Int}(zU:Qa md=0)(yA:0<=lg/\lg<=6):Fl md lg↔∀a:Nat,a < md.rel.length->Frm lg ((Gv md).R (a:Int)):=by
 constructor
 ·intro h a _;exact Qsn h (a:Int)
 intro h;refine⟨yA,zU,fun r hr=> ?_⟩;obtain⟨a,ha,rfl⟩:=List.getElem_of_mem hr;have hF:=h a ha;have hl:=(Zb zU).2.2.2.2.1 _ hr;have UC:(md.rel[a]).length=md.n.toNat:=by omega
 have ea:md.rel.getD a []=md.rel[a]:=by rw [Qk,Qv ha];rfl
 have hR:∀u v:Fin md.n.toNat,(Gv md).R (a:Int) u v↔((md.rel[a]).getD u.1 0).testBit v.1=true:=fun u v=>by
  rw [kmR ha u v,ea]
 have hb:∀u v,((md.rel[a]).getD u 0).testBit v=true->u < md.n.toNat/\v < md.n.toNat:=fun u v hv=>by
  refine Da zU a u v ?_;rw [ea];exact hv
 unfold Dm Gg;intro q hq;have hp:(q=1/\(lg=1\/lg=5))\/(q=2/\(lg=2\/lg=4\/lg=6))\/(q=4/\3<=lg/\lg<=6)\/(q=5/\(lg=5\/lg=6)):=by
  have hc:lg=0\/lg=1\/lg=2\/lg=3\/lg=4\/lg=5\/lg=6:=by omega
  rcases hc with rfl|rfl|rfl|rfl|rfl|rfl|rfl <;> simp at hq <;> omega
 rcases hp with⟨rfl,hl⟩|⟨rfl,hl⟩|⟨rfl,hl⟩|⟨rfl,hl⟩
 ·have h1:∀i,i < (md.rel[a]).length->(md.rel[a]).getD i 0≠0:=fun i hi e=>by
   obtain⟨v,hv⟩:=hF.ser hl ⟨i,by omega⟩;have:=(hR _ _).1 hv;rw [e,Nat.zero_testBit]at this;cases this
  exact h1
 ·have h1:Qxc (md.rel[a]):=fun i hi=>(hR ⟨i,by omega⟩ ⟨i,by omega⟩).1 (hF.refl hl _)
  exact h1
 ·have h1:Gz false (md.rel[a]):=fun i j hi hj sU=>Yy.2 fun k hk=>by
   have h2:=hb _ _ hk;exact(hR ⟨i,by omega⟩ ⟨k,h2.2⟩).1 (hF.trans hl ⟨i,by omega⟩ ⟨j,by omega⟩ ⟨k,h2.2⟩ ((hR _ _).2 sU) ((hR _ _).2 hk))
  exact h1
 have h1:Gz true (md.rel[a]):=fun i j hi hj sU=>Yy.2 fun k hk=>by
  have h2:=hb _ _ hk;exact(hR ⟨j,by omega⟩ ⟨k,h2.2⟩).1 (hF.eucl hl ⟨i,by omega⟩ ⟨j,by omega⟩ ⟨k,h2.2⟩ ((hR _ _).2 sU) ((hR _ _).2 hk))
 exact h1
open Go.RowKit
section
variable {P:Program} {ops:Array Oper} {Q:Exit->Act->World->Prop} {md:Region.Mode} {S:World->Prop} {z:Nat}
def Fv(P:Program)(md:Region.Mode)(ops:Array Oper)(Q:Exit->Act->World->Prop)(S:World->Prop)(z:Nat):Nat->Array Bool->Act->World->Prop
 |0,up,a,w=>Region.ready md ops up= []/\Q .normal a w
 |n+1,up,a,w=>(Region.ready md ops up= []->Q .normal a w)/\∀i∈Region.ready md ops up,wpOp P ops Q i (fun b v=>(i≠z->S v)/\Fv P md ops Q S z n (up.setIfInBounds i true) b v) a w
theorem Fv.any:∀(n:Nat) (up:Array Bool) (a:Act) (w:World),Fv P md ops Q S z n up a w->wpAny P md ops Q n up a w
 |0,_,_,_,h=>h
 |n+1,_,_,_,h=>⟨h.1,fun i hi=>wpOp_mono (fun b v g=>Fv.any n _ b v g.2) (h.2 i hi)⟩
def Qbw(md:Region.Mode)(ops:Array Oper)(z i:Nat):Prop:=∀o,ops[z]?=some o->∃e∈o.after,Region.binds md e=true/\e.on=i
theorem Zq9 {up:Array Bool} {i:Nat}(h0:up.getD i true=false)(h1:up.getD i false=true):False:=by
 rcases Nat.lt_or_ge i up.size with h'|h'
 ·simp [h']at h0 h1;rw [h0]at h1;cases h1
 simp [Array.getElem?_eq_none h']at h1
theorem Fv.first {i:Nat} {oi:Oper} {v:Value}(hi:ops[i]?=some oi)(dI:∀(j:Nat) (o:Oper) cs b,ops[j]?=some o->o.op≠.select cs b)(hQ:∀c a w,Q (.panic c) (a.put oi.dst v) w->Q (.panic c) a w)
 (hz:Qbw md ops z i):∀(n:Nat) (up:Array Bool) (a:Act) (w:World),
  (∀j oj,ops[j]?=some oj->j≠i->up.getD j true=false->(∀e∈oj.after,Region.binds md e=true->e.on≠i)->oi.apart ops oj=true)->
  i∈Region.ready md ops up->YieldsIf P ops S oi v a->S w->Fv P md ops Q S z n (up.setIfInBounds i true) (a.put oi.dst v) w->Fv P md ops Q S z (n+1) up a w
 |0,up,a,w,_,hr,hy,hS,H=>⟨fun h=>(by rw [h]at hr;cases hr),fun j hj=>by
  by_cases e:j=i
  ·subst e;exact hy.wpOp hi hS ⟨fun _=>hS,H⟩
  have h2:=ready_mono hj e;rw [H.1]at h2;cases h2⟩
 |n+1,up,a,w,hfree,hr,hy,hS,H=>⟨fun h=>(by rw [h]at hr;cases hr),fun j hj=>by
  by_cases e:j=i
  ·subst e;exact hy.wpOp hi hS ⟨fun _=>hS,H⟩
  obtain⟨NA,oj,JS,EL⟩:=mem_ready.1 hj;have DF:=(mem_ready.1 hr).1;have MD:∀e∈oj.after,Region.binds md e=true->e.on≠i:=fun d hd hb hq=>Zq9 DF (by have:=EL d hd hb;rwa [hq]at this)
  have DA:j≠z:=fun DA=>by
   subst DA;obtain⟨d,hd,hb,hq⟩:=hz oj JS;exact MD d hd hb hq
  have h2:=wpOp_putIf JS (hfree j oj JS e NA MD) (fun cs b=>dI i oi cs b hi) (fun cs b=>dI j oj cs b JS) hQ hy (H.2 j (ready_mono hj e));refine wpOp_mono (fun b v h3=>⟨h3.2.1,Fv.first hi dI hQ hz n (up.setIfInBounds j true) b v (fun k ok hk hki dE nH=>hfree k ok hk hki ?_ nH) (ready_mono hr (Ne.symm e)) h3.1 (h3.2.1 DA) ?_⟩) h2
  ·by_cases jJ:j=k
   ·subst jJ;exact NA
   rw [getD_set_ne true jJ]at dE;exact dE
  rw [Array.setIfInBounds_comm _ _ e];exact h3.2.2⟩
def Qxo(md:Region.Mode)(ops:Array Oper)(z i:Nat):Bool:=match ops[z]? with|none=>true|some o=>o.after.any fun e=>Region.binds md e&&e.on==i
theorem Qw4 {i:Nat}(h:Qxo md ops z i=true):Qbw md ops z i:=by
 intro o ho;unfold Qxo at h;rw [ho]at h;simp only [Array.any_eq_true']at h;obtain⟨e,he,hb⟩:=h;rw [Bool.and_eq_true]at hb;exact⟨e,he,hb.1,eq_of_beq hb.2⟩
theorem Qc7 {i:Nat} {oi:Oper} {v:Value} {n:Nat} {up:Array Bool} {a:Act} {w:World}(hi:ops[i]?=some oi)(hs:Region.noSelect ops=true)(hf:Region.free md ops up i=true)(hr:(Region.ready md ops up).contains i=true)
 (hz:Qxo md ops z i=true)(hQ:∀c a w,Q (.panic c) (a.put oi.dst v) w->Q (.panic c) a w)(hy:YieldsIf P ops S oi v a)(hS:S w)
 (h:Fv P md ops Q S z n (up.setIfInBounds i true) (a.put oi.dst v) w):Fv P md ops Q S z (n+1) up a w :=
 Fv.first hi (Region.noSelect_spec hs) hQ (Qw4 hz) n up a w (Region.free_spec hi hf) (by simpa using hr) hy hS h
def Zj(P:Program)(md:Region.Mode)(ops:Array Oper)(Q:Exit->Act->World->Prop)(S:World->Prop)(z n:Nat)(up:Array Bool)(a:Act)(w:World)(rs:List Nat):Prop :=
 ∀i∈rs,wpOp P ops Q i (fun b v=>(i≠z->S v)/\Fv P md ops Q S z n (up.setIfInBounds i true) b v) a w
theorem Qo {rs:List Nat} {n:Nat} {up:Array Bool} {a:Act} {w:World}(hr:Region.ready md ops up=rs)(zQ:rs≠ [])(h:Zj P md ops Q S z n up a w rs):Fv P md ops Q S z (n+1) up a w :=
 ⟨fun h0=>absurd (hr▸h0) zQ,hr▸h⟩
theorem Zj.nil {n:Nat} {up:Array Bool} {a:Act} {w:World} :Zj P md ops Q S z n up a w []:=fun _ h=>by cases h
theorem Zj.cons {n:Nat} {up:Array Bool} {a:Act} {w:World} {i:Nat} {o:Oper} {rs:List Nat}(ho:ops[i]?=some o)
 (h:∀K:Act->World->Prop,Hid (∀a w,S w->(S w->Fv P md ops Q S z n (up.setIfInBounds i true) a w)->K a w)->if Region.wanted o (yielded ops a.tmps)=true then Oper.wp P o a w K Q else K (a.put o.dst undef) w)
 (hs:Zj P md ops Q S z n up a w rs):Zj P md ops Q S z n up a w (i :: rs):=fun j hj=>by
 rcases List.mem_cons.1 hj with rfl|hj
 ·exact wpOp_step ho (fun K hK=>h K (Qq (fun a w hS hW=>hK a w ⟨fun _=>hS,hW hS⟩)))
 exact hs j hj
theorem Yi {n:Nat} {up:Array Bool} {a:Act} {w:World} {o:Oper}(hr:Region.ready md ops up= [z])(ho:ops[z]?=some o)
 (h:∀K:Act->World->Prop,Hid (∀a w,Fv P md ops Q S z n (up.setIfInBounds z true) a w->K a w)->if Region.wanted o (yielded ops a.tmps)=true then Oper.wp P o a w K Q else K (a.put o.dst undef) w):Fv P md ops Q S z (n+1) up a w :=
 ⟨fun h0=>(by rw [hr]at h0;cases h0),fun j hj=>by
  rw [hr,List.mem_singleton]at hj;subst hj;exact wpOp_step ho (fun K hK=>h K (Qq (fun a w hW=>hK a w ⟨fun zQ=>absurd rfl zQ,hW⟩)))⟩
theorem Yo {up:Array Bool} {a:Act} {w:World}(hr:Region.ready md ops up= [])(h:Q .normal a w):∀n,Fv P md ops Q S z n up a w
 |0=>⟨hr,h⟩
 |_+1=>⟨fun _=>h,by rw [hr];simp⟩
theorem Yp {id:Nat} {a:Act} {w:World}(z:Nat)(S:World->Prop)(hm:P.follows .mixedOrders=true)(hS:S w.drew)(h:S w.drew->Fv P .any ops Q S z ops.size (Array.replicate ops.size false) a w.drew):(Code.region id ops true).wp P Q a w :=
 wp_region_any hm (Fv.any _ _ _ _ (h hS))
end
theorem Qb {P:Program} {md:Region.Mode} {ops:Array Oper} {Q:Exit->Act->World->Prop} {S:World->Prop} {z n:Nat} {up:Array Bool} {a a':Act} {w:World}(h:Fv P md ops Q S z n up a' w)(e:a=a':=by(try simp only [Act.put,List.setIfInBounds_toArray,List.set_cons_zero,List.set_cons_succ,List.getElem_toArray,List.getElem_cons_succ,List.getElem_cons_zero]);exact rfl):Fv P md ops Q S z n up a w:=e▸h
section
variable {P:Program} {md:Region.Mode} {ops:Array Oper} {Q:Exit->Act->World->Prop} {S:World->Prop} {z:Nat}
theorem Zz(i:Nat) {oi:Oper} {v:Value} {n:Nat} {up:Array Bool} {a a':Act} {w:World}(hS:S w)
 (h:Fv P md ops Q S z n (up.setIfInBounds i true) a' w)
 (hi:ops[i]?=some oi:=by exact rfl)(hs:Region.noSelect ops=true:=by kernel_rfl)(hf:Region.free md ops up i=true:=by kernel_rfl)(hr:(Region.ready md ops up).contains i=true:=by kernel_rfl)(hz:Qxo md ops z i=true:=by kernel_rfl)
 (hy:YieldsIf P ops S oi v a:=by refine Or.inl ⟨by rfl,?_⟩;intro w' ES;(try dsimp only at ES);go_simp;(try with_reducible rfl))
 (hQ:∀c a w,Q (.panic c) (a.put oi.dst v) w->Q (.panic c) a w:=by exact fun _ _ _ h=>h)
 (ha:a.put oi.dst v=a':=by(try simp only [Act.put,List.setIfInBounds_toArray,List.set_cons_zero,List.set_cons_succ,List.getElem_toArray,List.getElem_cons_succ,List.getElem_cons_zero]);exact rfl):Fv P md ops Q S z (n+1) up a w :=
 Qc7 hi hs hf hr hz hQ hy hS (by rw [ha];exact h)
end
section
variable {a b:World} {p:Addr} {v:Value}
theorem xd(hb:p.block < a.heap.size)(f:a.cell? p=some v)(h:Qg a b:=by repeat(first|exact Qz|assumption|apply Qg.alloc|apply Qg.drew|apply Qg.setCell)):b.cell? p=some v:=(h.cell hb).trans f
theorem xv(e:Qg a b:=by repeat(first|exact Qz|assumption|apply Qg.alloc|apply Qg.drew|apply Qg.setCell)):Qg a b:=e
end
theorem Po {op:Int}(h:op<=0\/22<=op):Qi op=false/\Qe op=false/\Zx op=false/\Zl op=false/\Zw op=false/\Zg op=false/\Vk op=0:=by
 have e:∀k:Int,1<=k->k<=21->(op==k)=false:=fun k h1 h2=>by rw [beq_eq_false_iff_ne];omega
 have a:(decide (4<=op)&&decide (op<=21))=false:=by simp;omega
 have b:(decide (5<=op)&&decide (op<=8))=false:=by simp;omega
 have c:(decide (11<=op)&&decide (op<=13))=false:=by simp;omega
 have d:(decide (18<=op)&&decide (op<=21))=false:=by simp;omega
 simp [Qi,Qe,Zx,Zl,Zw,Zg,Vk,a,b,c,d,e 3 (by omega) (by omega),e 9 (by omega) (by omega),e 10 (by omega) (by omega),e 11 (by omega) (by omega),e 12 (by omega) (by omega),e 13 (by omega) (by omega),e 14 (by omega) (by omega),e 15 (by omega) (by omega),e 16 (by omega) (by omega),e 17 (by omega) (by omega),e 19 (by omega) (by omega),e 21 (by omega) (by omega)]
theorem Qf0(op:Int)(w:World):Calls Tryz.prog 103 #[.int .i64 op] w fun e w'=>e=.returned (.bool (Qi op))/\w=w':=by
 rcases Dh op with h|h|h|h|h|h|h|h|h|h|h|h|h|h|h|h|h|h|h|h|h|h|h
 ·have hs:=Po (.inl h);have HS:=Qq hs;clear hs;go_enter Tryz.func103,Tryz.ntmps103;go_wp2;go_ret;exact⟨by rw [HS.out.1];rfl,rfl⟩
 ·have hs:=Po (.inr h);have d21:decide (op<=21)=false:=by simp;omega
  have HS:=Qq hs;clear hs;go_enter Tryz.func103,Tryz.ntmps103;go_wp2;go_ret;exact⟨by rw [HS.out.1];rfl,rfl⟩
 all_goals(subst h;go_enter Tryz.func103,Tryz.ntmps103;go_wp2;go_ret;exact⟨rfl,rfl⟩)
theorem Qf1(op:Int)(w:World):Calls Tryz.prog 104 #[.int .i64 op] w fun e w'=>e=.returned (.bool (Qe op))/\w=w':=by
 rcases Dh op with h|h|h|h|h|h|h|h|h|h|h|h|h|h|h|h|h|h|h|h|h|h|h
 ·have hs:=Po (.inl h);have e13:(op==13)=false:=by rw [beq_eq_false_iff_ne];omega
  have e14:(op==14)=false:=by rw [beq_eq_false_iff_ne];omega
  have e16:(op==16)=false:=by rw [beq_eq_false_iff_ne];omega
  have e19:(op==19)=false:=by rw [beq_eq_false_iff_ne];omega
  have e21:(op==21)=false:=by rw [beq_eq_false_iff_ne];omega
  have HS:=Qq hs;clear hs;go_enter Tryz.func104,Tryz.ntmps104;go_wp2;go_ret;exact⟨by rw [HS.out.2.1];rfl,rfl⟩
 ·have hs:=Po (.inr h);have e13:(op==13)=false:=by rw [beq_eq_false_iff_ne];omega
  have e14:(op==14)=false:=by rw [beq_eq_false_iff_ne];omega
  have e16:(op==16)=false:=by rw [beq_eq_false_iff_ne];omega
  have e19:(op==19)=false:=by rw [beq_eq_false_iff_ne];omega
  have e21:(op==21)=false:=by rw [beq_eq_false_iff_ne];omega
  have d8:decide (op<=8)=false:=by simp;omega
  have HS:=Qq hs;clear hs;go_enter Tryz.func104,Tryz.ntmps104;go_wp2;go_ret;exact⟨by rw [HS.out.2.1];rfl,rfl⟩
 all_goals(subst h;go_enter Tryz.func104,Tryz.ntmps104;go_wp2;go_ret;exact⟨rfl,rfl⟩)
theorem Ex(op:Int)(w:World):Calls Tryz.prog 105 #[.int .i64 op] w fun e w'=>e=.returned (.bool (Zx op))/\w=w':=by
 rcases Dh op with h|h|h|h|h|h|h|h|h|h|h|h|h|h|h|h|h|h|h|h|h|h|h
 ·have hs:=Po (.inl h);have e9:(op==9)=false:=by rw [beq_eq_false_iff_ne];omega
  have e10:(op==10)=false:=by rw [beq_eq_false_iff_ne];omega
  have e14:(op==14)=false:=by rw [beq_eq_false_iff_ne];omega
  have e15:(op==15)=false:=by rw [beq_eq_false_iff_ne];omega
  have HS:=Qq hs;clear hs;go_enter Tryz.func105,Tryz.ntmps105;go_wp2;go_ret;exact⟨by rw [HS.out.2.2.1];rfl,rfl⟩
 ·have hs:=Po (.inr h);have e9:(op==9)=false:=by rw [beq_eq_false_iff_ne];omega
  have e10:(op==10)=false:=by rw [beq_eq_false_iff_ne];omega
  have e14:(op==14)=false:=by rw [beq_eq_false_iff_ne];omega
  have e15:(op==15)=false:=by rw [beq_eq_false_iff_ne];omega
  have HS:=Qq hs;clear hs;go_enter Tryz.func105,Tryz.ntmps105;go_wp2;go_ret;exact⟨by rw [HS.out.2.2.1];rfl,rfl⟩
 all_goals(subst h;go_enter Tryz.func105,Tryz.ntmps105;go_wp2;go_ret;exact⟨rfl,rfl⟩)
theorem Qnb(op:Int)(w:World):Calls Tryz.prog 106 #[.int .i64 op] w fun e w'=>e=.returned (.bool (Zl op))/\w=w':=by
 rcases Dh op with h|h|h|h|h|h|h|h|h|h|h|h|h|h|h|h|h|h|h|h|h|h|h
 ·have hs:=Po (.inl h);have HS:=Qq hs;clear hs;go_enter Tryz.func106,Tryz.ntmps106;go_wp2;go_ret;exact⟨by rw [HS.out.2.2.2.1];rfl,rfl⟩
 ·have hs:=Po (.inr h);have d13:decide (op<=13)=false:=by simp;omega
  have HS:=Qq hs;clear hs;go_enter Tryz.func106,Tryz.ntmps106;go_wp2;go_ret;exact⟨by rw [HS.out.2.2.2.1];rfl,rfl⟩
 all_goals(subst h;go_enter Tryz.func106,Tryz.ntmps106;go_wp2;go_ret;exact⟨rfl,rfl⟩)
theorem Ma {op:Int} {b:Bool}(h:Qi op=b)(w:World):Calls Tryz.prog 103 #[.int .i64 op] w fun e w'=>e=.returned (.bool b)/\w=w':=by
 subst h;exact Qf0 op w
theorem Me {op:Int} {b:Bool}(h:Qe op=b)(w:World):Calls Tryz.prog 104 #[.int .i64 op] w fun e w'=>e=.returned (.bool b)/\w=w':=by
 subst h;exact Qf1 op w
theorem Bg {op:Int} {b:Bool}(h:Zx op=b)(w:World):Calls Tryz.prog 105 #[.int .i64 op] w fun e w'=>e=.returned (.bool b)/\w=w':=by
 subst h;exact Ex op w
theorem Vp {op:Int} {b:Bool}(h:Zl op=b)(w:World):Calls Tryz.prog 106 #[.int .i64 op] w fun e w'=>e=.returned (.bool b)/\w=w':=by
 subst h;exact Qnb op w
theorem Ql4 {n:Nd} {a:Int}(h:Yr n.op=false):Zd n a=10:=by simp [Zd,h]
theorem Qc0 {n:Nd} {a:Int}(h:Yr n.op=true)(hx:Zy (Qi n.op) n.x a=false):Zd n a=3:=by simp [Zd,h,hx]
theorem Qc1 {n:Nd} {a:Int}(h:Yr n.op=true)(hx:Zy (Qi n.op) n.x a=true)(hy:Zy (Qe n.op) n.y a=false):Zd n a=3:=by simp [Zd,h,hx,hy]
theorem Qci {n:Nd} {a:Int}(h:Yr n.op=true)(hx:Zy (Qi n.op) n.x a=true)(hy:Zy (Qe n.op) n.y a=true)(hf:Zc n=true):Zd n a=3:=by simp [Zd,h,hx,hy,hf]
theorem Qjy {n:Nd} {a:Int}(h:Yr n.op=true)(hx:Zy (Qi n.op) n.x a=true)(hy:Zy (Qe n.op) n.y a=true)(hf:Zc n=false)(hr:Ys n=true):Zd n a=2:=by simp [Zd,h,hx,hy,hf,hr]
theorem Pa {op:Int} {b:Bool}(h:Zw op=b):(op==3)=b:=h
theorem St {op:Int} {b:Bool}(h:Zg op=b):(op==17)=b:=h
theorem Pc {op:Int} {b:Bool}(h:Zg op=b):(op !=17)= !b:=by rw [<-St h];rfl
theorem Qwy {n:Nd}(h0:(Ql (Zw n.op) n.i 0 7||Ql (Zx n.op) n.i 0 3)=false)(h1:(Ql (Zg n.op) n.i 0 7||Ql (Zg n.op) n.e 0 7)=false)(h2:(Ql (Zl n.op) n.g 1 15)=false):Ys n=false:=by
 simp only [Bool.or_eq_false_iff]at h0 h1;simp [Ys,h0.1,h0.2,h1.1,h1.2,h2]
theorem Qmz {n:Nd}(h:(Ql (Zw n.op) n.i 0 7||Ql (Zx n.op) n.i 0 3)=true):Ys n=true:=by
 unfold Ys;rw [h];rfl
theorem Qmj {n:Nd}(h:(Ql (Zg n.op) n.i 0 7||Ql (Zg n.op) n.e 0 7)=true):Ys n=true:=by
 unfold Ys;rw [Bool.or_assoc (_||_) (Ql (Zg n.op) n.i 0 7),h];simp
theorem Qmy {n:Nd}(h:(Ql (Zl n.op) n.g 1 15)=true):Ys n=true:=by
 unfold Ys;rw [h];simp
theorem Qvq(n:Nd)(at_:Int)(w:World):
 Calls Tryz.prog 43 #[.agg #[.int .i64 n.op,.int .i64 n.i,.int .i64 n.e,.int .i64 n.g,.int .i64 n.x,.int .i64 n.y],.int .i64 at_] w fun e w'=>e=.returned (.int .i64 (Zd n at_))/\Qg w w':=by
 obtain⟨W,hW⟩:∃W,W=w.alloc (.cells #[.int .i64 n.op,.int .i64 n.i,.int .i64 n.e,.int .i64 n.g,.int .i64 n.x,.int .i64 n.y] 71):=⟨_,rfl⟩;have HW:=Qq hW;clear hW;go_enter Tryz.func43,Tryz.ntmps43;go_upto_region 1 with(fail);go_cut [13] (fun s wx=>s=.bool (!Yr n.op)/\wx=W)
 case first =>
  as_aux_lemma =>
   by_cases h1:n.op < 1
   ·have HO:=Qq (show Yr n.op=false by simp [Yr];omega);go_wp2_with fail;go_meet;exact⟨by rw [HO.out];rfl,HW.out.symm⟩
   by_cases h2:21 < n.op
   ·have HO:=Qq (show Yr n.op=false by simp [Yr];omega);go_wp2_with fail;go_meet;exact⟨by rw [HO.out];rfl,HW.out.symm⟩
   have HO:=Qq (show Yr n.op=true by simp [Yr];omega);go_wp2_with fail;go_meet;exact⟨by rw [HO.out];rfl,HW.out.symm⟩
 case rest =>
  obtain⟨rfl,rfl⟩:=hcut;cases ho:Yr n.op
  ·have HR:=Qq (Ql4 (a:=at_) ho);go_wp2_with fail;go_ret;exact⟨Ke HR.out.symm,by rw [HW.out];exact Qz.alloc _⟩
  have HO:=Qq ho;clear ho;obtain⟨⟨d0,d1,d2,d3,d4,d5⟩,dfr,dlt⟩:=Vs (show wc.heap[w.heap.size]?=some (.cells #[.int .i64 n.op,.int .i64 n.i,.int .i64 n.e,.int .i64 n.g,.int .i64 n.x,.int .i64 n.y] 71 (0,0)) by rw [HW.out];exact heap_alloc_new _ _);go_upto_region 3 with(fail);go_cut [38] (fun s wx=>s=.bool (!Zy (Qi n.op) n.x at_)/\wx=wc)
  case first =>
   as_aux_lemma =>
    cases hu:Qi n.op
    ·have HU:=Qq hu;clear hu;by_cases h:n.x=0
     ·have HS:=Qq (show Zy false n.x at_=true by simp [Zy,h]);have hb:(n.x !=0)=false:=by simp [h]
      clear h;go_wp2_with(go_at_call 103;refine(Ma HU.out _).mono ?_;rintro e w' ⟨rfl,rfl⟩);go_meet;exact⟨by rw [HU.out,HS.out];rfl,rfl⟩
     have HS:=Qq (show Zy false n.x at_=false by simp [Zy,h]);have hb:(n.x !=0)=true:=by simpa using h
     clear h;go_wp2_with(go_at_call 103;refine(Ma HU.out _).mono ?_;rintro e w' ⟨rfl,rfl⟩);go_meet;exact⟨by rw [HU.out,HS.out];rfl,rfl⟩
    have HU:=Qq hu;clear hu;by_cases h:n.x < 0
    ·have HS:=Qq (show Zy true n.x at_=false by simp [Zy];omega);have hd:decide (n.x < 0)=true:=by simp;omega
     go_wp2_with(go_at_call 103;refine(Ma HU.out _).mono ?_;rintro e w' ⟨rfl,rfl⟩);go_meet;exact⟨by rw [HU.out,HS.out];rfl,rfl⟩
    have hd:decide (n.x < 0)=false:=by simp;omega
    by_cases h2:n.x < at_
    ·have HS:=Qq (show Zy true n.x at_=true by simp [Zy];omega);have hb:decide (at_<=n.x)=false:=by simp;omega
     clear h h2;go_wp2_with(go_at_call 103;refine(Ma HU.out _).mono ?_;rintro e w' ⟨rfl,rfl⟩);go_meet;exact⟨by rw [HU.out,HS.out];rfl,rfl⟩
    have HS:=Qq (show Zy true n.x at_=false by simp [Zy];omega);have hb:decide (at_<=n.x)=true:=by simp;omega
    clear h h2;go_wp2_with(go_at_call 103;refine(Ma HU.out _).mono ?_;rintro e w' ⟨rfl,rfl⟩);go_meet;exact⟨by rw [HU.out,HS.out];rfl,rfl⟩
  case rest =>
   obtain⟨rfl,rfl⟩:=hcut;cases hx:Zy (Qi n.op) n.x at_
   ·have HR:=Qq (Qc0 HO.out hx);go_wp2_with fail;go_ret;exact⟨Ke HR.out.symm,by rw [HW.out];exact Qz.alloc _⟩
   have HX:=Qq hx;clear hx;go_upto_region 5 with(fail);go_cut [63] (fun s wx=>s=.bool (!Zy (Qe n.op) n.y at_)/\wx=wc)
   case first =>
    as_aux_lemma =>
     cases hu:Qe n.op
     ·have HU:=Qq hu;clear hu;by_cases h:n.y=0
      ·have HS:=Qq (show Zy false n.y at_=true by simp [Zy,h]);have hb:(n.y !=0)=false:=by simp [h]
       clear h;go_wp2_with(go_at_call 104;refine(Me HU.out _).mono ?_;rintro e w' ⟨rfl,rfl⟩);go_meet;exact⟨by rw [HU.out,HS.out];rfl,rfl⟩
      have HS:=Qq (show Zy false n.y at_=false by simp [Zy,h]);have hb:(n.y !=0)=true:=by simpa using h
      clear h;go_wp2_with(go_at_call 104;refine(Me HU.out _).mono ?_;rintro e w' ⟨rfl,rfl⟩);go_meet;exact⟨by rw [HU.out,HS.out];rfl,rfl⟩
     have HU:=Qq hu;clear hu;by_cases h:n.y < 0
     ·have HS:=Qq (show Zy true n.y at_=false by simp [Zy];omega);have hd:decide (n.y < 0)=true:=by simp;omega
      go_wp2_with(go_at_call 104;refine(Me HU.out _).mono ?_;rintro e w' ⟨rfl,rfl⟩);go_meet;exact⟨by rw [HU.out,HS.out];rfl,rfl⟩
     have hd:decide (n.y < 0)=false:=by simp;omega
     by_cases h2:n.y < at_
     ·have HS:=Qq (show Zy true n.y at_=true by simp [Zy];omega);have hb:decide (at_<=n.y)=false:=by simp;omega
      clear h h2;go_wp2_with(go_at_call 104;refine(Me HU.out _).mono ?_;rintro e w' ⟨rfl,rfl⟩);go_meet;exact⟨by rw [HU.out,HS.out];rfl,rfl⟩
     have HS:=Qq (show Zy true n.y at_=false by simp [Zy];omega);have hb:decide (at_<=n.y)=true:=by simp;omega
     clear h h2;go_wp2_with(go_at_call 104;refine(Me HU.out _).mono ?_;rintro e w' ⟨rfl,rfl⟩);go_meet;exact⟨by rw [HU.out,HS.out];rfl,rfl⟩
   case rest =>
    obtain⟨rfl,rfl⟩:=hcut;cases hy:Zy (Qe n.op) n.y at_
    ·have HR:=Qq (Qc1 HO.out HX.out hy);go_wp2_with fail;go_ret;exact⟨Ke HR.out.symm,by rw [HW.out];exact Qz.alloc _⟩
    have HY:=Qq hy;clear hy;go_upto_region 7 with(fail);go_cut [5] (fun s wx=>s=.bool (Zw n.op||Zx n.op||Zg n.op)/\wx=wc)
    case first =>
     as_aux_lemma =>
      rcases Qyg n.op with⟨hf,ha,hg,he⟩|⟨hf,ha,hg,he⟩|⟨hf,ha,hg,he⟩|⟨hf,ha,hg,he⟩|⟨hf,ha,hg,he⟩ <;>
       (have e3:=Pa hf;have e17:=St he;have n17:=Pc he;have HF:=Qq hf;have HA:=Qq ha;have HG:=Qq hg;have HE:=Qq he;clear hf ha hg he n17;go_wp2_with(go_at_call 105;refine(Bg HA.out _).mono ?_;rintro e w' ⟨rfl,rfl⟩);go_meet)
      ·exact⟨by rw [HF.out,HA.out,HE.out];rfl,rfl⟩
      ·exact⟨by rw [HF.out,HA.out,HE.out];rfl,rfl⟩
      ·exact⟨by rw [HF.out,HA.out,HE.out];rfl,rfl⟩
      ·exact⟨by rw [HF.out,HA.out,HE.out];rfl,rfl⟩
      exact⟨by rw [HF.out,HA.out,HE.out];rfl,rfl⟩
    case rest =>
     obtain⟨rfl,rfl⟩:=hcut;go_upto_region 8 with(fail);go_cut [5,104] (fun _ s wx=>s=.bool (Zc n)/\wx=wc)
     case first =>
      as_aux_lemma =>
       rcases Qyg n.op with⟨hf,ha,hg,he⟩|⟨hf,ha,hg,he⟩|⟨hf,ha,hg,he⟩|⟨hf,ha,hg,he⟩|⟨hf,ha,hg,he⟩ <;>
        (have e3:=Pa hf;have e17:=St he;have n17:=Pc he;have HF:=Qq hf;have HA:=Qq ha;have HG:=Qq hg;have HE:=Qq he;rw [hf,ha,he];clear hf ha hg he e3 e17)
       ·by_cases hi:n.i=0
        ·skip
         by_cases he:n.e=0
         ·skip
          by_cases hg:n.g=0
          ·skip
           have HS:=Qq (show Zc n=false by simp [Zc,HF.out,HA.out,HG.out,HE.out,hi,he,hg]);have zi:(n.i !=0)=false:=by simp [hi]
           have ze:(n.e !=0)=false:=by simp [he]
           have zg:(n.g !=0)=false:=by simp [hg]
           clear hi he hg;go_wp2_with(go_at_call 106;refine(Vp HG.out _).mono ?_;rintro e w' ⟨rfl,rfl⟩);go_meet;exact⟨by rw [HS.out],rfl⟩
          have zg:(n.g !=0)=true:=by simpa using hg
          have HS:=Qq (show Zc n=true by simp only [Zc,HF.out,HA.out,HG.out,HE.out,zg];simp);have zi:(n.i !=0)=false:=by simp [hi]
          have ze:(n.e !=0)=false:=by simp [he]
          clear hi he hg;go_wp2_with(go_at_call 106;refine(Vp HG.out _).mono ?_;rintro e w' ⟨rfl,rfl⟩);go_meet;exact⟨by rw [HS.out],rfl⟩
         have ze:(n.e !=0)=true:=by simpa using he
         have HS:=Qq (show Zc n=true by simp only [Zc,HF.out,HA.out,HG.out,HE.out,ze];simp);have zi:(n.i !=0)=false:=by simp [hi]
         clear hi he;go_wp2_with(go_at_call 106;refine(Vp HG.out _).mono ?_;rintro e w' ⟨rfl,rfl⟩);go_meet;exact⟨by rw [HS.out],rfl⟩
        have zi:(n.i !=0)=true:=by simpa using hi
        have HS:=Qq (show Zc n=true by simp only [Zc,HF.out,HA.out,HG.out,HE.out,zi];simp);clear hi;go_wp2_with(go_at_call 106;refine(Vp HG.out _).mono ?_;rintro e w' ⟨rfl,rfl⟩);go_meet;exact⟨by rw [HS.out],rfl⟩
       ·by_cases he:n.e=0
        ·skip
         by_cases hg:n.g=0
         ·skip
          have HS:=Qq (show Zc n=false by simp [Zc,HF.out,HA.out,HG.out,HE.out,he,hg]);have ze:(n.e !=0)=false:=by simp [he]
          have zg:(n.g !=0)=false:=by simp [hg]
          clear he hg;go_wp2_with(go_at_call 106;refine(Vp HG.out _).mono ?_;rintro e w' ⟨rfl,rfl⟩);go_meet;exact⟨by rw [HS.out],rfl⟩
         have zg:(n.g !=0)=true:=by simpa using hg
         have HS:=Qq (show Zc n=true by simp only [Zc,HF.out,HA.out,HG.out,HE.out,zg];simp);have ze:(n.e !=0)=false:=by simp [he]
         clear he hg;go_wp2_with(go_at_call 106;refine(Vp HG.out _).mono ?_;rintro e w' ⟨rfl,rfl⟩);go_meet;exact⟨by rw [HS.out],rfl⟩
        have ze:(n.e !=0)=true:=by simpa using he
        have HS:=Qq (show Zc n=true by simp only [Zc,HF.out,HA.out,HG.out,HE.out,ze];simp);clear he;go_wp2_with(go_at_call 106;refine(Vp HG.out _).mono ?_;rintro e w' ⟨rfl,rfl⟩);go_meet;exact⟨by rw [HS.out],rfl⟩
       ·by_cases he:n.e=0
        ·skip
         by_cases hg:n.g=0
         ·skip
          have HS:=Qq (show Zc n=false by simp [Zc,HF.out,HA.out,HG.out,HE.out,he,hg]);have ze:(n.e !=0)=false:=by simp [he]
          have zg:(n.g !=0)=false:=by simp [hg]
          clear he hg;go_wp2_with(go_at_call 106;refine(Vp HG.out _).mono ?_;rintro e w' ⟨rfl,rfl⟩);go_meet;exact⟨by rw [HS.out],rfl⟩
         have zg:(n.g !=0)=true:=by simpa using hg
         have HS:=Qq (show Zc n=true by simp only [Zc,HF.out,HA.out,HG.out,HE.out,zg];simp);have ze:(n.e !=0)=false:=by simp [he]
         clear he hg;go_wp2_with(go_at_call 106;refine(Vp HG.out _).mono ?_;rintro e w' ⟨rfl,rfl⟩);go_meet;exact⟨by rw [HS.out],rfl⟩
        have ze:(n.e !=0)=true:=by simpa using he
        have HS:=Qq (show Zc n=true by simp only [Zc,HF.out,HA.out,HG.out,HE.out,ze];simp);clear he;go_wp2_with(go_at_call 106;refine(Vp HG.out _).mono ?_;rintro e w' ⟨rfl,rfl⟩);go_meet;exact⟨by rw [HS.out],rfl⟩
       ·by_cases hi:n.i=0
        ·skip
         by_cases he:n.e=0
         ·skip
          have HS:=Qq (show Zc n=false by simp [Zc,HF.out,HA.out,HG.out,HE.out,hi,he]);have zi:(n.i !=0)=false:=by simp [hi]
          have ze:(n.e !=0)=false:=by simp [he]
          clear hi he;go_wp2_with(go_at_call 106;refine(Vp HG.out _).mono ?_;rintro e w' ⟨rfl,rfl⟩);go_meet;exact⟨by rw [HS.out],rfl⟩
         have ze:(n.e !=0)=true:=by simpa using he
         have HS:=Qq (show Zc n=true by simp only [Zc,HF.out,HA.out,HG.out,HE.out,ze];simp);have zi:(n.i !=0)=false:=by simp [hi]
         clear hi he;go_wp2_with(go_at_call 106;refine(Vp HG.out _).mono ?_;rintro e w' ⟨rfl,rfl⟩);go_meet;exact⟨by rw [HS.out],rfl⟩
        have zi:(n.i !=0)=true:=by simpa using hi
        have HS:=Qq (show Zc n=true by simp only [Zc,HF.out,HA.out,HG.out,HE.out,zi];simp);clear hi;go_wp2_with(go_at_call 106;refine(Vp HG.out _).mono ?_;rintro e w' ⟨rfl,rfl⟩);go_meet;exact⟨by rw [HS.out],rfl⟩
       by_cases hg:n.g=0
       ·skip
        have HS:=Qq (show Zc n=false by simp [Zc,HF.out,HA.out,HG.out,HE.out,hg]);have zg:(n.g !=0)=false:=by simp [hg]
        clear hg;go_wp2_with(go_at_call 106;refine(Vp HG.out _).mono ?_;rintro e w' ⟨rfl,rfl⟩);go_meet;exact⟨by rw [HS.out],rfl⟩
       have zg:(n.g !=0)=true:=by simpa using hg
       have HS:=Qq (show Zc n=true by simp only [Zc,HF.out,HA.out,HG.out,HE.out,zg];simp);clear hg;go_wp2_with(go_at_call 106;refine(Vp HG.out _).mono ?_;rintro e w' ⟨rfl,rfl⟩);go_meet;exact⟨by rw [HS.out],rfl⟩
     case rest =>
      obtain⟨rfl,rfl⟩:=hcut;cases hfb:Zc n
      ·have LC:=Qq hfb;clear hfb;go_upto_region 10 with(fail);go_cut [132] (fun s wx=>s=.bool (Ql (Zw n.op) n.i 0 7||Ql (Zx n.op) n.i 0 3)/\wx=wc)
       case first =>
        as_aux_lemma =>
         rcases Qyg n.op with⟨hf,ha,hg,he⟩|⟨hf,ha,hg,he⟩|⟨hf,ha,hg,he⟩|⟨hf,ha,hg,he⟩|⟨hf,ha,hg,he⟩ <;>
          (have e3:=Pa hf;have e17:=St he;have n17:=Pc he;have HF:=Qq hf;have HA:=Qq ha;have HG:=Qq hg;have HE:=Qq he;clear hf ha hg he n17)
         ·have HS:=Qq (show(Ql (Zw n.op) n.i 0 7||Ql (Zx n.op) n.i 0 3)=false by simp [Ql,HF.out,HA.out]);go_wp2_with(go_at_call 105;refine(Bg HA.out _).mono ?_;rintro e w' ⟨rfl,rfl⟩);go_meet;exact⟨by rw [HS.out],rfl⟩
         ·by_cases l0:n.i < 0
          ·have d0:decide (n.i < 0)=true:=by simp;omega
           have HS:=Qq (show(Ql (Zw n.op) n.i 0 7||Ql (Zx n.op) n.i 0 3)=true by simp [Ql,HF.out,HA.out];omega);go_wp2_with(go_at_call 105;refine(Bg HA.out _).mono ?_;rintro e w' ⟨rfl,rfl⟩);go_meet;exact⟨by rw [HS.out],rfl⟩
          have d0:decide (n.i < 0)=false:=by simp;omega
          by_cases u0:8<=n.i
          ·have v0:decide (8<=n.i)=true:=by simp;omega
           have HS:=Qq (show(Ql (Zw n.op) n.i 0 7||Ql (Zx n.op) n.i 0 3)=true by simp [Ql,HF.out,HA.out];omega);go_wp2_with(go_at_call 105;refine(Bg HA.out _).mono ?_;rintro e w' ⟨rfl,rfl⟩);go_meet;exact⟨by rw [HS.out],rfl⟩
          have v0:decide (8<=n.i)=false:=by simp;omega
          have HS:=Qq (show(Ql (Zw n.op) n.i 0 7||Ql (Zx n.op) n.i 0 3)=false by simp [Ql,HF.out,HA.out];omega);go_wp2_with(go_at_call 105;refine(Bg HA.out _).mono ?_;rintro e w' ⟨rfl,rfl⟩);go_meet;exact⟨by rw [HS.out],rfl⟩
         ·by_cases l0:n.i < 0
          ·have d0:decide (n.i < 0)=true:=by simp;omega
           have HS:=Qq (show(Ql (Zw n.op) n.i 0 7||Ql (Zx n.op) n.i 0 3)=true by simp [Ql,HF.out,HA.out];omega);go_wp2_with(go_at_call 105;refine(Bg HA.out _).mono ?_;rintro e w' ⟨rfl,rfl⟩);go_meet;exact⟨by rw [HS.out],rfl⟩
          have d0:decide (n.i < 0)=false:=by simp;omega
          by_cases u0:4<=n.i
          ·have v0:decide (4<=n.i)=true:=by simp;omega
           have HS:=Qq (show(Ql (Zw n.op) n.i 0 7||Ql (Zx n.op) n.i 0 3)=true by simp [Ql,HF.out,HA.out];omega);go_wp2_with(go_at_call 105;refine(Bg HA.out _).mono ?_;rintro e w' ⟨rfl,rfl⟩);go_meet;exact⟨by rw [HS.out],rfl⟩
          have v0:decide (4<=n.i)=false:=by simp;omega
          have HS:=Qq (show(Ql (Zw n.op) n.i 0 7||Ql (Zx n.op) n.i 0 3)=false by simp [Ql,HF.out,HA.out];omega);go_wp2_with(go_at_call 105;refine(Bg HA.out _).mono ?_;rintro e w' ⟨rfl,rfl⟩);go_meet;exact⟨by rw [HS.out],rfl⟩
         ·have HS:=Qq (show(Ql (Zw n.op) n.i 0 7||Ql (Zx n.op) n.i 0 3)=false by simp [Ql,HF.out,HA.out]);go_wp2_with(go_at_call 105;refine(Bg HA.out _).mono ?_;rintro e w' ⟨rfl,rfl⟩);go_meet;exact⟨by rw [HS.out],rfl⟩
         have HS:=Qq (show(Ql (Zw n.op) n.i 0 7||Ql (Zx n.op) n.i 0 3)=false by simp [Ql,HF.out,HA.out]);go_wp2_with(go_at_call 105;refine(Bg HA.out _).mono ?_;rintro e w' ⟨rfl,rfl⟩);go_meet;exact⟨by rw [HS.out],rfl⟩
       case rest =>
        obtain⟨rfl,rfl⟩:=hcut;cases dM:(Ql (Zw n.op) n.i 0 7||Ql (Zx n.op) n.i 0 3)
        ·have fC:=Qq dM;clear dM;go_upto_region 12 with(fail);go_cut [155] (fun s wx=>s=.bool (Ql (Zg n.op) n.i 0 7||Ql (Zg n.op) n.e 0 7)/\wx=wc)
         case first =>
          as_aux_lemma =>
           rcases Qyg n.op with⟨hf,ha,hg,he⟩|⟨hf,ha,hg,he⟩|⟨hf,ha,hg,he⟩|⟨hf,ha,hg,he⟩|⟨hf,ha,hg,he⟩ <;>
            (have e3:=Pa hf;have e17:=St he;have n17:=Pc he;have HF:=Qq hf;have HA:=Qq ha;have HG:=Qq hg;have HE:=Qq he;clear hf ha hg he n17)
           ·have HS:=Qq (show(Ql (Zg n.op) n.i 0 7||Ql (Zg n.op) n.e 0 7)=false by simp [Ql,HE.out]);go_wp2_with(fail);go_meet;exact⟨by rw [HS.out],rfl⟩
           ·have HS:=Qq (show(Ql (Zg n.op) n.i 0 7||Ql (Zg n.op) n.e 0 7)=false by simp [Ql,HE.out]);go_wp2_with(fail);go_meet;exact⟨by rw [HS.out],rfl⟩
           ·have HS:=Qq (show(Ql (Zg n.op) n.i 0 7||Ql (Zg n.op) n.e 0 7)=false by simp [Ql,HE.out]);go_wp2_with(fail);go_meet;exact⟨by rw [HS.out],rfl⟩
           ·have HS:=Qq (show(Ql (Zg n.op) n.i 0 7||Ql (Zg n.op) n.e 0 7)=false by simp [Ql,HE.out]);go_wp2_with(fail);go_meet;exact⟨by rw [HS.out],rfl⟩
           by_cases l0:n.i < 0
           ·have d0:decide (n.i < 0)=true:=by simp;omega
            have HS:=Qq (show(Ql (Zg n.op) n.i 0 7||Ql (Zg n.op) n.e 0 7)=true by simp [Ql,HE.out];omega);go_wp2_with(fail);go_meet;exact⟨by rw [HS.out],rfl⟩
           have d0:decide (n.i < 0)=false:=by simp;omega
           by_cases u0:8<=n.i
           ·have v0:decide (8<=n.i)=true:=by simp;omega
            have HS:=Qq (show(Ql (Zg n.op) n.i 0 7||Ql (Zg n.op) n.e 0 7)=true by simp [Ql,HE.out];omega);go_wp2_with(fail);go_meet;exact⟨by rw [HS.out],rfl⟩
           have v0:decide (8<=n.i)=false:=by simp;omega
           by_cases l1:n.e < 0
           ·have d1:decide (n.e < 0)=true:=by simp;omega
            have HS:=Qq (show(Ql (Zg n.op) n.i 0 7||Ql (Zg n.op) n.e 0 7)=true by simp [Ql,HE.out];omega);go_wp2_with(fail);go_meet;exact⟨by rw [HS.out],rfl⟩
           have d1:decide (n.e < 0)=false:=by simp;omega
           by_cases u1:8<=n.e
           ·have v1:decide (8<=n.e)=true:=by simp;omega
            have HS:=Qq (show(Ql (Zg n.op) n.i 0 7||Ql (Zg n.op) n.e 0 7)=true by simp [Ql,HE.out];omega);go_wp2_with(fail);go_meet;exact⟨by rw [HS.out],rfl⟩
           have v1:decide (8<=n.e)=false:=by simp;omega
           have HS:=Qq (show(Ql (Zg n.op) n.i 0 7||Ql (Zg n.op) n.e 0 7)=false by simp [Ql,HE.out];omega);go_wp2_with(fail);go_meet;exact⟨by rw [HS.out],rfl⟩
         case rest =>
          obtain⟨rfl,rfl⟩:=hcut;cases bY:(Ql (Zg n.op) n.i 0 7||Ql (Zg n.op) n.e 0 7)
          ·have bC:=Qq bY;clear bY;go_upto_region 14 with(fail);go_cut [168] (fun s wx=>s=.bool (Ql (Zl n.op) n.g 1 15)/\wx=wc)
           case first =>
            as_aux_lemma =>
             rcases Qyg n.op with⟨hf,ha,hg,he⟩|⟨hf,ha,hg,he⟩|⟨hf,ha,hg,he⟩|⟨hf,ha,hg,he⟩|⟨hf,ha,hg,he⟩ <;>
              (have e3:=Pa hf;have e17:=St he;have n17:=Pc he;have HF:=Qq hf;have HA:=Qq ha;have HG:=Qq hg;have HE:=Qq he;clear hf ha hg he n17)
             ·have HS:=Qq (show(Ql (Zl n.op) n.g 1 15)=false by simp [Ql,HG.out]);go_wp2_with(go_at_call 106;refine(Vp HG.out _).mono ?_;rintro e w' ⟨rfl,rfl⟩);go_meet;exact⟨by rw [HS.out],rfl⟩
             ·have HS:=Qq (show(Ql (Zl n.op) n.g 1 15)=false by simp [Ql,HG.out]);go_wp2_with(go_at_call 106;refine(Vp HG.out _).mono ?_;rintro e w' ⟨rfl,rfl⟩);go_meet;exact⟨by rw [HS.out],rfl⟩
             ·have HS:=Qq (show(Ql (Zl n.op) n.g 1 15)=false by simp [Ql,HG.out]);go_wp2_with(go_at_call 106;refine(Vp HG.out _).mono ?_;rintro e w' ⟨rfl,rfl⟩);go_meet;exact⟨by rw [HS.out],rfl⟩
             ·by_cases l0:n.g < 1
              ·have d0:decide (n.g < 1)=true:=by simp;omega
               have HS:=Qq (show(Ql (Zl n.op) n.g 1 15)=true by simp [Ql,HG.out];omega);go_wp2_with(go_at_call 106;refine(Vp HG.out _).mono ?_;rintro e w' ⟨rfl,rfl⟩);go_meet;exact⟨by rw [HS.out],rfl⟩
              have d0:decide (n.g < 1)=false:=by simp;omega
              by_cases u0:16<=n.g
              ·have v0:decide (16<=n.g)=true:=by simp;omega
               have HS:=Qq (show(Ql (Zl n.op) n.g 1 15)=true by simp [Ql,HG.out];omega);go_wp2_with(go_at_call 106;refine(Vp HG.out _).mono ?_;rintro e w' ⟨rfl,rfl⟩);go_meet;exact⟨by rw [HS.out],rfl⟩
              have v0:decide (16<=n.g)=false:=by simp;omega
              have HS:=Qq (show(Ql (Zl n.op) n.g 1 15)=false by simp [Ql,HG.out];omega);go_wp2_with(go_at_call 106;refine(Vp HG.out _).mono ?_;rintro e w' ⟨rfl,rfl⟩);go_meet;exact⟨by rw [HS.out],rfl⟩
             have HS:=Qq (show(Ql (Zl n.op) n.g 1 15)=false by simp [Ql,HG.out]);go_wp2_with(go_at_call 106;refine(Vp HG.out _).mono ?_;rintro e w' ⟨rfl,rfl⟩);go_meet;exact⟨by rw [HS.out],rfl⟩
           case rest =>
            obtain⟨rfl,rfl⟩:=hcut;cases kY:(Ql (Zl n.op) n.g 1 15)
            ·have bB:=Qq kY;clear kY;have HR:=Qq (Qxg HO.out HX.out HY.out LC.out (Qwy fC.out bC.out bB.out));go_wp2_with fail;go_ret;exact⟨Ke HR.out.symm,by rw [HW.out];exact Qz.alloc _⟩
            have HR:=Qq (Qjy HO.out HX.out HY.out LC.out (Qmy kY));clear kY;go_wp2_with fail;go_ret;exact⟨Ke HR.out.symm,by rw [HW.out];exact Qz.alloc _⟩
          have HR:=Qq (Qjy HO.out HX.out HY.out LC.out (Qmj bY));clear bY;go_wp2_with fail;go_ret;exact⟨Ke HR.out.symm,by rw [HW.out];exact Qz.alloc _⟩
        have HR:=Qq (Qjy HO.out HX.out HY.out LC.out (Qmz dM));clear dM;go_wp2_with fail;go_ret;exact⟨Ke HR.out.symm,by rw [HW.out];exact Qz.alloc _⟩
      have HR:=Qq (Qci HO.out HX.out HY.out hfb);clear hfb;go_wp2_with fail;go_ret;exact⟨Ke HR.out.symm,by rw [HW.out];exact Qz.alloc _⟩
theorem Gc {w:World} {b:Nat} {a0 a1:Value} {t:TypeId}(h:w.heap[b]?=some (.cells #[a0,a1] t (0,0))):
 w.cell? ⟨b,0,none⟩=some a0/\w.cell? ⟨b,1,none⟩=some a1/\(∀j,w.frozen? ⟨b,j,none⟩=false)/\b < w.heap.size :=
 ⟨by simp [World.cell?,h],by simp [World.cell?,h],fun j=>by simp [World.frozen?,h],Qn h⟩
theorem Qfm {w:World} {b:Nat} {a0 a1:Value} {t:TypeId}(h:w.heap[b]?=some (.cells #[a0,a1] t (0,0)))(u:Value):(w.setCell ⟨b,0,none⟩ u).heap[b]?=some (.cells #[u,a1] t (0,0)):=by
 simp only [World.setCell,Array.getElem?_modify,h,if_true,Option.map_some];simp
theorem Qq4 {w:World} {b:Nat} {a0 a1:Value} {t:TypeId}(h:w.heap[b]?=some (.cells #[a0,a1] t (0,0)))(u:Value):(w.setCell ⟨b,1,none⟩ u).heap[b]?=some (.cells #[a0,u] t (0,0)):=by
 simp only [World.setCell,Array.getElem?_modify,h,if_true,Option.map_some];simp
theorem Qjc:(Tryz.prog.info? 3).map (fun i=>(i.zero,i.size,i.bytes))=some (some (.int .i64 0),1,8):=by kernel_rfl
theorem Qy4:∀{o:List Nd} {k:Nat} {a x:Nd},o[k]?=some a->a=x->x∉o.take k->o.idxOf x=k
 |[],k,a,x,h,_,_=>by simp at h
 |b :: r,0,a,x,h,qS,_=>by
  simp only [List.getElem?_cons_zero,Option.some.injEq]at h;subst h qS;simp
 |b :: r,k+1,a,x,h,qS,hn=>by
  simp only [List.take_succ_cons,List.mem_cons,not_or]at hn;have ih:=Qy4 (o:=r) (k:=k) (a:=a) (x:=x) (by simpa using h) qS hn.2;have hb:(b==x)=false:=by rw [beq_eq_false_iff_ne];exact fun e=>hn.1 e.symm
  rw [List.idxOf_cons,hb,ih];rfl
structure Xk (bw:Nat) (w w':World) (v v':Value):Prop where
 os:w'.os=w.os
 tape:w'.tape=w.tape
 output:w'.output=w.output
 size:w.heap.size<=w'.heap.size
 block:∀k,k < w.heap.size->k≠bw->v.ownBlock≠some k->w'.heap[k]?=w.heap[k]?
 row:∀g,v'.ownBlock=some g->v.ownBlock=some g\/w.heap.size<=g
section
variable {a b c w w':World} {va vb vc v v':Value} {bw:Nat}
theorem Xk.refl(w:World)(v:Value):Xk bw w w v v:=⟨rfl,rfl,rfl,Nat.le_refl _,fun _ _ _ _=>rfl,fun _ h=> .inl h⟩
theorem Xk.trans(h:Xk bw a b va vb)(k:Xk bw b c vb vc):Xk bw a c va vc :=
 ⟨k.os.trans h.os,k.tape.trans h.tape,k.output.trans h.output,Qx h.size k.size,
  fun i hi hb h4=>(k.block i (Qy hi h.size) hb (fun e=>by
   rcases h.row i e with e'|e'
   ·exact h4 e'
   omega)).trans (h.block i hi hb h4),
  fun g hg=>by
   rcases k.row g hg with e|e
   ·exact h.row g e
   exact .inr (Qx h.size e)⟩
theorem Xk.of_ext(e:Qg a b):Xk bw a b v v:=⟨e.os,e.tape,e.output,e.size,fun _ hk _ _=>e.block hk,fun _ h=> .inl h⟩
theorem Xk.of_r(h:Ge a b va vb):Xk bw a b va vb:=⟨h.os,h.tape,h.output,h.size,fun k hk _ hv=>h.block k hk hv,h.row⟩
theorem Xk.set_(w:World)(v:Value)(p:Addr)(hp:p.block=bw)(u:Value):Xk bw w (w.setCell p u) v v :=
 ⟨rfl,rfl,rfl,by simp [World.setCell],fun k _ hb _=>Below.heap_setCell _ _ _ _ (by rw [hp];exact hb),fun _ h=> .inl h⟩
end
theorem Qwz {w W w4:World} {bw:Nat} {v v0 vd:Value} {t:TypeId}(hb:w.heap[bw]?=some (.cells #[v0,vd] t (0,0)))(zQ:v.ownBlock≠some bw)(he:Qg w W)(hg:W.grownBy w4 v.ownBlock):w4.heap[bw]?=some (.cells #[v0,vd] t (0,0)):=
 ((hg.block bw (Qy (Qn hb) he.size) (fun e=>zQ e.symm)).trans (he.block (Qn hb))).trans hb
theorem Qwj {w W w4:World} {bw:Nat} {v v':Value}(he:Qg w W)(hg:W.grownBy w4 v.ownBlock)(yL:v'.ownBlock=v.ownBlock\/v'.ownBlock=some W.heap.size):Xk bw w w4 v v' :=
 Xk.of_r (((Ge.refl w v).ext he).appended hg yL)
theorem Ql9 {w w4:World} {bw:Nat} {v v':Value}(h:Xk bw w w4 v v')(zQ:v.ownBlock≠some bw)(zI:bw < w.heap.size):v'.ownBlock≠some bw:=fun e=>by
 rcases h.row bw e with h1|h1
 ·exact zQ h1
 omega
theorem Zqs(bw base:Nat)(x:Nd)(o:List Nd)(vo vd:Value)(w:World)(zA:w.heap[bw]?=some (.cells #[vo,vd] 170 (0,0)))(zR:w.ownsRow base 71 6 vo o.length (o.flatMap Nd.cells))
 (hb:base<=w.heap.size)(zG:o.length<=1000)(zQ:vo.ownBlock≠some bw):
 Calls Tryz.prog 207 #[.pointer (some ⟨bw,0,none⟩),.agg #[.int .i64 x.op,.int .i64 x.i,.int .i64 x.e,.int .i64 x.g,.int .i64 x.x,.int .i64 x.y]] w fun e w'=>∃vo',e=.returned (.int .i64 (o.idxOf x:Nat))/\
  w'.heap[bw]?=some (.cells #[vo',vd] 170 (0,0))/\w'.ownsRow base 71 6 vo' (Zi o x).length ((Zi o x).flatMap Nd.cells)/\Xk bw w w' vo vo':=by
 obtain⟨i0,jL,wZ,oA,kM⟩:=info_parts Qmr;obtain⟨Ao,co,rfl⟩:=Qs zR;have yS:=Qq zR;have lS:=Qq zA;have jW:=Qq zQ;obtain⟨A2,c2,e2,xU,yP,zN⟩:=Cw zR;obtain⟨rfl,rfl⟩:A2=Ao/\c2=co:=by injection e2 with e2 _ e3;exact⟨e2.symm,e3.symm⟩
 have uJ:=Qq zN;unfold maxLen at yP;obtain⟨d0,d1,dfr,dlt⟩:=Gc zA;clear zR zA zQ e2 zN;go_enter Tryz.func207,Tryz.ntmps207;go_wp2_with fail;go_loopw [5] (fun i wr=>∃k:Nat,k<=o.length/\i=.int .i64 k/\Hid (x∉o.take k)/\Qg w wr/\Hid (wr.heap[w.heap.size]?=some (.cells #[.int .i64 x.op,.int .i64 x.i,.int .i64 x.e,.int .i64 x.g,.int .i64 x.x,.int .i64 x.y] 71 (0,0)))) (fun i _=>o.length - (intOf i).toNat)
 case atStart=>exact⟨0,Nat.zero_le _,rfl,Qq (by simp),Qz.alloc _,Qq (heap_alloc_new _ _)⟩
 case round =>
  obtain⟨k,hk,rfl,tX,yX,vW⟩:=hrel;have k0:=(yX.cell (p:=⟨bw,0,none⟩) dlt).trans d0;have k1:=(yX.cell (p:=⟨bw,1,none⟩) dlt).trans d1;obtain⟨⟨b0,b1,b2,b3,b4,b5⟩,bfr,blt⟩:=Vs vW.out;by_cases hlt2:k < o.length
  ·obtain⟨a,ha⟩:∃a,o[k]?=some a:=⟨_,Qv hlt2⟩;obtain⟨ad,rfl,yV,xV⟩:=uJ.out (by intro e;rw [e]at hlt2;simp at hlt2);obtain⟨a0,a1,a2,a3,a4,a5⟩:=(xV k a ha).keep fun p hp=>yX.cell (p:=p) (by rw [hp,Qt];exact yV)
   have hi0':(0:Int)<=(k:Int):=by omega
   have hi1':(k:Int) < (o.length:Int):=by omega
   have US:=fun W=>Qpd a x W
   have HA:=Qq ha;clear ha xV;by_cases qS:a=x
   ·have hd:decide (a=x)=true:=by simpa using qS
    have bK:Hid (o.idxOf x=k):=Qq (Qy4 HA.out qS tX.out);have WT:Hid (Zi o x=o):=Qq (by unfold Zi;rw [if_pos (by rw [<-qS];exact List.mem_of_getElem? HA.out)]);clear qS;go_wp2_with fail;go_quiet (fail);go_wp2_with fail;go_ret;refine⟨_,Ke (by rw [bK.out]),?_,?_,Xk.of_ext (yX.drewN _)⟩
    ·exact((yX.drewN _).block dlt).trans lS.out
    rw [WT.out];exact Zk yS.out (yX.drewN _)
   have hd:decide (a=x)=false:=by simpa using qS
   have HT:Hid (x∉o.take (k+1)):=Qq (by rw [Kx HA.out];simp [tX.out,Ne.symm qS]);clear qS;go_wp2_with fail;go_quiet (fail);go_wp2_with fail;go_roundw
   case rel=>exact⟨k+1,by omega,by go_num,HT,yX.drewN _,Qq vW.out⟩
   case measure=>simp [intOf];omega
  obtain rfl:o.length=k:=by omega
  have PP:Hid (x∉o):=Qq (by have:=tX.out;rwa [List.take_of_length_le (Nat.le_refl _)]at this);have xS:o.length+1<=maxLen:=by unfold maxLen;omega
  have xR:(o.length+1)*48<=140737488355328:=by omega
  have blt2:bw < wr.heap.size:=Qy dlt yX.size;have k2:=(yX.frozen (p:=⟨bw,0,none⟩) dlt).trans (dfr 0);go_wp2_with fail;go_region_law (refine Ga rfl (.tmp 29) (.tmp 31) 22 rfl base 71 i0 Nd.zero.val 6 48 Tryz.underlying22 jL wZ oA kM rfl (by decide) (.slice A2 o.length c2) _ _ (by simp [Act.eval]) (Zk yS.out (by repeat(first|exact yX|apply Qg.alloc|apply Qg.drew|apply Qg.drewN))) ⟨wr.heap.size,0,none⟩ 1 1 x.cells (by simp [Act.eval]) rfl (Zt _ _ _ (by simp)) (Qqp x) xS xR (Qx hb (Qg.size (a:=w) (by repeat(first|exact yX|apply Qg.alloc|apply Qg.drew|apply Qg.drewN)))) ?_;intro v' w4 yG yM uF;obtain⟨A4,c4,rfl⟩:=Qs yG;have kb:=Qwz lS.out jW.out (by repeat(first|exact yX|apply Qg.alloc|apply Qg.drew|apply Qg.drewN)) yM;obtain⟨q0,q1,qfr,qlt⟩:=Gc kb;have ST:=Qq (Qwj (bw:=bw) (by repeat(first|exact yX|apply Qg.alloc|apply Qg.drew|apply Qg.drewN)) yM (uF.imp id fun e=>by simp [e]));have uI:=Qq yG;have KB:=Qq kb;clear yG yM uF kb)
  all_goals
   go_wp2_with fail;go_ret;refine⟨.slice A4 (o.length+1) c4,Ke (by rw [List.idxOf_eq_length PP.out]),?_,?_,?_⟩
   ·exact Qfm KB.out _
   ·rw [show Zi o x=o++ [x] by unfold Zi;rw [if_neg PP.out]];refine ownsRow_setCell_other (a:=⟨bw,0,none⟩) ?_ (Ql9 ST.out jW.out (Qn lS.out)) _;have h4:=uI.out
    simpa using h4
   exact ST.out.trans (Xk.set_ _ _ ⟨bw,0,none⟩ rfl _)
def Ib(f o:List Nd)(d:List Int):Prop:=d.length=f.length/\∀i,i < f.length->d[i]?=some (-1)\/(Ze f i o=(o,(Ze f i o).2)/\d[i]?=some (((Ze f i o).2:Nat):Int))
theorem Ib.grow {f o o':List Nd} {d:List Int}(hf:Wf f)(h:Ib f o d)(hp:o <+: o'):Ib f o' d:=by
 refine⟨h.1,fun i hi=> ?_⟩;rcases h.2 i hi with h1|⟨h1,h2⟩
 ·exact .inl h1
 have hg:=Fc hf i o o' hi (by rw [h1];exact hp);exact .inr ⟨by rw [hg],by rw [hg];exact h2⟩
theorem Ib.put {f o:List Nd} {d:List Int} {i:Nat}(h:Ib f o d)(hi:i < f.length)(xB:Ze f i o=(o,(Ze f i o).2)):Ib f o (d.set i (((Ze f i o).2:Nat):Int)):=by
 refine⟨by simpa using h.1,fun j hj=> ?_⟩;by_cases e:j=i
 ·subst e;exact .inr ⟨xB,by rw [List.getElem?_set_self (by rw [h.1];exact hi)]⟩
 rw [List.getElem?_set_ne (Ne.symm e)];exact h.2 j hj
structure Be (bw:Nat) (W0 w:World) (A:Option Addr) (c:Nat) (f o:List Nd) (d:List Int) (vo vd:Value):Prop where
 below:Go.RowKit.Below W0.heap.size W0 w
 nds:Mi W0 A c f
 blk:w.heap[bw]?=some (.cells #[vo,vd] 170 (0,0))
 row:w.ownsRow W0.heap.size 71 6 vo o.length (o.flatMap Nd.cells)
 drow:w.ownsRow W0.heap.size 3 1 vd f.length (d.map (Value.int .i64))
 done:Ib f o d
 low:W0.heap.size<=bw
 oks:∀n∈o,n.ok
structure Gm (bw:Nat) (vd:Value) (w w':World) (v v':Value):Prop where
 os:w'.os=w.os
 tape:w'.tape=w.tape
 output:w'.output=w.output
 size:w.heap.size<=w'.heap.size
 block:∀k,k < w.heap.size->k≠bw->vd.ownBlock≠some k->v.ownBlock≠some k->w'.heap[k]?=w.heap[k]?
 row:∀g,v'.ownBlock=some g->v.ownBlock=some g\/w.heap.size<=g
section
variable {a b c w w':World} {va vb vc v v' vd:Value} {bw:Nat}
theorem Gm.refl(w:World)(v:Value):Gm bw vd w w v v:=⟨rfl,rfl,rfl,Nat.le_refl _,fun _ _ _ _ _=>rfl,fun _ h=> .inl h⟩
theorem Gm.trans(h:Gm bw vd a b va vb)(k:Gm bw vd b c vb vc):Gm bw vd a c va vc :=
 ⟨k.os.trans h.os,k.tape.trans h.tape,k.output.trans h.output,Qx h.size k.size,
  fun i hi hb hd h4=>(k.block i (Qy hi h.size) hb hd (fun e=>by
   rcases h.row i e with e'|e'
   ·exact h4 e'
   omega)).trans (h.block i hi hb hd h4),
  fun g hg=>by
   rcases k.row g hg with e|e
   ·exact h.row g e
   exact .inr (Qx h.size e)⟩
theorem Gm.of_ext(e:Qg a b):Gm bw vd a b v v:=⟨e.os,e.tape,e.output,e.size,fun _ hk _ _ _=>e.block hk,fun _ h=> .inl h⟩
theorem Gm.of_p(h:Xk bw a b va vb):Gm bw vd a b va vb:=⟨h.os,h.tape,h.output,h.size,fun k hk hb _ hv=>h.block k hk hb hv,h.row⟩
theorem Gm.set_(w:World)(v:Value)(p:Addr)(hp:vd.ownBlock=some p.block)(u:Value):Gm bw vd w (w.setCell p u) v v :=
 ⟨rfl,rfl,rfl,by simp [World.setCell],fun k _ _ hd _=>Below.heap_setCell _ _ _ _ (fun e=>hd (by rw [hp,e])),fun _ h=> .inl h⟩
end
section
variable {bw:Nat} {W0 we w w':World} {A:Option Addr} {c:Nat} {f o:List Nd} {d:List Int} {vo vd voe:Value} {bx:Nat} {m:Nd}
theorem Qkj {w:World} {base k:Nat} {e t:TypeId} {size n:Nat} {v:Value} {xs:List Value} {cs:Array Value}(h:w.ownsRow base e size v n xs)(hk:w.heap[k]?=some (.cells cs t (0,0)))(ht:t≠e):v.ownBlock≠some k:=by
 intro hg;rcases h.2 with⟨rfl,_⟩|⟨g,cap,cur,rfl,_,hb,_⟩
 ·cases hg
 obtain rfl:g=k:=by simpa [Value.ownBlock]using hg
 rw [hb]at hk;injection hk with hk;injection hk with _ hk;exact ht hk.symm
theorem Zqt {w:World} {b1 b2:Nat} {e1 e2:TypeId} {s1 s2 n1 n2:Nat} {v1 v2:Value} {xs1 xs2:List Value}(h1:w.ownsRow b1 e1 s1 v1 n1 xs1)(h2:w.ownsRow b2 e2 s2 v2 n2 xs2)(zQ:e1≠e2):
 ∀g,v1.ownBlock=some g->v2.ownBlock≠some g:=by
 intro g hg;rcases h1.2 with⟨rfl,_⟩|⟨g',cap,cur,rfl,_,hb,_⟩
 ·cases hg
 obtain rfl:g'=g:=by simpa [Value.ownBlock]using hg
 exact Qkj h2 hb zQ
theorem Be.aparts(h:Be bw W0 w A c f o d vo vd):vo.ownBlock≠some bw/\vd.ownBlock≠some bw/\(∀g,vd.ownBlock=some g->vo.ownBlock≠some g):=
 ⟨Qkj h.row h.blk (by decide),Qkj h.drow h.blk (by decide),Zqt h.drow h.row (by decide)⟩
theorem Be.keep(h:Be bw W0 w A c f o d vo vd)(hb:Go.RowKit.Below W0.heap.size W0 w')(hk:∀k,k < w.heap.size->(k=bw\/vo.ownBlock=some k\/vd.ownBlock=some k)->w'.heap[k]?=w.heap[k]?):Be bw W0 w' A c f o d vo vd :=
 ⟨hb,h.nds,(hk _ (Qn h.blk) (by simp)).trans h.blk,Zm h.row fun g hg=>hk g (h.row.lt g hg).2 (by simp [hg]),Zm h.drow fun g hg=>hk g (h.drow.lt g hg).2 (by simp [hg]),h.done,h.low,h.oks⟩
theorem Be.ext(h:Be bw W0 w A c f o d vo vd)(he:Qg w w'):Be bw W0 w' A c f o d vo vd :=
 h.keep (h.below.trans (Below.mono he h.below.size)) fun _ hk _=>he.block hk
structure Cg (bw:Nat) (W0 we w:World) (A:Option Addr) (c:Nat) (f o:List Nd) (d:List Int) (voe vo vd:Value) (bx:Nat) (m:Nd):Prop where
 inv:Be bw W0 w A c f o d vo vd
 step:Gm bw vd we w voe vo
 bwlt:bw < we.heap.size
 dlt:∀g,vd.ownBlock=some g->g < we.heap.size
 box:w.heap[bx]?=some (.cells #[.int .i64 m.op,.int .i64 m.i,.int .i64 m.e,.int .i64 m.g,.int .i64 m.x,.int .i64 m.y] 71 (0,0))
 fresh:we.heap.size<=bx/\vo.ownBlock≠some bx
theorem Cg.start(h:Be bw W0 we A c f o d vo vd)(n:Nd):Cg bw W0 we (we.alloc (.cells #[.int .i64 n.op,.int .i64 n.i,.int .i64 n.e,.int .i64 n.g,.int .i64 n.x,.int .i64 n.y] 71)) A c f o d vo vo vd we.heap.size n :=
 ⟨h.ext (Qz.alloc _),Gm.of_ext (Qz.alloc _),Qn h.blk,fun g hg=>(h.drow.lt g hg).2,heap_alloc_new _ _,Nat.le_refl _,fun e=>absurd (h.row.lt _ e).2 (by omega)⟩
theorem Cg.call {o':List Nd} {d':List Int} {vo':Value}(h:Cg bw W0 we w A c f o d voe vo vd bx m)(he:Be bw W0 w' A c f o' d' vo' vd)(hs:Gm bw vd w w' vo vo'):Cg bw W0 we w' A c f o' d' voe vo' vd bx m:=by
 obtain⟨f1,f4⟩:=h.fresh;have vL:=Qn h.box;have hb:=h.bwlt;refine⟨he,h.step.trans hs,h.bwlt,h.dlt,(hs.block _ vL (by omega) (fun e=>by have:=h.dlt _ e;omega) f4).trans h.box,f1,fun e=> ?_⟩;rcases hs.row _ e with e|e
 ·exact f4 e
 omega
theorem Cg.store(h:Cg bw W0 we w A c f o d voe vo vd bx m)(j:Nat)(u:Value)(m':Nd)
 (hm:(#[.int .i64 m.op,.int .i64 m.i,.int .i64 m.e,.int .i64 m.g,.int .i64 m.x,.int .i64 m.y]:Array Value).setIfInBounds j u=#[.int .i64 m'.op,.int .i64 m'.i,.int .i64 m'.e,.int .i64 m'.g,.int .i64 m'.x,.int .i64 m'.y]):
 Cg bw W0 we (w.setCell ⟨bx,j,none⟩ u) A c f o d voe vo vd bx m':=by
 obtain⟨f1,f4⟩:=h.fresh;have hb:=h.bwlt;have vY:=h.inv.low;have hZ:∀k,k≠bx->(w.setCell ⟨bx,j,none⟩ u).heap[k]?=w.heap[k]?:=fun k hk=>Below.heap_setCell _ _ _ _ hk
 have lX:(w.setCell ⟨bx,j,none⟩ u).heap.size=w.heap.size:=by simp [World.setCell]
 refine⟨h.inv.keep (h.inv.below.setCell (by show W0.heap.size<=bx;omega) _) fun k _ hk=>hZ k ?_,?_,h.bwlt,h.dlt,?_,f1,f4⟩
 ·rcases hk with hk|hk|hk
  ·omega
  ·exact fun e=>f4 (by rw [hk,e])
  intro e;have:=h.dlt k hk;omega
 ·exact⟨h.step.os,h.step.tape,h.step.output,by rw [lX];exact h.step.size,fun k hk h1 h2 h3=>(hZ k (by omega)).trans (h.step.block k hk h1 h2 h3),h.step.row⟩
 have hb:=h.box;simp only [World.setCell,Array.getElem?_modify,hb,if_true,Option.map_some];simp [hm]
theorem Zql {w:World} {base:Nat} {e:TypeId} {n g cap i:Nat} {xs:List Value}(h:w.ownsRow base e 1 (.slice (some ⟨g,0,none⟩) n cap) n xs)(u:Value):
 (w.setCell ⟨g,i,none⟩ u).ownsRow base e 1 (.slice (some ⟨g,0,none⟩) n cap) n (xs.set i u):=by
 refine⟨by simpa using h.1,.inr ?_⟩;rcases h.2 with⟨he,_⟩|⟨g',cap',cur,he,hb,hg,hn,hm,hs,ht⟩
 ·cases he
 injection he with e1 _ e3;injection e1 with e1;injection e1 with e1;subst e1 e3;refine⟨g,cap,cur.setIfInBounds i u,rfl,hb,?_,hn,hm,by simpa using hs,?_⟩
 ·simp only [World.setCell,Array.getElem?_modify,hg,if_true,Option.map_some];simp
 rw [<-ht];simp only [Array.toList_setIfInBounds];rw [List.take_set]
theorem Zqh {d:List Int} {i n:Nat} {z:Int}(h:d.length=n)(hi:i < n):(d.set i z)[i]?=some z:=by rw [List.getElem?_set_self (by omega)]
theorem Qwf {g cap i:Nat} {w5:World} {vo3:Value}(hf:Wf f)(h:Cg bw W0 we w A c f o d voe vo (.slice (some ⟨g,0,none⟩) f.length cap) bx m) {o0:List Nd}(xB:Ze f i o0=(Zi o m,o.idxOf m))(hi:i < f.length)
 (zA:w5.heap[bw]?=some (.cells #[vo3,.slice (some ⟨g,0,none⟩) f.length cap] 170 (0,0)))(zR:w5.ownsRow W0.heap.size 71 6 vo3 (Zi o m).length ((Zi o m).flatMap Nd.cells))(xM:Xk bw w w5 vo vo3)(zO:m.ok):
 d.length=f.length/\Hid (Be bw W0 (w5.setCell ⟨g,i,none⟩ (.int .i64 (o.idxOf m:Nat))) A c f (Zi o m) (d.set i (o.idxOf m:Nat)) vo3 (.slice (some ⟨g,0,none⟩) f.length cap))/\
  Hid (Gm bw (.slice (some ⟨g,0,none⟩) f.length cap) we (w5.setCell ⟨g,i,none⟩ (.int .i64 (o.idxOf m:Nat))) voe vo3):=by
 obtain⟨a1,a2,a3⟩:=h.inv.aparts;have hg:=(h.inv.drow.lt g rfl);have uC:w5.heap[g]?=w.heap[g]?:=xM.block g hg.2 (fun e=>a2 (by rw [<-e];rfl)) (a3 g rfl);have DP:g≠bw:=fun e=>a2 (by rw [<-e];rfl)
 have hvg:vo3.ownBlock≠some g:=fun e=>by
  rcases xM.row g e with e1|e1
  ·exact a3 g rfl e1
  omega
 have NT:w5.ownsRow W0.heap.size 3 1 (.slice (some ⟨g,0,none⟩) f.length cap) f.length (d.map (Value.int .i64)):=Zm h.inv.drow fun k hk=>by
  injection hk with hk;subst hk;exact uC
 have vZ:=Fc hf i o0 (Zi o m) hi (by rw [xB];exact List.prefix_refl _);rw [xB]at vZ;refine⟨h.inv.done.1,⟨?_,h.inv.nds,?_,?_,?_,?_,h.inv.low,?_⟩,?_⟩
 ·refine Below.setCell (Below.trans h.inv.below ?_) (by exact hg.1) _;refine⟨xM.os,xM.tape,xM.output,xM.size,fun k hk=>xM.block k (Qy hk h.inv.below.size) (by have:=h.inv.low;omega) (fun e=> ?_)⟩;have:=(h.inv.row.lt k e).1;omega
 ·exact(Below.heap_setCell _ _ _ _ (Ne.symm DP)).trans zA
 ·exact ownsRow_setCell_other zR hvg _
 ·have h2:=Zql NT (i:=i) (.int .i64 (o.idxOf m:Nat));rw [<-List.map_set]at h2;exact h2
 ·have h3:=(h.inv.done.grow hf (Xt o m)).put hi (by rw [vZ]);rw [vZ]at h3;exact h3
 ·intro n hn;unfold Zi at hn
  split at hn
  ·exact h.inv.oks n hn
  rcases List.mem_append.1 hn with hn|hn
  ·exact h.inv.oks n hn
  rw [List.mem_singleton.1 hn];exact zO
 exact h.step.trans ((Gm.of_p xM).trans (Gm.set_ _ _ ⟨g,i,none⟩ rfl _))
end
def Qbh(bw:Nat)(W0:World)(A:Option Addr)(c:Nat)(f:List Nd)(vd:Value)(z:Int):Prop :=
 ∀(w:World) (o:List Nd) (d:List Int) (vo:Value),Be bw W0 w A c f o d vo vd->Bi f o<=f.length->
  Calls Tryz.prog 181 #[.slice A f.length c,.int .i64 z,.pointer (some ⟨bw,0,none⟩)] w
   fun e w'=>∃vo' d',e=.returned (.int .i64 (Ze f z.toNat o).2)/\Be bw W0 w' A c f (Ze f z.toNat o).1 d' vo' vd/\Gm bw vd w w' vo vo'
theorem Qhp {bw:Nat} {W0 w:World} {A:Option Addr} {c:Nat} {f o:List Nd} {d:List Int} {vo vd:Value}(h:Be bw W0 w A c f o d vo vd)(zG:f.length<=1000)(i k:Nat)(hi:i < f.length)(hd:d[i]?=some (k:Int)):
 Calls Tryz.prog 181 #[.slice A f.length c,.int .i64 i,.pointer (some ⟨bw,0,none⟩)] w fun e w'=>e=.returned (.int .i64 k)/\w=w':=by
 obtain⟨b0,b1,bfr,blt⟩:=Gc h.blk;obtain⟨g,cap,rfl,hg,xU,yP,yO⟩:=Lh h.drow (by omega);obtain⟨hc,_⟩:=yO i k hd;have jQ:w.cell? ((⟨g,0,none⟩:Addr).add i)=some (.int .i64 (k:Int)):=by rw [Fm];exact hc
 unfold maxLen at yP;clear yO h hd;go_enter Tryz.func181,Tryz.ntmps181;go_wp2_with fail;go_ret;exact⟨rfl,rfl⟩
theorem Xk.undrew {bw:Nat} {w w':World} {v v':Value}(h:Xk bw w.drew w' v v'):Xk bw w w' v v':=⟨h.os,h.tape,h.output,h.size,h.block,h.row⟩
theorem Qt6 {bw:Nat} {W0 w w5:World} {A:Option Addr} {c i g cap:Nat} {f o:List Nd} {d:List Int} {vo vo3:Value}(h:Be bw W0 w A c f o d vo (.slice (some ⟨g,0,none⟩) f.length cap))(hi:i < f.length)(xM:Xk bw w w5 vo vo3):
 (∃z,w5.cell? ⟨g,i,none⟩=some (.int .i64 z))/\w5.frozen? ⟨g,i,none⟩=false/\g < w5.heap.size:=by
 obtain⟨g',cap',e',wD,_,_,sE⟩:=Lh h.drow (by omega);obtain⟨rfl,rfl⟩:g=g'/\cap=cap':=by injection e' with e1 _ e3;injection e1 with e1;injection e1 with e1;exact⟨e1,e3⟩
 have hl:i < d.length:=by rw [h.done.1];exact hi
 obtain⟨c1,c2⟩:=sE i _ (Qv hl);obtain⟨a1,a2,a3⟩:=h.aparts;have hb:=xM.block g wD (fun e=>a2 (by rw [<-e];rfl)) (a3 g rfl);exact⟨⟨_,(World.cell?_of_block (a:=⟨g,i,none⟩) hb).trans c1⟩,(World.frozen?_of_block (a:=⟨g,i,none⟩) hb).trans c2,Qy wD xM.size⟩
theorem Qwg {bw:Nat} {W0 w:World} {A:Option Addr} {c:Nat} {f o:List Nd} {d:List Int} {vo vd:Value}(hf:Wf f)(zO:∀n∈f,n.ok)(h:Be bw W0 w A c f o d vo vd)(zG:f.length<=1000)(i:Nat)(n:Nd)(hn:f[i]?=some n)
 (hd:d[i]?=some (-1))(oF:Bi f o<=f.length)(ih:∀z:Int,0<=z->z < i->Qbh bw W0 A c f vd z)(ux uy:Bool)(qB:Qi n.op=ux)(sN:Qe n.op=uy):
 Calls Tryz.prog 181 #[.slice A f.length c,.int .i64 i,.pointer (some ⟨bw,0,none⟩)] w
  fun e w'=>∃vo' d',e=.returned (.int .i64 (Ze f i o).2)/\Be bw W0 w' A c f (Ze f i o).1 d' vo' vd/\Gm bw vd w w' vo vo':=by
 have hi:i < f.length:=(List.getElem?_eq_some_iff.1 hn).1;obtain⟨b0,b1,bfr,blt⟩:=Gc h.blk;obtain⟨g,cap,rfl,hg,xU,yP,yO⟩:=Lh h.drow (by omega);obtain⟨hc,_⟩:=yO i _ hd;unfold maxLen at yP;obtain⟨ad,rfl,zI,zJ⟩:=h.nds.2.2 (by intro e;rw [e]at hi;simp at hi);have OA:=h.nds.1;have eJ:=h.nds.2.1;unfold maxLen at eJ;obtain⟨c0,c1,c2,c3,c4,c5⟩:=(zJ i n hn).keep fun p hp=>h.below.cell (p:=p) (by rw [hp,Qt];exact zI)
 have EO:(ad.add (i*6)).block < w.heap.size:=by rw [Qt];exact Qy zI h.below.size
 have qU:=Qq (zJ i n hn);have H:=Qq h;have HN:=Qq hn;have oN:=Qq qB;have oY:=Qq sN;have IH:=Qq ih;have HF:=Qq hf;have zC:=Qq zO;have HP:=Qq oF;clear h hn qB sN ih zJ hf zO yO hd oF;have cP:=Qq (Cg.start H.out n);go_enter Tryz.func181,Tryz.ntmps181;go_upto_if 29 with(go_at_call 103;refine(Ma oN.out _).mono ?_;rintro e w' ⟨rfl,rfl⟩);go_cut [] (fun wx=>∃vo1 d1,Cg bw W0 w wx (some ad) c f (Yv f n o).1 d1 vo vo1 (.slice (some ⟨g,0,none⟩) f.length cap) w.heap.size (n.with_ (Yv f n o).2 n.y.toNat))
 case first =>
  cases ux
  ·go_wp2_with fail;go_meet;exact⟨vo,d,by rw [Qc4 oN.out,Qh8 oN.out (fun e=>((HF.out i n HN.out).2 e).1)];exact cP.out⟩
  obtain⟨yK,zP⟩:=(HF.out i n HN.out).1 oN.out;go_wp2_with fail;refine(IH.out n.x yK zP _ _ _ _ cP.out.inv HP.out).mono ?_;rintro e w2 ⟨vo1,d1,rfl,uB,vU⟩;have vV:=Qq (cP.out.call uB vU);clear uB vU;obtain⟨⟨d0,d1',d2,d3,d4,d5⟩,dfr,dlt⟩:=Vs vV.out.box;go_wp2_with fail;go_meet;refine⟨vo1,d1,?_⟩;rw [Qse oN.out];exact vV.out.store 4 _ _ (Qtq oN.out (fun e=>((HF.out i n HN.out).2 e).1))
 case rest =>
  obtain⟨vo1,d1,uY⟩:=hcut;have iT:Hid (Bi f (Yv f n o).1<=f.length):=Qq (Qx (Qs0 HF.out HN.out o) HP.out);obtain⟨o1,k1,TV⟩:∃o1 k1,Yv f n o=(o1,k1):=⟨_,_,rfl⟩;have vC:=Qq TV;rw [TV]at uY iT;simp only at uY iT;clear TV b0 b1 bfr blt hc c0 c1 c2 c3 c4 c5 EO cP;obtain⟨⟨q0,q1,q2,q3,q4,q5⟩,qfr,qlt⟩:=Vs uY.box;rw [show(n.with_ k1 n.y.toNat).op=n.op from rfl]at q0;obtain⟨c0,c1,c2,c3,c4,c5⟩:=qU.out.keep fun p hp=>uY.inv.below.cell (p:=p) (by rw [hp,Qt];exact zI)
  have HM:=Qq uY;clear uY;go_upto_if 41 with(go_at_call 104;refine(Me oY.out _).mono ?_;rintro e w' ⟨rfl,rfl⟩);go_cut [] (fun wx=>∃vo2 d2,Cg bw W0 w wx (some ad) c f (Vt f n o1).1 d2 vo vo2 (.slice (some ⟨g,0,none⟩) f.length cap) w.heap.size (n.with_ k1 (Vt f n o1).2))
  case first =>
   cases uy
   ·go_wp2_with fail;go_meet;exact⟨vo1,d1,by rw [Qc5 oY.out,Qtg oY.out];exact HM.out⟩
   obtain⟨ZJ,JG⟩:=(HF.out i n HN.out).2 oY.out;go_wp2_with fail;refine(IH.out n.y ZJ JG _ _ _ _ HM.out.inv iT.out).mono ?_;rintro e w2 ⟨vo2,d2,rfl,uB,vU⟩;have vV:=Qq (HM.out.call uB vU);clear uB vU q0 q1 q2 q3 q4 q5 qfr qlt c0 c1 c2 c3 c4 c5;obtain⟨⟨q0,q1,q2,q3,q4,q5⟩,qfr,qlt⟩:=Vs vV.out.box;go_wp2_with fail;go_meet;refine⟨vo2,d2,?_⟩;rw [Qsw oY.out];exact vV.out.store 5 _ _ (Qtz oY.out _ rfl)
  case rest =>
   obtain⟨vo2,d2,wT⟩:=hcut;have iR:Hid (Bi f (Vt f n o1).1<=f.length):=Qq (Qx (Qs1 HF.out HN.out o1) iT.out);obtain⟨o2,k2,gI⟩:∃o2 k2,Vt f n o1=(o2,k2):=⟨_,_,rfl⟩;have YX:=Qq gI;rw [gI]at wT iR;simp only at wT iR;clear gI q0 q1 q2 q3 q4 q5 qfr qlt c0 c1 c2 c3 c4 c5;have yT:k1<=1000:=Qof HF.out HN.out vC.out zG iT.out;have wW:k2<=1000:=Qob HF.out HN.out YX.out zG iR.out;have oP:=Qq (Qtx (zC.out n (List.mem_of_getElem? HN.out)) yT wW);have vT:=Qq (Qpm HF.out HN.out vC.out YX.out);clear yT wW;generalize n.with_ k1 k2=mm at wT oP vT;obtain⟨⟨q0,q1,q2,q3,q4,q5⟩,qfr,qlt⟩:=Vs wT.box
   obtain⟨b0,b1,bfr,blt⟩:=Gc wT.inv.blk;have vV:=Qq wT;clear wT;go_upto_region 8 with(fail);go_cut [] (fun wx=>∃vo3 d3,Hid (d3[i]?=some ((o2.idxOf mm:Nat):Int))/\Hid (Be bw W0 wx (some ad) c f (Zi o2 mm) d3 vo3 (.slice (some ⟨g,0,none⟩) f.length cap))/\Hid (Gm bw (.slice (some ⟨g,0,none⟩) f.length cap) w wx vo vo3))
   case first =>
    have KH:=vV.out.inv.aparts;have WC:=Qq (Zqs bw W0.heap.size mm o2 vo2 (.slice (some ⟨g,0,none⟩) f.length cap));have M2:=Qq KH;have uQ:o2.length<=1000:=Qx (Gr f o2) (Qx iR.out zG);clear KH;go_region_with (go_at_call 207;refine(WC.out _ (by exact vV.out.inv.blk) (by exact vV.out.inv.row) (by exact vV.out.inv.below.size) uQ M2.out.1).mono ?_;rintro e w5 ⟨vo3,rfl,eM,sO,dG⟩;have TD:Xk bw wc w5 vo2 vo3:=(by first|exact dG|exact Xk.undrew dG);obtain⟨r0,r1,rfr,rlt⟩:=Gc eM;obtain⟨⟨z0,s0⟩,s1,slt⟩:=Qt6 vV.out.inv hi TD;have H5:=Qq (Qwf HF.out vV.out vT.out hi eM sO TD oP.out);clear eM sO TD dG)
    all_goals
     go_wp2_with fail;go_meet;exact⟨vo3,_,Qq (Zqh H5.out.1 hi),H5.out.2.1,H5.out.2.2⟩
   case rest =>
    obtain⟨vo3,d3,JB,nW,qT⟩:=hcut;obtain⟨b0',b1',bfr',blt'⟩:=Gc nW.out.blk;obtain⟨g',cap',e',wD,T4,Q0,sE⟩:=Lh nW.out.drow (by omega);obtain⟨rfl,rfl⟩:g=g'/\cap=cap':=by injection e' with e1 _ e3;injection e1 with e1;injection e1 with e1;exact⟨e1,e3⟩
    have xS:=(sE i _ JB.out).1;clear sE e';go_wp2_with fail;go_ret;refine⟨vo3,d3,Ke ?_,?_,qT.out⟩
    ·rw [vT.out]
    rw [vT.out];exact nW.out
end Go.Proofs.YtkmclcmnoicagaaGreatDoor
