/- The rules of hilbert as Lean functions of lists, and why they are sound. Plain. -/
import Derived.Test.YtmidgcldljfkcaaGreatDoorM01
import Derived.Test.YtmidgcldljfkcaaGreatDoorM23
import Derived.Test.YtmidgcldljfkcaaGreatDoorM24
import Derived.Test.YtmidgcldljfkcaaGreatDoorM26
import Derived.Test.YtmidgcldljfkcaaGreatDoorM13
namespace Go.Proofs.YtmidgcldljfkcaaGreatDoor
set_option maxRecDepth 100000
set_option maxHeartbeats 128000000
open Go.RowKit
section
variable {M:KM} {w:M.W} {f g:List Nd}
theorem Gr(h:Yb f g=true):Qs g=0/\(M.sat (Qp f) w↔M.sat (Qp g) w):=by
 obtain⟨_,h2,h3⟩:=Qf0.1 h;exact⟨h2,by rw [h3]⟩
theorem Qjn(h:Qs (Lo f g)=0):Qs f=0/\Qs g=0/\(M.sat (Qp (Lo f g)) w↔(M.sat (Qp f) w↔M.sat (Qp g) w)):=by
 obtain⟨h1,h2,e⟩:=Qtn (n:=⟨8,0,0,0,0,0⟩) rfl rfl ⟨rfl,rfl,rfl,fun _=>rfl,fun _=>rfl⟩ rfl h;exact⟨h1,h2,by rw [show Qp (Lo f g)=_ from e];simp [KM.sat]⟩
theorem Qf5 {k:Int}(h:1<=k/\k<=15):Jm ⟨11,0,0,k,0,0⟩:=by
 refine⟨rfl,rfl,?_,fun _=>rfl,fun _=>rfl⟩;obtain⟨a,b⟩:=h;simp [Yk,Jz,Zw,Zy,Zl,Zb];omega
theorem Qyc {k:Int}(hk:1<=k/\k<=15)(h:Qs (Tg k f)=0):Qs f=0/\(M.sat (Qp (Tg k f)) w↔∀i:Nat,i < 4->Fr k i=true->∀v,M.R (i:Int) w v->M.sat (Qp f) v):=by
 obtain⟨h1,e⟩:=unT (n:=⟨11,0,0,k,0,0⟩) rfl rfl (Qf5 hk) rfl h;exact⟨h1,by rw [show Qp (Tg k f)=_ from e];simp [KM.sat]⟩
theorem Qc1 {base:List Nd} {k:Nat} {n:Nd}(hc:Qs base=0)(hk:base[k]?=some n)(ho:n.op=7):M.sat (tr base k) w↔(M.sat (tr base n.x.toNat) w->M.sat (tr base n.y.toNat) w):=by
 rw [Xb (Jq hc) hk];obtain⟨op,a,e,g,x,y⟩:=n;obtain rfl:op=7:=ho;simp [Ve,Qw,Qa,KM.sat,Nd.head,Nd.with_]
theorem Qlc {base:List Nd} {k:Nat} {n:Nd}(hc:Qs base=0)(hk:base[k]?=some n)(ho:n.op=11):M.sat (tr base k) w↔∀i:Nat,i < 4->Fr n.g i=true->∀v,M.R (i:Int) w v->M.sat (tr base n.x.toNat) v:=by
 rw [Xb (Jq hc) hk];obtain⟨op,a,e,g,x,y⟩:=n;obtain rfl:op=11:=ho;simp [Ve,Qw,Qa,KM.sat,Nd.head,Nd.with_]
theorem Qmz {base:List Nd} {k:Nat} {n:Nd}(hc:Qs base=0)(hk:base[k]?=some n)(ho:n.op=13):M.sat (tr base k) w↔∀v,Rch (M.step n.g (M.sat (tr base n.x.toNat))) w v->M.sat (tr base n.y.toNat) v:=by
 rw [Xb (Jq hc) hk];obtain⟨op,a,e,g,x,y⟩:=n;obtain rfl:op=13:=ho;simp [Ve,Qw,Qa,KM.sat,Nd.head,Nd.with_]
theorem Cv(hc:Qs f=0)(ho:Qw (Qt f).op=true):Ql f=Zh f (Qt f).x/\Qs (Ql f)=0/\Qp (Ql f)=tr f (Qt f).x.toNat:=by
 have e:Ql f=Zh f (Qt f).x:=by
  unfold Ql;have:decide (4<=(Qt f).op)=true:=by unfold Qw at ho;rw [Bool.and_eq_true]at ho;exact ho.1
  rw [this];rfl
 rw [e];exact⟨rfl,Qh5 hc ho⟩
theorem Qsj(hc:Qs f=0)(ho:Pe (Qt f).op=true)(hy:Qa (Qt f).op=true):Qs (Jf f)=0/\Qp (Jf f)=tr f (Qt f).y.toNat:=by
 have e:Jf f=Zh f (Qt f).y:=by unfold Jf;rw [ho];rfl
 rw [e];exact Qaz hc hy
theorem Qrg(hc:Qs f=0)(ho:(Qt f).op=7):Qs (Ql f)=0/\Qs (Jf f)=0/\(M.sat (Qp f) w↔(M.sat (Qp (Ql f)) w->M.sat (Qp (Jf f)) w)):=by
 obtain⟨_,a1,a2⟩:=Cv hc (by rw [ho];rfl);obtain⟨b1,b2⟩:=Qsj hc (by rw [ho];rfl) (by rw [ho];rfl);refine⟨a1,b1,?_⟩;rw [a2,b2];exact Qc1 hc (Bp hc) ho
theorem Dl(hc:Qs f=0)(ho:(Qt f).op=9):Qs (Ql f)=0/\(0<=(Qt f).i/\(Qt f).i < 4)/\(M.sat (Qp f) w↔∀v,M.R (Qt f).i w v->M.sat (Qp (Ql f)) v):=by
 obtain⟨_,a1,a2⟩:=Cv hc (by rw [ho];rfl);refine⟨a1,Qkd hc (.inl ho),?_⟩;rw [a2];exact Qcm hc (Bp hc) ho
theorem Qb4(hc:Qs f=0)(ho:(Qt f).op=10):Qs (Ql f)=0/\(0<=(Qt f).i/\(Qt f).i < 4)/\(M.sat (Qp f) w↔∃v,M.R (Qt f).i w v/\M.sat (Qp (Ql f)) v):=by
 obtain⟨_,a1,a2⟩:=Cv hc (by rw [ho];rfl);refine⟨a1,Qkd hc (.inr ho),?_⟩;rw [a2];exact Qln hc (Bp hc) ho
theorem Qqz(hc:Qs f=0)(ho:(Qt f).op=11\/(Qt f).op=13):1<=(Qt f).g/\(Qt f).g<=15:=by
 obtain⟨_,_,h3,_,_⟩:=Fz hc _ (List.mem_of_getElem? (Bp hc));unfold Yk at h3;rcases ho with ho|ho <;>(rw [ho]at h3;simp [Jz,Zw,Zy,Zl,Zb]at h3;omega)
theorem Qxo(hc:Qs f=0)(ho:(Qt f).op=11):Qs (Ql f)=0/\(M.sat (Qp f) w↔∀i:Nat,i < 4->Fr (Qt f).g i=true->∀v,M.R (i:Int) w v->M.sat (Qp (Ql f)) v):=by
 obtain⟨_,a1,a2⟩:=Cv hc (by rw [ho];rfl);refine⟨a1,?_⟩;rw [a2];exact Qlc hc (Bp hc) ho
theorem Qyr(hc:Qs f=0)(ho:(Qt f).op=13):Qs (Ql f)=0/\Qs (Jf f)=0/\(M.sat (Qp f) w↔∀v,Rch (M.step (Qt f).g (M.sat (Qp (Ql f)))) w v->M.sat (Qp (Jf f)) v):=by
 obtain⟨_,a1,a2⟩:=Cv hc (by rw [ho];rfl);obtain⟨b1,b2⟩:=Qsj hc (by rw [ho];rfl) (by rw [ho];rfl);refine⟨a1,b1,?_⟩;rw [a2,b2];exact Qmz hc (Bp hc) ho
end
section
variable {M:KM} {w:M.W} {f:List Nd}
theorem Qb8(h:Rb f=true):M.sat (Qp f) w:=by
 unfold Rb at h;simp only [Bool.and_eq_true,beq_iff_eq]at h;obtain⟨h9,h7,hs⟩:=h;obtain⟨c0,e⟩:=Gr (M:=M) (w:=w) hs;obtain⟨c1,c2,e1⟩:=Fm (M:=M) (w:=w) c0;obtain⟨c3,c4,e2⟩:=Fm (M:=M) (w:=w) c2;obtain⟨d1,hi,d2⟩:=Dl (M:=M) (w:=w) c1 h9;obtain⟨_,g1⟩:=Fh (M:=M) (w:=w) hi.1 hi.2 c3;obtain⟨_,g2⟩:=Fh (M:=M) (w:=w) hi.1 hi.2 c4;rw [e,e1,e2,d2,g1,g2];intro ha hp v hv;exact((Qrg (M:=M) (w:=v) d1 h7).2.2.1 (ha v hv)) (hp v hv)
theorem Qcz {lg:Int}(hM:M.In lg)(hl:lg=2\/lg=4\/lg=6)(h:Jr toT f=true):M.sat (Qp f) w:=by
 unfold Jr toT at h;simp only [Bool.and_eq_true,beq_iff_eq]at h;obtain⟨h9,hs⟩:=h;obtain⟨c0,e⟩:=Gr (M:=M) (w:=w) hs;obtain⟨c1,c2,e1⟩:=Fm (M:=M) (w:=w) c0;obtain⟨d1,hi,d2⟩:=Dl (M:=M) (w:=w) c1 h9;rw [e,e1,d2];exact fun ha=>ha w ((hM _).refl hl w)
theorem Qc3 {lg:Int}(hM:M.In lg)(hl:3<=lg/\lg<=6)(h:Jr to4 f=true):M.sat (Qp f) w:=by
 unfold Jr to4 at h;simp only [Bool.and_eq_true,beq_iff_eq]at h;obtain⟨h9,hs⟩:=h;obtain⟨c0,e⟩:=Gr (M:=M) (w:=w) hs;obtain⟨c1,c2,e1⟩:=Fm (M:=M) (w:=w) c0;obtain⟨d1,hi,d2⟩:=Dl (M:=M) (w:=w) c1 h9;obtain⟨c3,e2⟩:=Fh (M:=M) (w:=w) hi.1 hi.2 c2;rw [e,e1,d2,e2];intro ha v hv;exact(Fh (M:=M) (w:=v) hi.1 hi.2 c3).2.2 fun u hu=>ha u ((hM _).trans hl w v u hv hu)
theorem Qbb {lg:Int}(hM:M.In lg)(hl:lg=5\/lg=6)(h:Rr f=true):M.sat (Qp f) w:=by
 unfold Rr at h;simp only [Bool.and_eq_true,beq_iff_eq]at h;obtain⟨h9,hs⟩:=h;generalize Ql (Ql f)=k at h9 hs;obtain⟨c0,e⟩:=Gr (M:=M) (w:=w) hs;obtain⟨c1,c2,e1⟩:=Fm (M:=M) (w:=w) c0;obtain⟨c3,e2⟩:=St (M:=M) (w:=w) c1;have hi:=Qkd c3 (.inl h9);obtain⟨_,e3⟩:=Fh (M:=M) (w:=w) hi.1 hi.2 c2;rw [e,e1,e2,e3];intro hn v hv;rw [(St (M:=M) (w:=v) c1).2,(Dl (M:=M) (w:=v) c3 h9).2.2];rw [(Dl (M:=M) (w:=w) c3 h9).2.2]at hn;exact fun hall=>hn fun u hu=>hall u ((hM _).eucl hl w v u hv hu)
theorem Qcb {lg:Int}(hM:M.In lg)(hl:lg=1\/lg=5)(h:Jr toD f=true):M.sat (Qp f) w:=by
 unfold Jr toD at h;simp only [Bool.and_eq_true,beq_iff_eq]at h;obtain⟨h9,hs⟩:=h;obtain⟨c0,e⟩:=Gr (M:=M) (w:=w) hs;obtain⟨c1,c2,e1⟩:=Fm (M:=M) (w:=w) c0;obtain⟨d1,hi,d2⟩:=Dl (M:=M) (w:=w) c1 h9;obtain⟨c3,e2⟩:=St (M:=M) (w:=w) c2;obtain⟨c4,e3⟩:=Fh (M:=M) (w:=w) hi.1 hi.2 c3;rw [e,e1,d2,e2,e3];intro ha hall;obtain⟨v,hv⟩:=(hM (Qt (Ql f)).i).ser hl w;exact(St (M:=M) (w:=v) c4).2.1 (hall v hv) (ha v hv)
theorem Qf1(h:Lg f=true):M.sat (Qp f) w:=by
 unfold Lg at h;simp only [Bool.and_eq_true,beq_iff_eq]at h;obtain⟨h10,hs⟩:=h;obtain⟨c0,e⟩:=Gr (M:=M) (w:=w) hs;obtain⟨c1,c2,e1⟩:=Qjn (M:=M) (w:=w) c0;obtain⟨d1,hi,d2⟩:=Qb4 (M:=M) (w:=w) c1 h10;obtain⟨c3,e2⟩:=St (M:=M) (w:=w) c2;obtain⟨c4,e3⟩:=Fh (M:=M) (w:=w) hi.1 hi.2 c3;rw [e,e1,d2,e2,e3];constructor
 ·rintro⟨v,hv,hp⟩ hall;exact(St (M:=M) (w:=v) c4).2.1 (hall v hv) hp
 intro hn;refine Classical.byContradiction fun hne=>hn fun v hv=>(St (M:=M) (w:=v) c4).2.2 fun hp=>hne ⟨v,hv,hp⟩
theorem Qxr:∀(l:List (List Nd)) (f0:List Nd),Qs (l.foldl Vi f0)=0->Qs f0=0/\(∀g∈l,Qs g=0)/\(M.sat (Qp (l.foldl Vi f0)) w↔M.sat (Qp f0) w/\∀g∈l,M.sat (Qp g) w)
 |[],f0,h=>⟨h,fun g hg=>(List.not_mem_nil hg).elim,⟨fun a=>⟨a,fun g hg=>(List.not_mem_nil hg).elim⟩,fun a=>a.1⟩⟩
 |g :: r,f0,h=>by
  obtain⟨h1,h2,h3⟩:=Qxr r (Vi f0 g) h;obtain⟨c1,c2,c3⟩:=Qjc (M:=M) (w:=w) h1;refine⟨c1,fun k hk=> ?_,?_⟩
  ·rcases List.mem_cons.1 hk with rfl|hk
   ·exact c2
   exact h2 k hk
  rw [List.foldl_cons,h3,c3];constructor
  ·rintro⟨⟨a,b⟩,c⟩;refine⟨a,fun k hk=> ?_⟩;rcases List.mem_cons.1 hk with rfl|hk
   ·exact b
   exact c k hk
  rintro⟨a,b⟩;exact⟨⟨a,b g (List.mem_cons_self ..)⟩,fun k hk=>b k (List.mem_cons_of_mem _ hk)⟩
theorem Qpf {l:List (List Nd)}(h:Qs (Qqi l)=0):(∀g∈l,Qs g=0)/\(M.sat (Qp (Qqi l)) w↔∀g∈l,M.sat (Qp g) w):=by
 cases l with
 |nil=>exact⟨fun g hg=>(List.not_mem_nil hg).elim,⟨fun _ g hg=>(List.not_mem_nil hg).elim,fun _=>Qlh⟩⟩
 |cons f r =>
  obtain⟨h1,h2,h3⟩:=Qxr (M:=M) (w:=w) r (Qf f) h;have hf:Qs f=0:=by
   refine Classical.byContradiction fun hne=> ?_
   have e:Qf f= []:=by
    unfold Qf Zh;have:(Qs f !=0)=true:=by simpa using hne
    rw [this,Bool.true_or];rfl
   rw [e]at h1;exact absurd h1 (by decide)
  have hall:∀g∈f :: r,Qs g=0:=fun g hg=>by
   rcases List.mem_cons.1 hg with rfl|hg
   ·exact hf
   exact h2 g hg
  refine⟨hall,?_⟩;show M.sat (Qp (r.foldl Vi (Qf f))) w↔_;rw [h3,Ky hf];constructor
  ·rintro⟨a,b⟩ g hg;rcases List.mem_cons.1 hg with rfl|hg
   ·exact a
   exact b g hg
  exact fun a=>⟨a f (List.mem_cons_self ..),fun g hg=>a g (List.mem_cons_of_mem _ hg)⟩
theorem Er {g i:Int} :i∈Qvo g↔∃k:Nat,k < 4/\Fr g k=true/\i=(k:Int):=by
 unfold Qvo;rw [List.mem_filterMap];constructor
 ·rintro⟨k,hk,e⟩;have h4:k < 4:=by simp at hk;omega
  cases hb:Fr g k
  ·rw [hb]at e;cases e
  rw [hb]at e;injection e with e;exact⟨k,h4,hb,e.symm⟩
 rintro⟨k,hk,hb,rfl⟩;exact⟨k,by simp;omega,by rw [hb];rfl⟩
theorem Qgl(h:De f=true):M.sat (Qp f) w:=by
 unfold De at h;simp only [Bool.and_eq_true,beq_iff_eq]at h;obtain⟨h11,hs⟩:=h;obtain⟨c0,e⟩:=Gr (M:=M) (w:=w) hs;obtain⟨c1,c2,e1⟩:=Qjn (M:=M) (w:=w) c0;obtain⟨d1,d2⟩:=Qxo (M:=M) (w:=w) c1 h11;obtain⟨c3,e2⟩:=Qpf (M:=M) (w:=w) c2;rw [e,e1,d2,e2];have key:∀i:Nat,i < 4->Fr (Qt (Ql f)).g i=true->(M.sat (Qp (Yy (i:Int) (Ql (Ql f)))) w↔∀v,M.R (i:Int) w v->M.sat (Qp (Ql (Ql f))) v):=fun i hi hb =>
  (Fh (M:=M) (w:=w) (by omega) (by omega) (c3 _ (List.mem_map.2 ⟨(i:Int),Er.2 ⟨i,hi,hb,rfl⟩,rfl⟩))).2
 constructor
 ·intro ha g hg;obtain⟨j,hj,rfl⟩:=List.mem_map.1 hg;obtain⟨k,hk,hb,rfl⟩:=Er.1 hj;exact(key k hk hb).2 (ha k hk hb)
 intro ha i hi hb;exact(key i hi hb).1 (ha _ (List.mem_map.2 ⟨(i:Int),Er.2 ⟨i,hi,hb,rfl⟩,rfl⟩))
theorem Qgd(h:Ry f=true):M.sat (Qp f) w:=by
 unfold Ry at h;simp only [Bool.and_eq_true,beq_iff_eq]at h;obtain⟨h13,hs⟩:=h;generalize Ql f=c at h13 hs;obtain⟨c0,e⟩:=Gr (M:=M) (w:=w) hs;obtain⟨c1,c2,e1⟩:=Qjn (M:=M) (w:=w) c0;have hg:=Qqz c1 (.inr h13);obtain⟨c3,e2⟩:=Qyc (M:=M) (w:=w) hg c2;have cp:=fun v=>Qyr (M:=M) (w:=v) c1 h13
 rw [e,e1,e2,(cp w).2.2];have inner:∀v,M.sat (Qp (Ya (Ql c) (Vi (Jf c) c))) v↔(M.sat (Qp (Ql c)) v->M.sat (Qp (Jf c)) v/\M.sat (Qp c) v):=fun v=>by
  obtain⟨_,c4,e3⟩:=Fm (M:=M) (w:=v) c3;rw [e3,(Qjc (M:=M) (w:=v) c4).2.2]
 constructor
 ·intro ha i hi hb v hv;refine(inner v).2 fun hp=>⟨ha v (.one ⟨⟨i,hi,hb,hv⟩,hp⟩),?_⟩
  exact(cp v).2.2.2 fun u hu=>ha u (.cons ⟨⟨i,hi,hb,hv⟩,hp⟩ hu)
 intro ha v hr;cases hr with
 |one h =>
  obtain⟨⟨i,hi,hb,hv⟩,hp⟩:=h;exact((inner v).1 (ha i hi hb v hv) hp).1
 |cons h hr =>
  rename_i u;obtain⟨⟨i,hi,hb,hv⟩,hp⟩:=h;exact(cp u).2.2.1 ((inner u).1 (ha i hi hb u hv) hp).2 v hr
theorem Qrn {h:List Nd}(hi:Gn f h=true)(hv:∀v:M.W,M.sat (Qp h) v):M.sat (Qp f) w:=by
 unfold Gn at hi;simp only [Bool.and_eq_true,beq_iff_eq]at hi;obtain⟨h13,hs,hs2⟩:=hi;generalize Ql f=z at hs hs2;generalize Jf f=c at h13 hs hs2;obtain⟨c0,e⟩:=Gr (M:=M) (w:=w) hs;obtain⟨cz,cc,e1⟩:=Fm (M:=M) (w:=w) c0;have hg:=Qqz cc (.inr h13);have all:∀v:M.W,M.sat (Qp z) v->∀i:Nat,i < 4->Fr (Qt c).g i=true->∀u,M.R (i:Int) v u->M.sat (Qp (Ql c)) u->M.sat (Qp (Jf c)) u/\M.sat (Qp z) u:=by
  intro v hz i hi hb u hu hp;obtain⟨d0,k⟩:=Gr (M:=M) (w:=v) hs2;obtain⟨_,d1,k1⟩:=Fm (M:=M) (w:=v) d0;obtain⟨d2,k2⟩:=Qyc (M:=M) (w:=v) hg d1;obtain⟨_,d3,k3⟩:=Fm (M:=M) (w:=u) d2;have h1:=k2.1 (k1.1 (k.1 (hv v)) hz) i hi hb u hu;exact(Qjc (M:=M) (w:=u) d3).2.2.1 (k3.1 h1 hp)
 rw [e,e1,(Qyr (M:=M) (w:=w) cc h13).2.2];intro hz v hr;have key:∀a b:M.W,Rch (M.step (Qt c).g (M.sat (Qp (Ql c)))) a b->M.sat (Qp z) a->M.sat (Qp (Jf c)) b:=by
  intro a b hr
  induction hr with
  |one h =>
   obtain⟨⟨i,hi,hb,hv⟩,hp⟩:=h;exact fun hz=>(all _ hz i hi hb _ hv hp).1
  |cons h _ ih =>
   obtain⟨⟨i,hi,hb,hv⟩,hp⟩:=h;exact fun hz=>ih (all _ hz i hi hb _ hv hp).2
 exact key w v hr hz
theorem Qmj {a b g:List Nd}(h:Yb b (Ya a g)=true)(ha:M.sat (Qp a) w)(hb:M.sat (Qp b) w):M.sat (Qp g) w:=by
 obtain⟨c0,e⟩:=Gr (M:=M) (w:=w) h;obtain⟨_,_,e1⟩:=Fm (M:=M) (w:=w) c0;exact e1.1 (e.1 hb) ha
theorem Qrr {i:Int}(hi:0<=i/\i < 4) {a:List Nd}(h:Yb f (Yy i a)=true)(ha:∀v:M.W,M.sat (Qp a) v):M.sat (Qp f) w:=by
 obtain⟨c0,e⟩:=Gr (M:=M) (w:=w) h;obtain⟨_,e1⟩:=Fh (M:=M) (w:=w) hi.1 hi.2 c0;exact e.2 (e1.2 fun v _=>ha v)
end
theorem Qbg {f:List Nd}(hc:Qs f=0)(ho:(Qt (Ql f)).op=11):1<=(Qt (Ql f)).g/\(Qt (Ql f)).g<=15:=by
 by_cases h4:4<=(Qt f).op
 ·have h21:=((Mx _).1 (Fz hc _ (List.mem_of_getElem? (Bp hc))).1).2;have hx:Qw (Qt f).op=true:=by unfold Qw;rw [decide_eq_true h4,decide_eq_true (by omega)];rfl
  exact Qqz (Cv hc hx).2.1 (.inl ho)
 have e:Ql f= []:=by unfold Ql;rw [decide_eq_false h4];rfl
 rw [e]at ho;cases ho
theorem Qd5(gn:Nat)(x:List Nd)(q:Nat)(l:List (List Nd))(hl:l=((List.range q).filterMap fun i=>bif Fr (gn:Int) i then some (i:Int)else none).map fun i=>Yy i x):
 (gn.testBit q=true->l++ [Yy (q:Int) x]=((List.range (q+1)).filterMap fun i=>bif Fr (gn:Int) i then some (i:Int)else none).map fun i=>Yy i x)/\
 (gn.testBit q=false->l=((List.range (q+1)).filterMap fun i=>bif Fr (gn:Int) i then some (i:Int)else none).map fun i=>Yy i x):=by
 subst hl;have e:Fr (gn:Int) q=gn.testBit q:=rfl;refine⟨fun h=> ?_,fun h=> ?_⟩
 ·rw [List.range_succ,List.filterMap_append,List.map_append];simp [e,h]
 rw [List.range_succ,List.filterMap_append,List.map_append];simp [e,h]
theorem Qjz {w:World} {v:Value} {f:List Nd}(h:Fml w v f)(hc:Qs f=0):
 Calls Tryz.prog 164 #[v] w fun e w'=>e=.returned (.bool (De f))/\Ext w w':=by
 have HC:=Qq hc;clear hc;obtain⟨iI,hiI,hzI0,hzI1,hzI2⟩:=info_parts Qfr;have HF:=Qq h;obtain⟨A,c,rfl,_⟩:=Qg h;clear h;go_enter Tryz.func164,Tryz.ntmps164;go_wp2_with fail;refine(Vl (HF.out.ext (xw))).mono ?_;rintro e w1 ⟨ua,ub,rfl,hx,h1,h2⟩;have S1:=Qq (show Ext w w1 from xt hx);have HA:=Qq h1;have HB:=Qq h2;obtain⟨AHA,cHA,rfl,_⟩:=Qg h1;obtain⟨AHB,cHB,rfl,_⟩:=Qg h2;clear hx h1 h2;unfold Nd.val;go_wp2_with fail;refine(Vl (HA.out.ext (xw))).mono ?_;rintro e w2 ⟨ua,ub,rfl,hx,h1,h2⟩;have S2:=Qq (show Ext w1 w2 from xt hx);have HP:=Qq h1;have HQ:=Qq h2;obtain⟨AHP,cHP,rfl,_⟩:=Qg h1
 obtain⟨AHQ,cHQ,rfl,_⟩:=Qg h2;clear hx h1 h2;unfold Nd.val;cases hop:((Qt (Ql f)).op !=11)
 case true =>
  have HE:=Qq (show De f=false by unfold De;rw [show((Qt (Ql f)).op==11)=false by simpa using hop];rfl);go_wp2_with fail;go_ret;exact⟨Qr HE.out.symm,(S1.out.trans S2.out).trans xw⟩
 obtain⟨W0,hW0⟩:∃z,z=w2.alloc (.cells #[.int .i64 (Qt (Ql f)).op,.int .i64 (Qt (Ql f)).i,.int .i64 (Qt (Ql f)).e,.int .i64 (Qt (Ql f)).g,.int .i64 (Qt (Ql f)).x,.int .i64 (Qt (Ql f)).y] 64):=⟨_,rfl⟩;have E0:=Qq (show Ext w2 W0 from by rw [hW0];exact Qz.alloc _);have B0:=Qq (show W0.heap[w2.heap.size]?=some (.cells #[.int .i64 (Qt (Ql f)).op,.int .i64 (Qt (Ql f)).i,.int .i64 (Qt (Ql f)).e,.int .i64 (Qt (Ql f)).g,.int .i64 (Qt (Ql f)).x,.int .i64 (Qt (Ql f)).y] 64 (0,0))from by rw [hW0];exact heap_alloc_new _ _);go_wp2_with fail
 rw [<-hW0];obtain⟨⟨z0,z1,z2,z3,z4,z5⟩,_,zlt⟩:=Zg B0.out;clear hW0;have HF0:=Qq (HF.out.ext ((S1.out.trans S2.out).trans E0.out));have HA0:=Qq (HA.out.ext ((S2.out).trans E0.out));have HP0:=Qq (HP.out.ext (E0.out));have hop2:(Qt (Ql f)).op=11:=by simpa using hop
 obtain⟨hg1,hg2⟩:=Qbg HC.out hop2;obtain⟨gn,hgn⟩:=Int.eq_ofNat_of_zero_le (show 0<=(Qt (Ql f)).g by omega);have hg16:gn < 16:=by omega
 have HE:=Qq (show De f=Yb f (Lo (Ql f) (Qqi ((([0,1,2,3]:List Nat).filterMap fun i=>bif Fr (gn:Int) i then some (i:Int)else none).map fun i=>Yy i (Ql (Ql f))))) by unfold De;rw [show((Qt (Ql f)).op==11)=true by simpa using hop2,<-hgn];rfl);have d3:W0.cell? ⟨w2.heap.size,3,none⟩=some (.int .i64 (gn:Int)):=by rw [z3,hgn]
 have D3:=Qq d3;obtain⟨sx,hsx⟩:∃z,z=Ql (Ql f):=⟨_,rfl⟩;rw [<-hsx]at HP0 HE;rw [<-hsx];clear hop2 hg1 hg2 hgn d3 z0 z1 z2 z3 z4 z5 hsx;go_loopw [9,10,26] (fun vo _ vi wr=>∃q:Nat,vi=.int .i64 (q:Int)/\q<=4/\Hid (∃ol,ol=((List.range q).filterMap fun i=>bif Fr (gn:Int) i then some (i:Int)else none).map (fun i=>Yy i sx)/\Ud W0 wr vo ol)) (fun _ _ v _=>4 - (intOf v).toNat)
 case atStart=>exact⟨0,rfl,Nat.zero_le _,Qq ⟨[],rfl,Ud.nil _⟩⟩
 case round =>
  obtain⟨q,rfl,hq,HREL⟩:=hrel;obtain⟨ol,hol',hfr⟩:=HREL.out;obtain⟨us2,hrow2,hus2⟩:=hfr.row;obtain⟨Ao2,co2,rfl⟩:=Zq hrow2;have HOL:=Qq (Qd5 gn sx q ol hol');have HOL0:=Qq hol';have HFR2:=Qq hfr;have HROW2:=Qq hrow2;have HUS2:=Qq hus2;have holen:ol.length<=4:=by rw [hol',List.length_map];refine Qx (List.length_filterMap_le _ _) (by simp;omega)
  clear HREL hol' hfr hrow2 hus2;have dl3:=(HFR2.out.ext.cell (p:=⟨w2.heap.size,3,none⟩) zlt).trans D3.out;by_cases hq4:q < 4
  ·have hq1:(q:Int) < 4:=by omega
   have hbt:=Hh gn q (by omega);cases hgb:gn.testBit q
   case true =>
    rw [hgb]at hbt;have HGB:=Qq (HOL.out.1 hgb);clear hgb;go_wp2_with fail;refine(Xn (q:Int) ⟨by omega,by omega⟩ _ sx _ (HP0.out.ext HFR2.out.ext)).mono ?_;rintro e w5 ⟨u,rfl,hm⟩;have HM:=Qq hm;have Y1:=Qq hm.ext;obtain⟨Au,cu,rfl,_⟩:=Qg hm.fml;clear hm;have hc3:ol.length+1<=maxLen:=by unfold maxLen;omega
    have hc4:(ol.length+1)*24<=140737488355328:=by omega
    go_wp2_with(at_builtin;refine wpList_append_own_at _ rfl _ _ 40 rfl W0.heap.size 31 iI (.slice none 0 0) 1 24 Tryz.underlying40 hiI hzI0 hzI1 hzI2 rfl (by decide) _ ol.length us2 rfl (Jt HROW2.out (Y1.out.alloc _)) ⟨_,0,none⟩ 1 1 [.slice Au (Yy (q:Int) sx).length cu] rfl rfl (Yv _ _ _ (by simp)) (fun u hu=>by rw [List.mem_singleton.1 hu];rfl) hc3 hc4 (Qx HFR2.out.ext.size (Y1.out.alloc _).size) ?_);intro v7 w7 hown7 hgrow7 _ hat7;have HPS:=Qq (Ud.push (s:=Yy (q:Int) sx) ((HFR2.out.ext.trans Y1.out).alloc _) (Jt HROW2.out (Y1.out.alloc _)) (fun k s hk=>by
     obtain⟨u,a,b,c⟩:=HUS2.out k s hk;exact⟨u,a,b.ext (Y1.out.alloc _),c.ext (Y1.out.alloc _)⟩) hown7 hgrow7 (hat7.imp id (fun e=>e.trans (by simp))) (HM.out.fml.ext (Qz.alloc _)) (Qym (Nat.le_refl _) (Jt HM.out.1 (Qz.alloc _)) HROW2.out HFR2.out.ext.size))
    obtain⟨A7,c7,rfl⟩:=Zq hown7;clear hown7 hgrow7 hat7;go_wp2_with fail;go_roundw
    case rel=>exact⟨q+1,by go_num,by omega,Qq ⟨_,HGB.out,HPS.out⟩⟩
    case measure=>simp [intOf];omega
   case false =>
    rw [hgb]at hbt;have HGB:=Qq (HOL.out.2 hgb);clear hgb;go_wp2_with fail;go_roundw
    case rel=>exact⟨q+1,by go_num,by omega,Qq ⟨_,HGB.out,HFR2.out⟩⟩
    case measure=>simp [intOf];omega
  obtain rfl:4=q:=by omega
  have HE2:=Qq (show De f=Yb f (Lo (Ql f) (Qqi ol)) by rw [HE.out,HOL0.out];rfl);go_wp2_with fail;refine(Qlm _ ol _ HFR2.out.fmls).mono ?_;rintro e w5 ⟨u,rfl,hm⟩;have S5:=Qq (HFR2.out.ext.trans hm.ext);have HL:=Qq hm.fml;obtain⟨AHL,cHL,rfl,_⟩:=Qg hm.fml;clear hm;go_wp2_with fail;refine(Qqd _ _ _ _ _ (HA0.out.ext S5.out) HL.out).mono ?_;rintro e w6 ⟨u,rfl,hm⟩;have S6:=Qq (S5.out.trans hm.ext);have HM:=Qq hm.fml;obtain⟨AHM,cHM,rfl,_⟩:=Qg hm.fml;clear hm;go_wp2_with fail;refine(Xz _ _ _ _ _ (HF0.out.ext S6.out) HM.out).mono ?_;rintro e w7 ⟨rfl,hx⟩;have S7:=Qq (S6.out.trans hx)
  clear hx;go_wp2_with fail;go_ret;exact⟨Qr HE2.out.symm,((S1.out.trans S2.out).trans E0.out).trans S7.out⟩
def Qh1:List Value:= [.func (.func 153) #[] #[],.func (.func 154) #[] #[],.func (.func 155) #[] #[],.func (.func 158) #[] #[],.func (.func 160) #[] #[],.func (.func 161) #[] #[],.func (.func 163) #[] #[],.func (.func 164) #[] #[],.func (.func 165) #[] #[]]
structure Pn (w:World):Prop where
 at_:∀j v,Qh1[j]?=some v->w.cell? ⟨0,j+1,none⟩=some v
theorem Pn.ext {w w':World}(h:Pn w)(he:Ext w w'):Pn w' :=
 ⟨fun j v hj=>(he.cell (p:=⟨0,j+1,none⟩) (World.block_lt_of_cell? _ _ (h.at_ j v hj))).trans (h.at_ j v hj)⟩
theorem Oo {f:List Nd}(hc:Qs f=0):Qf (Qf f)=Qf f:=by
 rw [Kt (Ke hc),Ky hc,Kt hc]
theorem Qn1 {w:World} {lg:Int} {v:Value} {f:List Nd}(h:Fml w v f)(hT:Pn w):
 Calls Tryz.prog 19 #[.int .i64 lg,v] w fun e w'=>e=.returned (.tuple #[.int .i64 (Rv lg f).1,.int .i64 (Rv lg f).2])/\Ext w w':=by
 have HF:=Qq h;have HT:=Qq hT;obtain⟨A,c0,rfl,_⟩:=Qg h;clear h hT;cases ht:Uy lg
 ·have HTH:=Qq ht;have HE:=Qq (show Rv lg f=(0,1) by unfold Rv;unfold Uy at ht;cases hb:(decide (lg < 0)||decide (6 < lg));(rw [hb]at ht;cases ht);rfl);clear ht;go_enter Tryz.func19,Tryz.ntmps19;go_wp2_with fail;refine(Tw lg _).mono ?_;rintro e w1 ⟨rfl,hx⟩;rw [HTH.out];have S1:=Qq hx;clear hx;go_wp2_with fail;go_ret2;exact⟨by rw [HE.out] <;> rfl,S1.out⟩
 have HTH:=Qq ht;have hlg:0<=lg/\lg<=6:=by
  unfold Uy at ht;rw [Bool.not_eq_true',Bool.or_eq_false_iff]at ht;have h1:=of_decide_eq_false ht.1;have h2:=of_decide_eq_false ht.2;omega
 have HLG:=Qq hlg;have HA:Hid (Rv lg f=bif Vv f !=0 then(0,Vv f)else(Vf lg (Qf f) 9 1,0)):=Qq (by unfold Rv;unfold Uy at ht;cases hb:(decide (lg < 0)||decide (6 < lg));rfl;(rw [hb]at ht;cases ht));obtain⟨fv,hfv⟩:∃z,z=Vv f:=⟨_,rfl⟩;have HFV:=Qq hfv;clear ht hlg hfv;go_enter Tryz.func19,Tryz.ntmps19;go_wp2_with fail;refine(Tw lg _).mono ?_;rintro e w1 ⟨rfl,hx⟩;rw [HTH.out];have S1:=Qq hx;clear hx;go_wp2_with fail;refine(Qzm (HF.out.ext S1.out)).mono ?_;rintro e w2 ⟨rfl,hx⟩;rw [<-HFV.out];have S2:=Qq (S1.out.trans hx);clear hx;by_cases h0:fv=0
 ·subst h0;have hck:Qs f=0:=by
   have h:=HFV.out;unfold Vv at h;cases e:Qs f !=0
   ·simpa using e
   rw [e,cond_true]at h;exact h.symm
  go_wp2_with fail;refine(Vy _ f _ (HF.out.ext S2.out)).mono ?_;rintro e w3 ⟨u,rfl,hm⟩;have S3:=Qq (S2.out.trans hm.ext);have HCF:=Qq hm.fml;have HCK:=Qq (Ke hck);have HC2:=Qq (Oo hck);have HE:=Qq (show Rv lg f=(Vf lg (Qf f) 9 1,0) by rw [HA.out,<-HFV.out];rfl);obtain⟨c,hc⟩:∃z,z=Qf f:=⟨_,rfl⟩;rw [<-hc]at HCF HCK HC2 HE hm;obtain⟨Ac,cc,rfl,_⟩:=Qg hm.fml;clear hm hc hck;go_wp2_with fail;go_loopw [8] (fun vi wr=>∃k:Nat,vi=.int .i64 ((k:Int)+1)/\k<=9/\Hid (Vf lg c 9 1=Vf lg c (9 - k) ((k:Int)+1))/\Hid (Ext w3 wr)) (fun v _=>10 - (intOf v).toNat)
  case atStart=>exact⟨0,rfl,Nat.zero_le _,Qq rfl,Qq Qz⟩
  case round =>
   obtain⟨k,rfl,hk,HG,HX⟩:=hrel;have HFR:=Qq (HCF.out.ext HX.out);have SR:=Qq (S3.out.trans HX.out);by_cases hlt2:k < 9
   ·have hk1:(k:Int)+1<=9:=by omega
    have HST:=Qq (show Vf lg c 9 1=bif Vo lg ((k:Int)+1)&&Vn ((k:Int)+1) c then(k:Int)+1 else Vf lg c (9 - (k+1)) ((k:Int)+1+1) by rw [HG.out,show 9 - k=(9 - (k+1))+1 by omega];rfl);cases hh:Vo lg ((k:Int)+1)
    ·have HH:=Qq hh;have HN:=Qq (show Vf lg c 9 1=Vf lg c (9 - (k+1)) ((k:Int)+1+1) by rw [HST.out,hh];rfl);clear hh;go_wp2_with fail;refine(Gd lg ((k:Int)+1) HLG.out.1 HLG.out.2 _).mono ?_;rintro e w4 ⟨rfl,hx⟩;rw [HH.out];have HX4:=Qq (HX.out.trans hx);clear hx;go_wp2_with fail;go_roundw
     case rel=>exact⟨k+1,by go_num,by omega,Qq (by rw [HN.out];rfl),HX4⟩
     case measure=>simp [intOf];omega
    have HH:=Qq hh;clear hh;rcases(show k=0\/k=1\/k=2\/k=3\/k=4\/k=5\/k=6\/k=7\/k=8 by omega)with rfl|rfl|rfl|rfl|rfl|rfl|rfl|rfl|rfl
    ·go_wp2_with fail;refine(Gd lg _ HLG.out.1 HLG.out.2 _).mono ?_;rintro e w4 ⟨rfl,hx⟩;rw [show Vo lg 1=true from HH.out];have S4:=Qq (HX.out.trans hx);have g1:=((HT.out.ext S3.out).ext S4.out).at_ 0 _ rfl;have HF4:=Qq (HFR.out.ext hx);obtain⟨bv,hbv⟩:∃z,z=Bj c:=⟨_,rfl⟩;have HB:=Qq hbv;clear hx hbv;go_wp2_with fail;refine(Qj7 HF4.out HCK.out).mono ?_;rintro e w5 ⟨rfl,hx⟩;rw [HC2.out,<-HB.out];have S5:=Qq (S4.out.trans hx);clear hx g1;cases bv
     ·have HN:=Qq (show Vf lg c 9 1=Vf lg c 8 2 by rw [HST.out];rw [show Vn (((0:Nat):Int)+1) c=false from HB.out.symm,Bool.and_false];rfl);go_wp2_with fail;go_roundw
      case rel=>exact⟨1,by go_num,by omega,Qq HN.out,S5⟩
      case measure=>simp [intOf]
     have HN:=Qq (show Vf lg c 9 1=1 by rw [HST.out];rw [show Vn (((0:Nat):Int)+1) c=true from HB.out.symm,show Vo lg (((0:Nat):Int)+1)=true from HH.out];rfl);go_wp2_with fail;go_ret2;exact⟨by rw [HE.out,HN.out] <;> rfl,S3.out.trans S5.out⟩
    ·go_wp2_with fail;refine(Gd lg _ HLG.out.1 HLG.out.2 _).mono ?_;rintro e w4 ⟨rfl,hx⟩;rw [show Vo lg 2=true from HH.out];have S4:=Qq (HX.out.trans hx);have g1:=((HT.out.ext S3.out).ext S4.out).at_ 1 _ rfl;have HF4:=Qq (HFR.out.ext hx);obtain⟨bv,hbv⟩:∃z,z=Rb c:=⟨_,rfl⟩;have HB:=Qq hbv;clear hx hbv;go_wp2_with fail;refine(Qk0 HF4.out).mono ?_;rintro e w5 ⟨rfl,hx⟩;rw [<-HB.out];have S5:=Qq (S4.out.trans hx);clear hx g1;cases bv
     ·have HN:=Qq (show Vf lg c 9 1=Vf lg c 7 3 by rw [HST.out];rw [show Vn (((1:Nat):Int)+1) c=false from HB.out.symm,Bool.and_false];rfl);go_wp2_with fail;go_roundw
      case rel=>exact⟨2,by go_num,by omega,Qq HN.out,S5⟩
      case measure=>simp [intOf]
     have HN:=Qq (show Vf lg c 9 1=2 by rw [HST.out];rw [show Vn (((1:Nat):Int)+1) c=true from HB.out.symm,show Vo lg (((1:Nat):Int)+1)=true from HH.out];rfl);go_wp2_with fail;go_ret2;exact⟨by rw [HE.out,HN.out] <;> rfl,S3.out.trans S5.out⟩
    ·go_wp2_with fail;refine(Gd lg _ HLG.out.1 HLG.out.2 _).mono ?_;rintro e w4 ⟨rfl,hx⟩;rw [show Vo lg 3=true from HH.out];have S4:=Qq (HX.out.trans hx);have g1:=((HT.out.ext S3.out).ext S4.out).at_ 2 _ rfl;have HF4:=Qq (HFR.out.ext hx);obtain⟨bv,hbv⟩:∃z,z=Jr toT c:=⟨_,rfl⟩;have HB:=Qq hbv;clear hx hbv;go_wp2_with fail;refine(Qfn HF4.out).mono ?_;rintro e w5 ⟨rfl,hx⟩;rw [<-HB.out];have S5:=Qq (S4.out.trans hx);clear hx g1;cases bv
     ·have HN:=Qq (show Vf lg c 9 1=Vf lg c 6 4 by rw [HST.out];rw [show Vn (((2:Nat):Int)+1) c=false from HB.out.symm,Bool.and_false];rfl);go_wp2_with fail;go_roundw
      case rel=>exact⟨3,by go_num,by omega,Qq HN.out,S5⟩
      case measure=>simp [intOf]
     have HN:=Qq (show Vf lg c 9 1=3 by rw [HST.out];rw [show Vn (((2:Nat):Int)+1) c=true from HB.out.symm,show Vo lg (((2:Nat):Int)+1)=true from HH.out];rfl);go_wp2_with fail;go_ret2;exact⟨by rw [HE.out,HN.out] <;> rfl,S3.out.trans S5.out⟩
    ·go_wp2_with fail;refine(Gd lg _ HLG.out.1 HLG.out.2 _).mono ?_;rintro e w4 ⟨rfl,hx⟩;rw [show Vo lg 4=true from HH.out];have S4:=Qq (HX.out.trans hx);have g1:=((HT.out.ext S3.out).ext S4.out).at_ 3 _ rfl;have HF4:=Qq (HFR.out.ext hx);obtain⟨bv,hbv⟩:∃z,z=Jr to4 c:=⟨_,rfl⟩;have HB:=Qq hbv;clear hx hbv;go_wp2_with fail;refine(Qfv HF4.out).mono ?_;rintro e w5 ⟨rfl,hx⟩;rw [<-HB.out];have S5:=Qq (S4.out.trans hx);clear hx g1;cases bv
     ·have HN:=Qq (show Vf lg c 9 1=Vf lg c 5 5 by rw [HST.out];rw [show Vn (((3:Nat):Int)+1) c=false from HB.out.symm,Bool.and_false];rfl);go_wp2_with fail;go_roundw
      case rel=>exact⟨4,by go_num,by omega,Qq HN.out,S5⟩
      case measure=>simp [intOf]
     have HN:=Qq (show Vf lg c 9 1=4 by rw [HST.out];rw [show Vn (((3:Nat):Int)+1) c=true from HB.out.symm,show Vo lg (((3:Nat):Int)+1)=true from HH.out];rfl);go_wp2_with fail;go_ret2;exact⟨by rw [HE.out,HN.out] <;> rfl,S3.out.trans S5.out⟩
    ·go_wp2_with fail;refine(Gd lg _ HLG.out.1 HLG.out.2 _).mono ?_;rintro e w4 ⟨rfl,hx⟩;rw [show Vo lg 5=true from HH.out];have S4:=Qq (HX.out.trans hx);have g1:=((HT.out.ext S3.out).ext S4.out).at_ 4 _ rfl;have HF4:=Qq (HFR.out.ext hx);obtain⟨bv,hbv⟩:∃z,z=Rr c:=⟨_,rfl⟩;have HB:=Qq hbv;clear hx hbv;go_wp2_with fail;refine(Qyv HF4.out).mono ?_;rintro e w5 ⟨rfl,hx⟩;rw [<-HB.out];have S5:=Qq (S4.out.trans hx);clear hx g1;cases bv
     ·have HN:=Qq (show Vf lg c 9 1=Vf lg c 4 6 by rw [HST.out];rw [show Vn (((4:Nat):Int)+1) c=false from HB.out.symm,Bool.and_false];rfl);go_wp2_with fail;go_roundw
      case rel=>exact⟨5,by go_num,by omega,Qq HN.out,S5⟩
      case measure=>simp [intOf]
     have HN:=Qq (show Vf lg c 9 1=5 by rw [HST.out];rw [show Vn (((4:Nat):Int)+1) c=true from HB.out.symm,show Vo lg (((4:Nat):Int)+1)=true from HH.out];rfl);go_wp2_with fail;go_ret2;exact⟨by rw [HE.out,HN.out] <;> rfl,S3.out.trans S5.out⟩
    ·go_wp2_with fail;refine(Gd lg _ HLG.out.1 HLG.out.2 _).mono ?_;rintro e w4 ⟨rfl,hx⟩;rw [show Vo lg 6=true from HH.out];have S4:=Qq (HX.out.trans hx);have g1:=((HT.out.ext S3.out).ext S4.out).at_ 5 _ rfl;have HF4:=Qq (HFR.out.ext hx);obtain⟨bv,hbv⟩:∃z,z=Jr toD c:=⟨_,rfl⟩;have HB:=Qq hbv;clear hx hbv;go_wp2_with fail;refine(Qg7 HF4.out).mono ?_;rintro e w5 ⟨rfl,hx⟩;rw [<-HB.out];have S5:=Qq (S4.out.trans hx);clear hx g1;cases bv
     ·have HN:=Qq (show Vf lg c 9 1=Vf lg c 3 7 by rw [HST.out];rw [show Vn (((5:Nat):Int)+1) c=false from HB.out.symm,Bool.and_false];rfl);go_wp2_with fail;go_roundw
      case rel=>exact⟨6,by go_num,by omega,Qq HN.out,S5⟩
      case measure=>simp [intOf]
     have HN:=Qq (show Vf lg c 9 1=6 by rw [HST.out];rw [show Vn (((5:Nat):Int)+1) c=true from HB.out.symm,show Vo lg (((5:Nat):Int)+1)=true from HH.out];rfl);go_wp2_with fail;go_ret2;exact⟨by rw [HE.out,HN.out] <;> rfl,S3.out.trans S5.out⟩
    ·go_wp2_with fail;refine(Gd lg _ HLG.out.1 HLG.out.2 _).mono ?_;rintro e w4 ⟨rfl,hx⟩;rw [show Vo lg 7=true from HH.out];have S4:=Qq (HX.out.trans hx);have g1:=((HT.out.ext S3.out).ext S4.out).at_ 6 _ rfl;have HF4:=Qq (HFR.out.ext hx);obtain⟨bv,hbv⟩:∃z,z=Lg c:=⟨_,rfl⟩;have HB:=Qq hbv;clear hx hbv;go_wp2_with fail;refine(Qyj HF4.out).mono ?_;rintro e w5 ⟨rfl,hx⟩;rw [<-HB.out];have S5:=Qq (S4.out.trans hx);clear hx g1;cases bv
     ·have HN:=Qq (show Vf lg c 9 1=Vf lg c 2 8 by rw [HST.out];rw [show Vn (((6:Nat):Int)+1) c=false from HB.out.symm,Bool.and_false];rfl);go_wp2_with fail;go_roundw
      case rel=>exact⟨7,by go_num,by omega,Qq HN.out,S5⟩
      case measure=>simp [intOf]
     have HN:=Qq (show Vf lg c 9 1=7 by rw [HST.out];rw [show Vn (((6:Nat):Int)+1) c=true from HB.out.symm,show Vo lg (((6:Nat):Int)+1)=true from HH.out];rfl);go_wp2_with fail;go_ret2;exact⟨by rw [HE.out,HN.out] <;> rfl,S3.out.trans S5.out⟩
    ·go_wp2_with fail;refine(Gd lg _ HLG.out.1 HLG.out.2 _).mono ?_;rintro e w4 ⟨rfl,hx⟩;rw [show Vo lg 8=true from HH.out];have S4:=Qq (HX.out.trans hx);have g1:=((HT.out.ext S3.out).ext S4.out).at_ 7 _ rfl;have HF4:=Qq (HFR.out.ext hx);obtain⟨bv,hbv⟩:∃z,z=De c:=⟨_,rfl⟩;have HB:=Qq hbv;clear hx hbv;go_wp2_with fail;refine(Qjz HF4.out HCK.out).mono ?_;rintro e w5 ⟨rfl,hx⟩;rw [<-HB.out];have S5:=Qq (S4.out.trans hx);clear hx g1;cases bv
     ·have HN:=Qq (show Vf lg c 9 1=Vf lg c 1 9 by rw [HST.out];rw [show Vn (((7:Nat):Int)+1) c=false from HB.out.symm,Bool.and_false];rfl);go_wp2_with fail;go_roundw
      case rel=>exact⟨8,by go_num,by omega,Qq HN.out,S5⟩
      case measure=>simp [intOf]
     have HN:=Qq (show Vf lg c 9 1=8 by rw [HST.out];rw [show Vn (((7:Nat):Int)+1) c=true from HB.out.symm,show Vo lg (((7:Nat):Int)+1)=true from HH.out];rfl);go_wp2_with fail;go_ret2;exact⟨by rw [HE.out,HN.out] <;> rfl,S3.out.trans S5.out⟩
    go_wp2_with fail;refine(Gd lg _ HLG.out.1 HLG.out.2 _).mono ?_;rintro e w4 ⟨rfl,hx⟩;rw [show Vo lg 9=true from HH.out];have S4:=Qq (HX.out.trans hx);have g1:=((HT.out.ext S3.out).ext S4.out).at_ 8 _ rfl;have HF4:=Qq (HFR.out.ext hx);obtain⟨bv,hbv⟩:∃z,z=Ry c:=⟨_,rfl⟩;have HB:=Qq hbv;clear hx hbv;go_wp2_with fail;refine(Qj6 HF4.out).mono ?_;rintro e w5 ⟨rfl,hx⟩;rw [<-HB.out];have S5:=Qq (S4.out.trans hx);clear hx g1;cases bv
    ·have HN:=Qq (show Vf lg c 9 1=Vf lg c 0 10 by rw [HST.out];rw [show Vn (((8:Nat):Int)+1) c=false from HB.out.symm,Bool.and_false];rfl);go_wp2_with fail;go_roundw
     case rel=>exact⟨9,by go_num,by omega,Qq HN.out,S5⟩
     case measure=>simp [intOf]
    have HN:=Qq (show Vf lg c 9 1=9 by rw [HST.out];rw [show Vn (((8:Nat):Int)+1) c=true from HB.out.symm,show Vo lg (((8:Nat):Int)+1)=true from HH.out];rfl);go_wp2_with fail;go_ret2;exact⟨by rw [HE.out,HN.out] <;> rfl,S3.out.trans S5.out⟩
   obtain rfl:k=9:=by omega
   have HN:=Qq (show Vf lg c 9 1=0 from HG.out);go_wp2_with fail;go_ret2;exact⟨by rw [HE.out,HN.out] <;> rfl,SR.out⟩
 have hn:(fv !=0)=true:=by simpa using h0
 have HE:=Qq (show Rv lg f=(0,fv) by rw [HA.out,<-HFV.out,hn];rfl);clear h0;go_wp2_with fail;go_ret2;exact⟨by rw [HE.out] <;> rfl,S2.out⟩
end Go.Proofs.YtmidgcldljfkcaaGreatDoor
