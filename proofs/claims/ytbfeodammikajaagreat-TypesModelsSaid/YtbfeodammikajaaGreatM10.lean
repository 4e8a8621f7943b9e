/- The expansion of a formula, by trees. -/
import Derived.Test.YtbfeodammikajaaGreatM01
import Derived.Test.YtbfeodammikajaaGreatM09
namespace Go.Proofs.YtbfeodammikajaaGreat
set_option maxRecDepth 100000
set_option maxHeartbeats 128000000
def andsT:Tr->List Tr->Tr
 |t,[]=>t
 |t,u :: r=>andsT (.two ⟨5,0,0,0,0,0⟩ t u) r
def allT:List Tr->Tr
 |[]=> .leaf ⟨1,0,0,0,0,0⟩
 |t :: r=>andsT t r
def everyT(g:Int)(a:Tr):List Tr:=((List.range 4).filter fun i=>gbit g i).map fun(i:Nat)=> .one ⟨9,i,0,0,0,0⟩ a
def expM(n:Nd)(a b:Tr):Tr :=
 if n.op=10 then .one ⟨4,0,0,0,0,0⟩ (.one ⟨9,n.i,0,0,0,0⟩ (.one ⟨4,0,0,0,0,0⟩ a))
 else if n.op=11 then allT (everyT n.g a)
 else mkTr n a b
def expT:Tr->Tr
 |.leaf n=> .leaf n
 |.one n a=>if n.op=10 then .one ⟨4,0,0,0,0,0⟩ (.one ⟨9,n.i,0,0,0,0⟩ (.one ⟨4,0,0,0,0,0⟩ (expT a)))else if n.op=11 then allT (everyT n.g (expT a))else .one n (expT a)
 |.two n a b=> .two n (expT a) (expT b)
theorem expT_mk(n:Nd)(a b:Tr):expT (mkTr n a b)=expM n (expT a) (expT b):=by
 unfold mkTr expM;cases h2:hasY n.op
 ·cases h1:hasX n.op
  ·have h10:n.op≠10:=fun e=>by rw [e]at h1;cases h1
   have h11:n.op≠11:=fun e=>by rw [e]at h1;cases h1
   rw [if_neg h10,if_neg h11];unfold mkTr;rw [h1,h2];rfl
  unfold mkTr;rw [h1,h2];simp only [cond_false,cond_true,expT,head_op];rfl
 have h10:n.op≠10:=fun e=>by rw [e]at h2;cases h2
 have h11:n.op≠11:=fun e=>by rw [e]at h2;cases h2
 rw [if_neg h10,if_neg h11];unfold mkTr;rw [h2];rfl
section
variable {M:KM}
theorem sat_ands:∀(r:List Tr) (t:Tr) (w:M.W),M.sat (andsT t r) w↔M.sat t w/\∀u∈r,M.sat u w
 |[],t,w=>by simp [andsT]
 |u :: r,t,w=>by
  rw [andsT,sat_ands r,sat_and];simp only [List.mem_cons,forall_eq_or_imp];exact and_assoc
theorem sat_all(l:List Tr)(w:M.W):M.sat (allT l) w↔∀u∈l,M.sat u w:=by
 cases l with
 |nil=>simp [allT,KM.sat]
 |cons t r=>rw [allT,sat_ands];simp
theorem sat_every(g:Int)(a:Tr)(w:M.W):M.sat (allT (everyT g a)) w↔∀i:Nat,i < 4->gbit g i=true->∀v,M.R (i:Int) w v->M.sat a v:=by
 rw [sat_all];unfold everyT;constructor
 ·intro h i hi hg v hv;exact(sat_know rfl).1 (h (.one ⟨9,i,0,0,0,0⟩ a) (List.mem_map.2 ⟨i,List.mem_filter.2 ⟨List.mem_range.2 hi,hg⟩,rfl⟩)) v hv
 intro h u hu;obtain⟨i,hi,rfl⟩:=List.mem_map.1 hu;obtain⟨h1,h2⟩:=List.mem_filter.1 hi;rw [sat_know rfl];exact h i (List.mem_range.1 h1) h2
theorem sat_not {a:Tr} {w:M.W} :M.sat (.one ⟨4,0,0,0,0,0⟩ a) w↔¬M.sat a w:=by simp [KM.sat]
theorem sat_exp:∀(t:Tr) (w:M.W),M.sat (expT t) w↔M.sat t w
 |.leaf n,w=>Iff.rfl
 |.one n a,w=>by
  have ih:=sat_exp a;unfold expT;by_cases h10:n.op=10
  ·rw [if_pos h10,sat_not,sat_know rfl];simp only [ih,KM.sat,h10,show ¬(10:Int)=4 by decide,show ¬(10:Int)=9 by decide,if_false,if_true];constructor
   ·intro h;obtain⟨v,hv⟩:=Classical.not_forall.1 h;obtain⟨h1,h2⟩:=Classical.not_imp.1 hv;exact⟨v,h1,Classical.not_not.1 h2⟩
   rintro⟨v,h1,h2⟩ h;exact h v h1 h2
  rw [if_neg h10];by_cases h11:n.op=11
  ·rw [if_pos h11,sat_every];simp only [ih,KM.sat,h11,show ¬(11:Int)=4 by decide,show ¬(11:Int)=9 by decide,show ¬(11:Int)=10 by decide,if_false,if_true]
  rw [if_neg h11];simp only [KM.sat,ih,h10,h11,if_false]
 |.two n a b,w=>by
  have iha:M.sat (expT a)=M.sat a:=funext fun v=>propext (sat_exp a v)
  have ihb:M.sat (expT b)=M.sat b:=funext fun v=>propext (sat_exp b v)
  simp only [expT,KM.sat,iha,ihb]
end
def Hd(t:Tr):Prop:=t.ok/\t.all headOk
section
variable {n:Nd} {s t u:Tr}
theorem Hd.wf(h:Hd t):Wf (canon t):=canon_wf h.1
theorem Hd.check(h:Hd t)(hl:(canon t).length<=200):check (canon t)=0:=by
 have hp:=canon_pos h.1;exact check_of (by intro e;rw [e]at hp;simp at hp) hl h.wf (fun n hn=>ins_all (fun _ k1 k2 h=>h.with_ k1 k2) t [] h.2 (fun n hn=>by cases hn) n hn)
theorem Hd.one(h1:hasX n.op=true)(h2:hasY n.op=false)(hh:headOk n)(hn:n.head=n)(hs:Hd s):Hd (.one n s):=⟨⟨h1,h2,hn,hs.1⟩,hh,hs.2⟩
theorem Hd.two(h1:hasX n.op=true)(h2:hasY n.op=true)(hh:headOk n)(hn:n.head=n)(hs:Hd s)(ht:Hd t):Hd (.two n s t):=⟨⟨h1,h2,hn,hs.1,ht.1⟩,hh,hs.2,ht.2⟩
theorem hsh1(hs:Hd s)(h1:hasX n.op=true)(h2:hasY n.op=false)(hh:headOk n)(hn:n.head=n):buildN n [shortT s]=shortT (.one n s):=by
 have ho:(Tr.one n s).ok:=⟨h1,h2,hn,hs.1⟩;by_cases hl:(canon s).length<=200
 ·rw [short_fit hl,build_oneS (hs.check hl) h1 h2 hh,hn,treeOf_canon hs.1]
 have:=one_len ho;rw [short_long (t:=s) (by omega),short_long (t:=.one n s) (by omega),build_bad1 check_nil']
theorem hsh2(hs:Hd s)(ht:Hd t)(h1:hasX n.op=true)(h2:hasY n.op=true)(hh:headOk n)(hn:n.head=n):buildN n [shortT s,shortT t]=shortT (.two n s t):=by
 have ho:(Tr.two n s t).ok:=⟨h1,h2,hn,hs.1,ht.1⟩;have hlen:=two_len ho;by_cases hl:(canon s).length<=200
 ·by_cases hm:(canon t).length<=200
  ·rw [short_fit hl,short_fit hm,build_twoS (hs.check hl) (ht.check hm) h1 h2 hh,hn,treeOf_canon hs.1,treeOf_canon ht.1]
  rw [short_long (t:=t) (by omega),short_long (t:=.two n s t) (by omega),build_bad2 (.inr check_nil')]
 rw [short_long (t:=s) (by omega),short_long (t:=.two n s t) (by omega),build_bad2 (.inl check_nil')]
end
theorem comp_short {s:Tr}(hs:Hd s):compactN (shortT s)=shortT s:=by
 by_cases hl:(canon s).length<=200
 ·rw [short_fit hl,compactN_tree (hs.check hl),treeOf_canon hs.1]
 rw [short_long (by omega),compactN_bad check_nil']
theorem comp_canon {s:Tr}(hs:Hd s)(hl:(canon s).length<=200):compactN (canon s)=canon s:=by
 rw [compactN_tree (hs.check hl),treeOf_canon hs.1]
theorem head_k(k:Int)(hk:k=5\/k=7):headOk ⟨k,0,0,0,0,0⟩:=by rcases hk with rfl|rfl <;> exact⟨rfl,rfl,rfl,fun _=>rfl,fun _=>rfl⟩
theorem head_4:headOk ⟨4,0,0,0,0,0⟩:=⟨rfl,rfl,rfl,fun _=>rfl,fun _=>rfl⟩
theorem head_9 {i:Int}(h0:0<=i)(h1:i < 4):headOk ⟨9,i,0,0,0,0⟩:=by
 refine⟨rfl,by simp [formBad,hasFact,hasAgent,hasEvent,hasGroup],?_,fun _=>rfl,fun _=>rfl⟩;simp [rangeBad,outsideB,hasFact,hasAgent,hasEvent,hasGroup];omega
theorem hd_not {s:Tr}(hs:Hd s):Hd (.one ⟨4,0,0,0,0,0⟩ s):=hs.one rfl rfl head_4 rfl
theorem hd_know {i:Int}(h0:0<=i)(h1:i < 4) {s:Tr}(hs:Hd s):Hd (.one ⟨9,i,0,0,0,0⟩ s):=hs.one rfl rfl (head_9 h0 h1) rfl
theorem hd_and {s t:Tr}(hs:Hd s)(ht:Hd t):Hd (.two ⟨5,0,0,0,0,0⟩ s t):=hs.two rfl rfl (head_k 5 (by omega)) rfl ht
theorem hd_imp {s t:Tr}(hs:Hd s)(ht:Hd t):Hd (.two ⟨7,0,0,0,0,0⟩ s t):=hs.two rfl rfl (head_k 7 (by omega)) rfl ht
theorem hd_true:Hd (.leaf ⟨1,0,0,0,0,0⟩):=⟨⟨rfl,rfl⟩,rfl,rfl,rfl,fun _=>rfl,fun _=>rfl⟩
theorem ands_short:∀(r:List Tr) (t:Tr),Hd t->(∀u∈r,Hd u)->(r.map shortT).foldl andN (shortT t)=shortT (andsT t r)/\Hd (andsT t r)
 |[],t,ht,_=>⟨rfl,ht⟩
 |u :: r,t,ht,hr=>by
  have hu:=hr u (List.mem_cons_self ..);rw [List.map_cons,List.foldl_cons,show andN (shortT t) (shortT u)=shortT (.two ⟨5,0,0,0,0,0⟩ t u)from hsh2 ht hu rfl rfl (head_k 5 (by omega)) rfl];exact ands_short r _ (hd_and ht hu) (fun v hv=>hr v (List.mem_cons_of_mem _ hv))
theorem all_short(l:List Tr)(hl:∀u∈l,Hd u):allN (l.map shortT)=shortT (allT l)/\Hd (allT l):=by
 cases l with
 |nil=>exact⟨by rw [List.map_nil,allN,conjN,true_list,allT,short_fit (by rw [canon_leaf];simp),canon_leaf],hd_true⟩
 |cons t r =>
  have ht:=hl t (List.mem_cons_self ..);rw [List.map_cons,allN,conjN,comp_short ht];exact ands_short r t ht (fun v hv=>hl v (List.mem_cons_of_mem _ hv))
theorem every_short {g:Int} {a:Tr}(ha:Hd a):everyL g (shortT a)=(everyT g a).map shortT/\∀u∈everyT g a,Hd u:=by
 have hi:∀i∈(List.range 4).filter (fun i=>gbit g i),i < 4:=fun i h=>List.mem_range.1 (List.mem_filter.1 h).1
 constructor
 ·unfold everyL everyT;rw [List.map_map];refine List.map_congr_left fun i h=> ?_
  exact hsh1 ha rfl rfl (head_9 (by omega) (by have:=hi i h;omega)) rfl
 intro u hu;obtain⟨i,h,rfl⟩:=List.mem_map.1 hu;exact hd_know (by omega) (by have:=hi i h;omega) ha
def tyOp(op:Int):Prop:=(1<=op/\op<=11)\/op=13
theorem bare0 {n:Nd}(h:headOk n)(hk:n.op=1\/n.op=2\/n.op=4\/n.op=5\/n.op=6\/n.op=7\/n.op=8):n.head=⟨n.op,0,0,0,0,0⟩:=by
 obtain⟨op,i,e,g,x,y⟩:=n;obtain⟨_,h2,_,h4,h5⟩:=h;unfold formBad at h2;simp only at hk;rcases hk with rfl|rfl|rfl|rfl|rfl|rfl|rfl <;>(simp [hasFact,hasAgent,hasEvent,hasGroup]at h2;obtain⟨⟨a,b⟩,c⟩:=h2;simp [hasX,hasY]at h4 h5;simp [Nd.head,Nd.with_,hasX,hasY,a,b,c];try first|exact⟨h4,h5⟩|exact h5)
theorem barei {n:Nd}(h:headOk n)(hk:n.op=3\/n.op=9):n.head=⟨n.op,n.i,0,0,0,0⟩:=by
 obtain⟨op,i,e,g,x,y⟩:=n;obtain⟨_,h2,_,h4,h5⟩:=h;unfold formBad at h2;simp only at hk;rcases hk with rfl|rfl <;>(simp [hasFact,hasAgent,hasEvent,hasGroup]at h2;obtain⟨b,c⟩:=h2;simp [hasX,hasY]at h4 h5;simp [Nd.head,Nd.with_,hasX,hasY,b,c];try first|exact⟨h4,h5⟩|exact h5)
theorem bareg {n:Nd}(h:headOk n)(hk:n.op=13):n.head=⟨n.op,0,0,n.g,0,0⟩:=by
 obtain⟨op,i,e,g,x,y⟩:=n;obtain⟨_,h2,_,h4,h5⟩:=h;unfold formBad at h2;simp only at hk;subst hk;simp [hasFact,hasAgent,hasEvent,hasGroup]at h2;obtain⟨a,b⟩:=h2;simp [Nd.head,Nd.with_,hasX,hasY,a,b]
theorem agent_of {n:Nd}(h:headOk n)(hk:n.op=9\/n.op=10):0<=n.i/\n.i < 4:=by
 obtain⟨_,_,h3,_,_⟩:=h;unfold rangeBad at h3;rcases hk with ho|ho <;>(rw [ho]at h3;simp [outsideB,hasFact,hasAgent,hasEvent,hasGroup]at h3;omega)
theorem headOk.head {n:Nd}(h:headOk n):headOk n.head:=h.with_ 0 0
theorem head_leaf {n:Nd}(h1:hasX n.op=false)(h2:hasY n.op=false):n.head=n:=with_leaf h1 h2 0 0
theorem expS_short {n:Nd} {a b:Tr}(hn:headOk n)(ho:tyOp n.op)(ha:hasX n.op=true->Hd a)(hb:hasY n.op=true->Hd b):expS n (shortT a) (shortT b)=shortT (expM n a b)/\Hd (expM n a b):=by
 have hop:n.op=1\/n.op=2\/n.op=3\/n.op=4\/n.op=5\/n.op=6\/n.op=7\/n.op=8\/n.op=9\/n.op=10\/n.op=11\/n.op=13:=by unfold tyOp at ho;omega
 have leafc:∀m:Nd,shortT (.leaf m)= [m]:=fun m=>by rw [short_fit (by rw [canon_leaf];simp),canon_leaf]
 have hX:∀{k:Int},n.op=k->hasX k=true->hasX n.op=true:=fun h k=>by rw [h];exact k
 have hY:∀{k:Int},n.op=k->hasY k=true->hasY n.op=true:=fun h k=>by rw [h];exact k
 have nX:∀{k:Int},n.op=k->hasX k=false->hasX n.op=false:=fun h k=>by rw [h];exact k
 have nY:∀{k:Int},n.op=k->hasY k=false->hasY n.op=false:=fun h k=>by rw [h];exact k
 have m0:∀{k:Int},n.op=k->hasX k=false->hasY k=false->k≠10->k≠11->expM n a b=.leaf n:=fun h h1 h2 h3 h4=>by
  unfold expM mkTr;rw [if_neg (by omega),if_neg (by omega),nX h h1,nY h h2];rfl
 have m1:∀{k:Int},n.op=k->hasX k=true->hasY k=false->k≠10->k≠11->expM n a b=.one n.head a:=fun h h1 h2 h3 h4=>by
  unfold expM mkTr;rw [if_neg (by omega),if_neg (by omega),hX h h1,nY h h2];rfl
 have m2:∀{k:Int},n.op=k->hasY k=true->k≠10->k≠11->expM n a b=.two n.head a b:=fun h h2 h3 h4=>by
  unfold expM mkTr;rw [if_neg (by omega),if_neg (by omega),hY h h2];rfl
 have two:∀{m:Nd},n.head=m->hasX m.op=true->hasY m.op=true->Hd a->Hd b->buildN m [shortT a,shortT b]=shortT (.two n.head a b)/\Hd (.two n.head a b):=fun {m} e h1 h2 h3 h4=>by
  subst e;exact⟨hsh2 h3 h4 h1 h2 hn.head (head_head n),h3.two h1 h2 hn.head (head_head n) h4⟩
 have one:∀{m:Nd},n.head=m->hasX m.op=true->hasY m.op=false->Hd a->buildN m [shortT a]=shortT (.one n.head a)/\Hd (.one n.head a):=fun {m} e h1 h2 h3=>by
  subst e;exact⟨hsh1 h3 h1 h2 hn.head (head_head n),h3.one h1 h2 hn.head (head_head n)⟩
 have leaf:∀{k:Int},n.op=k->hasX k=false->hasY k=false->Hd (.leaf n):=fun h h1 h2=>⟨⟨nX h h1,nY h h2⟩,hn⟩
 rcases hop with h|h|h|h|h|h|h|h|h|h|h|h
 ·rw [m0 h rfl rfl (by omega) (by omega),leafc];refine⟨?_,leaf h rfl rfl⟩;have e:=bare0 hn (by omega);rw [head_leaf (nX h rfl) (nY h rfl),h]at e;simp only [expS,h];exact true_list.trans (by rw [<-e])
 ·rw [m0 h rfl rfl (by omega) (by omega),leafc];refine⟨?_,leaf h rfl rfl⟩;have e:=bare0 hn (by omega);rw [head_leaf (nX h rfl) (nY h rfl),h]at e;simp only [expS,h];exact false_list.trans (by rw [<-e])
 ·rw [m0 h rfl rfl (by omega) (by omega),leafc];refine⟨?_,leaf h rfl rfl⟩;have e:=barei hn (by omega);rw [head_leaf (nX h rfl) (nY h rfl),h]at e;simp only [expS,h];refine((build_zero rfl rfl (head3 hn h)).2).trans ?_;rw [<-e]
 ·rw [m1 h rfl rfl (by omega) (by omega)];have e:=bare0 hn (by omega);rw [h]at e;have:=one e rfl rfl (ha (hX h rfl));simp only [expS,h];exact this
 ·rw [m2 h rfl (by omega) (by omega)];have e:=bare0 hn (by omega);rw [h]at e;have:=two e rfl rfl (ha (hX h rfl)) (hb (hY h rfl));simp only [expS,h];exact this
 ·rw [m2 h rfl (by omega) (by omega)];have e:=bare0 hn (by omega);rw [h]at e;have:=two e rfl rfl (ha (hX h rfl)) (hb (hY h rfl));simp only [expS,h];exact this
 ·rw [m2 h rfl (by omega) (by omega)];have e:=bare0 hn (by omega);rw [h]at e;have:=two e rfl rfl (ha (hX h rfl)) (hb (hY h rfl));simp only [expS,h];exact this
 ·rw [m2 h rfl (by omega) (by omega)];have e:=bare0 hn (by omega);rw [h]at e;have:=two e rfl rfl (ha (hX h rfl)) (hb (hY h rfl));simp only [expS,h];exact this
 ·rw [m1 h rfl rfl (by omega) (by omega)];have e:=barei hn (by omega);rw [h]at e;have:=one e rfl rfl (ha (hX h rfl));simp only [expS,h];exact this
 ·have hA:=ha (hX h rfl);have hi:=agent_of hn (.inr h);have e1:notN (shortT a)=shortT (.one ⟨4,0,0,0,0,0⟩ a):=hsh1 hA rfl rfl head_4 rfl;have e2:knowN n.i (shortT (.one ⟨4,0,0,0,0,0⟩ a))=shortT (.one ⟨9,n.i,0,0,0,0⟩ (.one ⟨4,0,0,0,0,0⟩ a)):=hsh1 (hd_not hA) rfl rfl (head_9 hi.1 hi.2) rfl;have e3:notN (shortT (.one ⟨9,n.i,0,0,0,0⟩ (.one ⟨4,0,0,0,0,0⟩ a)))=shortT (.one ⟨4,0,0,0,0,0⟩ (.one ⟨9,n.i,0,0,0,0⟩ (.one ⟨4,0,0,0,0,0⟩ a))):=hsh1 (hd_know hi.1 hi.2 (hd_not hA)) rfl rfl head_4 rfl;have em:expM n a b=.one ⟨4,0,0,0,0,0⟩ (.one ⟨9,n.i,0,0,0,0⟩ (.one ⟨4,0,0,0,0,0⟩ a)):=by unfold expM;rw [if_pos h]
  rw [em];refine⟨?_,hd_not (hd_know hi.1 hi.2 (hd_not hA))⟩;simp only [expS,h];show notN (knowN n.i (notN (shortT a)))=_;rw [e1,e2,e3]
 ·have hA:=ha (hX h rfl);have em:expM n a b=allT (everyT n.g a):=by unfold expM;rw [if_neg (by omega),if_pos h]
  rw [em];obtain⟨e1,e2⟩:=every_short (g:=n.g) hA;obtain⟨e3,e4⟩:=all_short _ e2;refine⟨?_,e4⟩;simp only [expS,h];show allN (everyL n.g (shortT a))=_;rw [e1,e3]
 rw [m2 h rfl (by omega) (by omega)];have e:=bareg hn h;rw [h]at e;have:=two e rfl rfl (ha (hX h rfl)) (hb (hY h rfl));simp only [expS,h];exact this
def exOp(n:Nd):Prop:=(1<=n.op/\n.op<=9)\/n.op=13
def Xp(t:Tr):Prop:=Hd t/\t.all exOp
theorem ops_one {op:Int}(h1:hasX op=true)(h2:hasY op=false)(h:(1<=op/\op<=9)\/op=13):op=4\/op=9:=by
 have:op=1\/op=2\/op=3\/op=4\/op=5\/op=6\/op=7\/op=8\/op=9\/op=13:=by omega
 rcases this with rfl|rfl|rfl|rfl|rfl|rfl|rfl|rfl|rfl|rfl <;> first|(cases h1;done)|(cases h2;done)|omega
theorem ops_two {op:Int}(h2:hasY op=true)(h:(1<=op/\op<=9)\/op=13):(5<=op/\op<=8)\/op=13:=by
 have:op=1\/op=2\/op=3\/op=4\/op=5\/op=6\/op=7\/op=8\/op=9\/op=13:=by omega
 rcases this with rfl|rfl|rfl|rfl|rfl|rfl|rfl|rfl|rfl|rfl <;> first|(cases h2;done)|omega
theorem Xp.lang:∀{t:Tr},Xp t->lang t
 |.leaf _,_=>trivial
 |.one _n a,h=>⟨ops_one h.1.1.1 h.1.1.2.1 h.2.1,Xp.lang (t:=a) ⟨⟨h.1.1.2.2.2,h.1.2.2⟩,h.2.2⟩⟩
 |.two _n a b,h=>⟨ops_two h.1.1.2.1 h.2.1,Xp.lang (t:=a) ⟨⟨h.1.1.2.2.2.1,h.1.2.2.1⟩,h.2.2.1⟩,Xp.lang (t:=b) ⟨⟨h.1.1.2.2.2.2,h.1.2.2.2⟩,h.2.2.2⟩⟩
theorem Xp.fact:∀{t:Tr},Xp t->factOk t
 |.leaf n,h=>fun ho=>by
  have e:=barei h.1.2 (.inl ho);rw [head_leaf h.1.1.1 h.1.1.2,ho]at e;exact e
 |.one n a,h=>Xp.fact (t:=a) ⟨⟨h.1.1.2.2.2,h.1.2.2⟩,h.2.2⟩
 |.two n a b,h=>⟨Xp.fact (t:=a) ⟨⟨h.1.1.2.2.2.1,h.1.2.2.1⟩,h.2.2.1⟩,Xp.fact (t:=b) ⟨⟨h.1.1.2.2.2.2,h.1.2.2.2⟩,h.2.2.2⟩⟩
theorem Xp.of_one {n:Nd} {a:Tr}(h:Xp (.one n a)):Xp a:=⟨⟨h.1.1.2.2.2,h.1.2.2⟩,h.2.2⟩
theorem Xp.of_two {n:Nd} {a b:Tr}(h:Xp (.two n a b)):Xp a/\Xp b:=⟨⟨⟨h.1.1.2.2.2.1,h.1.2.2.1⟩,h.2.2.1⟩,⟨h.1.1.2.2.2.2,h.1.2.2.2⟩,h.2.2.2⟩
theorem Xp.know {i:Int}(h0:0<=i)(h1:i < 4) {s:Tr}(hs:Xp s):Xp (.one ⟨9,i,0,0,0,0⟩ s):=⟨hd_know h0 h1 hs.1,.inl ⟨show(1:Int)<=9 by decide,show(9:Int)<=9 by decide⟩,hs.2⟩
theorem Xp.and {s t:Tr}(hs:Xp s)(ht:Xp t):Xp (.two ⟨5,0,0,0,0,0⟩ s t):=⟨hd_and hs.1 ht.1,.inl ⟨by decide,by decide⟩,hs.2,ht.2⟩
theorem Xp.imp {s t:Tr}(hs:Xp s)(ht:Xp t):Xp (.two ⟨7,0,0,0,0,0⟩ s t):=⟨hd_imp hs.1 ht.1,.inl ⟨by decide,by decide⟩,hs.2,ht.2⟩
theorem Xp.not {s:Tr}(hs:Xp s):Xp (.one ⟨4,0,0,0,0,0⟩ s):=⟨hd_not hs.1,.inl ⟨by decide,by decide⟩,hs.2⟩
theorem Xp.unf {i:Nat}(hi:i < 4) {n:Nd} {a b:Tr}(h:Xp (.two n a b)):Xp (unfT i n a b):=
 Xp.know (by omega) (by omega) (Xp.imp h.of_two.1 (Xp.and h.of_two.2 h))
theorem Xp.at {t:Tr}(h:Xp t) {i:Nat}(hi:i < (canon t).length):Xp (tr (canon t) i):=
 ⟨⟨tr_ok h.1.wf _ hi,tr_all (fun _ k1 k2 h=>h.with_ k1 k2) h.1.wf (ins_all (fun _ k1 k2 h=>h.with_ k1 k2) t [] h.1.2 (fun n hn=>by cases hn)) _ hi⟩,
   tr_all (P:=exOp) (fun _ _ _ k=>k) h.1.wf (ins_all (P:=exOp) (fun _ _ _ k=>k) t [] h.2 (fun n hn=>by cases hn)) _ hi⟩
structure Xf (t:Tr):Prop where
 xp:Xp t
 len:(canon t).length<=200
section
variable {t:Tr}
theorem Xf.check(h:Xf t):check (canon t)=0:=h.xp.1.check h.len
theorem Xf.tree(h:Xf t):treeOf (canon t)=t:=treeOf_canon h.xp.1.1
theorem Xf.at(h:Xf t) {i:Nat}(hi:i < (canon t).length):Xf (tr (canon t) i):=⟨h.xp.at hi,Qx (part_len h.xp.1.1 hi) h.len⟩
theorem Xf.of_one {n:Nd} {a:Tr}(h:Xf (.one n a)):Xf a:=⟨h.xp.of_one,Qx (one_len h.xp.1.1) h.len⟩
theorem Xf.of_two {n:Nd} {a b:Tr}(h:Xf (.two n a b)):Xf a/\Xf b:=⟨⟨h.xp.of_two.1,Qx (two_len h.xp.1.1).1 h.len⟩,⟨h.xp.of_two.2,Qx (two_len h.xp.1.1).2 h.len⟩⟩
theorem Xf.short(h:Xf t):shortT t=canon t:=short_fit h.len
theorem Xf.inj {s:Tr}(hs:Xf s)(h:Xf t)(e:canon s=canon t):s=t:=canon_inj hs.xp.1.1 h.xp.1.1 e
theorem Xf.last(h:Xf t):(lastN (canon t)).op=t.top.op:=by rw [last_op h.check,h.tree]
theorem Xf.base(h:Xf t):isBase (lastN (canon t))=isBase t.top:=by unfold isBase;rw [h.last]
theorem Xf.unf {n:Nd} {a b:Tr}(h:Xf (.two n a b)) {i:Nat}(hi:i < 4):unfN i (canon (.two n a b))=shortT (unfT i n a b):=by
 obtain⟨_,_,e1,e2⟩:=last_two h.check h.tree;have hb:=h.of_two.2;have ha:=h.of_two.1;unfold unfN unfT;rw [e1,e2,<-ha.short,<-hb.short,<-h.short];have h1:andN (shortT b) (shortT (.two n a b))=shortT (.two ⟨5,0,0,0,0,0⟩ b (.two n a b)):=hsh2 hb.xp.1 h.xp.1 rfl rfl (head_k 5 (by omega)) rfl;have h2:impN (shortT a) (shortT (.two ⟨5,0,0,0,0,0⟩ b (.two n a b)))=shortT (.two ⟨7,0,0,0,0,0⟩ a (.two ⟨5,0,0,0,0,0⟩ b (.two n a b))):=hsh2 ha.xp.1 (hb.xp.and h.xp).1 rfl rfl (head_k 7 (by omega)) rfl;have h3:knowN (i:Int) (shortT (.two ⟨7,0,0,0,0,0⟩ a (.two ⟨5,0,0,0,0,0⟩ b (.two n a b))))=shortT (.one ⟨9,(i:Int),0,0,0,0⟩ (.two ⟨7,0,0,0,0,0⟩ a (.two ⟨5,0,0,0,0,0⟩ b (.two n a b)))):=hsh1 (ha.xp.imp (hb.xp.and h.xp)).1 rfl rfl (head_9 (by omega) (by omega)) rfl
 rw [h1,h2,h3]
theorem Xf.subs(h:Xf t):subsN (canon t)=(List.range (canon t).length).map fun i=>canon (tr (canon t) i):=by
 unfold subsN formulasN;rw [comp_canon h.xp.1 h.len];exact List.map_congr_left fun i hi=>subN_tree h.check (List.mem_range.1 hi)
theorem Xf.mem_base0(h:Xf t) {c:List Nd} :c∈base0 (canon t)↔∃i,i < (canon t).length/\c=canon (tr (canon t) i)/\isBase (tr (canon t) i).top=true:=by
 unfold base0;rw [h.subs,List.mem_filter,List.mem_map];constructor
 ·rintro⟨⟨i,hi,rfl⟩,hb⟩;have hi:=List.mem_range.1 hi;exact⟨i,hi,rfl,by rw [<-(h.at hi).base];exact hb⟩
 rintro⟨i,hi,rfl,hb⟩;exact⟨⟨i,List.mem_range.2 hi,rfl⟩,by rw [(h.at hi).base];exact hb⟩
theorem Xf.base0_nodup(h:Xf t):(base0 (canon t)).Nodup:=by
 unfold base0;rw [h.subs];refine List.Pairwise.filter _ ?_;rw [List.pairwise_map];refine List.Pairwise.imp_of_mem ?_ (List.nodup_iff_pairwise_ne.1 List.nodup_range);intro i j hi hj hne e;have hi:=List.mem_range.1 hi;have hj:=List.mem_range.1 hj;exact hne (canon_dst h.xp.1.1 i j hi hj ((h.at hi).inj (h.at hj) e))
end
theorem place_neg {l:List (List Nd)} {g:List Nd} :placeN l g < 0↔g∉l:=by
 unfold placeN;cases h:l.findIdx? fun f=>decide (f=g)with
 |none =>
  rw [List.findIdx?_eq_none_iff]at h;refine⟨fun _ hm=> ?_,fun _=>by decide⟩;have:=h g hm;simp at this
 |some j =>
  obtain⟨hj,he,_⟩:=List.findIdx?_eq_some_iff_getElem.1 h;refine⟨fun hn=> ?_,fun hn=> ?_⟩
  ·simp only at hn;omega
  have e:l[j]=g:=by simpa using he
  exact absurd (e▸List.getElem_mem hj) hn
theorem place_at {l:List (List Nd)}(hl:l.Nodup) {i:Nat} {g:List Nd}(hi:l[i]?=some g):placeN l g=i:=by
 obtain⟨hil,he⟩:=List.getElem?_eq_some_iff.1 hi;unfold placeN;have:l.findIdx? (fun f=>decide (f=g))=some i:=by
  rw [List.findIdx?_eq_some_iff_getElem];refine⟨hil,by simpa using he,fun j hj=> ?_⟩;have hne:l[j]≠l[i]:=fun e=>by
   have:=(List.nodup_iff_pairwise_ne.1 hl);rw [List.pairwise_iff_getElem]at this;exact this j i (by omega) hil hj e
  rw [he]at hne
  simpa using hne
 rw [this]
theorem addF_mem {l:List (List Nd)} {g c:List Nd} :c∈addF l g↔c∈l\/c=g:=by
 unfold addF;cases h:decide (placeN l g < 0)
 ·rw [decide_eq_false_iff_not,place_neg,Classical.not_not]at h;exact⟨.inl,fun k=>k.elim id fun e=>e▸h⟩
 simp
theorem addF_nodup {l:List (List Nd)} {g:List Nd}(h:l.Nodup):(addF l g).Nodup:=by
 unfold addF;cases k:decide (placeN l g < 0)
 ·exact h
 rw [decide_eq_true_iff,place_neg]at k;rw [cond_true,List.nodup_append];exact⟨h,by simp,fun a ha b hb e=>k (by rw [List.mem_singleton.1 hb]at e;exact e▸ha)⟩
theorem fold_mem:∀(us:List (List Nd)) (l:List (List Nd)) (c:List Nd),c∈us.foldl addF l↔c∈l\/c∈us
 |[],l,c=>by simp
 |u :: r,l,c=>by
  rw [List.foldl_cons,fold_mem r,addF_mem,List.mem_cons];exact or_assoc
theorem fold_nodup:∀(us:List (List Nd)) (l:List (List Nd)),l.Nodup->(us.foldl addF l).Nodup
 |[],_,h=>h
 |_ :: r,_,h=>fold_nodup r _ (addF_nodup h)
structure BaseOk (l:List (List Nd)) (t:Tr):Prop where
 can:∀c∈l,∃s,Xf s/\c=canon s/\isBase s.top=true
 nodup:l.Nodup
 closed:Closed (l.map treeOf)
 cov:cov (l.map treeOf) t
 len:l.length<=12
theorem mem_trees {l:List (List Nd)}(hl:∀c∈l,∃s,Xf s/\c=canon s/\isBase s.top=true) {s:Tr} :s∈l.map treeOf↔Xf s/\canon s∈l:=by
 rw [List.mem_map];constructor
 ·rintro⟨c,hc,rfl⟩;obtain⟨u,hu,rfl,_⟩:=hl c hc;rw [hu.tree];exact⟨hu,hc⟩
 rintro⟨h1,h2⟩;exact⟨_,h2,h1.tree⟩
theorem unfs_mem {n:Nd} {a b:Tr}(h:Xf (.two n a b))(ho:n.op=13) {c:List Nd} :c∈unfsN (canon (.two n a b))↔∃i,i < 4/\gbit n.g i=true/\c=shortT (unfT i n a b):=by
 obtain⟨e1,e2,_,_⟩:=last_two h.check h.tree;unfold unfsN;rw [e1,ho,e2];simp only [beq_self_eq_true,cond_true,List.mem_map,List.mem_filter,List.mem_range];constructor
 ·rintro⟨i,⟨h1,h2⟩,rfl⟩;exact⟨i,h1,h2,h.unf h1⟩
 rintro⟨i,h1,h2,rfl⟩;exact⟨i,⟨h1,h2⟩,h.unf h1⟩
theorem unfs_other {s:Tr}(h:Xf s)(ho:s.top.op≠13):unfsN (canon s)= []:=by
 unfold unfsN;rw [h.last];have:(s.top.op==13)=false:=by simpa using ho
 rw [this];rfl
theorem top_two {s:Tr}(h:Xf s)(ho:s.top.op=13):∃n a b,s=.two n a b/\n.op=13:=by
 cases s with
 |leaf n=>have:=h.xp.1.1.2;rw [show n.op=13 from ho]at this;cases this
 |one n a=>have:=h.xp.1.1.2.1;rw [show n.op=13 from ho]at this;cases this
 |two n a b=>exact⟨n,a,b,rfl,ho⟩
theorem base_ok {t:Tr}(h:Xf t)(he:(baseOfN (canon t)).2=0):BaseOk (baseOfN (canon t)).1 t:=by
 unfold baseOfN at he⊢;cases hc:((base0 (canon t)).flatMap unfsN).any (fun u=>decide (u.length=0))||decide (12 < (((base0 (canon t)).flatMap unfsN).foldl addF (base0 (canon t))).length)
 case true=>rw [hc]at he;cases he
 rw [cond_false];rw [Bool.or_eq_false_iff]at hc;obtain⟨hc1,hc2⟩:=hc;generalize hl:((base0 (canon t)).flatMap unfsN).foldl addF (base0 (canon t))=l at hc2;have hmem:∀c,c∈l↔c∈base0 (canon t)\/c∈(base0 (canon t)).flatMap unfsN:=fun c=>by rw [<-hl];exact fold_mem _ _ _
 have hne:∀u∈(base0 (canon t)).flatMap unfsN,u.length≠0:=fun u hu=>by
  have:=List.any_eq_false.1 hc1 u hu
  simpa using this
 have hun:∀u∈(base0 (canon t)).flatMap unfsN,∃i n a b k,k < (canon t).length/\tr (canon t) k=.two n a b/\Xf (.two n a b)/\n.op=13/\i < 4/\gbit n.g i=true/\Xf (unfT i n a b)/\u=canon (unfT i n a b):=fun u hu=>by
  obtain⟨c,hcb,huc⟩:=List.mem_flatMap.1 hu;obtain⟨k,hk,rfl,_⟩:=h.mem_base0.1 hcb;have hx:=h.at hk;by_cases ho:(tr (canon t) k).top.op=13
  ·obtain⟨n,a,b,e,ho'⟩:=top_two hx ho;rw [e]at hx huc;obtain⟨i,hi,hg,rfl⟩:=(unfs_mem hx ho').1 huc;have hl0:=hne _ hu;have hlen:(canon (unfT i n a b)).length<=200:=by
    by_cases e2:(canon (unfT i n a b)).length<=200
    ·exact e2
    rw [short_long (by omega)]at hl0;simp at hl0
   exact⟨i,n,a,b,k,hk,e,hx,ho',hi,hg,⟨hx.xp.unf hi,hlen⟩,short_fit hlen⟩
  rw [unfs_other hx ho]at huc;cases huc
 have hcan:∀c∈l,∃s,Xf s/\c=canon s/\isBase s.top=true:=fun c hc=>by
  rcases(hmem c).1 hc with h1|h1
  ·obtain⟨k,hk,rfl,hb⟩:=h.mem_base0.1 h1;exact⟨_,h.at hk,rfl,hb⟩
  obtain⟨i,n,a,b,_,_,_,_,_,_,_,hX,rfl⟩:=hun c h1;exact⟨_,hX,rfl,rfl⟩
 have hsub:∀k,k < (canon t).length->isBase (tr (canon t) k).top=true->tr (canon t) k∈l.map treeOf:=fun k hk hb =>
  (mem_trees hcan).2 ⟨h.at hk,(hmem _).2 (.inl (h.mem_base0.2 ⟨k,hk,rfl,hb⟩))⟩
 have hcov:∀k,k < (canon t).length->cov (l.map treeOf) (tr (canon t) k):=by
  intro k
  induction k using Nat.strongRecOn with
  |_ k ih =>
   intro hk;obtain⟨n,hn⟩:∃n,(canon t)[k]?=some n:=⟨_,Qv hk⟩;obtain⟨hx,hy⟩:=h.xp.1.wf k n hn;have hs:=hsub k hk;rw [tr_eq h.xp.1.wf hn]at hs⊢;unfold mkTr at hs⊢;cases h2:hasY n.op
   ·cases h1:hasX n.op
    ·rw [h1,h2]at hs;exact fun h3=>hs (by simp [isBase,Tr.top,h3])
    rw [h1,h2]at hs;have:=hx h1;simp only [cond_false,cond_true,_root_.Go.Proofs.YtbfeodammikajaaGreat.cov]at hs⊢;by_cases h9:n.head.op=9
    ·rw [if_pos h9];exact hs (by simp [isBase,Tr.top,h9])
    rw [if_neg h9];exact ih _ (by omega) (by omega)
   rw [h2]at hs;have:=hx (hasX_of_hasY h2);have:=hy h2;simp only [cond_true,_root_.Go.Proofs.YtbfeodammikajaaGreat.cov]at hs⊢;by_cases h13:n.head.op=13
   ·rw [if_pos h13];exact hs (by simp [isBase,Tr.top,h13])
   rw [if_neg h13];exact⟨ih _ (by omega) (by omega),ih _ (by omega) (by omega)⟩
 have hpart:∀k,k < (canon t).length->∀n a b,tr (canon t) k=.two n a b->cov (l.map treeOf) a/\cov (l.map treeOf) b:=fun k hk n a b e=>by
  obtain⟨m,hm⟩:∃m,(canon t)[k]?=some m:=⟨_,Qv hk⟩;obtain⟨hx,hy⟩:=h.xp.1.wf k m hm;rw [tr_eq h.xp.1.wf hm]at e;obtain⟨h2,_,rfl,rfl⟩:=mk_two e;have:=hx (hasX_of_hasY h2);have:=hy h2;exact⟨hcov _ (by omega),hcov _ (by omega)⟩
 have hpart1:∀k,k < (canon t).length->∀n a,tr (canon t) k=.one n a->cov (l.map treeOf) a:=fun k hk n a e=>by
  obtain⟨m,hm⟩:∃m,(canon t)[k]?=some m:=⟨_,Qv hk⟩;obtain⟨hx,hy⟩:=h.xp.1.wf k m hm;rw [tr_eq h.xp.1.wf hm]at e;obtain⟨h1,_,_,rfl⟩:=mk_one e;have:=hx h1;exact hcov _ (by omega)
 refine⟨hcan,by rw [<-hl];exact fold_nodup _ _ h.base0_nodup,⟨fun n a hm=> ?_,fun n a b hm=> ?_⟩,?_,by have:=of_decide_eq_false hc2;show l.length<=12;omega⟩
 ·obtain⟨hX,hm'⟩:=(mem_trees hcan).1 hm;have hop:n.op=9:=by
   obtain⟨s,hs,e,hb⟩:=hcan _ hm';have h4:=ops_one hX.xp.1.1.1 hX.xp.1.1.2.1 hX.xp.2.1;rw [<-hX.inj hs e]at hb;simp only [isBase,Tr.top,Bool.or_eq_true,beq_iff_eq]at hb;omega
  refine⟨hop,?_,hX.of_one.xp.lang,agent_of hX.xp.1.2.1 (.inl hop)⟩;rcases(hmem _).1 hm' with h1|h1
  ·obtain⟨k,hk,e,_⟩:=h.mem_base0.1 h1;exact hpart1 k hk n a ((hX.inj (h.at hk) e).symm)
  obtain⟨i,n',a',b',k,hk,e,hX',ho,hi,hg,hU,eu⟩:=hun _ h1;have:=hX.inj hU eu;unfold unfT at this;injection this with _ e2;subst e2;obtain⟨c1,c2⟩:=hpart k hk _ _ _ e;have hm2:=hsub k hk (by rw [e];simp [isBase,Tr.top,ho]);rw [e]at hm2;simp only [_root_.Go.Proofs.YtbfeodammikajaaGreat.cov,show ¬(7:Int)=13 by decide,show ¬(5:Int)=13 by decide,if_false,ho,if_true];exact⟨c1,c2,hm2⟩
 ·obtain⟨hX,hm'⟩:=(mem_trees hcan).1 hm;rcases(hmem _).1 hm' with h1|h1
  ·obtain⟨k,hk,e,hb⟩:=h.mem_base0.1 h1;have et:=hX.inj (h.at hk) e;have hop:n.op=13:=by
    have h5:=ops_two hX.xp.1.1.2.1 hX.xp.2.1;rw [<-et]at hb;simp only [isBase,Tr.top,Bool.or_eq_true,beq_iff_eq]at hb;omega
   obtain⟨c1,c2⟩:=hpart k hk n a b et.symm;refine⟨hop,c1,c2,hX.of_two.1.xp.lang,hX.of_two.2.xp.lang,fun i hi hg=> ?_⟩;have hu:shortT (unfT i n a b)∈(base0 (canon t)).flatMap unfsN:=List.mem_flatMap.2 ⟨_,h1,(unfs_mem hX hop).2 ⟨i,hi,hg,rfl⟩⟩;have hl0:=hne _ hu;have hlen:(canon (unfT i n a b)).length<=200:=by
    by_cases e2:(canon (unfT i n a b)).length<=200
    ·exact e2
    rw [short_long (by omega)]at hl0;simp at hl0
   refine(mem_trees hcan).2 ⟨⟨hX.xp.unf hi,hlen⟩,(hmem _).2 (.inr ?_)⟩;rw [<-short_fit hlen];exact hu
  obtain⟨i,n',a',b',k,hk,e,hX',ho,hi,hg,hU,eu⟩:=hun _ h1;have:=hX.inj hU eu;unfold unfT at this;cases this
 have hp:=canon_pos h.xp.1.1;have:=hcov ((canon t).length - 1) (by omega);rw [show tr (canon t) ((canon t).length - 1)=t from h.tree]at this;exact this
section
variable {t:Tr}
theorem unf_elem(h:Xf t) {u:List Nd}(hu:u∈(base0 (canon t)).flatMap unfsN)(hl0:u.length≠0):
 ∃i n a b,Xf (.two n a b)/\n.op=13/\i < 4/\Xf (unfT i n a b)/\u=canon (unfT i n a b):=by
 obtain⟨c,hcb,huc⟩:=List.mem_flatMap.1 hu;obtain⟨k,hk,rfl,_⟩:=h.mem_base0.1 hcb;have hx:=h.at hk;by_cases ho:(tr (canon t) k).top.op=13
 ·obtain⟨n,a,b,e,ho'⟩:=top_two hx ho;rw [e]at hx huc;obtain⟨i,hi,hg,rfl⟩:=(unfs_mem hx ho').1 huc;have hlen:(canon (unfT i n a b)).length<=200:=by
   by_cases e2:(canon (unfT i n a b)).length<=200
   ·exact e2
   rw [short_long (by omega)]at hl0;simp at hl0
  exact⟨i,n,a,b,hx,ho',hi,⟨hx.xp.unf hi,hlen⟩,short_fit hlen⟩
 rw [unfs_other hx ho]at huc;cases huc
def usK(l0:List (List Nd))(k:Nat):List (List Nd):=(l0.take k).flatMap unfsN
theorem usK_sub {l0:List (List Nd)} {k:Nat} {u:List Nd}(h:u∈usK l0 k):u∈l0.flatMap unfsN:=by
 obtain⟨c,hc,hu⟩:=List.mem_flatMap.1 h;exact List.mem_flatMap.2 ⟨c,List.mem_of_mem_take hc,hu⟩
theorem fold_prefix:∀(us l:List (List Nd)),l <+: us.foldl addF l
 |[],l=>List.prefix_refl _
 |u :: r,l=>by
  rw [List.foldl_cons];refine List.IsPrefix.trans ?_ (fold_prefix r _);unfold addF;cases decide (placeN l u < 0)
  ·exact List.prefix_refl _
  exact List.prefix_append _ _
theorem fold_len(us l:List (List Nd)):l.length<=(us.foldl addF l).length:=(fold_prefix us l).length_le
theorem base_step(h:Xf t) {k:Nat} {ol:List (List Nd)} {c:List Nd}(hol:ol=(usK (base0 (canon t)) k).foldl addF (base0 (canon t)))(hne:∀u∈usK (base0 (canon t)) k,u.length≠0)(hc:ol[k]?=some c):
 usK (base0 (canon t)) (k+1)=usK (base0 (canon t)) k++unfsN c/\∃s,Xf s/\c=canon s:=by
 generalize hl0:base0 (canon t)=l0 at hol hne⊢;by_cases hk:k < l0.length
 ·have hp:l0 <+: ol:=hol▸fold_prefix _ _;have hc0:l0[k]?=some c:=by
   obtain⟨r,rfl⟩:=hp;rw [List.getElem?_append_left hk]at hc;exact hc
  refine⟨?_,?_⟩
  ·unfold usK;obtain⟨hk',e⟩:=List.getElem?_eq_some_iff.1 hc0;rw [List.take_succ_eq_append_getElem hk',e,List.flatMap_append];simp
  have hm:c∈base0 (canon t):=hl0▸List.mem_of_getElem? hc0;obtain⟨i,hi,rfl,_⟩:=h.mem_base0.1 hm;exact⟨_,h.at hi,rfl⟩
 have e:usK l0 (k+1)=usK l0 k:=by
  unfold usK;rw [List.take_of_length_le (by omega),List.take_of_length_le (by omega)]
 have hm:c∈ol:=List.mem_of_getElem? hc;rw [hol,fold_mem]at hm;rcases hm with hm|hm
 ·have hm':c∈base0 (canon t):=hl0▸hm;obtain⟨i,hi,rfl,hb⟩:=h.mem_base0.1 hm';have hgt:(ol.drop l0.length)[k - l0.length]?=some (canon (tr (canon t) i)):=by rw [List.getElem?_drop];rw [<-hc];congr 1;omega
  have hnd:ol.Nodup:=by rw [hol,<-hl0];exact fold_nodup _ _ h.base0_nodup
  have hp:l0 <+: ol:=hol▸fold_prefix _ _;obtain⟨r,hr⟩:=hp;rw [<-hr]at hgt hnd;rw [List.drop_left]at hgt;have:=(List.nodup_append.1 hnd).2.2 _ hm _ (List.mem_of_getElem? hgt);exact absurd rfl this
 have hu:=hne c hm;obtain⟨i,n,a,b,_,_,_,hX,rfl⟩:=unf_elem h (hl0▸usK_sub hm) hu;exact⟨by rw [e,unfs_other hX (by show(9:Int)≠13;decide),List.append_nil],_,hX,rfl⟩
theorem usK_all {l0:List (List Nd)} {k:Nat}(h:l0.length<=k):usK l0 k=l0.flatMap unfsN:=by
 unfold usK;rw [List.take_of_length_le h]
theorem base_bad {l0:List (List Nd)} {k:Nat} {u:List Nd}(h:u∈usK l0 k)(hl:u.length=0):(l0.flatMap unfsN).any (fun u=>decide (u.length=0))=true:=by
 rw [List.any_eq_true];exact⟨u,usK_sub h,by simp [hl]⟩
theorem usK_prefix(l0:List (List Nd))(k:Nat):∃r,l0.flatMap unfsN=usK l0 k++r:=by
 refine⟨(l0.drop k).flatMap unfsN,?_⟩;unfold usK;rw [<-List.flatMap_append,List.take_append_drop]
theorem base_long {l0:List (List Nd)} {k:Nat}(h:12 < ((usK l0 k).foldl addF l0).length):12 < ((l0.flatMap unfsN).foldl addF l0).length:=by
 obtain⟨r,e⟩:=usK_prefix l0 k;rw [e,List.foldl_append];exact Qy h (fold_len r _)
theorem baseOf_bad {g:List Nd}(h:((base0 g).flatMap unfsN).any (fun u=>decide (u.length=0))=true\/12 < (((base0 g).flatMap unfsN).foldl addF (base0 g)).length):baseOfN g=([],8):=by
 unfold baseOfN;rcases h with h|h
 ·rw [h];rfl
 rw [decide_eq_true h,Bool.or_true];rfl
theorem baseOf_good {g:List Nd}(h:∀u∈(base0 g).flatMap unfsN,u.length≠0)(hl:(((base0 g).flatMap unfsN).foldl addF (base0 g)).length<=12):baseOfN g=(((base0 g).flatMap unfsN).foldl addF (base0 g),0):=by
 unfold baseOfN;have e:((base0 g).flatMap unfsN).any (fun u=>decide (u.length=0))=false:=by
  rw [List.any_eq_false];intro u hu;simp [h u hu]
 rw [e,decide_eq_false (by omega)];rfl
end
def unfQ(c:List Nd)(q:Nat):List (List Nd):=bif (lastN c).op==13 then((List.range q).filter fun i=>gbit (lastN c).g i).map fun i=>unfN i c else []
theorem unfQ_zero(c:List Nd):unfQ c 0= []:=by
 unfold unfQ;cases(lastN c).op==13 <;> rfl
theorem unfQ_four(c:List Nd):unfQ c 4=unfsN c:=rfl
theorem unfQ_no {c:List Nd} {q:Nat}(h:((lastN c).op==13&&gbit (lastN c).g q)=false):unfQ c (q+1)=unfQ c q:=by
 unfold unfQ;cases h1:(lastN c).op==13
 ·rfl
 rw [h1]at h;have h2:gbit (lastN c).g q=false:=h;simp only [cond_true];rw [List.range_succ,List.filter_append,List.map_append,List.filter_cons,h2];simp
theorem unfQ_yes {c:List Nd} {q:Nat}(h1:((lastN c).op==13)=true)(h2:gbit (lastN c).g q=true):unfQ c (q+1)=unfQ c q++ [unfN q c]:=by
 unfold unfQ;rw [h1];simp only [cond_true];rw [List.range_succ,List.filter_append,List.map_append,List.filter_cons,h2];simp
theorem unfQ_sub {c u:List Nd} {q:Nat}(hq:q<=4)(h:u∈unfQ c q):u∈unfsN c:=by
 rw [<-unfQ_four];unfold unfQ at h⊢;cases h1:(lastN c).op==13
 ·rw [h1]at h;cases h
 rw [h1]at h;simp only [cond_true,List.mem_map,List.mem_filter,List.mem_range]at h⊢;obtain⟨i,⟨a,b⟩,e⟩:=h;exact⟨i,⟨by omega,b⟩,e⟩
def th(base:List (List Nd))(t:Nat)(f:Tr):Bool:=bif decide (0<=placeN base (canon f))then t.testBit (placeN base (canon f)).toNat else false
theorem base_cases(n:Nd):(n.op=3\/n.op=9\/n.op=13)\/((n.op==3)=false/\(n.op==9)=false/\(n.op==13)=false):=by
 by_cases h3:n.op=3
 ·exact .inl (.inl h3)
 by_cases h9:n.op=9
 ·exact .inl (.inr (.inl h9))
 by_cases h13:n.op=13
 ·exact .inl (.inr (.inr h13))
 exact .inr ⟨by simpa using h3,by simpa using h9,by simpa using h13⟩
theorem places_get {base:List (List Nd)} {f:List Nd} {i:Nat} {n:Nd}(hi:f[i]?=some n):(placesN base f)[i]?=some (bif isBase n then placeN base (subN f (i:Int))else -1):=by
 unfold placesN;rw [List.getElem?_map,List.getElem?_range (List.getElem?_eq_some_iff.1 hi).1];simp only [Option.map_some,getD_of hi]
theorem places_len(base:List (List Nd))(f:List Nd):(placesN base f).length=f.length:=by simp [placesN]
section
variable {base:List (List Nd)} {f:List Nd} {t i:Nat} {n:Nd}
theorem at_step(hc:check f=0)(hi:f[i]?=some n)(v:List Bool)(hv:v=(List.range i).map fun j=>ev (th base t) (tr f j)):
 atStep n (bif isBase n then placeN base (subN f (i:Int))else -1) t v=ev (th base t) (tr f i):=by
 have hw:=check_wf hc;have hil:=(List.getElem?_eq_some_iff.1 hi).1;have hs:subN f (i:Int)=canon (tr f i):=subN_tree hc hil;have ht:=tr_eq hw hi;obtain⟨hx,hy⟩:=hw i n hi;have gx:hasX n.op=true->v.getD n.x.toNat false=ev (th base t) (tr f n.x.toNat):=fun h=>by
  have:=hx h;rw [hv,Qk,List.getElem?_map,List.getElem?_range (by omega)];rfl
 have gy:hasY n.op=true->v.getD n.y.toNat false=ev (th base t) (tr f n.y.toNat):=fun h=>by
  have:=hy h;rw [hv,Qk,List.getElem?_map,List.getElem?_range (by omega)];rfl
 have hop:=(isOp_iff n.op).1 (heads_of hc n (List.mem_of_getElem? hi)).1;rw [hs];by_cases hb:isBase n=true
 ·have hk:∀s:Tr,tr f i=s->ev (th base t) s=th base t s->atStep n (bif isBase n then placeN base (canon (tr f i))else -1) t v=ev (th base t) (tr f i):=fun s e1 e2=>by
   rw [hb,cond_true,e1,e2];unfold atStep th;cases hd:decide (0<=placeN base (canon s))
   ·simp only [cond_false];have ho:n.op=3\/n.op=9\/n.op=13:=by simpa [isBase]using hb
    rcases ho with ho|ho|ho <;> simp [ho]
   simp only [cond_true]
  have ho:n.op=3\/n.op=9\/n.op=13:=by simpa [isBase]using hb
  rcases ho with ho|ho|ho
  ·exact hk (.leaf n) (by rw [ht];simp [mkTr,ho,hasX,hasY]) (by simp [ev,ho])
  ·exact hk (.one n.head (tr f n.x.toNat)) (by rw [ht];simp [mkTr,ho,hasX,hasY]) (by simp [ev,head_op,ho])
  exact hk (.two n.head (tr f n.x.toNat) (tr f n.y.toNat)) (by rw [ht];simp [mkTr,ho,hasX,hasY]) (by simp [ev,head_op,ho])
 have hb':isBase n=false:=by simpa using hb
 rw [hb',cond_false];have h3:n.op≠3/\n.op≠9/\n.op≠13:=by simpa [isBase]using hb'
 have hneg:decide ((0:Int)<= -1)=false:=by decide
 unfold atStep;rw [hneg,cond_false,ht];by_cases h4:n.op=4
 ·rw [gx (by rw [h4];rfl)];simp [mkTr,h4,hasX,hasY,ev,head_op]
 by_cases h5:n.op=5
 ·rw [gx (by rw [h5];rfl),gy (by rw [h5];rfl)];simp [mkTr,h5,hasX,hasY,ev,head_op]
 by_cases h6:n.op=6
 ·rw [gx (by rw [h6];rfl),gy (by rw [h6];rfl)];simp [mkTr,h6,hasX,hasY,ev,head_op]
 by_cases h7:n.op=7
 ·rw [gx (by rw [h7];rfl),gy (by rw [h7];rfl)];simp [mkTr,h7,hasX,hasY,ev,head_op]
 by_cases h8:n.op=8
 ·rw [gx (by rw [h8];rfl),gy (by rw [h8];rfl)];simp [mkTr,h8,hasX,hasY,ev,head_op]
 have b4:(n.op==4)=false:=by simpa using h4
 have b5:(n.op==5)=false:=by simpa using h5
 have b6:(n.op==6)=false:=by simpa using h6
 have b7:(n.op==7)=false:=by simpa using h7
 have b8:(n.op==8)=false:=by simpa using h8
 rw [b4,b5,b6,b7,b8];simp only [cond_false];unfold mkTr;cases hY:hasY n.op
 ·cases hX:hasX n.op
  ·simp only [cond_false,ev,h3.1,if_false];cases n.op==1 <;> rfl
  have h1:n.op≠1:=fun e=>by rw [e]at hX;cases hX
  have b1:(n.op==1)=false:=by simpa using h1
  rw [b1];simp [ev,head_op,h4,h3.2.1]
 have h1:n.op≠1:=fun e=>by rw [e]at hY;cases hY
 have b1:(n.op==1)=false:=by simpa using h1
 rw [b1];simp [ev,head_op,h5,h6,h7,h8,h3.2.2]
theorem at_go(hc:check f=0):∀(k i:Nat),i+k=f.length->atGo t (f.drop i) ((placesN base f).drop i) ((List.range i).map fun j=>ev (th base t) (tr f j))=(List.range f.length).map fun j=>ev (th base t) (tr f j)
 |0,i,h=>by
  have e:i=f.length:=by omega
  subst e;rw [List.drop_length];rfl
 |k+1,i,h=>by
  have hi:f[i]?=some f[i]:=List.getElem?_eq_getElem (by omega);have hp:=places_get (base:=base) hi;obtain⟨hpl,hpe⟩:=List.getElem?_eq_some_iff.1 hp;rw [List.drop_eq_getElem_cons (show i < f.length by omega),List.drop_eq_getElem_cons hpl,hpe];show atGo t _ _ (_++ [_])=_;rw [at_step hc hi _ rfl];have e:(List.range i).map (fun j=>ev (th base t) (tr f j))++ [ev (th base t) (tr f i)]=(List.range (i+1)).map fun j=>ev (th base t) (tr f j):=by
   rw [List.range_succ,List.map_append];rfl
  rw [e];exact at_go hc k (i+1) (by omega)
theorem at_ev(hc:check f=0):atN f (placesN base f) t=ev (th base t) (treeOf f):=by
 unfold atN;have h:=at_go (base:=base) (t:=t) hc f.length 0 (by omega);simp only [List.drop_zero,List.range_zero,List.map_nil]at h;rw [h];have hp:=(check_parts hc).1;obtain⟨k,hk⟩:∃k,f.length=k+1:=⟨f.length - 1,by omega⟩;rw [hk,List.range_succ,List.map_append,List.map_cons,List.map_nil];unfold treeOf;rw [hk];simp
end
theorem tab_len(base:List (List Nd))(f:List Nd):(tabN base f).length=2^base.length:=by simp [tabN]
theorem tab_get {base:List (List Nd)} {f:List Nd}(hc:check f=0) {t:Nat}(ht:t < 2^base.length):(tabN base f).getD t false=ev (th base t) (treeOf f):=by
 unfold tabN;rw [Qk,List.getElem?_map,List.getElem?_range ht];exact at_ev hc
def Sub2(a b:List Bool):Prop:=∀t,b.getD t false=true->a.getD t false=true
theorem set_getD(l:List Bool)(t u:Nat):(l.set t false).getD u false=(bif u==t then false else l.getD u false):=by
 rw [Qk,List.getElem?_set,Qk];by_cases h:u=t
 ·subst h;simp
  split <;> rfl
 have:(u==t)=false:=by simpa using h
 rw [this,if_neg (fun e=>h e.symm)];rfl
theorem set_sub(l:List Bool)(t:Nat):Sub2 l (l.set t false):=fun u h=>by
 rw [set_getD]at h;cases e:u==t
 ·rw [e]at h;exact h
 rw [e]at h;cases h
def cnt(l:List Bool):Nat:=l.countP id
theorem cnt_set:∀(l:List Bool) (t:Nat),l.getD t false=true->cnt (l.set t false)+1=cnt l
 |[],t,h=>by simp at h
 |a :: r,0,h=>by
  simp at h;subst h;simp [cnt]
 |a :: r,t+1,h=>by
  have ih:=cnt_set r t (by simpa using h);unfold cnt at ih⊢;rw [List.set_cons_succ,List.countP_cons,List.countP_cons];omega
theorem cnt_le(l:List Bool):cnt l<=l.length:=List.countP_le_length
section
variable {why:List Bool->Nat->Option Int}
def stepG(why:List Bool->Nat->Option Int)(s:List Bool×List (Nat×Int))(t:Nat):List Bool×List (Nat×Int):=
 bif s.1.getD t false then(match why s.1 t with|none=>s|some i=>(s.1.set t false,s.2++ [(t,i)]))else s
theorem pass_cons(t:Nat)(r:List Nat)(s:List Bool×List (Nat×Int)):passG why (t :: r) s=passG why r (stepG why s t):=rfl
theorem pass_append:∀(a b:List Nat) (s:List Bool×List (Nat×Int)),passG why (a++b) s=passG why b (passG why a s)
 |[],_,_=>rfl
 |t :: r,b,s=>pass_append r b (stepG why s t)
theorem step_len(s:List Bool×List (Nat×Int))(t:Nat):(stepG why s t).1.length=s.1.length:=by
 unfold stepG;cases s.1.getD t false
 ·rfl
 cases why s.1 t with
 |none=>rfl
 |some i=>simp
theorem pass_len:∀(r:List Nat) (s:List Bool×List (Nat×Int)),(passG why r s).1.length=s.1.length
 |[],_=>rfl
 |t :: r,s=>(pass_len r (stepG why s t)).trans (step_len s t)
theorem step_cases(s:List Bool×List (Nat×Int))(t:Nat):
 (stepG why s t=s/\(s.1.getD t false=true->why s.1 t=none))\/(∃i,s.1.getD t false=true/\why s.1 t=some i/\stepG why s t=(s.1.set t false,s.2++ [(t,i)])):=by
 unfold stepG;cases h:s.1.getD t false
 ·exact .inl ⟨rfl,fun e=>by cases e⟩
 cases hw:why s.1 t with
 |none=>exact .inl ⟨rfl,fun _=>rfl⟩
 |some i=>exact .inr ⟨i,rfl,rfl,rfl⟩
theorem step_cnt(s:List Bool×List (Nat×Int))(t:Nat):cnt (stepG why s t).1+(stepG why s t).2.length=cnt s.1+s.2.length/\s.2.length<=(stepG why s t).2.length:=by
 rcases step_cases (why:=why) s t with⟨e,_⟩|⟨i,h,_,e⟩
 ·rw [e];exact⟨rfl,Nat.le_refl _⟩
 rw [e];have:=cnt_set s.1 t h;simp only [List.length_append,List.length_singleton];omega
theorem pass_cnt:∀(r:List Nat) (s:List Bool×List (Nat×Int)),cnt (passG why r s).1+(passG why r s).2.length=cnt s.1+s.2.length/\s.2.length<=(passG why r s).2.length
 |[],_=>⟨rfl,Nat.le_refl _⟩
 |t :: r,s=>by
  have h1:=step_cnt (why:=why) s t;have h2:=pass_cnt r (stepG why s t);rw [pass_cons];omega
theorem pass_none:∀(r:List Nat) (s:List Bool×List (Nat×Int)),(passG why r s).2.length=s.2.length->passG why r s=s/\∀t∈r,s.1.getD t false=true->why s.1 t=none
 |[],s,_=>⟨rfl,fun t h=>by cases h⟩
 |t :: r,s,h=>by
  rw [pass_cons]at h;have h2:=(pass_cnt (why:=why) r (stepG why s t)).2;rcases step_cases (why:=why) s t with⟨e,hn⟩|⟨i,_,_,e⟩
  ·rw [e]at h;obtain⟨a,b⟩:=pass_none r s h;rw [pass_cons,e];refine⟨a,fun u hu=> ?_⟩;rcases List.mem_cons.1 hu with rfl|hu
   ·exact hn
   exact b u hu
  rw [e]at h h2;simp only [List.length_append,List.length_singleton]at h2;omega
theorem elim_len:∀(k:Nat) (s:List Bool×List (Nat×Int)),(elimG why k s).1.length=s.1.length
 |0,_=>rfl
 |k+1,s=>by
  unfold elimG;cases(passG why (List.range s.1.length) s).2.length==s.2.length
  ·exact(elim_len k _).trans (pass_len _ _)
  rfl
theorem elim_end:∀(k:Nat) (s:List Bool×List (Nat×Int)),cnt s.1 < k->∀t,(elimG why k s).1.getD t false=true->why (elimG why k s).1 t=none
 |0,s,h,_=>by omega
 |k+1,s,h,t=>by
  unfold elimG;cases he:(passG why (List.range s.1.length) s).2.length==s.2.length
  ·have hne:(passG why (List.range s.1.length) s).2.length≠s.2.length:=by simpa using he
   have hc:=pass_cnt (why:=why) (List.range s.1.length) s;exact elim_end k _ (by omega) t
  intro ht;have hl:t < s.1.length:=by
   by_cases e:t < s.1.length
   ·exact e
   rw [cond_true,Qk,List.getElem?_eq_none (by omega)]at ht;cases ht
  exact(pass_none _ _ (by simpa using he)).2 t (List.mem_range.2 hl) ht
theorem pass_keep {S:List Bool->Prop}(hS:∀(al:List Bool) (t:Nat) (i:Int),S al->al.getD t false=true->why al t=some i->S (al.set t false)):∀(r:List Nat) (s:List Bool×List (Nat×Int)),S s.1->S (passG why r s).1
 |[],_,h=>h
 |t :: r,s,h=>by
  rw [pass_cons];refine pass_keep hS r _ ?_;rcases step_cases (why:=why) s t with⟨e,_⟩|⟨i,h1,h2,e⟩
  ·rw [e];exact h
  rw [e];exact hS _ _ _ h h1 h2
theorem elim_keep {S:List Bool->Prop}(hS:∀(al:List Bool) (t:Nat) (i:Int),S al->al.getD t false=true->why al t=some i->S (al.set t false)):∀(k:Nat) (s:List Bool×List (Nat×Int)),S s.1->S (elimG why k s).1
 |0,_,h=>h
 |k+1,s,h=>by
  unfold elimG;cases(passG why (List.range s.1.length) s).2.length==s.2.length
  ·exact elim_keep hS k _ (pass_keep hS _ _ h)
  exact h
end
section
variable {why:List Bool->Nat->Option Int} {lk:List Bool->Nat->Int->Bool} (hwl:∀al t i,why al t=some i->lk al t i=true)
include hwl
def Replays(lk:List Bool->Nat->Int->Bool)(al0:List Bool)(s:List Bool×List (Nat×Int)):Prop:=checkG lk (s.2.map Prod.fst) (s.2.map Prod.snd) al0=some s.1
end
section
variable {l:List (List Nd)} {t0:Tr} (hB:BaseOk l t0)
include hB
theorem th_at {s:Tr}(hs:s∈l.map treeOf):∃i,l[i]?=some (canon s)/\i < l.length/\∀t,th l t s=t.testBit i:=by
 obtain⟨_,hm⟩:=(mem_trees hB.can).1 hs;obtain⟨i,hi,e⟩:=List.getElem_of_mem hm;have hg:l[i]?=some (canon s):=by rw [Qv hi,e]
 refine⟨i,hg,hi,fun t=> ?_⟩;unfold th;rw [place_at hB.nodup hg,decide_eq_true (by omega),cond_true,Int.toNat_natCast]
theorem base_get {i:Nat} {c:List Nd}(hi:l[i]?=some c):∃s,Xf s/\c=canon s/\isBase s.top=true/\s∈l.map treeOf:=by
 obtain⟨s,hs,e,hb⟩:=hB.can c (List.mem_of_getElem? hi);exact⟨s,hs,e,hb,(mem_trees hB.can).2 ⟨hs,e▸List.mem_of_getElem? hi⟩⟩
theorem knows_mem {k:Kn} :k∈knowsN l↔∃i n a,.one n a∈l.map treeOf/\l[i]?=some (canon (.one n a))/\k=⟨n.i,i,tabN l (canon a)⟩:=by
 unfold knowsN;rw [List.mem_flatMap];constructor
 ·rintro⟨i,hi,hk⟩;have hil:=List.mem_range.1 hi;have hg:l[i]?=some (l.getD i []):=by rw [Qk,Qv hil];rfl
  obtain⟨s,hs,e,hb,hm⟩:=base_get hB hg;rw [e]at hk hg;unfold knOf at hk;rw [hs.last]at hk;cases ho:s.top.op==9
  ·rw [ho]at hk;cases hk
  rw [ho]at hk;have ho9:s.top.op=9:=by simpa using ho
  cases s with
  |leaf n=>have:=hs.xp.1.1.1;rw [show n.op=9 from ho9]at this;cases this
  |two n a b=>have:=hs.xp.1.1.2.1;rw [show n.op=9 from ho9]at this;cases this
  |one n a =>
   obtain⟨_,e2,_,e4,_⟩:=last_one hs.check hs.tree;rw [e2,e4]at hk;exact⟨i,n,a,hm,hg,by simpa using hk⟩
 rintro⟨i,n,a,hm,hg,rfl⟩;have hil:=(List.getElem?_eq_some_iff.1 hg).1;obtain⟨hs,_⟩:=(mem_trees hB.can).1 hm;refine⟨i,List.mem_range.2 hil,?_⟩;have e:l.getD i []=canon (.one n a):=by rw [Qk,hg];rfl
 obtain⟨e1,e2,_,e4,_⟩:=last_one hs.check hs.tree;unfold knOf;rw [e,e1,e2,e4,(hB.closed.know n a hm).1];simp
theorem comms_mem {k:Cm} :k∈commsN l↔∃i n a b,.two n a b∈l.map treeOf/\l[i]?=some (canon (.two n a b))/\k=⟨i,n.g,tabN l (canon a),tabN l (canon b),partsN l (canon (.two n a b))⟩:=by
 unfold commsN;rw [List.mem_flatMap];constructor
 ·rintro⟨i,hi,hk⟩;have hil:=List.mem_range.1 hi;have hg:l[i]?=some (l.getD i []):=by rw [Qk,Qv hil];rfl
  obtain⟨s,hs,e,hb,hm⟩:=base_get hB hg;rw [e]at hk hg;unfold cmOf at hk;rw [hs.last]at hk;cases ho:s.top.op==13
  ·rw [ho]at hk;cases hk
  rw [ho]at hk;obtain⟨n,a,b,rfl,_⟩:=top_two hs (by simpa using ho);obtain⟨_,e2,e3,e4⟩:=last_two hs.check hs.tree;rw [e2,e3,e4]at hk;exact⟨i,n,a,b,hm,hg,by simpa using hk⟩
 rintro⟨i,n,a,b,hm,hg,rfl⟩;have hil:=(List.getElem?_eq_some_iff.1 hg).1;obtain⟨hs,_⟩:=(mem_trees hB.can).1 hm;refine⟨i,List.mem_range.2 hil,?_⟩;have e:l.getD i []=canon (.two n a b):=by rw [Qk,hg];rfl
 obtain⟨e1,e2,e3,e4⟩:=last_two hs.check hs.tree;unfold cmOf;rw [e,e1,e2,e3,e4,(hB.closed.com n a b hm).1];simp
end
theorem refl_iff {lg:Int} :reflN lg=true↔refl3 lg:=by
 unfold reflN refl3;simp
theorem fold_bits:∀(L:List Nat) (p j:Nat),(L.foldl (fun p x=>p|||2^x) p).testBit j=(p.testBit j||decide (j∈L))
 |[],p,j=>by simp
 |x :: r,p,j=>by
  rw [List.foldl_cons,fold_bits r,Nat.testBit_or,Nat.testBit_two_pow];by_cases h:x=j
  ·subst h;simp
  have h':¬j=x:=fun e=>h e.symm
  simp [h,h',List.mem_cons]
theorem and_sub {t F:Nat} :((t&&&F)==F)=true↔∀j,F.testBit j=true->t.testBit j=true:=by
 rw [beq_iff_eq];constructor
 ·intro h j hj;have:=congrArg (fun x=>x.testBit j) h;simp only [Nat.testBit_and,hj,Bool.and_true]at this;exact this
 intro h;refine Nat.eq_of_testBit_eq fun j=> ?_
 rw [Nat.testBit_and];cases hj:F.testBit j
 ·simp
 rw [h j hj];rfl
section
variable {l:List (List Nd)} {t0:Tr} (hB:BaseOk l t0)
include hB
theorem parts_iff {n:Nd} {a b:Tr}(hm:.two n a b∈l.map treeOf)(t:Nat):((t&&&partsN l (canon (.two n a b)))==partsN l (canon (.two n a b)))=true↔∀i:Nat,i < 4->gbit n.g i=true->th l t (unfT i n a b)=true:=by
 obtain⟨hs,_⟩:=(mem_trees hB.can).1 hm;obtain⟨_,e2,_,_⟩:=last_two hs.check hs.tree;have hu:∀i,i < 4->gbit n.g i=true->unfN i (canon (.two n a b))=canon (unfT i n a b):=fun i hi hg=>by
  obtain⟨hx,_⟩:=(mem_trees hB.can).1 ((hB.closed.com n a b hm).2.2.2.2.2 i hi hg);rw [hs.unf hi,hx.short]
 have hth:∀i,i < 4->gbit n.g i=true->th l t (unfT i n a b)=t.testBit (placeN l (unfN i (canon (.two n a b)))).toNat:=fun i hi hg=>by
  obtain⟨j,hj,_,h⟩:=th_at hB ((hB.closed.com n a b hm).2.2.2.2.2 i hi hg);rw [h,hu i hi hg,place_at hB.nodup hj,Int.toNat_natCast]
 have hpe:partsN l (canon (.two n a b))=(((List.range 4).filter fun i=>gbit n.g i).map fun i=>(placeN l (unfN i (canon (.two n a b)))).toNat).foldl (fun p x=>p|||2^x) 0:=by
  unfold partsN;rw [e2,List.foldl_map]
 rw [and_sub,hpe];constructor
 ·intro h i hi hg;rw [hth i hi hg];refine h _ ?_;rw [fold_bits];simp only [Nat.zero_testBit,Bool.false_or,decide_eq_true_iff,List.mem_map];exact⟨i,List.mem_filter.2 ⟨List.mem_range.2 hi,hg⟩,rfl⟩
 intro h j hj;rw [fold_bits]at hj;simp only [Nat.zero_testBit,Bool.false_or,decide_eq_true_iff,List.mem_map]at hj;obtain⟨i,hi,rfl⟩:=hj;obtain⟨h1,h2⟩:=List.mem_filter.1 hi;have h1:=List.mem_range.1 h1;rw [<-hth i h1 h2];exact h i h1 h2
theorem hold_ev {n:Nd} {a:Tr}(hm:.one n a∈l.map treeOf) {u:Nat}(hu:u < 2^l.length):(tabN l (canon a)).getD u false=ev (th l u) a:=by
 obtain⟨hs,_⟩:=(mem_trees hB.can).1 hm;rw [tab_get hs.of_one.check hu,hs.of_one.tree]
theorem com_ev {n:Nd} {a b:Tr}(hm:.two n a b∈l.map treeOf) {u:Nat}(hu:u < 2^l.length):(tabN l (canon a)).getD u false=ev (th l u) a/\(tabN l (canon b)).getD u false=ev (th l u) b:=by
 obtain⟨hs,_⟩:=(mem_trees hB.can).1 hm;rw [tab_get hs.of_two.1.check hu,hs.of_two.1.tree,tab_get hs.of_two.2.check hu,hs.of_two.2.tree];exact⟨rfl,rfl⟩
theorem coh_iff {lg:Int} {t:Nat}(ht:t < 2^l.length):coherentN lg (knowsN l) (commsN l) t=true↔Coh lg (l.map treeOf) (th l t):=by
 unfold coherentN;rw [Bool.and_eq_true,List.all_eq_true,List.all_eq_true];constructor
 ·rintro⟨h1,h2⟩;refine⟨fun n a b hm=> ?_,fun hr n a hm hth=> ?_⟩
  ·obtain⟨i,hg,_,hi⟩:=th_at hB hm;have:=h1 _ ((comms_mem hB).2 ⟨i,n,a,b,hm,hg,rfl⟩);rw [beq_iff_eq]at this;simp only at this;rw [hi,this,parts_iff hB hm]
  obtain⟨i,hg,_,hi⟩:=th_at hB hm;have:=h2 _ ((knows_mem hB).2 ⟨i,n,a,hm,hg,rfl⟩);simp only at this;rw [(refl_iff).2 hr,<-hi,hth,hold_ev hB hm ht]at this
  simpa using this
 rintro⟨h1,h2⟩;constructor
 ·intro c hc;obtain⟨i,n,a,b,hm,hg,rfl⟩:=(comms_mem hB).1 hc;obtain⟨j,hg',_,hi⟩:=th_at hB hm;have hij:j=i:=by
   have e1:=place_at hB.nodup hg;have e2:=place_at hB.nodup hg';omega
  subst hij;rw [beq_iff_eq,Bool.eq_iff_iff,parts_iff hB hm,<-h1 n a b hm,hi]
 intro k hk;obtain⟨i,n,a,hm,hg,rfl⟩:=(knows_mem hB).1 hk;obtain⟨j,hg',_,hi⟩:=th_at hB hm;have hij:j=i:=by
  have e1:=place_at hB.nodup hg;have e2:=place_at hB.nodup hg';omega
 subst hij;simp only;cases hr:reflN lg
 ·rfl
 rw [<-hi,hold_ev hB hm ht];cases hth:th l t (.one n a)
 ·rfl
 rw [h2 ((refl_iff).1 hr) n a hm hth];rfl
theorem poss_iff {lg:Int} {i:Int} {t u:Nat}(hu:u < 2^l.length):possibleN lg (knowsN l) i t u=true↔Poss lg (l.map treeOf) i (th l t) (th l u):=by
 unfold possibleN Poss;rw [List.all_eq_true];constructor
 ·intro h n a hm hni;obtain⟨j,hg,_,hi⟩:=th_at hB hm;have:=h _ ((knows_mem hB).2 ⟨j,n,a,hm,hg,rfl⟩);simp only at this;rw [hold_ev hB hm hu,<-hi,<-hi]at this;have hne:(n.i !=i)=false:=by simpa using hni
  rw [hne]at this
  simpa using this
 intro h k hk;obtain⟨j,n,a,hm,hg,rfl⟩:=(knows_mem hB).1 hk;obtain⟨j',hg',_,hi⟩:=th_at hB hm;have hij:j'=j:=by
  have e1:=place_at hB.nodup hg;have e2:=place_at hB.nodup hg';omega
 subst hij;simp only;rw [hold_ev hB hm hu,<-hi,<-hi];by_cases hni:n.i=i
 ·rw [h n a hm hni,Bool.or_true]
 have:(n.i !=i)=true:=by simpa using hni
 rw [this];rfl
end
theorem take_snoc' {α:Type} {l:List α} {k:Nat} {a:α}(h:l[k]?=some a):l.take (k+1)=l.take k++ [a]:=by
 obtain⟨hk,e⟩:=List.getElem?_eq_some_iff.1 h;rw [List.take_succ_eq_append_getElem hk,e]
theorem expGo_step {l:List Nd} {k:Nat} {n:Nd}(hn:l[k]?=some n) {d d':List (List Nd)}(h:expGo (l.take k) d=some d'):
 expGo (l.take (k+1)) d=bif decide ((expS n (d'.getD n.x.toNat []) (d'.getD n.y.toNat [])).length=0)then none else some (d'++ [expS n (d'.getD n.x.toNat []) (d'.getD n.y.toNat [])]):=by
 have key:∀(a b:List Nd) (d d':List (List Nd)),expGo a d=some d'->expGo (a++b) d=expGo b d':=by
  intro a
  induction a with
  |nil=>intro b d d' h;injection h with h;subst h;rfl
  |cons x r ih =>
   intro b d d' h;simp only [expGo,List.cons_append]at h⊢;cases hz:decide ((expS x (d.getD x.x.toNat []) (d.getD x.y.toNat [])).length=0)
   ·rw [hz]at h;exact ih b _ _ h
   rw [hz]at h;cases h
 rw [take_snoc' hn,key _ _ _ _ h];simp only [expGo]
theorem expGo_none {l:List Nd} {k:Nat} {d:List (List Nd)}(h:expGo (l.take k) d=none):expGo l d=none:=by
 have key:∀(a b:List Nd) (d:List (List Nd)),expGo a d=none->expGo (a++b) d=none:=by
  intro a
  induction a with
  |nil=>intro b d h;cases h
  |cons x r ih =>
   intro b d h;simp only [expGo,List.cons_append]at h⊢;cases hz:decide ((expS x (d.getD x.x.toNat []) (d.getD x.y.toNat [])).length=0)
   ·rw [hz]at h;exact ih b _ h
   rfl
 have:=key _ (l.drop k) d h
 rwa [List.take_append_drop]at this
theorem expS_congr {n:Nd} {a a' b b':List Nd}(hx:hasX n.op=true->a=a')(hy:hasY n.op=true->b=b')(ho:tyOp n.op):expS n a b=expS n a' b':=by
 have hop:n.op=1\/n.op=2\/n.op=3\/n.op=4\/n.op=5\/n.op=6\/n.op=7\/n.op=8\/n.op=9\/n.op=10\/n.op=11\/n.op=13:=by unfold tyOp at ho;omega
 unfold expS;rcases hop with h|h|h|h|h|h|h|h|h|h|h|h
 ·simp [h]
 ·simp [h]
 ·simp [h]
 ·rw [hx (by rw [h];rfl)];simp [h]
 ·rw [hx (by rw [h];rfl),hy (by rw [h];rfl)]
 ·rw [hx (by rw [h];rfl),hy (by rw [h];rfl)]
 ·rw [hx (by rw [h];rfl),hy (by rw [h];rfl)]
 ·rw [hx (by rw [h];rfl),hy (by rw [h];rfl)]
 ·rw [hx (by rw [h];rfl)];simp [h]
 ·rw [hx (by rw [h];rfl)];simp [h]
 ·rw [hx (by rw [h];rfl)];simp [h]
 rw [hx (by rw [h];rfl),hy (by rw [h];rfl)]
theorem ands_ex:∀(r:List Tr) (t:Tr),t.all exOp->(∀u∈r,u.all exOp)->(andsT t r).all exOp
 |[],_,ht,_=>ht
 |u :: r,t,ht,hr=>ands_ex r _ ⟨.inl ⟨by decide,by decide⟩,ht,hr u (List.mem_cons_self ..)⟩ (fun v hv=>hr v (List.mem_cons_of_mem _ hv))
theorem all_ex:∀(l:List Tr),(∀u∈l,u.all exOp)->(allT l).all exOp
 |[],_=> .inl ⟨by decide,by decide⟩
 |t :: r,h=>ands_ex r t (h t (List.mem_cons_self ..)) (fun v hv=>h v (List.mem_cons_of_mem _ hv))
theorem expM_ex {n:Nd} {a b:Tr}(ho:tyOp n.op)(ha:hasX n.op=true->a.all exOp)(hb:hasY n.op=true->b.all exOp):(expM n a b).all exOp:=by
 unfold expM;by_cases h10:n.op=10
 ·rw [if_pos h10];have h:=ha (by rw [h10];rfl);exact⟨.inl ⟨by decide,by decide⟩,.inl ⟨show(1:Int)<=9 by decide,show(9:Int)<=9 by decide⟩,.inl ⟨by decide,by decide⟩,h⟩
 rw [if_neg h10];by_cases h11:n.op=11
 ·rw [if_pos h11];have h:=ha (by rw [h11];rfl);refine all_ex _ fun u hu=> ?_
  obtain⟨i,_,rfl⟩:=List.mem_map.1 hu;exact⟨.inl ⟨show(1:Int)<=9 by decide,show(9:Int)<=9 by decide⟩,h⟩
 rw [if_neg h11];have hn:exOp n:=by unfold tyOp at ho;unfold exOp;omega
 unfold mkTr;cases h2:hasY n.op
 ·cases h1:hasX n.op
  ·exact hn
  exact⟨hn,ha h1⟩
 exact⟨hn,ha (hasX_of_hasY h2),hb h2⟩
theorem getD_range {α:Type}(g:Nat->α)(d:α) {k j:Nat}(h:j < k):((List.range k).map g).getD j d=g j:=by
 rw [Qk,List.getElem?_map,List.getElem?_range h];rfl
theorem expGo_trees {c:List Nd}(hw:Wf c)(hh:∀n∈c,headOk n)(hl:∀n∈c,tyOp n.op):∀(k:Nat) (d:List (List Nd)),k<=c.length->expGo (c.take k) []=some d->
 d=(List.range k).map (fun j=>canon (expT (tr c j)))/\∀j,j < k->Xf (expT (tr c j))
 |0,d,_,h=>by
  injection h with h;exact⟨h.symm,fun j hj=>absurd hj (by omega)⟩
 |k+1,d,hk,h=>by
  obtain⟨n,hn⟩:∃n,c[k]?=some n:=⟨_,List.getElem?_eq_getElem (by omega)⟩;cases hd:expGo (c.take k) []with
  |none =>
   have hp:c.take k=(c.take (k+1)).take k:=by rw [List.take_take];congr 1;omega
   rw [hp]at hd;rw [expGo_none hd]at h;cases h
  |some d' =>
   obtain⟨e1,e2⟩:=expGo_trees hw hh hl k d' (by omega) hd;rw [expGo_step hn hd]at h;have hm:=List.mem_of_getElem? hn;obtain⟨hx,hy⟩:=hw k n hn;have gx:hasX n.op=true->d'.getD n.x.toNat []=shortT (expT (tr c n.x.toNat)):=fun h1=>by
    have:=hx h1;rw [e1,getD_range (fun j=>canon (expT (tr c j))) [] (by omega),(e2 _ (by omega)).short]
   have gy:hasY n.op=true->d'.getD n.y.toNat []=shortT (expT (tr c n.y.toNat)):=fun h1=>by
    have:=hy h1;rw [e1,getD_range (fun j=>canon (expT (tr c j))) [] (by omega),(e2 _ (by omega)).short]
   have hE:=expS_short (a:=expT (tr c n.x.toNat)) (b:=expT (tr c n.y.toNat)) (hh n hm) (hl n hm) (fun h1=>by have:=hx h1;exact(e2 _ (by omega)).xp.1) (fun h1=>by have:=hy h1;exact(e2 _ (by omega)).xp.1);have hX:=expM_ex (a:=expT (tr c n.x.toNat)) (b:=expT (tr c n.y.toNat)) (hl n hm) (fun h1=>by have:=hx h1;exact(e2 _ (by omega)).xp.2) (fun h1=>by have:=hy h1;exact(e2 _ (by omega)).xp.2);have ht:expM n (expT (tr c n.x.toNat)) (expT (tr c n.y.toNat))=expT (tr c k):=by rw [tr_eq hw hn,expT_mk]
   rw [expS_congr gx gy (hl n hm),hE.1,ht]at h;rw [ht]at hE hX;cases hz:decide ((shortT (expT (tr c k))).length=0)
   ·rw [hz]at h;injection h with h;have hlen:(canon (expT (tr c k))).length<=200:=by
     by_cases e:(canon (expT (tr c k))).length<=200
     ·exact e
     have:=of_decide_eq_false hz;rw [short_long (by omega)]at this;exact absurd rfl this
    rw [short_fit hlen,e1]at h;refine⟨?_,fun j hj=> ?_⟩
    ·rw [<-h,List.range_succ,List.map_append];rfl
    by_cases e:j < k
    ·exact e2 j e
    have:j=k:=by omega
    subst this;exact⟨⟨hE.2,hX⟩,hlen⟩
   rw [hz]at h;cases h
theorem mask_bits {l:List Nd}(h:fragMask l&&&500=0):∀n∈l,(fragOf n.op).toNat&&&500=0:=by
 have key:∀(l:List Nd) (m:Nat),(l.foldl (fun m n=>m|||(fragOf n.op).toNat) m)&&&500=0->m&&&500=0/\∀n∈l,(fragOf n.op).toNat&&&500=0:=by
  intro l
  induction l with
  |nil=>intro m h;exact⟨h,fun n hn=>by cases hn⟩
  |cons a r ih =>
   intro m h;obtain⟨h1,h2⟩:=ih _ h;rw [Nat.and_or_distrib_right]at h1;have l1:m&&&500<=m&&&500|||(fragOf a.op).toNat&&&500:=Nat.left_le_or;have l2:(fragOf a.op).toNat&&&500<=m&&&500|||(fragOf a.op).toNat&&&500:=Nat.right_le_or;refine⟨by omega,fun n hn=> ?_⟩;rcases List.mem_cons.1 hn with rfl|hn
   ·omega
   exact h2 n hn
 exact(key l 0 h).2
theorem lang_ops {f:List Nd}(hc:check f=0)(hl:langBad f=false):∀n∈compactN f,tyOp n.op:=by
 intro n hn;unfold langBad fragsN at hl;have hb:=mask_bits (by simpa using hl) n hn;have ho:=(isOp_iff n.op).1 ((compactN_props hc).2.2.2 n hn).1;have:n.op=1\/n.op=2\/n.op=3\/n.op=4\/n.op=5\/n.op=6\/n.op=7\/n.op=8\/n.op=9\/n.op=10\/n.op=11\/n.op=12\/n.op=13\/n.op=14\/n.op=15\/n.op=16\/n.op=17\/n.op=18\/n.op=19\/n.op=20\/n.op=21:=by omega
 unfold tyOp;rcases this with h|h|h|h|h|h|h|h|h|h|h|h|h|h|h|h|h|h|h|h|h <;> first|omega|(rw [h]at hb;exact absurd hb (by decide))
theorem expand_tree {f:List Nd}(hc:check f=0)(hl:langBad f=false)(hne:(expandN f).length≠0):Xf (expT (treeOf f))/\expandN f=canon (expT (treeOf f)):=by
 obtain⟨hw,_,hp,hh⟩:=compactN_props hc;unfold expandN at hne⊢;cases hd:expGo (compactN f) []with
 |none=>rw [hd]at hne;exact absurd rfl hne
 |some d =>
  have h:=expGo_trees hw hh (lang_ops hc hl) (compactN f).length d (Nat.le_refl _) (by rw [List.take_of_length_le (Nat.le_refl _)];exact hd);obtain⟨e1,e2⟩:=h;have et:tr (compactN f) ((compactN f).length - 1)=treeOf f:=treeOf_compact hc;have hx:=e2 ((compactN f).length - 1) (by omega);rw [et]at hx;refine⟨hx,?_⟩;show d.getLastD []=_;obtain⟨m,hm⟩:∃m,(compactN f).length=m+1:=⟨(compactN f).length - 1,by omega⟩;rw [e1,hm,List.range_succ,List.map_append];rw [hm]at et;simp only [List.map_cons,List.map_nil,List.getLastD_concat];rw [<-et];rfl
end Go.Proofs.YtbfeodammikajaaGreat
