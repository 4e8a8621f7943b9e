/- The elimination of types tells the truth. -/
import Derived.Test.YtbfeodammikajaaGreatM01
import Derived.Test.YtbfeodammikajaaGreatM10
import Derived.Test.YtbfeodammikajaaGreatM09
import Derived.Test.YtbfeodammikajaaGreatM07
import Derived.Deep.MidRow
import Derived.Laws.Bits64b
import Derived.OrdersHeld
import Derived.RegionTactic
import Derived.Deep.RegionHeld
namespace Go.Proofs.YtbfeodammikajaaGreat
set_option maxRecDepth 100000
set_option maxHeartbeats 128000000
theorem find_neg {lg:Int} {ks:List Kn} {al:List Bool} {a:Int} {t:Nat} {wt:Nat->Bool} :nextN lg ks al a t wt < 0↔∀u,u < al.length->nextP lg ks al a t wt u=false:=by
 unfold nextN;cases h:(List.range al.length).find? (nextP lg ks al a t wt)with
 |none =>
  rw [List.find?_eq_none]at h;refine⟨fun _ u hu=> ?_,fun _=>by decide⟩;have:=h u (List.mem_range.2 hu)
  simpa using this
 |some k =>
  obtain⟨h1,h2,_⟩:=List.find?_range_eq_some.1 h;refine⟨fun hn=> ?_,fun hn=> ?_⟩
  ·simp only at hn;omega
  rw [hn k (List.mem_range.1 h2)]at h1;cases h1
theorem getD_lt {al:List Bool} {t:Nat}(h:al.getD t false=true):t < al.length:=by
 by_cases e:t < al.length
 ·exact e
 rw [Qk,List.getElem?_eq_none (by omega)]at h;cases h
theorem path_iff {lg:Int} {ks:List Kn} {al:List Bool} {c:Cm} {t:Nat} :pathN lg ks al c t=true↔∃u,Rch (fun a b=>stepB lg ks al c a b=true) t u/\c.y.getD u false=false:=by
 simp [pathN]
theorem ev_num {l:List (List Nd)} {M:KM} {w:M.W} {t:Nat}(h:∀s∈l.map treeOf,th l t s=thW M w s) {f:Tr}(hc:cov (l.map treeOf) f)(hl:lang f):ev (th l t) f=ev (thW M w) f:=by
 rw [Bool.eq_iff_iff,evW w hc hl];exact ev_sat (fun s hs=>by rw [h s hs];exact thW_iff) f hc hl
theorem num_of(p:Nat->Bool):∀n:Nat,∃t,t < 2^n/\∀i,i < n->t.testBit i=p i
 |0=>⟨0,by simp,fun i h=>absurd h (by omega)⟩
 |n+1=>by
  obtain⟨t,h1,h2⟩:=num_of p n;cases hp:p n
  ·refine⟨t,by rw [Nat.pow_succ];omega,fun i hi=> ?_⟩;by_cases e:i < n
   ·exact h2 i e
   have:i=n:=by omega
   subst this;rw [hp,Nat.testBit_lt_two_pow h1]
  refine⟨t|||2^n,Nat.or_lt_two_pow (by rw [Nat.pow_succ];omega) (by rw [Nat.pow_succ];have:=Nat.two_pow_pos n;omega),fun i hi=> ?_⟩;rw [Nat.testBit_or,Nat.testBit_two_pow];by_cases e:i < n
  ·rw [h2 i e];have:¬n=i:=by omega
   simp [this]
  have:i=n:=by omega
  subst this;simp [hp]
section
variable {l:List (List Nd)} {t0:Tr} (hB:BaseOk l t0) {lg:Int}
include hB
theorem kn_find {i:Nat} {n:Nd} {a:Tr}(hm:.one n a∈l.map treeOf)(hg:l[i]?=some (canon (.one n a))):(knowsN l).find? (fun k=>(k.place:Int)==(i:Int))=some ⟨n.i,i,tabN l (canon a)⟩:=by
 cases h:(knowsN l).find? (fun k=>(k.place:Int)==(i:Int))with
 |none =>
  rw [List.find?_eq_none]at h;have:=h _ ((knows_mem hB).2 ⟨i,n,a,hm,hg,rfl⟩);simp at this
 |some k =>
  obtain⟨j,n',a',hm',hg',rfl⟩:=(knows_mem hB).1 (List.mem_of_find?_eq_some h);have hp:=List.find?_some h;have hij:j=i:=by
   have h0:(j:Int)=(i:Int):=by simpa using hp
   omega
  subst hij;rw [hg]at hg';injection hg' with hg';have:=((mem_trees hB.can).1 hm).1.inj ((mem_trees hB.can).1 hm').1 hg';injection this with e1 e2;rw [e1,e2]
theorem kn_none {i:Nat} {n:Nd} {a b:Tr}(hm:.two n a b∈l.map treeOf)(hg:l[i]?=some (canon (.two n a b))):(knowsN l).find? (fun k=>(k.place:Int)==(i:Int))=none:=by
 rw [List.find?_eq_none];intro k hk;obtain⟨j,n',a',hm',hg',rfl⟩:=(knows_mem hB).1 hk;intro hp;have hij:j=i:=by
  have h0:(j:Int)=(i:Int):=by simpa using hp
  omega
 subst hij;rw [hg]at hg';injection hg' with hg';have:=((mem_trees hB.can).1 hm).1.inj ((mem_trees hB.can).1 hm').1 hg';cases this
theorem cm_find {i:Nat} {n:Nd} {a b:Tr}(hm:.two n a b∈l.map treeOf)(hg:l[i]?=some (canon (.two n a b))):(commsN l).find? (fun k=>(k.place:Int)==(i:Int))=some ⟨i,n.g,tabN l (canon a),tabN l (canon b),partsN l (canon (.two n a b))⟩:=by
 cases h:(commsN l).find? (fun k=>(k.place:Int)==(i:Int))with
 |none =>
  rw [List.find?_eq_none]at h;have:=h _ ((comms_mem hB).2 ⟨i,n,a,b,hm,hg,rfl⟩);simp at this
 |some k =>
  obtain⟨j,n',a',b',hm',hg',rfl⟩:=(comms_mem hB).1 (List.mem_of_find?_eq_some h);have hp:=List.find?_some h;have hij:j=i:=by
   have h0:(j:Int)=(i:Int):=by simpa using hp
   omega
  subst hij;rw [hg]at hg';injection hg' with hg';have:=((mem_trees hB.can).1 hm).1.inj ((mem_trees hB.can).1 hm').1 hg';injection this with e1 e2 e3;rw [e1,e2,e3]
theorem step_iff {al:List Bool}(hl:al.length=2^l.length) {i:Nat} {n:Nd} {a b:Tr}(hm:.two n a b∈l.map treeOf)(t u:Nat):
 stepB lg (knowsN l) al ⟨i,n.g,tabN l (canon a),tabN l (canon b),partsN l (canon (.two n a b))⟩ t u=true↔stepT lg (l.map treeOf) (fun t=>al.getD t false=true) (th l) n.g a t u:=by
 unfold stepB stepT;simp only [Bool.and_eq_true,List.any_eq_true,List.mem_range];constructor
 ·rintro⟨h1,h2,i,h3,h4,h5⟩;have hu:u < 2^l.length:=hl▸getD_lt h1;exact⟨h1,by rw [<-(com_ev hB hm hu).1];exact h2,i,h3,h4,(poss_iff hB hu).1 h5⟩
 rintro⟨h1,h2,i,h3,h4,h5⟩;have hu:u < 2^l.length:=hl▸getD_lt h1;exact⟨h1,by rw [(com_ev hB hm hu).1];exact h2,i,h3,h4,(poss_iff hB hu).2 h5⟩
theorem full_of {al:List Bool}(hl:al.length=2^l.length)(hc:∀t,al.getD t false=true->coherentN lg (knowsN l) (commsN l) t=true)
 (hw:∀t,al.getD t false=true->∀i:Int,-4<=i->i < l.length->lacksN lg (knowsN l) (commsN l) al t i=false):Full lg (l.map treeOf) (fun t=>al.getD t false=true) (th l) where
 coh t ht:=(coh_iff hB (hl▸getD_lt ht)).1 (hc t ht)
 ser hs t ht i ho:=by
  obtain⟨n,a,hm,hi⟩:=ho;obtain⟨j,hg,_,_⟩:=th_at hB hm;obtain⟨_,_,_,h0,h4⟩:=hB.closed.know n a hm;have h:=hw t ht (-1 - i) (by omega) (by omega);unfold lacksN at h;rw [decide_eq_true (show -1 - i < 0 by omega),cond_true]at h;have hlg:(lg==1||lg==5)=true:=by rcases hs with e|e <;> rw [e] <;> rfl
  have hany:(knowsN l).any (fun k=>k.agent== -1 - (-1 - i))=true:=by
   rw [List.any_eq_true];exact⟨_,(knows_mem hB).2 ⟨j,n,a,hm,hg,rfl⟩,by simp;omega⟩
  rw [hlg,hany,Bool.true_and,Bool.true_and,decide_eq_false_iff_not,find_neg]at h;obtain⟨u,hu⟩:=Classical.not_forall.1 h;obtain⟨hul,hp⟩:=Classical.not_imp.1 hu;have hp:nextP lg (knowsN l) al (-1 - (-1 - i)) t (fun _=>true) u=true:=by simpa using hp
  unfold nextP at hp;rw [Bool.and_eq_true,Bool.true_and,show -1 - (-1 - i)=i by omega]at hp;exact⟨u,hp.1,(poss_iff hB (by omega)).1 hp.2⟩
 know t ht n a hm hf:=by
  obtain⟨j,hg,hj,hth⟩:=th_at hB hm;have h:=hw t ht (j:Int) (by omega) (by omega);unfold lacksN at h;rw [decide_eq_false (show ¬(j:Int) < 0 by omega),cond_false,kn_find hB hm hg]at h;simp only [Int.toNat_natCast]at h;rw [<-hth,hf,Bool.not_false,Bool.true_and,decide_eq_false_iff_not,find_neg]at h;obtain⟨u,hu⟩:=Classical.not_forall.1 h;obtain⟨hul,hp⟩:=Classical.not_imp.1 hu;have hp:nextP lg (knowsN l) al n.i t (fun u=> !(tabN l (canon a)).getD u false) u=true:=by simpa using hp
  unfold nextP at hp;rw [Bool.and_eq_true,Bool.and_eq_true]at hp;have hp2:(!(tabN l (canon a)).getD u false)=true:=hp.2.1;rw [hold_ev hB hm (by omega)]at hp2;exact⟨u,hp.1,by simpa using hp2,(poss_iff hB (by omega)).1 hp.2.2⟩
 com t ht n a b hm hf:=by
  obtain⟨j,hg,hj,hth⟩:=th_at hB hm;have h:=hw t ht (j:Int) (by omega) (by omega);unfold lacksN at h;rw [decide_eq_false (show ¬(j:Int) < 0 by omega),cond_false,kn_none hB hm hg,cm_find hB hm hg]at h;simp only [Int.toNat_natCast]at h;rw [<-hth,hf,Bool.not_false,Bool.true_and]at h;have h:pathN lg (knowsN l) al ⟨j,n.g,tabN l (canon a),tabN l (canon b),partsN l (canon (.two n a b))⟩ t=true:=by simpa using h
  rw [path_iff]at h;obtain⟨u,hr,hy⟩:=h;have hr':=hr.mono (fun x y hxy=>(step_iff hB hl hm x y).1 hxy);have hul:al.getD u false=true:=by
   have key:∀x y,Rch (stepT lg (l.map treeOf) (fun t=>al.getD t false=true) (th l) n.g a) x y->al.getD y false=true:=by
    intro x y hxy
    induction hxy with
    |one h=>exact h.1
    |cons _ _ ih=>exact ih
   exact key t u hr'
  exact⟨u,hr',by rw [<-(com_ev hB hm (hl▸getD_lt hul)).2];exact hy⟩
theorem poss_num {M:KM} {w v:M.W} {t u:Nat}(ht:∀s∈l.map treeOf,th l t s=thW M w s)(hu:∀s∈l.map treeOf,th l u s=thW M v s) {i:Int}(h:Poss lg (l.map treeOf) i (thW M w) (thW M v)):Poss lg (l.map treeOf) i (th l t) (th l u):=by
 intro n a hm hi;obtain⟨_,hc,hla,_,_⟩:=hB.closed.know n a hm;rw [ht _ hm,hu _ hm,ev_num hu hc hla];exact h n a hm hi
theorem num_ex {M:KM}(w:M.W):∃t,t < 2^l.length/\∀s∈l.map treeOf,th l t s=thW M w s:=by
 obtain⟨t,h1,h2⟩:=num_of (fun i=>thW M w (treeOf (l.getD i []))) l.length;refine⟨t,h1,fun s hs=> ?_⟩;obtain⟨i,hg,hi,hth⟩:=th_at hB hs;rw [hth,h2 i hi,Qk,hg,Option.getD_some,((mem_trees hB.can).1 hs).1.tree]
def Holds(l:List (List Nd))(M:KM)(al:List Bool):Prop:=∀(t:Nat) (w:M.W),t < 2^l.length->(∀s∈l.map treeOf,th l t s=thW M w s)->al.getD t false=true
theorem world_keeps {M:KM}(hM:M.In lg)(hlg:lg<=6) {al:List Bool}(hl:al.length=2^l.length)(hS:Holds l M al) {t:Nat} {w:M.W}(ht:t < 2^l.length)(hw:∀s∈l.map treeOf,th l t s=thW M w s)(i:Int):lacksN lg (knowsN l) (commsN l) al t i=false:=by
 have hF:=world_full hB.closed hM hlg;unfold lacksN;by_cases hi:i < 0
 ·rw [decide_eq_true hi,cond_true];cases hlg2:(lg==1||lg==5)
  ·rfl
  rw [Bool.true_and];have hs:lg=1\/lg=5:=by simpa using hlg2
  cases hany:(knowsN l).any (fun k=>k.agent== -1 - i)
  ·rfl
  rw [Bool.true_and,decide_eq_false_iff_not,find_neg];intro hno;rw [List.any_eq_true]at hany;obtain⟨k,hk,he⟩:=hany;obtain⟨j,n,a,hm,hg,rfl⟩:=(knows_mem hB).1 hk;have he:n.i= -1 - i:=by simpa using he
  obtain⟨v,_,hp⟩:=hF.ser hs w trivial (-1 - i) ⟨n,a,hm,he⟩;obtain⟨u,hu,huv⟩:=num_ex hB v;have:=hno u (by omega);unfold nextP at this;rw [hS u v hu huv,(poss_iff hB hu).2 (poss_num hB hw huv hp)]at this;cases this
 rw [decide_eq_false hi,cond_false];obtain⟨j,rfl⟩:=Int.eq_ofNat_of_zero_le (show 0<=i by omega);cases hf:(knowsN l).find? (fun k=>(k.place:Int)==(j:Int))with
 |some k =>
  obtain⟨j',n,a,hm,hg,rfl⟩:=(knows_mem hB).1 (List.mem_of_find?_eq_some hf);have hij:j'=j:=by
   have h0:(j':Int)=(j:Int):=by simpa using List.find?_some hf
   omega
  subst hij;obtain⟨j2,hg2,_,hth⟩:=th_at hB hm;have hij:j2=j':=by
   have e1:=place_at hB.nodup hg;have e2:=place_at hB.nodup hg2;omega
  subst hij;simp only [Int.toNat_natCast];rw [<-hth];cases hv:th l t (.one n a)
  ·rw [Bool.not_false,Bool.true_and,decide_eq_false_iff_not,find_neg];intro hno;obtain⟨v,_,he,hp⟩:=hF.know w trivial n a hm (by rw [<-hw _ hm];exact hv);obtain⟨u,hu,huv⟩:=num_ex hB v;have:=hno u (by omega);obtain⟨_,hc,hla,_,_⟩:=hB.closed.know n a hm;unfold nextP at this;simp only at this;rw [hS u v hu huv,(poss_iff hB hu).2 (poss_num hB hw huv hp),hold_ev hB hm hu,ev_num huv hc hla,he]at this;cases this
  rfl
 |none =>
  simp only;cases hf2:(commsN l).find? (fun c=>(c.place:Int)==(j:Int))with
  |none=>rfl
  |some k =>
   obtain⟨j',n,a,b,hm,hg,rfl⟩:=(comms_mem hB).1 (List.mem_of_find?_eq_some hf2);have hij:j'=j:=by
    have h0:(j':Int)=(j:Int):=by simpa using List.find?_some hf2
    omega
   subst hij;obtain⟨j2,hg2,_,hth⟩:=th_at hB hm;have hij:j2=j':=by
    have e1:=place_at hB.nodup hg;have e2:=place_at hB.nodup hg2;omega
   subst hij;simp only [Int.toNat_natCast];rw [<-hth];cases hv:th l t (.two n a b)
   ·rw [Bool.not_false,Bool.true_and,Bool.not_eq_false'];rw [path_iff];obtain⟨v,hr,he⟩:=hF.com w trivial n a b hm (by rw [<-hw _ hm];exact hv);obtain⟨_,hca,hcb,hla,hlb,_⟩:=hB.closed.com n a b hm;have lift:∀(x y:M.W),Rch (stepT lg (l.map treeOf) (fun _=>True) (thW M) n.g a) x y->∀t,t < 2^l.length->(∀s∈l.map treeOf,th l t s=thW M x s)->
     ∃u,u < 2^l.length/\(∀s∈l.map treeOf,th l u s=thW M y s)/\Rch (stepT lg (l.map treeOf) (fun t=>al.getD t false=true) (th l) n.g a) t u:=by
     intro x y hxy
     induction hxy with
     |@one x y h =>
      intro t ht htx;obtain⟨u,hu,huy⟩:=num_ex hB y;obtain⟨_,hx,i,hi,hg,hp⟩:=h;exact⟨u,hu,huy,.one ⟨hS u y hu huy,by rw [ev_num huy hca hla];exact hx,i,hi,hg,poss_num hB htx huy hp⟩⟩
     |@cons x y z h _ ih =>
      intro t ht htx;obtain⟨u,hu,huy⟩:=num_ex hB y;obtain⟨_,hx,i,hi,hg,hp⟩:=h;obtain⟨u2,h1,h2,h3⟩:=ih u hu huy;exact⟨u2,h1,h2,.cons ⟨hS u y hu huy,by rw [ev_num huy hca hla];exact hx,i,hi,hg,poss_num hB htx huy hp⟩ h3⟩
    obtain⟨u,hu,huv,hru⟩:=lift w v hr t ht hw;exact⟨u,hru.mono (fun x y hxy=>(step_iff hB hl hm x y).2 hxy),by rw [(com_ev hB hm hu).2,ev_num huv hcb hlb];exact he⟩
   rfl
end
theorem whyN_some {lg:Int} {ks:List Kn} {cs:List Cm} {m:Nat} {al:List Bool} {t:Nat} {i:Int}(h:whyN lg ks cs m al t=some i):lacksN lg ks cs al t i=true:=by
 unfold whyN at h;exact List.find?_some h
theorem whyN_none {lg:Int} {ks:List Kn} {cs:List Cm} {m:Nat} {al:List Bool} {t:Nat}(h:whyN lg ks cs m al t=none)(i:Int)(h0: -4<=i)(h1:i < m):lacksN lg ks cs al t i=false:=by
 unfold whyN at h;rw [List.find?_eq_none]at h;have:=h i (List.mem_map.2 ⟨(i+4).toNat,List.mem_range.2 (by omega),by omega⟩)
 simpa using this
theorem elim_sub(why:List Bool->Nat->Option Int):∀(k:Nat) (s:List Bool×List (Nat×Int)),Sub2 s.1 (elimG why k s).1:=fun k s =>
 elim_keep (S:=fun al=>Sub2 s.1 al) (fun al t _i h _ _ u hu=>h u (set_sub al t u hu)) k s (fun _ h=>h)
theorem tab_get' {α:Type}(g:Nat->α)(d:α) {n k:Nat}(h:k < n):((List.range n).map g).getD k d=g k:=by
 rw [Qk,List.getElem?_map,List.getElem?_range h];rfl
structure EngOk (lg:Int) (f:List Nd):Prop where
 l0:0<=lg
 l6:lg<=6
 ck:check f=0
 x:Xf (expT (treeOf f))
 e:expandN f=canon (expT (treeOf f))
 b:BaseOk (baseN f).1 (expT (treeOf f))
theorem base_parts {f:List Nd}(h:(baseN f).2=0):check f=0/\langBad f=false/\(expandN f).length≠0/\baseN f=baseOfN (expandN f):=by
 unfold baseN at h⊢;cases hc:check f !=0
 ·rw [hc]at h;cases hl:langBad f
  ·rw [hl]at h;cases hz:decide ((expandN f).length=0)
   ·exact⟨by simpa using hc,rfl,of_decide_eq_false hz,rfl⟩
   rw [hz]at h;cases h
  rw [hl]at h;cases h
 rw [hc]at h;exact absurd h (by simpa using hc)
theorem eng_ok {lg:Int} {f:List Nd}(h:engErr lg f=0):EngOk lg f:=by
 unfold engErr at h;cases ha:decide (lg < 0)||decide (6 < lg)
 ·rw [ha]at h;rw [Bool.or_eq_false_iff,decide_eq_false_iff_not,decide_eq_false_iff_not]at ha;obtain⟨h1,h2,h3,h4⟩:=base_parts h;obtain⟨hx,he⟩:=expand_tree h1 h2 h3;have h5:(baseOfN (canon (expT (treeOf f)))).2=0:=by rw [<-he,<-h4];exact h
  have hb:=base_ok hx h5;rw [<-he,<-h4]at hb;exact⟨by omega,by omega,h1,hx,he,hb⟩
 rw [ha]at h;cases h
section
variable {lg:Int} {f:List Nd}
theorem alive_len(lg:Int)(l:List (List Nd)):(aliveN lg l).length=2^l.length:=by simp [aliveN]
theorem alive_get {l:List (List Nd)} {t:Nat}(ht:t < 2^l.length):(aliveN lg l).getD t false=coherentN lg (knowsN l) (commsN l) t:=tab_get' _ _ ht
theorem end_len:(endN lg f).1.length=2^(baseN f).1.length:=by
 unfold endN elimN;rw [elim_len];exact alive_len _ _
theorem root_get(h:EngOk lg f) {t:Nat}(ht:t < 2^(baseN f).1.length):(rootN f).getD t false=ev (th (baseN f).1 t) (expT (treeOf f)):=by
 unfold rootN;rw [h.e,tab_get h.x.check ht,h.x.tree]
theorem left_iff(h:EngOk lg f):leftN lg f=true↔∃t,(endN lg f).1.getD t false=true/\ev (th (baseN f).1 t) (expT (treeOf f))=true:=by
 unfold leftN satisfiedN;rw [List.any_eq_true];constructor
 ·rintro⟨t,ht,h2⟩;rw [Bool.and_eq_true]at h2;have ht:=List.mem_range.1 ht;rw [end_len]at ht;exact⟨t,h2.1,by rw [<-root_get h ht];exact h2.2⟩
 rintro⟨t,h1,h2⟩;have ht:=getD_lt h1;refine⟨t,List.mem_range.2 ht,?_⟩;rw [end_len]at ht;rw [Bool.and_eq_true,root_get h ht];exact⟨h1,h2⟩
theorem end_full(h:EngOk lg f):Full lg ((baseN f).1.map treeOf) (fun t=>(endN lg f).1.getD t false=true) (th (baseN f).1):=by
 refine full_of h.b end_len (fun t ht=> ?_) (fun t ht i h0 h1=> ?_)
 ·have hs:=elim_sub (whyN lg (knowsN (baseN f).1) (commsN (baseN f).1) (baseN f).1.length) _ (aliveN lg (baseN f).1,[]) t ht;have hl:=getD_lt hs;rw [alive_len]at hl;rw [<-alive_get hl];exact hs
 have:=elim_end (why:=whyN lg (knowsN (baseN f).1) (commsN (baseN f).1) (baseN f).1.length) ((aliveN lg (baseN f).1).length+1) (aliveN lg (baseN f).1,[]) (by have:=cnt_le (aliveN lg (baseN f).1);show cnt (aliveN lg (baseN f).1) < _;omega) t ht;exact whyN_none this i h0 h1
theorem start_holds(h:EngOk lg f) {M:KM}(hM:M.In lg):Holds (baseN f).1 M (aliveN lg (baseN f).1):=fun t w ht hw=>by
 rw [alive_get ht,coh_iff h.b ht];have hc:=world_coh h.b.closed hM w;refine⟨fun n a b hm=> ?_,fun hr n a hm hth=> ?_⟩
 ·rw [hw _ hm,hc.com n a b hm];constructor
  ·intro k i hi hg;rw [hw _ ((h.b.closed.com n a b hm).2.2.2.2.2 i hi hg)];exact k i hi hg
  intro k i hi hg;rw [<-hw _ ((h.b.closed.com n a b hm).2.2.2.2.2 i hi hg)];exact k i hi hg
 obtain⟨_,hca,hla,_,_⟩:=h.b.closed.know n a hm;rw [ev_num hw hca hla];exact hc.know hr n a hm (by rw [<-hw _ hm];exact hth)
theorem holds_set(h:EngOk lg f) {M:KM}(hM:M.In lg)(al:List Bool)(t:Nat)(i:Int)(hl:al.length=2^(baseN f).1.length)(hS:Holds (baseN f).1 M al)(hk:lacksN lg (knowsN (baseN f).1) (commsN (baseN f).1) al t i=true):Holds (baseN f).1 M (al.set t false):=fun u w hu hw=>by
 rw [set_getD];cases e:u==t
 ·exact hS u w hu hw
 have:u=t:=by simpa using e
 subst this;rw [world_keeps h.b hM h.l6 hl hS hu hw i]at hk;cases hk
theorem end_holds(h:EngOk lg f) {M:KM}(hM:M.In lg):Holds (baseN f).1 M (endN lg f).1:=by
 have:=elim_keep (why:=whyN lg (knowsN (baseN f).1) (commsN (baseN f).1) (baseN f).1.length) (S:=fun al=>al.length=2^(baseN f).1.length/\Holds (baseN f).1 M al)
  (fun al t i hS _ hw=>⟨by rw [List.length_set];exact hS.1,holds_set h hM al t i hS.1 hS.2 (whyN_some hw)⟩) ((aliveN lg (baseN f).1).length+1) (aliveN lg (baseN f).1,[]) ⟨alive_len _ _,start_holds h hM⟩
 exact this.2
theorem sat_truth(h:EngOk lg f):leftN lg f=true↔∃M:KM,M.In lg/\∃w,M.sat (treeOf f) w:=by
 rw [left_iff h];constructor
 ·rintro⟨t,h1,h2⟩;have hF:=end_full h;refine⟨modT lg ((baseN f).1.map treeOf) (fun t=>(endN lg f).1.getD t false=true) (th (baseN f).1),modT_in hF h.l6,⟨t,h1⟩,?_⟩;exact(sat_exp (M:=modT lg ((baseN f).1.map treeOf) (fun t=>(endN lg f).1.getD t false=true) (th (baseN f).1)) (treeOf f) ⟨t,h1⟩).1 ((truth h.b.closed hF _ h.b.cov h.x.xp.lang h.x.xp.fact ⟨t,h1⟩).1 h2)
 rintro⟨M,hM,w,hw⟩;obtain⟨t,ht,htw⟩:=num_ex h.b w;refine⟨t,end_holds h hM t w ht htw,?_⟩;rw [ev_num htw h.b.cov h.x.xp.lang,evW w h.b.cov h.x.xp.lang,sat_exp];exact hw
end
theorem nodup_len:∀(m:Nat) (l:List Nat),l.Nodup->(∀u∈l,u < m)->l.length<=m
 |0,l,_,h=>by
  cases l with
  |nil=>simp
  |cons a r=>have:=h a (List.mem_cons_self ..);omega
 |m+1,l,hn,h=>by
  by_cases hm:m∈l
  ·have h1:=nodup_len m (l.erase m) (hn.erase m) (fun u hu=>by
    have h2:=List.mem_of_mem_erase hu;have h3:=h u h2;have h4:u≠m:=fun e=>by
     subst e;exact absurd hu (hn.not_mem_erase)
    omega)
   rw [List.length_erase_of_mem hm]at h1;omega
  have:=nodup_len m l hn (fun u hu=>by
   have h3:=h u hu;have h4:u≠m:=fun e=>hm (e▸hu)
   omega)
  omega
structure Bfs (step:Nat->Nat->Bool) (m t:Nat) (q ps:List Nat):Prop where
 len:ps.length=q.length
 head:q[0]?=some t
 lt:∀u∈q.tail,u < m
 nd:q.tail.Nodup
 par:∀j,1<=j->j < q.length->ps.getD j 0 < j/\step (q.getD (ps.getD j 0) 0) (q.getD j 0)=true
section
variable {step:Nat->Nat->Bool} {m t:Nat} {q ps:List Nat}
theorem Bfs.start(step:Nat->Nat->Bool)(m t:Nat):Bfs step m t [t] [0]:=⟨rfl,rfl,by simp,by simp,fun j h1 h2=>by simp at h2;omega⟩
theorem Bfs.pos(h:Bfs step m t q ps):0 < q.length:=(List.getElem?_eq_some_iff.1 h.head).1
theorem Bfs.qlen(h:Bfs step m t q ps):q.length<=m+1:=by
 have:=nodup_len m q.tail h.nd h.lt;rw [List.length_tail]at this;omega
theorem getD_app {l:List Nat} {x j:Nat}(h:j < l.length):(l++ [x]).getD j 0=l.getD j 0:=by
 rw [Qk,List.getElem?_append_left h,Qk]
theorem getD_last {l:List Nat} {x:Nat} :(l++ [x]).getD l.length 0=x:=by simp
theorem tail_app {l:List Nat} {x:Nat}(h:0 < l.length):(l++ [x]).tail=l.tail++ [x]:=by
 cases l with
 |nil=>simp at h
 |cons a r=>rfl
theorem Bfs.push(h:Bfs step m t q ps) {i u:Nat}(hi:i < q.length)(hu:u < m)(hn:u∉q.tail)(hs:step (q.getD i 0) u=true):Bfs step m t (q++ [u]) (ps++ [i]):=by
 have hp:=h.pos;refine⟨by simp [h.len],?_,?_,?_,fun j h1 h2=> ?_⟩
 ·rw [List.getElem?_append_left hp];exact h.head
 ·rw [tail_app hp];intro x hx;rcases List.mem_append.1 hx with hx|hx
  ·exact h.lt x hx
  rw [List.mem_singleton.1 hx];exact hu
 ·rw [tail_app hp,List.nodup_append];exact⟨h.nd,by simp,fun a ha b hb e=>hn (by rw [List.mem_singleton.1 hb]at e;exact e▸ha)⟩
 by_cases hj:j < q.length
 ·have:=h.par j h1 hj;rw [getD_app (by rw [h.len];exact hj),getD_app hj,getD_app (by omega)];exact this
 have e:j=q.length:=by simp at h2;omega
 subst e;have e2:(ps++ [i]).getD q.length 0=i:=by rw [<-h.len];exact getD_last
 rw [e2,getD_last,getD_app hi];exact⟨hi,hs⟩
theorem mem_tail {l:List Nat} {j:Nat}(h1:1<=j)(h2:j < l.length):l.getD j 0∈l.tail:=by
 cases l with
 |nil=>simp at h2
 |cons a r =>
  obtain⟨k,rfl⟩:∃k,j=k+1:=⟨j - 1,by omega⟩;have hk:k < r.length:=by simpa using h2
  rw [Qk,List.getElem?_cons_succ,Qv hk];exact List.getElem_mem hk
theorem Bfs.reach(h:Bfs step m t q ps):∀j,1<=j->j < q.length->Rch (fun a b=>step a b=true) t (q.getD j 0):=by
 intro j
 induction j using Nat.strongRecOn with
 |_ j ih =>
  intro h1 h2;obtain⟨hp,hs⟩:=h.par j h1 h2;by_cases h0:ps.getD j 0=0
  ·rw [h0]at hs;have e:q.getD 0 0=t:=by rw [Qk,h.head];rfl
   rw [e]at hs;exact .one hs
  exact(ih _ hp (by omega) (by omega)).snoc hs
theorem Bfs.closed(h:Bfs step m t q ps)(hc:∀j,j < q.length->∀u,step (q.getD j 0) u=true->u∈q.tail) {u:Nat}(hr:Rch (fun a b=>step a b=true) t u):u∈q.tail:=by
 have key:∀a b,Rch (fun a b=>step a b=true) a b->(∃j,j < q.length/\q.getD j 0=a)->b∈q.tail:=by
  intro a b hab
  induction hab with
  |one h1 =>
   rintro⟨j,hj,rfl⟩;exact hc j hj _ h1
  |cons h1 _ ih =>
   rintro⟨j,hj,rfl⟩;refine ih ?_;have hm:=hc j hj _ h1;obtain⟨k,hk,e⟩:=List.getElem_of_mem hm;rw [List.length_tail]at hk;refine⟨k+1,by omega,?_⟩;rw [List.getElem_tail]at e;rw [Qk,List.getElem?_eq_getElem (by omega)];exact e
 exact key t u hr ⟨0,h.pos,by rw [Qk,h.head];rfl⟩
end
def Links(step:Nat->Nat->Bool)(t:Nat):List Nat->Prop
 |[]=>True
 |[u]=>step t u=true
 |u :: v :: r=>step v u=true/\Links step t (v :: r)
theorem links_snoc {step:Nat->Nat->Bool} {t:Nat} :∀(l:List Nat) (u:Nat),(∀a,Links step a l->step t u=true->a=u->Links step t (l++ [u]))
 |[],u=>fun _ _ h _=>h
 |[v],u=>fun a h1 h2 e=>by subst e;exact⟨h1,h2⟩
 |v :: x :: r,u=>fun a h1 h2 e=>⟨h1.1,links_snoc (x :: r) u a h1.2 h2 e⟩
def addI(l:List Nat)(i:Int):List Nat:=if 0<=i/\i.toNat∉l then l++ [i.toNat]else l
def NeedK(lg:Int)(ks:List Kn)(l:List Nat)(t:Nat)(k:Kn):Prop:=t.testBit k.place=false->∃u,u∈l/\k.holds.getD u false=false/\possibleN lg ks k.agent t u=true
def NeedC(lg:Int)(ks:List Kn)(al:List Bool)(l:List Nat)(t:Nat)(c:Cm):Prop:=t.testBit c.place=false->∃u,Rch (fun a b=>stepB lg ks al c a b=true/\b∈l) t u/\c.y.getD u false=false
def NeedA(lg:Int)(ks:List Kn)(l:List Nat)(t a:Nat):Prop:=lg=1\/lg=5->∃u,u∈l/\possibleN lg ks (a:Int) t u=true
structure Sel (lg:Int) (ks:List Kn) (cs:List Cm) (al:List Bool) (agents:Nat) (l:List Nat) (t:Nat):Prop where
 know:∀k∈ks,NeedK lg ks l t k
 com:∀c∈cs,NeedC lg ks al l t c
 ser:∀a,a < agents->NeedA lg ks l t a
structure SGrow (al:List Bool) (l l':List Nat):Prop where
 pre:l <+: l'
 nd:l.Nodup->l'.Nodup
 al:(∀u∈l,al.getD u false=true)->∀u∈l',al.getD u false=true
section
variable {lg:Int} {ks:List Kn} {cs:List Cm} {al:List Bool} {agents:Nat} {l l' l'':List Nat} {t:Nat}
theorem SGrow.refl:SGrow al l l:=⟨List.prefix_refl _,id,id⟩
theorem SGrow.trans(h:SGrow al l l')(k:SGrow al l' l''):SGrow al l l'':=⟨h.pre.trans k.pre,fun e=>k.nd (h.nd e),fun e=>k.al (h.al e)⟩
theorem SGrow.sub(h:SGrow al l l'):∀u∈l,u∈l':=fun _ hu=>h.pre.subset hu
theorem SGrow.get(h:SGrow al l l') {k:Nat}(hk:k < l.length):l'.getD k 0=l.getD k 0:=by
 obtain⟨r,rfl⟩:=h.pre;rw [Qk,Qk,List.getElem?_append_left hk]
theorem NeedK.mono {k:Kn}(h:NeedK lg ks l t k)(hs:∀u∈l,u∈l'):NeedK lg ks l' t k:=fun ht=>by
 obtain⟨u,h1,h2⟩:=h ht;exact⟨u,hs u h1,h2⟩
theorem NeedC.mono {c:Cm}(h:NeedC lg ks al l t c)(hs:∀u∈l,u∈l'):NeedC lg ks al l' t c:=fun ht=>by
 obtain⟨u,h1,h2⟩:=h ht;exact⟨u,h1.mono (fun a b hb=>⟨hb.1,hs b hb.2⟩),h2⟩
theorem NeedA.mono {a:Nat}(h:NeedA lg ks l t a)(hs:∀u∈l,u∈l'):NeedA lg ks l' t a:=fun ht=>by
 obtain⟨u,h1,h2⟩:=h ht;exact⟨u,hs u h1,h2⟩
theorem Sel.mono(h:Sel lg ks cs al agents l t)(hs:∀u∈l,u∈l'):Sel lg ks cs al agents l' t :=
 ⟨fun k hk=>(h.know k hk).mono hs,fun c hc=>(h.com c hc).mono hs,fun a ha=>(h.ser a ha).mono hs⟩
theorem addI_mem {i:Int}(h0:0<=i):i.toNat∈addI l i:=by
 unfold addI;by_cases h:i.toNat∈l
 ·rw [if_neg (fun e=>e.2 h)];exact h
 rw [if_pos ⟨h0,h⟩];simp
theorem addI_grow {i:Int}(h:0<=i->al.getD i.toNat false=true):SGrow al l (addI l i):=by
 unfold addI;by_cases h1:0<=i/\i.toNat∉l
 ·rw [if_pos h1];refine⟨List.prefix_append _ _,fun hn=> ?_,fun ha u hu=> ?_⟩
  ·rw [List.nodup_append];exact⟨hn,by simp,fun a ha b hb e=>h1.2 (by rw [List.mem_singleton.1 hb]at e;rwa [<-e])⟩
  rcases List.mem_append.1 hu with hu|hu
  ·exact ha u hu
  rw [List.mem_singleton.1 hu];exact h h1.1
 rw [if_neg h1];exact SGrow.refl
theorem addI_no {i:Int}(h:¬(0<=i/\i.toNat∉l)):addI l i=l:=if_neg h
theorem addI_yes {i:Int}(h0:0<=i)(h:i.toNat∉l):addI l i=l++ [i.toNat]:=if_pos ⟨h0,h⟩
def witN(lg:Int)(ks:List Kn)(al:List Bool)(a:Int)(t:Nat)(wanted:Nat->Bool)(l:List Nat):List Nat :=
 if l.any (fun u=>wanted u&&possibleN lg ks a t u)then l else addI l (nextN lg ks al a t wanted)
theorem next_mem {a:Int} {wanted:Nat->Bool}(h:0<=nextN lg ks al a t wanted):nextP lg ks al a t wanted (nextN lg ks al a t wanted).toNat=true:=by
 unfold nextN at h⊢;cases e:(List.range al.length).find? (nextP lg ks al a t wanted)with
 |none=>rw [e]at h;simp at h
 |some k =>
  obtain⟨h1,_,_⟩:=List.find?_range_eq_some.1 e
  simpa using h1
theorem wit_grow {a:Int} {wanted:Nat->Bool} :SGrow al l (witN lg ks al a t wanted l):=by
 unfold witN
 split
 ·exact SGrow.refl
 refine addI_grow fun h0=> ?_
 have:=next_mem h0;unfold nextP at this;rw [Bool.and_eq_true]at this;exact this.1
theorem wit_mem {a:Int} {wanted:Nat->Bool}(h:0<=nextN lg ks al a t wanted):∃u,u∈witN lg ks al a t wanted l/\wanted u=true/\possibleN lg ks a t u=true:=by
 unfold witN
 split
 ·rename_i h1;rw [List.any_eq_true]at h1;obtain⟨u,hu,h2⟩:=h1;rw [Bool.and_eq_true]at h2;exact⟨u,hu,h2⟩
 have:=next_mem h;unfold nextP at this;rw [Bool.and_eq_true,Bool.and_eq_true]at this;exact⟨_,addI_mem h,this.2⟩
def addAll(l ls:List Nat):List Nat:=ls.foldl (fun o (u:Nat)=>addI o (u:Int)) l
theorem addAll_grow:∀(ls l:List Nat),(∀u∈ls,al.getD u false=true)->SGrow al l (addAll l ls)
 |[],_,_=>SGrow.refl
 |a :: r,l,h=>(addI_grow (fun _=>by rw [Int.toNat_natCast];exact h a (List.mem_cons_self ..))).trans (addAll_grow r _ (fun u hu=>h u (List.mem_cons_of_mem _ hu)))
theorem addAll_mem:∀(ls l:List Nat) (u:Nat),u∈ls\/u∈l->u∈addAll l ls
 |[],_,_,h=>by rcases h with h|h;· cases h
               ·exact h
 |a :: r,l,u,h=>by
  have hs:∀v,v∈l->v∈addI l (a:Int):=fun v hv=>by
   unfold addI;split
   ·exact List.mem_append.2 (Or.inl hv)
   exact hv
  refine addAll_mem r _ u ?_;rcases h with h|h
  ·rcases List.mem_cons.1 h with rfl|h
   ·exact Or.inr (by have:=addI_mem (l:=l) (i:=(u:Int)) (by omega);rwa [Int.toNat_natCast]at this)
   exact Or.inl h
  exact Or.inr (hs u h)
theorem links_rch {step:Nat->Nat->Bool} {t:Nat} :∀(ls:List Nat) (u:Nat),ls[0]?=some u->Links step t ls->Rch (fun a b=>step a b=true/\b∈ls) t u
 |[],_,h,_=>by cases h
 |[v],u,h,hl=>by
  obtain rfl:v=u:=by simpa using h
  exact .one ⟨hl,List.mem_singleton.2 rfl⟩
 |a :: b :: r,u,h,hl=>by
  obtain rfl:a=u:=by simpa using h
  have ih:=links_rch (b :: r) b rfl hl.2;exact(ih.mono (fun x y hxy=>⟨hxy.1,List.mem_cons_of_mem _ hxy.2⟩)).snoc ⟨hl.1,List.mem_cons_self ..⟩
theorem links_all {step:Nat->Nat->Bool} {t:Nat} :∀(ls:List Nat),Links step t ls->∀u∈ls,∃a,step a u=true
 |[],_,u,h=>by cases h
 |[v],hl,u,h=>by rw [List.mem_singleton.1 h];exact⟨t,hl⟩
 |a :: b :: r,hl,u,h=>by
  rcases List.mem_cons.1 h with rfl|h
  ·exact⟨b,hl.1⟩
  exact links_all (b :: r) hl.2 u h
theorem step_al {c:Cm} {a u:Nat}(h:stepB lg ks al c a u=true):al.getD u false=true:=by
 unfold stepB at h;rw [Bool.and_eq_true]at h;exact h.1
end
section
variable {l:List (List Nd)} {t0:Tr} (hB:BaseOk l t0) {lg:Int}
include hB
theorem full_sel {al:List Bool} {agents:Nat} {S:List Nat}(hl:al.length=2^l.length)(hS:∀u∈S,al.getD u false=true)(hc:∀t,al.getD t false=true->coherentN lg (knowsN l) (commsN l) t=true)
 (hw:∀t∈S,Sel lg (knowsN l) (commsN l) al agents S t)(hag:∀n a,.one n a∈l.map treeOf->n.i < (agents:Int)):Full lg (l.map treeOf) (fun t=>t∈S) (th l) where
 coh t ht:=(coh_iff hB (hl▸getD_lt (hS t ht))).1 (hc t (hS t ht))
 ser hs t ht i ho:=by
  obtain⟨n,a,hm,hi⟩:=ho;obtain⟨_,_,_,h0,h4⟩:=hB.closed.know n a hm;have h1:=hag n a hm;obtain⟨u,hu,hp⟩:=(hw t ht).ser i.toNat (by omega) hs;rw [show((i.toNat:Nat):Int)=i by omega]at hp;exact⟨u,hu,(poss_iff hB (hl▸getD_lt (hS u hu))).1 hp⟩
 know t ht n a hm hf:=by
  obtain⟨j,hg,hj,hth⟩:=th_at hB hm;obtain⟨u,hu,h2,hp⟩:=(hw t ht).know _ ((knows_mem hB).2 ⟨j,n,a,hm,hg,rfl⟩) (by rw [<-hth];exact hf);have hul:u < 2^l.length:=hl▸getD_lt (hS u hu);exact⟨u,hu,by rw [<-hold_ev hB hm hul];exact h2,(poss_iff hB hul).1 hp⟩
 com t ht n a b hm hf:=by
  obtain⟨j,hg,hj,hth⟩:=th_at hB hm;obtain⟨u,hr,hy⟩:=(hw t ht).com _ ((comms_mem hB).2 ⟨j,n,a,b,hm,hg,rfl⟩) (by rw [<-hth];exact hf);have hr':Rch (stepT lg (l.map treeOf) (fun t=>t∈S) (th l) n.g a) t u:=hr.mono (fun x y hxy=>⟨hxy.2,((step_iff hB hl hm x y).1 hxy.1).2⟩);have hul:u∈S:=by
   have key:∀x y,Rch (stepT lg (l.map treeOf) (fun t=>t∈S) (th l) n.g a) x y->y∈S:=by
    intro x y hxy
    induction hxy with
    |one h=>exact h.1
    |cons _ _ ih=>exact ih
   exact key t u hr'
  exact⟨u,hr',by rw [<-(com_ev hB hm (hl▸getD_lt (hS u hul))).2];exact hy⟩
end
structure Lives (lg:Int) (ks:List Kn) (cs:List Cm) (al:List Bool) (t:Nat):Prop where
 know:∀k∈ks,t.testBit k.place=false->0<=nextN lg ks al k.agent t (fun u=> !k.holds.getD u false)
 com:∀c∈cs,t.testBit c.place=false->pathN lg ks al c t=true
 ser:lg=1\/lg=5->∀a:Nat,a < 4->0<=nextN lg ks al (a:Int) t (fun _=>true)
theorem next_ok {lg:Int} {ks:List Kn} {al:List Bool} {a:Int} {t u:Nat} {wanted:Nat->Bool}(h:nextP lg ks al a t wanted u=true):0<=nextN lg ks al a t wanted:=by
 refine Int.not_lt.1 fun hn=> ?_
 have hu:al.getD u false=true:=by
  unfold nextP at h;rw [Bool.and_eq_true]at h;exact h.1
 rw [find_neg.1 hn u (getD_lt hu)]at h;cases h
section
variable {l:List (List Nd)} {t0:Tr} (hB:BaseOk l t0) {lg:Int}
include hB
theorem lives_of {al:List Bool}(hw:∀t,al.getD t false=true->∀i:Int,-4<=i->i < l.length->lacksN lg (knowsN l) (commsN l) al t i=false) {t:Nat}(ht:al.getD t false=true):Lives lg (knowsN l) (commsN l) al t where
 know k hk hf:=by
  obtain⟨j,n,a,hm,hg,rfl⟩:=(knows_mem hB).1 hk;have hj:j < l.length:=(List.getElem?_eq_some_iff.1 hg).1;have h:=hw t ht (j:Int) (by omega) (by omega);unfold lacksN at h;rw [decide_eq_false (show ¬(j:Int) < 0 by omega),cond_false,kn_find hB hm hg]at h;simp only [Int.toNat_natCast]at h;rw [show t.testBit j=false from hf,Bool.not_false,Bool.true_and,decide_eq_false_iff_not]at h;exact Int.not_lt.1 h
 com c hc hf:=by
  obtain⟨j,n,a,b,hm,hg,rfl⟩:=(comms_mem hB).1 hc;have hj:j < l.length:=(List.getElem?_eq_some_iff.1 hg).1;have h:=hw t ht (j:Int) (by omega) (by omega);unfold lacksN at h;rw [decide_eq_false (show ¬(j:Int) < 0 by omega),cond_false,kn_none hB hm hg,cm_find hB hm hg]at h;simp only [Int.toNat_natCast]at h;rw [show t.testBit j=false from hf,Bool.not_false,Bool.true_and]at h
  simpa using h
 ser hs a ha:=by
  by_cases hany:(knowsN l).any (fun k=>k.agent==(a:Int))=true
  ·have h:=hw t ht (-1 - (a:Int)) (by omega) (by omega);unfold lacksN at h;rw [decide_eq_true (show -1 - (a:Int) < 0 by omega),cond_true,show -1 - (-1 - (a:Int))=a by omega,hany]at h;have hlg:(lg==1||lg==5)=true:=by rcases hs with e|e <;> rw [e] <;> rfl
   rw [hlg,Bool.true_and,Bool.true_and,decide_eq_false_iff_not]at h;exact Int.not_lt.1 h
  refine next_ok (u:=t) ?_;unfold nextP;rw [ht,Bool.true_and,Bool.true_and];unfold possibleN;rw [List.all_eq_true];intro k hk;have:¬(k.agent==(a:Int))=true:=fun e=>hany (List.any_eq_true.2 ⟨k,hk,e⟩)
  have:(k.agent !=(a:Int))=true:=by unfold bne;rw [Bool.not_eq_true]at this;rw [this];rfl
  rw [this,Bool.true_or]
end
theorem end_lives {lg:Int} {f:List Nd}(h:EngOk lg f) {t:Nat}(ht:(endN lg f).1.getD t false=true):Lives lg (knowsN (baseN f).1) (commsN (baseN f).1) (endN lg f).1 t:=by
 refine lives_of h.b (fun t ht i h0 h1=> ?_) ht;have:=elim_end (why:=whyN lg (knowsN (baseN f).1) (commsN (baseN f).1) (baseN f).1.length) ((aliveN lg (baseN f).1).length+1) (aliveN lg (baseN f).1,[]) (by have:=cnt_le (aliveN lg (baseN f).1);show cnt (aliveN lg (baseN f).1) < _;omega) t ht;exact whyN_none this i h0 h1
theorem end_coh {lg:Int} {f:List Nd}(t:Nat)(ht:(endN lg f).1.getD t false=true):coherentN lg (knowsN (baseN f).1) (commsN (baseN f).1) t=true:=by
 have hs:=elim_sub (whyN lg (knowsN (baseN f).1) (commsN (baseN f).1) (baseN f).1.length) _ (aliveN lg (baseN f).1,[]) t ht;have hl:=getD_lt hs;rw [alive_len]at hl;rw [<-alive_get hl];exact hs
theorem full_end {lg:Int} {f:List Nd}(h:EngOk lg f) {agents:Nat} {S:List Nat}(hS:∀u∈S,(endN lg f).1.getD u false=true)
 (hw:∀t∈S,Sel lg (knowsN (baseN f).1) (commsN (baseN f).1) (endN lg f).1 agents S t)(hag:∀n a,.one n a∈(baseN f).1.map treeOf->n.i < (agents:Int)):Full lg ((baseN f).1.map treeOf) (fun t=>t∈S) (th (baseN f).1):=
 full_sel h.b end_len hS end_coh hw hag
open Go.RowKit
def Away(m:Nat)(w:World)(vo u:Value):Prop:=∀g,u.ownBlock=some g->g < w.heap.size/\vo.ownBlock≠some g/\m<=g
theorem Away.ext {m:Nat} {w w':World} {vo u:Value}(h:Away m w vo u)(he:Ext w w'):Away m w' vo u:=fun g hg=>⟨Qy (h g hg).1 he.size,(h g hg).2⟩
theorem tInfoF2:(Tryz.prog.info? 22).map (fun i=>(i.zero,i.size,i.bytes))=some (some (.slice none 0 0),1,24):=by kernel_rfl
theorem Nds.keepF {w w':World} {v:Value} {l:List Nd}(h:Nds w v l)(hb:∀g,v.ownBlock=some g->g < w.heap.size->w'.heap[g]?=w.heap[g]?)(hs:w.heap.size<=w'.heap.size):Nds w' v l:=by
 obtain⟨A,c,rfl,h1,h2,h3⟩:=h;refine⟨A,c,rfl,h1,h2,fun hn=> ?_⟩;obtain⟨ad,rfl,hlt,hc⟩:=h3 hn;refine⟨ad,rfl,Qy hlt hs,fun k n hk=>(hc k n hk).keep fun p hp=>World.cell?_of_block ?_⟩;rw [hp,block_of_add];exact hb ad.block rfl hlt
structure FRow (w0 w:World) (vo:Value) (out:List (List Nd)):Prop where
 ext:Ext w0 w
 row:∃us,w.ownsRow w0.heap.size 22 1 vo out.length us/\∀(k:Nat) (s:List Nd),out[k]?=some s->∃u,us[k]?=some u/\Fml w u s/\Away w0.heap.size w vo u
theorem FRow.ext_ {w0 w w':World} {vo:Value} {out:List (List Nd)}(h:FRow w0 w vo out)(he:Ext w w'):FRow w0 w' vo out:=by
 obtain⟨us,hr,hu⟩:=h.row;refine⟨h.ext.trans he,us,row_ext hr he,fun k s hk=> ?_⟩;obtain⟨u,a,b,c⟩:=hu k s hk;exact⟨u,a,b.ext he,c.ext he⟩
theorem FRow.nil(w:World):FRow w w (.slice none 0 0) []:=⟨Qz,[],World.ownsRow_nil _ _ _ _,fun k s h=>by simp at h⟩
theorem row1_cellsF {w:World} {base n:Nat} {t:TypeId} {v:Value} {us:List Value}(h:w.ownsRow base t 1 v n us)(hn:0 < n):
 ∃g cap,v=.slice (some ⟨g,0,none⟩) n cap/\g < w.heap.size/\n<=cap/\cap<=maxLen/\∀i z,us[i]?=some z->w.cell? ⟨g,i,none⟩=some z:=by
 rcases h.2 with⟨_,h0⟩|⟨g,cap,cur,rfl,_,hg,hnc,hm,hs,ht⟩
 ·omega
 refine⟨g,cap,rfl,lt_heap hg,hnc,hm,fun i z h1=> ?_⟩;rw [<-ht,List.getElem?_take]at h1
 split at h1
 ·have h2:cur[i]?=some z:=by simpa using h1
  simp [World.cell?,hg,h2]
 cases h1
theorem FRow.keep {w0 w w':World} {vo:Value} {out:List (List Nd)}(h:FRow w0 w vo out)(hb:∀g,w0.heap.size<=g->g < w.heap.size->w'.heap[g]?=w.heap[g]?)(hs:w.heap.size<=w'.heap.size)(he:Ext w0 w'):FRow w0 w' vo out:=by
 obtain⟨us,hr,hu⟩:=h.row;refine⟨he,us,⟨hr.1,?_⟩,fun k s hk=> ?_⟩
 ·rcases hr.2 with h0|⟨g,cap,cur,e,h1,h2,h3,h4,h5,h6⟩
  ·exact .inl h0
  exact .inr ⟨g,cap,cur,e,h1,(hb g h1 (lt_heap h2)).trans h2,h3,h4,h5,h6⟩
 obtain⟨u,a,b,c⟩:=hu k s hk;exact⟨u,a,⟨b.1.keepF (fun g hg _=>hb g (c g hg).2.2 (c g hg).1) hs,b.2⟩,fun g hg=>⟨Qy (c g hg).1 hs,(c g hg).2⟩⟩
theorem FRow.fmls {w0 w:World} {vo:Value} {out:List (List Nd)}(h:FRow w0 w vo out):Fmls w vo out:=by
 obtain⟨ss,hs,hv⟩:=h.row;by_cases h0:0 < out.length
 ·obtain⟨g,cap,rfl,hg,h1,h2,hc⟩:=row1_cellsF hs h0;refine⟨_,cap,rfl,h1,h2,fun _=>⟨_,rfl,hg,fun k f hk=> ?_⟩⟩;obtain⟨u,a,b,_⟩:=hv k f hk;exact⟨u,by rw [addr_zero];exact hc k u a,b⟩
 have e:out= []:=List.length_eq_zero_iff.1 (by omega);subst e;obtain⟨A,c,rfl⟩:=slice_of_row hs;rcases hs.2 with⟨e,_⟩|⟨g,cap,cur,e,_,_,hn,hm,_⟩
 ·injection e with e1 _ e2;subst e1 e2;exact⟨_,_,rfl,Nat.le_refl _,by unfold maxLen;omega,fun h=>absurd rfl h⟩
 injection e with e1 _ e2;subst e1 e2;exact⟨_,_,rfl,Nat.zero_le _,hm,fun h=>absurd rfl h⟩
theorem FRow.push {w0 W w4:World} {vo v' x:Value} {out:List (List Nd)} {s:List Nd} {ss:List Value}(he:Ext w0 W)(hs:W.ownsRow w0.heap.size 22 1 vo out.length ss)(hv:∀(k:Nat) (s:List Nd),out[k]?=some s->∃u,ss[k]?=some u/\Fml W u s/\Away w0.heap.size W vo u)
 (hrow:w4.ownsRow w0.heap.size 22 1 v' (out.length+1) (ss++ [x]))(hg:W.grownBy w4 vo.ownBlock)(hat:v'.ownBlock=vo.ownBlock\/v'.ownBlock=some W.heap.size)(hx:Fml W x s)(hxf:Away w0.heap.size W vo x):
 FRow w0 w4 v' (out++ [s]):=by
 have hlen:ss.length=out.length:=by simpa using hs.1
 have hkeep:∀g,g < W.heap.size->vo.ownBlock≠some g->w4.heap[g]?=W.heap[g]?:=fun g h1 h2=>hg.block g h1 (fun e=>h2 e.symm)
 have haway:∀u,Away w0.heap.size W vo u->Away w0.heap.size w4 v' u:=fun u hu g hgu=>by
  obtain⟨a,b,hm⟩:=hu g hgu;refine⟨Qy a hg.size,fun e=> ?_,hm⟩;rcases hat with e1|e1
  ·exact b (e1.symm.trans e)
  rw [e1]at e;injection e with e;omega
 have hfml:∀u s,Away w0.heap.size W vo u->Fml W u s->Fml w4 u s:=fun u s ha hi=>⟨hi.1.keepF (fun g hg' _=>hkeep g (ha g hg').1 (ha g hg').2.1) hg.size,hi.2⟩
 refine⟨he.grown hg (fun g hg'=>(hs.lt g hg').1),ss++ [x],by rw [List.length_append];exact hrow,fun k s' hk=> ?_⟩;by_cases hk':k < out.length
 ·rw [List.getElem?_append_left hk']at hk;obtain⟨u,a,b,c⟩:=hv k s' hk;exact⟨u,by rw [List.getElem?_append_left (by omega)];exact a,hfml u s' c b,haway u c⟩
 rw [List.getElem?_append_right (by omega)]at hk;have hk0:k=out.length:=by
  by_cases e:k - out.length=0
  ·omega
  rw [List.getElem?_eq_none (by simp;omega)]at hk;cases hk
 subst hk0;simp at hk;subst hk;exact⟨x,by rw [List.getElem?_append_right (by omega),hlen];simp,hfml x _ hxf hx,haway x hxf⟩
theorem made_away {w W:World} {vo x:Value} {B n k:Nat} {us zs:List Value} {e:TypeId} {sz m:Nat}(hB:w.heap.size<=B)(hx:W.ownsRow B e sz x n zs)(hs:w.ownsRow m 22 1 vo k us)(hm:m<=w.heap.size):Away m W vo x:=fun g hg=>by
 obtain⟨h1,h2⟩:=hx.lt g hg;exact⟨h2,fun e=>by have:=(hs.lt g e).2;omega,by omega⟩
def findN(p:List Nd->Bool)(l:List (List Nd)):Int:=match l.findIdx? p with|none=> -1|some j=>j
theorem findIdx_hit(p:List Nd->Bool):∀(l:List (List Nd)) (k:Nat) (s:List Nd),l[k]?=some s->p s=true->(∀t∈l.take k,p t=false)->l.findIdx? p=some k
 |[],k,s,h,_,_=>by simp at h
 |a :: r,0,s,h,hp,_=>by
  simp only [List.getElem?_cons_zero,Option.some.injEq]at h;subst h;rw [List.findIdx?_cons,hp];rfl
 |a :: r,k+1,s,h,hp,hn=>by
  have ha:p a=false:=hn a (by simp);rw [List.findIdx?_cons,ha,findIdx_hit p r k s (by simpa using h) hp (fun t ht=>hn t (by simp [ht]))];rfl
theorem findIdx_miss(p:List Nd->Bool):∀(l:List (List Nd)),(∀t∈l,p t=false)->l.findIdx? p=none
 |[],_=>by simp
 |a :: r,hn=>by
  rw [List.findIdx?_cons,hn a (by simp),findIdx_miss p r (fun t ht=>hn t (by simp [ht]))];rfl
theorem indexF_any(g:Nat)(lb:Array Value)(eg:∀args w,(callFunc g args).run Tryz.prog w=.ok (.enter g args) w)(p:List Nd->Bool)(v:Value)(l:List (List Nd))(w:World)(h:Fmls w v l)
 (hp:∀(W:World) (u:Value) (s:List Nd),Ext w W->Fml W u s->Calls Tryz.prog g (#[u]++lb) W fun e w'=>e=.returned (.bool (p s))/\Ext W w'):
 Calls Tryz.prog 129 #[v,.func (.func g) #[] lb] w fun e w'=>e=.returned (.int .i64 (findN p l))/\Ext w w':=by
 obtain⟨A,c,rfl,hcap,hmax,hr⟩:=h;unfold maxLen at hmax;have HR:=Qq hr;have HP:=Qq hp;clear hr hp;go_enter Tryz.func129,Tryz.ntmps129;go_wp2_with fail;go_loopw [5,8] (fun _ i wr=>∃k:Nat,k<=l.length/\i=.int .i64 (k:Int)/\Hid (∀t∈l.take k,p t=false)/\Hid (Ext w wr)) (fun _ i _=>l.length - (intOf i).toNat)
 case atStart=>exact⟨0,Nat.zero_le _,rfl,Qq (by simp),Qq Qz⟩
 case round =>
  obtain⟨k,hk,rfl,HNI,HX⟩:=hrel;by_cases hlt2:k < l.length
  ·obtain⟨s,hs⟩:∃s,l[k]?=some s:=⟨_,Qv hlt2⟩;obtain⟨ad,rfl,hb1,hc1⟩:=HR.out (by intro e;rw [e]at hlt2;simp at hlt2);obtain⟨u,hu,hf⟩:=hc1 k s hs;have a0:=(HX.out.cell (p:=ad.add k) (Qj hb1)).trans hu;have HF:=Qq (hf.ext HX.out);have HA:=Qq hs;have hk1:(k:Int) < (l.length:Int):=by omega
   clear hs hc1 hf hu;cases hps:p s
   ·have HT:Hid (∀t∈l.take (k+1),p t=false):=Qq (by
     rw [take_succ_eq HA.out];intro t ht;rcases List.mem_append.1 ht with ht|ht
     ·exact HNI.out t ht
     rw [List.mem_singleton.1 ht];exact hps)
    go_wp2_with(refine(HP.out _ u s (by exact HX.out.trans (by repeat(first|exact Qz|assumption|apply Ext.alloc|apply Ext.drew))) (by exact HF.out.ext (by repeat(first|exact Qz|assumption|apply Ext.alloc|apply Ext.drew)))).mono ?_;rintro e w1 ⟨rfl,hx⟩;rw [hps]);go_roundw
    case rel=>exact⟨k+1,by omega,by go_num,HT,Qq (HX.out.trans (by first|exact hx|exact Ext.trans (by repeat(first|exact Qz|assumption|apply Ext.alloc|apply Ext.drew)) hx))⟩
    case measure=>simp [intOf];omega
   have HE:=Qq (show findN p l=(k:Int) by unfold findN;rw [findIdx_hit p l k s HA.out hps HNI.out]);go_wp2_with(refine(HP.out _ u s (by exact HX.out.trans (by repeat(first|exact Qz|assumption|apply Ext.alloc|apply Ext.drew))) (by exact HF.out.ext (by repeat(first|exact Qz|assumption|apply Ext.alloc|apply Ext.drew)))).mono ?_;rintro e w1 ⟨rfl,hx⟩;rw [hps]);go_ret;exact⟨by rw [HE.out] <;> rfl,HX.out.trans (by first|exact hx|exact Ext.trans (by repeat(first|exact Qz|assumption|apply Ext.alloc|apply Ext.drew)) hx)⟩
  obtain rfl:l.length=k:=by omega
  have HE:=Qq (show findN p l= -1 by
   unfold findN;rw [findIdx_miss p l (fun t ht=>HNI.out t (by rw [List.take_of_length_le (Nat.le_refl _)];exact ht))])
  go_wp2_with fail;go_ret;exact⟨by rw [HE.out] <;> rfl,HX.out⟩
def BoolsAt(w:World)(A:Option Addr)(c:Nat)(l:List Bool):Prop :=
 l.length<=c/\c<=maxLen/\(l≠ []->∃ad,A=some ad/\ad.block < w.heap.size/\∀k z,l[k]?=some z->w.cell? (ad.add k)=some (.bool z))
def Bools(w:World)(v:Value)(l:List Bool):Prop:=∃A c,v=.slice A l.length c/\BoolsAt w A c l
section
variable {w w':World} {v:Value}
theorem BoolsAt.ext {A:Option Addr} {c:Nat} {l:List Bool}(h:BoolsAt w A c l)(he:Ext w w'):BoolsAt w' A c l :=
 ⟨h.1,h.2.1,fun hn=>by
  obtain⟨ad,e,hlt,hc⟩:=h.2.2 hn;exact⟨ad,e,Qy hlt he.size,fun k z hk=>(he.cell (Qj hlt)).trans (hc k z hk)⟩⟩
theorem Bools.ext {l:List Bool}(h:Bools w v l)(he:Ext w w'):Bools w' v l:=by
 obtain⟨A,c,e,h⟩:=h;exact⟨A,c,e,h.ext he⟩
end
def BRow(base:Nat)(w:World)(g:Nat)(l:List Bool):Prop:=w.ownsRow base 4 1 (.slice (some ⟨g,0,none⟩) l.length l.length) l.length (l.map Value.bool)
section
variable {base:Nat} {w w':World} {g:Nat} {l:List Bool}
theorem BRow.cell(h:BRow base w g l) {j:Nat} {b:Bool}(hj:l[j]?=some b):w.cell? ⟨g,j,none⟩=some (.bool b):=by
 have hl:=(List.getElem?_eq_some_iff.1 hj).1;rw [World.ownsRow.cellAt h j (by omega),List.getElem?_map,hj];rfl
theorem BRow.frozen(h:BRow base w g l)(j:Nat):w.frozen? ⟨g,j,none⟩=false:=World.ownsRow.frozenAt h j
theorem BRow.lt(h:BRow base w g l):base<=g/\g < w.heap.size:=World.ownsRow.lt h g rfl
theorem BRow.set(h:BRow base w g l)(j:Nat)(b:Bool):BRow base (w.setCell ⟨g,j,none⟩ (.bool b)) g (l.set j b)/\w.grownBy (w.setCell ⟨g,j,none⟩ (.bool b)) (some g):=by
 obtain⟨h1,h2⟩:=World.ownsRow.stored h j (.bool b);refine⟨?_,h2⟩;unfold BRow;rw [List.length_set,<-List.map_set]at *;exact h1
theorem BRow.ext(h:BRow base w g l)(he:Ext w w'):BRow base w' g l:=row_ext h he
theorem BRow.base_ {b':Nat}(h:BRow base w g l)(hb:b'<=base):BRow b' w g l:=row_base h hb
theorem BRow.bools(h:BRow base w g l):Bools w (.slice (some ⟨g,0,none⟩) l.length l.length) l:=by
 refine⟨_,_,rfl,Nat.le_refl _,?_,fun hn=>⟨_,rfl,h.lt.2,fun k z hk=> ?_⟩⟩
 ·have h2:=h.2;rcases h2 with⟨e,_⟩|⟨g',cap,cur,e,_,_,_,hm,_⟩
  ·cases e
  injection e with _ _ e;rw [e];exact hm
 rw [addr_zero];exact h.cell hk
end
theorem made_false(n:Nat):(madeCells (Value.cells (.bool false)) (n*1)).toList=(List.replicate n false).map Value.bool:=by
 simp only [madeCells,Value.cells,Nat.mul_one,Array.toList_map,Array.toList_range,List.map_replicate];refine List.ext_getElem (by simp) fun i h1 h2=> ?_
 simp [Nat.mod_one]
theorem cells2 {w:World} {b:Nat} {a0 a1:Value} {t:TypeId}(h:w.heap[b]?=some (.cells #[a0,a1] t (0,0))):
 w.cell? ⟨b,0,none⟩=some a0/\w.cell? ⟨b,1,none⟩=some a1/\(∀j,w.frozen? ⟨b,j,none⟩=false)/\b < w.heap.size :=
 ⟨by simp [World.cell?,h],by simp [World.cell?,h],fun j=>by simp [World.frozen?,h],lt_heap h⟩
theorem set_first {w:World} {b:Nat} {a0 a1:Value} {t:TypeId}(h:w.heap[b]?=some (.cells #[a0,a1] t (0,0)))(u:Value):(w.setCell ⟨b,0,none⟩ u).heap[b]?=some (.cells #[u,a1] t (0,0)):=by
 simp only [World.setCell,Array.getElem?_modify,h,if_true,Option.map_some];simp
theorem set_second {w:World} {b:Nat} {a0 a1:Value} {t:TypeId}(h:w.heap[b]?=some (.cells #[a0,a1] t (0,0)))(u:Value):(w.setCell ⟨b,1,none⟩ u).heap[b]?=some (.cells #[a0,u] t (0,0)):=by
 simp only [World.setCell,Array.getElem?_modify,h,if_true,Option.map_some];simp
theorem tInfo3:(Tryz.prog.info? 3).map (fun i=>(i.zero,i.size,i.bytes))=some (some (.int .i64 0),1,8):=by kernel_rfl
def KnAt(w:World)(a:Addr)(k:Kn):Prop :=
 ∃vh,w.cell? a=some (.int .i64 k.agent)/\w.cell? ⟨a.block,a.off+1,none⟩=some (.int .i64 (k.place:Int))/\w.cell? ⟨a.block,a.off+2,none⟩=some vh/\Bools w vh k.holds
def KnsAt(w:World)(A:Option Addr)(c:Nat)(l:List Kn):Prop :=
 l.length<=c/\c<=maxLen/\(l≠ []->∃ad,A=some ad/\ad.block < w.heap.size/\∀k n,l[k]?=some n->KnAt w (ad.add (k*3)) n)
def Kns(w:World)(v:Value)(l:List Kn):Prop:=∃A c,v=.slice A l.length c/\KnsAt w A c l
def CmAt(w:World)(a:Addr)(k:Cm):Prop :=
 ∃vx vy,w.cell? a=some (.int .i64 (k.place:Int))/\w.cell? ⟨a.block,a.off+1,none⟩=some (.int .i64 k.group)/\w.cell? ⟨a.block,a.off+2,none⟩=some vx/\w.cell? ⟨a.block,a.off+3,none⟩=some vy/\
  w.cell? ⟨a.block,a.off+4,none⟩=some (.int .u64 (k.parts:Int))/\Bools w vx k.x/\Bools w vy k.y
def CmsAt(w:World)(A:Option Addr)(c:Nat)(l:List Cm):Prop :=
 l.length<=c/\c<=maxLen/\(l≠ []->∃ad,A=some ad/\ad.block < w.heap.size/\∀k n,l[k]?=some n->CmAt w (ad.add (k*5)) n)
def Cms(w:World)(v:Value)(l:List Cm):Prop:=∃A c,v=.slice A l.length c/\CmsAt w A c l
section
variable {w w':World} {v:Value} {a:Addr}
theorem KnAt.ext {k:Kn}(h:KnAt w a k)(he:Ext w w')(ha:a.block < w.heap.size):KnAt w' a k:=by
 obtain⟨vh,h0,h1,h2,h3⟩:=h;have hk:∀o s,w'.cell? ⟨a.block,o,s⟩=w.cell? ⟨a.block,o,s⟩:=fun o s=>he.cell (p:=⟨a.block,o,s⟩) ha
 exact⟨vh,(hk _ _).trans h0,(hk _ _).trans h1,(hk _ _).trans h2,h3.ext he⟩
theorem CmAt.ext {k:Cm}(h:CmAt w a k)(he:Ext w w')(ha:a.block < w.heap.size):CmAt w' a k:=by
 obtain⟨vx,vy,h0,h1,h2,h3,h4,h5,h6⟩:=h;have hk:∀o s,w'.cell? ⟨a.block,o,s⟩=w.cell? ⟨a.block,o,s⟩:=fun o s=>he.cell (p:=⟨a.block,o,s⟩) ha
 exact⟨vx,vy,(hk _ _).trans h0,(hk _ _).trans h1,(hk _ _).trans h2,(hk _ _).trans h3,(hk _ _).trans h4,h5.ext he,h6.ext he⟩
theorem KnsAt.ext {A:Option Addr} {c:Nat} {l:List Kn}(h:KnsAt w A c l)(he:Ext w w'):KnsAt w' A c l :=
 ⟨h.1,h.2.1,fun hn=>by
  obtain⟨ad,e,hlt,hc⟩:=h.2.2 hn;exact⟨ad,e,Qy hlt he.size,fun k n hk=>(hc k n hk).ext he (Qj hlt)⟩⟩
theorem CmsAt.ext {A:Option Addr} {c:Nat} {l:List Cm}(h:CmsAt w A c l)(he:Ext w w'):CmsAt w' A c l :=
 ⟨h.1,h.2.1,fun hn=>by
  obtain⟨ad,e,hlt,hc⟩:=h.2.2 hn;exact⟨ad,e,Qy hlt he.size,fun k n hk=>(hc k n hk).ext he (Qj hlt)⟩⟩
theorem Kns.ext {l:List Kn}(h:Kns w v l)(he:Ext w w'):Kns w' v l:=by
 obtain⟨A,c,e,h⟩:=h;exact⟨A,c,e,h.ext he⟩
theorem Cms.ext {l:List Cm}(h:Cms w v l)(he:Ext w w'):Cms w' v l:=by
 obtain⟨A,c,e,h⟩:=h;exact⟨A,c,e,h.ext he⟩
end
structure Eng (w:World) (b:Nat) (lg:Int) (base:List (List Nd)) (root:List Bool) (ks:List Kn) (cs:List Cm) (alive:List Bool):Prop where
 all:∃vb vr vk vc va,w.heap[b]?=some (.cells #[.int .i64 lg,vb,vr,vk,vc,va] 74 (0,0))/\Fmls w vb base/\Bools w vr root/\Kns w vk ks/\Cms w vc cs/\Bools w va alive
section
variable {w w':World} {b:Nat} {lg:Int} {base:List (List Nd)} {root:List Bool} {ks:List Kn} {cs:List Cm} {alive:List Bool}
theorem Eng.ext(h:Eng w b lg base root ks cs alive)(he:Ext w w'):Eng w' b lg base root ks cs alive:=by
 obtain⟨vb,vr,vk,vc,va,hb,h1,h2,h3,h4,h5⟩:=h.all;exact⟨vb,vr,vk,vc,va,(he.block (lt_heap hb)).trans hb,h1.ext he,h2.ext he,h3.ext he,h4.ext he,h5.ext he⟩
theorem Eng.cells(h:Eng w b lg base root ks cs alive):∃Ab cb Ar cr Ak ck Ac cc Aa ca,w.cell? ⟨b,0,none⟩=some (.int .i64 lg)/\w.cell? ⟨b,1,none⟩=some (.slice Ab base.length cb)/\w.cell? ⟨b,2,none⟩=some (.slice Ar root.length cr)/\
 w.cell? ⟨b,3,none⟩=some (.slice Ak ks.length ck)/\w.cell? ⟨b,4,none⟩=some (.slice Ac cs.length cc)/\w.cell? ⟨b,5,none⟩=some (.slice Aa alive.length ca)/\b < w.heap.size/\
 Fmls w (.slice Ab base.length cb) base/\BoolsAt w Ar cr root/\KnsAt w Ak ck ks/\CmsAt w Ac cc cs/\BoolsAt w Aa ca alive:=by
 obtain⟨vb,vr,vk,vc,va,hb,h1,⟨Ar,cr,rfl,h2⟩,⟨Ak,ck,rfl,h3⟩,⟨Ac,cc,rfl,h4⟩,⟨Aa,ca,rfl,h5⟩⟩:=h.all;obtain⟨⟨d0,d1,d2,d3,d4,d5⟩,_,hl⟩:=cells6 hb;have h1':=h1;obtain⟨Ab,cb,rfl,_⟩:=h1;exact⟨Ab,cb,Ar,cr,Ak,ck,Ac,cc,Aa,ca,d0,d1,d2,d3,d4,d5,hl,h1',h2,h3,h4,h5⟩
end
structure Fit2 (base:List (List Nd)) (root:List Bool) (ks:List Kn) (cs:List Cm) (alive:List Bool):Prop where
 len:base.length<=12
 m:alive.length=2^base.length
 root:root.length=2^base.length
 kn:∀k∈ks,k.place < base.length/\k.holds.length=2^base.length/\i64ok k.agent
 cm:∀c∈cs,c.place < base.length/\c.x.length=2^base.length/\c.y.length=2^base.length/\c.parts < 18446744073709551616/\0<=c.group/\c.group < 16
 klen:ks.length<=12
 clen:cs.length<=12
theorem pow12 {n:Nat}(h:n<=12):2^n<=4096:=Nat.pow_le_pow_right (by decide) h
theorem bools_get {w:World} {A:Option Addr} {c:Nat} {l:List Bool}(h:BoolsAt w A c l) {k:Nat}(hk:k < l.length):∃ad,A=some ad/\ad.block < w.heap.size/\w.cell? (ad.add k)=some (.bool (l.getD k false)):=by
 obtain⟨ad,e,hb,hc⟩:=h.2.2 (by intro e;rw [e]at hk;simp at hk);refine⟨ad,e,hb,hc k _ ?_⟩;rw [Qk,Qv hk];rfl
theorem reflexive_any(b:Nat)(lg:Int)(w:World)(d0:w.cell? ⟨b,0,none⟩=some (.int .i64 lg)):
 Calls Tryz.prog 132 #[.pointer (some ⟨b,0,none⟩)] w fun e w'=>e=.returned (.bool (reflN lg))/\w=w':=by
 cases h2:lg==2
 ·cases h4:lg==4
  ·cases h6:lg==6
   ·have HE:=Qq (show reflN lg=false by unfold reflN;rw [h2,h4,h6];rfl);go_enter Tryz.func132,Tryz.ntmps132;go_wp2_with fail;go_ret;exact⟨by rw [HE.out] <;> rfl,rfl⟩
   have HE:=Qq (show reflN lg=true by unfold reflN;rw [h2,h4,h6];rfl);go_enter Tryz.func132,Tryz.ntmps132;go_wp2_with fail;go_ret;exact⟨by rw [HE.out] <;> rfl,rfl⟩
  have HE:=Qq (show reflN lg=true by unfold reflN;rw [h2,h4];rfl);go_enter Tryz.func132,Tryz.ntmps132;go_wp2_with fail;go_ret;exact⟨by rw [HE.out] <;> rfl,rfl⟩
 have HE:=Qq (show reflN lg=true by unfold reflN;rw [h2];rfl);go_enter Tryz.func132,Tryz.ntmps132;go_wp2_with fail;go_ret;exact⟨by rw [HE.out] <;> rfl,rfl⟩
theorem sat_hit {al rt:List Bool} {k:Nat}(hk:k < al.length)(h1:al.getD k false=true)(h2:rt.getD k false=true):satisfiedN al rt=true:=by
 unfold satisfiedN;rw [List.any_eq_true];exact⟨k,List.mem_range.2 hk,by rw [h1,h2];rfl⟩
theorem sat_miss {al rt:List Bool}(h:∀k,k < al.length->(al.getD k false&&rt.getD k false)=false):satisfiedN al rt=false:=by
 unfold satisfiedN;rw [List.any_eq_false];intro k hk;rw [h k (List.mem_range.1 hk)];simp
theorem satisfied_any(b:Nat)(lg:Int)(base:List (List Nd))(root:List Bool)(ks:List Kn)(cs:List Cm)(alive:List Bool)(w:World)
 (hE:Eng w b lg base root ks cs alive)(hr:root.length=alive.length):
 Calls Tryz.prog 35 #[.pointer (some ⟨b,0,none⟩)] w fun e w'=>e=.returned (.bool (satisfiedN alive root))/\w=w':=by
 obtain⟨Ab,cb,Ar,cr,Ak,ck,Ac,cc,Aa,ca,d0,d1,d2,d3,d4,d5,hbl,_,hroot,_,_,hal⟩:=hE.cells;have HR:=Qq hroot;have HA:=Qq hal;have hac:=hal.1;have hca:=hal.2.1;have hrc:=hroot.1;have hcr:=hroot.2.1;unfold maxLen at hca hcr;rw [hr]at d2 hrc;have HRL:=Qq hr;clear hE hroot hal hr d0 d1 d3 d4;go_enter Tryz.func35,Tryz.ntmps35;go_wp2_with fail;go_loop [10] (fun v=>∃k:Nat,v=.int .i64 (k:Int)/\k<=alive.length/\Hid (∀j,j < k->(alive.getD j false&&root.getD j false)=false)) (fun v=>alive.length - (intOf v).toNat)
 case atStart=>exact⟨0,rfl,Nat.zero_le _,Qq (fun j hj=>absurd hj (by omega))⟩
 case round =>
  obtain⟨k,rfl,hk,HREL⟩:=hrel;by_cases hlt2:k < alive.length
  ·have hk1:(k:Int) < (alive.length:Int):=by omega
   obtain⟨ad,rfl,hb1,a0⟩:=bools_get HA.out hlt2;obtain⟨ar,rfl,hb2,r0⟩:=bools_get HR.out (show k < root.length by rw [HRL.out];exact hlt2);cases ha:alive.getD k false
   ·rw [ha]at a0;have HN:=Qq (show ∀j,j < k+1->(alive.getD j false&&root.getD j false)=false from fun j hj=>by
     by_cases e:j < k
     ·exact HREL.out j e
     have:j=k:=by omega
     subst this;rw [ha];rfl)
    clear ha;go_wp2_with fail;go_round
    case rel=>exact⟨k+1,by go_num,by omega,HN⟩
    case measure=>simp [intOf];omega
   rw [ha]at a0;cases hrt:root.getD k false
   ·rw [hrt]at r0;have HN:=Qq (show ∀j,j < k+1->(alive.getD j false&&root.getD j false)=false from fun j hj=>by
     by_cases e:j < k
     ·exact HREL.out j e
     have:j=k:=by omega
     subst this;rw [ha,hrt];rfl)
    clear ha hrt;go_wp2_with fail;go_round
    case rel=>exact⟨k+1,by go_num,by omega,HN⟩
    case measure=>simp [intOf];omega
   rw [hrt]at r0;have HE:=Qq (sat_hit hlt2 ha hrt);clear ha hrt;go_wp2_with fail;go_ret;exact⟨by rw [HE.out] <;> rfl,rfl⟩
  obtain rfl:alive.length=k:=by omega
  have HE:=Qq (sat_miss HREL.out);go_wp2_with fail;go_ret;exact⟨by rw [HE.out] <;> rfl,rfl⟩
theorem testBit_int(s k:Nat):s.testBit k=(s / 2^k % 2==1):=by
 rw [Nat.testBit_eq_decide_div_mod_eq];rfl
theorem shr_nat(s k:Nat):(s:Int) / 2^k=((s / 2^k:Nat):Int):=by
 rw [show((2:Int)^k)=((2^k:Nat):Int) by simp];rfl
theorem shr_and_one(s k:Nat)(hs:s < 18446744073709551616):(bits .and .u64 ((s:Int) / 2^k) 1==1)=s.testBit k:=by
 have hlt:s / 2^k < 18446744073709551616:=Nat.lt_of_le_of_lt (Nat.div_le_self _ _) hs;rw [shr_nat,show(1:Int)=((1:Nat):Int)from rfl,bits_and_u64_nat _ 1 hlt (by decide),Nat.and_one_is_mod,testBit_int];generalize s / 2^k % 2=r;rw [Bool.eq_iff_iff,beq_iff_eq,beq_iff_eq];omega
theorem i64_and_nat(a b:Nat)(ha:a < 9223372036854775808)(hb:b < 9223372036854775808):bits .and .i64 (a:Int) (b:Int)=((a&&&b:Nat):Int):=by
 have hx:a&&&b < 2^63:=Nat.and_lt_two_pow _ (by omega);show IntKind.i64.wrap ((BitVec.ofInt 64 (a:Int)&&&BitVec.ofInt 64 (b:Int)).toNat:Int)=_;rw [BitVec.toNat_and,ofInt_i64 a ha,ofInt_i64 b hb,IntKind.wrap_i64];omega
theorem shr_and_one_i(s k:Nat)(hs:s < 9223372036854775808):(bits .and .i64 ((s:Int) / 2^k) 1==1)=s.testBit k:=by
 have hlt:s / 2^k < 9223372036854775808:=Nat.lt_of_le_of_lt (Nat.div_le_self _ _) hs;rw [shr_nat,show(1:Int)=((1:Nat):Int)from rfl,i64_and_nat _ 1 hlt (by decide),Nat.and_one_is_mod,testBit_int];generalize s / 2^k % 2=r;rw [Bool.eq_iff_iff,beq_iff_eq,beq_iff_eq];omega
theorem shr_and_zero_i(s k:Nat)(hs:s < 9223372036854775808):(bits .and .i64 ((s:Int) / 2^k) 1==0)= !s.testBit k:=by
 have hlt:s / 2^k < 9223372036854775808:=Nat.lt_of_le_of_lt (Nat.div_le_self _ _) hs;rw [shr_nat,show(1:Int)=((1:Nat):Int)from rfl,i64_and_nat _ 1 hlt (by decide),Nat.and_one_is_mod,testBit_int];rcases Nat.mod_two_eq_zero_or_one (s / 2^k)with h|h <;> rw [h] <;> rfl
section
variable {P:Program} {ops:Array Oper} {Q:Exit->Act->World->Prop} {md:Region.Mode} {S:World->Prop} {z:Nat}
def OrdU(P:Program)(md:Region.Mode)(ops:Array Oper)(Q:Exit->Act->World->Prop)(S:World->Prop)(z:Nat):Nat->Array Bool->Act->World->Prop
 |0,up,a,w=>Region.ready md ops up= []/\Q .normal a w
 |n+1,up,a,w=>(Region.ready md ops up= []->Q .normal a w)/\∀i∈Region.ready md ops up,wpOp P ops Q i (fun b v=>(i≠z->S v)/\OrdU P md ops Q S z n (up.setIfInBounds i true) b v) a w
theorem OrdU.any:∀(n:Nat) (up:Array Bool) (a:Act) (w:World),OrdU P md ops Q S z n up a w->wpAny P md ops Q n up a w
 |0,_,_,_,h=>h
 |n+1,_,_,_,h=>⟨h.1,fun i hi=>wpOp_mono (fun b v g=>OrdU.any n _ b v g.2) (h.2 i hi)⟩
def WaitsFor(md:Region.Mode)(ops:Array Oper)(z i:Nat):Prop:=∀o,ops[z]?=some o->∃e∈o.after,Region.binds md e=true/\e.on=i
theorem up_both {up:Array Bool} {i:Nat}(h0:up.getD i true=false)(h1:up.getD i false=true):False:=by
 rcases Nat.lt_or_ge i up.size with h'|h'
 ·simp [h']at h0 h1;rw [h0]at h1;cases h1
 simp [Array.getElem?_eq_none h']at h1
theorem OrdU.first {i:Nat} {oi:Oper} {v:Value}(hi:ops[i]?=some oi)(hsel:∀(j:Nat) (o:Oper) cs b,ops[j]?=some o->o.op≠.select cs b)(hQ:∀c a w,Q (.panic c) (a.put oi.dst v) w->Q (.panic c) a w)
 (hz:WaitsFor md ops z i):∀(n:Nat) (up:Array Bool) (a:Act) (w:World),
  (∀j oj,ops[j]?=some oj->j≠i->up.getD j true=false->(∀e∈oj.after,Region.binds md e=true->e.on≠i)->oi.apart ops oj=true)->
  i∈Region.ready md ops up->YieldsIf P ops S oi v a->S w->OrdU P md ops Q S z n (up.setIfInBounds i true) (a.put oi.dst v) w->OrdU P md ops Q S z (n+1) up a w
 |0,up,a,w,_,hr,hy,hS,H=>⟨fun h=>(by rw [h]at hr;cases hr),fun j hj=>by
  by_cases e:j=i
  ·subst e;exact hy.wpOp hi hS ⟨fun _=>hS,H⟩
  have h2:=ready_mono hj e;rw [H.1]at h2;cases h2⟩
 |n+1,up,a,w,hfree,hr,hy,hS,H=>⟨fun h=>(by rw [h]at hr;cases hr),fun j hj=>by
  by_cases e:j=i
  ·subst e;exact hy.wpOp hi hS ⟨fun _=>hS,H⟩
  obtain⟨hjun,oj,hoj,hall⟩:=mem_ready.1 hj;have hiun:=(mem_ready.1 hr).1;have hnot:∀e∈oj.after,Region.binds md e=true->e.on≠i:=fun d hd hb hq=>up_both hiun (by have:=hall d hd hb;rwa [hq]at this)
  have hjz:j≠z:=fun hjz=>by
   subst hjz;obtain⟨d,hd,hb,hq⟩:=hz oj hoj;exact hnot d hd hb hq
  have h2:=wpOp_putIf hoj (hfree j oj hoj e hjun hnot) (fun cs b=>hsel i oi cs b hi) (fun cs b=>hsel j oj cs b hoj) hQ hy (H.2 j (ready_mono hj e));refine wpOp_mono (fun b v h3=>⟨h3.2.1,OrdU.first hi hsel hQ hz n (up.setIfInBounds j true) b v (fun k ok hk hki hun hno=>hfree k ok hk hki ?_ hno) (ready_mono hr (Ne.symm e)) h3.1 (h3.2.1 hjz) ?_⟩) h2
  ·by_cases hjk:j=k
   ·subst hjk;exact hjun
   rw [getD_set_ne true hjk]at hun;exact hun
  rw [Array.setIfInBounds_comm _ _ e];exact h3.2.2⟩
def waitsB(md:Region.Mode)(ops:Array Oper)(z i:Nat):Bool:=match ops[z]? with|none=>true|some o=>o.after.any fun e=>Region.binds md e&&e.on==i
theorem waits_of {i:Nat}(h:waitsB md ops z i=true):WaitsFor md ops z i:=by
 intro o ho;unfold waitsB at h;rw [ho]at h;simp only [Array.any_eq_true']at h;obtain⟨e,he,hb⟩:=h;rw [Bool.and_eq_true]at hb;exact⟨e,he,hb.1,eq_of_beq hb.2⟩
theorem ordU_take {i:Nat} {oi:Oper} {v:Value} {n:Nat} {up:Array Bool} {a:Act} {w:World}(hi:ops[i]?=some oi)(hs:Region.noSelect ops=true)(hf:Region.free md ops up i=true)(hr:(Region.ready md ops up).contains i=true)
 (hz:waitsB md ops z i=true)(hQ:∀c a w,Q (.panic c) (a.put oi.dst v) w->Q (.panic c) a w)(hy:YieldsIf P ops S oi v a)(hS:S w)
 (h:OrdU P md ops Q S z n (up.setIfInBounds i true) (a.put oi.dst v) w):OrdU P md ops Q S z (n+1) up a w :=
 OrdU.first hi (Region.noSelect_spec hs) hQ (waits_of hz) n up a w (Region.free_spec hi hf) (by simpa using hr) hy hS h
def AllU(P:Program)(md:Region.Mode)(ops:Array Oper)(Q:Exit->Act->World->Prop)(S:World->Prop)(z n:Nat)(up:Array Bool)(a:Act)(w:World)(rs:List Nat):Prop :=
 ∀i∈rs,wpOp P ops Q i (fun b v=>(i≠z->S v)/\OrdU P md ops Q S z n (up.setIfInBounds i true) b v) a w
theorem ordU_ready {rs:List Nat} {n:Nat} {up:Array Bool} {a:Act} {w:World}(hr:Region.ready md ops up=rs)(hne:rs≠ [])(h:AllU P md ops Q S z n up a w rs):OrdU P md ops Q S z (n+1) up a w :=
 ⟨fun h0=>absurd (hr▸h0) hne,hr▸h⟩
theorem AllU.nil {n:Nat} {up:Array Bool} {a:Act} {w:World} :AllU P md ops Q S z n up a w []:=fun _ h=>by cases h
theorem AllU.cons {n:Nat} {up:Array Bool} {a:Act} {w:World} {i:Nat} {o:Oper} {rs:List Nat}(ho:ops[i]?=some o)
 (h:∀K:Act->World->Prop,Hid (∀a w,S w->(S w->OrdU P md ops Q S z n (up.setIfInBounds i true) a w)->K a w)->if Region.wanted o (yielded ops a.tmps)=true then Oper.wp P o a w K Q else K (a.put o.dst undef) w)
 (hs:AllU P md ops Q S z n up a w rs):AllU P md ops Q S z n up a w (i :: rs):=fun j hj=>by
 rcases List.mem_cons.1 hj with rfl|hj
 ·exact wpOp_step ho (fun K hK=>h K (Qq (fun a w hS hW=>hK a w ⟨fun _=>hS,hW hS⟩)))
 exact hs j hj
theorem ordU_last {n:Nat} {up:Array Bool} {a:Act} {w:World} {o:Oper}(hr:Region.ready md ops up= [z])(ho:ops[z]?=some o)
 (h:∀K:Act->World->Prop,Hid (∀a w,OrdU P md ops Q S z n (up.setIfInBounds z true) a w->K a w)->if Region.wanted o (yielded ops a.tmps)=true then Oper.wp P o a w K Q else K (a.put o.dst undef) w):OrdU P md ops Q S z (n+1) up a w :=
 ⟨fun h0=>(by rw [hr]at h0;cases h0),fun j hj=>by
  rw [hr,List.mem_singleton]at hj;subst hj;exact wpOp_step ho (fun K hK=>h K (Qq (fun a w hW=>hK a w ⟨fun hne=>absurd rfl hne,hW⟩)))⟩
theorem ordU_done {up:Array Bool} {a:Act} {w:World}(hr:Region.ready md ops up= [])(h:Q .normal a w):∀n,OrdU P md ops Q S z n up a w
 |0=>⟨hr,h⟩
 |_+1=>⟨fun _=>h,by rw [hr];simp⟩
theorem ordU_region {id:Nat} {a:Act} {w:World}(z:Nat)(S:World->Prop)(hm:P.follows .mixedOrders=true)(hS:S w.drew)(h:S w.drew->OrdU P .any ops Q S z ops.size (Array.replicate ops.size false) a w.drew):(Code.region id ops true).wp P Q a w :=
 wp_region_any hm (OrdU.any _ _ _ _ (h hS))
end
theorem Qb {P:Program} {md:Region.Mode} {ops:Array Oper} {Q:Exit->Act->World->Prop} {S:World->Prop} {z n:Nat} {up:Array Bool} {a a':Act} {w:World}(h:OrdU P md ops Q S z n up a' w)(e:a=a':=by(try simp only [Act.put,List.setIfInBounds_toArray,List.set_cons_zero,List.set_cons_succ,List.getElem_toArray,List.getElem_cons_succ,List.getElem_cons_zero]);exact rfl):OrdU P md ops Q S z n up a w:=e▸h
section
variable {P:Program} {md:Region.Mode} {ops:Array Oper} {Q:Exit->Act->World->Prop} {S:World->Prop}
theorem tk(i:Nat) {oi:Oper} {v:Value} {fuel:Nat} {listed:Array Bool} {a a':Act} {w:World}(hS:S w)
 (h:wpAnyH P md ops Q S fuel (listed.setIfInBounds i true) a' w)
 (hi:ops[i]?=some oi:=by exact rfl)(hs:Region.noSelect ops=true:=by kernel_rfl)(hf:Region.free md ops listed i=true:=by kernel_rfl)(hr:(Region.ready md ops listed).contains i=true:=by kernel_rfl)
 (hy:YieldsIf P ops S oi v a:=by refine Or.inl ⟨by rfl,?_⟩;intro w' hSw;(try dsimp only at hSw);go_simp;(try with_reducible rfl))
 (hQ:∀c a w,Q (.panic c) (a.put oi.dst v) w->Q (.panic c) a w:=by exact fun _ _ _ h=>h)
 (ha:a.put oi.dst v=a':=by(try simp only [Act.put,List.setIfInBounds_toArray,List.set_cons_zero,List.set_cons_succ,List.getElem_toArray,List.getElem_cons_succ,List.getElem_cons_zero]);exact rfl):wpAnyH P md ops Q S (fuel+1) listed a w :=
 wpAnyH_take hi hs hf hr hQ hy hS (by rw [ha];exact h)
theorem un(i:Nat) {oi:Oper} {fuel:Nat} {listed:Array Bool} {a a':Act} {w:World}(hS:S w)
 (h:wpAnyH P md ops Q S fuel (listed.setIfInBounds i true) a' w)
 (hi:ops[i]?=some oi:=by exact rfl)(hs:Region.noSelect ops=true:=by kernel_rfl)(hf:Region.free md ops listed i=true:=by kernel_rfl)(hr:(Region.ready md ops listed).contains i=true:=by kernel_rfl)
 (hy:YieldsIf P ops S oi undef a:=by exact Or.inr ⟨by rfl,rfl⟩)
 (hQ:∀c a w,Q (.panic c) (a.put oi.dst undef) w->Q (.panic c) a w:=by exact fun _ _ _ h=>h)
 (ha:a.put oi.dst undef=a':=by(try simp only [Act.put,List.setIfInBounds_toArray,List.set_cons_zero,List.set_cons_succ,List.getElem_toArray,List.getElem_cons_succ,List.getElem_cons_zero]);exact rfl):wpAnyH P md ops Q S (fuel+1) listed a w :=
 wpAnyH_take hi hs hf hr hQ hy hS (by rw [ha];exact h)
end
section
variable {a b c:World} {p:Addr} {v:Value}
theorem xc(hb:p.block < a.heap.size)(f:a.cell? p=some v)(h:Ext a b:=by repeat(first|exact Qz|assumption|apply Ext.alloc|apply Ext.drew)):b.cell? p=some v:=(h.cell hb).trans f
theorem xt(h:Ext b c)(e:Ext a b:=by repeat(first|exact Qz|assumption|apply Ext.alloc|apply Ext.drew)):Ext a c:=e.trans h
theorem xw(e:Ext a b:=by repeat(first|exact Qz|assumption|apply Ext.alloc|apply Ext.drew)):Ext a b:=e
end
theorem Qd {P:Program} {md:Region.Mode} {ops:Array Oper} {Q:Exit->Act->World->Prop} {S:World->Prop} {fuel:Nat} {up:Array Bool} {a a':Act} {w:World}(h:wpAnyH P md ops Q S fuel up a' w)(e:a=a':=by(try simp only [Act.put,List.setIfInBounds_toArray,List.set_cons_zero,List.set_cons_succ,List.getElem_toArray,List.getElem_cons_succ,List.getElem_cons_zero]);exact rfl):wpAnyH P md ops Q S fuel up a w:=e▸h
end Go.Proofs.YtbfeodammikajaaGreat
