/- The engine of a base, by trees: knowledge, common knowledge, coherence, possibility. -/
import Derived.Test.YtkmclcmnoicagaaGreatDoorH17
import Derived.Deep.CutBlock
import Derived.Deep.RegionHeld3
import Derived.Lib.Strings
import Derived.Lib.Slices
import Derived.Lib.Small
import Derived.Lib.Walk
import Derived.Lib.BitFns
namespace Go.Proofs.YtkmclcmnoicagaaGreatDoor
set_option maxRecDepth 100000
set_option maxHeartbeats 128000000
section
variable {l:List (List Nd)} {t0:Tr} (hB:Ls l t0)
include hB
theorem Bo {s:Tr}(hs:s∈l.map Qh):∃i,l[i]?=some (Qs s)/\i < l.length/\∀t,th l t s=t.testBit i:=by
 obtain⟨_,hm⟩:=(Vx hB.can).1 hs;obtain⟨i,hi,e⟩:=List.getElem_of_mem hm;have hg:l[i]?=some (Qs s):=by rw [Qv hi,e]
 refine⟨i,hg,hi,fun t=> ?_⟩;unfold th;rw [Gz hB.nodup hg,decide_eq_true (by omega),cond_true,Int.toNat_natCast]
theorem Qvw {i:Nat} {c:List Nd}(hi:l[i]?=some c):∃s,Xf s/\c=Qs s/\Jh s.top=true/\s∈l.map Qh:=by
 obtain⟨s,hs,e,hb⟩:=hB.can c (List.mem_of_getElem? hi);exact⟨s,hs,e,hb,(Vx hB.can).2 ⟨hs,e▸List.mem_of_getElem? hi⟩⟩
theorem Gm {k:Kn} :k∈Zs l↔∃i n a,.one n a∈l.map Qh/\l[i]?=some (Qs (.one n a))/\k=⟨n.i,i,Vv l (Qs a)⟩:=by
 unfold Zs;rw [List.mem_flatMap];constructor
 ·rintro⟨i,hi,hk⟩;have kE:=List.mem_range.1 hi;have hg:l[i]?=some (l.getD i []):=by rw [Qk,Qv kE];rfl
  obtain⟨s,hs,e,hb,hm⟩:=Qvw hB hg;rw [e]at hk hg;unfold Ch at hk;rw [hs.last]at hk;cases ho:s.top.op==9
  ·rw [ho]at hk;cases hk
  rw [ho]at hk;have cQ:s.top.op=9:=by simpa using ho
  cases s with
  |leaf n=>have:=hs.xp.1.1.1;rw [show n.op=9 from cQ]at this;cases this
  |two n a b=>have:=hs.xp.1.1.2.1;rw [show n.op=9 from cQ]at this;cases this
  |one n a =>
   obtain⟨_,e2,_,e4,_⟩:=Qkg hs.check hs.tree;rw [e2,e4]at hk;exact⟨i,n,a,hm,hg,by simpa using hk⟩
 rintro⟨i,n,a,hm,hg,rfl⟩;have kE:=(List.getElem?_eq_some_iff.1 hg).1;obtain⟨hs,_⟩:=(Vx hB.can).1 hm;refine⟨i,List.mem_range.2 kE,?_⟩;have e:l.getD i []=Qs (.one n a):=by rw [Qk,hg];rfl
 obtain⟨e1,e2,_,e4,_⟩:=Qkg hs.check hs.tree;unfold Ch;rw [e,e1,e2,e4,(hB.closed.know n a hm).1];simp
theorem Rd {k:Cm} :k∈Jm l↔∃i n a b,.two n a b∈l.map Qh/\l[i]?=some (Qs (.two n a b))/\k=⟨i,n.g,Vv l (Qs a),Vv l (Qs b),Sq l (Qs (.two n a b))⟩:=by
 unfold Jm;rw [List.mem_flatMap];constructor
 ·rintro⟨i,hi,hk⟩;have kE:=List.mem_range.1 hi;have hg:l[i]?=some (l.getD i []):=by rw [Qk,Qv kE];rfl
  obtain⟨s,hs,e,hb,hm⟩:=Qvw hB hg;rw [e]at hk hg;unfold Mf at hk;rw [hs.last]at hk;cases ho:s.top.op==13
  ·rw [ho]at hk;cases hk
  rw [ho]at hk;obtain⟨n,a,b,rfl,_⟩:=Ie hs (by simpa using ho);obtain⟨_,e2,e3,e4⟩:=Tt hs.check hs.tree;rw [e2,e3,e4]at hk;exact⟨i,n,a,b,hm,hg,by simpa using hk⟩
 rintro⟨i,n,a,b,hm,hg,rfl⟩;have kE:=(List.getElem?_eq_some_iff.1 hg).1;obtain⟨hs,_⟩:=(Vx hB.can).1 hm;refine⟨i,List.mem_range.2 kE,?_⟩;have e:l.getD i []=Qs (.two n a b):=by rw [Qk,hg];rfl
 obtain⟨e1,e2,e3,e4⟩:=Tt hs.check hs.tree;unfold Mf;rw [e,e1,e2,e3,e4,(hB.closed.com n a b hm).1];simp
end
theorem Qn1 {lg:Int} :Bw lg=true↔Qb6 lg:=by
 unfold Bw Qb6;simp
theorem Qjv:∀(L:List Nat) (p j:Nat),(L.foldl (fun p x=>p|||2^x) p).testBit j=(p.testBit j||decide (j∈L))
 |[],p,j=>by simp
 |x :: r,p,j=>by
  rw [List.foldl_cons,Qjv r,Nat.testBit_or,Nat.testBit_two_pow];by_cases h:x=j
  ·subst h;simp
  have h':¬j=x:=fun e=>h e.symm
  simp [h,h',List.mem_cons]
theorem Qit {t F:Nat} :((t&&&F)==F)=true↔∀j,F.testBit j=true->t.testBit j=true:=by
 rw [beq_iff_eq];constructor
 ·intro h j hj;have:=congrArg (fun x=>x.testBit j) h;simp only [Nat.testBit_and,hj,Bool.and_true]at this;exact this
 intro h;refine Nat.eq_of_testBit_eq fun j=> ?_
 rw [Nat.testBit_and];cases hj:F.testBit j
 ·simp
 rw [h j hj];rfl
section
variable {l:List (List Nd)} {t0:Tr} (hB:Ls l t0)
include hB
theorem Qfc {n:Nd} {a b:Tr}(hm:.two n a b∈l.map Qh)(t:Nat):((t&&&Sq l (Qs (.two n a b)))==Sq l (Qs (.two n a b)))=true↔∀i:Nat,i < 4->Vg n.g i=true->th l t (Gr i n a b)=true:=by
 obtain⟨hs,_⟩:=(Vx hB.can).1 hm;obtain⟨_,e2,_,_⟩:=Tt hs.check hs.tree;have hu:∀i,i < 4->Vg n.g i=true->Ua i (Qs (.two n a b))=Qs (Gr i n a b):=fun i hi hg=>by
  obtain⟨hx,_⟩:=(Vx hB.can).1 ((hB.closed.com n a b hm).2.2.2.2.2 i hi hg);rw [hs.unf hi,hx.short]
 have sP:∀i,i < 4->Vg n.g i=true->th l t (Gr i n a b)=t.testBit (Yr l (Ua i (Qs (.two n a b)))).toNat:=fun i hi hg=>by
  obtain⟨j,hj,_,h⟩:=Bo hB ((hB.closed.com n a b hm).2.2.2.2.2 i hi hg);rw [h,hu i hi hg,Gz hB.nodup hj,Int.toNat_natCast]
 have cL:Sq l (Qs (.two n a b))=(((List.range 4).filter fun i=>Vg n.g i).map fun i=>(Yr l (Ua i (Qs (.two n a b)))).toNat).foldl (fun p x=>p|||2^x) 0:=by
  unfold Sq;rw [e2,List.foldl_map]
 rw [Qit,cL];constructor
 ·intro h i hi hg;rw [sP i hi hg];refine h _ ?_;rw [Qjv];simp only [Nat.zero_testBit,Bool.false_or,decide_eq_true_iff,List.mem_map];exact⟨i,List.mem_filter.2 ⟨List.mem_range.2 hi,hg⟩,rfl⟩
 intro h j hj;rw [Qjv]at hj;simp only [Nat.zero_testBit,Bool.false_or,decide_eq_true_iff,List.mem_map]at hj;obtain⟨i,hi,rfl⟩:=hj;obtain⟨h1,h2⟩:=List.mem_filter.1 hi;have h1:=List.mem_range.1 h1;rw [<-sP i h1 h2];exact h i h1 h2
theorem Mm {n:Nd} {a:Tr}(hm:.one n a∈l.map Qh) {u:Nat}(hu:u < 2^l.length):(Vv l (Qs a)).getD u false=ev (th l u) a:=by
 obtain⟨hs,_⟩:=(Vx hB.can).1 hm;rw [Qy5 hs.of_one.check hu,hs.of_one.tree]
theorem Qz6 {n:Nd} {a b:Tr}(hm:.two n a b∈l.map Qh) {u:Nat}(hu:u < 2^l.length):(Vv l (Qs a)).getD u false=ev (th l u) a/\(Vv l (Qs b)).getD u false=ev (th l u) b:=by
 obtain⟨hs,_⟩:=(Vx hB.can).1 hm;rw [Qy5 hs.of_two.1.check hu,hs.of_two.1.tree,Qy5 hs.of_two.2.check hu,hs.of_two.2.tree];exact⟨rfl,rfl⟩
theorem Qgd {lg:Int} {t:Nat}(ht:t < 2^l.length):Vk lg (Zs l) (Jm l) t=true↔Coh lg (l.map Qh) (th l t):=by
 unfold Vk;rw [Bool.and_eq_true,List.all_eq_true,List.all_eq_true];constructor
 ·rintro⟨h1,h2⟩;refine⟨fun n a b hm=> ?_,fun hr n a hm sP=> ?_⟩
  ·obtain⟨i,hg,_,hi⟩:=Bo hB hm;have:=h1 _ ((Rd hB).2 ⟨i,n,a,b,hm,hg,rfl⟩);rw [beq_iff_eq]at this;simp only at this;rw [hi,this,Qfc hB hm]
  obtain⟨i,hg,_,hi⟩:=Bo hB hm;have:=h2 _ ((Gm hB).2 ⟨i,n,a,hm,hg,rfl⟩);simp only at this;rw [(Qn1).2 hr,<-hi,sP,Mm hB hm ht]at this
  simpa using this
 rintro⟨h1,h2⟩;constructor
 ·intro c hc;obtain⟨i,n,a,b,hm,hg,rfl⟩:=(Rd hB).1 hc;obtain⟨j,vM,_,hi⟩:=Bo hB hm;have sK:j=i:=by
   have e1:=Gz hB.nodup hg;have e2:=Gz hB.nodup vM;omega
  subst sK;rw [beq_iff_eq,Bool.eq_iff_iff,Qfc hB hm,<-h1 n a b hm,hi]
 intro k hk;obtain⟨i,n,a,hm,hg,rfl⟩:=(Gm hB).1 hk;obtain⟨j,vM,_,hi⟩:=Bo hB hm;have sK:j=i:=by
  have e1:=Gz hB.nodup hg;have e2:=Gz hB.nodup vM;omega
 subst sK;simp only;cases hr:Bw lg
 ·rfl
 rw [<-hi,Mm hB hm ht];cases sP:th l t (.one n a)
 ·rfl
 rw [h2 ((Qn1).1 hr) n a hm sP];rfl
theorem Bm {lg:Int} {i:Int} {t u:Nat}(hu:u < 2^l.length):Jy lg (Zs l) i t u=true↔Mx lg (l.map Qh) i (th l t) (th l u):=by
 unfold Jy Mx;rw [List.all_eq_true];constructor
 ·intro h n a hm mS;obtain⟨j,hg,_,hi⟩:=Bo hB hm;have:=h _ ((Gm hB).2 ⟨j,n,a,hm,hg,rfl⟩);simp only at this;rw [Mm hB hm hu,<-hi,<-hi]at this;have zQ:(n.i !=i)=false:=by simpa using mS
  rw [zQ]at this
  simpa using this
 intro h k hk;obtain⟨j,n,a,hm,hg,rfl⟩:=(Gm hB).1 hk;obtain⟨j',vM,_,hi⟩:=Bo hB hm;have sK:j'=j:=by
  have e1:=Gz hB.nodup hg;have e2:=Gz hB.nodup vM;omega
 subst sK;simp only;rw [Mm hB hm hu,<-hi,<-hi];by_cases mS:n.i=i
 ·rw [h n a hm mS,Bool.or_true]
 have:(n.i !=i)=true:=by simpa using mS
 rw [this];rfl
end
theorem Qm3 {α:Type} {l:List α} {k:Nat} {a:α}(h:l[k]?=some a):l.take (k+1)=l.take k++ [a]:=by
 obtain⟨hk,e⟩:=List.getElem?_eq_some_iff.1 h;rw [List.take_succ_eq_append_getElem hk,e]
theorem Dl {l:List Nd} {k:Nat} {n:Nd}(hn:l[k]?=some n) {d d':List (List Nd)}(h:Ux (l.take k) d=some d'):
 Ux (l.take (k+1)) d=bif decide ((Jc n (d'.getD n.x.toNat []) (d'.getD n.y.toNat [])).length=0)then none else some (d'++ [Jc n (d'.getD n.x.toNat []) (d'.getD n.y.toNat [])]):=by
 have key:∀(a b:List Nd) (d d':List (List Nd)),Ux a d=some d'->Ux (a++b) d=Ux b d':=by
  intro a
  induction a with
  |nil=>intro b d d' h;injection h with h;subst h;rfl
  |cons x r ih =>
   intro b d d' h;simp only [Ux,List.cons_append]at h⊢;cases hz:decide ((Jc x (d.getD x.x.toNat []) (d.getD x.y.toNat [])).length=0)
   ·rw [hz]at h;exact ih b _ _ h
   rw [hz]at h;cases h
 rw [Qm3 hn,key _ _ _ _ h];simp only [Ux]
theorem Hg {l:List Nd} {k:Nat} {d:List (List Nd)}(h:Ux (l.take k) d=none):Ux l d=none:=by
 have key:∀(a b:List Nd) (d:List (List Nd)),Ux a d=none->Ux (a++b) d=none:=by
  intro a
  induction a with
  |nil=>intro b d h;cases h
  |cons x r ih =>
   intro b d h;simp only [Ux,List.cons_append]at h⊢;cases hz:decide ((Jc x (d.getD x.x.toNat []) (d.getD x.y.toNat [])).length=0)
   ·rw [hz]at h;exact ih b _ h
   rfl
 have:=key _ (l.drop k) d h
 rwa [List.take_append_drop]at this
theorem Qlt {n:Nd} {a a' b b':List Nd}(hx:Zq n.op=true->a=a')(hy:Qw n.op=true->b=b')(ho:Wq n.op):Jc n a b=Jc n a' b':=by
 have zI:n.op=1\/n.op=2\/n.op=3\/n.op=4\/n.op=5\/n.op=6\/n.op=7\/n.op=8\/n.op=9\/n.op=10\/n.op=11\/n.op=13:=by unfold Wq at ho;omega
 unfold Jc;rcases zI with h|h|h|h|h|h|h|h|h|h|h|h
 ·simp [h]
 ·simp [h]
 ·simp [h]
 ·rw [hx (by rw [h];rfl)];simp [h]
 ·rw [hx (by rw [h];rfl),hy (by rw [h];rfl)]
 ·rw [hx (by rw [h];rfl),hy (by rw [h];rfl)]
 ·rw [hx (by rw [h];rfl),hy (by rw [h];rfl)]
 ·rw [hx (by rw [h];rfl),hy (by rw [h];rfl)]
 ·rw [hx (by rw [h];rfl)];simp [h]
 ·rw [hx (by rw [h];rfl)];simp [h]
 ·rw [hx (by rw [h];rfl)];simp [h]
 rw [hx (by rw [h];rfl),hy (by rw [h];rfl)]
theorem Qst:∀(r:List Tr) (t:Tr),t.all Mn->(∀u∈r,u.all Mn)->(Hz t r).all Mn
 |[],_,ht,_=>ht
 |u :: r,t,ht,hr=>Qst r _ ⟨.inl ⟨by decide,by decide⟩,ht,hr u (List.mem_cons_self ..)⟩ (fun v hv=>hr v (List.mem_cons_of_mem _ hv))
theorem Zji:∀(l:List Tr),(∀u∈l,u.all Mn)->(Cp l).all Mn
 |[],_=> .inl ⟨by decide,by decide⟩
 |t :: r,h=>Qst r t (h t (List.mem_cons_self ..)) (fun v hv=>h v (List.mem_cons_of_mem _ hv))
theorem Zqk {n:Nd} {a b:Tr}(ho:Wq n.op)(ha:Zq n.op=true->a.all Mn)(hb:Qw n.op=true->b.all Mn):(Rl n a b).all Mn:=by
 unfold Rl;by_cases xT:n.op=10
 ·rw [if_pos xT];have h:=ha (by rw [xT];rfl);exact⟨.inl ⟨by decide,by decide⟩,.inl ⟨show(1:Int)<=9 by decide,show(9:Int)<=9 by decide⟩,.inl ⟨by decide,by decide⟩,h⟩
 rw [if_neg xT];by_cases uL:n.op=11
 ·rw [if_pos uL];have h:=ha (by rw [uL];rfl);refine Zji _ fun u hu=> ?_
  obtain⟨i,_,rfl⟩:=List.mem_map.1 hu;exact⟨.inl ⟨show(1:Int)<=9 by decide,show(9:Int)<=9 by decide⟩,h⟩
 rw [if_neg uL];have hn:Mn n:=by unfold Wq at ho;unfold Mn;omega
 unfold Vy;cases h2:Qw n.op
 ·cases h1:Zq n.op
  ·exact hn
  exact⟨hn,ha h1⟩
 exact⟨hn,ha (Vl h2),hb h2⟩
theorem Qxs {α:Type}(g:Nat->α)(d:α) {k j:Nat}(h:j < k):((List.range k).map g).getD j d=g j:=by
 rw [Qk,List.getElem?_map,List.getElem?_range h];rfl
theorem Qvy {c:List Nd}(hw:Wf c)(hh:∀n∈c,Ze n)(hl:∀n∈c,Wq n.op):∀(k:Nat) (d:List (List Nd)),k<=c.length->Ux (c.take k) []=some d->
 d=(List.range k).map (fun j=>Qs (Vi (tr c j)))/\∀j,j < k->Xf (Vi (tr c j))
 |0,d,_,h=>by
  injection h with h;exact⟨h.symm,fun j hj=>absurd hj (by omega)⟩
 |k+1,d,hk,h=>by
  obtain⟨n,hn⟩:∃n,c[k]?=some n:=⟨_,List.getElem?_eq_getElem (by omega)⟩;cases hd:Ux (c.take k) []with
  |none =>
   have hp:c.take k=(c.take (k+1)).take k:=by rw [List.take_take];congr 1;omega
   rw [hp]at hd;rw [Hg hd]at h;cases h
  |some d' =>
   obtain⟨e1,e2⟩:=Qvy hw hh hl k d' (by omega) hd;rw [Dl hn hd]at h;have hm:=List.mem_of_getElem? hn;obtain⟨hx,hy⟩:=hw k n hn;have gx:Zq n.op=true->d'.getD n.x.toNat []=Zi (Vi (tr c n.x.toNat)):=fun h1=>by
    have:=hx h1;rw [e1,Qxs (fun j=>Qs (Vi (tr c j))) [] (by omega),(e2 _ (by omega)).short]
   have gy:Qw n.op=true->d'.getD n.y.toNat []=Zi (Vi (tr c n.y.toNat)):=fun h1=>by
    have:=hy h1;rw [e1,Qxs (fun j=>Qs (Vi (tr c j))) [] (by omega),(e2 _ (by omega)).short]
   have hE:=Qll (a:=Vi (tr c n.x.toNat)) (b:=Vi (tr c n.y.toNat)) (hh n hm) (hl n hm) (fun h1=>by have:=hx h1;exact(e2 _ (by omega)).xp.1) (fun h1=>by have:=hy h1;exact(e2 _ (by omega)).xp.1);have hX:=Zqk (a:=Vi (tr c n.x.toNat)) (b:=Vi (tr c n.y.toNat)) (hl n hm) (fun h1=>by have:=hx h1;exact(e2 _ (by omega)).xp.2) (fun h1=>by have:=hy h1;exact(e2 _ (by omega)).xp.2);have ht:Rl n (Vi (tr c n.x.toNat)) (Vi (tr c n.y.toNat))=Vi (tr c k):=by rw [Xd hw hn,Zqx]
   rw [Qlt gx gy (hl n hm),hE.1,ht]at h;rw [ht]at hE hX;cases hz:decide ((Zi (Vi (tr c k))).length=0)
   ·rw [hz]at h;injection h with h;have zG:(Qs (Vi (tr c k))).length<=200:=by
     by_cases e:(Qs (Vi (tr c k))).length<=200
     ·exact e
     have:=of_decide_eq_false hz;rw [Gq (by omega)]at this;exact absurd rfl this
    rw [Gc zG,e1]at h;refine⟨?_,fun j hj=> ?_⟩
    ·rw [<-h,List.range_succ,List.map_append];rfl
    by_cases e:j < k
    ·exact e2 j e
    have:j=k:=by omega
    subst this;exact⟨⟨hE.2,hX⟩,zG⟩
   rw [hz]at h;cases h
theorem Qc7 {l:List Nd}(h:Kv l&&&500=0):∀n∈l,(Vn n.op).toNat&&&500=0:=by
 have key:∀(l:List Nd) (m:Nat),(l.foldl (fun m n=>m|||(Vn n.op).toNat) m)&&&500=0->m&&&500=0/\∀n∈l,(Vn n.op).toNat&&&500=0:=by
  intro l
  induction l with
  |nil=>intro m h;exact⟨h,fun n hn=>by cases hn⟩
  |cons a r ih =>
   intro m h;obtain⟨h1,h2⟩:=ih _ h;rw [Nat.and_or_distrib_right]at h1;have l1:m&&&500<=m&&&500|||(Vn a.op).toNat&&&500:=Nat.left_le_or;have l2:(Vn a.op).toNat&&&500<=m&&&500|||(Vn a.op).toNat&&&500:=Nat.right_le_or;refine⟨by omega,fun n hn=> ?_⟩;rcases List.mem_cons.1 hn with rfl|hn
   ·omega
   exact h2 n hn
 exact(key l 0 h).2
theorem Em {f:List Nd}(hc:check f=0)(hl:Nf f=false):∀n∈Qf f,Wq n.op:=by
 intro n hn;unfold Nf Jp at hl;have hb:=Qc7 (by simpa using hl) n hn;have ho:=(Dc n.op).1 ((Jb hc).2.2.2 n hn).1;have:n.op=1\/n.op=2\/n.op=3\/n.op=4\/n.op=5\/n.op=6\/n.op=7\/n.op=8\/n.op=9\/n.op=10\/n.op=11\/n.op=12\/n.op=13\/n.op=14\/n.op=15\/n.op=16\/n.op=17\/n.op=18\/n.op=19\/n.op=20\/n.op=21:=by omega
 unfold Wq;rcases this with h|h|h|h|h|h|h|h|h|h|h|h|h|h|h|h|h|h|h|h|h <;> first|omega|(rw [h]at hb;exact absurd hb (by decide))
theorem Qvv {f:List Nd}(hc:check f=0)(hl:Nf f=false)(zQ:(Ji f).length≠0):Xf (Vi (Qh f))/\Ji f=Qs (Vi (Qh f)):=by
 obtain⟨hw,_,hp,hh⟩:=Jb hc;unfold Ji at zQ⊢;cases hd:Ux (Qf f) []with
 |none=>rw [hd]at zQ;exact absurd rfl zQ
 |some d =>
  have h:=Qvy hw hh (Em hc hl) (Qf f).length d (Nat.le_refl _) (by rw [List.take_of_length_le (Nat.le_refl _)];exact hd);obtain⟨e1,e2⟩:=h;have et:tr (Qf f) ((Qf f).length - 1)=Qh f:=Xy hc;have hx:=e2 ((Qf f).length - 1) (by omega);rw [et]at hx;refine⟨hx,?_⟩;show d.getLastD []=_;obtain⟨m,hm⟩:∃m,(Qf f).length=m+1:=⟨(Qf f).length - 1,by omega⟩;rw [e1,hm,List.range_succ,List.map_append];rw [hm]at et;simp only [List.map_cons,List.map_nil,List.getLastD_concat];rw [<-et];rfl
theorem Es {lg:Int} {ks:List Kn} {al:List Bool} {a:Int} {t:Nat} {wt:Nat->Bool} :Xw lg ks al a t wt < 0↔∀u,u < al.length->Xo lg ks al a t wt u=false:=by
 unfold Xw;cases h:(List.range al.length).find? (Xo lg ks al a t wt)with
 |none =>
  rw [List.find?_eq_none]at h;refine⟨fun _ u hu=> ?_,fun _=>by decide⟩;have:=h u (List.mem_range.2 hu)
  simpa using this
 |some k =>
  obtain⟨h1,h2,_⟩:=List.find?_range_eq_some.1 h;refine⟨fun hn=> ?_,fun hn=> ?_⟩
  ·simp only at hn;omega
  rw [hn k (List.mem_range.1 h2)]at h1;cases h1
theorem Xr {al:List Bool} {t:Nat}(h:al.getD t false=true):t < al.length:=by
 by_cases e:t < al.length
 ·exact e
 rw [Qk,List.getElem?_eq_none (by omega)]at h;cases h
theorem Eh {lg:Int} {ks:List Kn} {al:List Bool} {c:Cm} {t:Nat} :Hs lg ks al c t=true↔∃u,Kj (fun a b=>Pm lg ks al c a b=true) t u/\c.y.getD u false=false:=by
 simp [Hs]
theorem En {l:List (List Nd)} {M:KM} {w:M.W} {t:Nat}(h:∀s∈l.map Qh,th l t s=So M w s) {f:Tr}(hc:cov (l.map Qh) f)(hl:lang f):ev (th l t) f=ev (So M w) f:=by
 rw [Bool.eq_iff_iff,evW w hc hl];exact Qjz (fun s hs=>by rw [h s hs];exact Fb) f hc hl
theorem Qhr(p:Nat->Bool):∀n:Nat,∃t,t < 2^n/\∀i,i < n->t.testBit i=p i
 |0=>⟨0,by simp,fun i h=>absurd h (by omega)⟩
 |n+1=>by
  obtain⟨t,h1,h2⟩:=Qhr p n;cases hp:p n
  ·refine⟨t,by rw [Nat.pow_succ];omega,fun i hi=> ?_⟩;by_cases e:i < n
   ·exact h2 i e
   have:i=n:=by omega
   subst this;rw [hp,Nat.testBit_lt_two_pow h1]
  refine⟨t|||2^n,Nat.or_lt_two_pow (by rw [Nat.pow_succ];omega) (by rw [Nat.pow_succ];have:=Nat.two_pow_pos n;omega),fun i hi=> ?_⟩;rw [Nat.testBit_or,Nat.testBit_two_pow];by_cases e:i < n
  ·rw [h2 i e];have:¬n=i:=by omega
   simp [this]
  have:i=n:=by omega
  subst this;simp [hp]
section
variable {l:List (List Nd)} {t0:Tr} (hB:Ls l t0) {lg:Int}
include hB
theorem Qs4 {i:Nat} {n:Nd} {a:Tr}(hm:.one n a∈l.map Qh)(hg:l[i]?=some (Qs (.one n a))):(Zs l).find? (fun k=>(k.place:Int)==(i:Int))=some ⟨n.i,i,Vv l (Qs a)⟩:=by
 cases h:(Zs l).find? (fun k=>(k.place:Int)==(i:Int))with
 |none =>
  rw [List.find?_eq_none]at h;have:=h _ ((Gm hB).2 ⟨i,n,a,hm,hg,rfl⟩);simp at this
 |some k =>
  obtain⟨j,n',a',oJ,vM,rfl⟩:=(Gm hB).1 (List.mem_of_find?_eq_some h);have hp:=List.find?_some h;have sK:j=i:=by
   have h0:(j:Int)=(i:Int):=by simpa using hp
   omega
  subst sK;rw [hg]at vM;injection vM with vM;have:=((Vx hB.can).1 hm).1.inj ((Vx hB.can).1 oJ).1 vM;injection this with e1 e2;rw [e1,e2]
theorem Qs5 {i:Nat} {n:Nd} {a b:Tr}(hm:.two n a b∈l.map Qh)(hg:l[i]?=some (Qs (.two n a b))):(Zs l).find? (fun k=>(k.place:Int)==(i:Int))=none:=by
 rw [List.find?_eq_none];intro k hk;obtain⟨j,n',a',oJ,vM,rfl⟩:=(Gm hB).1 hk;intro hp;have sK:j=i:=by
  have h0:(j:Int)=(i:Int):=by simpa using hp
  omega
 subst sK;rw [hg]at vM;injection vM with vM;have:=((Vx hB.can).1 hm).1.inj ((Vx hB.can).1 oJ).1 vM;cases this
theorem Qsa {i:Nat} {n:Nd} {a b:Tr}(hm:.two n a b∈l.map Qh)(hg:l[i]?=some (Qs (.two n a b))):(Jm l).find? (fun k=>(k.place:Int)==(i:Int))=some ⟨i,n.g,Vv l (Qs a),Vv l (Qs b),Sq l (Qs (.two n a b))⟩:=by
 cases h:(Jm l).find? (fun k=>(k.place:Int)==(i:Int))with
 |none =>
  rw [List.find?_eq_none]at h;have:=h _ ((Rd hB).2 ⟨i,n,a,b,hm,hg,rfl⟩);simp at this
 |some k =>
  obtain⟨j,n',a',b',oJ,vM,rfl⟩:=(Rd hB).1 (List.mem_of_find?_eq_some h);have hp:=List.find?_some h;have sK:j=i:=by
   have h0:(j:Int)=(i:Int):=by simpa using hp
   omega
  subst sK;rw [hg]at vM;injection vM with vM;have:=((Vx hB.can).1 hm).1.inj ((Vx hB.can).1 oJ).1 vM;injection this with e1 e2 e3;rw [e1,e2,e3]
theorem Qkc {al:List Bool}(hl:al.length=2^l.length) {i:Nat} {n:Nd} {a b:Tr}(hm:.two n a b∈l.map Qh)(t u:Nat):
 Pm lg (Zs l) al ⟨i,n.g,Vv l (Qs a),Vv l (Qs b),Sq l (Qs (.two n a b))⟩ t u=true↔Ha lg (l.map Qh) (fun t=>al.getD t false=true) (th l) n.g a t u:=by
 unfold Pm Ha;simp only [Bool.and_eq_true,List.any_eq_true,List.mem_range];constructor
 ·rintro⟨h1,h2,i,h3,h4,h5⟩;have hu:u < 2^l.length:=hl▸Xr h1;exact⟨h1,by rw [<-(Qz6 hB hm hu).1];exact h2,i,h3,h4,(Bm hB hu).1 h5⟩
 rintro⟨h1,h2,i,h3,h4,h5⟩;have hu:u < 2^l.length:=hl▸Xr h1;exact⟨h1,by rw [(Qz6 hB hm hu).1];exact h2,i,h3,h4,(Bm hB hu).2 h5⟩
theorem Zqb {al:List Bool}(hl:al.length=2^l.length)(hc:∀t,al.getD t false=true->Vk lg (Zs l) (Jm l) t=true)
 (hw:∀t,al.getD t false=true->∀i:Int,-4<=i->i < l.length->Vr lg (Zs l) (Jm l) al t i=false):Od lg (l.map Qh) (fun t=>al.getD t false=true) (th l) where
 coh t ht:=(Qgd hB (hl▸Xr ht)).1 (hc t ht)
 ser hs t ht i ho:=by
  obtain⟨n,a,hm,hi⟩:=ho;obtain⟨j,hg,_,_⟩:=Bo hB hm;obtain⟨_,_,_,h0,h4⟩:=hB.closed.know n a hm;have h:=hw t ht (-1 - i) (by omega) (by omega);unfold Vr at h;rw [decide_eq_true (show -1 - i < 0 by omega),cond_true]at h;have xX:(lg==1||lg==5)=true:=by rcases hs with e|e <;> rw [e] <;> rfl
  have tK:(Zs l).any (fun k=>k.agent== -1 - (-1 - i))=true:=by
   rw [List.any_eq_true];exact⟨_,(Gm hB).2 ⟨j,n,a,hm,hg,rfl⟩,by simp;omega⟩
  rw [xX,tK,Bool.true_and,Bool.true_and,decide_eq_false_iff_not,Es]at h;obtain⟨u,hu⟩:=Classical.not_forall.1 h;obtain⟨rS,hp⟩:=Classical.not_imp.1 hu;have hp:Xo lg (Zs l) al (-1 - (-1 - i)) t (fun _=>true) u=true:=by simpa using hp
  unfold Xo at hp;rw [Bool.and_eq_true,Bool.true_and,show -1 - (-1 - i)=i by omega]at hp;exact⟨u,hp.1,(Bm hB (by omega)).1 hp.2⟩
 know t ht n a hm hf:=by
  obtain⟨j,hg,hj,sP⟩:=Bo hB hm;have h:=hw t ht (j:Int) (by omega) (by omega);unfold Vr at h;rw [decide_eq_false (show ¬(j:Int) < 0 by omega),cond_false,Qs4 hB hm hg]at h;simp only [Int.toNat_natCast]at h;rw [<-sP,hf,Bool.not_false,Bool.true_and,decide_eq_false_iff_not,Es]at h;obtain⟨u,hu⟩:=Classical.not_forall.1 h;obtain⟨rS,hp⟩:=Classical.not_imp.1 hu;have hp:Xo lg (Zs l) al n.i t (fun u=> !(Vv l (Qs a)).getD u false) u=true:=by simpa using hp
  unfold Xo at hp;rw [Bool.and_eq_true,Bool.and_eq_true]at hp;have sT:(!(Vv l (Qs a)).getD u false)=true:=hp.2.1;rw [Mm hB hm (by omega)]at sT;exact⟨u,hp.1,by simpa using sT,(Bm hB (by omega)).1 hp.2.2⟩
 com t ht n a b hm hf:=by
  obtain⟨j,hg,hj,sP⟩:=Bo hB hm;have h:=hw t ht (j:Int) (by omega) (by omega);unfold Vr at h;rw [decide_eq_false (show ¬(j:Int) < 0 by omega),cond_false,Qs5 hB hm hg,Qsa hB hm hg]at h;simp only [Int.toNat_natCast]at h;rw [<-sP,hf,Bool.not_false,Bool.true_and]at h;have h:Hs lg (Zs l) al ⟨j,n.g,Vv l (Qs a),Vv l (Qs b),Sq l (Qs (.two n a b))⟩ t=true:=by simpa using h
  rw [Eh]at h;obtain⟨u,hr,hy⟩:=h;have RU:=hr.mono (fun x y oS=>(Qkc hB hl hm x y).1 oS);have rS:al.getD u false=true:=by
   have key:∀x y,Kj (Ha lg (l.map Qh) (fun t=>al.getD t false=true) (th l) n.g a) x y->al.getD y false=true:=by
    intro x y oS
    induction oS with
    |one h=>exact h.1
    |cons _ _ ih=>exact ih
   exact key t u RU
  exact⟨u,RU,by rw [<-(Qz6 hB hm (hl▸Xr rS)).2];exact hy⟩
theorem Qzj {M:KM} {w v:M.W} {t u:Nat}(ht:∀s∈l.map Qh,th l t s=So M w s)(hu:∀s∈l.map Qh,th l u s=So M v s) {i:Int}(h:Mx lg (l.map Qh) i (So M w) (So M v)):Mx lg (l.map Qh) i (th l t) (th l u):=by
 intro n a hm hi;obtain⟨_,hc,uE,_,_⟩:=hB.closed.know n a hm;rw [ht _ hm,hu _ hm,En hu hc uE];exact h n a hm hi
theorem Qjp {M:KM}(w:M.W):∃t,t < 2^l.length/\∀s∈l.map Qh,th l t s=So M w s:=by
 obtain⟨t,h1,h2⟩:=Qhr (fun i=>So M w (Qh (l.getD i []))) l.length;refine⟨t,h1,fun s hs=> ?_⟩;obtain⟨i,hg,hi,sP⟩:=Bo hB hs;rw [sP,h2 i hi,Qk,hg,Option.getD_some,((Vx hB.can).1 hs).1.tree]
def Qyj(l:List (List Nd))(M:KM)(al:List Bool):Prop:=∀(t:Nat) (w:M.W),t < 2^l.length->(∀s∈l.map Qh,th l t s=So M w s)->al.getD t false=true
theorem Qsn {M:KM}(hM:M.In lg)(xX:lg<=6) {al:List Bool}(hl:al.length=2^l.length)(hS:Qyj l M al) {t:Nat} {w:M.W}(ht:t < 2^l.length)(hw:∀s∈l.map Qh,th l t s=So M w s)(i:Int):Vr lg (Zs l) (Jm l) al t i=false:=by
 have hF:=Qm8 hB.closed hM xX;unfold Vr;by_cases hi:i < 0
 ·rw [decide_eq_true hi,cond_true];cases hlg2:(lg==1||lg==5)
  ·rfl
  rw [Bool.true_and];have hs:lg=1\/lg=5:=by simpa using hlg2
  cases tK:(Zs l).any (fun k=>k.agent== -1 - i)
  ·rfl
  rw [Bool.true_and,decide_eq_false_iff_not,Es];intro oI;rw [List.any_eq_true]at tK;obtain⟨k,hk,he⟩:=tK;obtain⟨j,n,a,hm,hg,rfl⟩:=(Gm hB).1 hk;have he:n.i= -1 - i:=by simpa using he
  obtain⟨v,_,hp⟩:=hF.ser hs w trivial (-1 - i) ⟨n,a,hm,he⟩;obtain⟨u,hu,fI⟩:=Qjp hB v;have:=oI u (by omega);unfold Xo at this;rw [hS u v hu fI,(Bm hB hu).2 (Qzj hB hw fI hp)]at this;cases this
 rw [decide_eq_false hi,cond_false];obtain⟨j,rfl⟩:=Int.eq_ofNat_of_zero_le (show 0<=i by omega);cases hf:(Zs l).find? (fun k=>(k.place:Int)==(j:Int))with
 |some k =>
  obtain⟨j',n,a,hm,hg,rfl⟩:=(Gm hB).1 (List.mem_of_find?_eq_some hf);have sK:j'=j:=by
   have h0:(j':Int)=(j:Int):=by simpa using List.find?_some hf
   omega
  subst sK;obtain⟨j2,uF,_,sP⟩:=Bo hB hm;have sK:j2=j':=by
   have e1:=Gz hB.nodup hg;have e2:=Gz hB.nodup uF;omega
  subst sK;simp only [Int.toNat_natCast];rw [<-sP];cases hv:th l t (.one n a)
  ·rw [Bool.not_false,Bool.true_and,decide_eq_false_iff_not,Es];intro oI;obtain⟨v,_,he,hp⟩:=hF.know w trivial n a hm (by rw [<-hw _ hm];exact hv);obtain⟨u,hu,fI⟩:=Qjp hB v;have:=oI u (by omega);obtain⟨_,hc,uE,_,_⟩:=hB.closed.know n a hm;unfold Xo at this;simp only at this;rw [hS u v hu fI,(Bm hB hu).2 (Qzj hB hw fI hp),Mm hB hm hu,En fI hc uE,he]at this;cases this
  rfl
 |none =>
  simp only;cases qW:(Jm l).find? (fun c=>(c.place:Int)==(j:Int))with
  |none=>rfl
  |some k =>
   obtain⟨j',n,a,b,hm,hg,rfl⟩:=(Rd hB).1 (List.mem_of_find?_eq_some qW);have sK:j'=j:=by
    have h0:(j':Int)=(j:Int):=by simpa using List.find?_some qW
    omega
   subst sK;obtain⟨j2,uF,_,sP⟩:=Bo hB hm;have sK:j2=j':=by
    have e1:=Gz hB.nodup hg;have e2:=Gz hB.nodup uF;omega
   subst sK;simp only [Int.toNat_natCast];rw [<-sP];cases hv:th l t (.two n a b)
   ·rw [Bool.not_false,Bool.true_and,Bool.not_eq_false'];rw [Eh];obtain⟨v,hr,he⟩:=hF.com w trivial n a b hm (by rw [<-hw _ hm];exact hv);obtain⟨_,qC,rN,uE,lR,_⟩:=hB.closed.com n a b hm
    have lift:∀(x y:M.W),Kj (Ha lg (l.map Qh) (fun _=>True) (So M) n.g a) x y->∀t,t < 2^l.length->(∀s∈l.map Qh,th l t s=So M x s)->
     ∃u,u < 2^l.length/\(∀s∈l.map Qh,th l u s=So M y s)/\Kj (Ha lg (l.map Qh) (fun t=>al.getD t false=true) (th l) n.g a) t u:=by
     intro x y oS
     induction oS with
     |@one x y h =>
      intro t ht AG;obtain⟨u,hu,sA⟩:=Qjp hB y;obtain⟨_,hx,i,hi,hg,hp⟩:=h;exact⟨u,hu,sA,.one ⟨hS u y hu sA,by rw [En sA qC uE];exact hx,i,hi,hg,Qzj hB AG sA hp⟩⟩
     |@cons x y z h _ ih =>
      intro t ht AG;obtain⟨u,hu,sA⟩:=Qjp hB y;obtain⟨_,hx,i,hi,hg,hp⟩:=h;obtain⟨u2,h1,h2,h3⟩:=ih u hu sA;exact⟨u2,h1,h2,.cons ⟨hS u y hu sA,by rw [En sA qC uE];exact hx,i,hi,hg,Qzj hB AG sA hp⟩ h3⟩
    obtain⟨u,hu,fI,hru⟩:=lift w v hr t ht hw;exact⟨u,hru.mono (fun x y oS=>(Qkc hB hl hm x y).2 oS),by rw [(Qz6 hB hm hu).2,En fI rN lR];exact he⟩
   rfl
end
theorem Qac {lg:Int} {ks:List Kn} {cs:List Cm} {m:Nat} {al:List Bool} {t:Nat} {i:Int}(h:Tc lg ks cs m al t=some i):Vr lg ks cs al t i=true:=by
 unfold Tc at h;exact List.find?_some h
theorem Qbf {lg:Int} {ks:List Kn} {cs:List Cm} {m:Nat} {al:List Bool} {t:Nat}(h:Tc lg ks cs m al t=none)(i:Int)(h0: -4<=i)(h1:i < m):Vr lg ks cs al t i=false:=by
 unfold Tc at h;rw [List.find?_eq_none]at h;have:=h i (List.mem_map.2 ⟨(i+4).toNat,List.mem_range.2 (by omega),by omega⟩)
 simpa using this
theorem Qdi(why:List Bool->Nat->Option Int):∀(k:Nat) (s:List Bool×List (Nat×Int)),Qai s.1 (Sb why k s).1:=fun k s =>
 Qz9 (S:=fun al=>Qai s.1 al) (fun al t _i h _ _ u hu=>h u (Zzl al t u hu)) k s (fun _ h=>h)
theorem Qom {α:Type}(g:Nat->α)(d:α) {n k:Nat}(h:k < n):((List.range n).map g).getD k d=g k:=by
 rw [Qk,List.getElem?_map,List.getElem?_range h];rfl
structure Ba (lg:Int) (f:List Nd):Prop where
 l0:0<=lg
 l6:lg<=6
 ck:check f=0
 x:Xf (Vi (Qh f))
 e:Ji f=Qs (Vi (Qh f))
 b:Ls (Qp f).1 (Vi (Qh f))
theorem Hj {f:List Nd}(h:(Qp f).2=0):check f=0/\Nf f=false/\(Ji f).length≠0/\Qp f=Kw (Ji f):=by
 unfold Qp at h⊢;cases hc:check f !=0
 ·rw [hc]at h;cases hl:Nf f
  ·rw [hl]at h;cases hz:decide ((Ji f).length=0)
   ·exact⟨by simpa using hc,rfl,of_decide_eq_false hz,rfl⟩
   rw [hz]at h;cases h
  rw [hl]at h;cases h
 rw [hc]at h;exact absurd h (by simpa using hc)
theorem Qjq {lg:Int} {f:List Nd}(h:Yj lg f=0):Ba lg f:=by
 unfold Yj at h;cases ha:decide (lg < 0)||decide (6 < lg)
 ·rw [ha]at h;rw [Bool.or_eq_false_iff,decide_eq_false_iff_not,decide_eq_false_iff_not]at ha;obtain⟨h1,h2,h3,h4⟩:=Hj h;obtain⟨hx,he⟩:=Qvv h1 h2 h3;have h5:(Kw (Qs (Vi (Qh f)))).2=0:=by rw [<-he,<-h4];exact h
  have hb:=Qsm hx h5;rw [<-he,<-h4]at hb;exact⟨by omega,by omega,h1,hx,he,hb⟩
 rw [ha]at h;cases h
section
variable {lg:Int} {f:List Nd}
theorem Te(lg:Int)(l:List (List Nd)):(Kh lg l).length=2^l.length:=by simp [Kh]
theorem Qzo {l:List (List Nd)} {t:Nat}(ht:t < 2^l.length):(Kh lg l).getD t false=Vk lg (Zs l) (Jm l) t:=Qom _ _ ht
theorem Mb:(Rt lg f).1.length=2^(Qp f).1.length:=by
 unfold Rt Qxk;rw [Qdo];exact Te _ _
theorem Qkt(h:Ba lg f) {t:Nat}(ht:t < 2^(Qp f).1.length):(Na f).getD t false=ev (th (Qp f).1 t) (Vi (Qh f)):=by
 unfold Na;rw [h.e,Qy5 h.x.check ht,h.x.tree]
theorem Qwx(h:Ba lg f):Us lg f=true↔∃t,(Rt lg f).1.getD t false=true/\ev (th (Qp f).1 t) (Vi (Qh f))=true:=by
 unfold Us Hm;rw [List.any_eq_true];constructor
 ·rintro⟨t,ht,h2⟩;rw [Bool.and_eq_true]at h2;have ht:=List.mem_range.1 ht;rw [Mb]at ht;exact⟨t,h2.1,by rw [<-Qkt h ht];exact h2.2⟩
 rintro⟨t,h1,h2⟩;have ht:=Xr h1;refine⟨t,List.mem_range.2 ht,?_⟩;rw [Mb]at ht;rw [Bool.and_eq_true,Qkt h ht];exact⟨h1,h2⟩
theorem Qen(h:Ba lg f):Od lg ((Qp f).1.map Qh) (fun t=>(Rt lg f).1.getD t false=true) (th (Qp f).1):=by
 refine Zqb h.b Mb (fun t ht=> ?_) (fun t ht i h0 h1=> ?_)
 ·have hs:=Qdi (Tc lg (Zs (Qp f).1) (Jm (Qp f).1) (Qp f).1.length) _ (Kh lg (Qp f).1,[]) t ht;have hl:=Xr hs;rw [Te]at hl;rw [<-Qzo hl];exact hs
 have:=Qv6 (why:=Tc lg (Zs (Qp f).1) (Jm (Qp f).1) (Qp f).1.length) ((Kh lg (Qp f).1).length+1) (Kh lg (Qp f).1,[]) (by have:=Qxv (Kh lg (Qp f).1);show Pa (Kh lg (Qp f).1) < _;omega) t ht;exact Qbf this i h0 h1
theorem Qsg(h:Ba lg f) {M:KM}(hM:M.In lg):Qyj (Qp f).1 M (Kh lg (Qp f).1):=fun t w ht hw=>by
 rw [Qzo ht,Qgd h.b ht];have hc:=Qbn h.b.closed hM w;refine⟨fun n a b hm=> ?_,fun hr n a hm sP=> ?_⟩
 ·rw [hw _ hm,hc.com n a b hm];constructor
  ·intro k i hi hg;rw [hw _ ((h.b.closed.com n a b hm).2.2.2.2.2 i hi hg)];exact k i hi hg
  intro k i hi hg;rw [<-hw _ ((h.b.closed.com n a b hm).2.2.2.2.2 i hi hg)];exact k i hi hg
 obtain⟨_,qC,uE,_,_⟩:=h.b.closed.know n a hm;rw [En hw qC uE];exact hc.know hr n a hm (by rw [<-hw _ hm];exact sP)
theorem Qcp(h:Ba lg f) {M:KM}(hM:M.In lg)(al:List Bool)(t:Nat)(i:Int)(hl:al.length=2^(Qp f).1.length)(hS:Qyj (Qp f).1 M al)(hk:Vr lg (Zs (Qp f).1) (Jm (Qp f).1) al t i=true):Qyj (Qp f).1 M (al.set t false):=fun u w hu hw=>by
 rw [Qn4];cases e:u==t
 ·exact hS u w hu hw
 have:u=t:=by simpa using e
 subst this;rw [Qsn h.b hM h.l6 hl hS hu hw i]at hk;cases hk
theorem Qp0(h:Ba lg f) {M:KM}(hM:M.In lg):Qyj (Qp f).1 M (Rt lg f).1:=by
 have:=Qz9 (why:=Tc lg (Zs (Qp f).1) (Jm (Qp f).1) (Qp f).1.length) (S:=fun al=>al.length=2^(Qp f).1.length/\Qyj (Qp f).1 M al)
  (fun al t i hS _ hw=>⟨by rw [List.length_set];exact hS.1,Qcp h hM al t i hS.1 hS.2 (Qac hw)⟩) ((Kh lg (Qp f).1).length+1) (Kh lg (Qp f).1,[]) ⟨Te _ _,Qsg h hM⟩
 exact this.2
theorem Qf5(h:Ba lg f):Us lg f=true↔∃M:KM,M.In lg/\∃w,M.sat (Qh f) w:=by
 rw [Qwx h];constructor
 ·rintro⟨t,h1,h2⟩;have hF:=Qen h;refine⟨Ri lg ((Qp f).1.map Qh) (fun t=>(Rt lg f).1.getD t false=true) (th (Qp f).1),Qs8 hF h.l6,⟨t,h1⟩,?_⟩;exact(Ej (M:=Ri lg ((Qp f).1.map Qh) (fun t=>(Rt lg f).1.getD t false=true) (th (Qp f).1)) (Qh f) ⟨t,h1⟩).1 ((Og h.b.closed hF _ h.b.cov h.x.xp.lang h.x.xp.fact ⟨t,h1⟩).1 h2)
 rintro⟨M,hM,w,hw⟩;obtain⟨t,ht,WG⟩:=Qjp h.b w;refine⟨t,Qp0 h hM t w ht WG,?_⟩;rw [En WG h.b.cov h.x.xp.lang,evW w h.b.cov h.x.xp.lang,Ej];exact hw
end
open Go.RowKit
def Ek(m:Nat)(w:World)(vo u:Value):Prop:=∀g,u.ownBlock=some g->g < w.heap.size/\vo.ownBlock≠some g/\m<=g
theorem Ek.ext {m:Nat} {w w':World} {vo u:Value}(h:Ek m w vo u)(he:Qg w w'):Ek m w' vo u:=fun g hg=>⟨Qy (h g hg).1 he.size,(h g hg).2⟩
theorem Qg3:(Tryz.prog.info? 22).map (fun i=>(i.zero,i.size,i.bytes))=some (some (.slice none 0 0),1,24):=by kernel_rfl
theorem Wn.keepF {w w':World} {v:Value} {l:List Nd}(h:Wn w v l)(hb:∀g,v.ownBlock=some g->g < w.heap.size->w'.heap[g]?=w.heap[g]?)(hs:w.heap.size<=w'.heap.size):Wn w' v l:=by
 obtain⟨A,c,rfl,h1,h2,h3⟩:=h;refine⟨A,c,rfl,h1,h2,fun hn=> ?_⟩;obtain⟨ad,rfl,zJ,hc⟩:=h3 hn;refine⟨ad,rfl,Qy zJ hs,fun k n hk=>(hc k n hk).keep fun p hp=>World.cell?_of_block ?_⟩;rw [hp,Qr];exact hb ad.block rfl zJ
structure Ky (w0 w:World) (vo:Value) (out:List (List Nd)):Prop where
 ext:Qg w0 w
 row:∃us,w.ownsRow w0.heap.size 22 1 vo out.length us/\∀(k:Nat) (s:List Nd),out[k]?=some s->∃u,us[k]?=some u/\Yq w u s/\Ek w0.heap.size w vo u
theorem Ky.ext_ {w0 w w':World} {vo:Value} {out:List (List Nd)}(h:Ky w0 w vo out)(he:Qg w w'):Ky w0 w' vo out:=by
 obtain⟨us,hr,hu⟩:=h.row;refine⟨h.ext.trans he,us,Zg hr he,fun k s hk=> ?_⟩;obtain⟨u,a,b,c⟩:=hu k s hk;exact⟨u,a,b.ext he,c.ext he⟩
theorem Ky.nil(w:World):Ky w w (.slice none 0 0) []:=⟨Qz,[],World.ownsRow_nil _ _ _ _,fun k s h=>by simp at h⟩
theorem Ps {w:World} {base n:Nat} {t:TypeId} {v:Value} {us:List Value}(h:w.ownsRow base t 1 v n us)(hn:0 < n):
 ∃g cap,v=.slice (some ⟨g,0,none⟩) n cap/\g < w.heap.size/\n<=cap/\cap<=maxLen/\∀i z,us[i]?=some z->w.cell? ⟨g,i,none⟩=some z:=by
 rcases h.2 with⟨_,h0⟩|⟨g,cap,cur,rfl,_,hg,gM,hm,hs,ht⟩
 ·omega
 refine⟨g,cap,rfl,Qn hg,gM,hm,fun i z h1=> ?_⟩;rw [<-ht,List.getElem?_take]at h1
 split at h1
 ·have h2:cur[i]?=some z:=by simpa using h1
  simp [World.cell?,hg,h2]
 cases h1
theorem Ky.keep {w0 w w':World} {vo:Value} {out:List (List Nd)}(h:Ky w0 w vo out)(hb:∀g,w0.heap.size<=g->g < w.heap.size->w'.heap[g]?=w.heap[g]?)(hs:w.heap.size<=w'.heap.size)(he:Qg w0 w'):Ky w0 w' vo out:=by
 obtain⟨us,hr,hu⟩:=h.row;refine⟨he,us,⟨hr.1,?_⟩,fun k s hk=> ?_⟩
 ·rcases hr.2 with h0|⟨g,cap,cur,e,h1,h2,h3,h4,h5,h6⟩
  ·exact .inl h0
  exact .inr ⟨g,cap,cur,e,h1,(hb g h1 (Qn h2)).trans h2,h3,h4,h5,h6⟩
 obtain⟨u,a,b,c⟩:=hu k s hk;exact⟨u,a,⟨b.1.keepF (fun g hg _=>hb g (c g hg).2.2 (c g hg).1) hs,b.2⟩,fun g hg=>⟨Qy (c g hg).1 hs,(c g hg).2⟩⟩
theorem Ky.fmls {w0 w:World} {vo:Value} {out:List (List Nd)}(h:Ky w0 w vo out):Dd w vo out:=by
 obtain⟨ss,hs,hv⟩:=h.row;by_cases h0:0 < out.length
 ·obtain⟨g,cap,rfl,hg,h1,h2,hc⟩:=Ps hs h0;refine⟨_,cap,rfl,h1,h2,fun _=>⟨_,rfl,hg,fun k f hk=> ?_⟩⟩;obtain⟨u,a,b,_⟩:=hv k f hk;exact⟨u,by rw [Fo];exact hc k u a,b⟩
 have e:out= []:=List.length_eq_zero_iff.1 (by omega);subst e;obtain⟨A,c,rfl⟩:=Qt hs;rcases hs.2 with⟨e,_⟩|⟨g,cap,cur,e,_,_,hn,hm,_⟩
 ·injection e with e1 _ e2;subst e1 e2;exact⟨_,_,rfl,Nat.le_refl _,by unfold maxLen;omega,fun h=>absurd rfl h⟩
 injection e with e1 _ e2;subst e1 e2;exact⟨_,_,rfl,Nat.zero_le _,hm,fun h=>absurd rfl h⟩
theorem Ky.push {w0 W w4:World} {vo v' x:Value} {out:List (List Nd)} {s:List Nd} {ss:List Value}(he:Qg w0 W)(hs:W.ownsRow w0.heap.size 22 1 vo out.length ss)(hv:∀(k:Nat) (s:List Nd),out[k]?=some s->∃u,ss[k]?=some u/\Yq W u s/\Ek w0.heap.size W vo u)
 (zR:w4.ownsRow w0.heap.size 22 1 v' (out.length+1) (ss++ [x]))(hg:W.grownBy w4 vo.ownBlock)(yM:v'.ownBlock=vo.ownBlock\/v'.ownBlock=some W.heap.size)(hx:Yq W x s)(YD:Ek w0.heap.size W vo x):
 Ky w0 w4 v' (out++ [s]):=by
 have zG:ss.length=out.length:=by simpa using hs.1
 have LP:∀g,g < W.heap.size->vo.ownBlock≠some g->w4.heap[g]?=W.heap[g]?:=fun g h1 h2=>hg.block g h1 (fun e=>h2 e.symm)
 have XD:∀u,Ek w0.heap.size W vo u->Ek w0.heap.size w4 v' u:=fun u hu g hgu=>by
  obtain⟨a,b,hm⟩:=hu g hgu;refine⟨Qy a hg.size,fun e=> ?_,hm⟩;rcases yM with e1|e1
  ·exact b (e1.symm.trans e)
  rw [e1]at e;injection e with e;omega
 have MH:∀u s,Ek w0.heap.size W vo u->Yq W u s->Yq w4 u s:=fun u s ha hi=>⟨hi.1.keepF (fun g vM _=>LP g (ha g vM).1 (ha g vM).2.1) hg.size,hi.2⟩
 refine⟨he.grown hg (fun g vM=>(hs.lt g vM).1),ss++ [x],by rw [List.length_append];exact zR,fun k s' hk=> ?_⟩;by_cases rJ:k < out.length
 ·rw [List.getElem?_append_left rJ]at hk;obtain⟨u,a,b,c⟩:=hv k s' hk;exact⟨u,by rw [List.getElem?_append_left (by omega)];exact a,MH u s' c b,XD u c⟩
 rw [List.getElem?_append_right (by omega)]at hk;have YV:k=out.length:=by
  by_cases e:k - out.length=0
  ·omega
  rw [List.getElem?_eq_none (by simp;omega)]at hk;cases hk
 subst YV;simp at hk;subst hk;exact⟨x,by rw [List.getElem?_append_right (by omega),zG];simp,MH x _ YD hx,XD x YD⟩
theorem Lg {w W:World} {vo x:Value} {B n k:Nat} {us zs:List Value} {e:TypeId} {sz m:Nat}(hB:w.heap.size<=B)(hx:W.ownsRow B e sz x n zs)(hs:w.ownsRow m 22 1 vo k us)(hm:m<=w.heap.size):Ek m W vo x:=fun g hg=>by
 obtain⟨h1,h2⟩:=hx.lt g hg;exact⟨h2,fun e=>by have:=(hs.lt g e).2;omega,by omega⟩
def Qxb(p:List Nd->Bool)(l:List (List Nd)):Int:=match l.findIdx? p with|none=> -1|some j=>j
theorem Qvx(p:List Nd->Bool):∀(l:List (List Nd)) (k:Nat) (s:List Nd),l[k]?=some s->p s=true->(∀t∈l.take k,p t=false)->l.findIdx? p=some k
 |[],k,s,h,_,_=>by simp at h
 |a :: r,0,s,h,hp,_=>by
  simp only [List.getElem?_cons_zero,Option.some.injEq]at h;subst h;rw [List.findIdx?_cons,hp];rfl
 |a :: r,k+1,s,h,hp,hn=>by
  have ha:p a=false:=hn a (by simp);rw [List.findIdx?_cons,ha,Qvx p r k s (by simpa using h) hp (fun t ht=>hn t (by simp [ht]))];rfl
theorem Qjy(p:List Nd->Bool):∀(l:List (List Nd)),(∀t∈l,p t=false)->l.findIdx? p=none
 |[],_=>by simp
 |a :: r,hn=>by
  rw [List.findIdx?_cons,hn a (by simp),Qjy p r (fun t ht=>hn t (by simp [ht]))];rfl
theorem Ql3(g:Nat)(lb:Array Value)(eg:∀args w,(callFunc g args).run Tryz.prog w=.ok (.enter g args) w)(p:List Nd->Bool)(v:Value)(l:List (List Nd))(w:World)(h:Dd w v l)
 (hp:∀(W:World) (u:Value) (s:List Nd),Qg w W->Yq W u s->Calls Tryz.prog g (#[u]++lb) W fun e w'=>e=.returned (.bool (p s))/\Qg W w'):
 Calls Tryz.prog 178 #[v,.func (.func g) #[] lb] w fun e w'=>e=.returned (.int .i64 (Qxb p l))/\Qg w w':=by
 obtain⟨A,c,rfl,xR,yN,hr⟩:=h;unfold maxLen at yN;have HR:=Qq hr;have HP:=Qq hp;clear hr hp;go_enter Tryz.func178,Tryz.ntmps178;go_wp2_with fail;go_loopw [5,8] (fun _ i wr=>∃k:Nat,k<=l.length/\i=.int .i64 (k:Int)/\Hid (∀t∈l.take k,p t=false)/\Hid (Qg w wr)) (fun _ i _=>l.length - (intOf i).toNat)
 case atStart=>exact⟨0,Nat.zero_le _,rfl,Qq (by simp),Qq Qz⟩
 case round =>
  obtain⟨k,hk,rfl,tP,HX⟩:=hrel;by_cases hlt2:k < l.length
  ·obtain⟨s,hs⟩:∃s,l[k]?=some s:=⟨_,Qv hlt2⟩;obtain⟨ad,rfl,yS,xV⟩:=HR.out (by intro e;rw [e]at hlt2;simp at hlt2);obtain⟨u,hu,hf⟩:=xV k s hs;have a0:=(HX.out.cell (p:=ad.add k) (Qj yS)).trans hu;have HF:=Qq (hf.ext HX.out);have HA:=Qq hs;have yV:(k:Int) < (l.length:Int):=by omega
   clear hs xV hf hu;cases vF:p s
   ·have HT:Hid (∀t∈l.take (k+1),p t=false):=Qq (by
     rw [Kd HA.out];intro t ht;rcases List.mem_append.1 ht with ht|ht
     ·exact tP.out t ht
     rw [List.mem_singleton.1 ht];exact vF)
    go_wp2_with(refine(HP.out _ u s (by exact HX.out.trans (by repeat(first|exact Qz|assumption|apply Qg.alloc|apply Qg.drew))) (by exact HF.out.ext (by repeat(first|exact Qz|assumption|apply Qg.alloc|apply Qg.drew)))).mono ?_;rintro e w1 ⟨rfl,hx⟩;rw [vF]);go_roundw
    case rel=>exact⟨k+1,by omega,by go_num,HT,Qq (HX.out.trans (by first|exact hx|exact Qg.trans (by repeat(first|exact Qz|assumption|apply Qg.alloc|apply Qg.drew)) hx))⟩
    case measure=>simp [intOf];omega
   have HE:=Qq (show Qxb p l=(k:Int) by unfold Qxb;rw [Qvx p l k s HA.out vF tP.out]);go_wp2_with(refine(HP.out _ u s (by exact HX.out.trans (by repeat(first|exact Qz|assumption|apply Qg.alloc|apply Qg.drew))) (by exact HF.out.ext (by repeat(first|exact Qz|assumption|apply Qg.alloc|apply Qg.drew)))).mono ?_;rintro e w1 ⟨rfl,hx⟩;rw [vF]);go_ret;exact⟨by rw [HE.out] <;> rfl,HX.out.trans (by first|exact hx|exact Qg.trans (by repeat(first|exact Qz|assumption|apply Qg.alloc|apply Qg.drew)) hx)⟩
  obtain rfl:l.length=k:=by omega
  have HE:=Qq (show Qxb p l= -1 by
   unfold Qxb;rw [Qjy p l (fun t ht=>tP.out t (by rw [List.take_of_length_le (Nat.le_refl _)];exact ht))])
  go_wp2_with fail;go_ret;exact⟨by rw [HE.out] <;> rfl,HX.out⟩
def Sf(w:World)(A:Option Addr)(c:Nat)(l:List Bool):Prop :=
 l.length<=c/\c<=maxLen/\(l≠ []->∃ad,A=some ad/\ad.block < w.heap.size/\∀k z,l[k]?=some z->w.cell? (ad.add k)=some (.bool z))
def Kc(w:World)(v:Value)(l:List Bool):Prop:=∃A c,v=.slice A l.length c/\Sf w A c l
section
variable {w w':World} {v:Value}
theorem Sf.ext {A:Option Addr} {c:Nat} {l:List Bool}(h:Sf w A c l)(he:Qg w w'):Sf w' A c l :=
 ⟨h.1,h.2.1,fun hn=>by
  obtain⟨ad,e,zJ,hc⟩:=h.2.2 hn;exact⟨ad,e,Qy zJ he.size,fun k z hk=>(he.cell (Qj zJ)).trans (hc k z hk)⟩⟩
theorem Kc.ext {l:List Bool}(h:Kc w v l)(he:Qg w w'):Kc w' v l:=by
 obtain⟨A,c,e,h⟩:=h;exact⟨A,c,e,h.ext he⟩
end
def Ks(base:Nat)(w:World)(g:Nat)(l:List Bool):Prop:=w.ownsRow base 4 1 (.slice (some ⟨g,0,none⟩) l.length l.length) l.length (l.map Value.bool)
section
variable {base:Nat} {w w':World} {g:Nat} {l:List Bool}
theorem Ks.cell(h:Ks base w g l) {j:Nat} {b:Bool}(hj:l[j]?=some b):w.cell? ⟨g,j,none⟩=some (.bool b):=by
 have hl:=(List.getElem?_eq_some_iff.1 hj).1;rw [World.ownsRow.cellAt h j (by omega),List.getElem?_map,hj];rfl
theorem Ks.frozen(h:Ks base w g l)(j:Nat):w.frozen? ⟨g,j,none⟩=false:=World.ownsRow.frozenAt h j
theorem Ks.lt(h:Ks base w g l):base<=g/\g < w.heap.size:=World.ownsRow.lt h g rfl
theorem Ks.set(h:Ks base w g l)(j:Nat)(b:Bool):Ks base (w.setCell ⟨g,j,none⟩ (.bool b)) g (l.set j b)/\w.grownBy (w.setCell ⟨g,j,none⟩ (.bool b)) (some g):=by
 obtain⟨h1,h2⟩:=World.ownsRow.stored h j (.bool b);refine⟨?_,h2⟩;unfold Ks;rw [List.length_set,<-List.map_set]at *;exact h1
theorem Ks.ext(h:Ks base w g l)(he:Qg w w'):Ks base w' g l:=Zg h he
theorem Ks.base_ {b':Nat}(h:Ks base w g l)(hb:b'<=base):Ks b' w g l:=Kp h hb
theorem Ks.bools(h:Ks base w g l):Kc w (.slice (some ⟨g,0,none⟩) l.length l.length) l:=by
 refine⟨_,_,rfl,Nat.le_refl _,?_,fun hn=>⟨_,rfl,h.lt.2,fun k z hk=> ?_⟩⟩
 ·have h2:=h.2;rcases h2 with⟨e,_⟩|⟨g',cap,cur,e,_,_,_,hm,_⟩
  ·cases e
  injection e with _ _ e;rw [e];exact hm
 rw [Fo];exact h.cell hk
end
theorem Qmk(n:Nat):(madeCells (Value.cells (.bool false)) (n*1)).toList=(List.replicate n false).map Value.bool:=by
 simp only [madeCells,Value.cells,Nat.mul_one,Array.toList_map,Array.toList_range,List.map_replicate];refine List.ext_getElem (by simp) fun i h1 h2=> ?_
 simp [Nat.mod_one]
def Qdq(w:World)(a:Addr)(k:Kn):Prop :=
 ∃vh,w.cell? a=some (.int .i64 k.agent)/\w.cell? ⟨a.block,a.off+1,none⟩=some (.int .i64 (k.place:Int))/\w.cell? ⟨a.block,a.off+2,none⟩=some vh/\Kc w vh k.holds
def Qyy(w:World)(A:Option Addr)(c:Nat)(l:List Kn):Prop :=
 l.length<=c/\c<=maxLen/\(l≠ []->∃ad,A=some ad/\ad.block < w.heap.size/\∀k n,l[k]?=some n->Qdq w (ad.add (k*3)) n)
def Kns(w:World)(v:Value)(l:List Kn):Prop:=∃A c,v=.slice A l.length c/\Qyy w A c l
def Qb8(w:World)(a:Addr)(k:Cm):Prop :=
 ∃vx vy,w.cell? a=some (.int .i64 (k.place:Int))/\w.cell? ⟨a.block,a.off+1,none⟩=some (.int .i64 k.group)/\w.cell? ⟨a.block,a.off+2,none⟩=some vx/\w.cell? ⟨a.block,a.off+3,none⟩=some vy/\
  w.cell? ⟨a.block,a.off+4,none⟩=some (.int .u64 (k.parts:Int))/\Kc w vx k.x/\Kc w vy k.y
def Qyz(w:World)(A:Option Addr)(c:Nat)(l:List Cm):Prop :=
 l.length<=c/\c<=maxLen/\(l≠ []->∃ad,A=some ad/\ad.block < w.heap.size/\∀k n,l[k]?=some n->Qb8 w (ad.add (k*5)) n)
def Cms(w:World)(v:Value)(l:List Cm):Prop:=∃A c,v=.slice A l.length c/\Qyz w A c l
section
variable {w w':World} {v:Value} {a:Addr}
theorem Qdq.ext {k:Kn}(h:Qdq w a k)(he:Qg w w')(ha:a.block < w.heap.size):Qdq w' a k:=by
 obtain⟨vh,h0,h1,h2,h3⟩:=h;have hk:∀o s,w'.cell? ⟨a.block,o,s⟩=w.cell? ⟨a.block,o,s⟩:=fun o s=>he.cell (p:=⟨a.block,o,s⟩) ha
 exact⟨vh,(hk _ _).trans h0,(hk _ _).trans h1,(hk _ _).trans h2,h3.ext he⟩
theorem Qb8.ext {k:Cm}(h:Qb8 w a k)(he:Qg w w')(ha:a.block < w.heap.size):Qb8 w' a k:=by
 obtain⟨vx,vy,h0,h1,h2,h3,h4,h5,h6⟩:=h;have hk:∀o s,w'.cell? ⟨a.block,o,s⟩=w.cell? ⟨a.block,o,s⟩:=fun o s=>he.cell (p:=⟨a.block,o,s⟩) ha
 exact⟨vx,vy,(hk _ _).trans h0,(hk _ _).trans h1,(hk _ _).trans h2,(hk _ _).trans h3,(hk _ _).trans h4,h5.ext he,h6.ext he⟩
theorem Qyy.ext {A:Option Addr} {c:Nat} {l:List Kn}(h:Qyy w A c l)(he:Qg w w'):Qyy w' A c l :=
 ⟨h.1,h.2.1,fun hn=>by
  obtain⟨ad,e,zJ,hc⟩:=h.2.2 hn;exact⟨ad,e,Qy zJ he.size,fun k n hk=>(hc k n hk).ext he (Qj zJ)⟩⟩
theorem Qyz.ext {A:Option Addr} {c:Nat} {l:List Cm}(h:Qyz w A c l)(he:Qg w w'):Qyz w' A c l :=
 ⟨h.1,h.2.1,fun hn=>by
  obtain⟨ad,e,zJ,hc⟩:=h.2.2 hn;exact⟨ad,e,Qy zJ he.size,fun k n hk=>(hc k n hk).ext he (Qj zJ)⟩⟩
theorem Kns.ext {l:List Kn}(h:Kns w v l)(he:Qg w w'):Kns w' v l:=by
 obtain⟨A,c,e,h⟩:=h;exact⟨A,c,e,h.ext he⟩
theorem Cms.ext {l:List Cm}(h:Cms w v l)(he:Qg w w'):Cms w' v l:=by
 obtain⟨A,c,e,h⟩:=h;exact⟨A,c,e,h.ext he⟩
end
structure Ex (w:World) (b:Nat) (lg:Int) (base:List (List Nd)) (root:List Bool) (ks:List Kn) (cs:List Cm) (alive:List Bool):Prop where
 all:∃vb vr vk vc va,w.heap[b]?=some (.cells #[.int .i64 lg,vb,vr,vk,vc,va] 93 (0,0))/\Dd w vb base/\Kc w vr root/\Kns w vk ks/\Cms w vc cs/\Kc w va alive
section
variable {w w':World} {b:Nat} {lg:Int} {base:List (List Nd)} {root:List Bool} {ks:List Kn} {cs:List Cm} {alive:List Bool}
theorem Ex.ext(h:Ex w b lg base root ks cs alive)(he:Qg w w'):Ex w' b lg base root ks cs alive:=by
 obtain⟨vb,vr,vk,vc,va,hb,h1,h2,h3,h4,h5⟩:=h.all;exact⟨vb,vr,vk,vc,va,(he.block (Qn hb)).trans hb,h1.ext he,h2.ext he,h3.ext he,h4.ext he,h5.ext he⟩
theorem Ex.cells(h:Ex w b lg base root ks cs alive):∃Ab cb Ar cr Ak ck Ac cc Aa ca,w.cell? ⟨b,0,none⟩=some (.int .i64 lg)/\w.cell? ⟨b,1,none⟩=some (.slice Ab base.length cb)/\w.cell? ⟨b,2,none⟩=some (.slice Ar root.length cr)/\
 w.cell? ⟨b,3,none⟩=some (.slice Ak ks.length ck)/\w.cell? ⟨b,4,none⟩=some (.slice Ac cs.length cc)/\w.cell? ⟨b,5,none⟩=some (.slice Aa alive.length ca)/\b < w.heap.size/\
 Dd w (.slice Ab base.length cb) base/\Sf w Ar cr root/\Qyy w Ak ck ks/\Qyz w Ac cc cs/\Sf w Aa ca alive:=by
 obtain⟨vb,vr,vk,vc,va,hb,h1,⟨Ar,cr,rfl,h2⟩,⟨Ak,ck,rfl,h3⟩,⟨Ac,cc,rfl,h4⟩,⟨Aa,ca,rfl,h5⟩⟩:=h.all;obtain⟨⟨d0,d1,d2,d3,d4,d5⟩,_,hl⟩:=Vc hb;have h1':=h1;obtain⟨Ab,cb,rfl,_⟩:=h1;exact⟨Ab,cb,Ar,cr,Ak,ck,Ac,cc,Aa,ca,d0,d1,d2,d3,d4,d5,hl,h1',h2,h3,h4,h5⟩
end
structure Zxz (base:List (List Nd)) (root:List Bool) (ks:List Kn) (cs:List Cm) (alive:List Bool):Prop where
 len:base.length<=12
 m:alive.length=2^base.length
 root:root.length=2^base.length
 kn:∀k∈ks,k.place < base.length/\k.holds.length=2^base.length/\Vp k.agent
 cm:∀c∈cs,c.place < base.length/\c.x.length=2^base.length/\c.y.length=2^base.length/\c.parts < 18446744073709551616/\0<=c.group/\c.group < 16
 klen:ks.length<=12
 clen:cs.length<=12
theorem Qb5 {n:Nat}(h:n<=12):2^n<=4096:=Nat.pow_le_pow_right (by decide) h
theorem Xb {w:World} {A:Option Addr} {c:Nat} {l:List Bool}(h:Sf w A c l) {k:Nat}(hk:k < l.length):∃ad,A=some ad/\ad.block < w.heap.size/\w.cell? (ad.add k)=some (.bool (l.getD k false)):=by
 obtain⟨ad,e,hb,hc⟩:=h.2.2 (by intro e;rw [e]at hk;simp at hk);refine⟨ad,e,hb,hc k _ ?_⟩;rw [Qk,Qv hk];rfl
theorem Qb0(b:Nat)(lg:Int)(w:World)(d0:w.cell? ⟨b,0,none⟩=some (.int .i64 lg)):
 Calls Tryz.prog 184 #[.pointer (some ⟨b,0,none⟩)] w fun e w'=>e=.returned (.bool (Bw lg))/\w=w':=by
 cases h2:lg==2
 ·cases h4:lg==4
  ·cases h6:lg==6
   ·have HE:=Qq (show Bw lg=false by unfold Bw;rw [h2,h4,h6];rfl);go_enter Tryz.func184,Tryz.ntmps184;go_wp2_with fail;go_ret;exact⟨by rw [HE.out] <;> rfl,rfl⟩
   have HE:=Qq (show Bw lg=true by unfold Bw;rw [h2,h4,h6];rfl);go_enter Tryz.func184,Tryz.ntmps184;go_wp2_with fail;go_ret;exact⟨by rw [HE.out] <;> rfl,rfl⟩
  have HE:=Qq (show Bw lg=true by unfold Bw;rw [h2,h4];rfl);go_enter Tryz.func184,Tryz.ntmps184;go_wp2_with fail;go_ret;exact⟨by rw [HE.out] <;> rfl,rfl⟩
 have HE:=Qq (show Bw lg=true by unfold Bw;rw [h2];rfl);go_enter Tryz.func184,Tryz.ntmps184;go_wp2_with fail;go_ret;exact⟨by rw [HE.out] <;> rfl,rfl⟩
theorem Zzx {lg:Int} {ks:List Kn} {a:Int} {t u k:Nat} {n:Kn}(hn:ks[k]?=some n)(h:(n.agent !=a||Kt lg (t.testBit n.place) (n.holds.getD u false) (u.testBit n.place))=false):Jy lg ks a t u=false:=by
 unfold Jy;rw [List.all_eq_false];exact⟨n,List.mem_of_getElem? hn,by rw [h];simp⟩
theorem Zzk {lg:Int} {ks:List Kn} {a:Int} {t u:Nat}(h:∀j n,j < ks.length->ks[j]?=some n->(n.agent !=a||Kt lg (t.testBit n.place) (n.holds.getD u false) (u.testBit n.place))=true):Jy lg ks a t u=true:=by
 unfold Jy;rw [List.all_eq_true];intro n hn;obtain⟨j,hj,e⟩:=List.getElem_of_mem hn;exact h j n hj (by rw [Qv hj,e])
theorem Qld {lg:Int} {a b c:Bool}(h:lg=0\/lg=1\/lg=2):Kt lg a b c=(!a||b):=by
 rcases h with rfl|rfl|rfl <;> rfl
theorem Zvw {lg:Int} {a b c:Bool}(h:lg=3):Kt lg a b c=(!a||(b&&c)):=by subst h;rfl
theorem Zvo {lg:Int} {a b c:Bool}(h:lg=4):Kt lg a b c=(!a||c):=by subst h;rfl
theorem Zv0 {lg:Int} {a b c:Bool}(h:lg=6):Kt lg a b c=(a==c):=by subst h;rfl
theorem Zvi {lg:Int} {a b c:Bool}(h:lg=5):Kt lg a b c=((a==c)&&(!a||b)):=by subst h;rfl
theorem Qjn {w:World} {A:Option Addr} {c:Nat} {l:List Kn}(h:Qyy w A c l) {k:Nat} {n:Kn}(hk:l[k]?=some n):∃ad,A=some ad/\ad.block < w.heap.size/\Qdq w (ad.add (k*3)) n:=by
 obtain⟨ad,e,hb,hc⟩:=h.2.2 (by intro e;rw [e]at hk;simp at hk);exact⟨ad,e,hb,hc k n hk⟩
theorem Qgg {w:World} {b:Nat} {a0 a1 a2:Value} {t:TypeId}(h:w.heap[b]?=some (.cells #[a0,a1,a2] t (0,0))):
 w.cell? ⟨b,0,none⟩=some a0/\w.cell? ⟨b,1,none⟩=some a1/\w.cell? ⟨b,2,none⟩=some a2/\b < w.heap.size :=
 ⟨by simp [World.cell?,h],by simp [World.cell?,h],by simp [World.cell?,h],Qn h⟩
theorem Mz(b:Nat)(lg:Int)(base:List (List Nd))(root:List Bool)(ks:List Kn)(cs:List Cm)(alive:List Bool)(a:Int)(t u:Nat)(w:World)
 (hE:Ex w b lg base root ks cs alive)(xX:0<=lg/\lg<=6)(ht:t < 18446744073709551616)(hu:u < 18446744073709551616)(qV:∀k∈ks,k.place < 64/\u < k.holds.length):
 Calls Tryz.prog 70 #[.pointer (some ⟨b,0,none⟩),.int .i64 a,.int .u64 (t:Int),.int .u64 (u:Int)] w fun e w'=>e=.returned (.bool (Jy lg ks a t u))/\Qg w w':=by
 obtain⟨Ab,cb,Ar,cr,Ak,ck,Ac,cc,Aa,ca,d0,d1,d2,d3,d4,d5,xL,_,_,uX,_,_⟩:=hE.cells;have HK:=Qq uX;have IQ:=uX.1;have zU:=uX.2.1;unfold maxLen at zU;have sW:=Qq qV;have D0:=Qq d0;clear hE uX qV d1 d2 d4 d5 d0;go_enter Tryz.func70,Tryz.ntmps70;go_wp2_with fail;clear d3;go_loopw [19] (fun v wr=>∃k:Nat,v=.int .i64 (k:Int)/\k<=ks.length/\Hid (Qg w wr/\∀j n,j < k->ks[j]?=some n->(n.agent !=a||Kt lg (t.testBit n.place) (n.holds.getD u false) (u.testBit n.place))=true)) (fun v _=>ks.length - (intOf v).toNat)
 case atStart=>exact⟨0,rfl,Nat.zero_le _,Qq ⟨Qz,fun j n hj=>absurd hj (by omega)⟩⟩
 case round =>
  obtain⟨k,rfl,hk,zY⟩:=hrel;have HX:=Qq zY.out.1;have HJ:=Qq zY.out.2;clear zY;by_cases hlt2:k < ks.length
  ·have yV:(k:Int) < (ks.length:Int):=by omega
   obtain⟨n,hn⟩:∃n,ks[k]?=some n:=⟨_,Qv hlt2⟩;obtain⟨sE,SU⟩:=sW.out n (List.mem_of_getElem? hn);obtain⟨ad,rfl,yX,yM⟩:=Qjn HK.out hn;obtain⟨vh,c0,c1,c2,qX⟩:=yM.ext HX.out (Qj yX);obtain⟨Ah,ch,rfl,qX⟩:=qX;have hhc:=qX.1;have WY:=qX.2.1;unfold maxLen at WY;obtain⟨ah,rfl,CF,yR⟩:=Xb qX SU;have tD:(ad.add (k*3)).block < wr.heap.size:=by rw [Qr];exact Qy yX HX.out.size
   have LY:(ah.add u).block < wr.heap.size:=by rw [Qr];exact CF
   have LJ:(u:Int) < (n.holds.length:Int):=by omega
   have rM:=yR;have dl0:=(HX.out.cell (p:=⟨b,0,none⟩) xL).trans D0.out;have rO:b < wr.heap.size:=Qy xL HX.out.size;have HN:=Qq hn;have xZ:=Qq (show ∀c:Bool,(n.agent !=a||Kt lg (t.testBit n.place) (n.holds.getD u false) (u.testBit n.place))=c->c=true->∀j m,j < k+1->ks[j]?=some m->(m.agent !=a||Kt lg (t.testBit m.place) (m.holds.getD u false) (u.testBit m.place))=true from fun c hc ht j m hj hm=>by
    by_cases e:j < k
    ·exact HJ.out j m e hm
    have:j=k:=by omega
    subst this;rw [hn]at hm;injection hm with hm;rw [<-hm,hc,ht])
   have yS:=Bc t n.place ht;have xA:=Bc u n.place hu;obtain⟨ph,RX⟩:∃x,x=n.holds.getD u false:=⟨_,rfl⟩;obtain⟨p1,lC⟩:∃x,x=t.testBit n.place:=⟨_,rfl⟩;obtain⟨p2,sT⟩:∃x,x=u.testBit n.place:=⟨_,rfl⟩;have FC:=Qq (show(n.agent !=a||Kt lg (t.testBit n.place) (n.holds.getD u false) (u.testBit n.place))=(n.agent !=a||Kt lg p1 ph p2) by rw [RX,lC,sT]);rw [<-RX]at yR;rw [<-lC]at yS;rw [<-sT]at xA;clear hn yM qX rM RX lC sT;obtain⟨wq,vC⟩:∃v,v=wr:=⟨_,rfl⟩;subst vC;cases uZ:n.agent !=a
   case true =>
    have gE:=Qq uZ;go_wp2_with fail;go_roundw
    case rel=>exact⟨k+1,by go_num,by omega,Qq ⟨HX.out.trans (Qz.alloc _),xZ.out true (by rw [FC.out,gE.out];rfl) rfl⟩⟩
    case measure=>simp [intOf];omega
   case false =>
    have gE:=Qq uZ;go_upto_region 5 with(fail);obtain⟨e0,e1,e2,eb⟩:=Qgg (show(wq.alloc (.cells #[.int .i64 n.agent,.int .i64 (n.place:Int),.slice (some ah) n.holds.length ch] 136)).heap[wq.heap.size]?=some (.cells #[.int .i64 n.agent,.int .i64 (n.place:Int),.slice (some ah) n.holds.length ch] 136 (0,0))from heap_alloc_new _ _);refine wp_region_held_drew (S:=fun w'=>w'.cell? (⟨wq.heap.size,1,none⟩)=some (.int .i64 (n.place:Int))) (by kernel_rfl) (xc eb e1) (fun zZ=> ?_);refine tk 0 zZ ?_;refine tk 1 zZ ?_;refine tk 2 zZ ?_;refine tk 3 zZ ?_;refine tk 4 zZ ?_;refine tk 5 zZ ?_
    refine tk 6 zZ ?_;refine tk 7 zZ ?_;refine tk 8 zZ ?_;refine tk 9 zZ ?_;refine tk 10 zZ ?_;refine tk 11 zZ ?_;refine tk 12 zZ ?_;refine tk 13 zZ ?_;refine wpAnyH_done (by kernel_rfl) ?_ _;have yI:Qg wq (wq.alloc (.cells #[.int .i64 n.agent,.int .i64 (n.place:Int),.slice (some ah) n.holds.length ch] 136)).drew:=(Qz.alloc _).drew;obtain⟨W0,zK⟩:∃v,v=(wq.alloc (.cells #[.int .i64 n.agent,.int .i64 (n.place:Int),.slice (some ah) n.holds.length ch] 136)).drew:=⟨_,rfl⟩;have f2:W0.cell? ⟨wq.heap.size,2,none⟩=some (.slice (some ah) n.holds.length ch):=by rw [zK];exact e2
    have fb:wq.heap.size < W0.heap.size:=by rw [zK];exact eb
    rw [<-zK]at yI⊢;have f0:=(yI.cell (p:=⟨b,0,none⟩) rO).trans dl0;have fc:=(yI.cell (p:=ah.add u) LY).trans yR;have zL:=Qq yI;clear zK yI e0 e1 e2 eb yR dl0 yS xA c0 c1 c2;go_upto_block 2 with(fail);go_cut [13] (fun s13 wx=>s13=.bool (Kt lg p1 ph p2)/\wx=W0)
    case first =>
     have TD:lg=0\/lg=1\/lg=2\/lg=3\/lg=4\/lg=5\/lg=6:=by omega
     rcases TD with hl|hl|hl|hl|hl|hl|hl
     ·have qK:=Qq (show Kt lg p1 ph p2=_ from Qld (.inl hl));have t0:(lg==0)=true:=by rw [hl];rfl
      have t1:(lg==1)=false:=by rw [hl];rfl
      have t2:(lg==2)=false:=by rw [hl];rfl
      have t3:(lg==3)=false:=by rw [hl];rfl
      have t4:(lg==4)=false:=by rw [hl];rfl
      have t6:(lg==6)=false:=by rw [hl];rfl
      have t5:(lg==5)=false:=by rw [hl];rfl
      clear hl;cases p1 <;> cases ph <;> cases p2
      all_goals
       go_wp2_with fail;go_meet;exact⟨by rw [qK.out] <;> rfl,by first|rfl|trivial⟩
     ·have qK:=Qq (show Kt lg p1 ph p2=_ from Qld (.inr (.inl hl)));have t0:(lg==0)=false:=by rw [hl];rfl
      have t1:(lg==1)=true:=by rw [hl];rfl
      have t2:(lg==2)=false:=by rw [hl];rfl
      have t3:(lg==3)=false:=by rw [hl];rfl
      have t4:(lg==4)=false:=by rw [hl];rfl
      have t6:(lg==6)=false:=by rw [hl];rfl
      have t5:(lg==5)=false:=by rw [hl];rfl
      clear hl;cases p1 <;> cases ph <;> cases p2
      all_goals
       go_wp2_with fail;go_meet;exact⟨by rw [qK.out] <;> rfl,by first|rfl|trivial⟩
     ·have qK:=Qq (show Kt lg p1 ph p2=_ from Qld (.inr (.inr hl)));have t0:(lg==0)=false:=by rw [hl];rfl
      have t1:(lg==1)=false:=by rw [hl];rfl
      have t2:(lg==2)=true:=by rw [hl];rfl
      have t3:(lg==3)=false:=by rw [hl];rfl
      have t4:(lg==4)=false:=by rw [hl];rfl
      have t6:(lg==6)=false:=by rw [hl];rfl
      have t5:(lg==5)=false:=by rw [hl];rfl
      clear hl;cases p1 <;> cases ph <;> cases p2
      all_goals
       go_wp2_with fail;go_meet;exact⟨by rw [qK.out] <;> rfl,by first|rfl|trivial⟩
     ·have qK:=Qq (show Kt lg p1 ph p2=_ from Zvw hl);have t0:(lg==0)=false:=by rw [hl];rfl
      have t1:(lg==1)=false:=by rw [hl];rfl
      have t2:(lg==2)=false:=by rw [hl];rfl
      have t3:(lg==3)=true:=by rw [hl];rfl
      have t4:(lg==4)=false:=by rw [hl];rfl
      have t6:(lg==6)=false:=by rw [hl];rfl
      have t5:(lg==5)=false:=by rw [hl];rfl
      clear hl;cases p1 <;> cases ph <;> cases p2
      all_goals
       go_wp2_with fail;go_meet;exact⟨by rw [qK.out] <;> rfl,by first|rfl|trivial⟩
     ·have qK:=Qq (show Kt lg p1 ph p2=_ from Zvo hl);have t0:(lg==0)=false:=by rw [hl];rfl
      have t1:(lg==1)=false:=by rw [hl];rfl
      have t2:(lg==2)=false:=by rw [hl];rfl
      have t3:(lg==3)=false:=by rw [hl];rfl
      have t4:(lg==4)=true:=by rw [hl];rfl
      have t6:(lg==6)=false:=by rw [hl];rfl
      have t5:(lg==5)=false:=by rw [hl];rfl
      clear hl;cases p1 <;> cases ph <;> cases p2
      all_goals
       go_wp2_with fail;go_meet;exact⟨by rw [qK.out] <;> rfl,by first|rfl|trivial⟩
     ·have qK:=Qq (show Kt lg p1 ph p2=_ from Zvi hl);have t0:(lg==0)=false:=by rw [hl];rfl
      have t1:(lg==1)=false:=by rw [hl];rfl
      have t2:(lg==2)=false:=by rw [hl];rfl
      have t3:(lg==3)=false:=by rw [hl];rfl
      have t4:(lg==4)=false:=by rw [hl];rfl
      have t6:(lg==6)=false:=by rw [hl];rfl
      have t5:(lg==5)=true:=by rw [hl];rfl
      clear hl;cases p1 <;> cases ph <;> cases p2
      all_goals
       go_wp2_with fail;go_meet;exact⟨by rw [qK.out] <;> rfl,by first|rfl|trivial⟩
     have qK:=Qq (show Kt lg p1 ph p2=_ from Zv0 hl);have t0:(lg==0)=false:=by rw [hl];rfl
     have t1:(lg==1)=false:=by rw [hl];rfl
     have t2:(lg==2)=false:=by rw [hl];rfl
     have t3:(lg==3)=false:=by rw [hl];rfl
     have t4:(lg==4)=false:=by rw [hl];rfl
     have t6:(lg==6)=true:=by rw [hl];rfl
     have t5:(lg==5)=false:=by rw [hl];rfl
     clear hl;cases p1 <;> cases ph <;> cases p2
     all_goals
      go_wp2_with fail;go_meet;exact⟨by rw [qK.out] <;> rfl,by first|rfl|trivial⟩
    case rest =>
     obtain⟨rfl,rfl⟩:=hcut;cases fP:Kt lg p1 ph p2
     case true =>
      have qK:=Qq fP;clear fP;go_wp2_with fail;go_roundw
      case rel=>exact⟨k+1,by go_num,by omega,Qq ⟨HX.out.trans zL.out,xZ.out true (by rw [FC.out,gE.out,qK.out];rfl) rfl⟩⟩
      case measure=>simp [intOf];omega
     case false =>
      have HE:=Qq (show Jy lg ks a t u=false from Zzx HN.out (by rw [FC.out,gE.out,fP];rfl));clear fP;go_wp2_with fail;go_ret;exact⟨by rw [HE.out] <;> rfl,HX.out.trans zL.out⟩
  obtain rfl:ks.length=k:=by omega
  have HE:=Qq (show Jy lg ks a t u=true from Zzk (fun j n hj=>HJ.out j n hj));go_wp2_with fail;go_ret;exact⟨by rw [HE.out] <;> rfl,HX.out⟩
theorem Qgl {p:Nat->Bool} {m k:Nat}(hk:k < m)(h:p k=true)(hn:∀j,j < k->p j=false):(List.range m).find? p=some k:=by
 rw [List.find?_range_eq_some];exact⟨h,List.mem_range.2 hk,fun j hj=>by rw [hn j hj];rfl⟩
theorem Qwr {lg:Int} {ks:List Kn} {al:List Bool} {a:Int} {t k:Nat} {wt:Nat->Bool}(hk:k < al.length)(h:Xo lg ks al a t wt k=true)(hn:∀j,j < k->Xo lg ks al a t wt j=false):Xw lg ks al a t wt=(k:Int):=by
 unfold Xw;rw [Qgl hk h hn]
theorem Qhx {lg:Int} {ks:List Kn} {al:List Bool} {a:Int} {t:Nat} {wt:Nat->Bool}(hn:∀j,j < al.length->Xo lg ks al a t wt j=false):Xw lg ks al a t wt= -1:=by
 unfold Xw;have:(List.range al.length).find? (Xo lg ks al a t wt)=none:=by
  rw [List.find?_eq_none];intro j hj;rw [hn j (List.mem_range.1 hj)];simp
 rw [this]
theorem Qkn(b:Nat)(lg:Int)(base:List (List Nd))(root:List Bool)(ks:List Kn)(cs:List Cm)(alive:List Bool)(a:Int)(t:Nat)(wanted:Nat->Bool)(g:Nat)(lb:Array Value)(eg:∀args w,(callFunc g args).run Tryz.prog w=.ok (.enter g args) w)(w:World)
 (hE:Ex w b lg base root ks cs alive)(xX:0<=lg/\lg<=6)(ht:t < 18446744073709551616)(_hm:alive.length<=4096)(qV:∀k∈ks,k.place < 64/\alive.length<=k.holds.length)
 (hw:∀(W:World) (u:Nat),u < alive.length->Qg w W->Calls Tryz.prog g (#[.int .i64 (u:Int)]++lb) W fun e w'=>e=.returned (.bool (wanted u))/\Qg W w'):
 Calls Tryz.prog 136 #[.pointer (some ⟨b,0,none⟩),.int .i64 a,.int .u64 (t:Int),.func (.func g) #[] lb] w fun e w'=>e=.returned (.int .i64 (Xw lg ks alive a t wanted))/\Qg w w':=by
 obtain⟨Ab,cb,Ar,cr,Ak,ck,Ac,cc,Aa,ca,d0,d1,d2,d3,d4,d5,xL,_,_,uX,_,wJ⟩:=hE.cells;have HE:=Qq hE;have HA:=Qq wJ;have ZI:=wJ.1;have qC:=wJ.2.1;unfold maxLen at qC;have sW:=Qq qV;have HW:=Qq hw;clear hE wJ uX qV hw d0 d1 d2 d3 d4;go_enter Tryz.func136,Tryz.ntmps136;go_wp2_with fail;clear d5;go_loopw [16] (fun v wr=>∃k:Nat,v=.int .i64 (k:Int)/\k<=alive.length/\Hid (Qg w wr/\∀j,j < k->Xo lg ks alive a t wanted j=false)) (fun v _=>alive.length - (intOf v).toNat)
 case atStart=>exact⟨0,rfl,Nat.zero_le _,Qq ⟨Qz,fun j hj=>absurd hj (by omega)⟩⟩
 case round =>
  obtain⟨k,rfl,hk,zY⟩:=hrel;have HX:=Qq zY.out.1;have HJ:=Qq zY.out.2;clear zY;by_cases hlt2:k < alive.length
  ·have yV:(k:Int) < (alive.length:Int):=by omega
   obtain⟨ad,rfl,yS,a0⟩:=Xb (HA.out.ext HX.out) hlt2;have xZ:=Qq (show Xo lg ks alive a t wanted k=false->∀j,j < k+1->Xo lg ks alive a t wanted j=false from fun h j hj=>by
    by_cases e:j < k
    ·exact HJ.out j e
    have:j=k:=by omega
    subst this;exact h)
   have HP:=Qq (show Xo lg ks alive a t wanted k=(alive.getD k false&&(wanted k&&Jy lg ks a t k))from rfl);have mX:=Qq (fun W hW=>HW.out W k hlt2 hW);have iY:=Qq (fun W (hW:Qg w W)=>Mz b lg base root ks cs alive a t k W (HE.out.ext hW) xX ht (by omega) (fun n hn=>⟨(sW.out n hn).1,Qy hlt2 (sW.out n hn).2⟩));obtain⟨wk,qR⟩:∃x,x=wanted k:=⟨_,rfl⟩;obtain⟨pk,cK⟩:∃x,x=Jy lg ks a t k:=⟨_,rfl⟩;obtain⟨ak,qE⟩:∃x,x=alive.getD k false:=⟨_,rfl⟩;rw [<-qR,<-cK,<-qE]at HP;rw [<-qR]at mX;rw [<-cK]at iY;rw [<-qE]at a0;clear qR cK qE;cases ak
   ·go_wp2_with fail;go_roundw
    case rel=>exact⟨k+1,by go_num,by omega,Qq ⟨HX.out,xZ.out (by rw [HP.out];rfl)⟩⟩
    case measure=>simp [intOf];omega
   cases wk
   ·go_wp2_with fail;refine(mX.out _ HX.out).mono ?_;rintro e w2 ⟨rfl,hx⟩;have zT:=Qq hx;clear hx;go_wp2_with fail;go_roundw
    case rel=>exact⟨k+1,by go_num,by omega,Qq ⟨HX.out.trans zT.out,xZ.out (by rw [HP.out];rfl)⟩⟩
    case measure=>simp [intOf];omega
   go_wp2_with fail;refine(mX.out _ HX.out).mono ?_;rintro e w2 ⟨rfl,hx⟩;have zT:=Qq hx;clear hx;go_wp2_with fail;refine(iY.out _ (HX.out.trans zT.out)).mono ?_;rintro e w3 ⟨rfl,hx⟩;have zB:=Qq hx;clear hx;cases pk
   ·go_wp2_with fail;go_roundw
    case rel=>exact⟨k+1,by go_num,by omega,Qq ⟨HX.out.trans (zT.out.trans zB.out),xZ.out (by rw [HP.out];rfl)⟩⟩
    case measure=>simp [intOf];omega
   have HR:=Qq (Qwr hlt2 (by rw [HP.out];rfl) HJ.out);go_wp2_with fail;go_ret;exact⟨by rw [HR.out] <;> rfl,HX.out.trans (zT.out.trans zB.out)⟩
  obtain rfl:alive.length=k:=by omega
  have HR:=Qq (Qhx HJ.out);go_wp2_with fail;go_ret;exact⟨by rw [HR.out] <;> rfl,HX.out⟩
def Ye(m:Nat):Nat:=if m=0 then 0 else m.log2+1
theorem Zqe:∀x:Fin 256,Lib.len8 (x.val:Int)=(Ye x.val:Int):=by decide+kernel
theorem Zqa(y:Int)(h:y.toNat < Lib.len8tab.size):((Lib.len8tab[y.toNat]'h).toNat:Int)=Lib.len8 y:=by
 unfold Lib.len8;rw [getElem?_pos Lib.len8tab y.toNat h];rfl
theorem Qaa(a:Int)(h0:0<=a)(h1:a<=8):RowKit.wrap64 (RowKit.wrap64 a)=a:=by
 unfold RowKit.wrap64;omega
theorem Qc4(x z:Int)(h0:0<=x)(h1:x < 256)(hz:Hid (Lib.len8 x=z/\0<=z/\z<=8))(w:World):Calls Tryz.prog 141 #[.int .u64 x] w fun e w'=>e=.returned (.int .i64 z)/\w'=w:=by
 go_enter Tryz.func141,Tryz.ntmps141;go_wp2;go_ret;exact⟨by rw [Zqa,hz.out.1,Qaa _ hz.out.2.1 hz.out.2.2] <;> rfl,rfl⟩
theorem Zyb {x:Nat}(hx:x < 256):Ye x<=8:=by
 unfold Ye
 split
 ·omega
 rename_i h0;have:=(Nat.log2_lt h0).2 (show x < 2^8 from hx);omega
theorem Qc3(x:Nat)(hx:x < 256)(w:World):Calls Tryz.prog 141 #[.int .u64 (x:Int)] w fun e w'=>e=.returned (.int .i64 (Ye x:Int))/\w'=w :=
 Qc4 (x:Int) _ (by omega) (by omega) (Qq ⟨Zqe ⟨x,hx⟩,by omega,by have:=Zyb hx;show(Ye x:Int)<=8;omega⟩) w
theorem Qy0(x:Nat)(hx:x < 256)(w:World):Calls Tryz.prog 65 #[.int .u64 (x:Int)] w fun e w'=>e=.returned (.int .i64 (Ye x:Int))/\w'=w:=by
 go_enter Tryz.func65,Tryz.ntmps65;go_wp2_with fail;refine(Qc3 x hx _).mono ?_;rintro e w1 ⟨rfl,rfl⟩;go_wp2_with fail;go_ret;exact⟨rfl,rfl⟩
end Go.Proofs.YtkmclcmnoicagaaGreatDoor
