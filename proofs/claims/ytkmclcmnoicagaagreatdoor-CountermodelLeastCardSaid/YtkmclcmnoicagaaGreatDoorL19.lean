/- The engine of a base, by trees: knowledge, common knowledge, coherence, possibility. -/
import Derived.Test.YtkmclcmnoicagaaGreatDoorL17
import Derived.Deep.CutBlock
import Derived.Deep.RegionHeld3
import Derived.Lib.Strings
import Derived.Lib.Slices
import Derived.Lib.Small
import Derived.Lib.Walk
import Derived.Lib.BitFns
namespace Go.Proofs.YtkmclcmnoicagaaGreatDoor
set_option maxRecDepth 100000
set_option maxHeartbeats 128000000
section
variable {l:List (List Nd)} {t0:Tr} (hB:Lr l t0)
include hB
theorem Bc {s:Tr}(hs:s∈l.map Qh):∃i,l[i]?=some (Qr s)/\i < l.length/\∀t,th l t s=t.testBit i:=by
 obtain⟨_,hm⟩:=(Yw hB.can).1 hs;obtain⟨i,hi,e⟩:=List.getElem_of_mem hm;have hg:l[i]?=some (Qr s):=by rw [Qv hi,e]
 refine⟨i,hg,hi,fun t=> ?_⟩;unfold th;rw [Xi hB.nodup hg,decide_eq_true (by omega),cond_true,Int.toNat_natCast]
theorem Qvg {i:Nat} {c:List Nd}(hi:l[i]?=some c):∃s,Xf s/\c=Qr s/\Jm s.top=true/\s∈l.map Qh:=by
 obtain⟨s,hs,e,hb⟩:=hB.can c (List.mem_of_getElem? hi);exact⟨s,hs,e,hb,(Yw hB.can).2 ⟨hs,e▸List.mem_of_getElem? hi⟩⟩
theorem Gn {k:Kn} :k∈Zr l↔∃i n a,.one n a∈l.map Qh/\l[i]?=some (Qr (.one n a))/\k=⟨n.i,i,Ya l (Qr a)⟩:=by
 unfold Zr;rw [List.mem_flatMap];constructor
 ·rintro⟨i,hi,hk⟩;have jK:=List.mem_range.1 hi;have hg:l[i]?=some (l.getD i []):=by rw [Qk,Qv jK];rfl
  obtain⟨s,hs,e,hb,hm⟩:=Qvg hB hg;rw [e]at hk hg;unfold Cb at hk;rw [hs.last]at hk;cases ho:s.top.op==9
  ·rw [ho]at hk;cases hk
  rw [ho]at hk;have dT:s.top.op=9:=by simpa using ho
  cases s with
  |leaf n=>have:=hs.xp.1.1.1;rw [show n.op=9 from dT]at this;cases this
  |two n a b=>have:=hs.xp.1.1.2.1;rw [show n.op=9 from dT]at this;cases this
  |one n a =>
   obtain⟨_,e2,_,e4,_⟩:=Qv2 hs.check hs.tree;rw [e2,e4]at hk;exact⟨i,n,a,hm,hg,by simpa using hk⟩
 rintro⟨i,n,a,hm,hg,rfl⟩;have jK:=(List.getElem?_eq_some_iff.1 hg).1;obtain⟨hs,_⟩:=(Yw hB.can).1 hm;refine⟨i,List.mem_range.2 jK,?_⟩;have e:l.getD i []=Qr (.one n a):=by rw [Qk,hg];rfl
 obtain⟨e1,e2,_,e4,_⟩:=Qv2 hs.check hs.tree;unfold Cb;rw [e,e1,e2,e4,(hB.closed.know n a hm).1];simp
theorem Rs {k:Cm} :k∈Jt l↔∃i n a b,.two n a b∈l.map Qh/\l[i]?=some (Qr (.two n a b))/\k=⟨i,n.g,Ya l (Qr a),Ya l (Qr b),Sj l (Qr (.two n a b))⟩:=by
 unfold Jt;rw [List.mem_flatMap];constructor
 ·rintro⟨i,hi,hk⟩;have jK:=List.mem_range.1 hi;have hg:l[i]?=some (l.getD i []):=by rw [Qk,Qv jK];rfl
  obtain⟨s,hs,e,hb,hm⟩:=Qvg hB hg;rw [e]at hk hg;unfold Mv at hk;rw [hs.last]at hk;cases ho:s.top.op==13
  ·rw [ho]at hk;cases hk
  rw [ho]at hk;obtain⟨n,a,b,rfl,_⟩:=If hs (by simpa using ho);obtain⟨_,e2,e3,e4⟩:=Tt hs.check hs.tree;rw [e2,e3,e4]at hk;exact⟨i,n,a,b,hm,hg,by simpa using hk⟩
 rintro⟨i,n,a,b,hm,hg,rfl⟩;have jK:=(List.getElem?_eq_some_iff.1 hg).1;obtain⟨hs,_⟩:=(Yw hB.can).1 hm;refine⟨i,List.mem_range.2 jK,?_⟩;have e:l.getD i []=Qr (.two n a b):=by rw [Qk,hg];rfl
 obtain⟨e1,e2,e3,e4⟩:=Tt hs.check hs.tree;unfold Mv;rw [e,e1,e2,e3,e4,(hB.closed.com n a b hm).1];simp
end
theorem Qnd {lg:Int} :Bp lg=true↔Qbs lg:=by
 unfold Bp Qbs;simp
theorem Qz1:∀(L:List Nat) (p j:Nat),(L.foldl (fun p x=>p|||2^x) p).testBit j=(p.testBit j||decide (j∈L))
 |[],p,j=>by simp
 |x :: r,p,j=>by
  rw [List.foldl_cons,Qz1 r,Nat.testBit_or,Nat.testBit_two_pow];by_cases h:x=j
  ·subst h;simp
  have h':¬j=x:=fun e=>h e.symm
  simp [h,h',List.mem_cons]
theorem Qoa {t F:Nat} :((t&&&F)==F)=true↔∀j,F.testBit j=true->t.testBit j=true:=by
 rw [beq_iff_eq];constructor
 ·intro h j hj;have:=congrArg (fun x=>x.testBit j) h;simp only [Nat.testBit_and,hj,Bool.and_true]at this;exact this
 intro h;refine Nat.eq_of_testBit_eq fun j=> ?_
 rw [Nat.testBit_and];cases hj:F.testBit j
 ·simp
 rw [h j hj];rfl
section
variable {l:List (List Nd)} {t0:Tr} (hB:Lr l t0)
include hB
theorem Qfk {n:Nd} {a b:Tr}(hm:.two n a b∈l.map Qh)(t:Nat):((t&&&Sj l (Qr (.two n a b)))==Sj l (Qr (.two n a b)))=true↔∀i:Nat,i < 4->Vz n.g i=true->th l t (Gf i n a b)=true:=by
 obtain⟨hs,_⟩:=(Yw hB.can).1 hm;obtain⟨_,e2,_,_⟩:=Tt hs.check hs.tree;have hu:∀i,i < 4->Vz n.g i=true->Ul i (Qr (.two n a b))=Qr (Gf i n a b):=fun i hi hg=>by
  obtain⟨hx,_⟩:=(Yw hB.can).1 ((hB.closed.com n a b hm).2.2.2.2.2 i hi hg);rw [hs.unf hi,hx.short]
 have sZ:∀i,i < 4->Vz n.g i=true->th l t (Gf i n a b)=t.testBit (Yx l (Ul i (Qr (.two n a b)))).toNat:=fun i hi hg=>by
  obtain⟨j,hj,_,h⟩:=Bc hB ((hB.closed.com n a b hm).2.2.2.2.2 i hi hg);rw [h,hu i hi hg,Xi hB.nodup hj,Int.toNat_natCast]
 have dP:Sj l (Qr (.two n a b))=(((List.range 4).filter fun i=>Vz n.g i).map fun i=>(Yx l (Ul i (Qr (.two n a b)))).toNat).foldl (fun p x=>p|||2^x) 0:=by
  unfold Sj;rw [e2,List.foldl_map]
 rw [Qoa,dP];constructor
 ·intro h i hi hg;rw [sZ i hi hg];refine h _ ?_;rw [Qz1];simp only [Nat.zero_testBit,Bool.false_or,decide_eq_true_iff,List.mem_map];exact⟨i,List.mem_filter.2 ⟨List.mem_range.2 hi,hg⟩,rfl⟩
 intro h j hj;rw [Qz1]at hj;simp only [Nat.zero_testBit,Bool.false_or,decide_eq_true_iff,List.mem_map]at hj;obtain⟨i,hi,rfl⟩:=hj;obtain⟨h1,h2⟩:=List.mem_filter.1 hi;have h1:=List.mem_range.1 h1;rw [<-sZ i h1 h2];exact h i h1 h2
theorem Ms {n:Nd} {a:Tr}(hm:.one n a∈l.map Qh) {u:Nat}(hu:u < 2^l.length):(Ya l (Qr a)).getD u false=ev (th l u) a:=by
 obtain⟨hs,_⟩:=(Yw hB.can).1 hm;rw [Qym hs.of_one.check hu,hs.of_one.tree]
theorem Qzc {n:Nd} {a b:Tr}(hm:.two n a b∈l.map Qh) {u:Nat}(hu:u < 2^l.length):(Ya l (Qr a)).getD u false=ev (th l u) a/\(Ya l (Qr b)).getD u false=ev (th l u) b:=by
 obtain⟨hs,_⟩:=(Yw hB.can).1 hm;rw [Qym hs.of_two.1.check hu,hs.of_two.1.tree,Qym hs.of_two.2.check hu,hs.of_two.2.tree];exact⟨rfl,rfl⟩
theorem Qx5 {lg:Int} {t:Nat}(ht:t < 2^l.length):Ye lg (Zr l) (Jt l) t=true↔Coh lg (l.map Qh) (th l t):=by
 unfold Ye;rw [Bool.and_eq_true,List.all_eq_true,List.all_eq_true];constructor
 ·rintro⟨h1,h2⟩;refine⟨fun n a b hm=> ?_,fun hr n a hm sZ=> ?_⟩
  ·obtain⟨i,hg,_,hi⟩:=Bc hB hm;have:=h1 _ ((Rs hB).2 ⟨i,n,a,b,hm,hg,rfl⟩);rw [beq_iff_eq]at this;simp only at this;rw [hi,this,Qfk hB hm]
  obtain⟨i,hg,_,hi⟩:=Bc hB hm;have:=h2 _ ((Gn hB).2 ⟨i,n,a,hm,hg,rfl⟩);simp only at this;rw [(Qnd).2 hr,<-hi,sZ,Ms hB hm ht]at this
  simpa using this
 rintro⟨h1,h2⟩;constructor
 ·intro c hc;obtain⟨i,n,a,b,hm,hg,rfl⟩:=(Rs hB).1 hc;obtain⟨j,wD,_,hi⟩:=Bc hB hm;have sU:j=i:=by
   have e1:=Xi hB.nodup hg;have e2:=Xi hB.nodup wD;omega
  subst sU;rw [beq_iff_eq,Bool.eq_iff_iff,Qfk hB hm,<-h1 n a b hm,hi]
 intro k hk;obtain⟨i,n,a,hm,hg,rfl⟩:=(Gn hB).1 hk;obtain⟨j,wD,_,hi⟩:=Bc hB hm;have sU:j=i:=by
  have e1:=Xi hB.nodup hg;have e2:=Xi hB.nodup wD;omega
 subst sU;simp only;cases hr:Bp lg
 ·rfl
 rw [<-hi,Ms hB hm ht];cases sZ:th l t (.one n a)
 ·rfl
 rw [h2 ((Qnd).1 hr) n a hm sZ];rfl
theorem Bb {lg:Int} {i:Int} {t u:Nat}(hu:u < 2^l.length):Jz lg (Zr l) i t u=true↔Mz lg (l.map Qh) i (th l t) (th l u):=by
 unfold Jz Mz;rw [List.all_eq_true];constructor
 ·intro h n a hm nI;obtain⟨j,hg,_,hi⟩:=Bc hB hm;have:=h _ ((Gn hB).2 ⟨j,n,a,hm,hg,rfl⟩);simp only at this;rw [Ms hB hm hu,<-hi,<-hi]at this;have zQ:(n.i !=i)=false:=by simpa using nI
  rw [zQ]at this
  simpa using this
 intro h k hk;obtain⟨j,n,a,hm,hg,rfl⟩:=(Gn hB).1 hk;obtain⟨j',wD,_,hi⟩:=Bc hB hm;have sU:j'=j:=by
  have e1:=Xi hB.nodup hg;have e2:=Xi hB.nodup wD;omega
 subst sU;simp only;rw [Ms hB hm hu,<-hi,<-hi];by_cases nI:n.i=i
 ·rw [h n a hm nI,Bool.or_true]
 have:(n.i !=i)=true:=by simpa using nI
 rw [this];rfl
end
theorem Qms {α:Type} {l:List α} {k:Nat} {a:α}(h:l[k]?=some a):l.take (k+1)=l.take k++ [a]:=by
 obtain⟨hk,e⟩:=List.getElem?_eq_some_iff.1 h;rw [List.take_succ_eq_append_getElem hk,e]
theorem Dl {l:List Nd} {k:Nat} {n:Nd}(hn:l[k]?=some n) {d d':List (List Nd)}(h:Gw (l.take k) d=some d'):
 Gw (l.take (k+1)) d=bif decide ((Jl n (d'.getD n.x.toNat []) (d'.getD n.y.toNat [])).length=0)then none else some (d'++ [Jl n (d'.getD n.x.toNat []) (d'.getD n.y.toNat [])]):=by
 have key:∀(a b:List Nd) (d d':List (List Nd)),Gw a d=some d'->Gw (a++b) d=Gw b d':=by
  intro a
  induction a with
  |nil=>intro b d d' h;injection h with h;subst h;rfl
  |cons x r ih =>
   intro b d d' h;simp only [Gw,List.cons_append]at h⊢;cases hz:decide ((Jl x (d.getD x.x.toNat []) (d.getD x.y.toNat [])).length=0)
   ·rw [hz]at h;exact ih b _ _ h
   rw [hz]at h;cases h
 rw [Qms hn,key _ _ _ _ h];simp only [Gw]
theorem Ca {l:List Nd} {k:Nat} {d:List (List Nd)}(h:Gw (l.take k) d=none):Gw l d=none:=by
 have key:∀(a b:List Nd) (d:List (List Nd)),Gw a d=none->Gw (a++b) d=none:=by
  intro a
  induction a with
  |nil=>intro b d h;cases h
  |cons x r ih =>
   intro b d h;simp only [Gw,List.cons_append]at h⊢;cases hz:decide ((Jl x (d.getD x.x.toNat []) (d.getD x.y.toNat [])).length=0)
   ·rw [hz]at h;exact ih b _ h
   rfl
 have:=key _ (l.drop k) d h
 rwa [List.take_append_drop]at this
theorem Qt8 {n:Nd} {a a' b b':List Nd}(hx:Qi n.op=true->a=a')(hy:Qe n.op=true->b=b')(ho:En n.op):Jl n a b=Jl n a' b':=by
 have zK:n.op=1\/n.op=2\/n.op=3\/n.op=4\/n.op=5\/n.op=6\/n.op=7\/n.op=8\/n.op=9\/n.op=10\/n.op=11\/n.op=13:=by unfold En at ho;omega
 unfold Jl;rcases zK with h|h|h|h|h|h|h|h|h|h|h|h
 ·simp [h]
 ·simp [h]
 ·simp [h]
 ·rw [hx (by rw [h];rfl)];simp [h]
 ·rw [hx (by rw [h];rfl),hy (by rw [h];rfl)]
 ·rw [hx (by rw [h];rfl),hy (by rw [h];rfl)]
 ·rw [hx (by rw [h];rfl),hy (by rw [h];rfl)]
 ·rw [hx (by rw [h];rfl),hy (by rw [h];rfl)]
 ·rw [hx (by rw [h];rfl)];simp [h]
 ·rw [hx (by rw [h];rfl)];simp [h]
 ·rw [hx (by rw [h];rfl)];simp [h]
 rw [hx (by rw [h];rfl),hy (by rw [h];rfl)]
theorem Qr8:∀(r:List Tr) (t:Tr),t.all Mg->(∀u∈r,u.all Mg)->(Cl t r).all Mg
 |[],_,ht,_=>ht
 |u :: r,t,ht,hr=>Qr8 r _ ⟨.inl ⟨by decide,by decide⟩,ht,hr u (List.mem_cons_self ..)⟩ (fun v hv=>hr v (List.mem_cons_of_mem _ hv))
theorem Zz5:∀(l:List Tr),(∀u∈l,u.all Mg)->(Cf l).all Mg
 |[],_=> .inl ⟨by decide,by decide⟩
 |t :: r,h=>Qr8 r t (h t (List.mem_cons_self ..)) (fun v hv=>h v (List.mem_cons_of_mem _ hv))
theorem Qin {n:Nd} {a b:Tr}(ho:En n.op)(ha:Qi n.op=true->a.all Mg)(hb:Qe n.op=true->b.all Mg):(Rm n a b).all Mg:=by
 unfold Rm;by_cases xW:n.op=10
 ·rw [if_pos xW];have h:=ha (by rw [xW];rfl);exact⟨.inl ⟨by decide,by decide⟩,.inl ⟨show(1:Int)<=9 by decide,show(9:Int)<=9 by decide⟩,.inl ⟨by decide,by decide⟩,h⟩
 rw [if_neg xW];by_cases uT:n.op=11
 ·rw [if_pos uT];have h:=ha (by rw [uT];rfl);refine Zz5 _ fun u hu=> ?_
  obtain⟨i,_,rfl⟩:=List.mem_map.1 hu;exact⟨.inl ⟨show(1:Int)<=9 by decide,show(9:Int)<=9 by decide⟩,h⟩
 rw [if_neg uT];have hn:Mg n:=by unfold En at ho;unfold Mg;omega
 unfold Yh;cases h2:Qe n.op
 ·cases h1:Qi n.op
  ·exact hn
  exact⟨hn,ha h1⟩
 exact⟨hn,ha (Vf h2),hb h2⟩
theorem Qk8 {α:Type}(g:Nat->α)(d:α) {k j:Nat}(h:j < k):((List.range k).map g).getD j d=g j:=by
 rw [Qk,List.getElem?_map,List.getElem?_range h];rfl
theorem Qy0 {c:List Nd}(hw:Wf c)(hh:∀n∈c,Za n)(hl:∀n∈c,En n.op):∀(k:Nat) (d:List (List Nd)),k<=c.length->Gw (c.take k) []=some d->
 d=(List.range k).map (fun j=>Qr (Va (tr c j)))/\∀j,j < k->Xf (Va (tr c j))
 |0,d,_,h=>by
  injection h with h;exact⟨h.symm,fun j hj=>absurd hj (by omega)⟩
 |k+1,d,hk,h=>by
  obtain⟨n,hn⟩:∃n,c[k]?=some n:=⟨_,List.getElem?_eq_getElem (by omega)⟩;cases hd:Gw (c.take k) []with
  |none =>
   have hp:c.take k=(c.take (k+1)).take k:=by rw [List.take_take];congr 1;omega
   rw [hp]at hd;rw [Ca hd]at h;cases h
  |some d' =>
   obtain⟨e1,e2⟩:=Qy0 hw hh hl k d' (by omega) hd;rw [Dl hn hd]at h;have hm:=List.mem_of_getElem? hn;obtain⟨hx,hy⟩:=hw k n hn;have gx:Qi n.op=true->d'.getD n.x.toNat []=Zo (Va (tr c n.x.toNat)):=fun h1=>by
    have:=hx h1;rw [e1,Qk8 (fun j=>Qr (Va (tr c j))) [] (by omega),(e2 _ (by omega)).short]
   have gy:Qe n.op=true->d'.getD n.y.toNat []=Zo (Va (tr c n.y.toNat)):=fun h1=>by
    have:=hy h1;rw [e1,Qk8 (fun j=>Qr (Va (tr c j))) [] (by omega),(e2 _ (by omega)).short]
   have hE:=Qt9 (a:=Va (tr c n.x.toNat)) (b:=Va (tr c n.y.toNat)) (hh n hm) (hl n hm) (fun h1=>by have:=hx h1;exact(e2 _ (by omega)).xp.1) (fun h1=>by have:=hy h1;exact(e2 _ (by omega)).xp.1);have hX:=Qin (a:=Va (tr c n.x.toNat)) (b:=Va (tr c n.y.toNat)) (hl n hm) (fun h1=>by have:=hx h1;exact(e2 _ (by omega)).xp.2) (fun h1=>by have:=hy h1;exact(e2 _ (by omega)).xp.2);have ht:Rm n (Va (tr c n.x.toNat)) (Va (tr c n.y.toNat))=Va (tr c k):=by rw [Xg hw hn,Qir]
   rw [Qt8 gx gy (hl n hm),hE.1,ht]at h;rw [ht]at hE hX;cases hz:decide ((Zo (Va (tr c k))).length=0)
   ·rw [hz]at h;injection h with h;have zG:(Qr (Va (tr c k))).length<=200:=by
     by_cases e:(Qr (Va (tr c k))).length<=200
     ·exact e
     have:=of_decide_eq_false hz;rw [Xo (by omega)]at this;exact absurd rfl this
    rw [Gs zG,e1]at h;refine⟨?_,fun j hj=> ?_⟩
    ·rw [<-h,List.range_succ,List.map_append];rfl
    by_cases e:j < k
    ·exact e2 j e
    have:j=k:=by omega
    subst this;exact⟨⟨hE.2,hX⟩,zG⟩
   rw [hz]at h;cases h
theorem Qcs {l:List Nd}(h:Kz l&&&500=0):∀n∈l,(Vk n.op).toNat&&&500=0:=by
 have key:∀(l:List Nd) (m:Nat),(l.foldl (fun m n=>m|||(Vk n.op).toNat) m)&&&500=0->m&&&500=0/\∀n∈l,(Vk n.op).toNat&&&500=0:=by
  intro l
  induction l with
  |nil=>intro m h;exact⟨h,fun n hn=>by cases hn⟩
  |cons a r ih =>
   intro m h;obtain⟨h1,h2⟩:=ih _ h;rw [Nat.and_or_distrib_right]at h1;have l1:m&&&500<=m&&&500|||(Vk a.op).toNat&&&500:=Nat.left_le_or;have l2:(Vk a.op).toNat&&&500<=m&&&500|||(Vk a.op).toNat&&&500:=Nat.right_le_or;refine⟨by omega,fun n hn=> ?_⟩;rcases List.mem_cons.1 hn with rfl|hn
   ·omega
   exact h2 n hn
 exact(key l 0 h).2
theorem Ej {f:List Nd}(hc:check f=0)(hl:Nr f=false):∀n∈Qf f,En n.op:=by
 intro n hn;unfold Nr Js at hl;have hb:=Qcs (by simpa using hl) n hn;have ho:=(Dc n.op).1 ((Jj hc).2.2.2 n hn).1;have:n.op=1\/n.op=2\/n.op=3\/n.op=4\/n.op=5\/n.op=6\/n.op=7\/n.op=8\/n.op=9\/n.op=10\/n.op=11\/n.op=12\/n.op=13\/n.op=14\/n.op=15\/n.op=16\/n.op=17\/n.op=18\/n.op=19\/n.op=20\/n.op=21:=by omega
 unfold En;rcases this with h|h|h|h|h|h|h|h|h|h|h|h|h|h|h|h|h|h|h|h|h <;> first|omega|(rw [h]at hb;exact absurd hb (by decide))
theorem Qy1 {f:List Nd}(hc:check f=0)(hl:Nr f=false)(zQ:(Ja f).length≠0):Xf (Va (Qh f))/\Ja f=Qr (Va (Qh f)):=by
 obtain⟨hw,_,hp,hh⟩:=Jj hc;unfold Ja at zQ⊢;cases hd:Gw (Qf f) []with
 |none=>rw [hd]at zQ;exact absurd rfl zQ
 |some d =>
  have h:=Qy0 hw hh (Ej hc hl) (Qf f).length d (Nat.le_refl _) (by rw [List.take_of_length_le (Nat.le_refl _)];exact hd);obtain⟨e1,e2⟩:=h;have et:tr (Qf f) ((Qf f).length - 1)=Qh f:=Xz hc;have hx:=e2 ((Qf f).length - 1) (by omega);rw [et]at hx;refine⟨hx,?_⟩;show d.getLastD []=_;obtain⟨m,hm⟩:∃m,(Qf f).length=m+1:=⟨(Qf f).length - 1,by omega⟩;rw [e1,hm,List.range_succ,List.map_append];rw [hm]at et;simp only [List.map_cons,List.map_nil,List.getLastD_concat];rw [<-et];rfl
theorem Am {lg:Int} {ks:List Kn} {al:List Bool} {a:Int} {t:Nat} {wt:Nat->Bool} :Xa lg ks al a t wt < 0↔∀u,u < al.length->Xe lg ks al a t wt u=false:=by
 unfold Xa;cases h:(List.range al.length).find? (Xe lg ks al a t wt)with
 |none =>
  rw [List.find?_eq_none]at h;refine⟨fun _ u hu=> ?_,fun _=>by decide⟩;have:=h u (List.mem_range.2 hu)
  simpa using this
 |some k =>
  obtain⟨h1,h2,_⟩:=List.find?_range_eq_some.1 h;refine⟨fun hn=> ?_,fun hn=> ?_⟩
  ·simp only at hn;omega
  rw [hn k (List.mem_range.1 h2)]at h1;cases h1
theorem Xd {al:List Bool} {t:Nat}(h:al.getD t false=true):t < al.length:=by
 by_cases e:t < al.length
 ·exact e
 rw [Qk,List.getElem?_eq_none (by omega)]at h;cases h
theorem Ek {lg:Int} {ks:List Kn} {al:List Bool} {c:Cm} {t:Nat} :Hq lg ks al c t=true↔∃u,Vi (fun a b=>Pb lg ks al c a b=true) t u/\c.y.getD u false=false:=by
 simp [Hq]
theorem Ag {l:List (List Nd)} {M:KM} {w:M.W} {t:Nat}(h:∀s∈l.map Qh,th l t s=Tq M w s) {f:Tr}(hc:cov (l.map Qh) f)(hl:lang f):ev (th l t) f=ev (Tq M w) f:=by
 rw [Bool.eq_iff_iff,evW w hc hl];exact Qzo (fun s hs=>by rw [h s hs];exact Fj) f hc hl
theorem Qc2(p:Nat->Bool):∀n:Nat,∃t,t < 2^n/\∀i,i < n->t.testBit i=p i
 |0=>⟨0,by simp,fun i h=>absurd h (by omega)⟩
 |n+1=>by
  obtain⟨t,h1,h2⟩:=Qc2 p n;cases hp:p n
  ·refine⟨t,by rw [Nat.pow_succ];omega,fun i hi=> ?_⟩;by_cases e:i < n
   ·exact h2 i e
   have:i=n:=by omega
   subst this;rw [hp,Nat.testBit_lt_two_pow h1]
  refine⟨t|||2^n,Nat.or_lt_two_pow (by rw [Nat.pow_succ];omega) (by rw [Nat.pow_succ];have:=Nat.two_pow_pos n;omega),fun i hi=> ?_⟩;rw [Nat.testBit_or,Nat.testBit_two_pow];by_cases e:i < n
  ·rw [h2 i e];have:¬n=i:=by omega
   simp [this]
  have:i=n:=by omega
  subst this;simp [hp]
section
variable {l:List (List Nd)} {t0:Tr} (hB:Lr l t0) {lg:Int}
include hB
theorem Qsr {i:Nat} {n:Nd} {a:Tr}(hm:.one n a∈l.map Qh)(hg:l[i]?=some (Qr (.one n a))):(Zr l).find? (fun k=>(k.place:Int)==(i:Int))=some ⟨n.i,i,Ya l (Qr a)⟩:=by
 cases h:(Zr l).find? (fun k=>(k.place:Int)==(i:Int))with
 |none =>
  rw [List.find?_eq_none]at h;have:=h _ ((Gn hB).2 ⟨i,n,a,hm,hg,rfl⟩);simp at this
 |some k =>
  obtain⟨j,n',a',oS,wD,rfl⟩:=(Gn hB).1 (List.mem_of_find?_eq_some h);have hp:=List.find?_some h;have sU:j=i:=by
   have h0:(j:Int)=(i:Int):=by simpa using hp
   omega
  subst sU;rw [hg]at wD;injection wD with wD;have:=((Yw hB.can).1 hm).1.inj ((Yw hB.can).1 oS).1 wD;injection this with e1 e2;rw [e1,e2]
theorem Qss {i:Nat} {n:Nd} {a b:Tr}(hm:.two n a b∈l.map Qh)(hg:l[i]?=some (Qr (.two n a b))):(Zr l).find? (fun k=>(k.place:Int)==(i:Int))=none:=by
 rw [List.find?_eq_none];intro k hk;obtain⟨j,n',a',oS,wD,rfl⟩:=(Gn hB).1 hk;intro hp;have sU:j=i:=by
  have h0:(j:Int)=(i:Int):=by simpa using hp
  omega
 subst sU;rw [hg]at wD;injection wD with wD;have:=((Yw hB.can).1 hm).1.inj ((Yw hB.can).1 oS).1 wD;cases this
theorem Qsv {i:Nat} {n:Nd} {a b:Tr}(hm:.two n a b∈l.map Qh)(hg:l[i]?=some (Qr (.two n a b))):(Jt l).find? (fun k=>(k.place:Int)==(i:Int))=some ⟨i,n.g,Ya l (Qr a),Ya l (Qr b),Sj l (Qr (.two n a b))⟩:=by
 cases h:(Jt l).find? (fun k=>(k.place:Int)==(i:Int))with
 |none =>
  rw [List.find?_eq_none]at h;have:=h _ ((Rs hB).2 ⟨i,n,a,b,hm,hg,rfl⟩);simp at this
 |some k =>
  obtain⟨j,n',a',b',oS,wD,rfl⟩:=(Rs hB).1 (List.mem_of_find?_eq_some h);have hp:=List.find?_some h;have sU:j=i:=by
   have h0:(j:Int)=(i:Int):=by simpa using hp
   omega
  subst sU;rw [hg]at wD;injection wD with wD;have:=((Yw hB.can).1 hm).1.inj ((Yw hB.can).1 oS).1 wD;injection this with e1 e2 e3;rw [e1,e2,e3]
theorem Qkk {al:List Bool}(hl:al.length=2^l.length) {i:Nat} {n:Nd} {a b:Tr}(hm:.two n a b∈l.map Qh)(t u:Nat):
 Pb lg (Zr l) al ⟨i,n.g,Ya l (Qr a),Ya l (Qr b),Sj l (Qr (.two n a b))⟩ t u=true↔Hg lg (l.map Qh) (fun t=>al.getD t false=true) (th l) n.g a t u:=by
 unfold Pb Hg;simp only [Bool.and_eq_true,List.any_eq_true,List.mem_range];constructor
 ·rintro⟨h1,h2,i,h3,h4,h5⟩;have hu:u < 2^l.length:=hl▸Xd h1;exact⟨h1,by rw [<-(Qzc hB hm hu).1];exact h2,i,h3,h4,(Bb hB hu).1 h5⟩
 rintro⟨h1,h2,i,h3,h4,h5⟩;have hu:u < 2^l.length:=hl▸Xd h1;exact⟨h1,by rw [(Qzc hB hm hu).1];exact h2,i,h3,h4,(Bb hB hu).2 h5⟩
theorem Qil {al:List Bool}(hl:al.length=2^l.length)(hc:∀t,al.getD t false=true->Ye lg (Zr l) (Jt l) t=true)
 (hw:∀t,al.getD t false=true->∀i:Int,-4<=i->i < l.length->Vx lg (Zr l) (Jt l) al t i=false):Ww lg (l.map Qh) (fun t=>al.getD t false=true) (th l) where
 coh t ht:=(Qx5 hB (hl▸Xd ht)).1 (hc t ht)
 ser hs t ht i ho:=by
  obtain⟨n,a,hm,hi⟩:=ho;obtain⟨j,hg,_,_⟩:=Bc hB hm;obtain⟨_,_,_,h0,h4⟩:=hB.closed.know n a hm;have h:=hw t ht (-1 - i) (by omega) (by omega);unfold Vx at h;rw [decide_eq_true (show -1 - i < 0 by omega),cond_true]at h;have yA:(lg==1||lg==5)=true:=by rcases hs with e|e <;> rw [e] <;> rfl
  have tS:(Zr l).any (fun k=>k.agent== -1 - (-1 - i))=true:=by
   rw [List.any_eq_true];exact⟨_,(Gn hB).2 ⟨j,n,a,hm,hg,rfl⟩,by simp;omega⟩
  rw [yA,tS,Bool.true_and,Bool.true_and,decide_eq_false_iff_not,Am]at h;obtain⟨u,hu⟩:=Classical.not_forall.1 h;obtain⟨qH,hp⟩:=Classical.not_imp.1 hu;have hp:Xe lg (Zr l) al (-1 - (-1 - i)) t (fun _=>true) u=true:=by simpa using hp
  unfold Xe at hp;rw [Bool.and_eq_true,Bool.true_and,show -1 - (-1 - i)=i by omega]at hp;exact⟨u,hp.1,(Bb hB (by omega)).1 hp.2⟩
 know t ht n a hm hf:=by
  obtain⟨j,hg,hj,sZ⟩:=Bc hB hm;have h:=hw t ht (j:Int) (by omega) (by omega);unfold Vx at h;rw [decide_eq_false (show ¬(j:Int) < 0 by omega),cond_false,Qsr hB hm hg]at h;simp only [Int.toNat_natCast]at h;rw [<-sZ,hf,Bool.not_false,Bool.true_and,decide_eq_false_iff_not,Am]at h;obtain⟨u,hu⟩:=Classical.not_forall.1 h;obtain⟨qH,hp⟩:=Classical.not_imp.1 hu;have hp:Xe lg (Zr l) al n.i t (fun u=> !(Ya l (Qr a)).getD u false) u=true:=by simpa using hp
  unfold Xe at hp;rw [Bool.and_eq_true,Bool.and_eq_true]at hp;have uQ:(!(Ya l (Qr a)).getD u false)=true:=hp.2.1;rw [Ms hB hm (by omega)]at uQ;exact⟨u,hp.1,by simpa using uQ,(Bb hB (by omega)).1 hp.2.2⟩
 com t ht n a b hm hf:=by
  obtain⟨j,hg,hj,sZ⟩:=Bc hB hm;have h:=hw t ht (j:Int) (by omega) (by omega);unfold Vx at h;rw [decide_eq_false (show ¬(j:Int) < 0 by omega),cond_false,Qss hB hm hg,Qsv hB hm hg]at h;simp only [Int.toNat_natCast]at h;rw [<-sZ,hf,Bool.not_false,Bool.true_and]at h;have h:Hq lg (Zr l) al ⟨j,n.g,Ya l (Qr a),Ya l (Qr b),Sj l (Qr (.two n a b))⟩ t=true:=by simpa using h
  rw [Ek]at h;obtain⟨u,hr,hy⟩:=h;have TI:=hr.mono (fun x y pE=>(Qkk hB hl hm x y).1 pE);have qH:al.getD u false=true:=by
   have key:∀x y,Vi (Hg lg (l.map Qh) (fun t=>al.getD t false=true) (th l) n.g a) x y->al.getD y false=true:=by
    intro x y pE
    induction pE with
    |one h=>exact h.1
    |cons _ _ ih=>exact ih
   exact key t u TI
  exact⟨u,TI,by rw [<-(Qzc hB hm (hl▸Xd qH)).2];exact hy⟩
theorem Qq1 {M:KM} {w v:M.W} {t u:Nat}(ht:∀s∈l.map Qh,th l t s=Tq M w s)(hu:∀s∈l.map Qh,th l u s=Tq M v s) {i:Int}(h:Mz lg (l.map Qh) i (Tq M w) (Tq M v)):Mz lg (l.map Qh) i (th l t) (th l u):=by
 intro n a hm hi;obtain⟨_,hc,uO,_,_⟩:=hB.closed.know n a hm;rw [ht _ hm,hu _ hm,Ag hu hc uO];exact h n a hm hi
theorem Qjk {M:KM}(w:M.W):∃t,t < 2^l.length/\∀s∈l.map Qh,th l t s=Tq M w s:=by
 obtain⟨t,h1,h2⟩:=Qc2 (fun i=>Tq M w (Qh (l.getD i []))) l.length;refine⟨t,h1,fun s hs=> ?_⟩;obtain⟨i,hg,hi,sZ⟩:=Bc hB hs;rw [sZ,h2 i hi,Qk,hg,Option.getD_some,((Yw hB.can).1 hs).1.tree]
def Qjo(l:List (List Nd))(M:KM)(al:List Bool):Prop:=∀(t:Nat) (w:M.W),t < 2^l.length->(∀s∈l.map Qh,th l t s=Tq M w s)->al.getD t false=true
theorem Qr5 {M:KM}(hM:M.In lg)(yA:lg<=6) {al:List Bool}(hl:al.length=2^l.length)(hS:Qjo l M al) {t:Nat} {w:M.W}(ht:t < 2^l.length)(hw:∀s∈l.map Qh,th l t s=Tq M w s)(i:Int):Vx lg (Zr l) (Jt l) al t i=false:=by
 have hF:=Qmc hB.closed hM yA;unfold Vx;by_cases hi:i < 0
 ·rw [decide_eq_true hi,cond_true];cases hlg2:(lg==1||lg==5)
  ·rfl
  rw [Bool.true_and];have hs:lg=1\/lg=5:=by simpa using hlg2
  cases tS:(Zr l).any (fun k=>k.agent== -1 - i)
  ·rfl
  rw [Bool.true_and,decide_eq_false_iff_not,Am];intro nH;rw [List.any_eq_true]at tS;obtain⟨k,hk,he⟩:=tS;obtain⟨j,n,a,hm,hg,rfl⟩:=(Gn hB).1 hk;have he:n.i= -1 - i:=by simpa using he
  obtain⟨v,_,hp⟩:=hF.ser hs w trivial (-1 - i) ⟨n,a,hm,he⟩;obtain⟨u,hu,gG⟩:=Qjk hB v;have:=nH u (by omega);unfold Xe at this;rw [hS u v hu gG,(Bb hB hu).2 (Qq1 hB hw gG hp)]at this;cases this
 rw [decide_eq_false hi,cond_false];obtain⟨j,rfl⟩:=Int.eq_ofNat_of_zero_le (show 0<=i by omega);cases hf:(Zr l).find? (fun k=>(k.place:Int)==(j:Int))with
 |some k =>
  obtain⟨j',n,a,hm,hg,rfl⟩:=(Gn hB).1 (List.mem_of_find?_eq_some hf);have sU:j'=j:=by
   have h0:(j':Int)=(j:Int):=by simpa using List.find?_some hf
   omega
  subst sU;obtain⟨j2,uP,_,sZ⟩:=Bc hB hm;have sU:j2=j':=by
   have e1:=Xi hB.nodup hg;have e2:=Xi hB.nodup uP;omega
  subst sU;simp only [Int.toNat_natCast];rw [<-sZ];cases hv:th l t (.one n a)
  ·rw [Bool.not_false,Bool.true_and,decide_eq_false_iff_not,Am];intro nH;obtain⟨v,_,he,hp⟩:=hF.know w trivial n a hm (by rw [<-hw _ hm];exact hv);obtain⟨u,hu,gG⟩:=Qjk hB v;have:=nH u (by omega);obtain⟨_,hc,uO,_,_⟩:=hB.closed.know n a hm;unfold Xe at this;simp only at this;rw [hS u v hu gG,(Bb hB hu).2 (Qq1 hB hw gG hp),Ms hB hm hu,Ag gG hc uO,he]at this;cases this
  rfl
 |none =>
  simp only;cases rI:(Jt l).find? (fun c=>(c.place:Int)==(j:Int))with
  |none=>rfl
  |some k =>
   obtain⟨j',n,a,b,hm,hg,rfl⟩:=(Rs hB).1 (List.mem_of_find?_eq_some rI);have sU:j'=j:=by
    have h0:(j':Int)=(j:Int):=by simpa using List.find?_some rI
    omega
   subst sU;obtain⟨j2,uP,_,sZ⟩:=Bc hB hm;have sU:j2=j':=by
    have e1:=Xi hB.nodup hg;have e2:=Xi hB.nodup uP;omega
   subst sU;simp only [Int.toNat_natCast];rw [<-sZ];cases hv:th l t (.two n a b)
   ·rw [Bool.not_false,Bool.true_and,Bool.not_eq_false'];rw [Ek];obtain⟨v,hr,he⟩:=hF.com w trivial n a b hm (by rw [<-hw _ hm];exact hv);obtain⟨_,qP,sF,uO,lB,_⟩:=hB.closed.com n a b hm
    have lift:∀(x y:M.W),Vi (Hg lg (l.map Qh) (fun _=>True) (Tq M) n.g a) x y->∀t,t < 2^l.length->(∀s∈l.map Qh,th l t s=Tq M x s)->
     ∃u,u < 2^l.length/\(∀s∈l.map Qh,th l u s=Tq M y s)/\Vi (Hg lg (l.map Qh) (fun t=>al.getD t false=true) (th l) n.g a) t u:=by
     intro x y pE
     induction pE with
     |@one x y h =>
      intro t ht BO;obtain⟨u,hu,sN⟩:=Qjk hB y;obtain⟨_,hx,i,hi,hg,hp⟩:=h;exact⟨u,hu,sN,.one ⟨hS u y hu sN,by rw [Ag sN qP uO];exact hx,i,hi,hg,Qq1 hB BO sN hp⟩⟩
     |@cons x y z h _ ih =>
      intro t ht BO;obtain⟨u,hu,sN⟩:=Qjk hB y;obtain⟨_,hx,i,hi,hg,hp⟩:=h;obtain⟨u2,h1,h2,h3⟩:=ih u hu sN;exact⟨u2,h1,h2,.cons ⟨hS u y hu sN,by rw [Ag sN qP uO];exact hx,i,hi,hg,Qq1 hB BO sN hp⟩ h3⟩
    obtain⟨u,hu,gG,hru⟩:=lift w v hr t ht hw;exact⟨u,hru.mono (fun x y pE=>(Qkk hB hl hm x y).2 pE),by rw [(Qzc hB hm hu).2,Ag gG sF lB];exact he⟩
   rfl
end
theorem Qh7 {lg:Int} {ks:List Kn} {cs:List Cm} {m:Nat} {al:List Bool} {t:Nat} {i:Int}(h:Tc lg ks cs m al t=some i):Vx lg ks cs al t i=true:=by
 unfold Tc at h;exact List.find?_some h
theorem Qf2 {lg:Int} {ks:List Kn} {cs:List Cm} {m:Nat} {al:List Bool} {t:Nat}(h:Tc lg ks cs m al t=none)(i:Int)(h0: -4<=i)(h1:i < m):Vx lg ks cs al t i=false:=by
 unfold Tc at h;rw [List.find?_eq_none]at h;have:=h i (List.mem_map.2 ⟨(i+4).toNat,List.mem_range.2 (by omega),by omega⟩)
 simpa using this
theorem Qdg(why:List Bool->Nat->Option Int):∀(k:Nat) (s:List Bool×List (Nat×Int)),Qaz s.1 (Ss why k s).1:=fun k s =>
 Qze (S:=fun al=>Qaz s.1 al) (fun al t _i h _ _ u hu=>h u (Zqa al t u hu)) k s (fun _ h=>h)
theorem Qww {α:Type}(g:Nat->α)(d:α) {n k:Nat}(h:k < n):((List.range n).map g).getD k d=g k:=by
 rw [Qk,List.getElem?_map,List.getElem?_range h];rfl
structure Bl (lg:Int) (f:List Nd):Prop where
 l0:0<=lg
 l6:lg<=6
 ck:check f=0
 x:Xf (Va (Qh f))
 e:Ja f=Qr (Va (Qh f))
 b:Lr (Qm f).1 (Va (Qh f))
theorem Cp {f:List Nd}(h:(Qm f).2=0):check f=0/\Nr f=false/\(Ja f).length≠0/\Qm f=Ka (Ja f):=by
 unfold Qm at h⊢;cases hc:check f !=0
 ·rw [hc]at h;cases hl:Nr f
  ·rw [hl]at h;cases hz:decide ((Ja f).length=0)
   ·exact⟨by simpa using hc,rfl,of_decide_eq_false hz,rfl⟩
   rw [hz]at h;cases h
  rw [hl]at h;cases h
 rw [hc]at h;exact absurd h (by simpa using hc)
theorem Qzw {lg:Int} {f:List Nd}(h:Ji lg f=0):Bl lg f:=by
 unfold Ji at h;cases ha:decide (lg < 0)||decide (6 < lg)
 ·rw [ha]at h;rw [Bool.or_eq_false_iff,decide_eq_false_iff_not,decide_eq_false_iff_not]at ha;obtain⟨h1,h2,h3,h4⟩:=Cp h;obtain⟨hx,he⟩:=Qy1 h1 h2 h3;have h5:(Ka (Qr (Va (Qh f)))).2=0:=by rw [<-he,<-h4];exact h
  have hb:=Qsq hx h5;rw [<-he,<-h4]at hb;exact⟨by omega,by omega,h1,hx,he,hb⟩
 rw [ha]at h;cases h
section
variable {lg:Int} {f:List Nd}
theorem Te(lg:Int)(l:List (List Nd)):(Kp lg l).length=2^l.length:=by simp [Kp]
theorem Qzn {l:List (List Nd)} {t:Nat}(ht:t < 2^l.length):(Kp lg l).getD t false=Ye lg (Zr l) (Jt l) t:=Qww _ _ ht
theorem Mx:(Rl lg f).1.length=2^(Qm f).1.length:=by
 unfold Rl Qk1;rw [Qdx];exact Te _ _
theorem Qkz(h:Bl lg f) {t:Nat}(ht:t < 2^(Qm f).1.length):(Ry f).getD t false=ev (th (Qm f).1 t) (Va (Qh f)):=by
 unfold Ry;rw [h.e,Qym h.x.check ht,h.x.tree]
theorem Qem(h:Bl lg f):Ux lg f=true↔∃t,(Rl lg f).1.getD t false=true/\ev (th (Qm f).1 t) (Va (Qh f))=true:=by
 unfold Ux Hv;rw [List.any_eq_true];constructor
 ·rintro⟨t,ht,h2⟩;rw [Bool.and_eq_true]at h2;have ht:=List.mem_range.1 ht;rw [Mx]at ht;exact⟨t,h2.1,by rw [<-Qkz h ht];exact h2.2⟩
 rintro⟨t,h1,h2⟩;have ht:=Xd h1;refine⟨t,List.mem_range.2 ht,?_⟩;rw [Mx]at ht;rw [Bool.and_eq_true,Qkz h ht];exact⟨h1,h2⟩
theorem Qae(h:Bl lg f):Ww lg ((Qm f).1.map Qh) (fun t=>(Rl lg f).1.getD t false=true) (th (Qm f).1):=by
 refine Qil h.b Mx (fun t ht=> ?_) (fun t ht i h0 h1=> ?_)
 ·have hs:=Qdg (Tc lg (Zr (Qm f).1) (Jt (Qm f).1) (Qm f).1.length) _ (Kp lg (Qm f).1,[]) t ht;have hl:=Xd hs;rw [Te]at hl;rw [<-Qzn hl];exact hs
 have:=Qvm (why:=Tc lg (Zr (Qm f).1) (Jt (Qm f).1) (Qm f).1.length) ((Kp lg (Qm f).1).length+1) (Kp lg (Qm f).1,[]) (by have:=Qk0 (Kp lg (Qm f).1);show Ps (Kp lg (Qm f).1) < _;omega) t ht;exact Qf2 this i h0 h1
theorem Qr1(h:Bl lg f) {M:KM}(hM:M.In lg):Qjo (Qm f).1 M (Kp lg (Qm f).1):=fun t w ht hw=>by
 rw [Qzn ht,Qx5 h.b ht];have hc:=Qf5 h.b.closed hM w;refine⟨fun n a b hm=> ?_,fun hr n a hm sZ=> ?_⟩
 ·rw [hw _ hm,hc.com n a b hm];constructor
  ·intro k i hi hg;rw [hw _ ((h.b.closed.com n a b hm).2.2.2.2.2 i hi hg)];exact k i hi hg
  intro k i hi hg;rw [<-hw _ ((h.b.closed.com n a b hm).2.2.2.2.2 i hi hg)];exact k i hi hg
 obtain⟨_,qP,uO,_,_⟩:=h.b.closed.know n a hm;rw [Ag hw qP uO];exact hc.know hr n a hm (by rw [<-hw _ hm];exact sZ)
theorem Qp8(h:Bl lg f) {M:KM}(hM:M.In lg)(al:List Bool)(t:Nat)(i:Int)(hl:al.length=2^(Qm f).1.length)(hS:Qjo (Qm f).1 M al)(hk:Vx lg (Zr (Qm f).1) (Jt (Qm f).1) al t i=true):Qjo (Qm f).1 M (al.set t false):=fun u w hu hw=>by
 rw [Qns];cases e:u==t
 ·exact hS u w hu hw
 have:u=t:=by simpa using e
 subst this;rw [Qr5 h.b hM h.l6 hl hS hu hw i]at hk;cases hk
theorem Qpg(h:Bl lg f) {M:KM}(hM:M.In lg):Qjo (Qm f).1 M (Rl lg f).1:=by
 have:=Qze (why:=Tc lg (Zr (Qm f).1) (Jt (Qm f).1) (Qm f).1.length) (S:=fun al=>al.length=2^(Qm f).1.length/\Qjo (Qm f).1 M al)
  (fun al t i hS _ hw=>⟨by rw [List.length_set];exact hS.1,Qp8 h hM al t i hS.1 hS.2 (Qh7 hw)⟩) ((Kp lg (Qm f).1).length+1) (Kp lg (Qm f).1,[]) ⟨Te _ _,Qr1 h hM⟩
 exact this.2
theorem Qfl(h:Bl lg f):Ux lg f=true↔∃M:KM,M.In lg/\∃w,M.sat (Qh f) w:=by
 rw [Qem h];constructor
 ·rintro⟨t,h1,h2⟩;have hF:=Qae h;refine⟨Sz lg ((Qm f).1.map Qh) (fun t=>(Rl lg f).1.getD t false=true) (th (Qm f).1),Qsp hF h.l6,⟨t,h1⟩,?_⟩;exact(Hh (M:=Sz lg ((Qm f).1.map Qh) (fun t=>(Rl lg f).1.getD t false=true) (th (Qm f).1)) (Qh f) ⟨t,h1⟩).1 ((Wh h.b.closed hF _ h.b.cov h.x.xp.lang h.x.xp.fact ⟨t,h1⟩).1 h2)
 rintro⟨M,hM,w,hw⟩;obtain⟨t,ht,XR⟩:=Qjk h.b w;refine⟨t,Qpg h hM t w ht XR,?_⟩;rw [Ag XR h.b.cov h.x.xp.lang,evW w h.b.cov h.x.xp.lang,Hh];exact hw
end
open Go.RowKit
def He(m:Nat)(w:World)(vo u:Value):Prop:=∀g,u.ownBlock=some g->g < w.heap.size/\vo.ownBlock≠some g/\m<=g
theorem He.ext {m:Nat} {w w':World} {vo u:Value}(h:He m w vo u)(he:Qg w w'):He m w' vo u:=fun g hg=>⟨Qy (h g hg).1 he.size,(h g hg).2⟩
theorem Qgs:(Tryz.prog.info? 22).map (fun i=>(i.zero,i.size,i.bytes))=some (some (.slice none 0 0),1,24):=by kernel_rfl
theorem Ew.keepF {w w':World} {v:Value} {l:List Nd}(h:Ew w v l)(hb:∀g,v.ownBlock=some g->g < w.heap.size->w'.heap[g]?=w.heap[g]?)(hs:w.heap.size<=w'.heap.size):Ew w' v l:=by
 obtain⟨A,c,rfl,h1,h2,h3⟩:=h;refine⟨A,c,rfl,h1,h2,fun hn=> ?_⟩;obtain⟨ad,rfl,zI,hc⟩:=h3 hn;refine⟨ad,rfl,Qy zI hs,fun k n hk=>(hc k n hk).keep fun p hp=>World.cell?_of_block ?_⟩;rw [hp,Qt];exact hb ad.block rfl zI
structure Kq (w0 w:World) (vo:Value) (out:List (List Nd)):Prop where
 ext:Qg w0 w
 row:∃us,w.ownsRow w0.heap.size 22 1 vo out.length us/\∀(k:Nat) (s:List Nd),out[k]?=some s->∃u,us[k]?=some u/\Jo w u s/\He w0.heap.size w vo u
theorem Kq.ext_ {w0 w w':World} {vo:Value} {out:List (List Nd)}(h:Kq w0 w vo out)(he:Qg w w'):Kq w0 w' vo out:=by
 obtain⟨us,hr,hu⟩:=h.row;refine⟨h.ext.trans he,us,Zk hr he,fun k s hk=> ?_⟩;obtain⟨u,a,b,c⟩:=hu k s hk;exact⟨u,a,b.ext he,c.ext he⟩
theorem Kq.nil(w:World):Kq w w (.slice none 0 0) []:=⟨Qz,[],World.ownsRow_nil _ _ _ _,fun k s h=>by simp at h⟩
theorem Pf {w:World} {base n:Nat} {t:TypeId} {v:Value} {us:List Value}(h:w.ownsRow base t 1 v n us)(hn:0 < n):
 ∃g cap,v=.slice (some ⟨g,0,none⟩) n cap/\g < w.heap.size/\n<=cap/\cap<=maxLen/\∀i z,us[i]?=some z->w.cell? ⟨g,i,none⟩=some z:=by
 rcases h.2 with⟨_,h0⟩|⟨g,cap,cur,rfl,_,hg,iE,hm,hs,ht⟩
 ·omega
 refine⟨g,cap,rfl,Qn hg,iE,hm,fun i z h1=> ?_⟩;rw [<-ht,List.getElem?_take]at h1
 split at h1
 ·have h2:cur[i]?=some z:=by simpa using h1
  simp [World.cell?,hg,h2]
 cases h1
theorem Kq.keep {w0 w w':World} {vo:Value} {out:List (List Nd)}(h:Kq w0 w vo out)(hb:∀g,w0.heap.size<=g->g < w.heap.size->w'.heap[g]?=w.heap[g]?)(hs:w.heap.size<=w'.heap.size)(he:Qg w0 w'):Kq w0 w' vo out:=by
 obtain⟨us,hr,hu⟩:=h.row;refine⟨he,us,⟨hr.1,?_⟩,fun k s hk=> ?_⟩
 ·rcases hr.2 with h0|⟨g,cap,cur,e,h1,h2,h3,h4,h5,h6⟩
  ·exact .inl h0
  exact .inr ⟨g,cap,cur,e,h1,(hb g h1 (Qn h2)).trans h2,h3,h4,h5,h6⟩
 obtain⟨u,a,b,c⟩:=hu k s hk;exact⟨u,a,⟨b.1.keepF (fun g hg _=>hb g (c g hg).2.2 (c g hg).1) hs,b.2⟩,fun g hg=>⟨Qy (c g hg).1 hs,(c g hg).2⟩⟩
theorem Kq.fmls {w0 w:World} {vo:Value} {out:List (List Nd)}(h:Kq w0 w vo out):Df w vo out:=by
 obtain⟨ss,hs,hv⟩:=h.row;by_cases h0:0 < out.length
 ·obtain⟨g,cap,rfl,hg,h1,h2,hc⟩:=Pf hs h0;refine⟨_,cap,rfl,h1,h2,fun _=>⟨_,rfl,hg,fun k f hk=> ?_⟩⟩;obtain⟨u,a,b,_⟩:=hv k f hk;exact⟨u,by rw [Fm];exact hc k u a,b⟩
 have e:out= []:=List.length_eq_zero_iff.1 (by omega);subst e;obtain⟨A,c,rfl⟩:=Qs hs;rcases hs.2 with⟨e,_⟩|⟨g,cap,cur,e,_,_,hn,hm,_⟩
 ·injection e with e1 _ e2;subst e1 e2;exact⟨_,_,rfl,Nat.le_refl _,by unfold maxLen;omega,fun h=>absurd rfl h⟩
 injection e with e1 _ e2;subst e1 e2;exact⟨_,_,rfl,Nat.zero_le _,hm,fun h=>absurd rfl h⟩
theorem Kq.push {w0 W w4:World} {vo v' x:Value} {out:List (List Nd)} {s:List Nd} {ss:List Value}(he:Qg w0 W)(hs:W.ownsRow w0.heap.size 22 1 vo out.length ss)(hv:∀(k:Nat) (s:List Nd),out[k]?=some s->∃u,ss[k]?=some u/\Jo W u s/\He w0.heap.size W vo u)
 (zR:w4.ownsRow w0.heap.size 22 1 v' (out.length+1) (ss++ [x]))(hg:W.grownBy w4 vo.ownBlock)(yL:v'.ownBlock=vo.ownBlock\/v'.ownBlock=some W.heap.size)(hx:Jo W x s)(ZL:He w0.heap.size W vo x):
 Kq w0 w4 v' (out++ [s]):=by
 have zG:ss.length=out.length:=by simpa using hs.1
 have MY:∀g,g < W.heap.size->vo.ownBlock≠some g->w4.heap[g]?=W.heap[g]?:=fun g h1 h2=>hg.block g h1 (fun e=>h2 e.symm)
 have YO:∀u,He w0.heap.size W vo u->He w0.heap.size w4 v' u:=fun u hu g hgu=>by
  obtain⟨a,b,hm⟩:=hu g hgu;refine⟨Qy a hg.size,fun e=> ?_,hm⟩;rcases yL with e1|e1
  ·exact b (e1.symm.trans e)
  rw [e1]at e;injection e with e;omega
 have NP:∀u s,He w0.heap.size W vo u->Jo W u s->Jo w4 u s:=fun u s ha hi=>⟨hi.1.keepF (fun g wD _=>MY g (ha g wD).1 (ha g wD).2.1) hg.size,hi.2⟩
 refine⟨he.grown hg (fun g wD=>(hs.lt g wD).1),ss++ [x],by rw [List.length_append];exact zR,fun k s' hk=> ?_⟩;by_cases rH:k < out.length
 ·rw [List.getElem?_append_left rH]at hk;obtain⟨u,a,b,c⟩:=hv k s' hk;exact⟨u,by rw [List.getElem?_append_left (by omega)];exact a,NP u s' c b,YO u c⟩
 rw [List.getElem?_append_right (by omega)]at hk;have aB:k=out.length:=by
  by_cases e:k - out.length=0
  ·omega
  rw [List.getElem?_eq_none (by simp;omega)]at hk;cases hk
 subst aB;simp at hk;subst hk;exact⟨x,by rw [List.getElem?_append_right (by omega),zG];simp,NP x _ ZL hx,YO x ZL⟩
theorem Lg {w W:World} {vo x:Value} {B n k:Nat} {us zs:List Value} {e:TypeId} {sz m:Nat}(hB:w.heap.size<=B)(hx:W.ownsRow B e sz x n zs)(hs:w.ownsRow m 22 1 vo k us)(hm:m<=w.heap.size):He m W vo x:=fun g hg=>by
 obtain⟨h1,h2⟩:=hx.lt g hg;exact⟨h2,fun e=>by have:=(hs.lt g e).2;omega,by omega⟩
def Qk5(p:List Nd->Bool)(l:List (List Nd)):Int:=match l.findIdx? p with|none=> -1|some j=>j
theorem Qy3(p:List Nd->Bool):∀(l:List (List Nd)) (k:Nat) (s:List Nd),l[k]?=some s->p s=true->(∀t∈l.take k,p t=false)->l.findIdx? p=some k
 |[],k,s,h,_,_=>by simp at h
 |a :: r,0,s,h,hp,_=>by
  simp only [List.getElem?_cons_zero,Option.some.injEq]at h;subst h;rw [List.findIdx?_cons,hp];rfl
 |a :: r,k+1,s,h,hp,hn=>by
  have ha:p a=false:=hn a (by simp);rw [List.findIdx?_cons,ha,Qy3 p r k s (by simpa using h) hp (fun t ht=>hn t (by simp [ht]))];rfl
theorem Qz0(p:List Nd->Bool):∀(l:List (List Nd)),(∀t∈l,p t=false)->l.findIdx? p=none
 |[],_=>by simp
 |a :: r,hn=>by
  rw [List.findIdx?_cons,hn a (by simp),Qz0 p r (fun t ht=>hn t (by simp [ht]))];rfl
theorem Qls(g:Nat)(lb:Array Value)(eg:∀args w,(callFunc g args).run Tryz.prog w=.ok (.enter g args) w)(p:List Nd->Bool)(v:Value)(l:List (List Nd))(w:World)(h:Df w v l)
 (hp:∀(W:World) (u:Value) (s:List Nd),Qg w W->Jo W u s->Calls Tryz.prog g (#[u]++lb) W fun e w'=>e=.returned (.bool (p s))/\Qg W w'):
 Calls Tryz.prog 178 #[v,.func (.func g) #[] lb] w fun e w'=>e=.returned (.int .i64 (Qk5 p l))/\Qg w w':=by
 obtain⟨A,c,rfl,xU,yP,hr⟩:=h;unfold maxLen at yP;have HR:=Qq hr;have HP:=Qq hp;clear hr hp;go_enter Tryz.func178,Tryz.ntmps178;go_wp2_with fail;go_loopw [5,8] (fun _ i wr=>∃k:Nat,k<=l.length/\i=.int .i64 (k:Int)/\Hid (∀t∈l.take k,p t=false)/\Hid (Qg w wr)) (fun _ i _=>l.length - (intOf i).toNat)
 case atStart=>exact⟨0,Nat.zero_le _,rfl,Qq (by simp),Qq Qz⟩
 case round =>
  obtain⟨k,hk,rfl,tX,HX⟩:=hrel;by_cases hlt2:k < l.length
  ·obtain⟨s,hs⟩:∃s,l[k]?=some s:=⟨_,Qv hlt2⟩;obtain⟨ad,rfl,yV,xV⟩:=HR.out (by intro e;rw [e]at hlt2;simp at hlt2);obtain⟨u,hu,hf⟩:=xV k s hs;have a0:=(HX.out.cell (p:=ad.add k) (Qj yV)).trans hu;have HF:=Qq (hf.ext HX.out);have HA:=Qq hs;have yT:(k:Int) < (l.length:Int):=by omega
   clear hs xV hf hu;cases vP:p s
   ·have HT:Hid (∀t∈l.take (k+1),p t=false):=Qq (by
     rw [Kx HA.out];intro t ht;rcases List.mem_append.1 ht with ht|ht
     ·exact tX.out t ht
     rw [List.mem_singleton.1 ht];exact vP)
    go_wp2_with(refine(HP.out _ u s (by exact HX.out.trans (by repeat(first|exact Qz|assumption|apply Qg.alloc|apply Qg.drew))) (by exact HF.out.ext (by repeat(first|exact Qz|assumption|apply Qg.alloc|apply Qg.drew)))).mono ?_;rintro e w1 ⟨rfl,hx⟩;rw [vP]);go_roundw
    case rel=>exact⟨k+1,by omega,by go_num,HT,Qq (HX.out.trans (by first|exact hx|exact Qg.trans (by repeat(first|exact Qz|assumption|apply Qg.alloc|apply Qg.drew)) hx))⟩
    case measure=>simp [intOf];omega
   have HE:=Qq (show Qk5 p l=(k:Int) by unfold Qk5;rw [Qy3 p l k s HA.out vP tX.out]);go_wp2_with(refine(HP.out _ u s (by exact HX.out.trans (by repeat(first|exact Qz|assumption|apply Qg.alloc|apply Qg.drew))) (by exact HF.out.ext (by repeat(first|exact Qz|assumption|apply Qg.alloc|apply Qg.drew)))).mono ?_;rintro e w1 ⟨rfl,hx⟩;rw [vP]);go_ret;exact⟨by rw [HE.out] <;> rfl,HX.out.trans (by first|exact hx|exact Qg.trans (by repeat(first|exact Qz|assumption|apply Qg.alloc|apply Qg.drew)) hx)⟩
  obtain rfl:l.length=k:=by omega
  have HE:=Qq (show Qk5 p l= -1 by
   unfold Qk5;rw [Qz0 p l (fun t ht=>tX.out t (by rw [List.take_of_length_le (Nat.le_refl _)];exact ht))])
  go_wp2_with fail;go_ret;exact⟨by rw [HE.out] <;> rfl,HX.out⟩
def Sn(w:World)(A:Option Addr)(c:Nat)(l:List Bool):Prop :=
 l.length<=c/\c<=maxLen/\(l≠ []->∃ad,A=some ad/\ad.block < w.heap.size/\∀k z,l[k]?=some z->w.cell? (ad.add k)=some (.bool z))
def Km(w:World)(v:Value)(l:List Bool):Prop:=∃A c,v=.slice A l.length c/\Sn w A c l
section
variable {w w':World} {v:Value}
theorem Sn.ext {A:Option Addr} {c:Nat} {l:List Bool}(h:Sn w A c l)(he:Qg w w'):Sn w' A c l :=
 ⟨h.1,h.2.1,fun hn=>by
  obtain⟨ad,e,zI,hc⟩:=h.2.2 hn;exact⟨ad,e,Qy zI he.size,fun k z hk=>(he.cell (Qj zI)).trans (hc k z hk)⟩⟩
theorem Km.ext {l:List Bool}(h:Km w v l)(he:Qg w w'):Km w' v l:=by
 obtain⟨A,c,e,h⟩:=h;exact⟨A,c,e,h.ext he⟩
end
def Kf(base:Nat)(w:World)(g:Nat)(l:List Bool):Prop:=w.ownsRow base 4 1 (.slice (some ⟨g,0,none⟩) l.length l.length) l.length (l.map Value.bool)
section
variable {base:Nat} {w w':World} {g:Nat} {l:List Bool}
theorem Kf.cell(h:Kf base w g l) {j:Nat} {b:Bool}(hj:l[j]?=some b):w.cell? ⟨g,j,none⟩=some (.bool b):=by
 have hl:=(List.getElem?_eq_some_iff.1 hj).1;rw [World.ownsRow.cellAt h j (by omega),List.getElem?_map,hj];rfl
theorem Kf.frozen(h:Kf base w g l)(j:Nat):w.frozen? ⟨g,j,none⟩=false:=World.ownsRow.frozenAt h j
theorem Kf.lt(h:Kf base w g l):base<=g/\g < w.heap.size:=World.ownsRow.lt h g rfl
theorem Kf.set(h:Kf base w g l)(j:Nat)(b:Bool):Kf base (w.setCell ⟨g,j,none⟩ (.bool b)) g (l.set j b)/\w.grownBy (w.setCell ⟨g,j,none⟩ (.bool b)) (some g):=by
 obtain⟨h1,h2⟩:=World.ownsRow.stored h j (.bool b);refine⟨?_,h2⟩;unfold Kf;rw [List.length_set,<-List.map_set]at *;exact h1
theorem Kf.ext(h:Kf base w g l)(he:Qg w w'):Kf base w' g l:=Zk h he
theorem Kf.base_ {b':Nat}(h:Kf base w g l)(hb:b'<=base):Kf b' w g l:=Kl h hb
theorem Kf.bools(h:Kf base w g l):Km w (.slice (some ⟨g,0,none⟩) l.length l.length) l:=by
 refine⟨_,_,rfl,Nat.le_refl _,?_,fun hn=>⟨_,rfl,h.lt.2,fun k z hk=> ?_⟩⟩
 ·have h2:=h.2;rcases h2 with⟨e,_⟩|⟨g',cap,cur,e,_,_,_,hm,_⟩
  ·cases e
  injection e with _ _ e;rw [e];exact hm
 rw [Fm];exact h.cell hk
end
theorem Ql0(n:Nat):(madeCells (Value.cells (.bool false)) (n*1)).toList=(List.replicate n false).map Value.bool:=by
 simp only [madeCells,Value.cells,Nat.mul_one,Array.toList_map,Array.toList_range,List.map_replicate];refine List.ext_getElem (by simp) fun i h1 h2=> ?_
 simp [Nat.mod_one]
def Qbp(w:World)(a:Addr)(k:Kn):Prop :=
 ∃vh,w.cell? a=some (.int .i64 k.agent)/\w.cell? ⟨a.block,a.off+1,none⟩=some (.int .i64 (k.place:Int))/\w.cell? ⟨a.block,a.off+2,none⟩=some vh/\Km w vh k.holds
def Qji(w:World)(A:Option Addr)(c:Nat)(l:List Kn):Prop :=
 l.length<=c/\c<=maxLen/\(l≠ []->∃ad,A=some ad/\ad.block < w.heap.size/\∀k n,l[k]?=some n->Qbp w (ad.add (k*3)) n)
def Kns(w:World)(v:Value)(l:List Kn):Prop:=∃A c,v=.slice A l.length c/\Qji w A c l
def Qbl(w:World)(a:Addr)(k:Cm):Prop :=
 ∃vx vy,w.cell? a=some (.int .i64 (k.place:Int))/\w.cell? ⟨a.block,a.off+1,none⟩=some (.int .i64 k.group)/\w.cell? ⟨a.block,a.off+2,none⟩=some vx/\w.cell? ⟨a.block,a.off+3,none⟩=some vy/\
  w.cell? ⟨a.block,a.off+4,none⟩=some (.int .u64 (k.parts:Int))/\Km w vx k.x/\Km w vy k.y
def Qjw(w:World)(A:Option Addr)(c:Nat)(l:List Cm):Prop :=
 l.length<=c/\c<=maxLen/\(l≠ []->∃ad,A=some ad/\ad.block < w.heap.size/\∀k n,l[k]?=some n->Qbl w (ad.add (k*5)) n)
def Cms(w:World)(v:Value)(l:List Cm):Prop:=∃A c,v=.slice A l.length c/\Qjw w A c l
section
variable {w w':World} {v:Value} {a:Addr}
theorem Qbp.ext {k:Kn}(h:Qbp w a k)(he:Qg w w')(ha:a.block < w.heap.size):Qbp w' a k:=by
 obtain⟨vh,h0,h1,h2,h3⟩:=h;have hk:∀o s,w'.cell? ⟨a.block,o,s⟩=w.cell? ⟨a.block,o,s⟩:=fun o s=>he.cell (p:=⟨a.block,o,s⟩) ha
 exact⟨vh,(hk _ _).trans h0,(hk _ _).trans h1,(hk _ _).trans h2,h3.ext he⟩
theorem Qbl.ext {k:Cm}(h:Qbl w a k)(he:Qg w w')(ha:a.block < w.heap.size):Qbl w' a k:=by
 obtain⟨vx,vy,h0,h1,h2,h3,h4,h5,h6⟩:=h;have hk:∀o s,w'.cell? ⟨a.block,o,s⟩=w.cell? ⟨a.block,o,s⟩:=fun o s=>he.cell (p:=⟨a.block,o,s⟩) ha
 exact⟨vx,vy,(hk _ _).trans h0,(hk _ _).trans h1,(hk _ _).trans h2,(hk _ _).trans h3,(hk _ _).trans h4,h5.ext he,h6.ext he⟩
theorem Qji.ext {A:Option Addr} {c:Nat} {l:List Kn}(h:Qji w A c l)(he:Qg w w'):Qji w' A c l :=
 ⟨h.1,h.2.1,fun hn=>by
  obtain⟨ad,e,zI,hc⟩:=h.2.2 hn;exact⟨ad,e,Qy zI he.size,fun k n hk=>(hc k n hk).ext he (Qj zI)⟩⟩
theorem Qjw.ext {A:Option Addr} {c:Nat} {l:List Cm}(h:Qjw w A c l)(he:Qg w w'):Qjw w' A c l :=
 ⟨h.1,h.2.1,fun hn=>by
  obtain⟨ad,e,zI,hc⟩:=h.2.2 hn;exact⟨ad,e,Qy zI he.size,fun k n hk=>(hc k n hk).ext he (Qj zI)⟩⟩
theorem Kns.ext {l:List Kn}(h:Kns w v l)(he:Qg w w'):Kns w' v l:=by
 obtain⟨A,c,e,h⟩:=h;exact⟨A,c,e,h.ext he⟩
theorem Cms.ext {l:List Cm}(h:Cms w v l)(he:Qg w w'):Cms w' v l:=by
 obtain⟨A,c,e,h⟩:=h;exact⟨A,c,e,h.ext he⟩
end
structure Hw (w:World) (b:Nat) (lg:Int) (base:List (List Nd)) (root:List Bool) (ks:List Kn) (cs:List Cm) (alive:List Bool):Prop where
 all:∃vb vr vk vc va,w.heap[b]?=some (.cells #[.int .i64 lg,vb,vr,vk,vc,va] 93 (0,0))/\Df w vb base/\Km w vr root/\Kns w vk ks/\Cms w vc cs/\Km w va alive
section
variable {w w':World} {b:Nat} {lg:Int} {base:List (List Nd)} {root:List Bool} {ks:List Kn} {cs:List Cm} {alive:List Bool}
theorem Hw.ext(h:Hw w b lg base root ks cs alive)(he:Qg w w'):Hw w' b lg base root ks cs alive:=by
 obtain⟨vb,vr,vk,vc,va,hb,h1,h2,h3,h4,h5⟩:=h.all;exact⟨vb,vr,vk,vc,va,(he.block (Qn hb)).trans hb,h1.ext he,h2.ext he,h3.ext he,h4.ext he,h5.ext he⟩
theorem Hw.cells(h:Hw w b lg base root ks cs alive):∃Ab cb Ar cr Ak ck Ac cc Aa ca,w.cell? ⟨b,0,none⟩=some (.int .i64 lg)/\w.cell? ⟨b,1,none⟩=some (.slice Ab base.length cb)/\w.cell? ⟨b,2,none⟩=some (.slice Ar root.length cr)/\
 w.cell? ⟨b,3,none⟩=some (.slice Ak ks.length ck)/\w.cell? ⟨b,4,none⟩=some (.slice Ac cs.length cc)/\w.cell? ⟨b,5,none⟩=some (.slice Aa alive.length ca)/\b < w.heap.size/\
 Df w (.slice Ab base.length cb) base/\Sn w Ar cr root/\Qji w Ak ck ks/\Qjw w Ac cc cs/\Sn w Aa ca alive:=by
 obtain⟨vb,vr,vk,vc,va,hb,h1,⟨Ar,cr,rfl,h2⟩,⟨Ak,ck,rfl,h3⟩,⟨Ac,cc,rfl,h4⟩,⟨Aa,ca,rfl,h5⟩⟩:=h.all;obtain⟨⟨d0,d1,d2,d3,d4,d5⟩,_,hl⟩:=Vs hb;have G4:=h1;obtain⟨Ab,cb,rfl,_⟩:=h1;exact⟨Ab,cb,Ar,cr,Ak,ck,Ac,cc,Aa,ca,d0,d1,d2,d3,d4,d5,hl,G4,h2,h3,h4,h5⟩
end
structure Zkv (base:List (List Nd)) (root:List Bool) (ks:List Kn) (cs:List Cm) (alive:List Bool):Prop where
 len:base.length<=12
 m:alive.length=2^base.length
 root:root.length=2^base.length
 kn:∀k∈ks,k.place < base.length/\k.holds.length=2^base.length/\Vm k.agent
 cm:∀c∈cs,c.place < base.length/\c.x.length=2^base.length/\c.y.length=2^base.length/\c.parts < 18446744073709551616/\0<=c.group/\c.group < 16
 klen:ks.length<=12
 clen:cs.length<=12
theorem Qbr {n:Nat}(h:n<=12):2^n<=4096:=Nat.pow_le_pow_right (by decide) h
theorem Xx {w:World} {A:Option Addr} {c:Nat} {l:List Bool}(h:Sn w A c l) {k:Nat}(hk:k < l.length):∃ad,A=some ad/\ad.block < w.heap.size/\w.cell? (ad.add k)=some (.bool (l.getD k false)):=by
 obtain⟨ad,e,hb,hc⟩:=h.2.2 (by intro e;rw [e]at hk;simp at hk);refine⟨ad,e,hb,hc k _ ?_⟩;rw [Qk,Qv hk];rfl
theorem Qbb(b:Nat)(lg:Int)(w:World)(d0:w.cell? ⟨b,0,none⟩=some (.int .i64 lg)):
 Calls Tryz.prog 184 #[.pointer (some ⟨b,0,none⟩)] w fun e w'=>e=.returned (.bool (Bp lg))/\w=w':=by
 cases h2:lg==2
 ·cases h4:lg==4
  ·cases h6:lg==6
   ·have HE:=Qq (show Bp lg=false by unfold Bp;rw [h2,h4,h6];rfl);go_enter Tryz.func184,Tryz.ntmps184;go_wp2_with fail;go_ret;exact⟨by rw [HE.out] <;> rfl,rfl⟩
   have HE:=Qq (show Bp lg=true by unfold Bp;rw [h2,h4,h6];rfl);go_enter Tryz.func184,Tryz.ntmps184;go_wp2_with fail;go_ret;exact⟨by rw [HE.out] <;> rfl,rfl⟩
  have HE:=Qq (show Bp lg=true by unfold Bp;rw [h2,h4];rfl);go_enter Tryz.func184,Tryz.ntmps184;go_wp2_with fail;go_ret;exact⟨by rw [HE.out] <;> rfl,rfl⟩
 have HE:=Qq (show Bp lg=true by unfold Bp;rw [h2];rfl);go_enter Tryz.func184,Tryz.ntmps184;go_wp2_with fail;go_ret;exact⟨by rw [HE.out] <;> rfl,rfl⟩
theorem Zqn {lg:Int} {ks:List Kn} {a:Int} {t u k:Nat} {n:Kn}(hn:ks[k]?=some n)(h:(n.agent !=a||Kd lg (t.testBit n.place) (n.holds.getD u false) (u.testBit n.place))=false):Jz lg ks a t u=false:=by
 unfold Jz;rw [List.all_eq_false];exact⟨n,List.mem_of_getElem? hn,by rw [h];simp⟩
theorem Zqd {lg:Int} {ks:List Kn} {a:Int} {t u:Nat}(h:∀j n,j < ks.length->ks[j]?=some n->(n.agent !=a||Kd lg (t.testBit n.place) (n.holds.getD u false) (u.testBit n.place))=true):Jz lg ks a t u=true:=by
 unfold Jz;rw [List.all_eq_true];intro n hn;obtain⟨j,hj,e⟩:=List.getElem_of_mem hn;exact h j n hj (by rw [Qv hj,e])
theorem Qt5 {lg:Int} {a b c:Bool}(h:lg=0\/lg=1\/lg=2):Kd lg a b c=(!a||b):=by
 rcases h with rfl|rfl|rfl <;> rfl
theorem Zy0 {lg:Int} {a b c:Bool}(h:lg=3):Kd lg a b c=(!a||(b&&c)):=by subst h;rfl
theorem Zy1 {lg:Int} {a b c:Bool}(h:lg=4):Kd lg a b c=(!a||c):=by subst h;rfl
theorem Zy3 {lg:Int} {a b c:Bool}(h:lg=6):Kd lg a b c=(a==c):=by subst h;rfl
theorem Zy2 {lg:Int} {a b c:Bool}(h:lg=5):Kd lg a b c=((a==c)&&(!a||b)):=by subst h;rfl
theorem Qz8 {w:World} {A:Option Addr} {c:Nat} {l:List Kn}(h:Qji w A c l) {k:Nat} {n:Kn}(hk:l[k]?=some n):∃ad,A=some ad/\ad.block < w.heap.size/\Qbp w (ad.add (k*3)) n:=by
 obtain⟨ad,e,hb,hc⟩:=h.2.2 (by intro e;rw [e]at hk;simp at hk);exact⟨ad,e,hb,hc k n hk⟩
theorem Qx2 {w:World} {b:Nat} {a0 a1 a2:Value} {t:TypeId}(h:w.heap[b]?=some (.cells #[a0,a1,a2] t (0,0))):
 w.cell? ⟨b,0,none⟩=some a0/\w.cell? ⟨b,1,none⟩=some a1/\w.cell? ⟨b,2,none⟩=some a2/\b < w.heap.size :=
 ⟨by simp [World.cell?,h],by simp [World.cell?,h],by simp [World.cell?,h],Qn h⟩
theorem Li(b:Nat)(lg:Int)(base:List (List Nd))(root:List Bool)(ks:List Kn)(cs:List Cm)(alive:List Bool)(a:Int)(t u:Nat)(w:World)
 (hE:Hw w b lg base root ks cs alive)(yA:0<=lg/\lg<=6)(ht:t < 18446744073709551616)(hu:u < 18446744073709551616)(rG:∀k∈ks,k.place < 64/\u < k.holds.length):
 Calls Tryz.prog 70 #[.pointer (some ⟨b,0,none⟩),.int .i64 a,.int .u64 (t:Int),.int .u64 (u:Int)] w fun e w'=>e=.returned (.bool (Jz lg ks a t u))/\Qg w w':=by
 obtain⟨Ab,cb,Ar,cr,Ak,ck,Ac,cc,Aa,ca,d0,d1,d2,d3,d4,d5,xQ,_,_,uS,_,_⟩:=hE.cells;have HK:=Qq uS;have JZ:=uS.1;have zU:=uS.2.1;unfold maxLen at zU;have tG:=Qq rG;have D0:=Qq d0;clear hE uS rG d1 d2 d4 d5 d0;go_enter Tryz.func70,Tryz.ntmps70;go_wp2_with fail;clear d3;go_loopw [19] (fun v wr=>∃k:Nat,v=.int .i64 (k:Int)/\k<=ks.length/\Hid (Qg w wr/\∀j n,j < k->ks[j]?=some n->(n.agent !=a||Kd lg (t.testBit n.place) (n.holds.getD u false) (u.testBit n.place))=true)) (fun v _=>ks.length - (intOf v).toNat)
 case atStart=>exact⟨0,rfl,Nat.zero_le _,Qq ⟨Qz,fun j n hj=>absurd hj (by omega)⟩⟩
 case round =>
  obtain⟨k,rfl,hk,zY⟩:=hrel;have HX:=Qq zY.out.1;have HJ:=Qq zY.out.2;clear zY;by_cases hlt2:k < ks.length
  ·have yT:(k:Int) < (ks.length:Int):=by omega
   obtain⟨n,hn⟩:∃n,ks[k]?=some n:=⟨_,Qv hlt2⟩;obtain⟨lZ,UJ⟩:=tG.out n (List.mem_of_getElem? hn);obtain⟨ad,rfl,zA,yL⟩:=Qz8 HK.out hn;obtain⟨vh,c0,c1,c2,rK⟩:=yL.ext HX.out (Qj zA);obtain⟨Ah,ch,rfl,rK⟩:=rK;have hhc:=rK.1;have YJ:=rK.2.1;unfold maxLen at YJ;obtain⟨ah,rfl,DM,yO⟩:=Xx rK UJ;have tN:(ad.add (k*3)).block < wr.heap.size:=by rw [Qt];exact Qy zA HX.out.size
   have NG:(ah.add u).block < wr.heap.size:=by rw [Qt];exact DM
   have MR:(u:Int) < (n.holds.length:Int):=by omega
   have sE:=yO;have dl0:=(HX.out.cell (p:=⟨b,0,none⟩) xQ).trans D0.out;have sG:b < wr.heap.size:=Qy xQ HX.out.size;have HN:=Qq hn;have yB:=Qq (show ∀c:Bool,(n.agent !=a||Kd lg (t.testBit n.place) (n.holds.getD u false) (u.testBit n.place))=c->c=true->∀j m,j < k+1->ks[j]?=some m->(m.agent !=a||Kd lg (t.testBit m.place) (m.holds.getD u false) (u.testBit m.place))=true from fun c hc ht j m hj hm=>by
    by_cases e:j < k
    ·exact HJ.out j m e hm
    have:j=k:=by omega
    subst this;rw [hn]at hm;injection hm with hm;rw [<-hm,hc,ht])
   have yV:=Bn t n.place ht;have xC:=Bn u n.place hu;obtain⟨ph,TM⟩:∃x,x=n.holds.getD u false:=⟨_,rfl⟩;obtain⟨p1,mB⟩:∃x,x=t.testBit n.place:=⟨_,rfl⟩;obtain⟨p2,uQ⟩:∃x,x=u.testBit n.place:=⟨_,rfl⟩;have GJ:=Qq (show(n.agent !=a||Kd lg (t.testBit n.place) (n.holds.getD u false) (u.testBit n.place))=(n.agent !=a||Kd lg p1 ph p2) by rw [TM,mB,uQ]);rw [<-TM]at yO;rw [<-mB]at yV;rw [<-uQ]at xC;clear hn yL rK sE TM mB uQ;obtain⟨wq,vE⟩:∃v,v=wr:=⟨_,rfl⟩;subst vE;cases vZ:n.agent !=a
   case true =>
    have kF:=Qq vZ;go_wp2_with fail;go_roundw
    case rel=>exact⟨k+1,by go_num,by omega,Qq ⟨HX.out.trans (Qz.alloc _),yB.out true (by rw [GJ.out,kF.out];rfl) rfl⟩⟩
    case measure=>simp [intOf];omega
   case false =>
    have kF:=Qq vZ;go_upto_region 5 with(fail);obtain⟨e0,e1,e2,eb⟩:=Qx2 (show(wq.alloc (.cells #[.int .i64 n.agent,.int .i64 (n.place:Int),.slice (some ah) n.holds.length ch] 136)).heap[wq.heap.size]?=some (.cells #[.int .i64 n.agent,.int .i64 (n.place:Int),.slice (some ah) n.holds.length ch] 136 (0,0))from heap_alloc_new _ _);refine wp_region_held_drew (S:=fun w'=>w'.cell? (⟨wq.heap.size,1,none⟩)=some (.int .i64 (n.place:Int))) (by kernel_rfl) (xc eb e1) (fun zZ=> ?_);refine tk 0 zZ ?_;refine tk 1 zZ ?_;refine tk 2 zZ ?_;refine tk 3 zZ ?_;refine tk 4 zZ ?_;refine tk 5 zZ ?_
    refine tk 6 zZ ?_;refine tk 7 zZ ?_;refine tk 8 zZ ?_;refine tk 9 zZ ?_;refine tk 10 zZ ?_;refine tk 11 zZ ?_;refine tk 12 zZ ?_;refine tk 13 zZ ?_;refine wpAnyH_done (by kernel_rfl) ?_ _;have yK:Qg wq (wq.alloc (.cells #[.int .i64 n.agent,.int .i64 (n.place:Int),.slice (some ah) n.holds.length ch] 136)).drew:=(Qz.alloc _).drew;obtain⟨W0,zB⟩:∃v,v=(wq.alloc (.cells #[.int .i64 n.agent,.int .i64 (n.place:Int),.slice (some ah) n.holds.length ch] 136)).drew:=⟨_,rfl⟩;have f2:W0.cell? ⟨wq.heap.size,2,none⟩=some (.slice (some ah) n.holds.length ch):=by rw [zB];exact e2
    have fb:wq.heap.size < W0.heap.size:=by rw [zB];exact eb
    rw [<-zB]at yK⊢;have f0:=(yK.cell (p:=⟨b,0,none⟩) sG).trans dl0;have fc:=(yK.cell (p:=ah.add u) NG).trans yO;have zL:=Qq yK;clear zB yK e0 e1 e2 eb yO dl0 yV xC c0 c1 c2;go_upto_block 2 with(fail);go_cut [13] (fun s13 wx=>s13=.bool (Kd lg p1 ph p2)/\wx=W0)
    case first =>
     have UT:lg=0\/lg=1\/lg=2\/lg=3\/lg=4\/lg=5\/lg=6:=by omega
     rcases UT with hl|hl|hl|hl|hl|hl|hl
     ·have qV:=Qq (show Kd lg p1 ph p2=_ from Qt5 (.inl hl));have t0:(lg==0)=true:=by rw [hl];rfl
      have t1:(lg==1)=false:=by rw [hl];rfl
      have t2:(lg==2)=false:=by rw [hl];rfl
      have t3:(lg==3)=false:=by rw [hl];rfl
      have t4:(lg==4)=false:=by rw [hl];rfl
      have t6:(lg==6)=false:=by rw [hl];rfl
      have t5:(lg==5)=false:=by rw [hl];rfl
      clear hl;cases p1 <;> cases ph <;> cases p2
      all_goals
       go_wp2_with fail;go_meet;exact⟨by rw [qV.out] <;> rfl,by first|rfl|trivial⟩
     ·have qV:=Qq (show Kd lg p1 ph p2=_ from Qt5 (.inr (.inl hl)));have t0:(lg==0)=false:=by rw [hl];rfl
      have t1:(lg==1)=true:=by rw [hl];rfl
      have t2:(lg==2)=false:=by rw [hl];rfl
      have t3:(lg==3)=false:=by rw [hl];rfl
      have t4:(lg==4)=false:=by rw [hl];rfl
      have t6:(lg==6)=false:=by rw [hl];rfl
      have t5:(lg==5)=false:=by rw [hl];rfl
      clear hl;cases p1 <;> cases ph <;> cases p2
      all_goals
       go_wp2_with fail;go_meet;exact⟨by rw [qV.out] <;> rfl,by first|rfl|trivial⟩
     ·have qV:=Qq (show Kd lg p1 ph p2=_ from Qt5 (.inr (.inr hl)));have t0:(lg==0)=false:=by rw [hl];rfl
      have t1:(lg==1)=false:=by rw [hl];rfl
      have t2:(lg==2)=true:=by rw [hl];rfl
      have t3:(lg==3)=false:=by rw [hl];rfl
      have t4:(lg==4)=false:=by rw [hl];rfl
      have t6:(lg==6)=false:=by rw [hl];rfl
      have t5:(lg==5)=false:=by rw [hl];rfl
      clear hl;cases p1 <;> cases ph <;> cases p2
      all_goals
       go_wp2_with fail;go_meet;exact⟨by rw [qV.out] <;> rfl,by first|rfl|trivial⟩
     ·have qV:=Qq (show Kd lg p1 ph p2=_ from Zy0 hl);have t0:(lg==0)=false:=by rw [hl];rfl
      have t1:(lg==1)=false:=by rw [hl];rfl
      have t2:(lg==2)=false:=by rw [hl];rfl
      have t3:(lg==3)=true:=by rw [hl];rfl
      have t4:(lg==4)=false:=by rw [hl];rfl
      have t6:(lg==6)=false:=by rw [hl];rfl
      have t5:(lg==5)=false:=by rw [hl];rfl
      clear hl;cases p1 <;> cases ph <;> cases p2
      all_goals
       go_wp2_with fail;go_meet;exact⟨by rw [qV.out] <;> rfl,by first|rfl|trivial⟩
     ·have qV:=Qq (show Kd lg p1 ph p2=_ from Zy1 hl);have t0:(lg==0)=false:=by rw [hl];rfl
      have t1:(lg==1)=false:=by rw [hl];rfl
      have t2:(lg==2)=false:=by rw [hl];rfl
      have t3:(lg==3)=false:=by rw [hl];rfl
      have t4:(lg==4)=true:=by rw [hl];rfl
      have t6:(lg==6)=false:=by rw [hl];rfl
      have t5:(lg==5)=false:=by rw [hl];rfl
      clear hl;cases p1 <;> cases ph <;> cases p2
      all_goals
       go_wp2_with fail;go_meet;exact⟨by rw [qV.out] <;> rfl,by first|rfl|trivial⟩
     ·have qV:=Qq (show Kd lg p1 ph p2=_ from Zy2 hl);have t0:(lg==0)=false:=by rw [hl];rfl
      have t1:(lg==1)=false:=by rw [hl];rfl
      have t2:(lg==2)=false:=by rw [hl];rfl
      have t3:(lg==3)=false:=by rw [hl];rfl
      have t4:(lg==4)=false:=by rw [hl];rfl
      have t6:(lg==6)=false:=by rw [hl];rfl
      have t5:(lg==5)=true:=by rw [hl];rfl
      clear hl;cases p1 <;> cases ph <;> cases p2
      all_goals
       go_wp2_with fail;go_meet;exact⟨by rw [qV.out] <;> rfl,by first|rfl|trivial⟩
     have qV:=Qq (show Kd lg p1 ph p2=_ from Zy3 hl);have t0:(lg==0)=false:=by rw [hl];rfl
     have t1:(lg==1)=false:=by rw [hl];rfl
     have t2:(lg==2)=false:=by rw [hl];rfl
     have t3:(lg==3)=false:=by rw [hl];rfl
     have t4:(lg==4)=false:=by rw [hl];rfl
     have t6:(lg==6)=true:=by rw [hl];rfl
     have t5:(lg==5)=false:=by rw [hl];rfl
     clear hl;cases p1 <;> cases ph <;> cases p2
     all_goals
      go_wp2_with fail;go_meet;exact⟨by rw [qV.out] <;> rfl,by first|rfl|trivial⟩
    case rest =>
     obtain⟨rfl,rfl⟩:=hcut;cases gM:Kd lg p1 ph p2
     case true =>
      have qV:=Qq gM;clear gM;go_wp2_with fail;go_roundw
      case rel=>exact⟨k+1,by go_num,by omega,Qq ⟨HX.out.trans zL.out,yB.out true (by rw [GJ.out,kF.out,qV.out];rfl) rfl⟩⟩
      case measure=>simp [intOf];omega
     case false =>
      have HE:=Qq (show Jz lg ks a t u=false from Zqn HN.out (by rw [GJ.out,kF.out,gM];rfl));clear gM;go_wp2_with fail;go_ret;exact⟨by rw [HE.out] <;> rfl,HX.out.trans zL.out⟩
  obtain rfl:ks.length=k:=by omega
  have HE:=Qq (show Jz lg ks a t u=true from Zqd (fun j n hj=>HJ.out j n hj));go_wp2_with fail;go_ret;exact⟨by rw [HE.out] <;> rfl,HX.out⟩
theorem Qgq {p:Nat->Bool} {m k:Nat}(hk:k < m)(h:p k=true)(hn:∀j,j < k->p j=false):(List.range m).find? p=some k:=by
 rw [List.find?_range_eq_some];exact⟨h,List.mem_range.2 hk,fun j hj=>by rw [hn j hj];rfl⟩
theorem Qea {lg:Int} {ks:List Kn} {al:List Bool} {a:Int} {t k:Nat} {wt:Nat->Bool}(hk:k < al.length)(h:Xe lg ks al a t wt k=true)(hn:∀j,j < k->Xe lg ks al a t wt j=false):Xa lg ks al a t wt=(k:Int):=by
 unfold Xa;rw [Qgq hk h hn]
theorem Qcw {lg:Int} {ks:List Kn} {al:List Bool} {a:Int} {t:Nat} {wt:Nat->Bool}(hn:∀j,j < al.length->Xe lg ks al a t wt j=false):Xa lg ks al a t wt= -1:=by
 unfold Xa;have:(List.range al.length).find? (Xe lg ks al a t wt)=none:=by
  rw [List.find?_eq_none];intro j hj;rw [hn j (List.mem_range.1 hj)];simp
 rw [this]
theorem Qv7(b:Nat)(lg:Int)(base:List (List Nd))(root:List Bool)(ks:List Kn)(cs:List Cm)(alive:List Bool)(a:Int)(t:Nat)(wanted:Nat->Bool)(g:Nat)(lb:Array Value)(eg:∀args w,(callFunc g args).run Tryz.prog w=.ok (.enter g args) w)(w:World)
 (hE:Hw w b lg base root ks cs alive)(yA:0<=lg/\lg<=6)(ht:t < 18446744073709551616)(_hm:alive.length<=4096)(rG:∀k∈ks,k.place < 64/\alive.length<=k.holds.length)
 (hw:∀(W:World) (u:Nat),u < alive.length->Qg w W->Calls Tryz.prog g (#[.int .i64 (u:Int)]++lb) W fun e w'=>e=.returned (.bool (wanted u))/\Qg W w'):
 Calls Tryz.prog 136 #[.pointer (some ⟨b,0,none⟩),.int .i64 a,.int .u64 (t:Int),.func (.func g) #[] lb] w fun e w'=>e=.returned (.int .i64 (Xa lg ks alive a t wanted))/\Qg w w':=by
 obtain⟨Ab,cb,Ar,cr,Ak,ck,Ac,cc,Aa,ca,d0,d1,d2,d3,d4,d5,xQ,_,_,uS,_,vS⟩:=hE.cells;have HE:=Qq hE;have HA:=Qq vS;have SD:=vS.1;have qP:=vS.2.1;unfold maxLen at qP;have tG:=Qq rG;have HW:=Qq hw;clear hE vS uS rG hw d0 d1 d2 d3 d4;go_enter Tryz.func136,Tryz.ntmps136;go_wp2_with fail;clear d5;go_loopw [16] (fun v wr=>∃k:Nat,v=.int .i64 (k:Int)/\k<=alive.length/\Hid (Qg w wr/\∀j,j < k->Xe lg ks alive a t wanted j=false)) (fun v _=>alive.length - (intOf v).toNat)
 case atStart=>exact⟨0,rfl,Nat.zero_le _,Qq ⟨Qz,fun j hj=>absurd hj (by omega)⟩⟩
 case round =>
  obtain⟨k,rfl,hk,zY⟩:=hrel;have HX:=Qq zY.out.1;have HJ:=Qq zY.out.2;clear zY;by_cases hlt2:k < alive.length
  ·have yT:(k:Int) < (alive.length:Int):=by omega
   obtain⟨ad,rfl,yV,a0⟩:=Xx (HA.out.ext HX.out) hlt2;have yB:=Qq (show Xe lg ks alive a t wanted k=false->∀j,j < k+1->Xe lg ks alive a t wanted j=false from fun h j hj=>by
    by_cases e:j < k
    ·exact HJ.out j e
    have:j=k:=by omega
    subst this;exact h)
   have HP:=Qq (show Xe lg ks alive a t wanted k=(alive.getD k false&&(wanted k&&Jz lg ks a t k))from rfl);have nO:=Qq (fun W hW=>HW.out W k hlt2 hW);have jV:=Qq (fun W (hW:Qg w W)=>Li b lg base root ks cs alive a t k W (HE.out.ext hW) yA ht (by omega) (fun n hn=>⟨(tG.out n hn).1,Qy hlt2 (tG.out n hn).2⟩));obtain⟨wk,pG⟩:∃x,x=wanted k:=⟨_,rfl⟩;obtain⟨pk,dO⟩:∃x,x=Jz lg ks a t k:=⟨_,rfl⟩;obtain⟨ak,qR⟩:∃x,x=alive.getD k false:=⟨_,rfl⟩;rw [<-pG,<-dO,<-qR]at HP;rw [<-pG]at nO;rw [<-dO]at jV;rw [<-qR]at a0;clear pG dO qR;cases ak
   ·go_wp2_with fail;go_roundw
    case rel=>exact⟨k+1,by go_num,by omega,Qq ⟨HX.out,yB.out (by rw [HP.out];rfl)⟩⟩
    case measure=>simp [intOf];omega
   cases wk
   ·go_wp2_with fail;refine(nO.out _ HX.out).mono ?_;rintro e w2 ⟨rfl,hx⟩;have zS:=Qq hx;clear hx;go_wp2_with fail;go_roundw
    case rel=>exact⟨k+1,by go_num,by omega,Qq ⟨HX.out.trans zS.out,yB.out (by rw [HP.out];rfl)⟩⟩
    case measure=>simp [intOf];omega
   go_wp2_with fail;refine(nO.out _ HX.out).mono ?_;rintro e w2 ⟨rfl,hx⟩;have zS:=Qq hx;clear hx;go_wp2_with fail;refine(jV.out _ (HX.out.trans zS.out)).mono ?_;rintro e w3 ⟨rfl,hx⟩;have zD:=Qq hx;clear hx;cases pk
   ·go_wp2_with fail;go_roundw
    case rel=>exact⟨k+1,by go_num,by omega,Qq ⟨HX.out.trans (zS.out.trans zD.out),yB.out (by rw [HP.out];rfl)⟩⟩
    case measure=>simp [intOf];omega
   have HR:=Qq (Qea hlt2 (by rw [HP.out];rfl) HJ.out);go_wp2_with fail;go_ret;exact⟨by rw [HR.out] <;> rfl,HX.out.trans (zS.out.trans zD.out)⟩
  obtain rfl:alive.length=k:=by omega
  have HR:=Qq (Qcw HJ.out);go_wp2_with fail;go_ret;exact⟨by rw [HR.out] <;> rfl,HX.out⟩
def Yj(m:Nat):Nat:=if m=0 then 0 else m.log2+1
theorem Qi1:∀x:Fin 256,Lib.len8 (x.val:Int)=(Yj x.val:Int):=by decide+kernel
theorem Qi0(y:Int)(h:y.toNat < Lib.len8tab.size):((Lib.len8tab[y.toNat]'h).toNat:Int)=Lib.len8 y:=by
 unfold Lib.len8;rw [getElem?_pos Lib.len8tab y.toNat h];rfl
theorem Qh9(a:Int)(h0:0<=a)(h1:a<=8):RowKit.wrap64 (RowKit.wrap64 a)=a:=by
 unfold RowKit.wrap64;omega
theorem Qcb(x z:Int)(h0:0<=x)(h1:x < 256)(hz:Hid (Lib.len8 x=z/\0<=z/\z<=8))(w:World):Calls Tryz.prog 141 #[.int .u64 x] w fun e w'=>e=.returned (.int .i64 z)/\w'=w:=by
 go_enter Tryz.func141,Tryz.ntmps141;go_wp2;go_ret;exact⟨by rw [Qi0,hz.out.1,Qh9 _ hz.out.2.1 hz.out.2.2] <;> rfl,rfl⟩
theorem Qcd {x:Nat}(hx:x < 256):Yj x<=8:=by
 unfold Yj
 split
 ·omega
 rename_i h0;have:=(Nat.log2_lt h0).2 (show x < 2^8 from hx);omega
theorem Qcf(x:Nat)(hx:x < 256)(w:World):Calls Tryz.prog 141 #[.int .u64 (x:Int)] w fun e w'=>e=.returned (.int .i64 (Yj x:Int))/\w'=w :=
 Qcb (x:Int) _ (by omega) (by omega) (Qq ⟨Qi1 ⟨x,hx⟩,by omega,by have:=Qcd hx;show(Yj x:Int)<=8;omega⟩) w
theorem Qyd(x:Nat)(hx:x < 256)(w:World):Calls Tryz.prog 65 #[.int .u64 (x:Int)] w fun e w'=>e=.returned (.int .i64 (Yj x:Int))/\w'=w:=by
 go_enter Tryz.func65,Tryz.ntmps65;go_wp2_with fail;refine(Qcf x hx _).mono ?_;rintro e w1 ⟨rfl,rfl⟩;go_wp2_with fail;go_ret;exact⟨rfl,rfl⟩
end Go.Proofs.YtkmclcmnoicagaaGreatDoor
