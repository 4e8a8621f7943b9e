/- The expansion of a formula is that of its tree. -/
import Derived.Test.YtkmclcmnoicagaaGreatDoorM01
import Derived.Test.YtkmclcmnoicagaaGreatDoorM19
import Derived.Test.YtkmclcmnoicagaaGreatDoorM07
import Derived.Test.YtkmclcmnoicagaaGreatDoorM17
import Derived.Deep.MidRow
namespace Go.Proofs.YtkmclcmnoicagaaGreatDoor
set_option maxRecDepth 100000
set_option maxHeartbeats 128000000
theorem Qtq {α:Type} {l:List α} {k:Nat} {a:α}(h:l[k]?=some a):l.take (k+1)=l.take k++ [a]:=by
 obtain⟨hk,e⟩:=List.getElem?_eq_some_iff.1 h;rw [List.take_succ_eq_append_getElem hk,e]
theorem Fc {l:List Nd} {k:Nat} {n:Nd}(hn:l[k]?=some n) {d d':List (List Nd)}(h:Gx (l.take k) d=some d'):
 Gx (l.take (k+1)) d=bif decide ((Jd n (d'.getD n.x.toNat []) (d'.getD n.y.toNat [])).length=0)then none else some (d'++ [Jd n (d'.getD n.x.toNat []) (d'.getD n.y.toNat [])]):=by
 have key:∀(a b:List Nd) (d d':List (List Nd)),Gx a d=some d'->Gx (a++b) d=Gx b d':=by
  intro a
  induction a with
  |nil=>intro b d d' h;injection h with h;subst h;rfl
  |cons x r ih =>
   intro b d d' h;simp only [Gx,List.cons_append]at h⊢;cases hz:decide ((Jd x (d.getD x.x.toNat []) (d.getD x.y.toNat [])).length=0)
   ·rw [hz]at h;exact ih b _ _ h
   rw [hz]at h;cases h
 rw [Qtq hn,key _ _ _ _ h];simp only [Gx]
theorem Mb {l:List Nd} {k:Nat} {d:List (List Nd)}(h:Gx (l.take k) d=none):Gx l d=none:=by
 have key:∀(a b:List Nd) (d:List (List Nd)),Gx a d=none->Gx (a++b) d=none:=by
  intro a
  induction a with
  |nil=>intro b d h;cases h
  |cons x r ih =>
   intro b d h;simp only [Gx,List.cons_append]at h⊢;cases hz:decide ((Jd x (d.getD x.x.toNat []) (d.getD x.y.toNat [])).length=0)
   ·rw [hz]at h;exact ih b _ h
   rfl
 have:=key _ (l.drop k) d h
 rwa [List.take_append_drop]at this
theorem Qr2 {n:Nd} {a a' b b':List Nd}(hx:Qe n.op=true->a=a')(hy:Qh n.op=true->b=b')(ho:Po n.op):Jd n a b=Jd n a' b':=by
 have hop:n.op=1\/n.op=2\/n.op=3\/n.op=4\/n.op=5\/n.op=6\/n.op=7\/n.op=8\/n.op=9\/n.op=10\/n.op=11\/n.op=13:=by unfold Po at ho;omega
 unfold Jd;rcases hop with h|h|h|h|h|h|h|h|h|h|h|h
 ·simp [h]
 ·simp [h]
 ·simp [h]
 ·rw [hx (by rw [h];rfl)];simp [h]
 ·rw [hx (by rw [h];rfl),hy (by rw [h];rfl)]
 ·rw [hx (by rw [h];rfl),hy (by rw [h];rfl)]
 ·rw [hx (by rw [h];rfl),hy (by rw [h];rfl)]
 ·rw [hx (by rw [h];rfl),hy (by rw [h];rfl)]
 ·rw [hx (by rw [h];rfl)];simp [h]
 ·rw [hx (by rw [h];rfl)];simp [h]
 ·rw [hx (by rw [h];rfl)];simp [h]
 rw [hx (by rw [h];rfl),hy (by rw [h];rfl)]
theorem Qd8:∀(r:List Tr) (t:Tr),t.all Tz->(∀u∈r,u.all Tz)->(My t r).all Tz
 |[],_,ht,_=>ht
 |u :: r,t,ht,hr=>Qd8 r _ ⟨.inl ⟨by decide,by decide⟩,ht,hr u (List.mem_cons_self ..)⟩ (fun v hv=>hr v (List.mem_cons_of_mem _ hv))
theorem Qo9:∀(l:List Tr),(∀u∈l,u.all Tz)->(Le l).all Tz
 |[],_=> .inl ⟨by decide,by decide⟩
 |t :: r,h=>Qd8 r t (h t (List.mem_cons_self ..)) (fun v hv=>h v (List.mem_cons_of_mem _ hv))
theorem Qeg {n:Nd} {a b:Tr}(ho:Po n.op)(ha:Qe n.op=true->a.all Tz)(hb:Qh n.op=true->b.all Tz):(Dz n a b).all Tz:=by
 unfold Dz;by_cases h10:n.op=10
 ·rw [if_pos h10];have h:=ha (by rw [h10];rfl);exact⟨.inl ⟨by decide,by decide⟩,.inl ⟨show(1:Int)<=9 by decide,show(9:Int)<=9 by decide⟩,.inl ⟨by decide,by decide⟩,h⟩
 rw [if_neg h10];by_cases h11:n.op=11
 ·rw [if_pos h11];have h:=ha (by rw [h11];rfl);refine Qo9 _ fun u hu=> ?_
  obtain⟨i,_,rfl⟩:=List.mem_map.1 hu;exact⟨.inl ⟨show(1:Int)<=9 by decide,show(9:Int)<=9 by decide⟩,h⟩
 rw [if_neg h11];have hn:Tz n:=by unfold Po at ho;unfold Tz;omega
 unfold Yh;cases h2:Qh n.op
 ·cases h1:Qe n.op
  ·exact hn
  exact⟨hn,ha h1⟩
 exact⟨hn,ha (Vs h2),hb h2⟩
theorem Qvq {α:Type}(g:Nat->α)(d:α) {k j:Nat}(h:j < k):((List.range k).map g).getD j d=g j:=by
 rw [Qk,List.getElem?_map,List.getElem?_range h];rfl
theorem Qzw {c:List Nd}(hw:Wf c)(hh:∀n∈c,Zp n)(hl:∀n∈c,Po n.op):∀(k:Nat) (d:List (List Nd)),k<=c.length->Gx (c.take k) []=some d->
 d=(List.range k).map (fun j=>Qn (Vn (tr c j)))/\∀j,j < k->Xf (Vn (tr c j))
 |0,d,_,h=>by
  injection h with h;exact⟨h.symm,fun j hj=>absurd hj (by omega)⟩
 |k+1,d,hk,h=>by
  obtain⟨n,hn⟩:∃n,c[k]?=some n:=⟨_,List.getElem?_eq_getElem (by omega)⟩;cases hd:Gx (c.take k) []with
  |none =>
   have hp:c.take k=(c.take (k+1)).take k:=by rw [List.take_take];congr 1;omega
   rw [hp]at hd;rw [Mb hd]at h;cases h
  |some d' =>
   obtain⟨e1,e2⟩:=Qzw hw hh hl k d' (by omega) hd;rw [Fc hn hd]at h;have hm:=List.mem_of_getElem? hn;obtain⟨hx,hy⟩:=hw k n hn;have gx:Qe n.op=true->d'.getD n.x.toNat []=Zh (Vn (tr c n.x.toNat)):=fun h1=>by
    have:=hx h1;rw [e1,Qvq (fun j=>Qn (Vn (tr c j))) [] (by omega),(e2 _ (by omega)).short]
   have gy:Qh n.op=true->d'.getD n.y.toNat []=Zh (Vn (tr c n.y.toNat)):=fun h1=>by
    have:=hy h1;rw [e1,Qvq (fun j=>Qn (Vn (tr c j))) [] (by omega),(e2 _ (by omega)).short]
   have hE:=Qr3 (a:=Vn (tr c n.x.toNat)) (b:=Vn (tr c n.y.toNat)) (hh n hm) (hl n hm) (fun h1=>by have:=hx h1;exact(e2 _ (by omega)).xp.1) (fun h1=>by have:=hy h1;exact(e2 _ (by omega)).xp.1);have hX:=Qeg (a:=Vn (tr c n.x.toNat)) (b:=Vn (tr c n.y.toNat)) (hl n hm) (fun h1=>by have:=hx h1;exact(e2 _ (by omega)).xp.2) (fun h1=>by have:=hy h1;exact(e2 _ (by omega)).xp.2);have ht:Dz n (Vn (tr c n.x.toNat)) (Vn (tr c n.y.toNat))=Vn (tr c k):=by rw [Xv hw hn,Qef]
   rw [Qr2 gx gy (hl n hm),hE.1,ht]at h;rw [ht]at hE hX;cases hz:decide ((Zh (Vn (tr c k))).length=0)
   ·rw [hz]at h;injection h with h;have hlen:(Qn (Vn (tr c k))).length<=200:=by
     by_cases e:(Qn (Vn (tr c k))).length<=200
     ·exact e
     have:=of_decide_eq_false hz;rw [Kp (by omega)]at this;exact absurd rfl this
    rw [Xn hlen,e1]at h;refine⟨?_,fun j hj=> ?_⟩
    ·rw [<-h,List.range_succ,List.map_append];rfl
    by_cases e:j < k
    ·exact e2 j e
    have:j=k:=by omega
    subst this;exact⟨⟨hE.2,hX⟩,hlen⟩
   rw [hz]at h;cases h
theorem Ql9 {l:List Nd}(h:Xg l&&&500=0):∀n∈l,(Vr n.op).toNat&&&500=0:=by
 have key:∀(l:List Nd) (m:Nat),(l.foldl (fun m n=>m|||(Vr n.op).toNat) m)&&&500=0->m&&&500=0/\∀n∈l,(Vr n.op).toNat&&&500=0:=by
  intro l
  induction l with
  |nil=>intro m h;exact⟨h,fun n hn=>by cases hn⟩
  |cons a r ih =>
   intro m h;obtain⟨h1,h2⟩:=ih _ h;rw [Nat.and_or_distrib_right]at h1;have l1:m&&&500<=m&&&500|||(Vr a.op).toNat&&&500:=Nat.left_le_or;have l2:(Vr a.op).toNat&&&500<=m&&&500|||(Vr a.op).toNat&&&500:=Nat.right_le_or;refine⟨by omega,fun n hn=> ?_⟩;rcases List.mem_cons.1 hn with rfl|hn
   ·omega
   exact h2 n hn
 exact(key l 0 h).2
theorem Pp {f:List Nd}(hc:check f=0)(hl:Up f=false):∀n∈Qg f,Po n.op:=by
 intro n hn;unfold Up Yn at hl;have hb:=Ql9 (by simpa using hl) n hn;have ho:=(Tf n.op).1 ((Jw hc).2.2.2 n hn).1;have:n.op=1\/n.op=2\/n.op=3\/n.op=4\/n.op=5\/n.op=6\/n.op=7\/n.op=8\/n.op=9\/n.op=10\/n.op=11\/n.op=12\/n.op=13\/n.op=14\/n.op=15\/n.op=16\/n.op=17\/n.op=18\/n.op=19\/n.op=20\/n.op=21:=by omega
 unfold Po;rcases this with h|h|h|h|h|h|h|h|h|h|h|h|h|h|h|h|h|h|h|h|h <;> first|omega|(rw [h]at hb;exact absurd hb (by decide))
theorem Qzo {f:List Nd}(hc:check f=0)(hl:Up f=false)(hne:(Jg f).length≠0):Xf (Vn (Qp f))/\Jg f=Qn (Vn (Qp f)):=by
 obtain⟨hw,_,hp,hh⟩:=Jw hc;unfold Jg at hne⊢;cases hd:Gx (Qg f) []with
 |none=>rw [hd]at hne;exact absurd rfl hne
 |some d =>
  have h:=Qzw hw hh (Pp hc hl) (Qg f).length d (Nat.le_refl _) (by rw [List.take_of_length_le (Nat.le_refl _)];exact hd);obtain⟨e1,e2⟩:=h;have et:tr (Qg f) ((Qg f).length - 1)=Qp f:=Xr hc;have hx:=e2 ((Qg f).length - 1) (by omega);rw [et]at hx;refine⟨hx,?_⟩;show d.getLastD []=_;obtain⟨m,hm⟩:∃m,(Qg f).length=m+1:=⟨(Qg f).length - 1,by omega⟩;rw [e1,hm,List.range_succ,List.map_append];rw [hm]at et;simp only [List.map_cons,List.map_nil,List.getLastD_concat];rw [<-et];rfl
theorem Ps {lg:Int} {ks:List Kn} {al:List Bool} {a:Int} {t:Nat} {wt:Nat->Bool} :Xz lg ks al a t wt < 0↔∀u,u < al.length->Xj lg ks al a t wt u=false:=by
 unfold Xz;cases h:(List.range al.length).find? (Xj lg ks al a t wt)with
 |none =>
  rw [List.find?_eq_none]at h;refine⟨fun _ u hu=> ?_,fun _=>by decide⟩;have:=h u (List.mem_range.2 hu)
  simpa using this
 |some k =>
  obtain⟨h1,h2,_⟩:=List.find?_range_eq_some.1 h;refine⟨fun hn=> ?_,fun hn=> ?_⟩
  ·simp only at hn;omega
  rw [hn k (List.mem_range.1 h2)]at h1;cases h1
theorem Kh {al:List Bool} {t:Nat}(h:al.getD t false=true):t < al.length:=by
 by_cases e:t < al.length
 ·exact e
 rw [Qk,List.getElem?_eq_none (by omega)]at h;cases h
theorem Ph {lg:Int} {ks:List Kn} {al:List Bool} {c:Cm} {t:Nat} :Ms lg ks al c t=true↔∃u,Rch (fun a b=>Lv lg ks al c a b=true) t u/\c.y.getD u false=false:=by
 simp [Ms]
theorem Pr {l:List (List Nd)} {M:KM} {w:M.W} {t:Nat}(h:∀s∈l.map Qp,th l t s=thW M w s) {f:Tr}(hc:cov (l.map Qp) f)(hl:lang f):ev (th l t) f=ev (thW M w) f:=by
 rw [Bool.eq_iff_iff,evW w hc hl];exact Iq (fun s hs=>by rw [h s hs];exact Ug) f hc hl
theorem Qms(p:Nat->Bool):∀n:Nat,∃t,t < 2^n/\∀i,i < n->t.testBit i=p i
 |0=>⟨0,by simp,fun i h=>absurd h (by omega)⟩
 |n+1=>by
  obtain⟨t,h1,h2⟩:=Qms p n;cases hp:p n
  ·refine⟨t,by rw [Nat.pow_succ];omega,fun i hi=> ?_⟩;by_cases e:i < n
   ·exact h2 i e
   have:i=n:=by omega
   subst this;rw [hp,Nat.testBit_lt_two_pow h1]
  refine⟨t|||2^n,Nat.or_lt_two_pow (by rw [Nat.pow_succ];omega) (by rw [Nat.pow_succ];have:=Nat.two_pow_pos n;omega),fun i hi=> ?_⟩;rw [Nat.testBit_or,Nat.testBit_two_pow];by_cases e:i < n
  ·rw [h2 i e];have:¬n=i:=by omega
   simp [this]
  have:i=n:=by omega
  subst this;simp [hp]
section
variable {l:List (List Nd)} {t0:Tr} (hB:Ri l t0) {lg:Int}
include hB
theorem Qnp {i:Nat} {n:Nd} {a:Tr}(hm:.one n a∈l.map Qp)(hg:l[i]?=some (Qn (.one n a))):(Zb l).find? (fun k=>(k.place:Int)==(i:Int))=some ⟨n.i,i,Ya l (Qn a)⟩:=by
 cases h:(Zb l).find? (fun k=>(k.place:Int)==(i:Int))with
 |none =>
  rw [List.find?_eq_none]at h;have:=h _ ((Xi hB).2 ⟨i,n,a,hm,hg,rfl⟩);simp at this
 |some k =>
  obtain⟨j,n',a',hm',hg',rfl⟩:=(Xi hB).1 (List.mem_of_find?_eq_some h);have hp:=List.find?_some h;have hij:j=i:=by
   have h0:(j:Int)=(i:Int):=by simpa using hp
   omega
  subst hij;rw [hg]at hg';injection hg' with hg';have:=((Yw hB.can).1 hm).1.inj ((Yw hB.can).1 hm').1 hg';injection this with e1 e2;rw [e1,e2]
theorem Qnc {i:Nat} {n:Nd} {a b:Tr}(hm:.two n a b∈l.map Qp)(hg:l[i]?=some (Qn (.two n a b))):(Zb l).find? (fun k=>(k.place:Int)==(i:Int))=none:=by
 rw [List.find?_eq_none];intro k hk;obtain⟨j,n',a',hm',hg',rfl⟩:=(Xi hB).1 hk;intro hp;have hij:j=i:=by
  have h0:(j:Int)=(i:Int):=by simpa using hp
  omega
 subst hij;rw [hg]at hg';injection hg' with hg';have:=((Yw hB.can).1 hm).1.inj ((Yw hB.can).1 hm').1 hg';cases this
theorem Qnk {i:Nat} {n:Nd} {a b:Tr}(hm:.two n a b∈l.map Qp)(hg:l[i]?=some (Qn (.two n a b))):(Jf l).find? (fun k=>(k.place:Int)==(i:Int))=some ⟨i,n.g,Ya l (Qn a),Ya l (Qn b),Ds l (Qn (.two n a b))⟩:=by
 cases h:(Jf l).find? (fun k=>(k.place:Int)==(i:Int))with
 |none =>
  rw [List.find?_eq_none]at h;have:=h _ ((Bi hB).2 ⟨i,n,a,b,hm,hg,rfl⟩);simp at this
 |some k =>
  obtain⟨j,n',a',b',hm',hg',rfl⟩:=(Bi hB).1 (List.mem_of_find?_eq_some h);have hp:=List.find?_some h;have hij:j=i:=by
   have h0:(j:Int)=(i:Int):=by simpa using hp
   omega
  subst hij;rw [hg]at hg';injection hg' with hg';have:=((Yw hB.can).1 hm).1.inj ((Yw hB.can).1 hm').1 hg';injection this with e1 e2 e3;rw [e1,e2,e3]
theorem Qyf {al:List Bool}(hl:al.length=2^l.length) {i:Nat} {n:Nd} {a b:Tr}(hm:.two n a b∈l.map Qp)(t u:Nat):
 Lv lg (Zb l) al ⟨i,n.g,Ya l (Qn a),Ya l (Qn b),Ds l (Qn (.two n a b))⟩ t u=true↔Mp lg (l.map Qp) (fun t=>al.getD t false=true) (th l) n.g a t u:=by
 unfold Lv Mp;simp only [Bool.and_eq_true,List.any_eq_true,List.mem_range];constructor
 ·rintro⟨h1,h2,i,h3,h4,h5⟩;have hu:u < 2^l.length:=hl▸Kh h1;exact⟨h1,by rw [<-(Oe hB hm hu).1];exact h2,i,h3,h4,(Ui hB hu).1 h5⟩
 rintro⟨h1,h2,i,h3,h4,h5⟩;have hu:u < 2^l.length:=hl▸Kh h1;exact⟨h1,by rw [(Oe hB hm hu).1];exact h2,i,h3,h4,(Ui hB hu).2 h5⟩
theorem Qen {al:List Bool}(hl:al.length=2^l.length)(hc:∀t,al.getD t false=true->Ye lg (Zb l) (Jf l) t=true)
 (hw:∀t,al.getD t false=true->∀i:Int,-4<=i->i < l.length->Vj lg (Zb l) (Jf l) al t i=false):Hx lg (l.map Qp) (fun t=>al.getD t false=true) (th l) where
 coh t ht:=(Qv5 hB (hl▸Kh ht)).1 (hc t ht)
 ser hs t ht i ho:=by
  obtain⟨n,a,hm,hi⟩:=ho;obtain⟨j,hg,_,_⟩:=Fg hB hm;obtain⟨_,_,_,h0,h4⟩:=hB.closed.know n a hm;have h:=hw t ht (-1 - i) (by omega) (by omega);unfold Vj at h;rw [decide_eq_true (show -1 - i < 0 by omega),cond_true]at h;have hlg:(lg==1||lg==5)=true:=by rcases hs with e|e <;> rw [e] <;> rfl
  have hany:(Zb l).any (fun k=>k.agent== -1 - (-1 - i))=true:=by
   rw [List.any_eq_true];exact⟨_,(Xi hB).2 ⟨j,n,a,hm,hg,rfl⟩,by simp;omega⟩
  rw [hlg,hany,Bool.true_and,Bool.true_and,decide_eq_false_iff_not,Ps]at h;obtain⟨u,hu⟩:=Classical.not_forall.1 h;obtain⟨hul,hp⟩:=Classical.not_imp.1 hu;have hp:Xj lg (Zb l) al (-1 - (-1 - i)) t (fun _=>true) u=true:=by simpa using hp
  unfold Xj at hp;rw [Bool.and_eq_true,Bool.true_and,show -1 - (-1 - i)=i by omega]at hp;exact⟨u,hp.1,(Ui hB (by omega)).1 hp.2⟩
 know t ht n a hm hf:=by
  obtain⟨j,hg,hj,hth⟩:=Fg hB hm;have h:=hw t ht (j:Int) (by omega) (by omega);unfold Vj at h;rw [decide_eq_false (show ¬(j:Int) < 0 by omega),cond_false,Qnp hB hm hg]at h;simp only [Int.toNat_natCast]at h;rw [<-hth,hf,Bool.not_false,Bool.true_and,decide_eq_false_iff_not,Ps]at h;obtain⟨u,hu⟩:=Classical.not_forall.1 h;obtain⟨hul,hp⟩:=Classical.not_imp.1 hu;have hp:Xj lg (Zb l) al n.i t (fun u=> !(Ya l (Qn a)).getD u false) u=true:=by simpa using hp
  unfold Xj at hp;rw [Bool.and_eq_true,Bool.and_eq_true]at hp;have hp2:(!(Ya l (Qn a)).getD u false)=true:=hp.2.1;rw [Tg hB hm (by omega)]at hp2;exact⟨u,hp.1,by simpa using hp2,(Ui hB (by omega)).1 hp.2.2⟩
 com t ht n a b hm hf:=by
  obtain⟨j,hg,hj,hth⟩:=Fg hB hm;have h:=hw t ht (j:Int) (by omega) (by omega);unfold Vj at h;rw [decide_eq_false (show ¬(j:Int) < 0 by omega),cond_false,Qnc hB hm hg,Qnk hB hm hg]at h;simp only [Int.toNat_natCast]at h;rw [<-hth,hf,Bool.not_false,Bool.true_and]at h;have h:Ms lg (Zb l) al ⟨j,n.g,Ya l (Qn a),Ya l (Qn b),Ds l (Qn (.two n a b))⟩ t=true:=by simpa using h
  rw [Ph]at h;obtain⟨u,hr,hy⟩:=h;have hr':=hr.mono (fun x y hxy=>(Qyf hB hl hm x y).1 hxy);have hul:al.getD u false=true:=by
   have key:∀x y,Rch (Mp lg (l.map Qp) (fun t=>al.getD t false=true) (th l) n.g a) x y->al.getD y false=true:=by
    intro x y hxy
    induction hxy with
    |one h=>exact h.1
    |cons _ _ ih=>exact ih
   exact key t u hr'
  exact⟨u,hr',by rw [<-(Oe hB hm (hl▸Kh hul)).2];exact hy⟩
theorem Wa {M:KM} {w v:M.W} {t u:Nat}(ht:∀s∈l.map Qp,th l t s=thW M w s)(hu:∀s∈l.map Qp,th l u s=thW M v s) {i:Int}(h:Se lg (l.map Qp) i (thW M w) (thW M v)):Se lg (l.map Qp) i (th l t) (th l u):=by
 intro n a hm hi;obtain⟨_,hc,hla,_,_⟩:=hB.closed.know n a hm;rw [ht _ hm,hu _ hm,Pr hu hc hla];exact h n a hm hi
theorem Ia {M:KM}(w:M.W):∃t,t < 2^l.length/\∀s∈l.map Qp,th l t s=thW M w s:=by
 obtain⟨t,h1,h2⟩:=Qms (fun i=>thW M w (Qp (l.getD i []))) l.length;refine⟨t,h1,fun s hs=> ?_⟩;obtain⟨i,hg,hi,hth⟩:=Fg hB hs;rw [hth,h2 i hi,Qk,hg,Option.getD_some,((Yw hB.can).1 hs).1.tree]
def Qqr(l:List (List Nd))(M:KM)(al:List Bool):Prop:=∀(t:Nat) (w:M.W),t < 2^l.length->(∀s∈l.map Qp,th l t s=thW M w s)->al.getD t false=true
theorem Qd4 {M:KM}(hM:M.In lg)(hlg:lg<=6) {al:List Bool}(hl:al.length=2^l.length)(hS:Qqr l M al) {t:Nat} {w:M.W}(ht:t < 2^l.length)(hw:∀s∈l.map Qp,th l t s=thW M w s)(i:Int):Vj lg (Zb l) (Jf l) al t i=false:=by
 have hF:=Qtx hB.closed hM hlg;unfold Vj;by_cases hi:i < 0
 ·rw [decide_eq_true hi,cond_true];cases hlg2:(lg==1||lg==5)
  ·rfl
  rw [Bool.true_and];have hs:lg=1\/lg=5:=by simpa using hlg2
  cases hany:(Zb l).any (fun k=>k.agent== -1 - i)
  ·rfl
  rw [Bool.true_and,decide_eq_false_iff_not,Ps];intro hno;rw [List.any_eq_true]at hany;obtain⟨k,hk,he⟩:=hany;obtain⟨j,n,a,hm,hg,rfl⟩:=(Xi hB).1 hk;have he:n.i= -1 - i:=by simpa using he
  obtain⟨v,_,hp⟩:=hF.ser hs w trivial (-1 - i) ⟨n,a,hm,he⟩;obtain⟨u,hu,huv⟩:=Ia hB v;have:=hno u (by omega);unfold Xj at this;rw [hS u v hu huv,(Ui hB hu).2 (Wa hB hw huv hp)]at this;cases this
 rw [decide_eq_false hi,cond_false];obtain⟨j,rfl⟩:=Int.eq_ofNat_of_zero_le (show 0<=i by omega);cases hf:(Zb l).find? (fun k=>(k.place:Int)==(j:Int))with
 |some k =>
  obtain⟨j',n,a,hm,hg,rfl⟩:=(Xi hB).1 (List.mem_of_find?_eq_some hf);have hij:j'=j:=by
   have h0:(j':Int)=(j:Int):=by simpa using List.find?_some hf
   omega
  subst hij;obtain⟨j2,hg2,_,hth⟩:=Fg hB hm;have hij:j2=j':=by
   have e1:=Xb hB.nodup hg;have e2:=Xb hB.nodup hg2;omega
  subst hij;simp only [Int.toNat_natCast];rw [<-hth];cases hv:th l t (.one n a)
  ·rw [Bool.not_false,Bool.true_and,decide_eq_false_iff_not,Ps];intro hno;obtain⟨v,_,he,hp⟩:=hF.know w trivial n a hm (by rw [<-hw _ hm];exact hv);obtain⟨u,hu,huv⟩:=Ia hB v;have:=hno u (by omega);obtain⟨_,hc,hla,_,_⟩:=hB.closed.know n a hm;unfold Xj at this;simp only at this;rw [hS u v hu huv,(Ui hB hu).2 (Wa hB hw huv hp),Tg hB hm hu,Pr huv hc hla,he]at this;cases this
  rfl
 |none =>
  simp only;cases hf2:(Jf l).find? (fun c=>(c.place:Int)==(j:Int))with
  |none=>rfl
  |some k =>
   obtain⟨j',n,a,b,hm,hg,rfl⟩:=(Bi hB).1 (List.mem_of_find?_eq_some hf2);have hij:j'=j:=by
    have h0:(j':Int)=(j:Int):=by simpa using List.find?_some hf2
    omega
   subst hij;obtain⟨j2,hg2,_,hth⟩:=Fg hB hm;have hij:j2=j':=by
    have e1:=Xb hB.nodup hg;have e2:=Xb hB.nodup hg2;omega
   subst hij;simp only [Int.toNat_natCast];rw [<-hth];cases hv:th l t (.two n a b)
   ·rw [Bool.not_false,Bool.true_and,Bool.not_eq_false'];rw [Ph];obtain⟨v,hr,he⟩:=hF.com w trivial n a b hm (by rw [<-hw _ hm];exact hv);obtain⟨_,hca,hcb,hla,hlb,_⟩:=hB.closed.com n a b hm
    have lift:∀(x y:M.W),Rch (Mp lg (l.map Qp) (fun _=>True) (thW M) n.g a) x y->∀t,t < 2^l.length->(∀s∈l.map Qp,th l t s=thW M x s)->
     ∃u,u < 2^l.length/\(∀s∈l.map Qp,th l u s=thW M y s)/\Rch (Mp lg (l.map Qp) (fun t=>al.getD t false=true) (th l) n.g a) t u:=by
     intro x y hxy
     induction hxy with
     |@one x y h =>
      intro t ht htx;obtain⟨u,hu,huy⟩:=Ia hB y;obtain⟨_,hx,i,hi,hg,hp⟩:=h;exact⟨u,hu,huy,.one ⟨hS u y hu huy,by rw [Pr huy hca hla];exact hx,i,hi,hg,Wa hB htx huy hp⟩⟩
     |@cons x y z h _ ih =>
      intro t ht htx;obtain⟨u,hu,huy⟩:=Ia hB y;obtain⟨_,hx,i,hi,hg,hp⟩:=h;obtain⟨u2,h1,h2,h3⟩:=ih u hu huy;exact⟨u2,h1,h2,.cons ⟨hS u y hu huy,by rw [Pr huy hca hla];exact hx,i,hi,hg,Wa hB htx huy hp⟩ h3⟩
    obtain⟨u,hu,huv,hru⟩:=lift w v hr t ht hw;exact⟨u,hru.mono (fun x y hxy=>(Qyf hB hl hm x y).2 hxy),by rw [(Oe hB hm hu).2,Pr huv hcb hlb];exact he⟩
   rfl
end
theorem Qpn {lg:Int} {ks:List Kn} {cs:List Cm} {m:Nat} {al:List Bool} {t:Nat} {i:Int}(h:Ni lg ks cs m al t=some i):Vj lg ks cs al t i=true:=by
 unfold Ni at h;exact List.find?_some h
theorem Qxo {lg:Int} {ks:List Kn} {cs:List Cm} {m:Nat} {al:List Bool} {t:Nat}(h:Ni lg ks cs m al t=none)(i:Int)(h0: -4<=i)(h1:i < m):Vj lg ks cs al t i=false:=by
 unfold Ni at h;rw [List.find?_eq_none]at h;have:=h i (List.mem_map.2 ⟨(i+4).toNat,List.mem_range.2 (by omega),by omega⟩)
 simpa using this
theorem Qfk(why:List Bool->Nat->Option Int):∀(k:Nat) (s:List Bool×List (Nat×Int)),Qpl s.1 (Da why k s).1:=fun k s =>
 Oo (S:=fun al=>Qpl s.1 al) (fun al t _i h _ _ u hu=>h u (Qwa al t u hu)) k s (fun _ h=>h)
theorem Qhe {α:Type}(g:Nat->α)(d:α) {n k:Nat}(h:k < n):((List.range n).map g).getD k d=g k:=by
 rw [Qk,List.getElem?_map,List.getElem?_range h];rfl
structure Fj (lg:Int) (f:List Nd):Prop where
 l0:0<=lg
 l6:lg<=6
 ck:check f=0
 x:Xf (Vn (Qp f))
 e:Jg f=Qn (Vn (Qp f))
 b:Ri (Qr f).1 (Vn (Qp f))
theorem Mv {f:List Nd}(h:(Qr f).2=0):check f=0/\Up f=false/\(Jg f).length≠0/\Qr f=Vp (Jg f):=by
 unfold Qr at h⊢;cases hc:check f !=0
 ·rw [hc]at h;cases hl:Up f
  ·rw [hl]at h;cases hz:decide ((Jg f).length=0)
   ·exact⟨by simpa using hc,rfl,of_decide_eq_false hz,rfl⟩
   rw [hz]at h;cases h
  rw [hl]at h;cases h
 rw [hc]at h;exact absurd h (by simpa using hc)
theorem Lr {lg:Int} {f:List Nd}(h:Zr lg f=0):Fj lg f:=by
 unfold Zr at h;cases ha:decide (lg < 0)||decide (6 < lg)
 ·rw [ha]at h;rw [Bool.or_eq_false_iff,decide_eq_false_iff_not,decide_eq_false_iff_not]at ha;obtain⟨h1,h2,h3,h4⟩:=Mv h;obtain⟨hx,he⟩:=Qzo h1 h2 h3;have h5:(Vp (Qn (Vn (Qp f)))).2=0:=by rw [<-he,<-h4];exact h
  have hb:=Qnq hx h5;rw [<-he,<-h4]at hb;exact⟨by omega,by omega,h1,hx,he,hb⟩
 rw [ha]at h;cases h
section
variable {lg:Int} {f:List Nd}
theorem Rz(lg:Int)(l:List (List Nd)):(Vo lg l).length=2^l.length:=by simp [Vo]
theorem Ol {l:List (List Nd)} {t:Nat}(ht:t < 2^l.length):(Vo lg l).getD t false=Ye lg (Zb l) (Jf l) t:=Qhe _ _ ht
theorem Rk:(Fd lg f).1.length=2^(Qr f).1.length:=by
 unfold Fd Qqi;rw [Qfv];exact Rz _ _
theorem Qyv(h:Fj lg f) {t:Nat}(ht:t < 2^(Qr f).1.length):(Fx f).getD t false=ev (th (Qr f).1 t) (Vn (Qp f)):=by
 unfold Fx;rw [h.e,Qzk h.x.check ht,h.x.tree]
theorem Qci(h:Fj lg f):Kt lg f=true↔∃t,(Fd lg f).1.getD t false=true/\ev (th (Qr f).1 t) (Vn (Qp f))=true:=by
 unfold Kt Gd;rw [List.any_eq_true];constructor
 ·rintro⟨t,ht,h2⟩;rw [Bool.and_eq_true]at h2;have ht:=List.mem_range.1 ht;rw [Rk]at ht;exact⟨t,h2.1,by rw [<-Qyv h ht];exact h2.2⟩
 rintro⟨t,h1,h2⟩;have ht:=Kh h1;refine⟨t,List.mem_range.2 ht,?_⟩;rw [Rk]at ht;rw [Bool.and_eq_true,Qyv h ht];exact⟨h1,h2⟩
theorem Qcq(h:Fj lg f):Hx lg ((Qr f).1.map Qp) (fun t=>(Fd lg f).1.getD t false=true) (th (Qr f).1):=by
 refine Qen h.b Rk (fun t ht=> ?_) (fun t ht i h0 h1=> ?_)
 ·have hs:=Qfk (Ni lg (Zb (Qr f).1) (Jf (Qr f).1) (Qr f).1.length) _ (Vo lg (Qr f).1,[]) t ht;have hl:=Kh hs;rw [Rz]at hl;rw [<-Ol hl];exact hs
 have:=Qjs (why:=Ni lg (Zb (Qr f).1) (Jf (Qr f).1) (Qr f).1.length) ((Vo lg (Qr f).1).length+1) (Vo lg (Qr f).1,[]) (by have:=Qy3 (Vo lg (Qr f).1);show cnt (Vo lg (Qr f).1) < _;omega) t ht;exact Qxo this i h0 h1
theorem Qdi(h:Fj lg f) {M:KM}(hM:M.In lg):Qqr (Qr f).1 M (Vo lg (Qr f).1):=fun t w ht hw=>by
 rw [Ol ht,Qv5 h.b ht];have hc:=Qx1 h.b.closed hM w;refine⟨fun n a b hm=> ?_,fun hr n a hm hth=> ?_⟩
 ·rw [hw _ hm,hc.com n a b hm];constructor
  ·intro k i hi hg;rw [hw _ ((h.b.closed.com n a b hm).2.2.2.2.2 i hi hg)];exact k i hi hg
  intro k i hi hg;rw [<-hw _ ((h.b.closed.com n a b hm).2.2.2.2.2 i hi hg)];exact k i hi hg
 obtain⟨_,hca,hla,_,_⟩:=h.b.closed.know n a hm;rw [Pr hw hca hla];exact hc.know hr n a hm (by rw [<-hw _ hm];exact hth)
theorem Qla(h:Fj lg f) {M:KM}(hM:M.In lg)(al:List Bool)(t:Nat)(i:Int)(hl:al.length=2^(Qr f).1.length)(hS:Qqr (Qr f).1 M al)(hk:Vj lg (Zb (Qr f).1) (Jf (Qr f).1) al t i=true):Qqr (Qr f).1 M (al.set t false):=fun u w hu hw=>by
 rw [Qbd];cases e:u==t
 ·exact hS u w hu hw
 have:u=t:=by simpa using e
 subst this;rw [Qd4 h.b hM h.l6 hl hS hu hw i]at hk;cases hk
theorem Qt5(h:Fj lg f) {M:KM}(hM:M.In lg):Qqr (Qr f).1 M (Fd lg f).1:=by
 have:=Oo (why:=Ni lg (Zb (Qr f).1) (Jf (Qr f).1) (Qr f).1.length) (S:=fun al=>al.length=2^(Qr f).1.length/\Qqr (Qr f).1 M al)
  (fun al t i hS _ hw=>⟨by rw [List.length_set];exact hS.1,Qla h hM al t i hS.1 hS.2 (Qpn hw)⟩) ((Vo lg (Qr f).1).length+1) (Vo lg (Qr f).1,[]) ⟨Rz _ _,Qdi h hM⟩
 exact this.2
theorem Qqk(h:Fj lg f):Kt lg f=true↔∃M:KM,M.In lg/\∃w,M.sat (Qp f) w:=by
 rw [Qci h];constructor
 ·rintro⟨t,h1,h2⟩;have hF:=Qcq h;refine⟨Dn lg ((Qr f).1.map Qp) (fun t=>(Fd lg f).1.getD t false=true) (th (Qr f).1),Qna hF h.l6,⟨t,h1⟩,?_⟩;exact(Pj (M:=Dn lg ((Qr f).1.map Qp) (fun t=>(Fd lg f).1.getD t false=true) (th (Qr f).1)) (Qp f) ⟨t,h1⟩).1 ((Hj h.b.closed hF _ h.b.cov h.x.xp.lang h.x.xp.fact ⟨t,h1⟩).1 h2)
 rintro⟨M,hM,w,hw⟩;obtain⟨t,ht,htw⟩:=Ia h.b w;refine⟨t,Qt5 h hM t w ht htw,?_⟩;rw [Pr htw h.b.cov h.x.xp.lang,evW w h.b.cov h.x.xp.lang,Pj];exact hw
end
open Go.RowKit
def Pv(m:Nat)(w:World)(vo u:Value):Prop:=∀g,u.ownBlock=some g->g < w.heap.size/\vo.ownBlock≠some g/\m<=g
theorem Pv.ext {m:Nat} {w w':World} {vo u:Value}(h:Pv m w vo u)(he:Ext w w'):Pv m w' vo u:=fun g hg=>⟨Qy (h g hg).1 he.size,(h g hg).2⟩
theorem Qkl:(Tryz.prog.info? 22).map (fun i=>(i.zero,i.size,i.bytes))=some (some (.slice none 0 0),1,24):=by kernel_rfl
theorem Nds.keepF {w w':World} {v:Value} {l:List Nd}(h:Nds w v l)(hb:∀g,v.ownBlock=some g->g < w.heap.size->w'.heap[g]?=w.heap[g]?)(hs:w.heap.size<=w'.heap.size):Nds w' v l:=by
 obtain⟨A,c,rfl,h1,h2,h3⟩:=h;refine⟨A,c,rfl,h1,h2,fun hn=> ?_⟩;obtain⟨ad,rfl,hlt,hc⟩:=h3 hn;refine⟨ad,rfl,Qy hlt hs,fun k n hk=>(hc k n hk).keep fun p hp=>World.cell?_of_block ?_⟩;rw [hp,Qc];exact hb ad.block rfl hlt
structure Vt (w0 w:World) (vo:Value) (out:List (List Nd)):Prop where
 ext:Ext w0 w
 row:∃us,w.ownsRow w0.heap.size 22 1 vo out.length us/\∀(k:Nat) (s:List Nd),out[k]?=some s->∃u,us[k]?=some u/\Fml w u s/\Pv w0.heap.size w vo u
theorem Vt.ext_ {w0 w w':World} {vo:Value} {out:List (List Nd)}(h:Vt w0 w vo out)(he:Ext w w'):Vt w0 w' vo out:=by
 obtain⟨us,hr,hu⟩:=h.row;refine⟨h.ext.trans he,us,Zf hr he,fun k s hk=> ?_⟩;obtain⟨u,a,b,c⟩:=hu k s hk;exact⟨u,a,b.ext he,c.ext he⟩
theorem Vt.nil(w:World):Vt w w (.slice none 0 0) []:=⟨Qz,[],World.ownsRow_nil _ _ _ _,fun k s h=>by simp at h⟩
theorem Ly {w:World} {base n:Nat} {t:TypeId} {v:Value} {us:List Value}(h:w.ownsRow base t 1 v n us)(hn:0 < n):
 ∃g cap,v=.slice (some ⟨g,0,none⟩) n cap/\g < w.heap.size/\n<=cap/\cap<=maxLen/\∀i z,us[i]?=some z->w.cell? ⟨g,i,none⟩=some z:=by
 rcases h.2 with⟨_,h0⟩|⟨g,cap,cur,rfl,_,hg,hnc,hm,hs,ht⟩
 ·omega
 refine⟨g,cap,rfl,Qf hg,hnc,hm,fun i z h1=> ?_⟩;rw [<-ht,List.getElem?_take]at h1
 split at h1
 ·have h2:cur[i]?=some z:=by simpa using h1
  simp [World.cell?,hg,h2]
 cases h1
theorem Vt.keep {w0 w w':World} {vo:Value} {out:List (List Nd)}(h:Vt w0 w vo out)(hb:∀g,w0.heap.size<=g->g < w.heap.size->w'.heap[g]?=w.heap[g]?)(hs:w.heap.size<=w'.heap.size)(he:Ext w0 w'):Vt w0 w' vo out:=by
 obtain⟨us,hr,hu⟩:=h.row;refine⟨he,us,⟨hr.1,?_⟩,fun k s hk=> ?_⟩
 ·rcases hr.2 with h0|⟨g,cap,cur,e,h1,h2,h3,h4,h5,h6⟩
  ·exact .inl h0
  exact .inr ⟨g,cap,cur,e,h1,(hb g h1 (Qf h2)).trans h2,h3,h4,h5,h6⟩
 obtain⟨u,a,b,c⟩:=hu k s hk;exact⟨u,a,⟨b.1.keepF (fun g hg _=>hb g (c g hg).2.2 (c g hg).1) hs,b.2⟩,fun g hg=>⟨Qy (c g hg).1 hs,(c g hg).2⟩⟩
theorem Vt.fmls {w0 w:World} {vo:Value} {out:List (List Nd)}(h:Vt w0 w vo out):Fl w vo out:=by
 obtain⟨ss,hs,hv⟩:=h.row;by_cases h0:0 < out.length
 ·obtain⟨g,cap,rfl,hg,h1,h2,hc⟩:=Ly hs h0;refine⟨_,cap,rfl,h1,h2,fun _=>⟨_,rfl,hg,fun k f hk=> ?_⟩⟩;obtain⟨u,a,b,_⟩:=hv k f hk;exact⟨u,by rw [Fs];exact hc k u a,b⟩
 have e:out= []:=List.length_eq_zero_iff.1 (by omega);subst e;obtain⟨A,c,rfl⟩:=Qt hs;rcases hs.2 with⟨e,_⟩|⟨g,cap,cur,e,_,_,hn,hm,_⟩
 ·injection e with e1 _ e2;subst e1 e2;exact⟨_,_,rfl,Nat.le_refl _,by unfold maxLen;omega,fun h=>absurd rfl h⟩
 injection e with e1 _ e2;subst e1 e2;exact⟨_,_,rfl,Nat.zero_le _,hm,fun h=>absurd rfl h⟩
theorem Vt.push {w0 W w4:World} {vo v' x:Value} {out:List (List Nd)} {s:List Nd} {ss:List Value}(he:Ext w0 W)(hs:W.ownsRow w0.heap.size 22 1 vo out.length ss)(hv:∀(k:Nat) (s:List Nd),out[k]?=some s->∃u,ss[k]?=some u/\Fml W u s/\Pv w0.heap.size W vo u)
 (hrow:w4.ownsRow w0.heap.size 22 1 v' (out.length+1) (ss++ [x]))(hg:W.grownBy w4 vo.ownBlock)(hat:v'.ownBlock=vo.ownBlock\/v'.ownBlock=some W.heap.size)(hx:Fml W x s)(hxf:Pv w0.heap.size W vo x):
 Vt w0 w4 v' (out++ [s]):=by
 have hlen:ss.length=out.length:=by simpa using hs.1
 have hkeep:∀g,g < W.heap.size->vo.ownBlock≠some g->w4.heap[g]?=W.heap[g]?:=fun g h1 h2=>hg.block g h1 (fun e=>h2 e.symm)
 have haway:∀u,Pv w0.heap.size W vo u->Pv w0.heap.size w4 v' u:=fun u hu g hgu=>by
  obtain⟨a,b,hm⟩:=hu g hgu;refine⟨Qy a hg.size,fun e=> ?_,hm⟩;rcases hat with e1|e1
  ·exact b (e1.symm.trans e)
  rw [e1]at e;injection e with e;omega
 have hfml:∀u s,Pv w0.heap.size W vo u->Fml W u s->Fml w4 u s:=fun u s ha hi=>⟨hi.1.keepF (fun g hg' _=>hkeep g (ha g hg').1 (ha g hg').2.1) hg.size,hi.2⟩
 refine⟨he.grown hg (fun g hg'=>(hs.lt g hg').1),ss++ [x],by rw [List.length_append];exact hrow,fun k s' hk=> ?_⟩;by_cases hk':k < out.length
 ·rw [List.getElem?_append_left hk']at hk;obtain⟨u,a,b,c⟩:=hv k s' hk;exact⟨u,by rw [List.getElem?_append_left (by omega)];exact a,hfml u s' c b,haway u c⟩
 rw [List.getElem?_append_right (by omega)]at hk;have hk0:k=out.length:=by
  by_cases e:k - out.length=0
  ·omega
  rw [List.getElem?_eq_none (by simp;omega)]at hk;cases hk
 subst hk0;simp at hk;subst hk;exact⟨x,by rw [List.getElem?_append_right (by omega),hlen];simp,hfml x _ hxf hx,haway x hxf⟩
theorem Rp {w W:World} {vo x:Value} {B n k:Nat} {us zs:List Value} {e:TypeId} {sz m:Nat}(hB:w.heap.size<=B)(hx:W.ownsRow B e sz x n zs)(hs:w.ownsRow m 22 1 vo k us)(hm:m<=w.heap.size):Pv m W vo x:=fun g hg=>by
 obtain⟨h1,h2⟩:=hx.lt g hg;exact⟨h2,fun e=>by have:=(hs.lt g e).2;omega,by omega⟩
def Qy7(p:List Nd->Bool)(l:List (List Nd)):Int:=match l.findIdx? p with|none=> -1|some j=>j
theorem Qz0(p:List Nd->Bool):∀(l:List (List Nd)) (k:Nat) (s:List Nd),l[k]?=some s->p s=true->(∀t∈l.take k,p t=false)->l.findIdx? p=some k
 |[],k,s,h,_,_=>by simp at h
 |a :: r,0,s,h,hp,_=>by
  simp only [List.getElem?_cons_zero,Option.some.injEq]at h;subst h;rw [List.findIdx?_cons,hp];rfl
 |a :: r,k+1,s,h,hp,hn=>by
  have ha:p a=false:=hn a (by simp);rw [List.findIdx?_cons,ha,Qz0 p r k s (by simpa using h) hp (fun t ht=>hn t (by simp [ht]))];rfl
theorem Iy(p:List Nd->Bool):∀(l:List (List Nd)),(∀t∈l,p t=false)->l.findIdx? p=none
 |[],_=>by simp
 |a :: r,hn=>by
  rw [List.findIdx?_cons,hn a (by simp),Iy p r (fun t ht=>hn t (by simp [ht]))];rfl
theorem Qsg(g:Nat)(lb:Array Value)(eg:∀args w,(callFunc g args).run Tryz.prog w=.ok (.enter g args) w)(p:List Nd->Bool)(v:Value)(l:List (List Nd))(w:World)(h:Fl w v l)
 (hp:∀(W:World) (u:Value) (s:List Nd),Ext w W->Fml W u s->Calls Tryz.prog g (#[u]++lb) W fun e w'=>e=.returned (.bool (p s))/\Ext W w'):
 Calls Tryz.prog 178 #[v,.func (.func g) #[] lb] w fun e w'=>e=.returned (.int .i64 (Qy7 p l))/\Ext w w':=by
 obtain⟨A,c,rfl,hcap,hmax,hr⟩:=h;unfold maxLen at hmax;have HR:=Qq hr;have HP:=Qq hp;clear hr hp;go_enter Tryz.func178,Tryz.ntmps178;go_wp2_with fail;go_loopw [5,8] (fun _ i wr=>∃k:Nat,k<=l.length/\i=.int .i64 (k:Int)/\Hid (∀t∈l.take k,p t=false)/\Hid (Ext w wr)) (fun _ i _=>l.length - (intOf i).toNat)
 case atStart=>exact⟨0,Nat.zero_le _,rfl,Qq (by simp),Qq Qz⟩
 case round =>
  obtain⟨k,hk,rfl,HNI,HX⟩:=hrel;by_cases hlt2:k < l.length
  ·obtain⟨s,hs⟩:∃s,l[k]?=some s:=⟨_,Qv hlt2⟩;obtain⟨ad,rfl,hb1,hc1⟩:=HR.out (by intro e;rw [e]at hlt2;simp at hlt2);obtain⟨u,hu,hf⟩:=hc1 k s hs;have a0:=(HX.out.cell (p:=ad.add k) (Qj hb1)).trans hu;have HF:=Qq (hf.ext HX.out);have HA:=Qq hs;have hk1:(k:Int) < (l.length:Int):=by omega
   clear hs hc1 hf hu;cases hps:p s
   ·have HT:Hid (∀t∈l.take (k+1),p t=false):=Qq (by
     rw [Xc HA.out];intro t ht;rcases List.mem_append.1 ht with ht|ht
     ·exact HNI.out t ht
     rw [List.mem_singleton.1 ht];exact hps)
    go_wp2_with(refine(HP.out _ u s (by exact HX.out.trans (by repeat(first|exact Qz|assumption|apply Ext.alloc|apply Ext.drew))) (by exact HF.out.ext (by repeat(first|exact Qz|assumption|apply Ext.alloc|apply Ext.drew)))).mono ?_;rintro e w1 ⟨rfl,hx⟩;rw [hps]);go_roundw
    case rel=>exact⟨k+1,by omega,by go_num,HT,Qq (HX.out.trans (by first|exact hx|exact Ext.trans (by repeat(first|exact Qz|assumption|apply Ext.alloc|apply Ext.drew)) hx))⟩
    case measure=>simp [intOf];omega
   have HE:=Qq (show Qy7 p l=(k:Int) by unfold Qy7;rw [Qz0 p l k s HA.out hps HNI.out]);go_wp2_with(refine(HP.out _ u s (by exact HX.out.trans (by repeat(first|exact Qz|assumption|apply Ext.alloc|apply Ext.drew))) (by exact HF.out.ext (by repeat(first|exact Qz|assumption|apply Ext.alloc|apply Ext.drew)))).mono ?_;rintro e w1 ⟨rfl,hx⟩;rw [hps]);go_ret;exact⟨by rw [HE.out] <;> rfl,HX.out.trans (by first|exact hx|exact Ext.trans (by repeat(first|exact Qz|assumption|apply Ext.alloc|apply Ext.drew)) hx)⟩
  obtain rfl:l.length=k:=by omega
  have HE:=Qq (show Qy7 p l= -1 by
   unfold Qy7;rw [Iy p l (fun t ht=>HNI.out t (by rw [List.take_of_length_le (Nat.le_refl _)];exact ht))])
  go_wp2_with fail;go_ret;exact⟨by rw [HE.out] <;> rfl,HX.out⟩
def Dc(w:World)(A:Option Addr)(c:Nat)(l:List Bool):Prop :=
 l.length<=c/\c<=maxLen/\(l≠ []->∃ad,A=some ad/\ad.block < w.heap.size/\∀k z,l[k]?=some z->w.cell? (ad.add k)=some (.bool z))
def Kj(w:World)(v:Value)(l:List Bool):Prop:=∃A c,v=.slice A l.length c/\Dc w A c l
section
variable {w w':World} {v:Value}
theorem Dc.ext {A:Option Addr} {c:Nat} {l:List Bool}(h:Dc w A c l)(he:Ext w w'):Dc w' A c l :=
 ⟨h.1,h.2.1,fun hn=>by
  obtain⟨ad,e,hlt,hc⟩:=h.2.2 hn;exact⟨ad,e,Qy hlt he.size,fun k z hk=>(he.cell (Qj hlt)).trans (hc k z hk)⟩⟩
theorem Kj.ext {l:List Bool}(h:Kj w v l)(he:Ext w w'):Kj w' v l:=by
 obtain⟨A,c,e,h⟩:=h;exact⟨A,c,e,h.ext he⟩
end
def Va(base:Nat)(w:World)(g:Nat)(l:List Bool):Prop:=w.ownsRow base 4 1 (.slice (some ⟨g,0,none⟩) l.length l.length) l.length (l.map Value.bool)
section
variable {base:Nat} {w w':World} {g:Nat} {l:List Bool}
theorem Va.cell(h:Va base w g l) {j:Nat} {b:Bool}(hj:l[j]?=some b):w.cell? ⟨g,j,none⟩=some (.bool b):=by
 have hl:=(List.getElem?_eq_some_iff.1 hj).1;rw [World.ownsRow.cellAt h j (by omega),List.getElem?_map,hj];rfl
theorem Va.frozen(h:Va base w g l)(j:Nat):w.frozen? ⟨g,j,none⟩=false:=World.ownsRow.frozenAt h j
theorem Va.lt(h:Va base w g l):base<=g/\g < w.heap.size:=World.ownsRow.lt h g rfl
theorem Va.set(h:Va base w g l)(j:Nat)(b:Bool):Va base (w.setCell ⟨g,j,none⟩ (.bool b)) g (l.set j b)/\w.grownBy (w.setCell ⟨g,j,none⟩ (.bool b)) (some g):=by
 obtain⟨h1,h2⟩:=World.ownsRow.stored h j (.bool b);refine⟨?_,h2⟩;unfold Va;rw [List.length_set,<-List.map_set]at *;exact h1
theorem Va.ext(h:Va base w g l)(he:Ext w w'):Va base w' g l:=Zf h he
theorem Va.base_ {b':Nat}(h:Va base w g l)(hb:b'<=base):Va b' w g l:=Tl h hb
theorem Va.bools(h:Va base w g l):Kj w (.slice (some ⟨g,0,none⟩) l.length l.length) l:=by
 refine⟨_,_,rfl,Nat.le_refl _,?_,fun hn=>⟨_,rfl,h.lt.2,fun k z hk=> ?_⟩⟩
 ·have h2:=h.2;rcases h2 with⟨e,_⟩|⟨g',cap,cur,e,_,_,_,hm,_⟩
  ·cases e
  injection e with _ _ e;rw [e];exact hm
 rw [Fs];exact h.cell hk
end
theorem Qsh(n:Nat):(madeCells (Value.cells (.bool false)) (n*1)).toList=(List.replicate n false).map Value.bool:=by
 simp only [madeCells,Value.cells,Nat.mul_one,Array.toList_map,Array.toList_range,List.map_replicate];refine List.ext_getElem (by simp) fun i h1 h2=> ?_
 simp [Nat.mod_one]
def Qgc(w:World)(a:Addr)(k:Kn):Prop :=
 ∃vh,w.cell? a=some (.int .i64 k.agent)/\w.cell? ⟨a.block,a.off+1,none⟩=some (.int .i64 (k.place:Int))/\w.cell? ⟨a.block,a.off+2,none⟩=some vh/\Kj w vh k.holds
def Qqs(w:World)(A:Option Addr)(c:Nat)(l:List Kn):Prop :=
 l.length<=c/\c<=maxLen/\(l≠ []->∃ad,A=some ad/\ad.block < w.heap.size/\∀k n,l[k]?=some n->Qgc w (ad.add (k*3)) n)
def Kns(w:World)(v:Value)(l:List Kn):Prop:=∃A c,v=.slice A l.length c/\Qqs w A c l
def Qgm(w:World)(a:Addr)(k:Cm):Prop :=
 ∃vx vy,w.cell? a=some (.int .i64 (k.place:Int))/\w.cell? ⟨a.block,a.off+1,none⟩=some (.int .i64 k.group)/\w.cell? ⟨a.block,a.off+2,none⟩=some vx/\w.cell? ⟨a.block,a.off+3,none⟩=some vy/\
  w.cell? ⟨a.block,a.off+4,none⟩=some (.int .u64 (k.parts:Int))/\Kj w vx k.x/\Kj w vy k.y
def Qqn(w:World)(A:Option Addr)(c:Nat)(l:List Cm):Prop :=
 l.length<=c/\c<=maxLen/\(l≠ []->∃ad,A=some ad/\ad.block < w.heap.size/\∀k n,l[k]?=some n->Qgm w (ad.add (k*5)) n)
def Cms(w:World)(v:Value)(l:List Cm):Prop:=∃A c,v=.slice A l.length c/\Qqn w A c l
section
variable {w w':World} {v:Value} {a:Addr}
theorem Qgc.ext {k:Kn}(h:Qgc w a k)(he:Ext w w')(ha:a.block < w.heap.size):Qgc w' a k:=by
 obtain⟨vh,h0,h1,h2,h3⟩:=h;have hk:∀o s,w'.cell? ⟨a.block,o,s⟩=w.cell? ⟨a.block,o,s⟩:=fun o s=>he.cell (p:=⟨a.block,o,s⟩) ha
 exact⟨vh,(hk _ _).trans h0,(hk _ _).trans h1,(hk _ _).trans h2,h3.ext he⟩
theorem Qgm.ext {k:Cm}(h:Qgm w a k)(he:Ext w w')(ha:a.block < w.heap.size):Qgm w' a k:=by
 obtain⟨vx,vy,h0,h1,h2,h3,h4,h5,h6⟩:=h;have hk:∀o s,w'.cell? ⟨a.block,o,s⟩=w.cell? ⟨a.block,o,s⟩:=fun o s=>he.cell (p:=⟨a.block,o,s⟩) ha
 exact⟨vx,vy,(hk _ _).trans h0,(hk _ _).trans h1,(hk _ _).trans h2,(hk _ _).trans h3,(hk _ _).trans h4,h5.ext he,h6.ext he⟩
theorem Qqs.ext {A:Option Addr} {c:Nat} {l:List Kn}(h:Qqs w A c l)(he:Ext w w'):Qqs w' A c l :=
 ⟨h.1,h.2.1,fun hn=>by
  obtain⟨ad,e,hlt,hc⟩:=h.2.2 hn;exact⟨ad,e,Qy hlt he.size,fun k n hk=>(hc k n hk).ext he (Qj hlt)⟩⟩
theorem Qqn.ext {A:Option Addr} {c:Nat} {l:List Cm}(h:Qqn w A c l)(he:Ext w w'):Qqn w' A c l :=
 ⟨h.1,h.2.1,fun hn=>by
  obtain⟨ad,e,hlt,hc⟩:=h.2.2 hn;exact⟨ad,e,Qy hlt he.size,fun k n hk=>(hc k n hk).ext he (Qj hlt)⟩⟩
theorem Kns.ext {l:List Kn}(h:Kns w v l)(he:Ext w w'):Kns w' v l:=by
 obtain⟨A,c,e,h⟩:=h;exact⟨A,c,e,h.ext he⟩
theorem Cms.ext {l:List Cm}(h:Cms w v l)(he:Ext w w'):Cms w' v l:=by
 obtain⟨A,c,e,h⟩:=h;exact⟨A,c,e,h.ext he⟩
end
structure Eng (w:World) (b:Nat) (lg:Int) (base:List (List Nd)) (root:List Bool) (ks:List Kn) (cs:List Cm) (alive:List Bool):Prop where
 all:∃vb vr vk vc va,w.heap[b]?=some (.cells #[.int .i64 lg,vb,vr,vk,vc,va] 93 (0,0))/\Fl w vb base/\Kj w vr root/\Kns w vk ks/\Cms w vc cs/\Kj w va alive
section
variable {w w':World} {b:Nat} {lg:Int} {base:List (List Nd)} {root:List Bool} {ks:List Kn} {cs:List Cm} {alive:List Bool}
theorem Eng.ext(h:Eng w b lg base root ks cs alive)(he:Ext w w'):Eng w' b lg base root ks cs alive:=by
 obtain⟨vb,vr,vk,vc,va,hb,h1,h2,h3,h4,h5⟩:=h.all;exact⟨vb,vr,vk,vc,va,(he.block (Qf hb)).trans hb,h1.ext he,h2.ext he,h3.ext he,h4.ext he,h5.ext he⟩
theorem Eng.cells(h:Eng w b lg base root ks cs alive):∃Ab cb Ar cr Ak ck Ac cc Aa ca,w.cell? ⟨b,0,none⟩=some (.int .i64 lg)/\w.cell? ⟨b,1,none⟩=some (.slice Ab base.length cb)/\w.cell? ⟨b,2,none⟩=some (.slice Ar root.length cr)/\
 w.cell? ⟨b,3,none⟩=some (.slice Ak ks.length ck)/\w.cell? ⟨b,4,none⟩=some (.slice Ac cs.length cc)/\w.cell? ⟨b,5,none⟩=some (.slice Aa alive.length ca)/\b < w.heap.size/\
 Fl w (.slice Ab base.length cb) base/\Dc w Ar cr root/\Qqs w Ak ck ks/\Qqn w Ac cc cs/\Dc w Aa ca alive:=by
 obtain⟨vb,vr,vk,vc,va,hb,h1,⟨Ar,cr,rfl,h2⟩,⟨Ak,ck,rfl,h3⟩,⟨Ac,cc,rfl,h4⟩,⟨Aa,ca,rfl,h5⟩⟩:=h.all;obtain⟨⟨d0,d1,d2,d3,d4,d5⟩,_,hl⟩:=Kv hb;have h1':=h1;obtain⟨Ab,cb,rfl,_⟩:=h1;exact⟨Ab,cb,Ar,cr,Ak,ck,Ac,cc,Aa,ca,d0,d1,d2,d3,d4,d5,hl,h1',h2,h3,h4,h5⟩
end
structure Zj3 (base:List (List Nd)) (root:List Bool) (ks:List Kn) (cs:List Cm) (alive:List Bool):Prop where
 len:base.length<=12
 m:alive.length=2^base.length
 root:root.length=2^base.length
 kn:∀k∈ks,k.place < base.length/\k.holds.length=2^base.length/\Yo k.agent
 cm:∀c∈cs,c.place < base.length/\c.x.length=2^base.length/\c.y.length=2^base.length/\c.parts < 18446744073709551616/\0<=c.group/\c.group < 16
 klen:ks.length<=12
 clen:cs.length<=12
theorem Qgr {n:Nat}(h:n<=12):2^n<=4096:=Nat.pow_le_pow_right (by decide) h
theorem Kz {w:World} {A:Option Addr} {c:Nat} {l:List Bool}(h:Dc w A c l) {k:Nat}(hk:k < l.length):∃ad,A=some ad/\ad.block < w.heap.size/\w.cell? (ad.add k)=some (.bool (l.getD k false)):=by
 obtain⟨ad,e,hb,hc⟩:=h.2.2 (by intro e;rw [e]at hk;simp at hk);refine⟨ad,e,hb,hc k _ ?_⟩;rw [Qk,Qv hk];rfl
theorem Qgg(b:Nat)(lg:Int)(w:World)(d0:w.cell? ⟨b,0,none⟩=some (.int .i64 lg)):
 Calls Tryz.prog 184 #[.pointer (some ⟨b,0,none⟩)] w fun e w'=>e=.returned (.bool (Fk lg))/\w=w':=by
 cases h2:lg==2
 ·cases h4:lg==4
  ·cases h6:lg==6
   ·have HE:=Qq (show Fk lg=false by unfold Fk;rw [h2,h4,h6];rfl);go_enter Tryz.func184,Tryz.ntmps184;go_wp2_with fail;go_ret;exact⟨by rw [HE.out] <;> rfl,rfl⟩
   have HE:=Qq (show Fk lg=true by unfold Fk;rw [h2,h4,h6];rfl);go_enter Tryz.func184,Tryz.ntmps184;go_wp2_with fail;go_ret;exact⟨by rw [HE.out] <;> rfl,rfl⟩
  have HE:=Qq (show Fk lg=true by unfold Fk;rw [h2,h4];rfl);go_enter Tryz.func184,Tryz.ntmps184;go_wp2_with fail;go_ret;exact⟨by rw [HE.out] <;> rfl,rfl⟩
 have HE:=Qq (show Fk lg=true by unfold Fk;rw [h2];rfl);go_enter Tryz.func184,Tryz.ntmps184;go_wp2_with fail;go_ret;exact⟨by rw [HE.out] <;> rfl,rfl⟩
theorem Qwm {al rt:List Bool} {k:Nat}(hk:k < al.length)(h1:al.getD k false=true)(h2:rt.getD k false=true):Gd al rt=true:=by
 unfold Gd;rw [List.any_eq_true];exact⟨k,List.mem_range.2 hk,by rw [h1,h2];rfl⟩
theorem Qhn {al rt:List Bool}(h:∀k,k < al.length->(al.getD k false&&rt.getD k false)=false):Gd al rt=false:=by
 unfold Gd;rw [List.any_eq_false];intro k hk;rw [h k (List.mem_range.1 hk)];simp
theorem Qgf(b:Nat)(lg:Int)(base:List (List Nd))(root:List Bool)(ks:List Kn)(cs:List Cm)(alive:List Bool)(w:World)
 (hE:Eng w b lg base root ks cs alive)(hr:root.length=alive.length):
 Calls Tryz.prog 61 #[.pointer (some ⟨b,0,none⟩)] w fun e w'=>e=.returned (.bool (Gd alive root))/\w=w':=by
 obtain⟨Ab,cb,Ar,cr,Ak,ck,Ac,cc,Aa,ca,d0,d1,d2,d3,d4,d5,hbl,_,hroot,_,_,hal⟩:=hE.cells;have HR:=Qq hroot;have HA:=Qq hal;have hac:=hal.1;have hca:=hal.2.1;have hrc:=hroot.1;have hcr:=hroot.2.1;unfold maxLen at hca hcr;rw [hr]at d2 hrc;have HRL:=Qq hr;clear hE hroot hal hr d0 d1 d3 d4;go_enter Tryz.func61,Tryz.ntmps61;go_wp2_with fail;go_loop [10] (fun v=>∃k:Nat,v=.int .i64 (k:Int)/\k<=alive.length/\Hid (∀j,j < k->(alive.getD j false&&root.getD j false)=false)) (fun v=>alive.length - (intOf v).toNat)
 case atStart=>exact⟨0,rfl,Nat.zero_le _,Qq (fun j hj=>absurd hj (by omega))⟩
 case round =>
  obtain⟨k,rfl,hk,HREL⟩:=hrel;by_cases hlt2:k < alive.length
  ·have hk1:(k:Int) < (alive.length:Int):=by omega
   obtain⟨ad,rfl,hb1,a0⟩:=Kz HA.out hlt2;obtain⟨ar,rfl,hb2,r0⟩:=Kz HR.out (show k < root.length by rw [HRL.out];exact hlt2);cases ha:alive.getD k false
   ·rw [ha]at a0;have HN:=Qq (show ∀j,j < k+1->(alive.getD j false&&root.getD j false)=false from fun j hj=>by
     by_cases e:j < k
     ·exact HREL.out j e
     have:j=k:=by omega
     subst this;rw [ha];rfl)
    clear ha;go_wp2_with fail;go_round
    case rel=>exact⟨k+1,by go_num,by omega,HN⟩
    case measure=>simp [intOf];omega
   rw [ha]at a0;cases hrt:root.getD k false
   ·rw [hrt]at r0;have HN:=Qq (show ∀j,j < k+1->(alive.getD j false&&root.getD j false)=false from fun j hj=>by
     by_cases e:j < k
     ·exact HREL.out j e
     have:j=k:=by omega
     subst this;rw [ha,hrt];rfl)
    clear ha hrt;go_wp2_with fail;go_round
    case rel=>exact⟨k+1,by go_num,by omega,HN⟩
    case measure=>simp [intOf];omega
   rw [hrt]at r0;have HE:=Qq (Qwm hlt2 ha hrt);clear ha hrt;go_wp2_with fail;go_ret;exact⟨by rw [HE.out] <;> rfl,rfl⟩
  obtain rfl:alive.length=k:=by omega
  have HE:=Qq (Qhn HREL.out);go_wp2_with fail;go_ret;exact⟨by rw [HE.out] <;> rfl,rfl⟩
end Go.Proofs.YtkmclcmnoicagaaGreatDoor
