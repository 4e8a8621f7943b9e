/- The elimination of types tells the truth. -/
import Derived.Test.YtkmclcmnoicagaaGreatDoorT27
namespace Go.Proofs.YtkmclcmnoicagaaGreatDoor
set_option maxRecDepth 100000
set_option maxHeartbeats 128000000
theorem Mn {lg:Int} {ks:List Kn} {al:List Bool} {a:Int} {t:Nat} {wt:Nat->Bool} :Xq lg ks al a t wt < 0↔∀u,u < al.length->Xz lg ks al a t wt u=false:=by
 unfold Xq;cases h:(List.range al.length).find? (Xz lg ks al a t wt)with
 |none =>
  rw [List.find?_eq_none]at h;refine⟨fun _ u hu=> ?_,fun _=>by decide⟩;have:=h u (List.mem_range.2 hu)
  simpa using this
 |some k =>
  obtain⟨h1,h2,_⟩:=List.find?_range_eq_some.1 h;refine⟨fun hn=> ?_,fun hn=> ?_⟩
  ·simp only at hn;omega
  rw [hn k (List.mem_range.1 h2)]at h1;cases h1
theorem Kt {al:List Bool} {t:Nat}(h:al.getD t false=true):t < al.length:=by
 by_cases e:t < al.length
 ·exact e
 rw [Qk,List.getElem?_eq_none (by omega)]at h;cases h
theorem Ml {lg:Int} {ks:List Kn} {al:List Bool} {c:Cm} {t:Nat} :Ld lg ks al c t=true↔∃u,Rch (fun a b=>Tb lg ks al c a b=true) t u/\c.y.getD u false=false:=by
 simp [Ld]
theorem Mb {l:List (List Nd)} {M:KM} {w:M.W} {t:Nat}(h:∀s∈l.map Ql,th l t s=thW M w s) {f:Tr}(hc:cov (l.map Ql) f)(hl:lang f):ev (th l t) f=ev (thW M w) f:=by
 rw [Bool.eq_iff_iff,evW w hc hl];exact Wl (fun s hs=>by rw [h s hs];exact Gi) f hc hl
theorem Qmz(p:Nat->Bool):∀n:Nat,∃t,t < 2^n/\∀i,i < n->t.testBit i=p i
 |0=>⟨0,by simp,fun i h=>absurd h (by omega)⟩
 |n+1=>by
  obtain⟨t,h1,h2⟩:=Qmz p n;cases hp:p n
  ·refine⟨t,by rw [Nat.pow_succ];omega,fun i hi=> ?_⟩;by_cases e:i < n
   ·exact h2 i e
   have:i=n:=by omega
   subst this;rw [hp,Nat.testBit_lt_two_pow h1]
  refine⟨t|||2^n,Nat.or_lt_two_pow (by rw [Nat.pow_succ];omega) (by rw [Nat.pow_succ];have:=Nat.two_pow_pos n;omega),fun i hi=> ?_⟩;rw [Nat.testBit_or,Nat.testBit_two_pow];by_cases e:i < n
  ·rw [h2 i e];have:¬n=i:=by omega
   simp [this]
  have:i=n:=by omega
  subst this;simp [hp]
section
variable {l:List (List Nd)} {t0:Tr} (hB:Rl l t0) {lg:Int}
include hB
theorem Qdh {i:Nat} {n:Nd} {a:Tr}(hm:.one n a∈l.map Ql)(hg:l[i]?=some (Qf (.one n a))):(Zg l).find? (fun k=>(k.place:Int)==(i:Int))=some ⟨n.i,i,Yr l (Qf a)⟩:=by
 cases h:(Zg l).find? (fun k=>(k.place:Int)==(i:Int))with
 |none =>
  rw [List.find?_eq_none]at h;have:=h _ ((Xc hB).2 ⟨i,n,a,hm,hg,rfl⟩);simp at this
 |some k =>
  obtain⟨j,n',a',hm',hg',rfl⟩:=(Xc hB).1 (List.mem_of_find?_eq_some h);have hp:=List.find?_some h;have hij:j=i:=by
   have h0:(j:Int)=(i:Int):=by simpa using hp
   omega
  subst hij;rw [hg]at hg';injection hg' with hg';have:=((Yt hB.can).1 hm).1.inj ((Yt hB.can).1 hm').1 hg';injection this with e1 e2;rw [e1,e2]
theorem Qda {i:Nat} {n:Nd} {a b:Tr}(hm:.two n a b∈l.map Ql)(hg:l[i]?=some (Qf (.two n a b))):(Zg l).find? (fun k=>(k.place:Int)==(i:Int))=none:=by
 rw [List.find?_eq_none];intro k hk;obtain⟨j,n',a',hm',hg',rfl⟩:=(Xc hB).1 hk;intro hp;have hij:j=i:=by
  have h0:(j:Int)=(i:Int):=by simpa using hp
  omega
 subst hij;rw [hg]at hg';injection hg' with hg';have:=((Yt hB.can).1 hm).1.inj ((Yt hB.can).1 hm').1 hg';cases this
theorem Qdx {i:Nat} {n:Nd} {a b:Tr}(hm:.two n a b∈l.map Ql)(hg:l[i]?=some (Qf (.two n a b))):(Zc l).find? (fun k=>(k.place:Int)==(i:Int))=some ⟨i,n.g,Yr l (Qf a),Yr l (Qf b),Ds l (Qf (.two n a b))⟩:=by
 cases h:(Zc l).find? (fun k=>(k.place:Int)==(i:Int))with
 |none =>
  rw [List.find?_eq_none]at h;have:=h _ ((Dz hB).2 ⟨i,n,a,b,hm,hg,rfl⟩);simp at this
 |some k =>
  obtain⟨j,n',a',b',hm',hg',rfl⟩:=(Dz hB).1 (List.mem_of_find?_eq_some h);have hp:=List.find?_some h;have hij:j=i:=by
   have h0:(j:Int)=(i:Int):=by simpa using hp
   omega
  subst hij;rw [hg]at hg';injection hg' with hg';have:=((Yt hB.can).1 hm).1.inj ((Yt hB.can).1 hm').1 hg';injection this with e1 e2 e3;rw [e1,e2,e3]
theorem Qjl {al:List Bool}(hl:al.length=2^l.length) {i:Nat} {n:Nd} {a b:Tr}(hm:.two n a b∈l.map Ql)(t u:Nat):
 Tb lg (Zg l) al ⟨i,n.g,Yr l (Qf a),Yr l (Qf b),Ds l (Qf (.two n a b))⟩ t u=true↔Lp lg (l.map Ql) (fun t=>al.getD t false=true) (th l) n.g a t u:=by
 unfold Tb Lp;simp only [Bool.and_eq_true,List.any_eq_true,List.mem_range];constructor
 ·rintro⟨h1,h2,i,h3,h4,h5⟩;have hu:u < 2^l.length:=hl▸Kt h1;exact⟨h1,by rw [<-(Wb hB hm hu).1];exact h2,i,h3,h4,(Ua hB hu).1 h5⟩
 rintro⟨h1,h2,i,h3,h4,h5⟩;have hu:u < 2^l.length:=hl▸Kt h1;exact⟨h1,by rw [(Wb hB hm hu).1];exact h2,i,h3,h4,(Ua hB hu).2 h5⟩
theorem Qey {al:List Bool}(hl:al.length=2^l.length)(hc:∀t,al.getD t false=true->Ys lg (Zg l) (Zc l) t=true)
 (hw:∀t,al.getD t false=true->∀i:Int,-4<=i->i < l.length->Yy lg (Zg l) (Zc l) al t i=false):Pc lg (l.map Ql) (fun t=>al.getD t false=true) (th l) where
 coh t ht:=(Qvv hB (hl▸Kt ht)).1 (hc t ht)
 ser hs t ht i ho:=by
  obtain⟨n,a,hm,hi⟩:=ho;obtain⟨j,hg,_,_⟩:=Fj hB hm;obtain⟨_,_,_,h0,h4⟩:=hB.closed.know n a hm;have h:=hw t ht (-1 - i) (by omega) (by omega);unfold Yy at h;rw [decide_eq_true (show -1 - i < 0 by omega),cond_true]at h;have hlg:(lg==1||lg==5)=true:=by rcases hs with e|e <;> rw [e] <;> rfl
  have hany:(Zg l).any (fun k=>k.agent== -1 - (-1 - i))=true:=by
   rw [List.any_eq_true];exact⟨_,(Xc hB).2 ⟨j,n,a,hm,hg,rfl⟩,by simp;omega⟩
  rw [hlg,hany,Bool.true_and,Bool.true_and,decide_eq_false_iff_not,Mn]at h;obtain⟨u,hu⟩:=Classical.not_forall.1 h;obtain⟨hul,hp⟩:=Classical.not_imp.1 hu;have hp:Xz lg (Zg l) al (-1 - (-1 - i)) t (fun _=>true) u=true:=by simpa using hp
  unfold Xz at hp;rw [Bool.and_eq_true,Bool.true_and,show -1 - (-1 - i)=i by omega]at hp;exact⟨u,hp.1,(Ua hB (by omega)).1 hp.2⟩
 know t ht n a hm hf:=by
  obtain⟨j,hg,hj,hth⟩:=Fj hB hm;have h:=hw t ht (j:Int) (by omega) (by omega);unfold Yy at h;rw [decide_eq_false (show ¬(j:Int) < 0 by omega),cond_false,Qdh hB hm hg]at h;simp only [Int.toNat_natCast]at h;rw [<-hth,hf,Bool.not_false,Bool.true_and,decide_eq_false_iff_not,Mn]at h;obtain⟨u,hu⟩:=Classical.not_forall.1 h;obtain⟨hul,hp⟩:=Classical.not_imp.1 hu;have hp:Xz lg (Zg l) al n.i t (fun u=> !(Yr l (Qf a)).getD u false) u=true:=by simpa using hp
  unfold Xz at hp;rw [Bool.and_eq_true,Bool.and_eq_true]at hp;have hp2:(!(Yr l (Qf a)).getD u false)=true:=hp.2.1;rw [Sp hB hm (by omega)]at hp2;exact⟨u,hp.1,by simpa using hp2,(Ua hB (by omega)).1 hp.2.2⟩
 com t ht n a b hm hf:=by
  obtain⟨j,hg,hj,hth⟩:=Fj hB hm;have h:=hw t ht (j:Int) (by omega) (by omega);unfold Yy at h;rw [decide_eq_false (show ¬(j:Int) < 0 by omega),cond_false,Qda hB hm hg,Qdx hB hm hg]at h;simp only [Int.toNat_natCast]at h;rw [<-hth,hf,Bool.not_false,Bool.true_and]at h;have h:Ld lg (Zg l) al ⟨j,n.g,Yr l (Qf a),Yr l (Qf b),Ds l (Qf (.two n a b))⟩ t=true:=by simpa using h
  rw [Ml]at h;obtain⟨u,hr,hy⟩:=h;have hr':=hr.mono (fun x y hxy=>(Qjl hB hl hm x y).1 hxy);have hul:al.getD u false=true:=by
   have key:∀x y,Rch (Lp lg (l.map Ql) (fun t=>al.getD t false=true) (th l) n.g a) x y->al.getD y false=true:=by
    intro x y hxy
    induction hxy with
    |one h=>exact h.1
    |cons _ _ ih=>exact ih
   exact key t u hr'
  exact⟨u,hr',by rw [<-(Wb hB hm (hl▸Kt hul)).2];exact hy⟩
theorem Eg {M:KM} {w v:M.W} {t u:Nat}(ht:∀s∈l.map Ql,th l t s=thW M w s)(hu:∀s∈l.map Ql,th l u s=thW M v s) {i:Int}(h:Sb lg (l.map Ql) i (thW M w) (thW M v)):Sb lg (l.map Ql) i (th l t) (th l u):=by
 intro n a hm hi;obtain⟨_,hc,hla,_,_⟩:=hB.closed.know n a hm;rw [ht _ hm,hu _ hm,Mb hu hc hla];exact h n a hm hi
theorem Of {M:KM}(w:M.W):∃t,t < 2^l.length/\∀s∈l.map Ql,th l t s=thW M w s:=by
 obtain⟨t,h1,h2⟩:=Qmz (fun i=>thW M w (Ql (l.getD i []))) l.length;refine⟨t,h1,fun s hs=> ?_⟩;obtain⟨i,hg,hi,hth⟩:=Fj hB hs;rw [hth,h2 i hi,Qk,hg,Option.getD_some,((Yt hB.can).1 hs).1.tree]
def Ib(l:List (List Nd))(M:KM)(al:List Bool):Prop:=∀(t:Nat) (w:M.W),t < 2^l.length->(∀s∈l.map Ql,th l t s=thW M w s)->al.getD t false=true
theorem Qb6 {M:KM}(hM:M.In lg)(hlg:lg<=6) {al:List Bool}(hl:al.length=2^l.length)(hS:Ib l M al) {t:Nat} {w:M.W}(ht:t < 2^l.length)(hw:∀s∈l.map Ql,th l t s=thW M w s)(i:Int):Yy lg (Zg l) (Zc l) al t i=false:=by
 have hF:=Qs2 hB.closed hM hlg;unfold Yy;by_cases hi:i < 0
 ·rw [decide_eq_true hi,cond_true];cases hlg2:(lg==1||lg==5)
  ·rfl
  rw [Bool.true_and];have hs:lg=1\/lg=5:=by simpa using hlg2
  cases hany:(Zg l).any (fun k=>k.agent== -1 - i)
  ·rfl
  rw [Bool.true_and,decide_eq_false_iff_not,Mn];intro hno;rw [List.any_eq_true]at hany;obtain⟨k,hk,he⟩:=hany;obtain⟨j,n,a,hm,hg,rfl⟩:=(Xc hB).1 hk;have he:n.i= -1 - i:=by simpa using he
  obtain⟨v,_,hp⟩:=hF.ser hs w trivial (-1 - i) ⟨n,a,hm,he⟩;obtain⟨u,hu,huv⟩:=Of hB v;have:=hno u (by omega);unfold Xz at this;rw [hS u v hu huv,(Ua hB hu).2 (Eg hB hw huv hp)]at this;cases this
 rw [decide_eq_false hi,cond_false];obtain⟨j,rfl⟩:=Int.eq_ofNat_of_zero_le (show 0<=i by omega);cases hf:(Zg l).find? (fun k=>(k.place:Int)==(j:Int))with
 |some k =>
  obtain⟨j',n,a,hm,hg,rfl⟩:=(Xc hB).1 (List.mem_of_find?_eq_some hf);have hij:j'=j:=by
   have h0:(j':Int)=(j:Int):=by simpa using List.find?_some hf
   omega
  subst hij;obtain⟨j2,hg2,_,hth⟩:=Fj hB hm;have hij:j2=j':=by
   have e1:=Xv hB.nodup hg;have e2:=Xv hB.nodup hg2;omega
  subst hij;simp only [Int.toNat_natCast];rw [<-hth];cases hv:th l t (.one n a)
  ·rw [Bool.not_false,Bool.true_and,decide_eq_false_iff_not,Mn];intro hno;obtain⟨v,_,he,hp⟩:=hF.know w trivial n a hm (by rw [<-hw _ hm];exact hv);obtain⟨u,hu,huv⟩:=Of hB v;have:=hno u (by omega);obtain⟨_,hc,hla,_,_⟩:=hB.closed.know n a hm;unfold Xz at this;simp only at this;rw [hS u v hu huv,(Ua hB hu).2 (Eg hB hw huv hp),Sp hB hm hu,Mb huv hc hla,he]at this;cases this
  rfl
 |none =>
  simp only;cases hf2:(Zc l).find? (fun c=>(c.place:Int)==(j:Int))with
  |none=>rfl
  |some k =>
   obtain⟨j',n,a,b,hm,hg,rfl⟩:=(Dz hB).1 (List.mem_of_find?_eq_some hf2);have hij:j'=j:=by
    have h0:(j':Int)=(j:Int):=by simpa using List.find?_some hf2
    omega
   subst hij;obtain⟨j2,hg2,_,hth⟩:=Fj hB hm;have hij:j2=j':=by
    have e1:=Xv hB.nodup hg;have e2:=Xv hB.nodup hg2;omega
   subst hij;simp only [Int.toNat_natCast];rw [<-hth];cases hv:th l t (.two n a b)
   ·rw [Bool.not_false,Bool.true_and,Bool.not_eq_false'];rw [Ml];obtain⟨v,hr,he⟩:=hF.com w trivial n a b hm (by rw [<-hw _ hm];exact hv);obtain⟨_,hca,hcb,hla,hlb,_⟩:=hB.closed.com n a b hm
    have lift:∀(x y:M.W),Rch (Lp lg (l.map Ql) (fun _=>True) (thW M) n.g a) x y->∀t,t < 2^l.length->(∀s∈l.map Ql,th l t s=thW M x s)->
     ∃u,u < 2^l.length/\(∀s∈l.map Ql,th l u s=thW M y s)/\Rch (Lp lg (l.map Ql) (fun t=>al.getD t false=true) (th l) n.g a) t u:=by
     intro x y hxy
     induction hxy with
     |@one x y h =>
      intro t ht htx;obtain⟨u,hu,huy⟩:=Of hB y;obtain⟨_,hx,i,hi,hg,hp⟩:=h;exact⟨u,hu,huy,.one ⟨hS u y hu huy,by rw [Mb huy hca hla];exact hx,i,hi,hg,Eg hB htx huy hp⟩⟩
     |@cons x y z h _ ih =>
      intro t ht htx;obtain⟨u,hu,huy⟩:=Of hB y;obtain⟨_,hx,i,hi,hg,hp⟩:=h;obtain⟨u2,h1,h2,h3⟩:=ih u hu huy;exact⟨u2,h1,h2,.cons ⟨hS u y hu huy,by rw [Mb huy hca hla];exact hx,i,hi,hg,Eg hB htx huy hp⟩ h3⟩
    obtain⟨u,hu,huv,hru⟩:=lift w v hr t ht hw;exact⟨u,hru.mono (fun x y hxy=>(Qjl hB hl hm x y).2 hxy),by rw [(Wb hB hm hu).2,Mb huv hcb hlb];exact he⟩
   rfl
end
theorem Qk2 {lg:Int} {ks:List Kn} {cs:List Cm} {m:Nat} {al:List Bool} {t:Nat} {i:Int}(h:Nj lg ks cs m al t=some i):Yy lg ks cs al t i=true:=by
 unfold Nj at h;exact List.find?_some h
theorem Qk1 {lg:Int} {ks:List Kn} {cs:List Cm} {m:Nat} {al:List Bool} {t:Nat}(h:Nj lg ks cs m al t=none)(i:Int)(h0: -4<=i)(h1:i < m):Yy lg ks cs al t i=false:=by
 unfold Nj at h;rw [List.find?_eq_none]at h;have:=h i (List.mem_map.2 ⟨(i+4).toNat,List.mem_range.2 (by omega),by omega⟩)
 simpa using this
theorem Qgs(why:List Bool->Nat->Option Int):∀(k:Nat) (s:List Bool×List (Nat×Int)),Qpv s.1 (Ui why k s).1:=fun k s =>
 Wn (S:=fun al=>Qpv s.1 al) (fun al t _i h _ _ u hu=>h u (Qwb al t u hu)) k s (fun _ h=>h)
theorem Qhp {α:Type}(g:Nat->α)(d:α) {n k:Nat}(h:k < n):((List.range n).map g).getD k d=g k:=by
 rw [Qk,List.getElem?_map,List.getElem?_range h];rfl
structure Uo (lg:Int) (f:List Nd):Prop where
 l0:0<=lg
 l6:lg<=6
 ck:check f=0
 x:Xf (Vq (Ql f))
 e:Jd f=Qf (Vq (Ql f))
 b:Rl (Qn f).1 (Vq (Ql f))
theorem Ra {f:List Nd}(h:(Qn f).2=0):check f=0/\Kl f=false/\(Jd f).length≠0/\Qn f=Vx (Jd f):=by
 unfold Qn at h⊢;cases hc:check f !=0
 ·rw [hc]at h;cases hl:Kl f
  ·rw [hl]at h;cases hz:decide ((Jd f).length=0)
   ·exact⟨by simpa using hc,rfl,of_decide_eq_false hz,rfl⟩
   rw [hz]at h;cases h
  rw [hl]at h;cases h
 rw [hc]at h;exact absurd h (by simpa using hc)
theorem Sy {lg:Int} {f:List Nd}(h:Zd lg f=0):Uo lg f:=by
 unfold Zd at h;cases ha:decide (lg < 0)||decide (6 < lg)
 ·rw [ha]at h;rw [Bool.or_eq_false_iff,decide_eq_false_iff_not,decide_eq_false_iff_not]at ha;obtain⟨h1,h2,h3,h4⟩:=Ra h;obtain⟨hx,he⟩:=Qq5 h1 h2 h3;have h5:(Vx (Qf (Vq (Ql f)))).2=0:=by rw [<-he,<-h4];exact h
  have hb:=Qdz hx h5;rw [<-he,<-h4]at hb;exact⟨by omega,by omega,h1,hx,he,hb⟩
 rw [ha]at h;cases h
section
variable {lg:Int} {f:List Nd}
theorem Bi(lg:Int)(l:List (List Nd)):(Yf lg l).length=2^l.length:=by simp [Yf]
theorem Wj {l:List (List Nd)} {t:Nat}(ht:t < 2^l.length):(Yf lg l).getD t false=Ys lg (Zg l) (Zc l) t:=Qhp _ _ ht
theorem Rj:(Xe lg f).1.length=2^(Qn f).1.length:=by
 unfold Xe Hs;rw [Qgn];exact Bi _ _
theorem Qjn(h:Uo lg f) {t:Nat}(ht:t < 2^(Qn f).1.length):(Xo f).getD t false=ev (th (Qn f).1 t) (Vq (Ql f)):=by
 unfold Xo;rw [h.e,Qqd h.x.check ht,h.x.tree]
theorem Qcs(h:Uo lg f):Kv lg f=true↔∃t,(Xe lg f).1.getD t false=true/\ev (th (Qn f).1 t) (Vq (Ql f))=true:=by
 unfold Kv Kg;rw [List.any_eq_true];constructor
 ·rintro⟨t,ht,h2⟩;rw [Bool.and_eq_true]at h2;have ht:=List.mem_range.1 ht;rw [Rj]at ht;exact⟨t,h2.1,by rw [<-Qjn h ht];exact h2.2⟩
 rintro⟨t,h1,h2⟩;have ht:=Kt h1;refine⟨t,List.mem_range.2 ht,?_⟩;rw [Rj]at ht;rw [Bool.and_eq_true,Qjn h ht];exact⟨h1,h2⟩
theorem Qpo(h:Uo lg f):Pc lg ((Qn f).1.map Ql) (fun t=>(Xe lg f).1.getD t false=true) (th (Qn f).1):=by
 refine Qey h.b Rj (fun t ht=> ?_) (fun t ht i h0 h1=> ?_)
 ·have hs:=Qgs (Nj lg (Zg (Qn f).1) (Zc (Qn f).1) (Qn f).1.length) _ (Yf lg (Qn f).1,[]) t ht;have hl:=Kt hs;rw [Bi]at hl;rw [<-Wj hl];exact hs
 have:=Qzo (why:=Nj lg (Zg (Qn f).1) (Zc (Qn f).1) (Qn f).1.length) ((Yf lg (Qn f).1).length+1) (Yf lg (Qn f).1,[]) (by have:=Qj7 (Yf lg (Qn f).1);show cnt (Yf lg (Qn f).1) < _;omega) t ht;exact Qk1 this i h0 h1
theorem Qb1(h:Uo lg f) {M:KM}(hM:M.In lg):Ib (Qn f).1 M (Yf lg (Qn f).1):=fun t w ht hw=>by
 rw [Wj ht,Qvv h.b ht];have hc:=Qk5 h.b.closed hM w;refine⟨fun n a b hm=> ?_,fun hr n a hm hth=> ?_⟩
 ·rw [hw _ hm,hc.com n a b hm];constructor
  ·intro k i hi hg;rw [hw _ ((h.b.closed.com n a b hm).2.2.2.2.2 i hi hg)];exact k i hi hg
  intro k i hi hg;rw [<-hw _ ((h.b.closed.com n a b hm).2.2.2.2.2 i hi hg)];exact k i hi hg
 obtain⟨_,hca,hla,_,_⟩:=h.b.closed.know n a hm;rw [Mb hw hca hla];exact hc.know hr n a hm (by rw [<-hw _ hm];exact hth)
theorem Qld(h:Uo lg f) {M:KM}(hM:M.In lg)(al:List Bool)(t:Nat)(i:Int)(hl:al.length=2^(Qn f).1.length)(hS:Ib (Qn f).1 M al)(hk:Yy lg (Zg (Qn f).1) (Zc (Qn f).1) al t i=true):Ib (Qn f).1 M (al.set t false):=fun u w hu hw=>by
 rw [Qfm];cases e:u==t
 ·exact hS u w hu hw
 have:u=t:=by simpa using e
 subst this;rw [Qb6 h.b hM h.l6 hl hS hu hw i]at hk;cases hk
theorem Qtm(h:Uo lg f) {M:KM}(hM:M.In lg):Ib (Qn f).1 M (Xe lg f).1:=by
 have:=Wn (why:=Nj lg (Zg (Qn f).1) (Zc (Qn f).1) (Qn f).1.length) (S:=fun al=>al.length=2^(Qn f).1.length/\Ib (Qn f).1 M al)
  (fun al t i hS _ hw=>⟨by rw [List.length_set];exact hS.1,Qld h hM al t i hS.1 hS.2 (Qk2 hw)⟩) ((Yf lg (Qn f).1).length+1) (Yf lg (Qn f).1,[]) ⟨Bi _ _,Qb1 h hM⟩
 exact this.2
theorem Qkm(h:Uo lg f):Kv lg f=true↔∃M:KM,M.In lg/\∃w,M.sat (Ql f) w:=by
 rw [Qcs h];constructor
 ·rintro⟨t,h1,h2⟩;have hF:=Qpo h;refine⟨Dd lg ((Qn f).1.map Ql) (fun t=>(Xe lg f).1.getD t false=true) (th (Qn f).1),Qdi hF h.l6,⟨t,h1⟩,?_⟩;exact(My (M:=Dd lg ((Qn f).1.map Ql) (fun t=>(Xe lg f).1.getD t false=true) (th (Qn f).1)) (Ql f) ⟨t,h1⟩).1 ((La h.b.closed hF _ h.b.cov h.x.xp.lang h.x.xp.fact ⟨t,h1⟩).1 h2)
 rintro⟨M,hM,w,hw⟩;obtain⟨t,ht,htw⟩:=Of h.b w;refine⟨t,Qtm h hM t w ht htw,?_⟩;rw [Mb htw h.b.cov h.x.xp.lang,evW w h.b.cov h.x.xp.lang,My];exact hw
theorem Qtd(h0:Zd lg f=0)(hs:Kv lg f=false):Bk lg f ((Xe lg f).2.map Prod.fst) ((Xe lg f).2.map Prod.snd)=0:=by
 unfold Bk;have he:(Zd lg f !=0)=false:=by simpa using h0
 have hl:(((Xe lg f).2.map Prod.fst).length !=((Xe lg f).2.map Prod.snd).length)=false:=by simp
 rw [he,hl];simp only [cond_false];have hr:Fv (Yy lg (Zg (Qn f).1) (Zc (Qn f).1)) (Yf lg (Qn f).1) (Xe lg f):=by
  have h0:Fv (Yy lg (Zg (Qn f).1) (Zc (Qn f).1)) (Yf lg (Qn f).1) (Yf lg (Qn f).1,[]):=by
   unfold Fv;simp only [List.map_nil,Uy]
  have:=Wr (why:=Nj lg (Zg (Qn f).1) (Zc (Qn f).1) (Qn f).1.length) (fun al t i hw=>Qk2 hw) ((Yf lg (Qn f).1).length+1) (Yf lg (Qn f).1,[]) h0;unfold Xe Hs;exact this
 unfold Fv at hr;rw [hr];show(bif Kg (Xe lg f).1 (Xo f)then(13:Int)else 0)=0;unfold Kv at hs;rw [hs];rfl
end
open Go.RowKit
def Mk(m:Nat)(w:World)(vo u:Value):Prop:=∀g,u.ownBlock=some g->g < w.heap.size/\vo.ownBlock≠some g/\m<=g
theorem Mk.ext {m:Nat} {w w':World} {vo u:Value}(h:Mk m w vo u)(he:Ext w w'):Mk m w' vo u:=fun g hg=>⟨Qy (h g hg).1 he.size,(h g hg).2⟩
theorem Qvp:(Tryz.prog.info? 22).map (fun i=>(i.zero,i.size,i.bytes))=some (some (.slice none 0 0),1,24):=by kernel_rfl
theorem Nds.keepF {w w':World} {v:Value} {l:List Nd}(h:Nds w v l)(hb:∀g,v.ownBlock=some g->g < w.heap.size->w'.heap[g]?=w.heap[g]?)(hs:w.heap.size<=w'.heap.size):Nds w' v l:=by
 obtain⟨A,c,rfl,h1,h2,h3⟩:=h;refine⟨A,c,rfl,h1,h2,fun hn=> ?_⟩;obtain⟨ad,rfl,hlt,hc⟩:=h3 hn;refine⟨ad,rfl,Qy hlt hs,fun k n hk=>(hc k n hk).keep fun p hp=>World.cell?_of_block ?_⟩;rw [hp,Qp];exact hb ad.block rfl hlt
structure Vy (w0 w:World) (vo:Value) (out:List (List Nd)):Prop where
 ext:Ext w0 w
 row:∃us,w.ownsRow w0.heap.size 22 1 vo out.length us/\∀(k:Nat) (s:List Nd),out[k]?=some s->∃u,us[k]?=some u/\Fml w u s/\Mk w0.heap.size w vo u
theorem Vy.ext_ {w0 w w':World} {vo:Value} {out:List (List Nd)}(h:Vy w0 w vo out)(he:Ext w w'):Vy w0 w' vo out:=by
 obtain⟨us,hr,hu⟩:=h.row;refine⟨h.ext.trans he,us,Zf hr he,fun k s hk=> ?_⟩;obtain⟨u,a,b,c⟩:=hu k s hk;exact⟨u,a,b.ext he,c.ext he⟩
theorem Vy.nil(w:World):Vy w w (.slice none 0 0) []:=⟨Qz,[],World.ownsRow_nil _ _ _ _,fun k s h=>by simp at h⟩
theorem Tf {w:World} {base n:Nat} {t:TypeId} {v:Value} {us:List Value}(h:w.ownsRow base t 1 v n us)(hn:0 < n):
 ∃g cap,v=.slice (some ⟨g,0,none⟩) n cap/\g < w.heap.size/\n<=cap/\cap<=maxLen/\∀i z,us[i]?=some z->w.cell? ⟨g,i,none⟩=some z:=by
 rcases h.2 with⟨_,h0⟩|⟨g,cap,cur,rfl,_,hg,hnc,hm,hs,ht⟩
 ·omega
 refine⟨g,cap,rfl,Qm hg,hnc,hm,fun i z h1=> ?_⟩;rw [<-ht,List.getElem?_take]at h1
 split at h1
 ·have h2:cur[i]?=some z:=by simpa using h1
  simp [World.cell?,hg,h2]
 cases h1
theorem Vy.keep {w0 w w':World} {vo:Value} {out:List (List Nd)}(h:Vy w0 w vo out)(hb:∀g,w0.heap.size<=g->g < w.heap.size->w'.heap[g]?=w.heap[g]?)(hs:w.heap.size<=w'.heap.size)(he:Ext w0 w'):Vy w0 w' vo out:=by
 obtain⟨us,hr,hu⟩:=h.row;refine⟨he,us,⟨hr.1,?_⟩,fun k s hk=> ?_⟩
 ·rcases hr.2 with h0|⟨g,cap,cur,e,h1,h2,h3,h4,h5,h6⟩
  ·exact .inl h0
  exact .inr ⟨g,cap,cur,e,h1,(hb g h1 (Qm h2)).trans h2,h3,h4,h5,h6⟩
 obtain⟨u,a,b,c⟩:=hu k s hk;exact⟨u,a,⟨b.1.keepF (fun g hg _=>hb g (c g hg).2.2 (c g hg).1) hs,b.2⟩,fun g hg=>⟨Qy (c g hg).1 hs,(c g hg).2⟩⟩
theorem Vy.fmls {w0 w:World} {vo:Value} {out:List (List Nd)}(h:Vy w0 w vo out):Fl w vo out:=by
 obtain⟨ss,hs,hv⟩:=h.row;by_cases h0:0 < out.length
 ·obtain⟨g,cap,rfl,hg,h1,h2,hc⟩:=Tf hs h0;refine⟨_,cap,rfl,h1,h2,fun _=>⟨_,rfl,hg,fun k f hk=> ?_⟩⟩;obtain⟨u,a,b,_⟩:=hv k f hk;exact⟨u,by rw [Un];exact hc k u a,b⟩
 have e:out= []:=List.length_eq_zero_iff.1 (by omega);subst e;obtain⟨A,c,rfl⟩:=Qt hs;rcases hs.2 with⟨e,_⟩|⟨g,cap,cur,e,_,_,hn,hm,_⟩
 ·injection e with e1 _ e2;subst e1 e2;exact⟨_,_,rfl,Nat.le_refl _,by unfold maxLen;omega,fun h=>absurd rfl h⟩
 injection e with e1 _ e2;subst e1 e2;exact⟨_,_,rfl,Nat.zero_le _,hm,fun h=>absurd rfl h⟩
theorem Vy.push {w0 W w4:World} {vo v' x:Value} {out:List (List Nd)} {s:List Nd} {ss:List Value}(he:Ext w0 W)(hs:W.ownsRow w0.heap.size 22 1 vo out.length ss)(hv:∀(k:Nat) (s:List Nd),out[k]?=some s->∃u,ss[k]?=some u/\Fml W u s/\Mk w0.heap.size W vo u)
 (hrow:w4.ownsRow w0.heap.size 22 1 v' (out.length+1) (ss++ [x]))(hg:W.grownBy w4 vo.ownBlock)(hat:v'.ownBlock=vo.ownBlock\/v'.ownBlock=some W.heap.size)(hx:Fml W x s)(hxf:Mk w0.heap.size W vo x):
 Vy w0 w4 v' (out++ [s]):=by
 have hlen:ss.length=out.length:=by simpa using hs.1
 have hkeep:∀g,g < W.heap.size->vo.ownBlock≠some g->w4.heap[g]?=W.heap[g]?:=fun g h1 h2=>hg.block g h1 (fun e=>h2 e.symm)
 have haway:∀u,Mk w0.heap.size W vo u->Mk w0.heap.size w4 v' u:=fun u hu g hgu=>by
  obtain⟨a,b,hm⟩:=hu g hgu;refine⟨Qy a hg.size,fun e=> ?_,hm⟩;rcases hat with e1|e1
  ·exact b (e1.symm.trans e)
  rw [e1]at e;injection e with e;omega
 have hfml:∀u s,Mk w0.heap.size W vo u->Fml W u s->Fml w4 u s:=fun u s ha hi=>⟨hi.1.keepF (fun g hg' _=>hkeep g (ha g hg').1 (ha g hg').2.1) hg.size,hi.2⟩
 refine⟨he.grown hg (fun g hg'=>(hs.lt g hg').1),ss++ [x],by rw [List.length_append];exact hrow,fun k s' hk=> ?_⟩;by_cases hk':k < out.length
 ·rw [List.getElem?_append_left hk']at hk;obtain⟨u,a,b,c⟩:=hv k s' hk;exact⟨u,by rw [List.getElem?_append_left (by omega)];exact a,hfml u s' c b,haway u c⟩
 rw [List.getElem?_append_right (by omega)]at hk;have hk0:k=out.length:=by
  by_cases e:k - out.length=0
  ·omega
  rw [List.getElem?_eq_none (by simp;omega)]at hk;cases hk
 subst hk0;simp at hk;subst hk;exact⟨x,by rw [List.getElem?_append_right (by omega),hlen];simp,hfml x _ hxf hx,haway x hxf⟩
theorem Rd {w W:World} {vo x:Value} {B n k:Nat} {us zs:List Value} {e:TypeId} {sz m:Nat}(hB:w.heap.size<=B)(hx:W.ownsRow B e sz x n zs)(hs:w.ownsRow m 22 1 vo k us)(hm:m<=w.heap.size):Mk m W vo x:=fun g hg=>by
 obtain⟨h1,h2⟩:=hx.lt g hg;exact⟨h2,fun e=>by have:=(hs.lt g e).2;omega,by omega⟩
def Qyj(p:List Nd->Bool)(l:List (List Nd)):Int:=match l.findIdx? p with|none=> -1|some j=>j
theorem Qq7(p:List Nd->Bool):∀(l:List (List Nd)) (k:Nat) (s:List Nd),l[k]?=some s->p s=true->(∀t∈l.take k,p t=false)->l.findIdx? p=some k
 |[],k,s,h,_,_=>by simp at h
 |a :: r,0,s,h,hp,_=>by
  simp only [List.getElem?_cons_zero,Option.some.injEq]at h;subst h;rw [List.findIdx?_cons,hp];rfl
 |a :: r,k+1,s,h,hp,hn=>by
  have ha:p a=false:=hn a (by simp);rw [List.findIdx?_cons,ha,Qq7 p r k s (by simpa using h) hp (fun t ht=>hn t (by simp [ht]))];rfl
theorem Wp(p:List Nd->Bool):∀(l:List (List Nd)),(∀t∈l,p t=false)->l.findIdx? p=none
 |[],_=>by simp
 |a :: r,hn=>by
  rw [List.findIdx?_cons,hn a (by simp),Wp p r (fun t ht=>hn t (by simp [ht]))];rfl
theorem Qrc(g:Nat)(lb:Array Value)(eg:∀args w,(callFunc g args).run Tryz.prog w=.ok (.enter g args) w)(p:List Nd->Bool)(v:Value)(l:List (List Nd))(w:World)(h:Fl w v l)
 (hp:∀(W:World) (u:Value) (s:List Nd),Ext w W->Fml W u s->Calls Tryz.prog g (#[u]++lb) W fun e w'=>e=.returned (.bool (p s))/\Ext W w'):
 Calls Tryz.prog 178 #[v,.func (.func g) #[] lb] w fun e w'=>e=.returned (.int .i64 (Qyj p l))/\Ext w w':=by
 obtain⟨A,c,rfl,hcap,hmax,hr⟩:=h;unfold maxLen at hmax;have HR:=Qq hr;have HP:=Qq hp;clear hr hp;go_enter Tryz.func178,Tryz.ntmps178;go_wp2_with fail;go_loopw [5,8] (fun _ i wr=>∃k:Nat,k<=l.length/\i=.int .i64 (k:Int)/\Hid (∀t∈l.take k,p t=false)/\Hid (Ext w wr)) (fun _ i _=>l.length - (intOf i).toNat)
 case atStart=>exact⟨0,Nat.zero_le _,rfl,Qq (by simp),Qq Qz⟩
 case round =>
  obtain⟨k,hk,rfl,HNI,HX⟩:=hrel;by_cases hlt2:k < l.length
  ·obtain⟨s,hs⟩:∃s,l[k]?=some s:=⟨_,Qv hlt2⟩;obtain⟨ad,rfl,hb1,hc1⟩:=HR.out (by intro e;rw [e]at hlt2;simp at hlt2);obtain⟨u,hu,hf⟩:=hc1 k s hs;have a0:=(HX.out.cell (p:=ad.add k) (Qj hb1)).trans hu;have HF:=Qq (hf.ext HX.out);have HA:=Qq hs;have hk1:(k:Int) < (l.length:Int):=by omega
   clear hs hc1 hf hu;cases hps:p s
   ·have HT:Hid (∀t∈l.take (k+1),p t=false):=Qq (by
     rw [Yh HA.out];intro t ht;rcases List.mem_append.1 ht with ht|ht
     ·exact HNI.out t ht
     rw [List.mem_singleton.1 ht];exact hps)
    go_wp2_with(refine(HP.out _ u s (by exact HX.out.trans (by repeat(first|exact Qz|assumption|apply Ext.alloc|apply Ext.drew))) (by exact HF.out.ext (by repeat(first|exact Qz|assumption|apply Ext.alloc|apply Ext.drew)))).mono ?_;rintro e w1 ⟨rfl,hx⟩;rw [hps]);go_roundw
    case rel=>exact⟨k+1,by omega,by go_num,HT,Qq (HX.out.trans (by first|exact hx|exact Ext.trans (by repeat(first|exact Qz|assumption|apply Ext.alloc|apply Ext.drew)) hx))⟩
    case measure=>simp [intOf];omega
   have HE:=Qq (show Qyj p l=(k:Int) by unfold Qyj;rw [Qq7 p l k s HA.out hps HNI.out]);go_wp2_with(refine(HP.out _ u s (by exact HX.out.trans (by repeat(first|exact Qz|assumption|apply Ext.alloc|apply Ext.drew))) (by exact HF.out.ext (by repeat(first|exact Qz|assumption|apply Ext.alloc|apply Ext.drew)))).mono ?_;rintro e w1 ⟨rfl,hx⟩;rw [hps]);go_ret;exact⟨by rw [HE.out] <;> rfl,HX.out.trans (by first|exact hx|exact Ext.trans (by repeat(first|exact Qz|assumption|apply Ext.alloc|apply Ext.drew)) hx)⟩
  obtain rfl:l.length=k:=by omega
  have HE:=Qq (show Qyj p l= -1 by
   unfold Qyj;rw [Wp p l (fun t ht=>HNI.out t (by rw [List.take_of_length_le (Nat.le_refl _)];exact ht))])
  go_wp2_with fail;go_ret;exact⟨by rw [HE.out] <;> rfl,HX.out⟩
def Dh(w:World)(A:Option Addr)(c:Nat)(l:List Bool):Prop :=
 l.length<=c/\c<=maxLen/\(l≠ []->∃ad,A=some ad/\ad.block < w.heap.size/\∀k z,l[k]?=some z->w.cell? (ad.add k)=some (.bool z))
def Va(w:World)(v:Value)(l:List Bool):Prop:=∃A c,v=.slice A l.length c/\Dh w A c l
section
variable {w w':World} {v:Value}
theorem Dh.ext {A:Option Addr} {c:Nat} {l:List Bool}(h:Dh w A c l)(he:Ext w w'):Dh w' A c l :=
 ⟨h.1,h.2.1,fun hn=>by
  obtain⟨ad,e,hlt,hc⟩:=h.2.2 hn;exact⟨ad,e,Qy hlt he.size,fun k z hk=>(he.cell (Qj hlt)).trans (hc k z hk)⟩⟩
theorem Va.ext {l:List Bool}(h:Va w v l)(he:Ext w w'):Va w' v l:=by
 obtain⟨A,c,e,h⟩:=h;exact⟨A,c,e,h.ext he⟩
end
def Vr(base:Nat)(w:World)(g:Nat)(l:List Bool):Prop:=w.ownsRow base 4 1 (.slice (some ⟨g,0,none⟩) l.length l.length) l.length (l.map Value.bool)
section
variable {base:Nat} {w w':World} {g:Nat} {l:List Bool}
theorem Vr.cell(h:Vr base w g l) {j:Nat} {b:Bool}(hj:l[j]?=some b):w.cell? ⟨g,j,none⟩=some (.bool b):=by
 have hl:=(List.getElem?_eq_some_iff.1 hj).1;rw [World.ownsRow.cellAt h j (by omega),List.getElem?_map,hj];rfl
theorem Vr.frozen(h:Vr base w g l)(j:Nat):w.frozen? ⟨g,j,none⟩=false:=World.ownsRow.frozenAt h j
theorem Vr.lt(h:Vr base w g l):base<=g/\g < w.heap.size:=World.ownsRow.lt h g rfl
theorem Vr.set(h:Vr base w g l)(j:Nat)(b:Bool):Vr base (w.setCell ⟨g,j,none⟩ (.bool b)) g (l.set j b)/\w.grownBy (w.setCell ⟨g,j,none⟩ (.bool b)) (some g):=by
 obtain⟨h1,h2⟩:=World.ownsRow.stored h j (.bool b);refine⟨?_,h2⟩;unfold Vr;rw [List.length_set,<-List.map_set]at *;exact h1
theorem Vr.ext(h:Vr base w g l)(he:Ext w w'):Vr base w' g l:=Zf h he
theorem Vr.base_ {b':Nat}(h:Vr base w g l)(hb:b'<=base):Vr b' w g l:=Xk h hb
theorem Vr.bools(h:Vr base w g l):Va w (.slice (some ⟨g,0,none⟩) l.length l.length) l:=by
 refine⟨_,_,rfl,Nat.le_refl _,?_,fun hn=>⟨_,rfl,h.lt.2,fun k z hk=> ?_⟩⟩
 ·have h2:=h.2;rcases h2 with⟨e,_⟩|⟨g',cap,cur,e,_,_,_,hm,_⟩
  ·cases e
  injection e with _ _ e;rw [e];exact hm
 rw [Un];exact h.cell hk
end
theorem Qr4(n:Nat):(madeCells (Value.cells (.bool false)) (n*1)).toList=(List.replicate n false).map Value.bool:=by
 simp only [madeCells,Value.cells,Nat.mul_one,Array.toList_map,Array.toList_range,List.map_replicate];refine List.ext_getElem (by simp) fun i h1 h2=> ?_
 simp [Nat.mod_one]
def Qxe(w:World)(a:Addr)(k:Kn):Prop :=
 ∃vh,w.cell? a=some (.int .i64 k.agent)/\w.cell? ⟨a.block,a.off+1,none⟩=some (.int .i64 (k.place:Int))/\w.cell? ⟨a.block,a.off+2,none⟩=some vh/\Va w vh k.holds
def Id(w:World)(A:Option Addr)(c:Nat)(l:List Kn):Prop :=
 l.length<=c/\c<=maxLen/\(l≠ []->∃ad,A=some ad/\ad.block < w.heap.size/\∀k n,l[k]?=some n->Qxe w (ad.add (k*3)) n)
def Kns(w:World)(v:Value)(l:List Kn):Prop:=∃A c,v=.slice A l.length c/\Id w A c l
def Qxc(w:World)(a:Addr)(k:Cm):Prop :=
 ∃vx vy,w.cell? a=some (.int .i64 (k.place:Int))/\w.cell? ⟨a.block,a.off+1,none⟩=some (.int .i64 k.group)/\w.cell? ⟨a.block,a.off+2,none⟩=some vx/\w.cell? ⟨a.block,a.off+3,none⟩=some vy/\
  w.cell? ⟨a.block,a.off+4,none⟩=some (.int .u64 (k.parts:Int))/\Va w vx k.x/\Va w vy k.y
def If(w:World)(A:Option Addr)(c:Nat)(l:List Cm):Prop :=
 l.length<=c/\c<=maxLen/\(l≠ []->∃ad,A=some ad/\ad.block < w.heap.size/\∀k n,l[k]?=some n->Qxc w (ad.add (k*5)) n)
def Cms(w:World)(v:Value)(l:List Cm):Prop:=∃A c,v=.slice A l.length c/\If w A c l
section
variable {w w':World} {v:Value} {a:Addr}
theorem Qxe.ext {k:Kn}(h:Qxe w a k)(he:Ext w w')(ha:a.block < w.heap.size):Qxe w' a k:=by
 obtain⟨vh,h0,h1,h2,h3⟩:=h;have hk:∀o s,w'.cell? ⟨a.block,o,s⟩=w.cell? ⟨a.block,o,s⟩:=fun o s=>he.cell (p:=⟨a.block,o,s⟩) ha
 exact⟨vh,(hk _ _).trans h0,(hk _ _).trans h1,(hk _ _).trans h2,h3.ext he⟩
theorem Qxc.ext {k:Cm}(h:Qxc w a k)(he:Ext w w')(ha:a.block < w.heap.size):Qxc w' a k:=by
 obtain⟨vx,vy,h0,h1,h2,h3,h4,h5,h6⟩:=h;have hk:∀o s,w'.cell? ⟨a.block,o,s⟩=w.cell? ⟨a.block,o,s⟩:=fun o s=>he.cell (p:=⟨a.block,o,s⟩) ha
 exact⟨vx,vy,(hk _ _).trans h0,(hk _ _).trans h1,(hk _ _).trans h2,(hk _ _).trans h3,(hk _ _).trans h4,h5.ext he,h6.ext he⟩
theorem Id.ext {A:Option Addr} {c:Nat} {l:List Kn}(h:Id w A c l)(he:Ext w w'):Id w' A c l :=
 ⟨h.1,h.2.1,fun hn=>by
  obtain⟨ad,e,hlt,hc⟩:=h.2.2 hn;exact⟨ad,e,Qy hlt he.size,fun k n hk=>(hc k n hk).ext he (Qj hlt)⟩⟩
theorem If.ext {A:Option Addr} {c:Nat} {l:List Cm}(h:If w A c l)(he:Ext w w'):If w' A c l :=
 ⟨h.1,h.2.1,fun hn=>by
  obtain⟨ad,e,hlt,hc⟩:=h.2.2 hn;exact⟨ad,e,Qy hlt he.size,fun k n hk=>(hc k n hk).ext he (Qj hlt)⟩⟩
theorem Kns.ext {l:List Kn}(h:Kns w v l)(he:Ext w w'):Kns w' v l:=by
 obtain⟨A,c,e,h⟩:=h;exact⟨A,c,e,h.ext he⟩
theorem Cms.ext {l:List Cm}(h:Cms w v l)(he:Ext w w'):Cms w' v l:=by
 obtain⟨A,c,e,h⟩:=h;exact⟨A,c,e,h.ext he⟩
end
structure Eng (w:World) (b:Nat) (lg:Int) (base:List (List Nd)) (root:List Bool) (ks:List Kn) (cs:List Cm) (alive:List Bool):Prop where
 all:∃vb vr vk vc va,w.heap[b]?=some (.cells #[.int .i64 lg,vb,vr,vk,vc,va] 93 (0,0))/\Fl w vb base/\Va w vr root/\Kns w vk ks/\Cms w vc cs/\Va w va alive
section
variable {w w':World} {b:Nat} {lg:Int} {base:List (List Nd)} {root:List Bool} {ks:List Kn} {cs:List Cm} {alive:List Bool}
theorem Eng.ext(h:Eng w b lg base root ks cs alive)(he:Ext w w'):Eng w' b lg base root ks cs alive:=by
 obtain⟨vb,vr,vk,vc,va,hb,h1,h2,h3,h4,h5⟩:=h.all;exact⟨vb,vr,vk,vc,va,(he.block (Qm hb)).trans hb,h1.ext he,h2.ext he,h3.ext he,h4.ext he,h5.ext he⟩
theorem Eng.cells(h:Eng w b lg base root ks cs alive):∃Ab cb Ar cr Ak ck Ac cc Aa ca,w.cell? ⟨b,0,none⟩=some (.int .i64 lg)/\w.cell? ⟨b,1,none⟩=some (.slice Ab base.length cb)/\w.cell? ⟨b,2,none⟩=some (.slice Ar root.length cr)/\
 w.cell? ⟨b,3,none⟩=some (.slice Ak ks.length ck)/\w.cell? ⟨b,4,none⟩=some (.slice Ac cs.length cc)/\w.cell? ⟨b,5,none⟩=some (.slice Aa alive.length ca)/\b < w.heap.size/\
 Fl w (.slice Ab base.length cb) base/\Dh w Ar cr root/\Id w Ak ck ks/\If w Ac cc cs/\Dh w Aa ca alive:=by
 obtain⟨vb,vr,vk,vc,va,hb,h1,⟨Ar,cr,rfl,h2⟩,⟨Ak,ck,rfl,h3⟩,⟨Ac,cc,rfl,h4⟩,⟨Aa,ca,rfl,h5⟩⟩:=h.all;obtain⟨⟨d0,d1,d2,d3,d4,d5⟩,_,hl⟩:=Yx hb;have h1':=h1;obtain⟨Ab,cb,rfl,_⟩:=h1;exact⟨Ab,cb,Ar,cr,Ak,ck,Ac,cc,Aa,ca,d0,d1,d2,d3,d4,d5,hl,h1',h2,h3,h4,h5⟩
end
structure Zzw (base:List (List Nd)) (root:List Bool) (ks:List Kn) (cs:List Cm) (alive:List Bool):Prop where
 len:base.length<=12
 m:alive.length=2^base.length
 root:root.length=2^base.length
 kn:∀k∈ks,k.place < base.length/\k.holds.length=2^base.length/\Yj k.agent
 cm:∀c∈cs,c.place < base.length/\c.x.length=2^base.length/\c.y.length=2^base.length/\c.parts < 18446744073709551616/\0<=c.group/\c.group < 16
 klen:ks.length<=12
 clen:cs.length<=12
theorem Qxl {n:Nat}(h:n<=12):2^n<=4096:=Nat.pow_le_pow_right (by decide) h
theorem Vh {w:World} {A:Option Addr} {c:Nat} {l:List Bool}(h:Dh w A c l) {k:Nat}(hk:k < l.length):∃ad,A=some ad/\ad.block < w.heap.size/\w.cell? (ad.add k)=some (.bool (l.getD k false)):=by
 obtain⟨ad,e,hb,hc⟩:=h.2.2 (by intro e;rw [e]at hk;simp at hk);refine⟨ad,e,hb,hc k _ ?_⟩;rw [Qk,Qv hk];rfl
theorem Qxf(b:Nat)(lg:Int)(w:World)(d0:w.cell? ⟨b,0,none⟩=some (.int .i64 lg)):
 Calls Tryz.prog 184 #[.pointer (some ⟨b,0,none⟩)] w fun e w'=>e=.returned (.bool (Fz lg))/\w=w':=by
 cases h2:lg==2
 ·cases h4:lg==4
  ·cases h6:lg==6
   ·have HE:=Qq (show Fz lg=false by unfold Fz;rw [h2,h4,h6];rfl);go_enter Tryz.func184,Tryz.ntmps184;go_wp2_with fail;go_ret;exact⟨by rw [HE.out] <;> rfl,rfl⟩
   have HE:=Qq (show Fz lg=true by unfold Fz;rw [h2,h4,h6];rfl);go_enter Tryz.func184,Tryz.ntmps184;go_wp2_with fail;go_ret;exact⟨by rw [HE.out] <;> rfl,rfl⟩
  have HE:=Qq (show Fz lg=true by unfold Fz;rw [h2,h4];rfl);go_enter Tryz.func184,Tryz.ntmps184;go_wp2_with fail;go_ret;exact⟨by rw [HE.out] <;> rfl,rfl⟩
 have HE:=Qq (show Fz lg=true by unfold Fz;rw [h2];rfl);go_enter Tryz.func184,Tryz.ntmps184;go_wp2_with fail;go_ret;exact⟨by rw [HE.out] <;> rfl,rfl⟩
theorem Qwk {al rt:List Bool} {k:Nat}(hk:k < al.length)(h1:al.getD k false=true)(h2:rt.getD k false=true):Kg al rt=true:=by
 unfold Kg;rw [List.any_eq_true];exact⟨k,List.mem_range.2 hk,by rw [h1,h2];rfl⟩
theorem Qhg {al rt:List Bool}(h:∀k,k < al.length->(al.getD k false&&rt.getD k false)=false):Kg al rt=false:=by
 unfold Kg;rw [List.any_eq_false];intro k hk;rw [h k (List.mem_range.1 hk)];simp
theorem Ew(b:Nat)(lg:Int)(base:List (List Nd))(root:List Bool)(ks:List Kn)(cs:List Cm)(alive:List Bool)(w:World)
 (hE:Eng w b lg base root ks cs alive)(hr:root.length=alive.length):
 Calls Tryz.prog 61 #[.pointer (some ⟨b,0,none⟩)] w fun e w'=>e=.returned (.bool (Kg alive root))/\w=w':=by
 obtain⟨Ab,cb,Ar,cr,Ak,ck,Ac,cc,Aa,ca,d0,d1,d2,d3,d4,d5,hbl,_,hroot,_,_,hal⟩:=hE.cells;have HR:=Qq hroot;have HA:=Qq hal;have hac:=hal.1;have hca:=hal.2.1;have hrc:=hroot.1;have hcr:=hroot.2.1;unfold maxLen at hca hcr;rw [hr]at d2 hrc;have HRL:=Qq hr;clear hE hroot hal hr d0 d1 d3 d4;go_enter Tryz.func61,Tryz.ntmps61;go_wp2_with fail;go_loop [10] (fun v=>∃k:Nat,v=.int .i64 (k:Int)/\k<=alive.length/\Hid (∀j,j < k->(alive.getD j false&&root.getD j false)=false)) (fun v=>alive.length - (intOf v).toNat)
 case atStart=>exact⟨0,rfl,Nat.zero_le _,Qq (fun j hj=>absurd hj (by omega))⟩
 case round =>
  obtain⟨k,rfl,hk,HREL⟩:=hrel;by_cases hlt2:k < alive.length
  ·have hk1:(k:Int) < (alive.length:Int):=by omega
   obtain⟨ad,rfl,hb1,a0⟩:=Vh HA.out hlt2;obtain⟨ar,rfl,hb2,r0⟩:=Vh HR.out (show k < root.length by rw [HRL.out];exact hlt2);cases ha:alive.getD k false
   ·rw [ha]at a0;have HN:=Qq (show ∀j,j < k+1->(alive.getD j false&&root.getD j false)=false from fun j hj=>by
     by_cases e:j < k
     ·exact HREL.out j e
     have:j=k:=by omega
     subst this;rw [ha];rfl)
    clear ha;go_wp2_with fail;go_round
    case rel=>exact⟨k+1,by go_num,by omega,HN⟩
    case measure=>simp [intOf];omega
   rw [ha]at a0;cases hrt:root.getD k false
   ·rw [hrt]at r0;have HN:=Qq (show ∀j,j < k+1->(alive.getD j false&&root.getD j false)=false from fun j hj=>by
     by_cases e:j < k
     ·exact HREL.out j e
     have:j=k:=by omega
     subst this;rw [ha,hrt];rfl)
    clear ha hrt;go_wp2_with fail;go_round
    case rel=>exact⟨k+1,by go_num,by omega,HN⟩
    case measure=>simp [intOf];omega
   rw [hrt]at r0;have HE:=Qq (Qwk hlt2 ha hrt);clear ha hrt;go_wp2_with fail;go_ret;exact⟨by rw [HE.out] <;> rfl,rfl⟩
  obtain rfl:alive.length=k:=by omega
  have HE:=Qq (Qhg HREL.out);go_wp2_with fail;go_ret;exact⟨by rw [HE.out] <;> rfl,rfl⟩
end Go.Proofs.YtkmclcmnoicagaaGreatDoor
