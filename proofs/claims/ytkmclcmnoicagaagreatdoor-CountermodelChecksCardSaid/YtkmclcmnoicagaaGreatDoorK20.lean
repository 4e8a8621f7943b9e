/- The engine of a base, by trees: knowledge, common knowledge, coherence, possibility. -/
import Derived.Test.YtkmclcmnoicagaaGreatDoorK18
import Derived.Deep.CutBlock
import Derived.Deep.RegionHeld3
import Derived.Lib.Strings
import Derived.Lib.Slices
import Derived.Lib.Small
import Derived.Lib.Walk
import Derived.Lib.BitFns
namespace Go.Proofs.YtkmclcmnoicagaaGreatDoor
set_option maxRecDepth 100000
set_option maxHeartbeats 128000000
section
variable {l:List (List Nd)} {t0:Tr} (hB:Td l t0)
include hB
theorem Bg {s:Tr}(hs:s∈l.map Qe):∃i,l[i]?=some (Qn s)/\i < l.length/\∀t,th l t s=t.testBit i:=by
 obtain⟨_,hm⟩:=(Vj hB.can).1 hs;obtain⟨i,hi,e⟩:=List.getElem_of_mem hm;have hg:l[i]?=some (Qn s):=by rw [Qv hi,e]
 refine⟨i,hg,hi,fun t=> ?_⟩;unfold th;rw [Xe hB.nodup hg,decide_eq_true (by omega),cond_true,Int.toNat_natCast]
theorem Qyl {i:Nat} {c:List Nd}(hi:l[i]?=some c):∃s,Xf s/\c=Qn s/\Jh s.top=true/\s∈l.map Qe:=by
 obtain⟨s,hs,e,hb⟩:=hB.can c (List.mem_of_getElem? hi);exact⟨s,hs,e,hb,(Vj hB.can).2 ⟨hs,e▸List.mem_of_getElem? hi⟩⟩
theorem Gr {k:Kn} :k∈Zl l↔∃i n a,.one n a∈l.map Qe/\l[i]?=some (Qn (.one n a))/\k=⟨n.i,i,Vq l (Qn a)⟩:=by
 unfold Zl;rw [List.mem_flatMap];constructor
 ·rintro⟨i,hi,hk⟩;have kU:=List.mem_range.1 hi;have hg:l[i]?=some (l.getD i []):=by rw [Qk,Qv kU];rfl
  obtain⟨s,hs,e,hb,hm⟩:=Qyl hB hg;rw [e]at hk hg;unfold Mi at hk;rw [hs.last]at hk;cases ho:s.top.op==9
  ·rw [ho]at hk;cases hk
  rw [ho]at hk;have eD:s.top.op=9:=by simpa using ho
  cases s with
  |leaf n=>have:=hs.xp.1.1.1;rw [show n.op=9 from eD]at this;cases this
  |two n a b=>have:=hs.xp.1.1.2.1;rw [show n.op=9 from eD]at this;cases this
  |one n a =>
   obtain⟨_,e2,_,e4,_⟩:=Qvq hs.check hs.tree;rw [e2,e4]at hk;exact⟨i,n,a,hm,hg,by simpa using hk⟩
 rintro⟨i,n,a,hm,hg,rfl⟩;have kU:=(List.getElem?_eq_some_iff.1 hg).1;obtain⟨hs,_⟩:=(Vj hB.can).1 hm;refine⟨i,List.mem_range.2 kU,?_⟩;have e:l.getD i []=Qn (.one n a):=by rw [Qk,hg];rfl
 obtain⟨e1,e2,_,e4,_⟩:=Qvq hs.check hs.tree;unfold Mi;rw [e,e1,e2,e4,(hB.closed.know n a hm).1];simp
theorem Nl {k:Cm} :k∈Jl l↔∃i n a b,.two n a b∈l.map Qe/\l[i]?=some (Qn (.two n a b))/\k=⟨i,n.g,Vq l (Qn a),Vq l (Qn b),Rv l (Qn (.two n a b))⟩:=by
 unfold Jl;rw [List.mem_flatMap];constructor
 ·rintro⟨i,hi,hk⟩;have kU:=List.mem_range.1 hi;have hg:l[i]?=some (l.getD i []):=by rw [Qk,Qv kU];rfl
  obtain⟨s,hs,e,hb,hm⟩:=Qyl hB hg;rw [e]at hk hg;unfold Lj at hk;rw [hs.last]at hk;cases ho:s.top.op==13
  ·rw [ho]at hk;cases hk
  rw [ho]at hk;obtain⟨n,a,b,rfl,_⟩:=Wl hs (by simpa using ho);obtain⟨_,e2,e3,e4⟩:=Sn hs.check hs.tree;rw [e2,e3,e4]at hk;exact⟨i,n,a,b,hm,hg,by simpa using hk⟩
 rintro⟨i,n,a,b,hm,hg,rfl⟩;have kU:=(List.getElem?_eq_some_iff.1 hg).1;obtain⟨hs,_⟩:=(Vj hB.can).1 hm;refine⟨i,List.mem_range.2 kU,?_⟩;have e:l.getD i []=Qn (.two n a b):=by rw [Qk,hg];rfl
 obtain⟨e1,e2,e3,e4⟩:=Sn hs.check hs.tree;unfold Lj;rw [e,e1,e2,e3,e4,(hB.closed.com n a b hm).1];simp
end
theorem Qdo {lg:Int} :Bx lg=true↔Qf1 lg:=by
 unfold Bx Qf1;simp
theorem Qqh:∀(L:List Nat) (p j:Nat),(L.foldl (fun p x=>p|||2^x) p).testBit j=(p.testBit j||decide (j∈L))
 |[],p,j=>by simp
 |x :: r,p,j=>by
  rw [List.foldl_cons,Qqh r,Nat.testBit_or,Nat.testBit_two_pow];by_cases h:x=j
  ·subst h;simp
  have h':¬j=x:=fun e=>h e.symm
  simp [h,h',List.mem_cons]
theorem Qw8 {t F:Nat} :((t&&&F)==F)=true↔∀j,F.testBit j=true->t.testBit j=true:=by
 rw [beq_iff_eq];constructor
 ·intro h j hj;have:=congrArg (fun x=>x.testBit j) h;simp only [Nat.testBit_and,hj,Bool.and_true]at this;exact this
 intro h;refine Nat.eq_of_testBit_eq fun j=> ?_
 rw [Nat.testBit_and];cases hj:F.testBit j
 ·simp
 rw [h j hj];rfl
section
variable {l:List (List Nd)} {t0:Tr} (hB:Td l t0)
include hB
theorem Qgc {n:Nd} {a b:Tr}(hm:.two n a b∈l.map Qe)(t:Nat):((t&&&Rv l (Qn (.two n a b)))==Rv l (Qn (.two n a b)))=true↔∀i:Nat,i < 4->Vy n.g i=true->th l t (Gb i n a b)=true:=by
 obtain⟨hs,_⟩:=(Vj hB.can).1 hm;obtain⟨_,e2,_,_⟩:=Sn hs.check hs.tree;have hu:∀i,i < 4->Vy n.g i=true->Um i (Qn (.two n a b))=Qn (Gb i n a b):=fun i hi hg=>by
  obtain⟨hx,_⟩:=(Vj hB.can).1 ((hB.closed.com n a b hm).2.2.2.2.2 i hi hg);rw [hs.unf hi,hx.short]
 have tC:∀i,i < 4->Vy n.g i=true->th l t (Gb i n a b)=t.testBit (Yn l (Um i (Qn (.two n a b)))).toNat:=fun i hi hg=>by
  obtain⟨j,hj,_,h⟩:=Bg hB ((hB.closed.com n a b hm).2.2.2.2.2 i hi hg);rw [h,hu i hi hg,Xe hB.nodup hj,Int.toNat_natCast]
 have eA:Rv l (Qn (.two n a b))=(((List.range 4).filter fun i=>Vy n.g i).map fun i=>(Yn l (Um i (Qn (.two n a b)))).toNat).foldl (fun p x=>p|||2^x) 0:=by
  unfold Rv;rw [e2,List.foldl_map]
 rw [Qw8,eA];constructor
 ·intro h i hi hg;rw [tC i hi hg];refine h _ ?_;rw [Qqh];simp only [Nat.zero_testBit,Bool.false_or,decide_eq_true_iff,List.mem_map];exact⟨i,List.mem_filter.2 ⟨List.mem_range.2 hi,hg⟩,rfl⟩
 intro h j hj;rw [Qqh]at hj;simp only [Nat.zero_testBit,Bool.false_or,decide_eq_true_iff,List.mem_map]at hj;obtain⟨i,hi,rfl⟩:=hj;obtain⟨h1,h2⟩:=List.mem_filter.1 hi;have h1:=List.mem_range.1 h1;rw [<-tC i h1 h2];exact h i h1 h2
theorem Ld {n:Nd} {a:Tr}(hm:.one n a∈l.map Qe) {u:Nat}(hu:u < 2^l.length):(Vq l (Qn a)).getD u false=ev (th l u) a:=by
 obtain⟨hs,_⟩:=(Vj hB.can).1 hm;rw [Qjt hs.of_one.check hu,hs.of_one.tree]
theorem Qqn {n:Nd} {a b:Tr}(hm:.two n a b∈l.map Qe) {u:Nat}(hu:u < 2^l.length):(Vq l (Qn a)).getD u false=ev (th l u) a/\(Vq l (Qn b)).getD u false=ev (th l u) b:=by
 obtain⟨hs,_⟩:=(Vj hB.can).1 hm;rw [Qjt hs.of_two.1.check hu,hs.of_two.1.tree,Qjt hs.of_two.2.check hu,hs.of_two.2.tree];exact⟨rfl,rfl⟩
theorem Qxd {lg:Int} {t:Nat}(ht:t < 2^l.length):Vz lg (Zl l) (Jl l) t=true↔Coh lg (l.map Qe) (th l t):=by
 unfold Vz;rw [Bool.and_eq_true,List.all_eq_true,List.all_eq_true];constructor
 ·rintro⟨h1,h2⟩;refine⟨fun n a b hm=> ?_,fun hr n a hm tC=> ?_⟩
  ·obtain⟨i,hg,_,hi⟩:=Bg hB hm;have:=h1 _ ((Nl hB).2 ⟨i,n,a,b,hm,hg,rfl⟩);rw [beq_iff_eq]at this;simp only at this;rw [hi,this,Qgc hB hm]
  obtain⟨i,hg,_,hi⟩:=Bg hB hm;have:=h2 _ ((Gr hB).2 ⟨i,n,a,hm,hg,rfl⟩);simp only at this;rw [(Qdo).2 hr,<-hi,tC,Ld hB hm ht]at this
  simpa using this
 rintro⟨h1,h2⟩;constructor
 ·intro c hc;obtain⟨i,n,a,b,hm,hg,rfl⟩:=(Nl hB).1 hc;obtain⟨j,vZ,_,hi⟩:=Bg hB hm;have sY:j=i:=by
   have e1:=Xe hB.nodup hg;have e2:=Xe hB.nodup vZ;omega
  subst sY;rw [beq_iff_eq,Bool.eq_iff_iff,Qgc hB hm,<-h1 n a b hm,hi]
 intro k hk;obtain⟨i,n,a,hm,hg,rfl⟩:=(Gr hB).1 hk;obtain⟨j,vZ,_,hi⟩:=Bg hB hm;have sY:j=i:=by
  have e1:=Xe hB.nodup hg;have e2:=Xe hB.nodup vZ;omega
 subst sY;simp only;cases hr:Bx lg
 ·rfl
 rw [<-hi,Ld hB hm ht];cases tC:th l t (.one n a)
 ·rfl
 rw [h2 ((Qdo).1 hr) n a hm tC];rfl
theorem Fi {lg:Int} {i:Int} {t u:Nat}(hu:u < 2^l.length):Jq lg (Zl l) i t u=true↔Ti lg (l.map Qe) i (th l t) (th l u):=by
 unfold Jq Ti;rw [List.all_eq_true];constructor
 ·intro h n a hm nG;obtain⟨j,hg,_,hi⟩:=Bg hB hm;have:=h _ ((Gr hB).2 ⟨j,n,a,hm,hg,rfl⟩);simp only at this;rw [Ld hB hm hu,<-hi,<-hi]at this;have zQ:(n.i !=i)=false:=by simpa using nG
  rw [zQ]at this
  simpa using this
 intro h k hk;obtain⟨j,n,a,hm,hg,rfl⟩:=(Gr hB).1 hk;obtain⟨j',vZ,_,hi⟩:=Bg hB hm;have sY:j'=j:=by
  have e1:=Xe hB.nodup hg;have e2:=Xe hB.nodup vZ;omega
 subst sY;simp only;rw [Ld hB hm hu,<-hi,<-hi];by_cases nG:n.i=i
 ·rw [h n a hm nG,Bool.or_true]
 have:(n.i !=i)=true:=by simpa using nG
 rw [this];rfl
end
theorem Ql0 {α:Type} {l:List α} {k:Nat} {a:α}(h:l[k]?=some a):l.take (k+1)=l.take k++ [a]:=by
 obtain⟨hk,e⟩:=List.getElem?_eq_some_iff.1 h;rw [List.take_succ_eq_append_getElem hk,e]
theorem Bw {l:List Nd} {k:Nat} {n:Nd}(hn:l[k]?=some n) {d d':List (List Nd)}(h:Uq (l.take k) d=some d'):
 Uq (l.take (k+1)) d=bif decide ((Jp n (d'.getD n.x.toNat []) (d'.getD n.y.toNat [])).length=0)then none else some (d'++ [Jp n (d'.getD n.x.toNat []) (d'.getD n.y.toNat [])]):=by
 have key:∀(a b:List Nd) (d d':List (List Nd)),Uq a d=some d'->Uq (a++b) d=Uq b d':=by
  intro a
  induction a with
  |nil=>intro b d d' h;injection h with h;subst h;rfl
  |cons x r ih =>
   intro b d d' h;simp only [Uq,List.cons_append]at h⊢;cases hz:decide ((Jp x (d.getD x.x.toNat []) (d.getD x.y.toNat [])).length=0)
   ·rw [hz]at h;exact ih b _ _ h
   rw [hz]at h;cases h
 rw [Ql0 hn,key _ _ _ _ h];simp only [Uq]
theorem Pg {l:List Nd} {k:Nat} {d:List (List Nd)}(h:Uq (l.take k) d=none):Uq l d=none:=by
 have key:∀(a b:List Nd) (d:List (List Nd)),Uq a d=none->Uq (a++b) d=none:=by
  intro a
  induction a with
  |nil=>intro b d h;cases h
  |cons x r ih =>
   intro b d h;simp only [Uq,List.cons_append]at h⊢;cases hz:decide ((Jp x (d.getD x.x.toNat []) (d.getD x.y.toNat [])).length=0)
   ·rw [hz]at h;exact ih b _ h
   rfl
 have:=key _ (l.drop k) d h
 rwa [List.take_append_drop]at this
theorem Qtn {n:Nd} {a a' b b':List Nd}(hx:Qw n.op=true->a=a')(hy:Qc n.op=true->b=b')(ho:Hz n.op):Jp n a b=Jp n a' b':=by
 have zV:n.op=1\/n.op=2\/n.op=3\/n.op=4\/n.op=5\/n.op=6\/n.op=7\/n.op=8\/n.op=9\/n.op=10\/n.op=11\/n.op=13:=by unfold Hz at ho;omega
 unfold Jp;rcases zV with h|h|h|h|h|h|h|h|h|h|h|h
 ·simp [h]
 ·simp [h]
 ·simp [h]
 ·rw [hx (by rw [h];rfl)];simp [h]
 ·rw [hx (by rw [h];rfl),hy (by rw [h];rfl)]
 ·rw [hx (by rw [h];rfl),hy (by rw [h];rfl)]
 ·rw [hx (by rw [h];rfl),hy (by rw [h];rfl)]
 ·rw [hx (by rw [h];rfl),hy (by rw [h];rfl)]
 ·rw [hx (by rw [h];rfl)];simp [h]
 ·rw [hx (by rw [h];rfl)];simp [h]
 ·rw [hx (by rw [h];rfl)];simp [h]
 rw [hx (by rw [h];rfl),hy (by rw [h];rfl)]
theorem Qrr:∀(r:List Tr) (t:Tr),t.all Lk->(∀u∈r,u.all Lk)->(Pj t r).all Lk
 |[],_,ht,_=>ht
 |u :: r,t,ht,hr=>Qrr r _ ⟨.inl ⟨by decide,by decide⟩,ht,hr u (List.mem_cons_self ..)⟩ (fun v hv=>hr v (List.mem_cons_of_mem _ hv))
theorem Zzg:∀(l:List Tr),(∀u∈l,u.all Lk)->(Mo l).all Lk
 |[],_=> .inl ⟨by decide,by decide⟩
 |t :: r,h=>Qrr r t (h t (List.mem_cons_self ..)) (fun v hv=>h v (List.mem_cons_of_mem _ hv))
theorem Qoi {n:Nd} {a b:Tr}(ho:Hz n.op)(ha:Qw n.op=true->a.all Lk)(hb:Qc n.op=true->b.all Lk):(Nc n a b).all Lk:=by
 unfold Nc;by_cases xQ:n.op=10
 ·rw [if_pos xQ];have h:=ha (by rw [xQ];rfl);exact⟨.inl ⟨by decide,by decide⟩,.inl ⟨show(1:Int)<=9 by decide,show(9:Int)<=9 by decide⟩,.inl ⟨by decide,by decide⟩,h⟩
 rw [if_neg xQ];by_cases uR:n.op=11
 ·rw [if_pos uR];have h:=ha (by rw [uR];rfl);refine Zzg _ fun u hu=> ?_
  obtain⟨i,_,rfl⟩:=List.mem_map.1 hu;exact⟨.inl ⟨show(1:Int)<=9 by decide,show(9:Int)<=9 by decide⟩,h⟩
 rw [if_neg uR];have hn:Lk n:=by unfold Hz at ho;unfold Lk;omega
 unfold Yi;cases h2:Qc n.op
 ·cases h1:Qw n.op
  ·exact hn
  exact⟨hn,ha h1⟩
 exact⟨hn,ha (Vn h2),hb h2⟩
theorem Qks {α:Type}(g:Nat->α)(d:α) {k j:Nat}(h:j < k):((List.range k).map g).getD j d=g j:=by
 rw [Qk,List.getElem?_map,List.getElem?_range h];rfl
theorem Qj9 {c:List Nd}(hw:Wf c)(hh:∀n∈c,Zh n)(hl:∀n∈c,Hz n.op):∀(k:Nat) (d:List (List Nd)),k<=c.length->Uq (c.take k) []=some d->
 d=(List.range k).map (fun j=>Qn (Va (tr c j)))/\∀j,j < k->Xf (Va (tr c j))
 |0,d,_,h=>by
  injection h with h;exact⟨h.symm,fun j hj=>absurd hj (by omega)⟩
 |k+1,d,hk,h=>by
  obtain⟨n,hn⟩:∃n,c[k]?=some n:=⟨_,List.getElem?_eq_getElem (by omega)⟩;cases hd:Uq (c.take k) []with
  |none =>
   have hp:c.take k=(c.take (k+1)).take k:=by rw [List.take_take];congr 1;omega
   rw [hp]at hd;rw [Pg hd]at h;cases h
  |some d' =>
   obtain⟨e1,e2⟩:=Qj9 hw hh hl k d' (by omega) hd;rw [Bw hn hd]at h;have hm:=List.mem_of_getElem? hn;obtain⟨hx,hy⟩:=hw k n hn;have gx:Qw n.op=true->d'.getD n.x.toNat []=Zw (Va (tr c n.x.toNat)):=fun h1=>by
    have:=hx h1;rw [e1,Qks (fun j=>Qn (Va (tr c j))) [] (by omega),(e2 _ (by omega)).short]
   have gy:Qc n.op=true->d'.getD n.y.toNat []=Zw (Va (tr c n.y.toNat)):=fun h1=>by
    have:=hy h1;rw [e1,Qks (fun j=>Qn (Va (tr c j))) [] (by omega),(e2 _ (by omega)).short]
   have hE:=Qtr (a:=Va (tr c n.x.toNat)) (b:=Va (tr c n.y.toNat)) (hh n hm) (hl n hm) (fun h1=>by have:=hx h1;exact(e2 _ (by omega)).xp.1) (fun h1=>by have:=hy h1;exact(e2 _ (by omega)).xp.1);have hX:=Qoi (a:=Va (tr c n.x.toNat)) (b:=Va (tr c n.y.toNat)) (hl n hm) (fun h1=>by have:=hx h1;exact(e2 _ (by omega)).xp.2) (fun h1=>by have:=hy h1;exact(e2 _ (by omega)).xp.2);have ht:Nc n (Va (tr c n.x.toNat)) (Va (tr c n.y.toNat))=Va (tr c k):=by rw [Xk hw hn,Qo0]
   rw [Qtn gx gy (hl n hm),hE.1,ht]at h;rw [ht]at hE hX;cases hz:decide ((Zw (Va (tr c k))).length=0)
   ·rw [hz]at h;injection h with h;have zH:(Qn (Va (tr c k))).length<=200:=by
     by_cases e:(Qn (Va (tr c k))).length<=200
     ·exact e
     have:=of_decide_eq_false hz;rw [Xa (by omega)]at this;exact absurd rfl this
    rw [Gt zH,e1]at h;refine⟨?_,fun j hj=> ?_⟩
    ·rw [<-h,List.range_succ,List.map_append];rfl
    by_cases e:j < k
    ·exact e2 j e
    have:j=k:=by omega
    subst this;exact⟨⟨hE.2,hX⟩,zH⟩
   rw [hz]at h;cases h
theorem Qp1 {l:List Nd}(h:Vi l&&&500=0):∀n∈l,(Vf n.op).toNat&&&500=0:=by
 have key:∀(l:List Nd) (m:Nat),(l.foldl (fun m n=>m|||(Vf n.op).toNat) m)&&&500=0->m&&&500=0/\∀n∈l,(Vf n.op).toNat&&&500=0:=by
  intro l
  induction l with
  |nil=>intro m h;exact⟨h,fun n hn=>by cases hn⟩
  |cons a r ih =>
   intro m h;obtain⟨h1,h2⟩:=ih _ h;rw [Nat.and_or_distrib_right]at h1;have l1:m&&&500<=m&&&500|||(Vf a.op).toNat&&&500:=Nat.left_le_or;have l2:(Vf a.op).toNat&&&500<=m&&&500|||(Vf a.op).toNat&&&500:=Nat.right_le_or;refine⟨by omega,fun n hn=> ?_⟩;rcases List.mem_cons.1 hn with rfl|hn
   ·omega
   exact h2 n hn
 exact(key l 0 h).2
theorem Cc {f:List Nd}(hc:check f=0)(hl:Dc f=false):∀n∈Qg f,Hz n.op:=by
 intro n hn;unfold Dc Jm at hl;have hb:=Qp1 (by simpa using hl) n hn;have ho:=(Dq n.op).1 ((Jf hc).2.2.2 n hn).1;have:n.op=1\/n.op=2\/n.op=3\/n.op=4\/n.op=5\/n.op=6\/n.op=7\/n.op=8\/n.op=9\/n.op=10\/n.op=11\/n.op=12\/n.op=13\/n.op=14\/n.op=15\/n.op=16\/n.op=17\/n.op=18\/n.op=19\/n.op=20\/n.op=21:=by omega
 unfold Hz;rcases this with h|h|h|h|h|h|h|h|h|h|h|h|h|h|h|h|h|h|h|h|h <;> first|omega|(rw [h]at hb;exact absurd hb (by decide))
theorem Qyq {f:List Nd}(hc:check f=0)(hl:Dc f=false)(zQ:(Jo f).length≠0):Xf (Va (Qe f))/\Jo f=Qn (Va (Qe f)):=by
 obtain⟨hw,_,hp,hh⟩:=Jf hc;unfold Jo at zQ⊢;cases hd:Uq (Qg f) []with
 |none=>rw [hd]at zQ;exact absurd rfl zQ
 |some d =>
  have h:=Qj9 hw hh (Cc hc hl) (Qg f).length d (Nat.le_refl _) (by rw [List.take_of_length_le (Nat.le_refl _)];exact hd);obtain⟨e1,e2⟩:=h;have et:tr (Qg f) ((Qg f).length - 1)=Qe f:=Ki hc;have hx:=e2 ((Qg f).length - 1) (by omega);rw [et]at hx;refine⟨hx,?_⟩;show d.getLastD []=_;obtain⟨m,hm⟩:∃m,(Qg f).length=m+1:=⟨(Qg f).length - 1,by omega⟩;rw [e1,hm,List.range_succ,List.map_append];rw [hm]at et;simp only [List.map_cons,List.map_nil,List.getLastD_concat];rw [<-et];rfl
theorem Ct {lg:Int} {ks:List Kn} {al:List Bool} {a:Int} {t:Nat} {wt:Nat->Bool} :Xm lg ks al a t wt < 0↔∀u,u < al.length->Xc lg ks al a t wt u=false:=by
 unfold Xm;cases h:(List.range al.length).find? (Xc lg ks al a t wt)with
 |none =>
  rw [List.find?_eq_none]at h;refine⟨fun _ u hu=> ?_,fun _=>by decide⟩;have:=h u (List.mem_range.2 hu)
  simpa using this
 |some k =>
  obtain⟨h1,h2,_⟩:=List.find?_range_eq_some.1 h;refine⟨fun hn=> ?_,fun hn=> ?_⟩
  ·simp only at hn;omega
  rw [hn k (List.mem_range.1 h2)]at h1;cases h1
theorem Xg {al:List Bool} {t:Nat}(h:al.getD t false=true):t < al.length:=by
 by_cases e:t < al.length
 ·exact e
 rw [Qk,List.getElem?_eq_none (by omega)]at h;cases h
theorem Ca {lg:Int} {ks:List Kn} {al:List Bool} {c:Cm} {t:Nat} :Pr lg ks al c t=true↔∃u,Rch (fun a b=>Mx lg ks al c a b=true) t u/\c.y.getD u false=false:=by
 simp [Pr]
theorem Cs {l:List (List Nd)} {M:KM} {w:M.W} {t:Nat}(h:∀s∈l.map Qe,th l t s=thW M w s) {f:Tr}(hc:cov (l.map Qe) f)(hl:lang f):ev (th l t) f=ev (thW M w) f:=by
 rw [Bool.eq_iff_iff,evW w hc hl];exact Qqm (fun s hs=>by rw [h s hs];exact Fz) f hc hl
theorem Qcg(p:Nat->Bool):∀n:Nat,∃t,t < 2^n/\∀i,i < n->t.testBit i=p i
 |0=>⟨0,by simp,fun i h=>absurd h (by omega)⟩
 |n+1=>by
  obtain⟨t,h1,h2⟩:=Qcg p n;cases hp:p n
  ·refine⟨t,by rw [Nat.pow_succ];omega,fun i hi=> ?_⟩;by_cases e:i < n
   ·exact h2 i e
   have:i=n:=by omega
   subst this;rw [hp,Nat.testBit_lt_two_pow h1]
  refine⟨t|||2^n,Nat.or_lt_two_pow (by rw [Nat.pow_succ];omega) (by rw [Nat.pow_succ];have:=Nat.two_pow_pos n;omega),fun i hi=> ?_⟩;rw [Nat.testBit_or,Nat.testBit_two_pow];by_cases e:i < n
  ·rw [h2 i e];have:¬n=i:=by omega
   simp [this]
  have:i=n:=by omega
  subst this;simp [hp]
section
variable {l:List (List Nd)} {t0:Tr} (hB:Td l t0) {lg:Int}
include hB
theorem Qr2 {i:Nat} {n:Nd} {a:Tr}(hm:.one n a∈l.map Qe)(hg:l[i]?=some (Qn (.one n a))):(Zl l).find? (fun k=>(k.place:Int)==(i:Int))=some ⟨n.i,i,Vq l (Qn a)⟩:=by
 cases h:(Zl l).find? (fun k=>(k.place:Int)==(i:Int))with
 |none =>
  rw [List.find?_eq_none]at h;have:=h _ ((Gr hB).2 ⟨i,n,a,hm,hg,rfl⟩);simp at this
 |some k =>
  obtain⟨j,n',a',oR,vZ,rfl⟩:=(Gr hB).1 (List.mem_of_find?_eq_some h);have hp:=List.find?_some h;have sY:j=i:=by
   have h0:(j:Int)=(i:Int):=by simpa using hp
   omega
  subst sY;rw [hg]at vZ;injection vZ with vZ;have:=((Vj hB.can).1 hm).1.inj ((Vj hB.can).1 oR).1 vZ;injection this with e1 e2;rw [e1,e2]
theorem Qr3 {i:Nat} {n:Nd} {a b:Tr}(hm:.two n a b∈l.map Qe)(hg:l[i]?=some (Qn (.two n a b))):(Zl l).find? (fun k=>(k.place:Int)==(i:Int))=none:=by
 rw [List.find?_eq_none];intro k hk;obtain⟨j,n',a',oR,vZ,rfl⟩:=(Gr hB).1 hk;intro hp;have sY:j=i:=by
  have h0:(j:Int)=(i:Int):=by simpa using hp
  omega
 subst sY;rw [hg]at vZ;injection vZ with vZ;have:=((Vj hB.can).1 hm).1.inj ((Vj hB.can).1 oR).1 vZ;cases this
theorem Qrc {i:Nat} {n:Nd} {a b:Tr}(hm:.two n a b∈l.map Qe)(hg:l[i]?=some (Qn (.two n a b))):(Jl l).find? (fun k=>(k.place:Int)==(i:Int))=some ⟨i,n.g,Vq l (Qn a),Vq l (Qn b),Rv l (Qn (.two n a b))⟩:=by
 cases h:(Jl l).find? (fun k=>(k.place:Int)==(i:Int))with
 |none =>
  rw [List.find?_eq_none]at h;have:=h _ ((Nl hB).2 ⟨i,n,a,b,hm,hg,rfl⟩);simp at this
 |some k =>
  obtain⟨j,n',a',b',oR,vZ,rfl⟩:=(Nl hB).1 (List.mem_of_find?_eq_some h);have hp:=List.find?_some h;have sY:j=i:=by
   have h0:(j:Int)=(i:Int):=by simpa using hp
   omega
  subst sY;rw [hg]at vZ;injection vZ with vZ;have:=((Vj hB.can).1 hm).1.inj ((Vj hB.can).1 oR).1 vZ;injection this with e1 e2 e3;rw [e1,e2,e3]
theorem Qva {al:List Bool}(hl:al.length=2^l.length) {i:Nat} {n:Nd} {a b:Tr}(hm:.two n a b∈l.map Qe)(t u:Nat):
 Mx lg (Zl l) al ⟨i,n.g,Vq l (Qn a),Vq l (Qn b),Rv l (Qn (.two n a b))⟩ t u=true↔Pa lg (l.map Qe) (fun t=>al.getD t false=true) (th l) n.g a t u:=by
 unfold Mx Pa;simp only [Bool.and_eq_true,List.any_eq_true,List.mem_range];constructor
 ·rintro⟨h1,h2,i,h3,h4,h5⟩;have hu:u < 2^l.length:=hl▸Xg h1;exact⟨h1,by rw [<-(Qqn hB hm hu).1];exact h2,i,h3,h4,(Fi hB hu).1 h5⟩
 rintro⟨h1,h2,i,h3,h4,h5⟩;have hu:u < 2^l.length:=hl▸Xg h1;exact⟨h1,by rw [(Qqn hB hm hu).1];exact h2,i,h3,h4,(Fi hB hu).2 h5⟩
theorem Qo3 {al:List Bool}(hl:al.length=2^l.length)(hc:∀t,al.getD t false=true->Vz lg (Zl l) (Jl l) t=true)
 (hw:∀t,al.getD t false=true->∀i:Int,-4<=i->i < l.length->Vb lg (Zl l) (Jl l) al t i=false):Eb lg (l.map Qe) (fun t=>al.getD t false=true) (th l) where
 coh t ht:=(Qxd hB (hl▸Xg ht)).1 (hc t ht)
 ser hs t ht i ho:=by
  obtain⟨n,a,hm,hi⟩:=ho;obtain⟨j,hg,_,_⟩:=Bg hB hm;obtain⟨_,_,_,h0,h4⟩:=hB.closed.know n a hm;have h:=hw t ht (-1 - i) (by omega) (by omega);unfold Vb at h;rw [decide_eq_true (show -1 - i < 0 by omega),cond_true]at h;have xY:(lg==1||lg==5)=true:=by rcases hs with e|e <;> rw [e] <;> rfl
  have tV:(Zl l).any (fun k=>k.agent== -1 - (-1 - i))=true:=by
   rw [List.any_eq_true];exact⟨_,(Gr hB).2 ⟨j,n,a,hm,hg,rfl⟩,by simp;omega⟩
  rw [xY,tV,Bool.true_and,Bool.true_and,decide_eq_false_iff_not,Ct]at h;obtain⟨u,hu⟩:=Classical.not_forall.1 h;obtain⟨qF,hp⟩:=Classical.not_imp.1 hu;have hp:Xc lg (Zl l) al (-1 - (-1 - i)) t (fun _=>true) u=true:=by simpa using hp
  unfold Xc at hp;rw [Bool.and_eq_true,Bool.true_and,show -1 - (-1 - i)=i by omega]at hp;exact⟨u,hp.1,(Fi hB (by omega)).1 hp.2⟩
 know t ht n a hm hf:=by
  obtain⟨j,hg,hj,tC⟩:=Bg hB hm;have h:=hw t ht (j:Int) (by omega) (by omega);unfold Vb at h;rw [decide_eq_false (show ¬(j:Int) < 0 by omega),cond_false,Qr2 hB hm hg]at h;simp only [Int.toNat_natCast]at h;rw [<-tC,hf,Bool.not_false,Bool.true_and,decide_eq_false_iff_not,Ct]at h;obtain⟨u,hu⟩:=Classical.not_forall.1 h;obtain⟨qF,hp⟩:=Classical.not_imp.1 hu;have hp:Xc lg (Zl l) al n.i t (fun u=> !(Vq l (Qn a)).getD u false) u=true:=by simpa using hp
  unfold Xc at hp;rw [Bool.and_eq_true,Bool.and_eq_true]at hp;have tF:(!(Vq l (Qn a)).getD u false)=true:=hp.2.1;rw [Ld hB hm (by omega)]at tF;exact⟨u,hp.1,by simpa using tF,(Fi hB (by omega)).1 hp.2.2⟩
 com t ht n a b hm hf:=by
  obtain⟨j,hg,hj,tC⟩:=Bg hB hm;have h:=hw t ht (j:Int) (by omega) (by omega);unfold Vb at h;rw [decide_eq_false (show ¬(j:Int) < 0 by omega),cond_false,Qr3 hB hm hg,Qrc hB hm hg]at h;simp only [Int.toNat_natCast]at h;rw [<-tC,hf,Bool.not_false,Bool.true_and]at h;have h:Pr lg (Zl l) al ⟨j,n.g,Vq l (Qn a),Vq l (Qn b),Rv l (Qn (.two n a b))⟩ t=true:=by simpa using h
  rw [Ca]at h;obtain⟨u,hr,hy⟩:=h;have TI:=hr.mono (fun x y pB=>(Qva hB hl hm x y).1 pB);have qF:al.getD u false=true:=by
   have key:∀x y,Rch (Pa lg (l.map Qe) (fun t=>al.getD t false=true) (th l) n.g a) x y->al.getD y false=true:=by
    intro x y pB
    induction pB with
    |one h=>exact h.1
    |cons _ _ ih=>exact ih
   exact key t u TI
  exact⟨u,TI,by rw [<-(Qqn hB hm (hl▸Xg qF)).2];exact hy⟩
theorem If {M:KM} {w v:M.W} {t u:Nat}(ht:∀s∈l.map Qe,th l t s=thW M w s)(hu:∀s∈l.map Qe,th l u s=thW M v s) {i:Int}(h:Ti lg (l.map Qe) i (thW M w) (thW M v)):Ti lg (l.map Qe) i (th l t) (th l u):=by
 intro n a hm hi;obtain⟨_,hc,uN,_,_⟩:=hB.closed.know n a hm;rw [ht _ hm,hu _ hm,Cs hu hc uN];exact h n a hm hi
theorem Qzz {M:KM}(w:M.W):∃t,t < 2^l.length/\∀s∈l.map Qe,th l t s=thW M w s:=by
 obtain⟨t,h1,h2⟩:=Qcg (fun i=>thW M w (Qe (l.getD i []))) l.length;refine⟨t,h1,fun s hs=> ?_⟩;obtain⟨i,hg,hi,tC⟩:=Bg hB hs;rw [tC,h2 i hi,Qk,hg,Option.getD_some,((Vj hB.can).1 hs).1.tree]
def Qze(l:List (List Nd))(M:KM)(al:List Bool):Prop:=∀(t:Nat) (w:M.W),t < 2^l.length->(∀s∈l.map Qe,th l t s=thW M w s)->al.getD t false=true
theorem Qrb {M:KM}(hM:M.In lg)(xY:lg<=6) {al:List Bool}(hl:al.length=2^l.length)(hS:Qze l M al) {t:Nat} {w:M.W}(ht:t < 2^l.length)(hw:∀s∈l.map Qe,th l t s=thW M w s)(i:Int):Vb lg (Zl l) (Jl l) al t i=false:=by
 have hF:=Ql5 hB.closed hM xY;unfold Vb;by_cases hi:i < 0
 ·rw [decide_eq_true hi,cond_true];cases hlg2:(lg==1||lg==5)
  ·rfl
  rw [Bool.true_and];have hs:lg=1\/lg=5:=by simpa using hlg2
  cases tV:(Zl l).any (fun k=>k.agent== -1 - i)
  ·rfl
  rw [Bool.true_and,decide_eq_false_iff_not,Ct];intro nF;rw [List.any_eq_true]at tV;obtain⟨k,hk,he⟩:=tV;obtain⟨j,n,a,hm,hg,rfl⟩:=(Gr hB).1 hk;have he:n.i= -1 - i:=by simpa using he
  obtain⟨v,_,hp⟩:=hF.ser hs w trivial (-1 - i) ⟨n,a,hm,he⟩;obtain⟨u,hu,gL⟩:=Qzz hB v;have:=nF u (by omega);unfold Xc at this;rw [hS u v hu gL,(Fi hB hu).2 (If hB hw gL hp)]at this;cases this
 rw [decide_eq_false hi,cond_false];obtain⟨j,rfl⟩:=Int.eq_ofNat_of_zero_le (show 0<=i by omega);cases hf:(Zl l).find? (fun k=>(k.place:Int)==(j:Int))with
 |some k =>
  obtain⟨j',n,a,hm,hg,rfl⟩:=(Gr hB).1 (List.mem_of_find?_eq_some hf);have sY:j'=j:=by
   have h0:(j':Int)=(j:Int):=by simpa using List.find?_some hf
   omega
  subst sY;obtain⟨j2,uO,_,tC⟩:=Bg hB hm;have sY:j2=j':=by
   have e1:=Xe hB.nodup hg;have e2:=Xe hB.nodup uO;omega
  subst sY;simp only [Int.toNat_natCast];rw [<-tC];cases hv:th l t (.one n a)
  ·rw [Bool.not_false,Bool.true_and,decide_eq_false_iff_not,Ct];intro nF;obtain⟨v,_,he,hp⟩:=hF.know w trivial n a hm (by rw [<-hw _ hm];exact hv);obtain⟨u,hu,gL⟩:=Qzz hB v;have:=nF u (by omega);obtain⟨_,hc,uN,_,_⟩:=hB.closed.know n a hm;unfold Xc at this;simp only at this;rw [hS u v hu gL,(Fi hB hu).2 (If hB hw gL hp),Ld hB hm hu,Cs gL hc uN,he]at this;cases this
  rfl
 |none =>
  simp only;cases rJ:(Jl l).find? (fun c=>(c.place:Int)==(j:Int))with
  |none=>rfl
  |some k =>
   obtain⟨j',n,a,b,hm,hg,rfl⟩:=(Nl hB).1 (List.mem_of_find?_eq_some rJ);have sY:j'=j:=by
    have h0:(j':Int)=(j:Int):=by simpa using List.find?_some rJ
    omega
   subst sY;obtain⟨j2,uO,_,tC⟩:=Bg hB hm;have sY:j2=j':=by
    have e1:=Xe hB.nodup hg;have e2:=Xe hB.nodup uO;omega
   subst sY;simp only [Int.toNat_natCast];rw [<-tC];cases hv:th l t (.two n a b)
   ·rw [Bool.not_false,Bool.true_and,Bool.not_eq_false'];rw [Ca];obtain⟨v,hr,he⟩:=hF.com w trivial n a b hm (by rw [<-hw _ hm];exact hv);obtain⟨_,qQ,sF,uN,kR,_⟩:=hB.closed.com n a b hm
    have lift:∀(x y:M.W),Rch (Pa lg (l.map Qe) (fun _=>True) (thW M) n.g a) x y->∀t,t < 2^l.length->(∀s∈l.map Qe,th l t s=thW M x s)->
     ∃u,u < 2^l.length/\(∀s∈l.map Qe,th l u s=thW M y s)/\Rch (Pa lg (l.map Qe) (fun t=>al.getD t false=true) (th l) n.g a) t u:=by
     intro x y pB
     induction pB with
     |@one x y h =>
      intro t ht BV;obtain⟨u,hu,sQ⟩:=Qzz hB y;obtain⟨_,hx,i,hi,hg,hp⟩:=h;exact⟨u,hu,sQ,.one ⟨hS u y hu sQ,by rw [Cs sQ qQ uN];exact hx,i,hi,hg,If hB BV sQ hp⟩⟩
     |@cons x y z h _ ih =>
      intro t ht BV;obtain⟨u,hu,sQ⟩:=Qzz hB y;obtain⟨_,hx,i,hi,hg,hp⟩:=h;obtain⟨u2,h1,h2,h3⟩:=ih u hu sQ;exact⟨u2,h1,h2,.cons ⟨hS u y hu sQ,by rw [Cs sQ qQ uN];exact hx,i,hi,hg,If hB BV sQ hp⟩ h3⟩
    obtain⟨u,hu,gL,hru⟩:=lift w v hr t ht hw;exact⟨u,hru.mono (fun x y pB=>(Qva hB hl hm x y).2 pB),by rw [(Qqn hB hm hu).2,Cs gL sF kR];exact he⟩
   rfl
end
theorem Qhn {lg:Int} {ks:List Kn} {cs:List Cm} {m:Nat} {al:List Bool} {t:Nat} {i:Int}(h:Sm lg ks cs m al t=some i):Vb lg ks cs al t i=true:=by
 unfold Sm at h;exact List.find?_some h
theorem Qfv {lg:Int} {ks:List Kn} {cs:List Cm} {m:Nat} {al:List Bool} {t:Nat}(h:Sm lg ks cs m al t=none)(i:Int)(h0: -4<=i)(h1:i < m):Vb lg ks cs al t i=false:=by
 unfold Sm at h;rw [List.find?_eq_none]at h;have:=h i (List.mem_map.2 ⟨(i+4).toNat,List.mem_range.2 (by omega),by omega⟩)
 simpa using this
theorem Qbw(why:List Bool->Nat->Option Int):∀(k:Nat) (s:List Bool×List (Nat×Int)),Qhl s.1 (Rs why k s).1:=fun k s =>
 Qqt (S:=fun al=>Qhl s.1 al) (fun al t _i h _ _ u hu=>h u (Qi8 al t u hu)) k s (fun _ h=>h)
theorem Qwq {α:Type}(g:Nat->α)(d:α) {n k:Nat}(h:k < n):((List.range n).map g).getD k d=g k:=by
 rw [Qk,List.getElem?_map,List.getElem?_range h];rfl
structure By (lg:Int) (f:List Nd):Prop where
 l0:0<=lg
 l6:lg<=6
 ck:check f=0
 x:Xf (Va (Qe f))
 e:Jo f=Qn (Va (Qe f))
 b:Td (Qm f).1 (Va (Qe f))
theorem Py {f:List Nd}(h:(Qm f).2=0):check f=0/\Dc f=false/\(Jo f).length≠0/\Qm f=Kc (Jo f):=by
 unfold Qm at h⊢;cases hc:check f !=0
 ·rw [hc]at h;cases hl:Dc f
  ·rw [hl]at h;cases hz:decide ((Jo f).length=0)
   ·exact⟨by simpa using hc,rfl,of_decide_eq_false hz,rfl⟩
   rw [hz]at h;cases h
  rw [hl]at h;cases h
 rw [hc]at h;exact absurd h (by simpa using hc)
theorem Qql {lg:Int} {f:List Nd}(h:Yj lg f=0):By lg f:=by
 unfold Yj at h;cases ha:decide (lg < 0)||decide (6 < lg)
 ·rw [ha]at h;rw [Bool.or_eq_false_iff,decide_eq_false_iff_not,decide_eq_false_iff_not]at ha;obtain⟨h1,h2,h3,h4⟩:=Py h;obtain⟨hx,he⟩:=Qyq h1 h2 h3;have h5:(Kc (Qn (Va (Qe f)))).2=0:=by rw [<-he,<-h4];exact h
  have hb:=Qrt hx h5;rw [<-he,<-h4]at hb;exact⟨by omega,by omega,h1,hx,he,hb⟩
 rw [ha]at h;cases h
section
variable {lg:Int} {f:List Nd}
theorem Sc(lg:Int)(l:List (List Nd)):(Km lg l).length=2^l.length:=by simp [Km]
theorem Qqv {l:List (List Nd)} {t:Nat}(ht:t < 2^l.length):(Km lg l).getD t false=Vz lg (Zl l) (Jl l) t:=Qwq _ _ ht
theorem Lv:(Np lg f).1.length=2^(Qm f).1.length:=by
 unfold Np Qkx;rw [Qbe];exact Sc _ _
theorem Qvl(h:By lg f) {t:Nat}(ht:t < 2^(Qm f).1.length):(Nx f).getD t false=ev (th (Qm f).1 t) (Va (Qe f)):=by
 unfold Nx;rw [h.e,Qjt h.x.check ht,h.x.tree]
theorem Qa4(h:By lg f):Uf lg f=true↔∃t,(Np lg f).1.getD t false=true/\ev (th (Qm f).1 t) (Va (Qe f))=true:=by
 unfold Uf Pm;rw [List.any_eq_true];constructor
 ·rintro⟨t,ht,h2⟩;rw [Bool.and_eq_true]at h2;have ht:=List.mem_range.1 ht;rw [Lv]at ht;exact⟨t,h2.1,by rw [<-Qvl h ht];exact h2.2⟩
 rintro⟨t,h1,h2⟩;have ht:=Xg h1;refine⟨t,List.mem_range.2 ht,?_⟩;rw [Lv]at ht;rw [Bool.and_eq_true,Qvl h ht];exact⟨h1,h2⟩
theorem Qh9(h:By lg f):Eb lg ((Qm f).1.map Qe) (fun t=>(Np lg f).1.getD t false=true) (th (Qm f).1):=by
 refine Qo3 h.b Lv (fun t ht=> ?_) (fun t ht i h0 h1=> ?_)
 ·have hs:=Qbw (Sm lg (Zl (Qm f).1) (Jl (Qm f).1) (Qm f).1.length) _ (Km lg (Qm f).1,[]) t ht;have hl:=Xg hs;rw [Sc]at hl;rw [<-Qqv hl];exact hs
 have:=Qyi (why:=Sm lg (Zl (Qm f).1) (Jl (Qm f).1) (Qm f).1.length) ((Km lg (Qm f).1).length+1) (Km lg (Qm f).1,[]) (by have:=Qkk (Km lg (Qm f).1);show cnt (Km lg (Qm f).1) < _;omega) t ht;exact Qfv this i h0 h1
theorem Qrk(h:By lg f) {M:KM}(hM:M.In lg):Qze (Qm f).1 M (Km lg (Qm f).1):=fun t w ht hw=>by
 rw [Qqv ht,Qxd h.b ht];have hc:=Qfg h.b.closed hM w;refine⟨fun n a b hm=> ?_,fun hr n a hm tC=> ?_⟩
 ·rw [hw _ hm,hc.com n a b hm];constructor
  ·intro k i hi hg;rw [hw _ ((h.b.closed.com n a b hm).2.2.2.2.2 i hi hg)];exact k i hi hg
  intro k i hi hg;rw [<-hw _ ((h.b.closed.com n a b hm).2.2.2.2.2 i hi hg)];exact k i hi hg
 obtain⟨_,qQ,uN,_,_⟩:=h.b.closed.know n a hm;rw [Cs hw qQ uN];exact hc.know hr n a hm (by rw [<-hw _ hm];exact tC)
theorem Qpn(h:By lg f) {M:KM}(hM:M.In lg)(al:List Bool)(t:Nat)(i:Int)(hl:al.length=2^(Qm f).1.length)(hS:Qze (Qm f).1 M al)(hk:Vb lg (Zl (Qm f).1) (Jl (Qm f).1) al t i=true):Qze (Qm f).1 M (al.set t false):=fun u w hu hw=>by
 rw [Qd1];cases e:u==t
 ·exact hS u w hu hw
 have:u=t:=by simpa using e
 subst this;rw [Qrb h.b hM h.l6 hl hS hu hw i]at hk;cases hk
theorem Qmh(h:By lg f) {M:KM}(hM:M.In lg):Qze (Qm f).1 M (Np lg f).1:=by
 have:=Qqt (why:=Sm lg (Zl (Qm f).1) (Jl (Qm f).1) (Qm f).1.length) (S:=fun al=>al.length=2^(Qm f).1.length/\Qze (Qm f).1 M al)
  (fun al t i hS _ hw=>⟨by rw [List.length_set];exact hS.1,Qpn h hM al t i hS.1 hS.2 (Qhn hw)⟩) ((Km lg (Qm f).1).length+1) (Km lg (Qm f).1,[]) ⟨Sc _ _,Qrk h hM⟩
 exact this.2
theorem Qg3(h:By lg f):Uf lg f=true↔∃M:KM,M.In lg/\∃w,M.sat (Qe f) w:=by
 rw [Qa4 h];constructor
 ·rintro⟨t,h1,h2⟩;have hF:=Qh9 h;refine⟨Ry lg ((Qm f).1.map Qe) (fun t=>(Np lg f).1.getD t false=true) (th (Qm f).1),Qr5 hF h.l6,⟨t,h1⟩,?_⟩;exact(Cx (M:=Ry lg ((Qm f).1.map Qe) (fun t=>(Np lg f).1.getD t false=true) (th (Qm f).1)) (Qe f) ⟨t,h1⟩).1 ((Ey h.b.closed hF _ h.b.cov h.x.xp.lang h.x.xp.fact ⟨t,h1⟩).1 h2)
 rintro⟨M,hM,w,hw⟩;obtain⟨t,ht,XJ⟩:=Qzz h.b w;refine⟨t,Qmh h hM t w ht XJ,?_⟩;rw [Cs XJ h.b.cov h.x.xp.lang,evW w h.b.cov h.x.xp.lang,Cx];exact hw
end
open Go.RowKit
def Cf(m:Nat)(w:World)(vo u:Value):Prop:=∀g,u.ownBlock=some g->g < w.heap.size/\vo.ownBlock≠some g/\m<=g
theorem Cf.ext {m:Nat} {w w':World} {vo u:Value}(h:Cf m w vo u)(he:Ext w w'):Cf m w' vo u:=fun g hg=>⟨Qy (h g hg).1 he.size,(h g hg).2⟩
theorem Qx4:(Tryz.prog.info? 22).map (fun i=>(i.zero,i.size,i.bytes))=some (some (.slice none 0 0),1,24):=by kernel_rfl
theorem Nds.keepF {w w':World} {v:Value} {l:List Nd}(h:Nds w v l)(hb:∀g,v.ownBlock=some g->g < w.heap.size->w'.heap[g]?=w.heap[g]?)(hs:w.heap.size<=w'.heap.size):Nds w' v l:=by
 obtain⟨A,c,rfl,h1,h2,h3⟩:=h;refine⟨A,c,rfl,h1,h2,fun hn=> ?_⟩;obtain⟨ad,rfl,zG,hc⟩:=h3 hn;refine⟨ad,rfl,Qy zG hs,fun k n hk=>(hc k n hk).keep fun p hp=>World.cell?_of_block ?_⟩;rw [hp,Qr];exact hb ad.block rfl zG
structure Vo (w0 w:World) (vo:Value) (out:List (List Nd)):Prop where
 ext:Ext w0 w
 row:∃us,w.ownsRow w0.heap.size 22 1 vo out.length us/\∀(k:Nat) (s:List Nd),out[k]?=some s->∃u,us[k]?=some u/\Fml w u s/\Cf w0.heap.size w vo u
theorem Vo.ext_ {w0 w w':World} {vo:Value} {out:List (List Nd)}(h:Vo w0 w vo out)(he:Ext w w'):Vo w0 w' vo out:=by
 obtain⟨us,hr,hu⟩:=h.row;refine⟨h.ext.trans he,us,Zf hr he,fun k s hk=> ?_⟩;obtain⟨u,a,b,c⟩:=hu k s hk;exact⟨u,a,b.ext he,c.ext he⟩
theorem Vo.nil(w:World):Vo w w (.slice none 0 0) []:=⟨Qz,[],World.ownsRow_nil _ _ _ _,fun k s h=>by simp at h⟩
theorem Mv {w:World} {base n:Nat} {t:TypeId} {v:Value} {us:List Value}(h:w.ownsRow base t 1 v n us)(hn:0 < n):
 ∃g cap,v=.slice (some ⟨g,0,none⟩) n cap/\g < w.heap.size/\n<=cap/\cap<=maxLen/\∀i z,us[i]?=some z->w.cell? ⟨g,i,none⟩=some z:=by
 rcases h.2 with⟨_,h0⟩|⟨g,cap,cur,rfl,_,hg,iG,hm,hs,ht⟩
 ·omega
 refine⟨g,cap,rfl,Qf hg,iG,hm,fun i z h1=> ?_⟩;rw [<-ht,List.getElem?_take]at h1
 split at h1
 ·have h2:cur[i]?=some z:=by simpa using h1
  simp [World.cell?,hg,h2]
 cases h1
theorem Vo.keep {w0 w w':World} {vo:Value} {out:List (List Nd)}(h:Vo w0 w vo out)(hb:∀g,w0.heap.size<=g->g < w.heap.size->w'.heap[g]?=w.heap[g]?)(hs:w.heap.size<=w'.heap.size)(he:Ext w0 w'):Vo w0 w' vo out:=by
 obtain⟨us,hr,hu⟩:=h.row;refine⟨he,us,⟨hr.1,?_⟩,fun k s hk=> ?_⟩
 ·rcases hr.2 with h0|⟨g,cap,cur,e,h1,h2,h3,h4,h5,h6⟩
  ·exact .inl h0
  exact .inr ⟨g,cap,cur,e,h1,(hb g h1 (Qf h2)).trans h2,h3,h4,h5,h6⟩
 obtain⟨u,a,b,c⟩:=hu k s hk;exact⟨u,a,⟨b.1.keepF (fun g hg _=>hb g (c g hg).2.2 (c g hg).1) hs,b.2⟩,fun g hg=>⟨Qy (c g hg).1 hs,(c g hg).2⟩⟩
theorem Vo.fmls {w0 w:World} {vo:Value} {out:List (List Nd)}(h:Vo w0 w vo out):Bp w vo out:=by
 obtain⟨ss,hs,hv⟩:=h.row;by_cases h0:0 < out.length
 ·obtain⟨g,cap,rfl,hg,h1,h2,hc⟩:=Mv hs h0;refine⟨_,cap,rfl,h1,h2,fun _=>⟨_,rfl,hg,fun k f hk=> ?_⟩⟩;obtain⟨u,a,b,_⟩:=hv k f hk;exact⟨u,by rw [Fr];exact hc k u a,b⟩
 have e:out= []:=List.length_eq_zero_iff.1 (by omega);subst e;obtain⟨A,c,rfl⟩:=Qs hs;rcases hs.2 with⟨e,_⟩|⟨g,cap,cur,e,_,_,hn,hm,_⟩
 ·injection e with e1 _ e2;subst e1 e2;exact⟨_,_,rfl,Nat.le_refl _,by unfold maxLen;omega,fun h=>absurd rfl h⟩
 injection e with e1 _ e2;subst e1 e2;exact⟨_,_,rfl,Nat.zero_le _,hm,fun h=>absurd rfl h⟩
theorem Vo.push {w0 W w4:World} {vo v' x:Value} {out:List (List Nd)} {s:List Nd} {ss:List Value}(he:Ext w0 W)(hs:W.ownsRow w0.heap.size 22 1 vo out.length ss)(hv:∀(k:Nat) (s:List Nd),out[k]?=some s->∃u,ss[k]?=some u/\Fml W u s/\Cf w0.heap.size W vo u)
 (zP:w4.ownsRow w0.heap.size 22 1 v' (out.length+1) (ss++ [x]))(hg:W.grownBy w4 vo.ownBlock)(yM:v'.ownBlock=vo.ownBlock\/v'.ownBlock=some W.heap.size)(hx:Fml W x s)(ZK:Cf w0.heap.size W vo x):
 Vo w0 w4 v' (out++ [s]):=by
 have zH:ss.length=out.length:=by simpa using hs.1
 have NA:∀g,g < W.heap.size->vo.ownBlock≠some g->w4.heap[g]?=W.heap[g]?:=fun g h1 h2=>hg.block g h1 (fun e=>h2 e.symm)
 have YK:∀u,Cf w0.heap.size W vo u->Cf w0.heap.size w4 v' u:=fun u hu g hgu=>by
  obtain⟨a,b,hm⟩:=hu g hgu;refine⟨Qy a hg.size,fun e=> ?_,hm⟩;rcases yM with e1|e1
  ·exact b (e1.symm.trans e)
  rw [e1]at e;injection e with e;omega
 have NR:∀u s,Cf w0.heap.size W vo u->Fml W u s->Fml w4 u s:=fun u s ha hi=>⟨hi.1.keepF (fun g vZ _=>NA g (ha g vZ).1 (ha g vZ).2.1) hg.size,hi.2⟩
 refine⟨he.grown hg (fun g vZ=>(hs.lt g vZ).1),ss++ [x],by rw [List.length_append];exact zP,fun k s' hk=> ?_⟩;by_cases sA:k < out.length
 ·rw [List.getElem?_append_left sA]at hk;obtain⟨u,a,b,c⟩:=hv k s' hk;exact⟨u,by rw [List.getElem?_append_left (by omega)];exact a,NR u s' c b,YK u c⟩
 rw [List.getElem?_append_right (by omega)]at hk;have aD:k=out.length:=by
  by_cases e:k - out.length=0
  ·omega
  rw [List.getElem?_eq_none (by simp;omega)]at hk;cases hk
 subst aD;simp at hk;subst hk;exact⟨x,by rw [List.getElem?_append_right (by omega),zH];simp,NR x _ ZK hx,YK x ZK⟩
theorem Tv {w W:World} {vo x:Value} {B n k:Nat} {us zs:List Value} {e:TypeId} {sz m:Nat}(hB:w.heap.size<=B)(hx:W.ownsRow B e sz x n zs)(hs:w.ownsRow m 22 1 vo k us)(hm:m<=w.heap.size):Cf m W vo x:=fun g hg=>by
 obtain⟨h1,h2⟩:=hx.lt g hg;exact⟨h2,fun e=>by have:=(hs.lt g e).2;omega,by omega⟩
def Qkd(p:List Nd->Bool)(l:List (List Nd)):Int:=match l.findIdx? p with|none=> -1|some j=>j
theorem Qyj(p:List Nd->Bool):∀(l:List (List Nd)) (k:Nat) (s:List Nd),l[k]?=some s->p s=true->(∀t∈l.take k,p t=false)->l.findIdx? p=some k
 |[],k,s,h,_,_=>by simp at h
 |a :: r,0,s,h,hp,_=>by
  simp only [List.getElem?_cons_zero,Option.some.injEq]at h;subst h;rw [List.findIdx?_cons,hp];rfl
 |a :: r,k+1,s,h,hp,hn=>by
  have ha:p a=false:=hn a (by simp);rw [List.findIdx?_cons,ha,Qyj p r k s (by simpa using h) hp (fun t ht=>hn t (by simp [ht]))];rfl
theorem Qqc(p:List Nd->Bool):∀(l:List (List Nd)),(∀t∈l,p t=false)->l.findIdx? p=none
 |[],_=>by simp
 |a :: r,hn=>by
  rw [List.findIdx?_cons,hn a (by simp),Qqc p r (fun t ht=>hn t (by simp [ht]))];rfl
theorem Qt0(g:Nat)(lb:Array Value)(eg:∀args w,(callFunc g args).run Tryz.prog w=.ok (.enter g args) w)(p:List Nd->Bool)(v:Value)(l:List (List Nd))(w:World)(h:Bp w v l)
 (hp:∀(W:World) (u:Value) (s:List Nd),Ext w W->Fml W u s->Calls Tryz.prog g (#[u]++lb) W fun e w'=>e=.returned (.bool (p s))/\Ext W w'):
 Calls Tryz.prog 178 #[v,.func (.func g) #[] lb] w fun e w'=>e=.returned (.int .i64 (Qkd p l))/\Ext w w':=by
 obtain⟨A,c,rfl,xR,yO,hr⟩:=h;unfold maxLen at yO;have HR:=Qq hr;have HP:=Qq hp;clear hr hp;go_enter Tryz.func178,Tryz.ntmps178;go_wp2_with fail;go_loopw [5,8] (fun _ i wr=>∃k:Nat,k<=l.length/\i=.int .i64 (k:Int)/\Hid (∀t∈l.take k,p t=false)/\Hid (Ext w wr)) (fun _ i _=>l.length - (intOf i).toNat)
 case atStart=>exact⟨0,Nat.zero_le _,rfl,Qq (by simp),Qq Qz⟩
 case round =>
  obtain⟨k,hk,rfl,tY,HX⟩:=hrel;by_cases hlt2:k < l.length
  ·obtain⟨s,hs⟩:∃s,l[k]?=some s:=⟨_,Qv hlt2⟩;obtain⟨ad,rfl,yT,xS⟩:=HR.out (by intro e;rw [e]at hlt2;simp at hlt2);obtain⟨u,hu,hf⟩:=xS k s hs;have a0:=(HX.out.cell (p:=ad.add k) (Qj yT)).trans hu;have HF:=Qq (hf.ext HX.out);have HA:=Qq hs;have yP:(k:Int) < (l.length:Int):=by omega
   clear hs xS hf hu;cases vP:p s
   ·have HT:Hid (∀t∈l.take (k+1),p t=false):=Qq (by
     rw [Kk HA.out];intro t ht;rcases List.mem_append.1 ht with ht|ht
     ·exact tY.out t ht
     rw [List.mem_singleton.1 ht];exact vP)
    go_wp2_with(refine(HP.out _ u s (by exact HX.out.trans (by repeat(first|exact Qz|assumption|apply Ext.alloc|apply Ext.drew))) (by exact HF.out.ext (by repeat(first|exact Qz|assumption|apply Ext.alloc|apply Ext.drew)))).mono ?_;rintro e w1 ⟨rfl,hx⟩;rw [vP]);go_roundw
    case rel=>exact⟨k+1,by omega,by go_num,HT,Qq (HX.out.trans (by first|exact hx|exact Ext.trans (by repeat(first|exact Qz|assumption|apply Ext.alloc|apply Ext.drew)) hx))⟩
    case measure=>simp [intOf];omega
   have HE:=Qq (show Qkd p l=(k:Int) by unfold Qkd;rw [Qyj p l k s HA.out vP tY.out]);go_wp2_with(refine(HP.out _ u s (by exact HX.out.trans (by repeat(first|exact Qz|assumption|apply Ext.alloc|apply Ext.drew))) (by exact HF.out.ext (by repeat(first|exact Qz|assumption|apply Ext.alloc|apply Ext.drew)))).mono ?_;rintro e w1 ⟨rfl,hx⟩;rw [vP]);go_ret;exact⟨by rw [HE.out] <;> rfl,HX.out.trans (by first|exact hx|exact Ext.trans (by repeat(first|exact Qz|assumption|apply Ext.alloc|apply Ext.drew)) hx)⟩
  obtain rfl:l.length=k:=by omega
  have HE:=Qq (show Qkd p l= -1 by
   unfold Qkd;rw [Qqc p l (fun t ht=>tY.out t (by rw [List.take_of_length_le (Nat.le_refl _)];exact ht))])
  go_wp2_with fail;go_ret;exact⟨by rw [HE.out] <;> rfl,HX.out⟩
def Rr(w:World)(A:Option Addr)(c:Nat)(l:List Bool):Prop :=
 l.length<=c/\c<=maxLen/\(l≠ []->∃ad,A=some ad/\ad.block < w.heap.size/\∀k z,l[k]?=some z->w.cell? (ad.add k)=some (.bool z))
def Kl(w:World)(v:Value)(l:List Bool):Prop:=∃A c,v=.slice A l.length c/\Rr w A c l
section
variable {w w':World} {v:Value}
theorem Rr.ext {A:Option Addr} {c:Nat} {l:List Bool}(h:Rr w A c l)(he:Ext w w'):Rr w' A c l :=
 ⟨h.1,h.2.1,fun hn=>by
  obtain⟨ad,e,zG,hc⟩:=h.2.2 hn;exact⟨ad,e,Qy zG he.size,fun k z hk=>(he.cell (Qj zG)).trans (hc k z hk)⟩⟩
theorem Kl.ext {l:List Bool}(h:Kl w v l)(he:Ext w w'):Kl w' v l:=by
 obtain⟨A,c,e,h⟩:=h;exact⟨A,c,e,h.ext he⟩
end
def Kg(base:Nat)(w:World)(g:Nat)(l:List Bool):Prop:=w.ownsRow base 4 1 (.slice (some ⟨g,0,none⟩) l.length l.length) l.length (l.map Value.bool)
section
variable {base:Nat} {w w':World} {g:Nat} {l:List Bool}
theorem Kg.cell(h:Kg base w g l) {j:Nat} {b:Bool}(hj:l[j]?=some b):w.cell? ⟨g,j,none⟩=some (.bool b):=by
 have hl:=(List.getElem?_eq_some_iff.1 hj).1;rw [World.ownsRow.cellAt h j (by omega),List.getElem?_map,hj];rfl
theorem Kg.frozen(h:Kg base w g l)(j:Nat):w.frozen? ⟨g,j,none⟩=false:=World.ownsRow.frozenAt h j
theorem Kg.lt(h:Kg base w g l):base<=g/\g < w.heap.size:=World.ownsRow.lt h g rfl
theorem Kg.set(h:Kg base w g l)(j:Nat)(b:Bool):Kg base (w.setCell ⟨g,j,none⟩ (.bool b)) g (l.set j b)/\w.grownBy (w.setCell ⟨g,j,none⟩ (.bool b)) (some g):=by
 obtain⟨h1,h2⟩:=World.ownsRow.stored h j (.bool b);refine⟨?_,h2⟩;unfold Kg;rw [List.length_set,<-List.map_set]at *;exact h1
theorem Kg.ext(h:Kg base w g l)(he:Ext w w'):Kg base w' g l:=Zf h he
theorem Kg.base_ {b':Nat}(h:Kg base w g l)(hb:b'<=base):Kg b' w g l:=Kt h hb
theorem Kg.bools(h:Kg base w g l):Kl w (.slice (some ⟨g,0,none⟩) l.length l.length) l:=by
 refine⟨_,_,rfl,Nat.le_refl _,?_,fun hn=>⟨_,rfl,h.lt.2,fun k z hk=> ?_⟩⟩
 ·have h2:=h.2;rcases h2 with⟨e,_⟩|⟨g',cap,cur,e,_,_,_,hm,_⟩
  ·cases e
  injection e with _ _ e;rw [e];exact hm
 rw [Fr];exact h.cell hk
end
theorem Qlj(n:Nat):(madeCells (Value.cells (.bool false)) (n*1)).toList=(List.replicate n false).map Value.bool:=by
 simp only [madeCells,Value.cells,Nat.mul_one,Array.toList_map,Array.toList_range,List.map_replicate];refine List.ext_getElem (by simp) fun i h1 h2=> ?_
 simp [Nat.mod_one]
def Qf5(w:World)(a:Addr)(k:Kn):Prop :=
 ∃vh,w.cell? a=some (.int .i64 k.agent)/\w.cell? ⟨a.block,a.off+1,none⟩=some (.int .i64 (k.place:Int))/\w.cell? ⟨a.block,a.off+2,none⟩=some vh/\Kl w vh k.holds
def Qzw(w:World)(A:Option Addr)(c:Nat)(l:List Kn):Prop :=
 l.length<=c/\c<=maxLen/\(l≠ []->∃ad,A=some ad/\ad.block < w.heap.size/\∀k n,l[k]?=some n->Qf5 w (ad.add (k*3)) n)
def Kns(w:World)(v:Value)(l:List Kn):Prop:=∃A c,v=.slice A l.length c/\Qzw w A c l
def Qf3(w:World)(a:Addr)(k:Cm):Prop :=
 ∃vx vy,w.cell? a=some (.int .i64 (k.place:Int))/\w.cell? ⟨a.block,a.off+1,none⟩=some (.int .i64 k.group)/\w.cell? ⟨a.block,a.off+2,none⟩=some vx/\w.cell? ⟨a.block,a.off+3,none⟩=some vy/\
  w.cell? ⟨a.block,a.off+4,none⟩=some (.int .u64 (k.parts:Int))/\Kl w vx k.x/\Kl w vy k.y
def Qza(w:World)(A:Option Addr)(c:Nat)(l:List Cm):Prop :=
 l.length<=c/\c<=maxLen/\(l≠ []->∃ad,A=some ad/\ad.block < w.heap.size/\∀k n,l[k]?=some n->Qf3 w (ad.add (k*5)) n)
def Cms(w:World)(v:Value)(l:List Cm):Prop:=∃A c,v=.slice A l.length c/\Qza w A c l
section
variable {w w':World} {v:Value} {a:Addr}
theorem Qf5.ext {k:Kn}(h:Qf5 w a k)(he:Ext w w')(ha:a.block < w.heap.size):Qf5 w' a k:=by
 obtain⟨vh,h0,h1,h2,h3⟩:=h;have hk:∀o s,w'.cell? ⟨a.block,o,s⟩=w.cell? ⟨a.block,o,s⟩:=fun o s=>he.cell (p:=⟨a.block,o,s⟩) ha
 exact⟨vh,(hk _ _).trans h0,(hk _ _).trans h1,(hk _ _).trans h2,h3.ext he⟩
theorem Qf3.ext {k:Cm}(h:Qf3 w a k)(he:Ext w w')(ha:a.block < w.heap.size):Qf3 w' a k:=by
 obtain⟨vx,vy,h0,h1,h2,h3,h4,h5,h6⟩:=h;have hk:∀o s,w'.cell? ⟨a.block,o,s⟩=w.cell? ⟨a.block,o,s⟩:=fun o s=>he.cell (p:=⟨a.block,o,s⟩) ha
 exact⟨vx,vy,(hk _ _).trans h0,(hk _ _).trans h1,(hk _ _).trans h2,(hk _ _).trans h3,(hk _ _).trans h4,h5.ext he,h6.ext he⟩
theorem Qzw.ext {A:Option Addr} {c:Nat} {l:List Kn}(h:Qzw w A c l)(he:Ext w w'):Qzw w' A c l :=
 ⟨h.1,h.2.1,fun hn=>by
  obtain⟨ad,e,zG,hc⟩:=h.2.2 hn;exact⟨ad,e,Qy zG he.size,fun k n hk=>(hc k n hk).ext he (Qj zG)⟩⟩
theorem Qza.ext {A:Option Addr} {c:Nat} {l:List Cm}(h:Qza w A c l)(he:Ext w w'):Qza w' A c l :=
 ⟨h.1,h.2.1,fun hn=>by
  obtain⟨ad,e,zG,hc⟩:=h.2.2 hn;exact⟨ad,e,Qy zG he.size,fun k n hk=>(hc k n hk).ext he (Qj zG)⟩⟩
theorem Kns.ext {l:List Kn}(h:Kns w v l)(he:Ext w w'):Kns w' v l:=by
 obtain⟨A,c,e,h⟩:=h;exact⟨A,c,e,h.ext he⟩
theorem Cms.ext {l:List Cm}(h:Cms w v l)(he:Ext w w'):Cms w' v l:=by
 obtain⟨A,c,e,h⟩:=h;exact⟨A,c,e,h.ext he⟩
end
structure Eng (w:World) (b:Nat) (lg:Int) (base:List (List Nd)) (root:List Bool) (ks:List Kn) (cs:List Cm) (alive:List Bool):Prop where
 all:∃vb vr vk vc va,w.heap[b]?=some (.cells #[.int .i64 lg,vb,vr,vk,vc,va] 93 (0,0))/\Bp w vb base/\Kl w vr root/\Kns w vk ks/\Cms w vc cs/\Kl w va alive
section
variable {w w':World} {b:Nat} {lg:Int} {base:List (List Nd)} {root:List Bool} {ks:List Kn} {cs:List Cm} {alive:List Bool}
theorem Eng.ext(h:Eng w b lg base root ks cs alive)(he:Ext w w'):Eng w' b lg base root ks cs alive:=by
 obtain⟨vb,vr,vk,vc,va,hb,h1,h2,h3,h4,h5⟩:=h.all;exact⟨vb,vr,vk,vc,va,(he.block (Qf hb)).trans hb,h1.ext he,h2.ext he,h3.ext he,h4.ext he,h5.ext he⟩
theorem Eng.cells(h:Eng w b lg base root ks cs alive):∃Ab cb Ar cr Ak ck Ac cc Aa ca,w.cell? ⟨b,0,none⟩=some (.int .i64 lg)/\w.cell? ⟨b,1,none⟩=some (.slice Ab base.length cb)/\w.cell? ⟨b,2,none⟩=some (.slice Ar root.length cr)/\
 w.cell? ⟨b,3,none⟩=some (.slice Ak ks.length ck)/\w.cell? ⟨b,4,none⟩=some (.slice Ac cs.length cc)/\w.cell? ⟨b,5,none⟩=some (.slice Aa alive.length ca)/\b < w.heap.size/\
 Bp w (.slice Ab base.length cb) base/\Rr w Ar cr root/\Qzw w Ak ck ks/\Qza w Ac cc cs/\Rr w Aa ca alive:=by
 obtain⟨vb,vr,vk,vc,va,hb,h1,⟨Ar,cr,rfl,h2⟩,⟨Ak,ck,rfl,h3⟩,⟨Ac,cc,rfl,h4⟩,⟨Aa,ca,rfl,h5⟩⟩:=h.all;obtain⟨⟨d0,d1,d2,d3,d4,d5⟩,_,hl⟩:=Vm hb;have H6:=h1;obtain⟨Ab,cb,rfl,_⟩:=h1;exact⟨Ab,cb,Ar,cr,Ak,ck,Ac,cc,Aa,ca,d0,d1,d2,d3,d4,d5,hl,H6,h2,h3,h4,h5⟩
end
structure Zva (base:List (List Nd)) (root:List Bool) (ks:List Kn) (cs:List Cm) (alive:List Bool):Prop where
 len:base.length<=12
 m:alive.length=2^base.length
 root:root.length=2^base.length
 kn:∀k∈ks,k.place < base.length/\k.holds.length=2^base.length/\Vs k.agent
 cm:∀c∈cs,c.place < base.length/\c.x.length=2^base.length/\c.y.length=2^base.length/\c.parts < 18446744073709551616/\0<=c.group/\c.group < 16
 klen:ks.length<=12
 clen:cs.length<=12
theorem Qf0 {n:Nat}(h:n<=12):2^n<=4096:=Nat.pow_le_pow_right (by decide) h
theorem Xv {w:World} {A:Option Addr} {c:Nat} {l:List Bool}(h:Rr w A c l) {k:Nat}(hk:k < l.length):∃ad,A=some ad/\ad.block < w.heap.size/\w.cell? (ad.add k)=some (.bool (l.getD k false)):=by
 obtain⟨ad,e,hb,hc⟩:=h.2.2 (by intro e;rw [e]at hk;simp at hk);refine⟨ad,e,hb,hc k _ ?_⟩;rw [Qk,Qv hk];rfl
theorem Qfe(b:Nat)(lg:Int)(w:World)(d0:w.cell? ⟨b,0,none⟩=some (.int .i64 lg)):
 Calls Tryz.prog 184 #[.pointer (some ⟨b,0,none⟩)] w fun e w'=>e=.returned (.bool (Bx lg))/\w=w':=by
 cases h2:lg==2
 ·cases h4:lg==4
  ·cases h6:lg==6
   ·have HE:=Qq (show Bx lg=false by unfold Bx;rw [h2,h4,h6];rfl);go_enter Tryz.func184,Tryz.ntmps184;go_wp2_with fail;go_ret;exact⟨by rw [HE.out] <;> rfl,rfl⟩
   have HE:=Qq (show Bx lg=true by unfold Bx;rw [h2,h4,h6];rfl);go_enter Tryz.func184,Tryz.ntmps184;go_wp2_with fail;go_ret;exact⟨by rw [HE.out] <;> rfl,rfl⟩
  have HE:=Qq (show Bx lg=true by unfold Bx;rw [h2,h4];rfl);go_enter Tryz.func184,Tryz.ntmps184;go_wp2_with fail;go_ret;exact⟨by rw [HE.out] <;> rfl,rfl⟩
 have HE:=Qq (show Bx lg=true by unfold Bx;rw [h2];rfl);go_enter Tryz.func184,Tryz.ntmps184;go_wp2_with fail;go_ret;exact⟨by rw [HE.out] <;> rfl,rfl⟩
theorem Qii {lg:Int} {ks:List Kn} {a:Int} {t u k:Nat} {n:Kn}(hn:ks[k]?=some n)(h:(n.agent !=a||Kb lg (t.testBit n.place) (n.holds.getD u false) (u.testBit n.place))=false):Jq lg ks a t u=false:=by
 unfold Jq;rw [List.all_eq_false];exact⟨n,List.mem_of_getElem? hn,by rw [h];simp⟩
theorem Qio {lg:Int} {ks:List Kn} {a:Int} {t u:Nat}(h:∀j n,j < ks.length->ks[j]?=some n->(n.agent !=a||Kb lg (t.testBit n.place) (n.holds.getD u false) (u.testBit n.place))=true):Jq lg ks a t u=true:=by
 unfold Jq;rw [List.all_eq_true];intro n hn;obtain⟨j,hj,e⟩:=List.getElem_of_mem hn;exact h j n hj (by rw [Qv hj,e])
theorem Qtf {lg:Int} {a b c:Bool}(h:lg=0\/lg=1\/lg=2):Kb lg a b c=(!a||b):=by
 rcases h with rfl|rfl|rfl <;> rfl
theorem Zyk {lg:Int} {a b c:Bool}(h:lg=3):Kb lg a b c=(!a||(b&&c)):=by subst h;rfl
theorem Zyx {lg:Int} {a b c:Bool}(h:lg=4):Kb lg a b c=(!a||c):=by subst h;rfl
theorem Zyf {lg:Int} {a b c:Bool}(h:lg=6):Kb lg a b c=(a==c):=by subst h;rfl
theorem Zyg {lg:Int} {a b c:Bool}(h:lg=5):Kb lg a b c=((a==c)&&(!a||b)):=by subst h;rfl
theorem Qq1 {w:World} {A:Option Addr} {c:Nat} {l:List Kn}(h:Qzw w A c l) {k:Nat} {n:Kn}(hk:l[k]?=some n):∃ad,A=some ad/\ad.block < w.heap.size/\Qf5 w (ad.add (k*3)) n:=by
 obtain⟨ad,e,hb,hc⟩:=h.2.2 (by intro e;rw [e]at hk;simp at hk);exact⟨ad,e,hb,hc k n hk⟩
theorem Qxx {w:World} {b:Nat} {a0 a1 a2:Value} {t:TypeId}(h:w.heap[b]?=some (.cells #[a0,a1,a2] t (0,0))):
 w.cell? ⟨b,0,none⟩=some a0/\w.cell? ⟨b,1,none⟩=some a1/\w.cell? ⟨b,2,none⟩=some a2/\b < w.heap.size :=
 ⟨by simp [World.cell?,h],by simp [World.cell?,h],by simp [World.cell?,h],Qf h⟩
theorem Te(b:Nat)(lg:Int)(base:List (List Nd))(root:List Bool)(ks:List Kn)(cs:List Cm)(alive:List Bool)(a:Int)(t u:Nat)(w:World)
 (hE:Eng w b lg base root ks cs alive)(xY:0<=lg/\lg<=6)(ht:t < 18446744073709551616)(hu:u < 18446744073709551616)(rI:∀k∈ks,k.place < 64/\u < k.holds.length):
 Calls Tryz.prog 70 #[.pointer (some ⟨b,0,none⟩),.int .i64 a,.int .u64 (t:Int),.int .u64 (u:Int)] w fun e w'=>e=.returned (.bool (Jq lg ks a t u))/\Ext w w':=by
 obtain⟨Ab,cb,Ar,cr,Ak,ck,Ac,cc,Aa,ca,d0,d1,d2,d3,d4,d5,yW,_,_,uQ,_,_⟩:=hE.cells;have HK:=Qq uQ;have KD:=uQ.1;have zT:=uQ.2.1;unfold maxLen at zT;have tL:=Qq rI;have D0:=Qq d0;clear hE uQ rI d1 d2 d4 d5 d0;go_enter Tryz.func70,Tryz.ntmps70;go_wp2_with fail;clear d3;go_loopw [19] (fun v wr=>∃k:Nat,v=.int .i64 (k:Int)/\k<=ks.length/\Hid (Ext w wr/\∀j n,j < k->ks[j]?=some n->(n.agent !=a||Kb lg (t.testBit n.place) (n.holds.getD u false) (u.testBit n.place))=true)) (fun v _=>ks.length - (intOf v).toNat)
 case atStart=>exact⟨0,rfl,Nat.zero_le _,Qq ⟨Qz,fun j n hj=>absurd hj (by omega)⟩⟩
 case round =>
  obtain⟨k,rfl,hk,zY⟩:=hrel;have HX:=Qq zY.out.1;have HJ:=Qq zY.out.2;clear zY;by_cases hlt2:k < ks.length
  ·have yP:(k:Int) < (ks.length:Int):=by omega
   obtain⟨n,hn⟩:∃n,ks[k]?=some n:=⟨_,Qv hlt2⟩;obtain⟨lU,UH⟩:=tL.out n (List.mem_of_getElem? hn);obtain⟨ad,rfl,yZ,yM⟩:=Qq1 HK.out hn;obtain⟨vh,c0,c1,c2,rK⟩:=yM.ext HX.out (Qj yZ);obtain⟨Ah,ch,rfl,rK⟩:=rK;have hhc:=rK.1;have YE:=rK.2.1;unfold maxLen at YE;obtain⟨ah,rfl,DQ,yR⟩:=Xv rK UH;have tQ:(ad.add (k*3)).block < wr.heap.size:=by rw [Qr];exact Qy yZ HX.out.size
   have NI:(ah.add u).block < wr.heap.size:=by rw [Qr];exact DQ
   have MS:(u:Int) < (n.holds.length:Int):=by omega
   have sE:=yR;have dl0:=(HX.out.cell (p:=⟨b,0,none⟩) yW).trans D0.out;have sG:b < wr.heap.size:=Qy yW HX.out.size;have HN:=Qq hn;have yA:=Qq (show ∀c:Bool,(n.agent !=a||Kb lg (t.testBit n.place) (n.holds.getD u false) (u.testBit n.place))=c->c=true->∀j m,j < k+1->ks[j]?=some m->(m.agent !=a||Kb lg (t.testBit m.place) (m.holds.getD u false) (u.testBit m.place))=true from fun c hc ht j m hj hm=>by
    by_cases e:j < k
    ·exact HJ.out j m e hm
    have:j=k:=by omega
    subst this;rw [hn]at hm;injection hm with hm;rw [<-hm,hc,ht])
   have yT:=Bz t n.place ht;have wZ:=Bz u n.place hu;obtain⟨ph,TM⟩:∃x,x=n.holds.getD u false:=⟨_,rfl⟩;obtain⟨p1,lW⟩:∃x,x=t.testBit n.place:=⟨_,rfl⟩;obtain⟨p2,tF⟩:∃x,x=u.testBit n.place:=⟨_,rfl⟩;have GN:=Qq (show(n.agent !=a||Kb lg (t.testBit n.place) (n.holds.getD u false) (u.testBit n.place))=(n.agent !=a||Kb lg p1 ph p2) by rw [TM,lW,tF]);rw [<-TM]at yR;rw [<-lW]at yT;rw [<-tF]at wZ;clear hn yM rK sE TM lW tF;obtain⟨wq,vD⟩:∃v,v=wr:=⟨_,rfl⟩;subst vD;cases vH:n.agent !=a
   case true =>
    have hO:=Qq vH;go_wp2_with fail;go_roundw
    case rel=>exact⟨k+1,by go_num,by omega,Qq ⟨HX.out.trans (Qz.alloc _),yA.out true (by rw [GN.out,hO.out];rfl) rfl⟩⟩
    case measure=>simp [intOf];omega
   case false =>
    have hO:=Qq vH;go_upto_region 5 with(fail);obtain⟨e0,e1,e2,eb⟩:=Qxx (show(wq.alloc (.cells #[.int .i64 n.agent,.int .i64 (n.place:Int),.slice (some ah) n.holds.length ch] 136)).heap[wq.heap.size]?=some (.cells #[.int .i64 n.agent,.int .i64 (n.place:Int),.slice (some ah) n.holds.length ch] 136 (0,0))from heap_alloc_new _ _);refine wp_region_held_drew (S:=fun w'=>w'.cell? (⟨wq.heap.size,1,none⟩)=some (.int .i64 (n.place:Int))) (by kernel_rfl) (xc eb e1) (fun zZ=> ?_);refine tk 0 zZ ?_;refine tk 1 zZ ?_;refine tk 2 zZ ?_;refine tk 3 zZ ?_;refine tk 4 zZ ?_;refine tk 5 zZ ?_
    refine tk 6 zZ ?_;refine tk 7 zZ ?_;refine tk 8 zZ ?_;refine tk 9 zZ ?_;refine tk 10 zZ ?_;refine tk 11 zZ ?_;refine tk 12 zZ ?_;refine tk 13 zZ ?_;refine wpAnyH_done (by kernel_rfl) ?_ _;have yV:Ext wq (wq.alloc (.cells #[.int .i64 n.agent,.int .i64 (n.place:Int),.slice (some ah) n.holds.length ch] 136)).drew:=(Qz.alloc _).drew;obtain⟨W0,zE⟩:∃v,v=(wq.alloc (.cells #[.int .i64 n.agent,.int .i64 (n.place:Int),.slice (some ah) n.holds.length ch] 136)).drew:=⟨_,rfl⟩;have f2:W0.cell? ⟨wq.heap.size,2,none⟩=some (.slice (some ah) n.holds.length ch):=by rw [zE];exact e2
    have fb:wq.heap.size < W0.heap.size:=by rw [zE];exact eb
    rw [<-zE]at yV⊢;have f0:=(yV.cell (p:=⟨b,0,none⟩) sG).trans dl0;have fc:=(yV.cell (p:=ah.add u) NI).trans yR;have zK:=Qq yV;clear zE yV e0 e1 e2 eb yR dl0 yT wZ c0 c1 c2;go_upto_block 2 with(fail);go_cut [13] (fun s13 wx=>s13=.bool (Kb lg p1 ph p2)/\wx=W0)
    case first =>
     have UR:lg=0\/lg=1\/lg=2\/lg=3\/lg=4\/lg=5\/lg=6:=by omega
     rcases UR with hl|hl|hl|hl|hl|hl|hl
     ·have qX:=Qq (show Kb lg p1 ph p2=_ from Qtf (.inl hl));have t0:(lg==0)=true:=by rw [hl];rfl
      have t1:(lg==1)=false:=by rw [hl];rfl
      have t2:(lg==2)=false:=by rw [hl];rfl
      have t3:(lg==3)=false:=by rw [hl];rfl
      have t4:(lg==4)=false:=by rw [hl];rfl
      have t6:(lg==6)=false:=by rw [hl];rfl
      have t5:(lg==5)=false:=by rw [hl];rfl
      clear hl;cases p1 <;> cases ph <;> cases p2
      all_goals
       go_wp2_with fail;go_meet;exact⟨by rw [qX.out] <;> rfl,by first|rfl|trivial⟩
     ·have qX:=Qq (show Kb lg p1 ph p2=_ from Qtf (.inr (.inl hl)));have t0:(lg==0)=false:=by rw [hl];rfl
      have t1:(lg==1)=true:=by rw [hl];rfl
      have t2:(lg==2)=false:=by rw [hl];rfl
      have t3:(lg==3)=false:=by rw [hl];rfl
      have t4:(lg==4)=false:=by rw [hl];rfl
      have t6:(lg==6)=false:=by rw [hl];rfl
      have t5:(lg==5)=false:=by rw [hl];rfl
      clear hl;cases p1 <;> cases ph <;> cases p2
      all_goals
       go_wp2_with fail;go_meet;exact⟨by rw [qX.out] <;> rfl,by first|rfl|trivial⟩
     ·have qX:=Qq (show Kb lg p1 ph p2=_ from Qtf (.inr (.inr hl)));have t0:(lg==0)=false:=by rw [hl];rfl
      have t1:(lg==1)=false:=by rw [hl];rfl
      have t2:(lg==2)=true:=by rw [hl];rfl
      have t3:(lg==3)=false:=by rw [hl];rfl
      have t4:(lg==4)=false:=by rw [hl];rfl
      have t6:(lg==6)=false:=by rw [hl];rfl
      have t5:(lg==5)=false:=by rw [hl];rfl
      clear hl;cases p1 <;> cases ph <;> cases p2
      all_goals
       go_wp2_with fail;go_meet;exact⟨by rw [qX.out] <;> rfl,by first|rfl|trivial⟩
     ·have qX:=Qq (show Kb lg p1 ph p2=_ from Zyk hl);have t0:(lg==0)=false:=by rw [hl];rfl
      have t1:(lg==1)=false:=by rw [hl];rfl
      have t2:(lg==2)=false:=by rw [hl];rfl
      have t3:(lg==3)=true:=by rw [hl];rfl
      have t4:(lg==4)=false:=by rw [hl];rfl
      have t6:(lg==6)=false:=by rw [hl];rfl
      have t5:(lg==5)=false:=by rw [hl];rfl
      clear hl;cases p1 <;> cases ph <;> cases p2
      all_goals
       go_wp2_with fail;go_meet;exact⟨by rw [qX.out] <;> rfl,by first|rfl|trivial⟩
     ·have qX:=Qq (show Kb lg p1 ph p2=_ from Zyx hl);have t0:(lg==0)=false:=by rw [hl];rfl
      have t1:(lg==1)=false:=by rw [hl];rfl
      have t2:(lg==2)=false:=by rw [hl];rfl
      have t3:(lg==3)=false:=by rw [hl];rfl
      have t4:(lg==4)=true:=by rw [hl];rfl
      have t6:(lg==6)=false:=by rw [hl];rfl
      have t5:(lg==5)=false:=by rw [hl];rfl
      clear hl;cases p1 <;> cases ph <;> cases p2
      all_goals
       go_wp2_with fail;go_meet;exact⟨by rw [qX.out] <;> rfl,by first|rfl|trivial⟩
     ·have qX:=Qq (show Kb lg p1 ph p2=_ from Zyg hl);have t0:(lg==0)=false:=by rw [hl];rfl
      have t1:(lg==1)=false:=by rw [hl];rfl
      have t2:(lg==2)=false:=by rw [hl];rfl
      have t3:(lg==3)=false:=by rw [hl];rfl
      have t4:(lg==4)=false:=by rw [hl];rfl
      have t6:(lg==6)=false:=by rw [hl];rfl
      have t5:(lg==5)=true:=by rw [hl];rfl
      clear hl;cases p1 <;> cases ph <;> cases p2
      all_goals
       go_wp2_with fail;go_meet;exact⟨by rw [qX.out] <;> rfl,by first|rfl|trivial⟩
     have qX:=Qq (show Kb lg p1 ph p2=_ from Zyf hl);have t0:(lg==0)=false:=by rw [hl];rfl
     have t1:(lg==1)=false:=by rw [hl];rfl
     have t2:(lg==2)=false:=by rw [hl];rfl
     have t3:(lg==3)=false:=by rw [hl];rfl
     have t4:(lg==4)=false:=by rw [hl];rfl
     have t6:(lg==6)=true:=by rw [hl];rfl
     have t5:(lg==5)=false:=by rw [hl];rfl
     clear hl;cases p1 <;> cases ph <;> cases p2
     all_goals
      go_wp2_with fail;go_meet;exact⟨by rw [qX.out] <;> rfl,by first|rfl|trivial⟩
    case rest =>
     obtain⟨rfl,rfl⟩:=hcut;cases gR:Kb lg p1 ph p2
     case true =>
      have qX:=Qq gR;clear gR;go_wp2_with fail;go_roundw
      case rel=>exact⟨k+1,by go_num,by omega,Qq ⟨HX.out.trans zK.out,yA.out true (by rw [GN.out,hO.out,qX.out];rfl) rfl⟩⟩
      case measure=>simp [intOf];omega
     case false =>
      have HE:=Qq (show Jq lg ks a t u=false from Qii HN.out (by rw [GN.out,hO.out,gR];rfl));clear gR;go_wp2_with fail;go_ret;exact⟨by rw [HE.out] <;> rfl,HX.out.trans zK.out⟩
  obtain rfl:ks.length=k:=by omega
  have HE:=Qq (show Jq lg ks a t u=true from Qio (fun j n hj=>HJ.out j n hj));go_wp2_with fail;go_ret;exact⟨by rw [HE.out] <;> rfl,HX.out⟩
theorem Qxl {p:Nat->Bool} {m k:Nat}(hk:k < m)(h:p k=true)(hn:∀j,j < k->p j=false):(List.range m).find? p=some k:=by
 rw [List.find?_range_eq_some];exact⟨h,List.mem_range.2 hk,fun j hj=>by rw [hn j hj];rfl⟩
theorem Qa8 {lg:Int} {ks:List Kn} {al:List Bool} {a:Int} {t k:Nat} {wt:Nat->Bool}(hk:k < al.length)(h:Xc lg ks al a t wt k=true)(hn:∀j,j < k->Xc lg ks al a t wt j=false):Xm lg ks al a t wt=(k:Int):=by
 unfold Xm;rw [Qxl hk h hn]
theorem Qcz {lg:Int} {ks:List Kn} {al:List Bool} {a:Int} {t:Nat} {wt:Nat->Bool}(hn:∀j,j < al.length->Xc lg ks al a t wt j=false):Xm lg ks al a t wt= -1:=by
 unfold Xm;have:(List.range al.length).find? (Xc lg ks al a t wt)=none:=by
  rw [List.find?_eq_none];intro j hj;rw [hn j (List.mem_range.1 hj)];simp
 rw [this]
theorem Qvk(b:Nat)(lg:Int)(base:List (List Nd))(root:List Bool)(ks:List Kn)(cs:List Cm)(alive:List Bool)(a:Int)(t:Nat)(wanted:Nat->Bool)(g:Nat)(lb:Array Value)(eg:∀args w,(callFunc g args).run Tryz.prog w=.ok (.enter g args) w)(w:World)
 (hE:Eng w b lg base root ks cs alive)(xY:0<=lg/\lg<=6)(ht:t < 18446744073709551616)(_hm:alive.length<=4096)(rI:∀k∈ks,k.place < 64/\alive.length<=k.holds.length)
 (hw:∀(W:World) (u:Nat),u < alive.length->Ext w W->Calls Tryz.prog g (#[.int .i64 (u:Int)]++lb) W fun e w'=>e=.returned (.bool (wanted u))/\Ext W w'):
 Calls Tryz.prog 136 #[.pointer (some ⟨b,0,none⟩),.int .i64 a,.int .u64 (t:Int),.func (.func g) #[] lb] w fun e w'=>e=.returned (.int .i64 (Xm lg ks alive a t wanted))/\Ext w w':=by
 obtain⟨Ab,cb,Ar,cr,Ak,ck,Ac,cc,Aa,ca,d0,d1,d2,d3,d4,d5,yW,_,_,uQ,_,vS⟩:=hE.cells;have HE:=Qq hE;have HA:=Qq vS;have SA:=vS.1;have qQ:=vS.2.1;unfold maxLen at qQ;have tL:=Qq rI;have HW:=Qq hw;clear hE vS uQ rI hw d0 d1 d2 d3 d4;go_enter Tryz.func136,Tryz.ntmps136;go_wp2_with fail;clear d5;go_loopw [16] (fun v wr=>∃k:Nat,v=.int .i64 (k:Int)/\k<=alive.length/\Hid (Ext w wr/\∀j,j < k->Xc lg ks alive a t wanted j=false)) (fun v _=>alive.length - (intOf v).toNat)
 case atStart=>exact⟨0,rfl,Nat.zero_le _,Qq ⟨Qz,fun j hj=>absurd hj (by omega)⟩⟩
 case round =>
  obtain⟨k,rfl,hk,zY⟩:=hrel;have HX:=Qq zY.out.1;have HJ:=Qq zY.out.2;clear zY;by_cases hlt2:k < alive.length
  ·have yP:(k:Int) < (alive.length:Int):=by omega
   obtain⟨ad,rfl,yT,a0⟩:=Xv (HA.out.ext HX.out) hlt2;have yA:=Qq (show Xc lg ks alive a t wanted k=false->∀j,j < k+1->Xc lg ks alive a t wanted j=false from fun h j hj=>by
    by_cases e:j < k
    ·exact HJ.out j e
    have:j=k:=by omega
    subst this;exact h)
   have HP:=Qq (show Xc lg ks alive a t wanted k=(alive.getD k false&&(wanted k&&Jq lg ks a t k))from rfl);have nM:=Qq (fun W hW=>HW.out W k hlt2 hW);have jS:=Qq (fun W (hW:Ext w W)=>Te b lg base root ks cs alive a t k W (HE.out.ext hW) xY ht (by omega) (fun n hn=>⟨(tL.out n hn).1,Qy hlt2 (tL.out n hn).2⟩));obtain⟨wk,oP⟩:∃x,x=wanted k:=⟨_,rfl⟩;obtain⟨pk,dZ⟩:∃x,x=Jq lg ks a t k:=⟨_,rfl⟩;obtain⟨ak,qS⟩:∃x,x=alive.getD k false:=⟨_,rfl⟩;rw [<-oP,<-dZ,<-qS]at HP;rw [<-oP]at nM;rw [<-dZ]at jS;rw [<-qS]at a0;clear oP dZ qS;cases ak
   ·go_wp2_with fail;go_roundw
    case rel=>exact⟨k+1,by go_num,by omega,Qq ⟨HX.out,yA.out (by rw [HP.out];rfl)⟩⟩
    case measure=>simp [intOf];omega
   cases wk
   ·go_wp2_with fail;refine(nM.out _ HX.out).mono ?_;rintro e w2 ⟨rfl,hx⟩;have zR:=Qq hx;clear hx;go_wp2_with fail;go_roundw
    case rel=>exact⟨k+1,by go_num,by omega,Qq ⟨HX.out.trans zR.out,yA.out (by rw [HP.out];rfl)⟩⟩
    case measure=>simp [intOf];omega
   go_wp2_with fail;refine(nM.out _ HX.out).mono ?_;rintro e w2 ⟨rfl,hx⟩;have zR:=Qq hx;clear hx;go_wp2_with fail;refine(jS.out _ (HX.out.trans zR.out)).mono ?_;rintro e w3 ⟨rfl,hx⟩;have zC:=Qq hx;clear hx;cases pk
   ·go_wp2_with fail;go_roundw
    case rel=>exact⟨k+1,by go_num,by omega,Qq ⟨HX.out.trans (zR.out.trans zC.out),yA.out (by rw [HP.out];rfl)⟩⟩
    case measure=>simp [intOf];omega
   have HR:=Qq (Qa8 hlt2 (by rw [HP.out];rfl) HJ.out);go_wp2_with fail;go_ret;exact⟨by rw [HR.out] <;> rfl,HX.out.trans (zR.out.trans zC.out)⟩
  obtain rfl:alive.length=k:=by omega
  have HR:=Qq (Qcz HJ.out);go_wp2_with fail;go_ret;exact⟨by rw [HR.out] <;> rfl,HX.out⟩
def Ya(m:Nat):Nat:=if m=0 then 0 else m.log2+1
theorem Qiv:∀x:Fin 256,Lib.len8 (x.val:Int)=(Ya x.val:Int):=by decide+kernel
theorem Qiy(y:Int)(h:y.toNat < Lib.len8tab.size):((Lib.len8tab[y.toNat]'h).toNat:Int)=Lib.len8 y:=by
 unfold Lib.len8;rw [getElem?_pos Lib.len8tab y.toNat h];rfl
theorem Qhs(a:Int)(h0:0<=a)(h1:a<=8):RowKit.wrap64 (RowKit.wrap64 a)=a:=by
 unfold RowKit.wrap64;omega
theorem Qpo(x z:Int)(h0:0<=x)(h1:x < 256)(hz:Hid (Lib.len8 x=z/\0<=z/\z<=8))(w:World):Calls Tryz.prog 141 #[.int .u64 x] w fun e w'=>e=.returned (.int .i64 z)/\w'=w:=by
 go_enter Tryz.func141,Tryz.ntmps141;go_wp2;go_ret;exact⟨by rw [Qiy,hz.out.1,Qhs _ hz.out.2.1 hz.out.2.2] <;> rfl,rfl⟩
theorem Zz2 {x:Nat}(hx:x < 256):Ya x<=8:=by
 unfold Ya
 split
 ·omega
 rename_i h0;have:=(Nat.log2_lt h0).2 (show x < 2^8 from hx);omega
theorem Qpw(x:Nat)(hx:x < 256)(w:World):Calls Tryz.prog 141 #[.int .u64 (x:Int)] w fun e w'=>e=.returned (.int .i64 (Ya x:Int))/\w'=w :=
 Qpo (x:Int) _ (by omega) (by omega) (Qq ⟨Qiv ⟨x,hx⟩,by omega,by have:=Zz2 hx;show(Ya x:Int)<=8;omega⟩) w
theorem Qjf(x:Nat)(hx:x < 256)(w:World):Calls Tryz.prog 65 #[.int .u64 (x:Int)] w fun e w'=>e=.returned (.int .i64 (Ya x:Int))/\w'=w:=by
 go_enter Tryz.func65,Tryz.ntmps65;go_wp2_with fail;refine(Qpw x hx _).mono ?_;rintro e w1 ⟨rfl,rfl⟩;go_wp2_with fail;go_ret;exact⟨rfl,rfl⟩
end Go.Proofs.YtkmclcmnoicagaaGreatDoor
