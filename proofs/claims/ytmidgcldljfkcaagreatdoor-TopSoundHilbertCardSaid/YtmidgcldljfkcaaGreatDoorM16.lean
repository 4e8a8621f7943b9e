/- Types and models: what is true at a world is a type that lacks nothing, and types that lack nothing are the worlds of a model. Plain Lean. -/
import Derived.Test.YtmidgcldljfkcaaGreatDoorM01
import Derived.Test.YtmidgcldljfkcaaGreatDoorM13
import Derived.Test.YtmidgcldljfkcaaGreatDoorM14
import Derived.Test.YtmidgcldljfkcaaGreatDoorM12
import Derived.Deep.MidRow
namespace Go.Proofs.YtmidgcldljfkcaaGreatDoor
set_option maxRecDepth 100000
set_option maxHeartbeats 128000000
inductive Rch {α:Type} (r:α->α->Prop):α->α->Prop
 |one {a b:α} :r a b->Rch r a b
 |cons {a b c:α} :r a b->Rch r b c->Rch r a c
theorem Rch.map {α β:Type} {r:α->α->Prop} {s:β->β->Prop}(f:α->β)(hf:∀a b,r a b->s (f a) (f b)) {a b:α}(h:Rch r a b):Rch s (f a) (f b):=by
 induction h with
 |one h=>exact .one (hf _ _ h)
 |cons h _ ih=>exact .cons (hf _ _ h) ih
theorem Rch.mono {α:Type} {r s:α->α->Prop}(hf:∀a b,r a b->s a b) {a b:α}(h:Rch r a b):Rch s a b:=by
 induction h with
 |one h=>exact .one (hf _ _ h)
 |cons h _ ih=>exact .cons (hf _ _ h) ih
structure KM where
 W:Type
 R:Int->W->W->Prop
 V:Int->W->Prop
def Fr(g:Int)(i:Nat):Bool:=g.toNat.testBit i
def KM.step(M:KM)(g:Int)(c:M.W->Prop)(u v:M.W):Prop:=(∃i:Nat,i < 4/\Fr g i=true/\M.R (i:Int) u v)/\c v
def KM.sat(M:KM):Tr->M.W->Prop
 |.leaf n,w=>n.op=1\/(n.op=3/\M.V n.i w)
 |.one n a,w =>
  if n.op=4 then ¬M.sat a w
  else if n.op=9 then ∀v,M.R n.i w v->M.sat a v
  else if n.op=10 then ∃v,M.R n.i w v/\M.sat a v
  else if n.op=11 then ∀i:Nat,i < 4->Fr n.g i=true->∀v,M.R (i:Int) w v->M.sat a v
  else False
 |.two n a b,w =>
  if n.op=5 then M.sat a w/\M.sat b w
  else if n.op=6 then M.sat a w\/M.sat b w
  else if n.op=7 then M.sat a w->M.sat b w
  else if n.op=8 then(M.sat a w↔M.sat b w)
  else if n.op=13 then ∀v,Rch (M.step n.g (M.sat a)) w v->M.sat b v
  else False
structure Frm (lg:Int) {W:Type} (R:W->W->Prop):Prop where
 ser:lg=1\/lg=5->∀w,∃v,R w v
 refl:lg=2\/lg=4\/lg=6->∀w,R w w
 trans:3<=lg/\lg<=6->∀u v w,R u v->R v w->R u w
 eucl:lg=5\/lg=6->∀u v w,R u v->R u w->R v w
def KM.In(M:KM)(lg:Int):Prop:=∀i:Int,Frm lg (M.R i)
def ev(th:Tr->Bool):Tr->Bool
 |.leaf n=>if n.op=3 then th (.leaf n)else n.op==1
 |.one n a=>if n.op=4 then !ev th a else if n.op=9 then th (.one n a)else false
 |.two n a b =>
  if n.op=5 then ev th a&&ev th b
  else if n.op=6 then ev th a||ev th b
  else if n.op=7 then !ev th a||ev th b
  else if n.op=8 then ev th a==ev th b
  else if n.op=13 then th (.two n a b)else false
def cov(B:List Tr):Tr->Prop
 |.leaf n=>n.op=3->.leaf n∈B
 |.one n a=>if n.op=9 then .one n a∈B else cov B a
 |.two n a b=>if n.op=13 then .two n a b∈B else cov B a/\cov B b
def Qjy:Tr->Prop
 |.leaf _=>True
 |.one n a=>(n.op=4\/n.op=9)/\Qjy a
 |.two n a b=>((5<=n.op/\n.op<=8)\/n.op=13)/\Qjy a/\Qjy b
def Qal(i:Nat)(n:Nd)(a b:Tr):Tr:=.one ⟨9,i,0,0,0,0⟩ (.two ⟨7,0,0,0,0,0⟩ a (.two ⟨5,0,0,0,0,0⟩ b (.two n a b)))
structure Qww (B:List Tr):Prop where
 know:∀n a,.one n a∈B->n.op=9/\cov B a/\Qjy a/\0<=n.i/\n.i < 4
 com:∀n a b,.two n a b∈B->n.op=13/\cov B a/\cov B b/\Qjy a/\Qjy b/\∀i:Nat,i < 4->Fr n.g i=true->Qal i n a b∈B
def Qec(lg:Int)(here hold there:Bool):Bool :=
 if lg<=2 then !here||hold
 else if lg=3 then !here||(hold&&there)
 else if lg=4 then !here||there
 else if lg=6 then here==there
 else(here==there)&&(!here||hold)
def Qwq(lg:Int):Prop:=lg=2\/lg=4\/lg=6
structure Coh (lg:Int) (B:List Tr) (th:Tr->Bool):Prop where
 com:∀n a b,.two n a b∈B->(th (.two n a b)=true↔∀i:Nat,i < 4->Fr n.g i=true->th (Qal i n a b)=true)
 know:Qwq lg->∀n a,.one n a∈B->th (.one n a)=true->ev th a=true
def Qb5(lg:Int)(B:List Tr)(i:Int)(th th':Tr->Bool):Prop :=
 ∀n a,.one n a∈B->n.i=i->Qec lg (th (.one n a)) (ev th' a) (th' (.one n a))=true
section
variable {T:Type} (lg:Int) (B:List Tr) (S:T->Prop) (th:T->Tr->Bool)
def Qwr(g:Int)(a:Tr)(t u:T):Prop:=S u/\ev (th u) a=true/\∃i:Nat,i < 4/\Fr g i=true/\Qb5 lg B (i:Int) (th t) (th u)
structure Qw6:Prop where
 coh:∀t,S t->Coh lg B (th t)
 ser:lg=1\/lg=5->∀t,S t->∀i:Int,(∃n a,.one n a∈B/\n.i=i)->∃u,S u/\Qb5 lg B i (th t) (th u)
 know:∀t,S t->∀n a,.one n a∈B->th t (.one n a)=false->∃u,S u/\ev (th u) a=false/\Qb5 lg B n.i (th t) (th u)
 com:∀t,S t->∀n a b,.two n a b∈B->th t (.two n a b)=false->∃u,Rch (Qwr lg B S th n.g a) t u/\ev (th u) b=false
end
open Classical in
noncomputable def thW (M:KM) (w:M.W) (f:Tr):Bool:=decide (M.sat f w)
section
variable {lg:Int} {B:List Tr} {M:KM}
end
section
variable {T:Type} (lg:Int) (B:List Tr) (S:T->Prop) (th:T->Tr->Bool)
def Qw5:KM:=⟨{t:T // S t},fun i t u=>Qb5 lg B i (th t.1) (th u.1),fun p t=>th t.1 (.leaf ⟨3,p,0,0,0,0⟩)=true⟩
end
section
variable {T:Type} {lg:Int} {B:List Tr} {S:T->Prop} {th:T->Tr->Bool}
def Qxm:Tr->Prop
 |.leaf n=>n.op=3->n=⟨3,n.i,0,0,0,0⟩
 |.one _ a=>Qxm a
 |.two _ a b=>Qxm a/\Qxm b
end
open Go.RowKit
def Qw2(l:List Nat)(k:Nat):List Nat:=(List.range l.length).map fun i=>if i < k then l.getD i 0|||2^i else l.getD i 0
def Qml(l:List Nat):Prop:=∀i,i < l.length->(l.getD i 0).testBit i=true
def Zd(md:Md):Int :=
 if md.n < 1\/64 < md.n then 2 else if 4 < md.rel.length\/8 < md.val.length then 8
 else if md.rel.any (fun r=> !decide ((r.length:Int)=md.n))then 3
 else if Jd md.val md.n.toNat then 2 else if md.rel.any (fun r=>Jd r md.n.toNat)then 2 else 0
theorem Qtl {P:List Nat->Bool} {l:List (List Nat)} {k:Nat}(hk:k < l.length)(h:P (l.getD k [])=true):l.any P=true:=by
 rw [List.any_eq_true];exact⟨l[k],List.getElem_mem hk,by rw [Qk,Qv hk]at h;exact h⟩
theorem Qn5 {P:List Nat->Bool} {l:List (List Nat)}(h:∀k,k < l.length->P (l.getD k [])=false):l.any P=false:=by
 rw [List.any_eq_false];intro s hs;obtain⟨k,hk,e⟩:=List.getElem_of_mem hs;have:=h k hk;rw [Qk,Qv hk]at this;have h2:P l[k]=false:=this;rw [e]at h2;rw [h2];simp
def Rc(q:Int)(l:List Nat):Prop :=
 if q=1 then ∀i,i < l.length->l.getD i 0≠0 else if q=2 then Qml l else if q=4 then Np false l else Np true l
def Dk(lg:Int):List Int:=if lg=0 then []else if lg=1 then [1]else if lg=2 then [2]else if lg=3 then [4]else if lg=4 then [2,4]else if lg=5 then [1,4,5]else [2,4,5]
def p15(lg:Int):Int:=if 0<=lg/\lg<=6 then 0 else 1
theorem Qrt {lg q:Int}(h:q∈Dk lg):q=1\/q=2\/q=4\/q=5:=by
 unfold Dk at h
 repeat' split at h
 all_goals(simp at h;try omega)
def Wg(lg:Int)(l:List Nat):Prop:=∀q∈Dk lg,Rc q l
structure Qze (md:Md) (lg:Int):Prop where
 lgr:0<=lg/\lg<=6
 ck:Zd md=0
 rel:∀r∈md.rel,Wg lg r
theorem Vk {md:Md}(h:Zd md=0):1<=md.n/\md.n<=64/\md.rel.length<=4/\md.val.length<=8/\(∀r∈md.rel,(r.length:Int)=md.n)/\Jd md.val md.n.toNat=false/\∀r∈md.rel,Jd r md.n.toNat=false:=by
 unfold Zd at h;by_cases h1:md.n < 1\/64 < md.n
 ·rw [if_pos h1]at h;cases h
 rw [if_neg h1]at h;by_cases h2:4 < md.rel.length\/8 < md.val.length
 ·rw [if_pos h2]at h;cases h
 rw [if_neg h2]at h;cases h3:md.rel.any (fun r=> !decide ((r.length:Int)=md.n))
 ·rw [h3]at h;cases h4:Jd md.val md.n.toNat
  ·rw [h4]at h;cases h5:md.rel.any (fun r=>Jd r md.n.toNat)
   ·rw [List.any_eq_false]at h3 h5;exact⟨by omega,by omega,by omega,by omega,fun r hr=>by simpa using h3 r hr,rfl,fun r hr=>by simpa using h5 r hr⟩
   rw [h5]at h;cases h
  rw [h4]at h;cases h
 rw [h3]at h;cases h
theorem Qj5 {md:Md}(h:Zd md=0) {r:List Nat}(hr:r∈md.rel):Na r=true/\0 < r.length:=by
 obtain⟨h1,h2,_,_,h3,_,h4⟩:=Vk h;have h5:=h3 r hr;have h6:=h4 r hr;have e:md.n.toNat=r.length:=by omega
 rw [e]at h6;exact⟨Ni.2 ⟨by omega,h6⟩,by omega⟩
theorem Qs5 {k:Nat}(h:k < 64):Qi (2^k):=by
 show 2^k < 18446744073709551616;rw [show(18446744073709551616:Nat)=2^64 from rfl];exact Nat.pow_lt_pow_right (by decide) h
theorem Qhh {s k:Nat}(hs:Qi s)(hk:k < 64):bits .or .u64 (s:Int) (IntKind.u64.wrap ((2:Int)^k))=((s|||2^k:Nat):Int):=by
 rw [Qql hk];exact Sm hs (Qs5 hk)
theorem Qx3 {a b:Nat}(ha:Qi a)(hb:Qi b):(bits .andNot .u64 (a:Int) (b:Int)==0)=Yd a b:=by
 rw [Xe ha hb,<-Hy,Bool.eq_iff_iff,beq_iff_eq,beq_iff_eq];omega
def Rk(op:Int)(x y al:Nat):Nat :=
 if op=1 then al else if op=4 then Yq al x else if op=5 then x&&&y else if op=6 then x|||y else if op=7 then Yq al x|||y else if op=8 then Yq al (x^^^y)else 0
theorem Qqg {a b:Nat}(ha:Qi a):Qi (a&&&b):=Nat.lt_of_le_of_lt Nat.and_le_left ha
theorem Qfb {a b:Nat}(ha:Qi a)(hb:Qi b):Qi (a|||b):=Nat.or_lt_two_pow (n:=64) ha hb
theorem Qxt {a b:Nat}(ha:Qi a)(hb:Qi b):Qi (a^^^b):=Nat.xor_lt_two_pow (n:=64) ha hb
def Kd(r:List Nat)(n s:Nat):Nat:=By n fun i=>Yd (r.getD i 0) s
def Ly(r:List Nat)(c s v:Nat):Nat:=if s.testBit v then s|||(r.getD v 0&&&c)else s
def Ug(r:List Nat)(c n s:Nat):Nat:=(List.range n).foldl (Ly r c) s
def Wy(r:List Nat)(c n a:Nat):Nat:=(List.range n).foldl (fun s _=>Ug r c n s) (r.getD a 0&&&c)
theorem Kr {f:Nat->Nat->Nat}(k s:Nat):(List.range (k+1)).foldl f s=f ((List.range k).foldl f s) k:=by
 rw [List.range_succ,List.foldl_append];rfl
theorem Qnt {f:Nat->Nat->Nat}(hf:∀s v,Qi s->Qi (f s v))(k s:Nat)(hs:Qi s):Qi ((List.range k).foldl f s):=by
 induction k with
 |zero=>exact hs
 |succ k ih=>rw [Kr];exact hf _ _ ih
def Gx(r:List Nat)(n c s:Nat):Nat:=By n fun i=>Yd (Wy r c n i) s
def Da(rl:List (List Nat))(gn:Nat)(meet:Bool)(i s a:Nat):Nat:=if gn.testBit a then(if meet then s&&&(rl.getD a []).getD i 0 else s|||(rl.getD a []).getD i 0)else s
def Vh(rl:List (List Nat))(gn:Nat)(meet:Bool)(n i:Nat):Nat:=(List.range rl.length).foldl (Da rl gn meet i) (if meet then Zo n else 0)
theorem Qri {rl:List (List Nat)}(hw:∀r∈rl,∀s∈r,Qi s) {gn i s a:Nat} {meet:Bool}(hs:Qi s):Qi (Da rl gn meet i s a):=by
 unfold Da;have h1:Qi ((rl.getD a []).getD i 0):=Ty (Qf8 hw a) i
 split
 ·split
  ·exact Qqg hs
  exact Qfb hs h1
 exact hs
theorem Qzg {k gn:Nat}(hk:k<=4)(hg:gn < 2^k):¬wrap64 ((2:Int)^k)<=(gn:Int):=by
 have hc:k=0\/k=1\/k=2\/k=3\/k=4:=by omega
 rcases hc with rfl|rfl|rfl|rfl|rfl <;>(unfold wrap64;simp at hg⊢;omega)
theorem Uc {n:Nd}(h:Jm n)(ho:Zy n.op=true):0<=n.i/\n.i < 4:=by
 obtain⟨_,_,h3,_,_⟩:=h;unfold Yk at h3;simp only [Jz,ho,Bool.or_eq_false_iff]at h3;simp at h3;omega
theorem Tk {n:Nd}(h:Jm n)(ho:n.op=3):0<=n.i/\n.i < 8:=by
 obtain⟨_,_,h3,_,_⟩:=h;unfold Yk at h3;rw [ho]at h3;simp [Jz,Zw,Zy,Zl,Zb]at h3;omega
theorem Fo {n:Nd}(h:Jm n):0<=n.g/\n.g < 16:=by
 obtain⟨_,h2,h3,_,_⟩:=h;cases hg:Zb n.op
 ·unfold Yf at h2;simp only [hg,Bool.or_eq_false_iff]at h2;simp at h2;omega
 unfold Yk at h3;simp only [Jz,hg,Bool.or_eq_false_iff]at h3;simp at h3;omega
def agS(s:Nat)(n:Nd):Nat:=(s|||(if Zy n.op then 2^n.i.toNat else 0))|||n.g.toNat
def faS(s:Nat)(n:Nd):Nat:=if n.op=3 then s|||2^n.i.toNat else s
def Dr(l:List Nd):Nat:=l.foldl agS 0
def Rn(l:List Nd):Nat:=l.foldl faS 0
theorem Qez {s:Nat} {n:Nd}(h:Jm n)(hs:s < 2^4):agS s n < 2^4:=by
 unfold agS;have h1:=Fo h;refine Nat.or_lt_two_pow (Nat.or_lt_two_pow hs ?_) (by omega)
 split
 ·rename_i ho;have:=Uc h ho;exact Nat.pow_lt_pow_right (by decide) (by omega)
 decide
theorem Qhe {s:Nat} {n:Nd}(h:Jm n)(hs:s < 2^8):faS s n < 2^8:=by
 unfold faS
 split
 ·rename_i ho;have:=Tk h ho;exact Nat.or_lt_two_pow hs (Nat.pow_lt_pow_right (by decide) (by omega))
 exact hs
theorem Qyx:∀(l:List Nd) (s:Nat),(∀n∈l,Jm n)->s < 2^4->l.foldl agS s < 2^4
 |[],_,_,hs=>hs
 |n :: l,_,h,hs=>Qyx l _ (fun n hn=>h n (List.mem_cons_of_mem _ hn)) (Qez (h n (List.mem_cons_self ..)) hs)
theorem Qvw:∀(l:List Nd) (s:Nat),(∀n∈l,Jm n)->s < 2^8->l.foldl faS s < 2^8
 |[],_,_,hs=>hs
 |n :: l,_,h,hs=>Qvw l _ (fun n hn=>h n (List.mem_cons_of_mem _ hn)) (Qhe (h n (List.mem_cons_self ..)) hs)
theorem Rp {k:Nat}(hk:k < 8):wrap64 ((2:Int)^k)=((2^k:Nat):Int):=by
 have hc:k=0\/k=1\/k=2\/k=3\/k=4\/k=5\/k=6\/k=7:=by omega
 rcases hc with rfl|rfl|rfl|rfl|rfl|rfl|rfl|rfl <;> decide+kernel
def Hg(a:Nat)(m i:Nat):Bool:= !m.testBit i||decide (i < a)
def Uf(f:List Nd)(a b:Nat):Bool:=Qs f==0&&((List.range 4).all (Hg a (Dr (Qf f)))&&(List.range 8).all (Hg b (Rn (Qf f))))
theorem Qfw:(List.range 512).all (fun m=>((bits .andNot .i64 (m:Int) 15==0)==Yd m 15)&&((bits .andNot .i64 (m:Int) 15 !=0)== !Yd m 15))=true:=by kernel_rfl
theorem Qxi(f:List Nd):(bits .andNot .i64 ((Jh f:Nat):Int) 15==0)=Yd (Jh f) 15/\(bits .andNot .i64 ((Jh f:Nat):Int) 15 !=0)= !Yd (Jh f) 15:=by
 have h:=List.all_eq_true.1 Qfw (Jh f) (List.mem_range.2 (Si (Qf f)));rw [Bool.and_eq_true,beq_iff_eq,beq_iff_eq]at h;exact h
def Qq4(md:Md)(f:List Nd)(i:Int):Bool:=Yd (Jh (Zh f i)) 15&&Uf (Zh f i) md.rel.length md.val.length
def Yh(md:Md)(f:List Nd):Int :=
 if Zd md≠0 then Zd md else if Qs f≠0 then Qs f else if Yd (Jh f) 15=false then 10 else if Uf f md.rel.length md.val.length=false then 2 else 0
structure Qvk (md:Md) (n:Nd):Prop where
 head:Jm n
 op:n.op<=13
 fact:n.op=3->n.i < md.val.length
 agent:n.op=9\/n.op=10->n.i < md.rel.length
 group:11<=n.op->1<=n.g/\n.g.toNat < 2^md.rel.length
def Qqf(md:Md)(n:Nd)(x y:Nat):Nat :=
 if n.op=3 then md.val.getD n.i.toNat 0 else if n.op<=8 then Rk n.op x y (Zo md.n.toNat)
 else if n.op=9 then Kd (md.rel.getD n.i.toNat []) md.n.toNat x
 else if n.op=10 then Yq (Zo md.n.toNat) (Kd (md.rel.getD n.i.toNat []) md.n.toNat (Yq (Zo md.n.toNat) x))
 else if n.op=11 then Kd ((List.range md.n.toNat).map (Vh md.rel n.g.toNat false md.n.toNat)) md.n.toNat x
 else if n.op=12 then Kd ((List.range md.n.toNat).map (Vh md.rel n.g.toNat true md.n.toNat)) md.n.toNat x
 else Gx ((List.range md.n.toNat).map (Vh md.rel n.g.toNat false md.n.toNat)) md.n.toNat x y
def Qwp(md:Md)(f:List Nd)(out:List Nat)(k:Nat):Nat :=
 if Qq4 md f (k:Int)then Qqf md (f.getD k Nd.zero) (if Qw (f.getD k Nd.zero).op then out.getD (f.getD k Nd.zero).x.toNat 0 else 0) (if Qa (f.getD k Nd.zero).op then out.getD (f.getD k Nd.zero).y.toNat 0 else 0)else 0
def Qfo(md:Md)(f:List Nd):Nat->List Nat
 |0=> []
 |k+1=>Qfo md f k++ [Qwp md f (Qfo md f k) k]
theorem Dn {md:Md} {f:List Nd}(h:Yh md f=0):Zd md=0/\Qs f=0/\Yd (Jh f) 15=true/\Uf f md.rel.length md.val.length=true:=by
 unfold Yh at h;by_cases h1:Zd md≠0
 ·rw [if_pos h1]at h;exact absurd h h1
 rw [if_neg h1]at h;by_cases h2:Qs f≠0
 ·rw [if_pos h2]at h;exact absurd h h2
 rw [if_neg h2]at h;cases h3:Yd (Jh f) 15
 ·rw [if_pos h3]at h;cases h
 rw [if_neg (by rw [h3];simp)]at h;cases h4:Uf f md.rel.length md.val.length
 ·rw [if_pos h4]at h;cases h
 exact⟨Classical.not_not.1 h1,Classical.not_not.1 h2,rfl,rfl⟩
def Qfa(md:Md)(f:List Nd):Int:=if Yh md (Qf f)=0 then 0 else Yh md f
def Qh0(md:Md)(f:List Nd):Nat:=if Yh md (Qf f)=0 then(Qfo md (Qf f) (Qf f).length).getD ((Qf f).length - 1) 0 else 0
def atE(md:Md)(f:List Nd)(i:Int):Int:=if Qfa md f=0 then(if i < 0\/md.n<=i then 2 else 0)else Qfa md f
def Qw4(md:Md)(f:List Nd)(i:Int):Bool:=if Qfa md f=0 then(if i < 0\/md.n<=i then false else(Qh0 md f).testBit i.toNat)else false
theorem Hv:∀(l:List Nd) (s:Nat),(∀i,s.testBit i=true->(l.foldl (fun s n=>s|||(Kv n.op).toNat) s).testBit i=true)/\∀n∈l,∀i,(Kv n.op).toNat.testBit i=true->(l.foldl (fun s n=>s|||(Kv n.op).toNat) s).testBit i=true
 |[],_=>⟨fun _ h=>h,fun _ h=>by cases h⟩
 |a :: l,s=>by
  obtain⟨h1,h2⟩:=Hv l (s|||(Kv a.op).toNat);refine⟨fun i hi=>h1 i (by rw [Nat.testBit_or,hi];rfl),fun n hn i hi=> ?_⟩;rcases List.mem_cons.1 hn with rfl|hn
  ·exact h1 i (by rw [Nat.testBit_or,hi,Bool.or_true])
  exact h2 n hn i hi
theorem Qvh:∀(l:List Nd) (s:Nat),(∀i,s.testBit i=true->(l.foldl agS s).testBit i=true)/\∀n∈l,∀i,((Zy n.op=true/\i=n.i.toNat)\/n.g.toNat.testBit i=true)->(l.foldl agS s).testBit i=true
 |[],_=>⟨fun _ h=>h,fun _ h=>by cases h⟩
 |a :: l,s=>by
  obtain⟨h1,h2⟩:=Qvh l (agS s a);refine⟨fun i hi=>h1 i (by unfold agS;rw [Nat.testBit_or,Nat.testBit_or,hi];rfl),fun n hn i hi=> ?_⟩;rcases List.mem_cons.1 hn with rfl|hn
  ·refine h1 i ?_;unfold agS;rw [Nat.testBit_or,Nat.testBit_or];rcases hi with⟨ha,rfl⟩|hg
   ·rw [if_pos ha,Nat.testBit_two_pow];simp
   rw [hg,Bool.or_true]
  exact h2 n hn i hi
theorem Qxz:∀(l:List Nd) (s:Nat),(∀i,s.testBit i=true->(l.foldl faS s).testBit i=true)/\∀n∈l,∀i,(n.op=3/\i=n.i.toNat)->(l.foldl faS s).testBit i=true
 |[],_=>⟨fun _ h=>h,fun _ h=>by cases h⟩
 |a :: l,s=>by
  obtain⟨h1,h2⟩:=Qxz l (faS s a)
  refine⟨fun i hi=>h1 i (by unfold faS;split;· rw [Nat.testBit_or,hi];rfl
                            ·exact hi),fun n hn i hi=> ?_⟩
  rcases List.mem_cons.1 hn with rfl|hn
  ·refine h1 i ?_;obtain⟨ho,rfl⟩:=hi;unfold faS;rw [if_pos ho,Nat.testBit_or,Nat.testBit_two_pow];simp
  exact h2 n hn i hi
theorem Nr {m n:Nd}(h:m.head=n.head):m.op=n.op/\m.i=n.i/\m.g=n.g:=by
 have h1:=congrArg Nd.op h;have h2:=congrArg Nd.i h;have h3:=congrArg Nd.g h;exact⟨h1,h2,h3⟩
theorem Iw {g k:Nat}(h:∀i,g.testBit i=true->i < k):g < 2^k:=by
 rcases Nat.lt_or_ge g (2^k)with h1|h1
 ·exact h1
 obtain⟨i,hi1,hi2⟩:=Nat.exists_ge_and_testBit_of_ge_two_pow h1;have:=h i hi2;omega
theorem Qaj {md:Md} {f:List Nd} {k:Nat} {n:Nd}(hc:Qs f=0)(hk:f[k]?=some n)(hf:Qq4 md f (k:Int)=true)(_hr4:md.rel.length<=4):Qvk md n:=by
 have hkl:=(List.getElem?_eq_some_iff.1 hk).1;have hh:=Fz hc n (List.mem_of_getElem? hk);unfold Qq4 at hf;rw [Bool.and_eq_true]at hf;obtain⟨h1,h2⟩:=hf;have hg:=(Py hc hkl).2.1;have ht:=Eh hc hkl;have htk:(tr f k).ok:=Qvy (Jq hc) k hkl;have hcc:Qf (Zh f (k:Int))=Ys (tr f k):=by
  rw [Kt hg,ht,Xq htk]
 obtain⟨m,hm,hmt,_⟩:=Qsn htk;have hmm:=List.mem_of_getElem? hm;have hmh:=Nr (Qej ((Xb (Jq hc) hk).symm.trans hmt)).1;unfold Uf at h2;rw [Bool.and_eq_true,Bool.and_eq_true,List.all_eq_true,List.all_eq_true]at h2;rw [hcc]at h2;have hag:∀i,((Zy n.op=true/\i=n.i.toNat)\/n.g.toNat.testBit i=true)->i < 4->i < md.rel.length:=fun i hi hi4=>by
  have h3:=(Qvh (Ys (tr f k)) 0).2 m hmm i (by rw [<-hmh.1,<-hmh.2.1,<-hmh.2.2];exact hi);have h4:=h2.2.1 i (List.mem_range.2 hi4);unfold Hg Dr at h4;rw [h3]at h4
  simpa using h4
 refine⟨hh,?_,fun ho=> ?_,fun ho=> ?_,fun ho=> ?_⟩
 ·have hop21:=(Mx n.op).1 hh.1;have hfr:Yd (Kv m.op).toNat 15=true:=by
   rw [Kb]at h1⊢;intro i hi;refine h1 i ?_;unfold Jh;rw [hcc];exact(Hv (Ys (tr f k)) 0).2 m hmm i hi
  rw [<-hmh.1]at hfr;rcases Hf n.op with h|h|h|h|h|h|h|h|h|h|h|h|h|h|h|h|h|h|h|h|h|h|h <;> first|omega|(rw [h]at hfr;exact absurd hfr (by decide))
 ·have hb:=Tk hh ho;have h3:=(Qxz (Ys (tr f k)) 0).2 m hmm n.i.toNat ⟨by rw [<-hmh.1];exact ho,by rw [<-hmh.2.1]⟩;have h4:=h2.2.2 n.i.toNat (List.mem_range.2 (by omega));unfold Hg Rn at h4;rw [h3]at h4;have:n.i.toNat < md.val.length:=by simpa using h4
  omega
 ·have ha:Zy n.op=true:=by rcases ho with h|h <;>(rw [h];rfl)
  have hb:=Uc hh ha;have:=hag n.i.toNat (.inl ⟨ha,rfl⟩) (by omega);omega
 have hb:=Fo hh;have hop13:n.op<=21:=((Mx n.op).1 hh.1).2;refine⟨?_,Iw fun i hi=>hag i (.inr hi) (Bd (n:=4) (by omega) hi)⟩;obtain⟨_,h3,h4,_,_⟩:=hh;cases hgr:Zb n.op
 ·exfalso
  have hfr:Yd (Kv m.op).toNat 15=true:=by
   rw [Kb]at h1⊢;intro i hi;refine h1 i ?_;unfold Jh;rw [hcc];exact(Hv (Ys (tr f k)) 0).2 m hmm i hi
  rw [<-hmh.1]at hfr;rcases Hf n.op with h|h|h|h|h|h|h|h|h|h|h|h|h|h|h|h|h|h|h|h|h|h|h <;> first|omega|(rw [h]at hfr;exact absurd hfr (by decide))|(rw [h]at hgr;cases hgr)
 unfold Yk at h4;simp only [Jz,hgr,Bool.or_eq_false_iff]at h4;simp at h4;omega
theorem Qty(g k:Nat):(⟨g,0,none⟩:Addr).add k=⟨g,k,none⟩:=by unfold Addr.add;cases k <;> simp
def uV(l:List Nat):List Value:=l.map fun(u:Nat)=>Value.int .u64 (u:Int)
theorem Qfz:(Tryz.prog.info? 43).map (fun i=>(i.zero,i.size,i.bytes))=some (some (.int .u64 0),1,8):=by kernel_rfl
def Xj(base:Nat)(w:World)(v:Value)(l:List Nat):Prop:=w.ownsRow base 43 1 v l.length (uV l)
section
variable {base:Nat} {w w':World} {v:Value} {l:List Nat} {g n cap k:Nat}
theorem Xj.ext(h:Xj base w v l)(he:Ext w w'):Xj base w' v l:=Jt h he
theorem Xj.nil(base:Nat)(w:World):Xj base w (.slice none 0 0) []:=World.ownsRow_nil _ _ _ _
theorem Xj.slice(h:Xj base w v l)(h0:0 < l.length):∃g cap,v=.slice (some ⟨g,0,none⟩) l.length cap/\g < w.heap.size/\base<=g/\l.length<=cap/\cap<=maxLen/\(∀i,i < l.length->w.cell? ⟨g,i,none⟩=some (.int .u64 ((l.getD i 0:Nat):Int)))/\∀i,w.frozen? ⟨g,i,none⟩=false:=by
 rcases h.2 with⟨_,e0⟩|⟨g,cap,cur,rfl,hb,hg,hnc,hm,hs,ht⟩
 ·omega
 refine⟨g,cap,rfl,Qm hg,hb,hnc,hm,fun i hi=> ?_,fun i=>by simp [World.frozen?,hg]⟩;have h1:(uV l)[i]?=some (.int .u64 ((l.getD i 0:Nat):Int)):=by
  unfold uV;rw [List.getElem?_map,Qk,Qv hi];rfl
 rw [<-ht,List.getElem?_take]at h1
 split at h1
 ·have h2:cur[i]?=some (.int .u64 ((l.getD i 0:Nat):Int)):=by simpa using h1
  simp [World.cell?,hg,h2]
 cases h1
theorem Xj.at_(h:Xj base w (.slice (some ⟨g,0,none⟩) n cap) l)(h0:0 < l.length):n=l.length/\g < w.heap.size/\base<=g/\n<=cap/\cap<=maxLen/\(∀i,i < l.length->w.cell? ⟨g,i,none⟩=some (.int .u64 ((l.getD i 0:Nat):Int)))/\∀i,w.frozen? ⟨g,i,none⟩=false:=by
 obtain⟨g',cap',e,h1,h2,h3,h4,h5,h6⟩:=h.slice h0;injection e with e1 e2 e3;injection e1 with e1;injection e1 with e1;subst e1 e2 e3;exact⟨rfl,h1,h2,h3,h4,h5,h6⟩
theorem Xj.u64s(h:Xj base w v l):Yi w v l:=by
 rcases Nat.eq_zero_or_pos l.length with h0|h0
 ·have:l= []:=List.length_eq_zero_iff.1 h0;subst this;rcases h.2 with⟨e,_⟩|⟨g,cap,cur,rfl,hb,hg,hnc,hm,hs,ht⟩
  ·subst e;exact Qkw w
  exact⟨_,cap,rfl,hnc,hm,fun h=>absurd rfl h⟩
 obtain⟨g,cap,rfl,h1,_,h3,h4,h5,_⟩:=h.slice h0;refine⟨_,cap,rfl,h3,h4,fun _=>⟨_,rfl,h1,fun k z hk=> ?_⟩⟩;have hk':=(List.getElem?_eq_some_iff.1 hk).1;have:=h5 k hk';rw [Qty,this,Qk,hk];rfl
theorem Xj.set(h:Xj base w (.slice (some ⟨g,0,none⟩) n cap) l)(hn:l.length=n)(j s:Nat):Xj base (w.setCell ⟨g,j,none⟩ (.int .u64 (s:Int))) (.slice (some ⟨g,0,none⟩) n cap) (l.set j s):=by
 subst hn;have h1:=(World.ownsRow.stored h j (.int .u64 (s:Int))).1;unfold Xj uV;rw [List.length_set,List.map_set];exact h1
theorem Qne(w:World)(t:TypeId):(w.alloc (.cells #[] t)).ownsRow w.heap.size t 1 (.slice (some ⟨w.heap.size,0,none⟩) 0 0) 0 []:=
 ⟨rfl,.inr ⟨w.heap.size,0,#[],rfl,Nat.le_refl _,heap_alloc_new _ _,Nat.le_refl _,by unfold maxLen;omega,rfl,rfl⟩⟩
theorem Qnq {ad:Addr}(h:∀i,i < l.length->w.cell? (ad.add i)=some (.int .u64 ((l.getD i 0:Nat):Int))):∀(j:Nat) u,(uV l)[j]?=some u->w.cell? (ad.add j)=some u:=fun j u hj=>by
 unfold uV at hj;rw [List.getElem?_map]at hj;cases e:l[j]? with
 |none=>rw [e]at hj;cases hj
 |some x =>
  rw [e]at hj;have hk:=(List.getElem?_eq_some_iff.1 e).1;rw [h j hk,Qk,e];exact hj
theorem Qa6(l:List Nat):∀u∈uV l,u.oneCell'=true:=fun u hu=>by
 obtain⟨x,_,rfl⟩:=List.mem_map.1 hu;rfl
theorem Qhi(l:List Nat):(uV l).length=l.length:=by simp [uV]
end
def Fv(base:Nat)(w:World)(g:Nat)(l:List Nat):Prop:=w.ownsRow base 43 1 (.slice (some ⟨g,0,none⟩) l.length l.length) l.length (uV l)
def Xg(base:Nat)(w:World)(g:Nat)(l:List Bool):Prop:=w.ownsRow base 4 1 (.slice (some ⟨g,0,none⟩) l.length l.length) l.length (l.map Value.bool)
section
variable {base:Nat} {w w':World} {g:Nat} {l:List Nat} {m:List Bool}
theorem Fv.cell(h:Fv base w g l) {j:Nat}(hj:j < l.length):w.cell? ⟨g,j,none⟩=some (.int .u64 ((l.getD j 0:Nat):Int)):=by
 rw [World.ownsRow.cellAt h j (by omega)];unfold uV;rw [List.getElem?_map,Qk,Qv hj];rfl
theorem Xg.cell(h:Xg base w g m) {j:Nat}(hj:j < m.length):w.cell? ⟨g,j,none⟩=some (.bool (m.getD j false)):=by
 rw [World.ownsRow.cellAt h j (by omega),List.getElem?_map,Qk,Qv hj];rfl
theorem Fv.frozen(h:Fv base w g l)(j:Nat):w.frozen? ⟨g,j,none⟩=false:=World.ownsRow.frozenAt h j
theorem Xg.frozen(h:Xg base w g m)(j:Nat):w.frozen? ⟨g,j,none⟩=false:=World.ownsRow.frozenAt h j
theorem Fv.lt(h:Fv base w g l):base<=g/\g < w.heap.size:=World.ownsRow.lt h g rfl
theorem Xg.lt(h:Xg base w g m):base<=g/\g < w.heap.size:=World.ownsRow.lt h g rfl
theorem Fv.set(h:Fv base w g l)(j s:Nat):Fv base (w.setCell ⟨g,j,none⟩ (.int .u64 (s:Int))) g (l.set j s)/\w.grownBy (w.setCell ⟨g,j,none⟩ (.int .u64 (s:Int))) (some g):=by
 obtain⟨h1,h2⟩:=World.ownsRow.stored h j (.int .u64 (s:Int));refine⟨?_,h2⟩;unfold Fv uV;unfold uV at h1;rw [List.length_set,List.map_set];exact h1
theorem Xg.set(h:Xg base w g m)(j:Nat)(b:Bool):Xg base (w.setCell ⟨g,j,none⟩ (.bool b)) g (m.set j b)/\w.grownBy (w.setCell ⟨g,j,none⟩ (.bool b)) (some g):=by
 obtain⟨h1,h2⟩:=World.ownsRow.stored h j (.bool b);refine⟨?_,h2⟩;unfold Xg;rw [List.length_set,<-List.map_set]at *;exact h1
theorem Fv.ext(h:Fv base w g l)(he:Ext w w'):Fv base w' g l:=Jt h he
theorem Xg.ext(h:Xg base w g m)(he:Ext w w'):Xg base w' g m:=Jt h he
theorem Fv.kept {r:Nat}(h:Fv base w g l)(hg:w.grownBy w' (some r))(hr:r≠g):Fv base w' g l:=World.ownsRow.kept h hg (.inr fun e=>hr (by injection e with e;exact e.symm))
theorem Xg.kept {r:Nat}(h:Xg base w g m)(hg:w.grownBy w' (some r))(hr:r≠g):Xg base w' g m:=World.ownsRow.kept h hg (.inr fun e=>hr (by injection e with e;exact e.symm))
theorem Fv.u64s(h:Fv base w g l):Yi w (.slice (some ⟨g,0,none⟩) l.length l.length) l:=Xj.u64s h
end
theorem Qm7:(Tryz.prog.info? 4).map (fun i=>(i.zero,i.size,i.bytes))=some (some (.bool false),1,1):=by kernel_rfl
theorem Qd1(n:Nat):(madeCells (Value.cells (.int .u64 0)) (n*1)).toList=uV (List.replicate n 0):=by
 unfold uV;simp only [madeCells,Value.cells,Nat.mul_one,Array.toList_map,Array.toList_range,List.map_replicate];refine List.ext_getElem (by simp) fun i h1 h2=> ?_
 simp [Nat.mod_one]
theorem Qgt(n:Nat):(madeCells (Value.cells (.bool false)) (n*1)).toList=(List.replicate n false).map Value.bool:=by
 simp only [madeCells,Value.cells,Nat.mul_one,Array.toList_map,Array.toList_range,List.map_replicate];refine List.ext_getElem (by simp) fun i h1 h2=> ?_
 simp [Nat.mod_one]
theorem Qxc(n:Nat):(madeCells #[.int .u64 0] n).toList=uV (List.replicate n 0):=by
 have:=Qd1 n;rw [Nat.mul_one]at this;exact this
theorem Mf(n:Nat):(madeCells #[.bool false] n).toList=(List.replicate n false).map Value.bool:=by
 have:=Qgt n;rw [Nat.mul_one]at this;exact this
def Ho(l:List Nat)(n:Nat)(u v:Fin n):Prop:=(l.getD u.1 0).testBit v.1=true
def Bz(md:Md):KM where
 W:=Fin md.n.toNat
 R:=fun a u v=>if 0<=a/\a < md.rel.length then Ho (md.rel.getD a.toNat []) md.n.toNat u v else u=v
 V:=fun p w=>(md.val.getD p.toNat 0).testBit w.1=true
theorem Qh6(lg:Int) {W:Type} :Frm lg (fun u v:W=>u=v) where
 ser:=fun _ w=>⟨w,rfl⟩
 refl:=fun _ _=>rfl
 trans:=fun _ _ _ _ h1 h2=>h1.trans h2
 eucl:=fun _ _ _ _ h1 h2=>h1.symm.trans h2
theorem Qtq {s n:Nat}(h:s < 2^n)(h0:s≠0):∃i,i < n/\s.testBit i=true:=by
 obtain⟨i,hi⟩:=Nat.exists_testBit_of_ne_zero h0;exact⟨i,Bd h hi,hi⟩
theorem Qpp {l:List Nat}(h:Np false l) {w u v:Nat}(hw:w < l.length)(hu:u < l.length)(h1:(l.getD w 0).testBit u=true)(h2:(l.getD u 0).testBit v=true):(l.getD w 0).testBit v=true:=by
 exact Kb.1 (h w u hw hu h1) v h2
theorem Qpg {l:List Nat}(h:Np true l) {w u v:Nat}(hw:w < l.length)(hu:u < l.length)(h1:(l.getD w 0).testBit u=true)(h2:(l.getD w 0).testBit v=true):(l.getD u 0).testBit v=true:=by
 exact Kb.1 (h w u hw hu h1) v h2
theorem Qtc {l:List Nat} {n:Nat} {lg:Int}(hl:l.length=n)(hv:Na l=true)(hg:Wg lg l)(hr:0<=lg/\lg<=6):Frm lg (Ho l n):=by
 have hlt:∀i,i < n->l.getD i 0 < 2^n:=fun i hi=>(Ro.start (eu:=true) hl (by rw [<-hl];exact(Ni.1 hv).2)).lt i hi
 unfold Wg Dk at hg;refine⟨fun h w=> ?_,fun h w=> ?_,fun h u v w h1 h2=> ?_,fun h u v w h1 h2=> ?_⟩
 ·have h1:Rc 1 l:=hg 1 (by rcases h with rfl|rfl <;> simp);obtain⟨i,hi,hb⟩:=Qtq (hlt w.1 w.2) (h1 w.1 (by rw [hl];exact w.2));exact⟨⟨i,hi⟩,hb⟩
 ·have h1:Rc 2 l:=hg 2 (by rcases h with rfl|rfl|rfl <;> simp);exact h1 w.1 (by rw [hl];exact w.2)
 ·have h3:Rc 4 l:=hg 4 (by
   have:lg=3\/lg=4\/lg=5\/lg=6:=by omega
   rcases this with rfl|rfl|rfl|rfl <;> simp)
  exact Qpp h3 (by rw [hl];exact u.2) (by rw [hl];exact v.2) h1 h2
 have h3:Rc 5 l:=hg 5 (by rcases h with rfl|rfl <;> simp);exact Qpg h3 (by rw [hl];exact u.2) (by rw [hl];exact v.2) h1 h2
theorem Qhy {md:Md} {lg:Int}(h:Qze md lg):(Bz md).In lg:=by
 intro a;show Frm lg (fun u v=>if 0<=a/\a < md.rel.length then Ho (md.rel.getD a.toNat []) md.n.toNat u v else u=v);by_cases ha:0<=a/\a < md.rel.length
 ·simp only [if_pos ha];have hm:md.rel.getD a.toNat []∈md.rel:=by
   rw [Qk,List.getElem?_eq_getElem (by omega)];exact List.getElem_mem _
  obtain⟨hv,_⟩:=Qj5 h.ck hm;have hl:=(Vk h.ck).2.2.2.2.1 _ hm;exact Qtc (by omega) hv (h.rel _ hm) h.lgr
 simp only [if_neg ha];exact Qh6 lg
theorem Sv(r:List Nat)(n s i:Nat):(Kd r n s).testBit i=true↔i < n/\∀v,(r.getD i 0).testBit v=true->s.testBit v=true:=by
 unfold Kd;rw [Mj,Bool.and_eq_true,decide_eq_true_iff,Kb]
theorem Qc5(r:List Nat)(n s i:Nat)(h:∀v,(r.getD i 0).testBit v=true->v < n):
 (Yq (Zo n) (Kd r n (Yq (Zo n) s))).testBit i=true↔i < n/\∃v,(r.getD i 0).testBit v=true/\s.testBit v=true:=by
 rw [Ur,Bool.and_eq_true,Xm,decide_eq_true_iff];constructor
 ·rintro⟨hi,hb⟩;refine⟨hi,Classical.byContradiction fun hn=> ?_⟩;have:(Kd r n (Yq (Zo n) s)).testBit i=true:=(Sv ..).2 ⟨hi,fun v hv=>by
   rw [Ur,Xm,Bool.and_eq_true,decide_eq_true_iff];refine⟨h v hv,?_⟩;cases hs:s.testBit v
   ·rfl
   exact absurd ⟨v,hv,hs⟩ hn⟩
  rw [this]at hb;cases hb
 rintro⟨hi,v,hv,hs⟩;refine⟨hi,?_⟩;cases hb:(Kd r n (Yq (Zo n) s)).testBit i
 ·rfl
 have h2:=((Sv ..).1 hb).2 v hv;rw [Ur,hs,Bool.not_true,Bool.and_false]at h2;cases h2
theorem Qk7(rl:List (List Nat))(gn i v:Nat):∀(k s:Nat),(((List.range k).foldl (Da rl gn false i) s).testBit v=true↔s.testBit v=true\/∃a,a < k/\gn.testBit a=true/\((rl.getD a []).getD i 0).testBit v=true)
 |0,s=>by simp
 |k+1,s=>by
  rw [Kr];have ih:=Qk7 rl gn i v k s;unfold Da;cases hg:gn.testBit k
  ·rw [if_neg (by simp)];rw [show(List.foldl (fun s a=>if gn.testBit a=true then if false=true then s&&&(rl.getD a []).getD i 0 else s|||(rl.getD a []).getD i 0 else s) s (List.range k))=(List.range k).foldl (Da rl gn false i) s from rfl,ih];refine or_congr Iff.rfl ⟨fun⟨a,h1,h2,h3⟩=>⟨a,by omega,h2,h3⟩,fun⟨a,h1,h2,h3⟩=>⟨a,?_,h2,h3⟩⟩;have:a≠k:=fun e=>by rw [e,hg]at h2;cases h2
   omega
  rw [if_pos rfl,if_neg (by simp),Nat.testBit_or,Bool.or_eq_true];rw [show(List.foldl (fun s a=>if gn.testBit a=true then if false=true then s&&&(rl.getD a []).getD i 0 else s|||(rl.getD a []).getD i 0 else s) s (List.range k))=(List.range k).foldl (Da rl gn false i) s from rfl,ih];constructor
  ·rintro((h|⟨a,h1,h2,h3⟩)|h)
   ·exact Or.inl h
   ·exact Or.inr ⟨a,by omega,h2,h3⟩
   exact Or.inr ⟨k,by omega,hg,h⟩
  rintro(h|⟨a,h1,h2,h3⟩)
  ·exact Or.inl (Or.inl h)
  by_cases e:a=k
  ·exact Or.inr (by rw [<-e];exact h3)
  exact Or.inl (Or.inr ⟨a,by omega,h2,h3⟩)
theorem Oj(rl:List (List Nat))(gn n i v:Nat):(Vh rl gn false n i).testBit v=true↔∃a,a < rl.length/\gn.testBit a=true/\((rl.getD a []).getD i 0).testBit v=true:=by
 unfold Vh;rw [Qk7];simp
theorem Qjr(rl:List (List Nat))(gn n i:Nat)(b:Bool)(hi:i < n):((List.range n).map (Vh rl gn b n)).getD i 0=Vh rl gn b n i:=by
 rw [Qk,List.getElem?_map,List.getElem?_range hi];rfl
def Ui(r:List Nat)(c:Nat)(u v:Nat):Prop:=(r.getD u 0).testBit v=true/\c.testBit v=true
theorem Qs3 {α:Type} {r:α->α->Prop} {a b c:α}(h:Rch r a b)(hc:r b c):Rch r a c:=by
 induction h with
 |one h=>exact .cons h (.one hc)
 |cons h _ ih=>exact .cons h (ih hc)
theorem Ts(r:List Nat)(c a v:Nat):(r.getD a 0&&&c).testBit v=true↔Ui r c a v:=by
 rw [Nat.testBit_and,Bool.and_eq_true];rfl
theorem Qbw {r:List Nat} {c a s:Nat}(h:∀v,s.testBit v=true->Rch (Ui r c) a v)(u:Nat):∀v,(Ly r c s u).testBit v=true->Rch (Ui r c) a v:=by
 intro v hv;unfold Ly at hv;cases hu:s.testBit u
 ·rw [if_neg (by rw [hu];simp)]at hv;exact h v hv
 rw [if_pos hu,Nat.testBit_or,Bool.or_eq_true]at hv;rcases hv with hv|hv
 ·exact h v hv
 exact Qs3 (h u hu) ((Ts ..).1 hv)
theorem Qjj {r:List Nat} {c a:Nat} :∀(n s:Nat),(∀v,s.testBit v=true->Rch (Ui r c) a v)->∀v,(Ug r c n s).testBit v=true->Rch (Ui r c) a v
 |0,s,h=>h
 |n+1,s,h=>by
  unfold Ug;rw [Kr];exact Qbw (Qjj n s h) n
theorem Qzs {r:List Nat} {c a n:Nat} :∀(k:Nat),∀v,((List.range k).foldl (fun s _=>Ug r c n s) (r.getD a 0&&&c)).testBit v=true->Rch (Ui r c) a v
 |0=>fun v hv=> .one ((Ts ..).1 hv)
 |k+1=>by
  rw [Kr];exact Qjj n _ (Qzs k)
theorem Qgg {r:List Nat} {c n a v:Nat}(h:(Wy r c n a).testBit v=true):Rch (Ui r c) a v:=Qzs n v h
theorem Qys {r:List Nat} {c s u v:Nat}(h:s.testBit v=true):(Ly r c s u).testBit v=true:=by
 unfold Ly
 split
 ·rw [Nat.testBit_or,h,Bool.true_or]
 exact h
theorem Qnb {r:List Nat} {c s u v:Nat}(h:s.testBit u=true)(hst:Ui r c u v):(Ly r c s u).testBit v=true:=by
 unfold Ly;rw [if_pos h,Nat.testBit_or,(Ts r c u v).2 hst,Bool.or_true]
theorem Me {r:List Nat} {c v:Nat} :∀(n s:Nat),s.testBit v=true->(Ug r c n s).testBit v=true
 |0,_,h=>h
 |n+1,s,h=>by
  unfold Ug;rw [Kr];exact Qys (Me n s h)
theorem Qyy {r:List Nat} {c s u v:Nat}(hs:s.testBit u=true)(hst:Ui r c u v):∀(n:Nat),u < n->(Ug r c n s).testBit v=true
 |0,h=>absurd h (by omega)
 |n+1,h=>by
  unfold Ug;rw [Kr];by_cases e:u=n
  ·subst e;have h1:(Ug r c u s).testBit u=true:=Me u s hs;unfold Ug at h1;exact Qnb h1 hst
  exact Qys (Qyy hs hst n (by omega))
def Ap(r:List Nat)(c s:Nat):Prop:=∀u v,s.testBit u=true->Ui r c u v->s.testBit v=true
theorem Qbk {r:List Nat} {c s u:Nat}(h:Ap r c s):Ly r c s u=s:=by
 unfold Ly
 split
 ·rename_i hu;refine Nat.eq_of_testBit_eq fun v=> ?_
  rw [Nat.testBit_or];cases hb:(r.getD u 0&&&c).testBit v
  ·rw [Bool.or_false]
  rw [h u v hu ((Ts ..).1 hb)];rfl
 rfl
theorem Hs {r:List Nat} {c s:Nat}(h:Ap r c s):∀n,Ug r c n s=s
 |0=>rfl
 |n+1=>by
  unfold Ug;rw [Kr];have ih:=Hs h n;unfold Ug at ih;rw [ih,Qbk h]
def Ie(n s:Nat):Nat:=(List.range n).countP fun i=> !s.testBit i
theorem Qsw {r:List Nat} {c n s:Nat}(hb:∀u v,(r.getD u 0).testBit v=true->u < n/\v < n)(h:¬Ap r c s):Ie n (Ug r c n s) < Ie n s:=by
 obtain⟨u,v,h1,h2,h3⟩:∃u v,s.testBit u=true/\Ui r c u v/\s.testBit v=false:=Classical.byContradiction fun hn=>h fun u v h1 h2=>by
  cases h3:s.testBit v
  ·exact absurd ⟨u,v,h1,h2,h3⟩ hn
  rfl
 obtain⟨hu,hv⟩:=hb u v h2.1;unfold Ie;refine Cw (fun i _ hq=> ?_) ⟨v,List.mem_range.2 hv,by rw [h3];rfl,by rw [Qyy h1 h2 n hu];rfl⟩;cases hi:s.testBit i
 ·rfl
 rw [Me n s hi]at hq;cases hq
theorem Qa5(n s:Nat):Ie n s<=n:=by
 have:=List.countP_le_length (p:=fun i=> !s.testBit i) (l:=List.range n);rw [List.length_range]at this;exact this
theorem Qlt {r:List Nat} {c n s:Nat}(hb:∀u v,(r.getD u 0).testBit v=true->u < n/\v < n)(h:Ie n s=0):Ap r c s:=by
 intro u v _ h2;unfold Ie at h;rw [List.countP_eq_zero]at h;have:=h v (List.mem_range.2 (hb u v h2.1).2)
 simpa using this
theorem Qyt {r:List Nat} {c n a:Nat}(hb:∀u v,(r.getD u 0).testBit v=true->u < n/\v < n):∀k,Ap r c ((List.range k).foldl (fun s _=>Ug r c n s) (r.getD a 0&&&c))\/Ie n ((List.range k).foldl (fun s _=>Ug r c n s) (r.getD a 0&&&c))+k<=n
 |0=>Or.inr (Qa5 _ _)
 |k+1=>by
  rw [Kr];rcases Qyt hb k with h|h
  ·exact Or.inl (by rw [Hs h];exact h)
  by_cases hc:Ap r c ((List.range k).foldl (fun s _=>Ug r c n s) (r.getD a 0&&&c))
  ·exact Or.inl (by rw [Hs hc];exact hc)
  have:=Qsw hb hc;exact Or.inr (by omega)
theorem Qk9 {r:List Nat} {c n a v:Nat}(h:Ui r c a v):∀k,((List.range k).foldl (fun s _=>Ug r c n s) (r.getD a 0&&&c)).testBit v=true
 |0=>(Ts ..).2 h
 |k+1=>by
  rw [Kr];exact Me n _ (Qk9 h k)
theorem Qav {r:List Nat} {c s:Nat}(hc:Ap r c s) {a v:Nat}(h:Rch (Ui r c) a v):(∀u,Ui r c a u->s.testBit u=true)->s.testBit v=true:=by
 induction h with
 |one h=>exact fun hs=>hs _ h
 |cons h _ ih=>exact fun hs=>ih fun u hu=>hc _ u (hs _ h) hu
theorem Et {r:List Nat} {c n a v:Nat}(hb:∀u v,(r.getD u 0).testBit v=true->u < n/\v < n):(Wy r c n a).testBit v=true↔Rch (Ui r c) a v:=by
 refine⟨Qgg,fun h=> ?_⟩;have hc:Ap r c (Wy r c n a):=by
  rcases Qyt (a:=a) (c:=c) hb n with h|h
  ·exact h
  exact Qlt hb (by unfold Wy;omega)
 exact Qav hc h fun u hu=>Qk9 hu n
theorem Id {r:List Nat} {n:Nat}(hl:r.length=n)(hb:Jd r n=false):∀u v,(r.getD u 0).testBit v=true->u < n/\v < n:=fun u v h=>by
 by_cases hu:u < r.length
 ·have hm:r.getD u 0∈r:=by rw [Qk,Qv hu];exact List.getElem_mem hu
  have h2:=List.any_eq_false.1 hb _ hm;simp only [Bool.not_eq_true',decide_eq_false_iff_not,Nat.not_lt,Nat.not_le]at h2;exact⟨by omega,Bd h2 h⟩
 rw [Qk,List.getElem?_eq_none (by omega)]at h;simp at h
def gfF(r:List Nat)(n c s out:Nat):Nat:=Kd r n (Yq (Zo n) c|||(s&&&out))
theorem Re {r:List Nat} {n c s out i:Nat}(hb:∀u v,(r.getD u 0).testBit v=true->u < n/\v < n):
 (gfF r n c s out).testBit i=true↔i < n/\∀v,(r.getD i 0).testBit v=true->c.testBit v=true->s.testBit v=true/\out.testBit v=true:=by
 unfold gfF;rw [Sv];refine and_congr_right fun _=>forall_congr' fun v=> ?_
 refine⟨fun h h1 h2=> ?_,fun h h1=> ?_⟩
 ·have:=h h1;rw [Nat.testBit_or,Ur,Nat.testBit_and,h2,Bool.not_true,Bool.and_false,Bool.false_or,Bool.and_eq_true]at this;exact this
 rw [Nat.testBit_or,Ur,Nat.testBit_and,Xm];cases hc:c.testBit v
 ·simp [(hb i v h1).2]
 obtain⟨h3,h4⟩:=h h1 hc;simp [h3,h4]
theorem So {r:List Nat} {n c s i:Nat}(hb:∀u v,(r.getD u 0).testBit v=true->u < n/\v < n):
 (Gx r n c s).testBit i=true↔i < n/\∀v,Rch (Ui r c) i v->s.testBit v=true:=by
 unfold Gx;rw [Mj,Bool.and_eq_true,decide_eq_true_eq,Kb];exact and_congr_right fun _=>forall_congr' fun v=>by rw [Et hb]
theorem Qkz {r:List Nat} {n c s:Nat}(hb:∀u v,(r.getD u 0).testBit v=true->u < n/\v < n):∀i,(Gx r n c s).testBit i=true->(Zo n).testBit i=true:=fun i h=>by
 rw [Xm];exact decide_eq_true ((So hb).1 h).1
theorem Qki {r:List Nat} {n c s out:Nat}(hb:∀u v,(r.getD u 0).testBit v=true->u < n/\v < n)(h:∀i,(Gx r n c s).testBit i=true->out.testBit i=true):
 ∀i,(Gx r n c s).testBit i=true->(gfF r n c s out).testBit i=true:=fun i hi=>by
 obtain⟨h1,h2⟩:=(So hb).1 hi;exact(Re hb).2 ⟨h1,fun v hv hc=>⟨h2 v (.one ⟨hv,hc⟩),h v ((So hb).2 ⟨(hb i v hv).2,fun z hz=>h2 z (.cons ⟨hv,hc⟩ hz)⟩)⟩⟩
theorem Qlx {r:List Nat} {n c s:Nat}(hb:∀u v,(r.getD u 0).testBit v=true->u < n/\v < n):∀i,(gfF r n c s (Zo n)).testBit i=true->(Zo n).testBit i=true:=fun i h=>by
 rw [Xm];exact decide_eq_true ((Re hb).1 h).1
theorem Qaa {r:List Nat} {n c s out:Nat}(hb:∀u v,(r.getD u 0).testBit v=true->u < n/\v < n)(h:∀i,(gfF r n c s out).testBit i=true->out.testBit i=true):
 ∀i,(gfF r n c s (gfF r n c s out)).testBit i=true->(gfF r n c s out).testBit i=true:=fun i hi=>by
 obtain⟨h1,h2⟩:=(Re hb).1 hi;exact(Re hb).2 ⟨h1,fun v hv hc=>⟨(h2 v hv hc).1,h v (h2 v hv hc).2⟩⟩
theorem Qfp {r:List Nat} {n c s out:Nat}(hb:∀u v,(r.getD u 0).testBit v=true->u < n/\v < n)(h:gfF r n c s out=out)(hi:∀i,(Gx r n c s).testBit i=true->out.testBit i=true):out=Gx r n c s:=by
 have hp:∀u v,Rch (Ui r c) u v->out.testBit u=true->s.testBit v=true:=fun u v hr=>by
  induction hr with
  |one hst=>intro ho;rw [<-h]at ho;exact(((Re hb).1 ho).2 _ hst.1 hst.2).1
  |cons hst _ ih=>intro ho;rw [<-h]at ho;exact ih (((Re hb).1 ho).2 _ hst.1 hst.2).2
 refine Nat.eq_of_testBit_eq fun i=> ?_
 rw [Bool.eq_iff_iff];refine⟨fun ho=>(So hb).2 ⟨?_,fun v hv=>hp i v hv ho⟩,hi i⟩;have ho2:=ho;rw [<-h]at ho2;exact((Re hb).1 ho2).1
theorem Qa0 {a b:Nat}(h:∀i,a.testBit i=true->b.testBit i=true)(hne:a≠b):a < b:=by
 have e:a&&&b=a:=by
  refine Nat.eq_of_testBit_eq fun i=> ?_
  rw [Nat.testBit_and];cases ha:a.testBit i
  ·rfl
  rw [h i ha];rfl
 have:a<=b:=by rw [<-e];exact Nat.and_le_right
 omega
theorem Qff {N:Nat}(h:N<=64):(18446744073709551615:Int) / 2^(64 - N)=((Zo N:Nat):Int):=by
 have e:∀k:Fin 65,(18446744073709551615:Int) / 2^(64 - k.val)=((Zo k.val:Nat):Int):=by decide+kernel
 exact e ⟨N,by omega⟩
def Zc(md:Md)(n:Nd):Bool :=
 if n.op=3 then decide (n.i < md.val.length)else if n.op<=8 then true else if n.op<=10 then decide (n.i < md.rel.length)
 else if n.op<=13 then decide (n.g < ((2^md.rel.length:Nat):Int))else false
def Yz(md:Md)(n:Nd)(x y:Nat):Nat:=if Zc md n=true then Qqf md n x y else 0
theorem Qpj {rl:List (List Nat)} {n:Nat}(hw:∀r∈rl,∀s∈r,s < 2^n) {gn i s a:Nat} {meet:Bool}(hs:s < 2^n):Da rl gn meet i s a < 2^n:=by
 unfold Da
 split
 ·split
  ·exact Nat.lt_of_le_of_lt Nat.and_le_left hs
  refine Nat.or_lt_two_pow hs ?_;by_cases ha:a < rl.length
  ·have hm:rl.getD a []∈rl:=by rw [Qk,Qv ha];exact List.getElem_mem ha
   by_cases hi:i < (rl.getD a []).length
   ·refine hw _ hm _ ?_;rw [Qk (l:=rl.getD a []),Qv hi];exact List.getElem_mem hi
   rw [Qk (l:=rl.getD a []),List.getElem?_eq_none (by omega)];exact Nat.two_pow_pos n
  rw [Qk (l:=rl),List.getElem?_eq_none (by omega)];exact Nat.two_pow_pos n
 exact hs
theorem Qco(n:Nat):Zo n < 2^n:=by
 unfold Zo;have:=Nat.two_pow_pos n;omega
theorem Qc2 {rl:List (List Nat)} {n:Nat}(hw:∀r∈rl,∀s∈r,s < 2^n) {gn i:Nat} {meet:Bool} :Vh rl gn meet n i < 2^n:=by
 unfold Vh;have:∀k,(List.range k).foldl (Da rl gn meet i) (if meet then Zo n else 0) < 2^n:=fun k=>by
  induction k with
  |zero =>
   cases meet
   ·exact Nat.two_pow_pos n
   exact Qco n
  |succ k ih=>rw [Kr];exact Qpj hw ih
 exact this _
theorem Lz {r:List Nat} {N:Nat}(hl:r.length=N)(hN:N<=64)(h:∀s∈r,s < 2^N):Yj r.length r=0:=by
 have hb:Jd r r.length=false:=List.any_eq_false.2 fun s hs=>by rw [hl];simpa using h s hs
 have:=Ni.2 ⟨by omega,hb⟩;unfold Na at this
 simpa using this
theorem Qfg {md:Md}(h:Zd md=0):∀r∈md.rel,∀s∈r,s < 2^md.n.toNat:=fun r hr s hs=>by
 obtain⟨_,_,_,_,_,_,hlow⟩:=Vk h;have:=List.any_eq_false.1 (hlow r hr) s hs
 simpa using this
theorem Qr1 {r:List Nat} {n x:Nat}(hn:n<=64)(hb:∀u v,(r.getD u 0).testBit v=true->u < n/\v < n):Kd r n (Zo 64^^^x)=Kd r n (Yq (Zo n) x):=by
 refine Nat.eq_of_testBit_eq fun i=> ?_
 rw [Bool.eq_iff_iff,Sv,Sv];refine and_congr_right fun _=>forall_congr' fun v=>imp_congr_right fun hv=> ?_
 have hv2:=(hb i v hv).2;rw [Nat.testBit_xor,Xm,Ur,Xm,decide_eq_true (show v < 64 by omega),decide_eq_true hv2];cases x.testBit v <;> simp
theorem La {md:Md}(h:Zd md=0)(a:Nat):∀u v,((md.rel.getD a []).getD u 0).testBit v=true->u < md.n.toNat/\v < md.n.toNat:=by
 intro u v hb;by_cases ha:a < md.rel.length
 ·have hm:md.rel.getD a []∈md.rel:=by
   rw [Qk,Qv ha];exact List.getElem_mem _
  obtain⟨hv,_⟩:=Qj5 h hm;have hl:=(Vk h).2.2.2.2.1 _ hm;have hl2:(md.rel.getD a []).length=md.n.toNat:=by omega
  by_cases hu:u < md.n.toNat
  ·have:=(Ro.start (eu:=true) hl2 (by rw [<-hl2];exact(Ni.1 hv).2)).lt u hu;exact⟨hu,Bd this hb⟩
  rw [Qk,List.getElem?_eq_none (by omega)]at hb;simp at hb
 have e:md.rel.getD a []= []:=by rw [Qk,List.getElem?_eq_none (by omega)];rfl
 rw [e]at hb;simp at hb
theorem Sj {md:Md}(h:Zd md=0)(gn:Nat):∀u v,(((List.range md.n.toNat).map (Vh md.rel gn false md.n.toNat)).getD u 0).testBit v=true->u < md.n.toNat/\v < md.n.toNat:=by
 intro u v hb;by_cases hu:u < md.n.toNat
 ·rw [Qjr _ _ _ _ _ hu,Oj]at hb;obtain⟨a,_,_,h3⟩:=hb;exact⟨hu,(La h a u v h3).2⟩
 rw [Qk,List.getElem?_eq_none (by simp;omega)]at hb;simp at hb
def IsW(md:Md)(s:Nat)(t:Tr):Prop:=∀w:Fin md.n.toNat,s.testBit w.1=true↔(Bz md).sat t w
theorem Qcw {md:Md}(h:Zd md=0) {n:Nd} {s:Nat} {t:Tr}(hi:0<=n.i/\n.i < md.rel.length)(hs:IsW md s t)(h9:n.op=9):IsW md (Kd (md.rel.getD n.i.toNat []) md.n.toNat s) (.one n t):=by
 intro w;rw [Sv];show _↔(if n.op=4 then _ else if n.op=9 then _ else _);rw [if_neg (by omega),if_pos h9];constructor
 ·rintro⟨_,hb⟩ v hv;refine(hs v).1 (hb v.1 ?_);have hv':(if 0<=n.i/\n.i < md.rel.length then Ho (md.rel.getD n.i.toNat []) md.n.toNat w v else w=v):=hv;rw [if_pos hi]at hv';exact hv'
 intro hf;refine⟨w.2,fun v hv=> ?_⟩;have hvn:=(La h n.i.toNat w.1 v hv).2;refine(hs ⟨v,hvn⟩).2 (hf ⟨v,hvn⟩ ?_);show(if 0<=n.i/\n.i < md.rel.length then Ho (md.rel.getD n.i.toNat []) md.n.toNat w ⟨v,hvn⟩else _);rw [if_pos hi];exact hv
theorem Qpq {md:Md}(h:Zd md=0) {n:Nd} {s:Nat} {t:Tr}(hi:0<=n.i/\n.i < md.rel.length)(hs:IsW md s t)(h9:n.op=10):
 IsW md (Yq (Zo md.n.toNat) (Kd (md.rel.getD n.i.toNat []) md.n.toNat (Yq (Zo md.n.toNat) s))) (.one n t):=by
 intro w;rw [Qc5 _ _ _ _ (fun v hv=>(La h _ _ v hv).2)];show _↔(if n.op=4 then _ else if n.op=9 then _ else if n.op=10 then _ else _);rw [if_neg (by omega),if_neg (by omega),if_pos h9];constructor
 ·rintro⟨_,v,hv,hb⟩;have hvn:=(La h n.i.toNat w.1 v hv).2;refine⟨⟨v,hvn⟩,?_,(hs ⟨v,hvn⟩).1 hb⟩;show(if 0<=n.i/\n.i < md.rel.length then Ho (md.rel.getD n.i.toNat []) md.n.toNat w ⟨v,hvn⟩else _);rw [if_pos hi];exact hv
 rintro⟨v,hv,hb⟩;have hv':(if 0<=n.i/\n.i < md.rel.length then Ho (md.rel.getD n.i.toNat []) md.n.toNat w v else w=v):=hv;rw [if_pos hi]at hv';exact⟨w.2,v.1,hv',(hs v).2 hb⟩
theorem Px {md:Md} {g:Int}(hg:g.toNat < 2^md.rel.length) {i:Nat}(hi:Fr g i=true):i < md.rel.length:=Bd hg hi
theorem kmR {md:Md} {i:Nat}(hi:i < md.rel.length)(u v:Fin md.n.toNat):(Bz md).R (i:Int) u v↔((md.rel.getD i []).getD u.1 0).testBit v.1=true:=by
 show(if 0<=(i:Int)/\(i:Int) < md.rel.length then Ho (md.rel.getD (i:Int).toNat []) md.n.toNat u v else u=v)↔_;rw [if_pos (by omega),Int.toNat_natCast];rfl
theorem Qm0 {md:Md}(h:Zd md=0) {n:Nd} {s:Nat} {t:Tr}(hg:n.g.toNat < 2^md.rel.length)(hs:IsW md s t)(h9:n.op=11):
 IsW md (Kd ((List.range md.n.toNat).map (Vh md.rel n.g.toNat false md.n.toNat)) md.n.toNat s) (.one n t):=by
 intro w;rw [Sv];show _↔(if n.op=4 then _ else if n.op=9 then _ else if n.op=10 then _ else if n.op=11 then _ else _);rw [if_neg (by omega),if_neg (by omega),if_neg (by omega),if_pos h9,Qjr _ _ _ _ _ w.2];have h4:=(Vk h).2.2.1;constructor
 ·rintro⟨_,hb⟩ i hi hgi v hv;exact(hs v).1 (hb v.1 ((Oj ..).2 ⟨i,Px hg hgi,hgi,(kmR (Px hg hgi) w v).1 hv⟩))
 intro hf;refine⟨w.2,fun v hv=> ?_⟩;obtain⟨i,hi,hgi,hr⟩:=(Oj ..).1 hv;have hvn:=(La h i w.1 v hr).2;exact(hs ⟨v,hvn⟩).2 (hf i (by omega) hgi ⟨v,hvn⟩ ((kmR hi w ⟨v,hvn⟩).2 hr))
end Go.Proofs.YtmidgcldljfkcaaGreatDoor
