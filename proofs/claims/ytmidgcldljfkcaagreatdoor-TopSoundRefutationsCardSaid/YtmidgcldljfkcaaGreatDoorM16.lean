/- Types and models: what is true at a world is a type that lacks nothing, and types that lack nothing are the worlds of a model. Plain Lean. -/
import Derived.Test.YtmidgcldljfkcaaGreatDoorM01
import Derived.Test.YtmidgcldljfkcaaGreatDoorM13
import Derived.Test.YtmidgcldljfkcaaGreatDoorM14
import Derived.Test.YtmidgcldljfkcaaGreatDoorM12
import Derived.Deep.MidRow
namespace Go.Proofs.YtmidgcldljfkcaaGreatDoor
set_option maxRecDepth 100000
set_option maxHeartbeats 128000000
inductive Rch {α:Type} (r:α->α->Prop):α->α->Prop
 |one {a b:α} :r a b->Rch r a b
 |cons {a b c:α} :r a b->Rch r b c->Rch r a c
theorem Rch.map {α β:Type} {r:α->α->Prop} {s:β->β->Prop}(f:α->β)(hf:∀a b,r a b->s (f a) (f b)) {a b:α}(h:Rch r a b):Rch s (f a) (f b):=by
 induction h with
 |one h=>exact .one (hf _ _ h)
 |cons h _ ih=>exact .cons (hf _ _ h) ih
theorem Rch.mono {α:Type} {r s:α->α->Prop}(hf:∀a b,r a b->s a b) {a b:α}(h:Rch r a b):Rch s a b:=by
 induction h with
 |one h=>exact .one (hf _ _ h)
 |cons h _ ih=>exact .cons (hf _ _ h) ih
structure KM where
 W:Type
 R:Int->W->W->Prop
 V:Int->W->Prop
def gbit(g:Int)(i:Nat):Bool:=g.toNat.testBit i
def KM.step(M:KM)(g:Int)(c:M.W->Prop)(u v:M.W):Prop:=(∃i:Nat,i < 4/\gbit g i=true/\M.R (i:Int) u v)/\c v
def KM.sat(M:KM):Tr->M.W->Prop
 |.leaf n,w=>n.op=1\/(n.op=3/\M.V n.i w)
 |.one n a,w =>
  if n.op=4 then ¬M.sat a w
  else if n.op=9 then ∀v,M.R n.i w v->M.sat a v
  else if n.op=10 then ∃v,M.R n.i w v/\M.sat a v
  else if n.op=11 then ∀i:Nat,i < 4->gbit n.g i=true->∀v,M.R (i:Int) w v->M.sat a v
  else False
 |.two n a b,w =>
  if n.op=5 then M.sat a w/\M.sat b w
  else if n.op=6 then M.sat a w\/M.sat b w
  else if n.op=7 then M.sat a w->M.sat b w
  else if n.op=8 then(M.sat a w↔M.sat b w)
  else if n.op=13 then ∀v,Rch (M.step n.g (M.sat a)) w v->M.sat b v
  else False
structure Frm (lg:Int) {W:Type} (R:W->W->Prop):Prop where
 ser:lg=1\/lg=5->∀w,∃v,R w v
 refl:lg=2\/lg=4\/lg=6->∀w,R w w
 trans:3<=lg/\lg<=6->∀u v w,R u v->R v w->R u w
 eucl:lg=5\/lg=6->∀u v w,R u v->R u w->R v w
def KM.In(M:KM)(lg:Int):Prop:=∀i:Int,Frm lg (M.R i)
def ev(th:Tr->Bool):Tr->Bool
 |.leaf n=>if n.op=3 then th (.leaf n)else n.op==1
 |.one n a=>if n.op=4 then !ev th a else if n.op=9 then th (.one n a)else false
 |.two n a b =>
  if n.op=5 then ev th a&&ev th b
  else if n.op=6 then ev th a||ev th b
  else if n.op=7 then !ev th a||ev th b
  else if n.op=8 then ev th a==ev th b
  else if n.op=13 then th (.two n a b)else false
def cov(B:List Tr):Tr->Prop
 |.leaf n=>n.op=3->.leaf n∈B
 |.one n a=>if n.op=9 then .one n a∈B else cov B a
 |.two n a b=>if n.op=13 then .two n a b∈B else cov B a/\cov B b
def lang:Tr->Prop
 |.leaf _=>True
 |.one n a=>(n.op=4\/n.op=9)/\lang a
 |.two n a b=>((5<=n.op/\n.op<=8)\/n.op=13)/\lang a/\lang b
def unfT(i:Nat)(n:Nd)(a b:Tr):Tr:=.one ⟨9,i,0,0,0,0⟩ (.two ⟨7,0,0,0,0,0⟩ a (.two ⟨5,0,0,0,0,0⟩ b (.two n a b)))
structure Closed (B:List Tr):Prop where
 know:∀n a,.one n a∈B->n.op=9/\cov B a/\lang a/\0<=n.i/\n.i < 4
 com:∀n a b,.two n a b∈B->n.op=13/\cov B a/\cov B b/\lang a/\lang b/\∀i:Nat,i < 4->gbit n.g i=true->unfT i n a b∈B
def condL(lg:Int)(here hold there:Bool):Bool :=
 if lg<=2 then !here||hold
 else if lg=3 then !here||(hold&&there)
 else if lg=4 then !here||there
 else if lg=6 then here==there
 else(here==there)&&(!here||hold)
def refl3(lg:Int):Prop:=lg=2\/lg=4\/lg=6
structure Coh (lg:Int) (B:List Tr) (th:Tr->Bool):Prop where
 com:∀n a b,.two n a b∈B->(th (.two n a b)=true↔∀i:Nat,i < 4->gbit n.g i=true->th (unfT i n a b)=true)
 know:refl3 lg->∀n a,.one n a∈B->th (.one n a)=true->ev th a=true
def Poss(lg:Int)(B:List Tr)(i:Int)(th th':Tr->Bool):Prop :=
 ∀n a,.one n a∈B->n.i=i->condL lg (th (.one n a)) (ev th' a) (th' (.one n a))=true
section
variable {T:Type} (lg:Int) (B:List Tr) (S:T->Prop) (th:T->Tr->Bool)
def stepT(g:Int)(a:Tr)(t u:T):Prop:=S u/\ev (th u) a=true/\∃i:Nat,i < 4/\gbit g i=true/\Poss lg B (i:Int) (th t) (th u)
structure Full:Prop where
 coh:∀t,S t->Coh lg B (th t)
 ser:lg=1\/lg=5->∀t,S t->∀i:Int,(∃n a,.one n a∈B/\n.i=i)->∃u,S u/\Poss lg B i (th t) (th u)
 know:∀t,S t->∀n a,.one n a∈B->th t (.one n a)=false->∃u,S u/\ev (th u) a=false/\Poss lg B n.i (th t) (th u)
 com:∀t,S t->∀n a b,.two n a b∈B->th t (.two n a b)=false->∃u,Rch (stepT lg B S th n.g a) t u/\ev (th u) b=false
end
theorem sat_know {M:KM} {n:Nd} {a:Tr} {w:M.W}(h:n.op=9):M.sat (.one n a) w↔∀v,M.R n.i w v->M.sat a v:=by simp [KM.sat,h]
theorem sat_com {M:KM} {n:Nd} {a b:Tr} {w:M.W}(h:n.op=13):M.sat (.two n a b) w↔∀v,Rch (M.step n.g (M.sat a)) w v->M.sat b v:=by simp [KM.sat,h]
open Classical in
noncomputable def thW (M:KM) (w:M.W) (f:Tr):Bool:=decide (M.sat f w)
section
variable {lg:Int} {B:List Tr} {M:KM}
end
section
variable {T:Type} (lg:Int) (B:List Tr) (S:T->Prop) (th:T->Tr->Bool)
def modT:KM:=⟨{t:T // S t},fun i t u=>Poss lg B i (th t.1) (th u.1),fun p t=>th t.1 (.leaf ⟨3,p,0,0,0,0⟩)=true⟩
end
section
variable {T:Type} {lg:Int} {B:List Tr} {S:T->Prop} {th:T->Tr->Bool}
theorem cond_hold {lg:Int} {here hold there:Bool}(h:condL lg here hold there=true)(hh:here=true)(hr:refl3 lg->there=true->hold=true):hold=true:=by
 subst hh;unfold condL at h;by_cases a:lg<=2
 ·rw [if_pos a]at h;simpa using h
 rw [if_neg a]at h;by_cases b:lg=3
 ·rw [if_pos b]at h;simp at h;exact h.1
 rw [if_neg b]at h;by_cases c:lg=4
 ·rw [if_pos c]at h;simp at h;exact hr (.inr (.inl c)) h
 rw [if_neg c]at h;by_cases d:lg=6
 ·rw [if_pos d]at h;simp at h;exact hr (.inr (.inr d)) h
 rw [if_neg d]at h;simp at h;exact h.2
theorem poss_hold(hF:Full lg B S th) {i:Int} {t u:T}(hu:S u)(hp:Poss lg B i (th t) (th u)) {n:Nd} {a:Tr}(h:.one n a∈B)(hi:n.i=i)(ht:th t (.one n a)=true):ev (th u) a=true :=
 cond_hold (hp n a h hi) ht (fun hr e=>(hF.coh u hu).know hr n a h e)
def factOk:Tr->Prop
 |.leaf n=>n.op=3->n=⟨3,n.i,0,0,0,0⟩
 |.one _ a=>factOk a
 |.two _ a b=>factOk a/\factOk b
theorem truth(hB:Closed B)(hF:Full lg B S th):∀f,cov B f->lang f->factOk f->∀t:(modT lg B S th).W,(ev (th t.1) f=true↔(modT lg B S th).sat f t)
 |.leaf n,_,_,hk,t=>by
  by_cases h3:n.op=3
  ·have e:=hk h3;simp only [ev,h3,if_true,KM.sat,modT,true_and,show ¬(3:Int)=1 by decide,false_or];rw [<-e]
  simp only [ev,h3,if_false,KM.sat,beq_iff_eq,false_and,or_false]
 |.one n a,hc,hl,hk,t=>by
  by_cases h9:n.op=9
  ·have hm:.one n a∈B:=by simpa [cov,h9]using hc
   obtain⟨_,hca,hla,_⟩:=hB.know n a hm;have ih:=truth hB hF a hca hla hk;rw [sat_know h9];have e:ev (th t.1) (.one n a)=th t.1 (.one n a):=by simp [ev,h9]
   rw [e];constructor
   ·intro ht v hr;rw [<-ih v];exact poss_hold hF v.2 hr hm rfl ht
   intro hs;cases ht:th t.1 (.one n a)
   ·obtain⟨u,hu,he,hp⟩:=hF.know t.1 t.2 n a hm ht;have:=(ih ⟨u,hu⟩).2 (hs ⟨u,hu⟩ hp);rw [he]at this;cases this
   rfl
  have h4:n.op=4:=hl.1.resolve_right h9;have hca:cov B a:=by simpa [cov,h4]using hc
  have ih:=truth hB hF a hca hl.2 hk t;simp only [ev,KM.sat,h4,if_true,Bool.not_eq_true'];rw [<-ih];simp
 |.two n a b,hc,hl,hk,t=>by
  by_cases h13:n.op=13
  ·have hm:.two n a b∈B:=by simpa [cov,h13]using hc
   obtain⟨_,hca,hcb,hla,hlb,hun⟩:=hB.com n a b hm;have iha:=truth hB hF a hca hla hk.1;have ihb:=truth hB hF b hcb hlb hk.2;rw [sat_com h13];have e:ev (th t.1) (.two n a b)=th t.1 (.two n a b):=by simp [ev,h13]
   rw [e];constructor
   ·intro ht v hr;have key:∀(s v:(modT lg B S th).W),Rch ((modT lg B S th).step n.g ((modT lg B S th).sat a)) s v->th s.1 (.two n a b)=true->ev (th v.1) b=true:=by
     intro s v hr;have hstep:∀s v:(modT lg B S th).W,(modT lg B S th).step n.g ((modT lg B S th).sat a) s v->th s.1 (.two n a b)=true->ev (th v.1) b=true/\th v.1 (.two n a b)=true:=by
      rintro s v ⟨⟨i,hi,hg,hp⟩,ha⟩ hs;have hsu:=((hF.coh s.1 s.2).com n a b hm).1 hs i hi hg;have hev:=poss_hold hF v.2 hp (hun i hi hg) rfl hsu;have hx:=(iha v).2 ha;simp only [ev,show ¬(7:Int)=5 by decide,show ¬(7:Int)=6 by decide,if_false,if_true,hx,Bool.not_true,Bool.false_or,Bool.and_eq_true,h13,show ¬(13:Int)=5 by decide,show ¬(13:Int)=6 by decide,show ¬(13:Int)=7 by decide,show ¬(13:Int)=8 by decide]at hev;exact hev
     induction hr with
     |one h=>intro hs;exact(hstep _ _ h hs).1
     |cons h _ ih=>intro hs;exact ih (hstep _ _ h hs).2
    rw [<-ihb v];exact key t v hr ht
   intro hs;cases ht:th t.1 (.two n a b)
   ·obtain⟨u,hp,he⟩:=hF.com t.1 t.2 n a b hm ht;have lift:∀(s u:T) (hs:S s),Rch (stepT lg B S th n.g a) s u->∃hu:S u,Rch ((modT lg B S th).step n.g ((modT lg B S th).sat a)) ⟨s,hs⟩ ⟨u,hu⟩:=by
     intro s u hs hr
     induction hr with
     |one h =>
      obtain⟨hu,hx,i,hi,hg,hp⟩:=h;exact⟨hu,.one (b:=(⟨_,hu⟩:(modT lg B S th).W)) ⟨⟨i,hi,hg,hp⟩,(iha ⟨_,hu⟩).1 hx⟩⟩
     |cons h _ ih =>
      obtain⟨hu,hx,i,hi,hg,hp⟩:=h;obtain⟨hu2,h2⟩:=ih hu;exact⟨hu2,.cons (b:=(⟨_,hu⟩:(modT lg B S th).W)) ⟨⟨i,hi,hg,hp⟩,(iha ⟨_,hu⟩).1 hx⟩ h2⟩
    obtain⟨hu,hr⟩:=lift t.1 u t.2 hp;have:=(ihb ⟨u,hu⟩).2 (hs ⟨u,hu⟩ hr);rw [he]at this;cases this
   rfl
  have hc':cov B a/\cov B b:=by simpa [cov,h13]using hc
  have ha:=truth hB hF a hc'.1 hl.2.1 hk.1 t;have hb:=truth hB hF b hc'.2 hl.2.2 hk.2 t;have ho:n.op=5\/n.op=6\/n.op=7\/n.op=8:=by
   have:=hl.1.resolve_right h13;omega
  rcases ho with ho|ho|ho|ho
  ·simp [ev,KM.sat,ho,ha,hb]
  ·simp [ev,KM.sat,ho,ha,hb]
  ·simp only [ev,KM.sat,ho];simp only [show ¬(7:Int)=5 by decide,show ¬(7:Int)=6 by decide,if_false,if_true,Bool.or_eq_true,Bool.not_eq_true'];rw [<-ha,<-hb];cases ev (th t.1) a <;> cases ev (th t.1) b <;> simp
  simp only [ev,KM.sat,ho];simp only [show ¬(8:Int)=5 by decide,show ¬(8:Int)=6 by decide,show ¬(8:Int)=7 by decide,if_false,if_true,beq_iff_eq];rw [<-ha,<-hb];cases ev (th t.1) a <;> cases ev (th t.1) b <;> simp
end
open Go.RowKit
def reflK(l:List Nat)(k:Nat):List Nat:=(List.range l.length).map fun i=>if i < k then l.getD i 0|||2^i else l.getD i 0
def reflP(l:List Nat):Prop:=∀i,i < l.length->(l.getD i 0).testBit i=true
def checkM(md:Md):Int :=
 if md.n < 1\/64 < md.n then 2 else if 4 < md.rel.length\/8 < md.val.length then 8
 else if md.rel.any (fun r=> !decide ((r.length:Int)=md.n))then 3
 else if beyondN md.val md.n.toNat then 2 else if md.rel.any (fun r=>beyondN r md.n.toNat)then 2 else 0
theorem any_hitR {P:List Nat->Bool} {l:List (List Nat)} {k:Nat}(hk:k < l.length)(h:P (l.getD k [])=true):l.any P=true:=by
 rw [List.any_eq_true];exact⟨l[k],List.getElem_mem hk,by rw [Qk,Qv hk]at h;exact h⟩
theorem any_missR {P:List Nat->Bool} {l:List (List Nat)}(h:∀k,k < l.length->P (l.getD k [])=false):l.any P=false:=by
 rw [List.any_eq_false];intro s hs;obtain⟨k,hk,e⟩:=List.getElem_of_mem hs;have:=h k hk;rw [Qk,Qv hk]at this;have h2:P l[k]=false:=this;rw [e]at h2;rw [h2];simp
def propP(q:Int)(l:List Nat):Prop :=
 if q=1 then ∀i,i < l.length->l.getD i 0≠0 else if q=2 then reflP l else if q=4 then closedG false l else closedG true l
def propsL(lg:Int):List Int:=if lg=0 then []else if lg=1 then [1]else if lg=2 then [2]else if lg=3 then [4]else if lg=4 then [2,4]else if lg=5 then [1,4,5]else [2,4,5]
def p15(lg:Int):Int:=if 0<=lg/\lg<=6 then 0 else 1
theorem props_mem {lg q:Int}(h:q∈propsL lg):q=1\/q=2\/q=4\/q=5:=by
 unfold propsL at h
 repeat' split at h
 all_goals(simp at h;try omega)
def goodR(lg:Int)(l:List Nat):Prop:=∀q∈propsL lg,propP q l
structure GoodM (md:Md) (lg:Int):Prop where
 lgr:0<=lg/\lg<=6
 ck:checkM md=0
 rel:∀r∈md.rel,goodR lg r
theorem checkM_zero {md:Md}(h:checkM md=0):1<=md.n/\md.n<=64/\md.rel.length<=4/\md.val.length<=8/\(∀r∈md.rel,(r.length:Int)=md.n)/\beyondN md.val md.n.toNat=false/\∀r∈md.rel,beyondN r md.n.toNat=false:=by
 unfold checkM at h;by_cases h1:md.n < 1\/64 < md.n
 ·rw [if_pos h1]at h;cases h
 rw [if_neg h1]at h;by_cases h2:4 < md.rel.length\/8 < md.val.length
 ·rw [if_pos h2]at h;cases h
 rw [if_neg h2]at h;cases h3:md.rel.any (fun r=> !decide ((r.length:Int)=md.n))
 ·rw [h3]at h;cases h4:beyondN md.val md.n.toNat
  ·rw [h4]at h;cases h5:md.rel.any (fun r=>beyondN r md.n.toNat)
   ·rw [List.any_eq_false]at h3 h5;exact⟨by omega,by omega,by omega,by omega,fun r hr=>by simpa using h3 r hr,rfl,fun r hr=>by simpa using h5 r hr⟩
   rw [h5]at h;cases h
  rw [h4]at h;cases h
 rw [h3]at h;cases h
theorem rel_valid {md:Md}(h:checkM md=0) {r:List Nat}(hr:r∈md.rel):valid02 r=true/\0 < r.length:=by
 obtain⟨h1,h2,_,_,h3,_,h4⟩:=checkM_zero h;have h5:=h3 r hr;have h6:=h4 r hr;have e:md.n.toNat=r.length:=by omega
 rw [e]at h6;exact⟨valid_iff.2 ⟨by omega,h6⟩,by omega⟩
theorem two_word {k:Nat}(h:k < 64):word (2^k):=by
 show 2^k < 18446744073709551616;rw [show(18446744073709551616:Nat)=2^64 from rfl];exact Nat.pow_lt_pow_right (by decide) h
theorem or_two {s k:Nat}(hs:word s)(hk:k < 64):bits .or .u64 (s:Int) (IntKind.u64.wrap ((2:Int)^k))=((s|||2^k:Nat):Int):=by
 rw [wrap_two hk];exact bits_or hs (two_word hk)
theorem dif_eq_zero {a b:Nat}(ha:word a)(hb:word b):(bits .andNot .u64 (a:Int) (b:Int)==0)=subS a b:=by
 rw [bits_andNot ha hb,<-dif_zero,Bool.eq_iff_iff,beq_iff_eq,beq_iff_eq];omega
def boolN(op:Int)(x y al:Nat):Nat :=
 if op=1 then al else if op=4 then difN al x else if op=5 then x&&&y else if op=6 then x|||y else if op=7 then difN al x|||y else if op=8 then difN al (x^^^y)else 0
theorem and_word {a b:Nat}(ha:word a):word (a&&&b):=Nat.lt_of_le_of_lt Nat.and_le_left ha
theorem or_word {a b:Nat}(ha:word a)(hb:word b):word (a|||b):=Nat.or_lt_two_pow (n:=64) ha hb
theorem xor_word {a b:Nat}(ha:word a)(hb:word b):word (a^^^b):=Nat.xor_lt_two_pow (n:=64) ha hb
def boxN(r:List Nat)(n s:Nat):Nat:=maskN n fun i=>subS (r.getD i 0) s
def stepP(r:List Nat)(c s v:Nat):Nat:=if s.testBit v then s|||(r.getD v 0&&&c)else s
def passP(r:List Nat)(c n s:Nat):Nat:=(List.range n).foldl (stepP r c) s
def pathsN(r:List Nat)(c n a:Nat):Nat:=(List.range n).foldl (fun s _=>passP r c n s) (r.getD a 0&&&c)
theorem fold_snoc {f:Nat->Nat->Nat}(k s:Nat):(List.range (k+1)).foldl f s=f ((List.range k).foldl f s) k:=by
 rw [List.range_succ,List.foldl_append];rfl
theorem fold_word {f:Nat->Nat->Nat}(hf:∀s v,word s->word (f s v))(k s:Nat)(hs:word s):word ((List.range k).foldl f s):=by
 induction k with
 |zero=>exact hs
 |succ k ih=>rw [fold_snoc];exact hf _ _ ih
def commonM(r:List Nat)(n c s:Nat):Nat:=maskN n fun i=>subS (pathsN r c n i) s
def grpS(rl:List (List Nat))(gn:Nat)(meet:Bool)(i s a:Nat):Nat:=if gn.testBit a then(if meet then s&&&(rl.getD a []).getD i 0 else s|||(rl.getD a []).getD i 0)else s
def grpN(rl:List (List Nat))(gn:Nat)(meet:Bool)(n i:Nat):Nat:=(List.range rl.length).foldl (grpS rl gn meet i) (if meet then allW n else 0)
theorem grpS_word {rl:List (List Nat)}(hw:∀r∈rl,∀s∈r,word s) {gn i s a:Nat} {meet:Bool}(hs:word s):word (grpS rl gn meet i s a):=by
 unfold grpS;have h1:word ((rl.getD a []).getD i 0):=getD_word (getD_words hw a) i
 split
 ·split
  ·exact and_word hs
  exact or_word hs h1
 exact hs
theorem shl_le {k gn:Nat}(hk:k<=4)(hg:gn < 2^k):¬wrap64 ((2:Int)^k)<=(gn:Int):=by
 have hc:k=0\/k=1\/k=2\/k=3\/k=4:=by omega
 rcases hc with rfl|rfl|rfl|rfl|rfl <;>(unfold wrap64;simp at hg⊢;omega)
theorem head_agent {n:Nd}(h:headOk n)(ho:hasAgent n.op=true):0<=n.i/\n.i < 4:=by
 obtain⟨_,_,h3,_,_⟩:=h;unfold rangeBad at h3;simp only [outsideB,ho,Bool.or_eq_false_iff]at h3;simp at h3;omega
theorem head_fact {n:Nd}(h:headOk n)(ho:n.op=3):0<=n.i/\n.i < 8:=by
 obtain⟨_,_,h3,_,_⟩:=h;unfold rangeBad at h3;rw [ho]at h3;simp [outsideB,hasFact,hasAgent,hasEvent,hasGroup]at h3;omega
theorem head_group {n:Nd}(h:headOk n):0<=n.g/\n.g < 16:=by
 obtain⟨_,h2,h3,_,_⟩:=h;cases hg:hasGroup n.op
 ·unfold formBad at h2;simp only [hg,Bool.or_eq_false_iff]at h2;simp at h2;omega
 unfold rangeBad at h3;simp only [outsideB,hg,Bool.or_eq_false_iff]at h3;simp at h3;omega
def agS(s:Nat)(n:Nd):Nat:=(s|||(if hasAgent n.op then 2^n.i.toNat else 0))|||n.g.toNat
def faS(s:Nat)(n:Nd):Nat:=if n.op=3 then s|||2^n.i.toNat else s
def agentsM(l:List Nd):Nat:=l.foldl agS 0
def factsM(l:List Nd):Nat:=l.foldl faS 0
theorem agS_lt {s:Nat} {n:Nd}(h:headOk n)(hs:s < 2^4):agS s n < 2^4:=by
 unfold agS;have h1:=head_group h;refine Nat.or_lt_two_pow (Nat.or_lt_two_pow hs ?_) (by omega)
 split
 ·rename_i ho;have:=head_agent h ho;exact Nat.pow_lt_pow_right (by decide) (by omega)
 decide
theorem faS_lt {s:Nat} {n:Nd}(h:headOk n)(hs:s < 2^8):faS s n < 2^8:=by
 unfold faS
 split
 ·rename_i ho;have:=head_fact h ho;exact Nat.or_lt_two_pow hs (Nat.pow_lt_pow_right (by decide) (by omega))
 exact hs
theorem agents_lt:∀(l:List Nd) (s:Nat),(∀n∈l,headOk n)->s < 2^4->l.foldl agS s < 2^4
 |[],_,_,hs=>hs
 |n :: l,_,h,hs=>agents_lt l _ (fun n hn=>h n (List.mem_cons_of_mem _ hn)) (agS_lt (h n (List.mem_cons_self ..)) hs)
theorem facts_lt:∀(l:List Nd) (s:Nat),(∀n∈l,headOk n)->s < 2^8->l.foldl faS s < 2^8
 |[],_,_,hs=>hs
 |n :: l,_,h,hs=>facts_lt l _ (fun n hn=>h n (List.mem_cons_of_mem _ hn)) (faS_lt (h n (List.mem_cons_self ..)) hs)
theorem wrap_small {k:Nat}(hk:k < 8):wrap64 ((2:Int)^k)=((2^k:Nat):Int):=by
 have hc:k=0\/k=1\/k=2\/k=3\/k=4\/k=5\/k=6\/k=7:=by omega
 rcases hc with rfl|rfl|rfl|rfl|rfl|rfl|rfl|rfl <;> decide+kernel
def fitA(a:Nat)(m i:Nat):Bool:= !m.testBit i||decide (i < a)
def fitsN(f:List Nd)(a b:Nat):Bool:=check f==0&&((List.range 4).all (fitA a (agentsM (compactN f)))&&(List.range 8).all (fitA b (factsM (compactN f))))
theorem static_all:(List.range 512).all (fun m=>((bits .andNot .i64 (m:Int) 15==0)==subS m 15)&&((bits .andNot .i64 (m:Int) 15 !=0)== !subS m 15))=true:=by kernel_rfl
theorem static_test(f:List Nd):(bits .andNot .i64 ((fragsN f:Nat):Int) 15==0)=subS (fragsN f) 15/\(bits .andNot .i64 ((fragsN f:Nat):Int) 15 !=0)= !subS (fragsN f) 15:=by
 have h:=List.all_eq_true.1 static_all (fragsN f) (List.mem_range.2 (fragMask_lt (compactN f)));rw [Bool.and_eq_true,beq_iff_eq,beq_iff_eq]at h;exact h
def fit17(md:Md)(f:List Nd)(i:Int):Bool:=subS (fragsN (subN f i)) 15&&fitsN (subN f i) md.rel.length md.val.length
def chk17(md:Md)(f:List Nd):Int :=
 if checkM md≠0 then checkM md else if check f≠0 then check f else if subS (fragsN f) 15=false then 10 else if fitsN f md.rel.length md.val.length=false then 2 else 0
structure FitNd (md:Md) (n:Nd):Prop where
 head:headOk n
 op:n.op<=13
 fact:n.op=3->n.i < md.val.length
 agent:n.op=9\/n.op=10->n.i < md.rel.length
 group:11<=n.op->1<=n.g/\n.g.toNat < 2^md.rel.length
def oneN(md:Md)(n:Nd)(x y:Nat):Nat :=
 if n.op=3 then md.val.getD n.i.toNat 0 else if n.op<=8 then boolN n.op x y (allW md.n.toNat)
 else if n.op=9 then boxN (md.rel.getD n.i.toNat []) md.n.toNat x
 else if n.op=10 then difN (allW md.n.toNat) (boxN (md.rel.getD n.i.toNat []) md.n.toNat (difN (allW md.n.toNat) x))
 else if n.op=11 then boxN ((List.range md.n.toNat).map (grpN md.rel n.g.toNat false md.n.toNat)) md.n.toNat x
 else if n.op=12 then boxN ((List.range md.n.toNat).map (grpN md.rel n.g.toNat true md.n.toNat)) md.n.toNat x
 else commonM ((List.range md.n.toNat).map (grpN md.rel n.g.toNat false md.n.toNat)) md.n.toNat x y
def setS(md:Md)(f:List Nd)(out:List Nat)(k:Nat):Nat :=
 if fit17 md f (k:Int)then oneN md (f.getD k Nd.zero) (if hasX (f.getD k Nd.zero).op then out.getD (f.getD k Nd.zero).x.toNat 0 else 0) (if hasY (f.getD k Nd.zero).op then out.getD (f.getD k Nd.zero).y.toNat 0 else 0)else 0
def setsK(md:Md)(f:List Nd):Nat->List Nat
 |0=> []
 |k+1=>setsK md f k++ [setS md f (setsK md f k) k]
theorem chk17_zero {md:Md} {f:List Nd}(h:chk17 md f=0):checkM md=0/\check f=0/\subS (fragsN f) 15=true/\fitsN f md.rel.length md.val.length=true:=by
 unfold chk17 at h;by_cases h1:checkM md≠0
 ·rw [if_pos h1]at h;exact absurd h h1
 rw [if_neg h1]at h;by_cases h2:check f≠0
 ·rw [if_pos h2]at h;exact absurd h h2
 rw [if_neg h2]at h;cases h3:subS (fragsN f) 15
 ·rw [if_pos h3]at h;cases h
 rw [if_neg (by rw [h3];simp)]at h;cases h4:fitsN f md.rel.length md.val.length
 ·rw [if_pos h4]at h;cases h
 exact⟨Classical.not_not.1 h1,Classical.not_not.1 h2,rfl,rfl⟩
def holdE(md:Md)(f:List Nd):Int:=if chk17 md (compactN f)=0 then 0 else chk17 md f
def hold17(md:Md)(f:List Nd):Nat:=if chk17 md (compactN f)=0 then(setsK md (compactN f) (compactN f).length).getD ((compactN f).length - 1) 0 else 0
def atE(md:Md)(f:List Nd)(i:Int):Int:=if holdE md f=0 then(if i < 0\/md.n<=i then 2 else 0)else holdE md f
def at17(md:Md)(f:List Nd)(i:Int):Bool:=if holdE md f=0 then(if i < 0\/md.n<=i then false else(hold17 md f).testBit i.toNat)else false
theorem frag_mem:∀(l:List Nd) (s:Nat),(∀i,s.testBit i=true->(l.foldl (fun s n=>s|||(fragOf n.op).toNat) s).testBit i=true)/\∀n∈l,∀i,(fragOf n.op).toNat.testBit i=true->(l.foldl (fun s n=>s|||(fragOf n.op).toNat) s).testBit i=true
 |[],_=>⟨fun _ h=>h,fun _ h=>by cases h⟩
 |a :: l,s=>by
  obtain⟨h1,h2⟩:=frag_mem l (s|||(fragOf a.op).toNat);refine⟨fun i hi=>h1 i (by rw [Nat.testBit_or,hi];rfl),fun n hn i hi=> ?_⟩;rcases List.mem_cons.1 hn with rfl|hn
  ·exact h1 i (by rw [Nat.testBit_or,hi,Bool.or_true])
  exact h2 n hn i hi
theorem ag_mem:∀(l:List Nd) (s:Nat),(∀i,s.testBit i=true->(l.foldl agS s).testBit i=true)/\∀n∈l,∀i,((hasAgent n.op=true/\i=n.i.toNat)\/n.g.toNat.testBit i=true)->(l.foldl agS s).testBit i=true
 |[],_=>⟨fun _ h=>h,fun _ h=>by cases h⟩
 |a :: l,s=>by
  obtain⟨h1,h2⟩:=ag_mem l (agS s a);refine⟨fun i hi=>h1 i (by unfold agS;rw [Nat.testBit_or,Nat.testBit_or,hi];rfl),fun n hn i hi=> ?_⟩;rcases List.mem_cons.1 hn with rfl|hn
  ·refine h1 i ?_;unfold agS;rw [Nat.testBit_or,Nat.testBit_or];rcases hi with⟨ha,rfl⟩|hg
   ·rw [if_pos ha,Nat.testBit_two_pow];simp
   rw [hg,Bool.or_true]
  exact h2 n hn i hi
theorem fa_mem:∀(l:List Nd) (s:Nat),(∀i,s.testBit i=true->(l.foldl faS s).testBit i=true)/\∀n∈l,∀i,(n.op=3/\i=n.i.toNat)->(l.foldl faS s).testBit i=true
 |[],_=>⟨fun _ h=>h,fun _ h=>by cases h⟩
 |a :: l,s=>by
  obtain⟨h1,h2⟩:=fa_mem l (faS s a)
  refine⟨fun i hi=>h1 i (by unfold faS;split;· rw [Nat.testBit_or,hi];rfl
                            ·exact hi),fun n hn i hi=> ?_⟩
  rcases List.mem_cons.1 hn with rfl|hn
  ·refine h1 i ?_;obtain⟨ho,rfl⟩:=hi;unfold faS;rw [if_pos ho,Nat.testBit_or,Nat.testBit_two_pow];simp
  exact h2 n hn i hi
theorem head_eqs {m n:Nd}(h:m.head=n.head):m.op=n.op/\m.i=n.i/\m.g=n.g:=by
 have h1:=congrArg Nd.op h;have h2:=congrArg Nd.i h;have h3:=congrArg Nd.g h;exact⟨h1,h2,h3⟩
theorem low_bits {g k:Nat}(h:∀i,g.testBit i=true->i < k):g < 2^k:=by
 rcases Nat.lt_or_ge g (2^k)with h1|h1
 ·exact h1
 obtain⟨i,hi1,hi2⟩:=Nat.exists_ge_and_testBit_of_ge_two_pow h1;have:=h i hi2;omega
theorem fit_nd {md:Md} {f:List Nd} {k:Nat} {n:Nd}(hc:check f=0)(hk:f[k]?=some n)(hf:fit17 md f (k:Int)=true)(_hr4:md.rel.length<=4):FitNd md n:=by
 have hkl:=(List.getElem?_eq_some_iff.1 hk).1;have hh:=heads_of hc n (List.mem_of_getElem? hk);unfold fit17 at hf;rw [Bool.and_eq_true]at hf;obtain⟨h1,h2⟩:=hf;have hg:=(sub_props hc hkl).2.1;have ht:=subN_tree hc hkl;have htk:(tr f k).ok:=tr_ok (check_wf hc) k hkl;have hcc:compactN (subN f (k:Int))=canon (tr f k):=by
  rw [compactN_tree hg,ht,treeOf_canon htk]
 obtain⟨m,hm,hmt,_⟩:=last_node htk;have hmm:=List.mem_of_getElem? hm;have hmh:=head_eqs (mk_inj ((tr_eq (check_wf hc) hk).symm.trans hmt)).1;unfold fitsN at h2;rw [Bool.and_eq_true,Bool.and_eq_true,List.all_eq_true,List.all_eq_true]at h2;rw [hcc]at h2;have hag:∀i,((hasAgent n.op=true/\i=n.i.toNat)\/n.g.toNat.testBit i=true)->i < 4->i < md.rel.length:=fun i hi hi4=>by
  have h3:=(ag_mem (canon (tr f k)) 0).2 m hmm i (by rw [<-hmh.1,<-hmh.2.1,<-hmh.2.2];exact hi);have h4:=h2.2.1 i (List.mem_range.2 hi4);unfold fitA agentsM at h4;rw [h3]at h4
  simpa using h4
 refine⟨hh,?_,fun ho=> ?_,fun ho=> ?_,fun ho=> ?_⟩
 ·have hop21:=(isOp_iff n.op).1 hh.1;have hfr:subS (fragOf m.op).toNat 15=true:=by
   rw [subS_iff]at h1⊢;intro i hi;refine h1 i ?_;unfold fragsN;rw [hcc];exact(frag_mem (canon (tr f k)) 0).2 m hmm i hi
  rw [<-hmh.1]at hfr;rcases op_cases n.op with h|h|h|h|h|h|h|h|h|h|h|h|h|h|h|h|h|h|h|h|h|h|h <;> first|omega|(rw [h]at hfr;exact absurd hfr (by decide))
 ·have hb:=head_fact hh ho;have h3:=(fa_mem (canon (tr f k)) 0).2 m hmm n.i.toNat ⟨by rw [<-hmh.1];exact ho,by rw [<-hmh.2.1]⟩;have h4:=h2.2.2 n.i.toNat (List.mem_range.2 (by omega));unfold fitA factsM at h4;rw [h3]at h4;have:n.i.toNat < md.val.length:=by simpa using h4
  omega
 ·have ha:hasAgent n.op=true:=by rcases ho with h|h <;>(rw [h];rfl)
  have hb:=head_agent hh ha;have:=hag n.i.toNat (.inl ⟨ha,rfl⟩) (by omega);omega
 have hb:=head_group hh;have hop13:n.op<=21:=((isOp_iff n.op).1 hh.1).2;refine⟨?_,low_bits fun i hi=>hag i (.inr hi) (bit_lt (n:=4) (by omega) hi)⟩;obtain⟨_,h3,h4,_,_⟩:=hh;cases hgr:hasGroup n.op
 ·exfalso
  have hfr:subS (fragOf m.op).toNat 15=true:=by
   rw [subS_iff]at h1⊢;intro i hi;refine h1 i ?_;unfold fragsN;rw [hcc];exact(frag_mem (canon (tr f k)) 0).2 m hmm i hi
  rw [<-hmh.1]at hfr;rcases op_cases n.op with h|h|h|h|h|h|h|h|h|h|h|h|h|h|h|h|h|h|h|h|h|h|h <;> first|omega|(rw [h]at hfr;exact absurd hfr (by decide))|(rw [h]at hgr;cases hgr)
 unfold rangeBad at h4;simp only [outsideB,hgr,Bool.or_eq_false_iff]at h4;simp at h4;omega
theorem addr_nil(g k:Nat):(⟨g,0,none⟩:Addr).add k=⟨g,k,none⟩:=by unfold Addr.add;cases k <;> simp
def uV(l:List Nat):List Value:=l.map fun(u:Nat)=>Value.int .u64 (u:Int)
theorem tInfoU8:(Tryz.prog.info? 43).map (fun i=>(i.zero,i.size,i.bytes))=some (some (.int .u64 0),1,8):=by kernel_rfl
def MadeU(base:Nat)(w:World)(v:Value)(l:List Nat):Prop:=w.ownsRow base 43 1 v l.length (uV l)
section
variable {base:Nat} {w w':World} {v:Value} {l:List Nat} {g n cap k:Nat}
theorem MadeU.ext(h:MadeU base w v l)(he:Ext w w'):MadeU base w' v l:=row_ext h he
theorem MadeU.nil(base:Nat)(w:World):MadeU base w (.slice none 0 0) []:=World.ownsRow_nil _ _ _ _
theorem MadeU.slice(h:MadeU base w v l)(h0:0 < l.length):∃g cap,v=.slice (some ⟨g,0,none⟩) l.length cap/\g < w.heap.size/\base<=g/\l.length<=cap/\cap<=maxLen/\(∀i,i < l.length->w.cell? ⟨g,i,none⟩=some (.int .u64 ((l.getD i 0:Nat):Int)))/\∀i,w.frozen? ⟨g,i,none⟩=false:=by
 rcases h.2 with⟨_,e0⟩|⟨g,cap,cur,rfl,hb,hg,hnc,hm,hs,ht⟩
 ·omega
 refine⟨g,cap,rfl,lt_heap hg,hb,hnc,hm,fun i hi=> ?_,fun i=>by simp [World.frozen?,hg]⟩;have h1:(uV l)[i]?=some (.int .u64 ((l.getD i 0:Nat):Int)):=by
  unfold uV;rw [List.getElem?_map,Qk,Qv hi];rfl
 rw [<-ht,List.getElem?_take]at h1
 split at h1
 ·have h2:cur[i]?=some (.int .u64 ((l.getD i 0:Nat):Int)):=by simpa using h1
  simp [World.cell?,hg,h2]
 cases h1
theorem MadeU.at_(h:MadeU base w (.slice (some ⟨g,0,none⟩) n cap) l)(h0:0 < l.length):n=l.length/\g < w.heap.size/\base<=g/\n<=cap/\cap<=maxLen/\(∀i,i < l.length->w.cell? ⟨g,i,none⟩=some (.int .u64 ((l.getD i 0:Nat):Int)))/\∀i,w.frozen? ⟨g,i,none⟩=false:=by
 obtain⟨g',cap',e,h1,h2,h3,h4,h5,h6⟩:=h.slice h0;injection e with e1 e2 e3;injection e1 with e1;injection e1 with e1;subst e1 e2 e3;exact⟨rfl,h1,h2,h3,h4,h5,h6⟩
theorem MadeU.u64s(h:MadeU base w v l):U64s w v l:=by
 rcases Nat.eq_zero_or_pos l.length with h0|h0
 ·have:l= []:=List.length_eq_zero_iff.1 h0;subst this;rcases h.2 with⟨e,_⟩|⟨g,cap,cur,rfl,hb,hg,hnc,hm,hs,ht⟩
  ·subst e;exact u64s_nil w
  exact⟨_,cap,rfl,hnc,hm,fun h=>absurd rfl h⟩
 obtain⟨g,cap,rfl,h1,_,h3,h4,h5,_⟩:=h.slice h0;refine⟨_,cap,rfl,h3,h4,fun _=>⟨_,rfl,h1,fun k z hk=> ?_⟩⟩;have hk':=(List.getElem?_eq_some_iff.1 hk).1;have:=h5 k hk';rw [addr_nil,this,Qk,hk];rfl
theorem MadeU.set(h:MadeU base w (.slice (some ⟨g,0,none⟩) n cap) l)(hn:l.length=n)(j s:Nat):MadeU base (w.setCell ⟨g,j,none⟩ (.int .u64 (s:Int))) (.slice (some ⟨g,0,none⟩) n cap) (l.set j s):=by
 subst hn;have h1:=(World.ownsRow.stored h j (.int .u64 (s:Int))).1;unfold MadeU uV;rw [List.length_set,List.map_set];exact h1
theorem row_empty(w:World)(t:TypeId):(w.alloc (.cells #[] t)).ownsRow w.heap.size t 1 (.slice (some ⟨w.heap.size,0,none⟩) 0 0) 0 []:=
 ⟨rfl,.inr ⟨w.heap.size,0,#[],rfl,Nat.le_refl _,heap_alloc_new _ _,Nat.le_refl _,by unfold maxLen;omega,rfl,rfl⟩⟩
theorem row_of_u64 {ad:Addr}(h:∀i,i < l.length->w.cell? (ad.add i)=some (.int .u64 ((l.getD i 0:Nat):Int))):∀(j:Nat) u,(uV l)[j]?=some u->w.cell? (ad.add j)=some u:=fun j u hj=>by
 unfold uV at hj;rw [List.getElem?_map]at hj;cases e:l[j]? with
 |none=>rw [e]at hj;cases hj
 |some x =>
  rw [e]at hj;have hk:=(List.getElem?_eq_some_iff.1 e).1;rw [h j hk,Qk,e];exact hj
theorem uv_one(l:List Nat):∀u∈uV l,u.oneCell'=true:=fun u hu=>by
 obtain⟨x,_,rfl⟩:=List.mem_map.1 hu;rfl
theorem uv_len(l:List Nat):(uV l).length=l.length:=by simp [uV]
end
def URow(base:Nat)(w:World)(g:Nat)(l:List Nat):Prop:=w.ownsRow base 43 1 (.slice (some ⟨g,0,none⟩) l.length l.length) l.length (uV l)
def FlRow(base:Nat)(w:World)(g:Nat)(l:List Bool):Prop:=w.ownsRow base 4 1 (.slice (some ⟨g,0,none⟩) l.length l.length) l.length (l.map Value.bool)
section
variable {base:Nat} {w w':World} {g:Nat} {l:List Nat} {m:List Bool}
theorem URow.cell(h:URow base w g l) {j:Nat}(hj:j < l.length):w.cell? ⟨g,j,none⟩=some (.int .u64 ((l.getD j 0:Nat):Int)):=by
 rw [World.ownsRow.cellAt h j (by omega)];unfold uV;rw [List.getElem?_map,Qk,Qv hj];rfl
theorem FlRow.cell(h:FlRow base w g m) {j:Nat}(hj:j < m.length):w.cell? ⟨g,j,none⟩=some (.bool (m.getD j false)):=by
 rw [World.ownsRow.cellAt h j (by omega),List.getElem?_map,Qk,Qv hj];rfl
theorem URow.frozen(h:URow base w g l)(j:Nat):w.frozen? ⟨g,j,none⟩=false:=World.ownsRow.frozenAt h j
theorem FlRow.frozen(h:FlRow base w g m)(j:Nat):w.frozen? ⟨g,j,none⟩=false:=World.ownsRow.frozenAt h j
theorem URow.lt(h:URow base w g l):base<=g/\g < w.heap.size:=World.ownsRow.lt h g rfl
theorem FlRow.lt(h:FlRow base w g m):base<=g/\g < w.heap.size:=World.ownsRow.lt h g rfl
theorem URow.set(h:URow base w g l)(j s:Nat):URow base (w.setCell ⟨g,j,none⟩ (.int .u64 (s:Int))) g (l.set j s)/\w.grownBy (w.setCell ⟨g,j,none⟩ (.int .u64 (s:Int))) (some g):=by
 obtain⟨h1,h2⟩:=World.ownsRow.stored h j (.int .u64 (s:Int));refine⟨?_,h2⟩;unfold URow uV;unfold uV at h1;rw [List.length_set,List.map_set];exact h1
theorem FlRow.set(h:FlRow base w g m)(j:Nat)(b:Bool):FlRow base (w.setCell ⟨g,j,none⟩ (.bool b)) g (m.set j b)/\w.grownBy (w.setCell ⟨g,j,none⟩ (.bool b)) (some g):=by
 obtain⟨h1,h2⟩:=World.ownsRow.stored h j (.bool b);refine⟨?_,h2⟩;unfold FlRow;rw [List.length_set,<-List.map_set]at *;exact h1
theorem URow.ext(h:URow base w g l)(he:Ext w w'):URow base w' g l:=row_ext h he
theorem FlRow.ext(h:FlRow base w g m)(he:Ext w w'):FlRow base w' g m:=row_ext h he
theorem URow.kept {r:Nat}(h:URow base w g l)(hg:w.grownBy w' (some r))(hr:r≠g):URow base w' g l:=World.ownsRow.kept h hg (.inr fun e=>hr (by injection e with e;exact e.symm))
theorem FlRow.kept {r:Nat}(h:FlRow base w g m)(hg:w.grownBy w' (some r))(hr:r≠g):FlRow base w' g m:=World.ownsRow.kept h hg (.inr fun e=>hr (by injection e with e;exact e.symm))
theorem URow.u64s(h:URow base w g l):U64s w (.slice (some ⟨g,0,none⟩) l.length l.length) l:=MadeU.u64s h
end
theorem tInfoBo:(Tryz.prog.info? 4).map (fun i=>(i.zero,i.size,i.bytes))=some (some (.bool false),1,1):=by kernel_rfl
theorem made_zeros(n:Nat):(madeCells (Value.cells (.int .u64 0)) (n*1)).toList=uV (List.replicate n 0):=by
 unfold uV;simp only [madeCells,Value.cells,Nat.mul_one,Array.toList_map,Array.toList_range,List.map_replicate];refine List.ext_getElem (by simp) fun i h1 h2=> ?_
 simp [Nat.mod_one]
theorem made_falses(n:Nat):(madeCells (Value.cells (.bool false)) (n*1)).toList=(List.replicate n false).map Value.bool:=by
 simp only [madeCells,Value.cells,Nat.mul_one,Array.toList_map,Array.toList_range,List.map_replicate];refine List.ext_getElem (by simp) fun i h1 h2=> ?_
 simp [Nat.mod_one]
theorem made_zeros'(n:Nat):(madeCells #[.int .u64 0] n).toList=uV (List.replicate n 0):=by
 have:=made_zeros n;rw [Nat.mul_one]at this;exact this
theorem made_falses'(n:Nat):(madeCells #[.bool false] n).toList=(List.replicate n false).map Value.bool:=by
 have:=made_falses n;rw [Nat.mul_one]at this;exact this
def bitR(l:List Nat)(n:Nat)(u v:Fin n):Prop:=(l.getD u.1 0).testBit v.1=true
def kmOf(md:Md):KM where
 W:=Fin md.n.toNat
 R:=fun a u v=>if 0<=a/\a < md.rel.length then bitR (md.rel.getD a.toNat []) md.n.toNat u v else u=v
 V:=fun p w=>(md.val.getD p.toNat 0).testBit w.1=true
theorem eq_frm(lg:Int) {W:Type} :Frm lg (fun u v:W=>u=v) where
 ser:=fun _ w=>⟨w,rfl⟩
 refl:=fun _ _=>rfl
 trans:=fun _ _ _ _ h1 h2=>h1.trans h2
 eucl:=fun _ _ _ _ h1 h2=>h1.symm.trans h2
theorem word_pos {s n:Nat}(h:s < 2^n)(h0:s≠0):∃i,i < n/\s.testBit i=true:=by
 obtain⟨i,hi⟩:=Nat.exists_testBit_of_ne_zero h0;exact⟨i,bit_lt h hi,hi⟩
theorem closedT {l:List Nat}(h:closedG false l) {w u v:Nat}(hw:w < l.length)(hu:u < l.length)(h1:(l.getD w 0).testBit u=true)(h2:(l.getD u 0).testBit v=true):(l.getD w 0).testBit v=true:=by
 exact subS_iff.1 (h w u hw hu h1) v h2
theorem closedE {l:List Nat}(h:closedG true l) {w u v:Nat}(hw:w < l.length)(hu:u < l.length)(h1:(l.getD w 0).testBit u=true)(h2:(l.getD w 0).testBit v=true):(l.getD u 0).testBit v=true:=by
 exact subS_iff.1 (h w u hw hu h1) v h2
theorem good_frm {l:List Nat} {n:Nat} {lg:Int}(hl:l.length=n)(hv:valid02 l=true)(hg:goodR lg l)(hr:0<=lg/\lg<=6):Frm lg (bitR l n):=by
 have hlt:∀i,i < n->l.getD i 0 < 2^n:=fun i hi=>(GrwI.start (eu:=true) hl (by rw [<-hl];exact(valid_iff.1 hv).2)).lt i hi
 unfold goodR propsL at hg;refine⟨fun h w=> ?_,fun h w=> ?_,fun h u v w h1 h2=> ?_,fun h u v w h1 h2=> ?_⟩
 ·have h1:propP 1 l:=hg 1 (by rcases h with rfl|rfl <;> simp);obtain⟨i,hi,hb⟩:=word_pos (hlt w.1 w.2) (h1 w.1 (by rw [hl];exact w.2));exact⟨⟨i,hi⟩,hb⟩
 ·have h1:propP 2 l:=hg 2 (by rcases h with rfl|rfl|rfl <;> simp);exact h1 w.1 (by rw [hl];exact w.2)
 ·have h3:propP 4 l:=hg 4 (by
   have:lg=3\/lg=4\/lg=5\/lg=6:=by omega
   rcases this with rfl|rfl|rfl|rfl <;> simp)
  exact closedT h3 (by rw [hl];exact u.2) (by rw [hl];exact v.2) h1 h2
 have h3:propP 5 l:=hg 5 (by rcases h with rfl|rfl <;> simp);exact closedE h3 (by rw [hl];exact u.2) (by rw [hl];exact v.2) h1 h2
theorem kmOf_in {md:Md} {lg:Int}(h:GoodM md lg):(kmOf md).In lg:=by
 intro a;show Frm lg (fun u v=>if 0<=a/\a < md.rel.length then bitR (md.rel.getD a.toNat []) md.n.toNat u v else u=v);by_cases ha:0<=a/\a < md.rel.length
 ·simp only [if_pos ha];have hm:md.rel.getD a.toNat []∈md.rel:=by
   rw [Qk,List.getElem?_eq_getElem (by omega)];exact List.getElem_mem _
  obtain⟨hv,_⟩:=rel_valid h.ck hm;have hl:=(checkM_zero h.ck).2.2.2.2.1 _ hm;exact good_frm (by omega) hv (h.rel _ hm) h.lgr
 simp only [if_neg ha];exact eq_frm lg
theorem box_bit(r:List Nat)(n s i:Nat):(boxN r n s).testBit i=true↔i < n/\∀v,(r.getD i 0).testBit v=true->s.testBit v=true:=by
 unfold boxN;rw [mask_bit,Bool.and_eq_true,decide_eq_true_iff,subS_iff]
theorem dia_bit(r:List Nat)(n s i:Nat)(h:∀v,(r.getD i 0).testBit v=true->v < n):
 (difN (allW n) (boxN r n (difN (allW n) s))).testBit i=true↔i < n/\∃v,(r.getD i 0).testBit v=true/\s.testBit v=true:=by
 rw [dif_bit,Bool.and_eq_true,allw_bit,decide_eq_true_iff];constructor
 ·rintro⟨hi,hb⟩;refine⟨hi,Classical.byContradiction fun hn=> ?_⟩;have:(boxN r n (difN (allW n) s)).testBit i=true:=(box_bit ..).2 ⟨hi,fun v hv=>by
   rw [dif_bit,allw_bit,Bool.and_eq_true,decide_eq_true_iff];refine⟨h v hv,?_⟩;cases hs:s.testBit v
   ·rfl
   exact absurd ⟨v,hv,hs⟩ hn⟩
  rw [this]at hb;cases hb
 rintro⟨hi,v,hv,hs⟩;refine⟨hi,?_⟩;cases hb:(boxN r n (difN (allW n) s)).testBit i
 ·rfl
 have h2:=((box_bit ..).1 hb).2 v hv;rw [dif_bit,hs,Bool.not_true,Bool.and_false]at h2;cases h2
theorem grp_fold(rl:List (List Nat))(gn i v:Nat):∀(k s:Nat),(((List.range k).foldl (grpS rl gn false i) s).testBit v=true↔s.testBit v=true\/∃a,a < k/\gn.testBit a=true/\((rl.getD a []).getD i 0).testBit v=true)
 |0,s=>by simp
 |k+1,s=>by
  rw [fold_snoc];have ih:=grp_fold rl gn i v k s;unfold grpS;cases hg:gn.testBit k
  ·rw [if_neg (by simp)];rw [show(List.foldl (fun s a=>if gn.testBit a=true then if false=true then s&&&(rl.getD a []).getD i 0 else s|||(rl.getD a []).getD i 0 else s) s (List.range k))=(List.range k).foldl (grpS rl gn false i) s from rfl,ih];refine or_congr Iff.rfl ⟨fun⟨a,h1,h2,h3⟩=>⟨a,by omega,h2,h3⟩,fun⟨a,h1,h2,h3⟩=>⟨a,?_,h2,h3⟩⟩;have:a≠k:=fun e=>by rw [e,hg]at h2;cases h2
   omega
  rw [if_pos rfl,if_neg (by simp),Nat.testBit_or,Bool.or_eq_true];rw [show(List.foldl (fun s a=>if gn.testBit a=true then if false=true then s&&&(rl.getD a []).getD i 0 else s|||(rl.getD a []).getD i 0 else s) s (List.range k))=(List.range k).foldl (grpS rl gn false i) s from rfl,ih];constructor
  ·rintro((h|⟨a,h1,h2,h3⟩)|h)
   ·exact Or.inl h
   ·exact Or.inr ⟨a,by omega,h2,h3⟩
   exact Or.inr ⟨k,by omega,hg,h⟩
  rintro(h|⟨a,h1,h2,h3⟩)
  ·exact Or.inl (Or.inl h)
  by_cases e:a=k
  ·exact Or.inr (by rw [<-e];exact h3)
  exact Or.inl (Or.inr ⟨a,by omega,h2,h3⟩)
theorem grp_bit(rl:List (List Nat))(gn n i v:Nat):(grpN rl gn false n i).testBit v=true↔∃a,a < rl.length/\gn.testBit a=true/\((rl.getD a []).getD i 0).testBit v=true:=by
 unfold grpN;rw [grp_fold];simp
theorem grp_get(rl:List (List Nat))(gn n i:Nat)(b:Bool)(hi:i < n):((List.range n).map (grpN rl gn b n)).getD i 0=grpN rl gn b n i:=by
 rw [Qk,List.getElem?_map,List.getElem?_range hi];rfl
def stpW(r:List Nat)(c:Nat)(u v:Nat):Prop:=(r.getD u 0).testBit v=true/\c.testBit v=true
theorem rch_snoc {α:Type} {r:α->α->Prop} {a b c:α}(h:Rch r a b)(hc:r b c):Rch r a c:=by
 induction h with
 |one h=>exact .cons h (.one hc)
 |cons h _ ih=>exact .cons h (ih hc)
theorem first_bit(r:List Nat)(c a v:Nat):(r.getD a 0&&&c).testBit v=true↔stpW r c a v:=by
 rw [Nat.testBit_and,Bool.and_eq_true];rfl
theorem step_sound {r:List Nat} {c a s:Nat}(h:∀v,s.testBit v=true->Rch (stpW r c) a v)(u:Nat):∀v,(stepP r c s u).testBit v=true->Rch (stpW r c) a v:=by
 intro v hv;unfold stepP at hv;cases hu:s.testBit u
 ·rw [if_neg (by rw [hu];simp)]at hv;exact h v hv
 rw [if_pos hu,Nat.testBit_or,Bool.or_eq_true]at hv;rcases hv with hv|hv
 ·exact h v hv
 exact rch_snoc (h u hu) ((first_bit ..).1 hv)
theorem pass_sound {r:List Nat} {c a:Nat} :∀(n s:Nat),(∀v,s.testBit v=true->Rch (stpW r c) a v)->∀v,(passP r c n s).testBit v=true->Rch (stpW r c) a v
 |0,s,h=>h
 |n+1,s,h=>by
  unfold passP;rw [fold_snoc];exact step_sound (pass_sound n s h) n
theorem paths_fold {r:List Nat} {c a n:Nat} :∀(k:Nat),∀v,((List.range k).foldl (fun s _=>passP r c n s) (r.getD a 0&&&c)).testBit v=true->Rch (stpW r c) a v
 |0=>fun v hv=> .one ((first_bit ..).1 hv)
 |k+1=>by
  rw [fold_snoc];exact pass_sound n _ (paths_fold k)
theorem paths_sound {r:List Nat} {c n a v:Nat}(h:(pathsN r c n a).testBit v=true):Rch (stpW r c) a v:=paths_fold n v h
theorem step_grow {r:List Nat} {c s u v:Nat}(h:s.testBit v=true):(stepP r c s u).testBit v=true:=by
 unfold stepP
 split
 ·rw [Nat.testBit_or,h,Bool.true_or]
 exact h
theorem step_hits {r:List Nat} {c s u v:Nat}(h:s.testBit u=true)(hst:stpW r c u v):(stepP r c s u).testBit v=true:=by
 unfold stepP;rw [if_pos h,Nat.testBit_or,(first_bit r c u v).2 hst,Bool.or_true]
theorem pass_grow {r:List Nat} {c v:Nat} :∀(n s:Nat),s.testBit v=true->(passP r c n s).testBit v=true
 |0,_,h=>h
 |n+1,s,h=>by
  unfold passP;rw [fold_snoc];exact step_grow (pass_grow n s h)
theorem pass_hits {r:List Nat} {c s u v:Nat}(hs:s.testBit u=true)(hst:stpW r c u v):∀(n:Nat),u < n->(passP r c n s).testBit v=true
 |0,h=>absurd h (by omega)
 |n+1,h=>by
  unfold passP;rw [fold_snoc];by_cases e:u=n
  ·subst e;have h1:(passP r c u s).testBit u=true:=pass_grow u s hs;unfold passP at h1;exact step_hits h1 hst
  exact step_grow (pass_hits hs hst n (by omega))
def clsW(r:List Nat)(c s:Nat):Prop:=∀u v,s.testBit u=true->stpW r c u v->s.testBit v=true
theorem step_still {r:List Nat} {c s u:Nat}(h:clsW r c s):stepP r c s u=s:=by
 unfold stepP
 split
 ·rename_i hu;refine Nat.eq_of_testBit_eq fun v=> ?_
  rw [Nat.testBit_or];cases hb:(r.getD u 0&&&c).testBit v
  ·rw [Bool.or_false]
  rw [h u v hu ((first_bit ..).1 hb)];rfl
 rfl
theorem pass_still {r:List Nat} {c s:Nat}(h:clsW r c s):∀n,passP r c n s=s
 |0=>rfl
 |n+1=>by
  unfold passP;rw [fold_snoc];have ih:=pass_still h n;unfold passP at ih;rw [ih,step_still h]
def zerW(n s:Nat):Nat:=(List.range n).countP fun i=> !s.testBit i
theorem pass_less {r:List Nat} {c n s:Nat}(hb:∀u v,(r.getD u 0).testBit v=true->u < n/\v < n)(h:¬clsW r c s):zerW n (passP r c n s) < zerW n s:=by
 obtain⟨u,v,h1,h2,h3⟩:∃u v,s.testBit u=true/\stpW r c u v/\s.testBit v=false:=Classical.byContradiction fun hn=>h fun u v h1 h2=>by
  cases h3:s.testBit v
  ·exact absurd ⟨u,v,h1,h2,h3⟩ hn
  rfl
 obtain⟨hu,hv⟩:=hb u v h2.1;unfold zerW;refine countP_ltG (fun i _ hq=> ?_) ⟨v,List.mem_range.2 hv,by rw [h3];rfl,by rw [pass_hits h1 h2 n hu];rfl⟩;cases hi:s.testBit i
 ·rfl
 rw [pass_grow n s hi]at hq;cases hq
theorem zer_le(n s:Nat):zerW n s<=n:=by
 have:=List.countP_le_length (p:=fun i=> !s.testBit i) (l:=List.range n);rw [List.length_range]at this;exact this
theorem zer_full {r:List Nat} {c n s:Nat}(hb:∀u v,(r.getD u 0).testBit v=true->u < n/\v < n)(h:zerW n s=0):clsW r c s:=by
 intro u v _ h2;unfold zerW at h;rw [List.countP_eq_zero]at h;have:=h v (List.mem_range.2 (hb u v h2.1).2)
 simpa using this
theorem paths_cls {r:List Nat} {c n a:Nat}(hb:∀u v,(r.getD u 0).testBit v=true->u < n/\v < n):∀k,clsW r c ((List.range k).foldl (fun s _=>passP r c n s) (r.getD a 0&&&c))\/zerW n ((List.range k).foldl (fun s _=>passP r c n s) (r.getD a 0&&&c))+k<=n
 |0=>Or.inr (zer_le _ _)
 |k+1=>by
  rw [fold_snoc];rcases paths_cls hb k with h|h
  ·exact Or.inl (by rw [pass_still h];exact h)
  by_cases hc:clsW r c ((List.range k).foldl (fun s _=>passP r c n s) (r.getD a 0&&&c))
  ·exact Or.inl (by rw [pass_still hc];exact hc)
  have:=pass_less hb hc;exact Or.inr (by omega)
theorem start_in {r:List Nat} {c n a v:Nat}(h:stpW r c a v):∀k,((List.range k).foldl (fun s _=>passP r c n s) (r.getD a 0&&&c)).testBit v=true
 |0=>(first_bit ..).2 h
 |k+1=>by
  rw [fold_snoc];exact pass_grow n _ (start_in h k)
theorem rch_in {r:List Nat} {c s:Nat}(hc:clsW r c s) {a v:Nat}(h:Rch (stpW r c) a v):(∀u,stpW r c a u->s.testBit u=true)->s.testBit v=true:=by
 induction h with
 |one h=>exact fun hs=>hs _ h
 |cons h _ ih=>exact fun hs=>ih fun u hu=>hc _ u (hs _ h) hu
theorem paths_bit {r:List Nat} {c n a v:Nat}(hb:∀u v,(r.getD u 0).testBit v=true->u < n/\v < n):(pathsN r c n a).testBit v=true↔Rch (stpW r c) a v:=by
 refine⟨paths_sound,fun h=> ?_⟩;have hc:clsW r c (pathsN r c n a):=by
  rcases paths_cls (a:=a) (c:=c) hb n with h|h
  ·exact h
  exact zer_full hb (by unfold pathsN;omega)
 exact rch_in hc h fun u hu=>start_in hu n
theorem rows_low {r:List Nat} {n:Nat}(hl:r.length=n)(hb:beyondN r n=false):∀u v,(r.getD u 0).testBit v=true->u < n/\v < n:=fun u v h=>by
 by_cases hu:u < r.length
 ·have hm:r.getD u 0∈r:=by rw [Qk,Qv hu];exact List.getElem_mem hu
  have h2:=List.any_eq_false.1 hb _ hm;simp only [Bool.not_eq_true',decide_eq_false_iff_not,Nat.not_lt,Nat.not_le]at h2;exact⟨by omega,bit_lt h2 h⟩
 rw [Qk,List.getElem?_eq_none (by omega)]at h;simp at h
def gfF(r:List Nat)(n c s out:Nat):Nat:=boxN r n (difN (allW n) c|||(s&&&out))
theorem gfF_bit {r:List Nat} {n c s out i:Nat}(hb:∀u v,(r.getD u 0).testBit v=true->u < n/\v < n):
 (gfF r n c s out).testBit i=true↔i < n/\∀v,(r.getD i 0).testBit v=true->c.testBit v=true->s.testBit v=true/\out.testBit v=true:=by
 unfold gfF;rw [box_bit];refine and_congr_right fun _=>forall_congr' fun v=> ?_
 refine⟨fun h h1 h2=> ?_,fun h h1=> ?_⟩
 ·have:=h h1;rw [Nat.testBit_or,dif_bit,Nat.testBit_and,h2,Bool.not_true,Bool.and_false,Bool.false_or,Bool.and_eq_true]at this;exact this
 rw [Nat.testBit_or,dif_bit,Nat.testBit_and,allw_bit];cases hc:c.testBit v
 ·simp [(hb i v h1).2]
 obtain⟨h3,h4⟩:=h h1 hc;simp [h3,h4]
theorem commonM_bit {r:List Nat} {n c s i:Nat}(hb:∀u v,(r.getD u 0).testBit v=true->u < n/\v < n):
 (commonM r n c s).testBit i=true↔i < n/\∀v,Rch (stpW r c) i v->s.testBit v=true:=by
 unfold commonM;rw [mask_bit,Bool.and_eq_true,decide_eq_true_eq,subS_iff];exact and_congr_right fun _=>forall_congr' fun v=>by rw [paths_bit hb]
theorem common_start {r:List Nat} {n c s:Nat}(hb:∀u v,(r.getD u 0).testBit v=true->u < n/\v < n):∀i,(commonM r n c s).testBit i=true->(allW n).testBit i=true:=fun i h=>by
 rw [allw_bit];exact decide_eq_true ((commonM_bit hb).1 h).1
theorem common_below {r:List Nat} {n c s out:Nat}(hb:∀u v,(r.getD u 0).testBit v=true->u < n/\v < n)(h:∀i,(commonM r n c s).testBit i=true->out.testBit i=true):
 ∀i,(commonM r n c s).testBit i=true->(gfF r n c s out).testBit i=true:=fun i hi=>by
 obtain⟨h1,h2⟩:=(commonM_bit hb).1 hi;exact(gfF_bit hb).2 ⟨h1,fun v hv hc=>⟨h2 v (.one ⟨hv,hc⟩),h v ((commonM_bit hb).2 ⟨(hb i v hv).2,fun z hz=>h2 z (.cons ⟨hv,hc⟩ hz)⟩)⟩⟩
theorem gf_start {r:List Nat} {n c s:Nat}(hb:∀u v,(r.getD u 0).testBit v=true->u < n/\v < n):∀i,(gfF r n c s (allW n)).testBit i=true->(allW n).testBit i=true:=fun i h=>by
 rw [allw_bit];exact decide_eq_true ((gfF_bit hb).1 h).1
theorem gf_dec {r:List Nat} {n c s out:Nat}(hb:∀u v,(r.getD u 0).testBit v=true->u < n/\v < n)(h:∀i,(gfF r n c s out).testBit i=true->out.testBit i=true):
 ∀i,(gfF r n c s (gfF r n c s out)).testBit i=true->(gfF r n c s out).testBit i=true:=fun i hi=>by
 obtain⟨h1,h2⟩:=(gfF_bit hb).1 hi;exact(gfF_bit hb).2 ⟨h1,fun v hv hc=>⟨(h2 v hv hc).1,h v (h2 v hv hc).2⟩⟩
theorem common_fix {r:List Nat} {n c s out:Nat}(hb:∀u v,(r.getD u 0).testBit v=true->u < n/\v < n)(h:gfF r n c s out=out)(hi:∀i,(commonM r n c s).testBit i=true->out.testBit i=true):out=commonM r n c s:=by
 have hp:∀u v,Rch (stpW r c) u v->out.testBit u=true->s.testBit v=true:=fun u v hr=>by
  induction hr with
  |one hst=>intro ho;rw [<-h]at ho;exact(((gfF_bit hb).1 ho).2 _ hst.1 hst.2).1
  |cons hst _ ih=>intro ho;rw [<-h]at ho;exact ih (((gfF_bit hb).1 ho).2 _ hst.1 hst.2).2
 refine Nat.eq_of_testBit_eq fun i=> ?_
 rw [Bool.eq_iff_iff];refine⟨fun ho=>(commonM_bit hb).2 ⟨?_,fun v hv=>hp i v hv ho⟩,hi i⟩;have ho2:=ho;rw [<-h]at ho2;exact((gfF_bit hb).1 ho2).1
theorem sub_lt {a b:Nat}(h:∀i,a.testBit i=true->b.testBit i=true)(hne:a≠b):a < b:=by
 have e:a&&&b=a:=by
  refine Nat.eq_of_testBit_eq fun i=> ?_
  rw [Nat.testBit_and];cases ha:a.testBit i
  ·rfl
  rw [h i ha];rfl
 have:a<=b:=by rw [<-e];exact Nat.and_le_right
 omega
end Go.Proofs.YtmidgcldljfkcaaGreatDoor
