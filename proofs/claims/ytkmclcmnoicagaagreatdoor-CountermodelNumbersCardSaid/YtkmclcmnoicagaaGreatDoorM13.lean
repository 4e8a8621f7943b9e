/- models of Kripke: the plain part of the walks of checkers (split off by splitpl.py): masks, relations, groups, what is checked, what fits, what holds. -/
import Derived.Test.YtkmclcmnoicagaaGreatDoorM01
import Derived.Test.YtkmclcmnoicagaaGreatDoorM10
import Derived.Test.YtkmclcmnoicagaaGreatDoorM08
import Derived.Test.YtkmclcmnoicagaaGreatDoorM09
namespace Go.Proofs.YtkmclcmnoicagaaGreatDoor
set_option maxRecDepth 100000
set_option maxHeartbeats 128000000
open Go.RowKit
theorem Qm6 {a b:List Nat}(hl:a.length=b.length)(h:∀k,k < a.length->a.getD k 0=b.getD k 0):a=b:=by
 refine List.ext_getElem hl fun i h1 h2=> ?_
 have:=h i h1;rw [Qk,Qk,Qv h1,Qv h2]at this;exact this
def Zj1(l:List Nat)(k:Nat):List Nat:=(List.range l.length).map fun i=>if i < k then l.getD i 0|||2^i else l.getD i 0
def Qgt(l:List Nat):Prop:=∀i,i < l.length->(l.getD i 0).testBit i=true
def Zj(md:Md):Int :=
 if md.n < 1\/64 < md.n then 2 else if 4 < md.rel.length\/8 < md.val.length then 8
 else if md.rel.any (fun r=> !decide ((r.length:Int)=md.n))then 3
 else if Zi md.val md.n.toNat then 2 else if md.rel.any (fun r=>Zi r md.n.toNat)then 2 else 0
theorem Qph {P:List Nat->Bool} {l:List (List Nat)} {k:Nat}(hk:k < l.length)(h:P (l.getD k [])=true):l.any P=true:=by
 rw [List.any_eq_true];exact⟨l[k],List.getElem_mem hk,by rw [Qk,Qv hk]at h;exact h⟩
theorem Qts {P:List Nat->Bool} {l:List (List Nat)}(h:∀k,k < l.length->P (l.getD k [])=false):l.any P=false:=by
 rw [List.any_eq_false];intro s hs;obtain⟨k,hk,e⟩:=List.getElem_of_mem hs;have:=h k hk;rw [Qk,Qv hk]at this;have h2:P l[k]=false:=this;rw [e]at h2;rw [h2];simp
def Ns(q:Int)(l:List Nat):Prop :=
 if q=1 then ∀i,i < l.length->l.getD i 0≠0 else if q=2 then Qgt l else if q=4 then Gl false l else Gl true l
def Uh(lg:Int):List Int:=if lg=0 then []else if lg=1 then [1]else if lg=2 then [2]else if lg=3 then [4]else if lg=4 then [2,4]else if lg=5 then [1,4,5]else [2,4,5]
def p15(lg:Int):Int:=if 0<=lg/\lg<=6 then 0 else 1
theorem Qxd {lg q:Int}(h:q∈Uh lg):q=1\/q=2\/q=4\/q=5:=by
 unfold Uh at h
 repeat' split at h
 all_goals(simp at h;try omega)
def Wj(lg:Int)(l:List Nat):Prop:=∀q∈Uh lg,Ns q l
structure Nk (md:Md) (lg:Int):Prop where
 lgr:0<=lg/\lg<=6
 ck:Zj md=0
 rel:∀r∈md.rel,Wj lg r
theorem Zv {md:Md}(h:Zj md=0):1<=md.n/\md.n<=64/\md.rel.length<=4/\md.val.length<=8/\(∀r∈md.rel,(r.length:Int)=md.n)/\Zi md.val md.n.toNat=false/\∀r∈md.rel,Zi r md.n.toNat=false:=by
 unfold Zj at h;by_cases h1:md.n < 1\/64 < md.n
 ·rw [if_pos h1]at h;cases h
 rw [if_neg h1]at h;by_cases h2:4 < md.rel.length\/8 < md.val.length
 ·rw [if_pos h2]at h;cases h
 rw [if_neg h2]at h;cases h3:md.rel.any (fun r=> !decide ((r.length:Int)=md.n))
 ·rw [h3]at h;cases h4:Zi md.val md.n.toNat
  ·rw [h4]at h;cases h5:md.rel.any (fun r=>Zi r md.n.toNat)
   ·rw [List.any_eq_false]at h3 h5;exact⟨by omega,by omega,by omega,by omega,fun r hr=>by simpa using h3 r hr,rfl,fun r hr=>by simpa using h5 r hr⟩
   rw [h5]at h;cases h
  rw [h4]at h;cases h
 rw [h3]at h;cases h
theorem Qxs {md:Md}(h:Zj md=0) {r:List Nat}(hr:r∈md.rel):Re r=true/\0 < r.length:=by
 obtain⟨h1,h2,_,_,h3,_,h4⟩:=Zv h;have h5:=h3 r hr;have h6:=h4 r hr;have e:md.n.toNat=r.length:=by omega
 rw [e]at h6;exact⟨Rw.2 ⟨by omega,h6⟩,by omega⟩
theorem Qyd {k:Nat}(h:k < 64):Qw (2^k):=by
 show 2^k < 18446744073709551616;rw [show(18446744073709551616:Nat)=2^64 from rfl];exact Nat.pow_lt_pow_right (by decide) h
theorem Qvn {s k:Nat}(hs:Qw s)(hk:k < 64):bits .or .u64 (s:Int) (IntKind.u64.wrap ((2:Int)^k))=((s|||2^k:Nat):Int):=by
 rw [Ov hk];exact Bk hs (Qyd hk)
theorem Qdv {a b:Nat}(ha:Qw a)(hb:Qw b):(bits .andNot .u64 (a:Int) (b:Int)==0)=Ym a b:=by
 rw [Vi ha hb,<-Tq,Bool.eq_iff_iff,beq_iff_eq,beq_iff_eq];omega
def Sf(op:Int)(x y al:Nat):Nat :=
 if op=1 then al else if op=4 then Jz al x else if op=5 then x&&&y else if op=6 then x|||y else if op=7 then Jz al x|||y else if op=8 then Jz al (x^^^y)else 0
theorem Qjy {a b:Nat}(ha:Qw a):Qw (a&&&b):=Nat.lt_of_le_of_lt Nat.and_le_left ha
theorem Qn0 {a b:Nat}(ha:Qw a)(hb:Qw b):Qw (a|||b):=Nat.or_lt_two_pow (n:=64) ha hb
theorem Qb1 {a b:Nat}(ha:Qw a)(hb:Qw b):Qw (a^^^b):=Nat.xor_lt_two_pow (n:=64) ha hb
def Kr(r:List Nat)(n s:Nat):Nat:=Kk n fun i=>Ym (r.getD i 0) s
def Mm(r:List Nat)(c s v:Nat):Nat:=if s.testBit v then s|||(r.getD v 0&&&c)else s
def Ut(r:List Nat)(c n s:Nat):Nat:=(List.range n).foldl (Mm r c) s
def Io(r:List Nat)(c n a:Nat):Nat:=(List.range n).foldl (fun s _=>Ut r c n s) (r.getD a 0&&&c)
theorem Kb {f:Nat->Nat->Nat}(k s:Nat):(List.range (k+1)).foldl f s=f ((List.range k).foldl f s) k:=by
 rw [List.range_succ,List.foldl_append];rfl
theorem Qln {f:Nat->Nat->Nat}(hf:∀s v,Qw s->Qw (f s v))(k s:Nat)(hs:Qw s):Qw ((List.range k).foldl f s):=by
 induction k with
 |zero=>exact hs
 |succ k ih=>rw [Kb];exact hf _ _ ih
def Gm(r:List Nat)(n c s:Nat):Nat:=Kk n fun i=>Ym (Io r c n i) s
def Fa(rl:List (List Nat))(gn:Nat)(meet:Bool)(i s a:Nat):Nat:=if gn.testBit a then(if meet then s&&&(rl.getD a []).getD i 0 else s|||(rl.getD a []).getD i 0)else s
def Vw(rl:List (List Nat))(gn:Nat)(meet:Bool)(n i:Nat):Nat:=(List.range rl.length).foldl (Fa rl gn meet i) (if meet then Zx n else 0)
theorem Qlm {rl:List (List Nat)}(hw:∀r∈rl,∀s∈r,Qw s) {gn i s a:Nat} {meet:Bool}(hs:Qw s):Qw (Fa rl gn meet i s a):=by
 unfold Fa;have h1:Qw ((rl.getD a []).getD i 0):=Rg (Qsj hw a) i
 split
 ·split
  ·exact Qjy hs
  exact Qn0 hs h1
 exact hs
theorem Qve {k gn:Nat}(hk:k<=4)(hg:gn < 2^k):¬wrap64 ((2:Int)^k)<=(gn:Int):=by
 have hc:k=0\/k=1\/k=2\/k=3\/k=4:=by omega
 rcases hc with rfl|rfl|rfl|rfl|rfl <;>(unfold wrap64;simp at hg⊢;omega)
theorem Gg {n:Nd}(h:Zp n)(ho:Zz n.op=true):0<=n.i/\n.i < 4:=by
 obtain⟨_,_,h3,_,_⟩:=h;unfold Yb at h3;simp only [Jy,ho,Bool.or_eq_false_iff]at h3;simp at h3;omega
theorem Dx {n:Nd}(h:Zp n)(ho:n.op=3):0<=n.i/\n.i < 8:=by
 obtain⟨_,_,h3,_,_⟩:=h;unfold Yb at h3;rw [ho]at h3;simp [Jy,Zm,Zz,Zn,Zg]at h3;omega
theorem Fe {n:Nd}(h:Zp n):0<=n.g/\n.g < 16:=by
 obtain⟨_,h2,h3,_,_⟩:=h;cases hg:Zg n.op
 ·unfold Ji at h2;simp only [hg,Bool.or_eq_false_iff]at h2;simp at h2;omega
 unfold Yb at h3;simp only [Jy,hg,Bool.or_eq_false_iff]at h3;simp at h3;omega
def agS(s:Nat)(n:Nd):Nat:=(s|||(if Zz n.op then 2^n.i.toNat else 0))|||n.g.toNat
def faS(s:Nat)(n:Nd):Nat:=if n.op=3 then s|||2^n.i.toNat else s
def Je(l:List Nd):Nat:=l.foldl agS 0
def Yl(l:List Nd):Nat:=l.foldl faS 0
theorem Qo6 {s:Nat} {n:Nd}(h:Zp n)(hs:s < 2^4):agS s n < 2^4:=by
 unfold agS;have h1:=Fe h;refine Nat.or_lt_two_pow (Nat.or_lt_two_pow hs ?_) (by omega)
 split
 ·rename_i ho;have:=Gg h ho;exact Nat.pow_lt_pow_right (by decide) (by omega)
 decide
theorem Qif {s:Nat} {n:Nd}(h:Zp n)(hs:s < 2^8):faS s n < 2^8:=by
 unfold faS
 split
 ·rename_i ho;have:=Dx h ho;exact Nat.or_lt_two_pow hs (Nat.pow_lt_pow_right (by decide) (by omega))
 exact hs
theorem Rq:∀(l:List Nd) (s:Nat),(∀n∈l,Zp n)->s < 2^4->l.foldl agS s < 2^4
 |[],_,_,hs=>hs
 |n :: l,_,h,hs=>Rq l _ (fun n hn=>h n (List.mem_cons_of_mem _ hn)) (Qo6 (h n (List.mem_cons_self ..)) hs)
theorem Tj:∀(l:List Nd) (s:Nat),(∀n∈l,Zp n)->s < 2^8->l.foldl faS s < 2^8
 |[],_,_,hs=>hs
 |n :: l,_,h,hs=>Tj l _ (fun n hn=>h n (List.mem_cons_of_mem _ hn)) (Qif (h n (List.mem_cons_self ..)) hs)
theorem Sh {k:Nat}(hk:k < 8):wrap64 ((2:Int)^k)=((2^k:Nat):Int):=by
 have hc:k=0\/k=1\/k=2\/k=3\/k=4\/k=5\/k=6\/k=7:=by omega
 rcases hc with rfl|rfl|rfl|rfl|rfl|rfl|rfl|rfl <;> decide+kernel
def Nm(a:Nat)(m i:Nat):Bool:= !m.testBit i||decide (i < a)
def Kf(f:List Nd)(a b:Nat):Bool:=check f==0&&((List.range 4).all (Nm a (Je (Qg f)))&&(List.range 8).all (Nm b (Yl (Qg f))))
theorem Qs5:(List.range 512).all (fun m=>((bits .andNot .i64 (m:Int) 15==0)==Ym m 15)&&((bits .andNot .i64 (m:Int) 15 !=0)== !Ym m 15))=true:=by kernel_rfl
theorem Qz6(f:List Nd):(bits .andNot .i64 ((Yn f:Nat):Int) 15==0)=Ym (Yn f) 15/\(bits .andNot .i64 ((Yn f:Nat):Int) 15 !=0)= !Ym (Yn f) 15:=by
 have h:=List.all_eq_true.1 Qs5 (Yn f) (List.mem_range.2 (Hr (Qg f)));rw [Bool.and_eq_true,beq_iff_eq,beq_iff_eq]at h;exact h
def Qy9(md:Md)(f:List Nd)(i:Int):Bool:=Ym (Yn (Yz f i)) 15&&Kf (Yz f i) md.rel.length md.val.length
def Yy(md:Md)(f:List Nd):Int :=
 if Zj md≠0 then Zj md else if check f≠0 then check f else if Ym (Yn f) 15=false then 10 else if Kf f md.rel.length md.val.length=false then 2 else 0
structure Qgb (md:Md) (n:Nd):Prop where
 head:Zp n
 op:n.op<=13
 fact:n.op=3->n.i < md.val.length
 agent:n.op=9\/n.op=10->n.i < md.rel.length
 group:11<=n.op->1<=n.g/\n.g.toNat < 2^md.rel.length
def Qyq(md:Md)(n:Nd)(x y:Nat):Nat :=
 if n.op=3 then md.val.getD n.i.toNat 0 else if n.op<=8 then Sf n.op x y (Zx md.n.toNat)
 else if n.op=9 then Kr (md.rel.getD n.i.toNat []) md.n.toNat x
 else if n.op=10 then Jz (Zx md.n.toNat) (Kr (md.rel.getD n.i.toNat []) md.n.toNat (Jz (Zx md.n.toNat) x))
 else if n.op=11 then Kr ((List.range md.n.toNat).map (Vw md.rel n.g.toNat false md.n.toNat)) md.n.toNat x
 else if n.op=12 then Kr ((List.range md.n.toNat).map (Vw md.rel n.g.toNat true md.n.toNat)) md.n.toNat x
 else Gm ((List.range md.n.toNat).map (Vw md.rel n.g.toNat false md.n.toNat)) md.n.toNat x y
def Zjs(md:Md)(f:List Nd)(out:List Nat)(k:Nat):Nat :=
 if Qy9 md f (k:Int)then Qyq md (f.getD k Nd.zero) (if Qe (f.getD k Nd.zero).op then out.getD (f.getD k Nd.zero).x.toNat 0 else 0) (if Qh (f.getD k Nd.zero).op then out.getD (f.getD k Nd.zero).y.toNat 0 else 0)else 0
def Qs4(md:Md)(f:List Nd):Nat->List Nat
 |0=> []
 |k+1=>Qs4 md f k++ [Zjs md f (Qs4 md f k) k]
theorem Ks {md:Md} {f:List Nd}(h:Yy md f=0):Zj md=0/\check f=0/\Ym (Yn f) 15=true/\Kf f md.rel.length md.val.length=true:=by
 unfold Yy at h;by_cases h1:Zj md≠0
 ·rw [if_pos h1]at h;exact absurd h h1
 rw [if_neg h1]at h;by_cases h2:check f≠0
 ·rw [if_pos h2]at h;exact absurd h h2
 rw [if_neg h2]at h;cases h3:Ym (Yn f) 15
 ·rw [if_pos h3]at h;cases h
 rw [if_neg (by rw [h3];simp)]at h;cases h4:Kf f md.rel.length md.val.length
 ·rw [if_pos h4]at h;cases h
 exact⟨Classical.not_not.1 h1,Classical.not_not.1 h2,rfl,rfl⟩
def Qsy(md:Md)(f:List Nd):Int:=if Yy md (Qg f)=0 then 0 else Yy md f
def Qil(md:Md)(f:List Nd):Nat:=if Yy md (Qg f)=0 then(Qs4 md (Qg f) (Qg f).length).getD ((Qg f).length - 1) 0 else 0
def atE(md:Md)(f:List Nd)(i:Int):Int:=if Qsy md f=0 then(if i < 0\/md.n<=i then 2 else 0)else Qsy md f
def Zj6(md:Md)(f:List Nd)(i:Int):Bool:=if Qsy md f=0 then(if i < 0\/md.n<=i then false else(Qil md f).testBit i.toNat)else false
theorem Ei:∀(l:List Nd) (s:Nat),(∀i,s.testBit i=true->(l.foldl (fun s n=>s|||(Vr n.op).toNat) s).testBit i=true)/\∀n∈l,∀i,(Vr n.op).toNat.testBit i=true->(l.foldl (fun s n=>s|||(Vr n.op).toNat) s).testBit i=true
 |[],_=>⟨fun _ h=>h,fun _ h=>by cases h⟩
 |a :: l,s=>by
  obtain⟨h1,h2⟩:=Ei l (s|||(Vr a.op).toNat);refine⟨fun i hi=>h1 i (by rw [Nat.testBit_or,hi];rfl),fun n hn i hi=> ?_⟩;rcases List.mem_cons.1 hn with rfl|hn
  ·exact h1 i (by rw [Nat.testBit_or,hi,Bool.or_true])
  exact h2 n hn i hi
theorem Qyc:∀(l:List Nd) (s:Nat),(∀i,s.testBit i=true->(l.foldl agS s).testBit i=true)/\∀n∈l,∀i,((Zz n.op=true/\i=n.i.toNat)\/n.g.toNat.testBit i=true)->(l.foldl agS s).testBit i=true
 |[],_=>⟨fun _ h=>h,fun _ h=>by cases h⟩
 |a :: l,s=>by
  obtain⟨h1,h2⟩:=Qyc l (agS s a);refine⟨fun i hi=>h1 i (by unfold agS;rw [Nat.testBit_or,Nat.testBit_or,hi];rfl),fun n hn i hi=> ?_⟩;rcases List.mem_cons.1 hn with rfl|hn
  ·refine h1 i ?_;unfold agS;rw [Nat.testBit_or,Nat.testBit_or];rcases hi with⟨ha,rfl⟩|hg
   ·rw [if_pos ha,Nat.testBit_two_pow];simp
   rw [hg,Bool.or_true]
  exact h2 n hn i hi
theorem Qy5:∀(l:List Nd) (s:Nat),(∀i,s.testBit i=true->(l.foldl faS s).testBit i=true)/\∀n∈l,∀i,(n.op=3/\i=n.i.toNat)->(l.foldl faS s).testBit i=true
 |[],_=>⟨fun _ h=>h,fun _ h=>by cases h⟩
 |a :: l,s=>by
  obtain⟨h1,h2⟩:=Qy5 l (faS s a)
  refine⟨fun i hi=>h1 i (by unfold faS;split;· rw [Nat.testBit_or,hi];rfl
                            ·exact hi),fun n hn i hi=> ?_⟩
  rcases List.mem_cons.1 hn with rfl|hn
  ·refine h1 i ?_;obtain⟨ho,rfl⟩:=hi;unfold faS;rw [if_pos ho,Nat.testBit_or,Nat.testBit_two_pow];simp
  exact h2 n hn i hi
theorem Nc {m n:Nd}(h:m.head=n.head):m.op=n.op/\m.i=n.i/\m.g=n.g:=by
 have h1:=congrArg Nd.op h;have h2:=congrArg Nd.i h;have h3:=congrArg Nd.g h;exact⟨h1,h2,h3⟩
theorem Qji {g k:Nat}(h:∀i,g.testBit i=true->i < k):g < 2^k:=by
 rcases Nat.lt_or_ge g (2^k)with h1|h1
 ·exact h1
 obtain⟨i,hi1,hi2⟩:=Nat.exists_ge_and_testBit_of_ge_two_pow h1;have:=h i hi2;omega
theorem Qlb {md:Md} {f:List Nd} {k:Nat} {n:Nd}(hc:check f=0)(hk:f[k]?=some n)(hf:Qy9 md f (k:Int)=true)(_hr4:md.rel.length<=4):Qgb md n:=by
 have hkl:=(List.getElem?_eq_some_iff.1 hk).1;have hh:=Dg hc n (List.mem_of_getElem? hk);unfold Qy9 at hf;rw [Bool.and_eq_true]at hf;obtain⟨h1,h2⟩:=hf;have hg:=(Qxp hc hkl).2.1;have ht:=Dm hc hkl;have htk:(tr f k).ok:=Qgl (Vy hc) k hkl;have hcc:Qg (Yz f (k:Int))=Qn (tr f k):=by
  rw [Gc hg,ht,Vc htk]
 obtain⟨m,hm,hmt,_⟩:=Is htk;have hmm:=List.mem_of_getElem? hm;have hmh:=Nc (Qmy ((Xv (Vy hc) hk).symm.trans hmt)).1;unfold Kf at h2;rw [Bool.and_eq_true,Bool.and_eq_true,List.all_eq_true,List.all_eq_true]at h2;rw [hcc]at h2;have hag:∀i,((Zz n.op=true/\i=n.i.toNat)\/n.g.toNat.testBit i=true)->i < 4->i < md.rel.length:=fun i hi hi4=>by
  have h3:=(Qyc (Qn (tr f k)) 0).2 m hmm i (by rw [<-hmh.1,<-hmh.2.1,<-hmh.2.2];exact hi);have h4:=h2.2.1 i (List.mem_range.2 hi4);unfold Nm Je at h4;rw [h3]at h4
  simpa using h4
 refine⟨hh,?_,fun ho=> ?_,fun ho=> ?_,fun ho=> ?_⟩
 ·have hop21:=(Tf n.op).1 hh.1;have hfr:Ym (Vr m.op).toNat 15=true:=by
   rw [Yd]at h1⊢;intro i hi;refine h1 i ?_;unfold Yn;rw [hcc];exact(Ei (Qn (tr f k)) 0).2 m hmm i hi
  rw [<-hmh.1]at hfr;rcases Ws n.op with h|h|h|h|h|h|h|h|h|h|h|h|h|h|h|h|h|h|h|h|h|h|h <;> first|omega|(rw [h]at hfr;exact absurd hfr (by decide))
 ·have hb:=Dx hh ho;have h3:=(Qy5 (Qn (tr f k)) 0).2 m hmm n.i.toNat ⟨by rw [<-hmh.1];exact ho,by rw [<-hmh.2.1]⟩;have h4:=h2.2.2 n.i.toNat (List.mem_range.2 (by omega));unfold Nm Yl at h4;rw [h3]at h4;have:n.i.toNat < md.val.length:=by simpa using h4
  omega
 ·have ha:Zz n.op=true:=by rcases ho with h|h <;>(rw [h];rfl)
  have hb:=Gg hh ha;have:=hag n.i.toNat (.inl ⟨ha,rfl⟩) (by omega);omega
 have hb:=Fe hh;have hop13:n.op<=21:=((Tf n.op).1 hh.1).2;refine⟨?_,Qji fun i hi=>hag i (.inr hi) (Ky (n:=4) (by omega) hi)⟩;obtain⟨_,h3,h4,_,_⟩:=hh;cases hgr:Zg n.op
 ·exfalso
  have hfr:Ym (Vr m.op).toNat 15=true:=by
   rw [Yd]at h1⊢;intro i hi;refine h1 i ?_;unfold Yn;rw [hcc];exact(Ei (Qn (tr f k)) 0).2 m hmm i hi
  rw [<-hmh.1]at hfr;rcases Ws n.op with h|h|h|h|h|h|h|h|h|h|h|h|h|h|h|h|h|h|h|h|h|h|h <;> first|omega|(rw [h]at hfr;exact absurd hfr (by decide))|(rw [h]at hgr;cases hgr)
 unfold Yb at h4;simp only [Jy,hgr,Bool.or_eq_false_iff]at h4;simp at h4;omega
inductive Rch {α:Type} (r:α->α->Prop):α->α->Prop
 |one {a b:α} :r a b->Rch r a b
 |cons {a b c:α} :r a b->Rch r b c->Rch r a c
theorem Rch.snoc {α:Type} {r:α->α->Prop} {a b c:α}(h:Rch r a b)(k:r b c):Rch r a c:=by
 induction h with
 |one h=>exact .cons h (.one k)
 |cons h _ ih=>exact .cons h (ih k)
theorem Rch.map {α β:Type} {r:α->α->Prop} {s:β->β->Prop}(f:α->β)(hf:∀a b,r a b->s (f a) (f b)) {a b:α}(h:Rch r a b):Rch s (f a) (f b):=by
 induction h with
 |one h=>exact .one (hf _ _ h)
 |cons h _ ih=>exact .cons (hf _ _ h) ih
theorem Rch.mono {α:Type} {r s:α->α->Prop}(hf:∀a b,r a b->s a b) {a b:α}(h:Rch r a b):Rch s a b:=by
 induction h with
 |one h=>exact .one (hf _ _ h)
 |cons h _ ih=>exact .cons (hf _ _ h) ih
structure KM where
 W:Type
 R:Int->W->W->Prop
 V:Int->W->Prop
def Yi(g:Int)(i:Nat):Bool:=g.toNat.testBit i
def KM.step(M:KM)(g:Int)(c:M.W->Prop)(u v:M.W):Prop:=(∃i:Nat,i < 4/\Yi g i=true/\M.R (i:Int) u v)/\c v
def KM.sat(M:KM):Tr->M.W->Prop
 |.leaf n,w=>n.op=1\/(n.op=3/\M.V n.i w)
 |.one n a,w =>
  if n.op=4 then ¬M.sat a w
  else if n.op=9 then ∀v,M.R n.i w v->M.sat a v
  else if n.op=10 then ∃v,M.R n.i w v/\M.sat a v
  else if n.op=11 then ∀i:Nat,i < 4->Yi n.g i=true->∀v,M.R (i:Int) w v->M.sat a v
  else if n.op=12 then ∀v,(∀i:Nat,i < 4->Yi n.g i=true->M.R (i:Int) w v)->M.sat a v
  else False
 |.two n a b,w =>
  if n.op=5 then M.sat a w/\M.sat b w
  else if n.op=6 then M.sat a w\/M.sat b w
  else if n.op=7 then M.sat a w->M.sat b w
  else if n.op=8 then(M.sat a w↔M.sat b w)
  else if n.op=13 then ∀v,Rch (M.step n.g (M.sat a)) w v->M.sat b v
  else False
structure Frm (lg:Int) {W:Type} (R:W->W->Prop):Prop where
 ser:lg=1\/lg=5->∀w,∃v,R w v
 refl:lg=2\/lg=4\/lg=6->∀w,R w w
 trans:3<=lg/\lg<=6->∀u v w,R u v->R v w->R u w
 eucl:lg=5\/lg=6->∀u v w,R u v->R u w->R v w
def KM.In(M:KM)(lg:Int):Prop:=∀i:Int,Frm lg (M.R i)
def ev(th:Tr->Bool):Tr->Bool
 |.leaf n=>if n.op=3 then th (.leaf n)else n.op==1
 |.one n a=>if n.op=4 then !ev th a else if n.op=9 then th (.one n a)else false
 |.two n a b =>
  if n.op=5 then ev th a&&ev th b
  else if n.op=6 then ev th a||ev th b
  else if n.op=7 then !ev th a||ev th b
  else if n.op=8 then ev th a==ev th b
  else if n.op=13 then th (.two n a b)else false
def cov(B:List Tr):Tr->Prop
 |.leaf n=>n.op=3->.leaf n∈B
 |.one n a=>if n.op=9 then .one n a∈B else cov B a
 |.two n a b=>if n.op=13 then .two n a b∈B else cov B a/\cov B b
def lang:Tr->Prop
 |.leaf _=>True
 |.one n a=>(n.op=4\/n.op=9)/\lang a
 |.two n a b=>((5<=n.op/\n.op<=8)\/n.op=13)/\lang a/\lang b
def Xh(i:Nat)(n:Nd)(a b:Tr):Tr:=.one ⟨9,i,0,0,0,0⟩ (.two ⟨7,0,0,0,0,0⟩ a (.two ⟨5,0,0,0,0,0⟩ b (.two n a b)))
structure Ha (B:List Tr):Prop where
 know:∀n a,.one n a∈B->n.op=9/\cov B a/\lang a/\0<=n.i/\n.i < 4
 com:∀n a b,.two n a b∈B->n.op=13/\cov B a/\cov B b/\lang a/\lang b/\∀i:Nat,i < 4->Yi n.g i=true->Xh i n a b∈B
def Ve(lg:Int)(here hold there:Bool):Bool :=
 if lg<=2 then !here||hold
 else if lg=3 then !here||(hold&&there)
 else if lg=4 then !here||there
 else if lg=6 then here==there
 else(here==there)&&(!here||hold)
def Qgs(lg:Int):Prop:=lg=2\/lg=4\/lg=6
structure Coh (lg:Int) (B:List Tr) (th:Tr->Bool):Prop where
 com:∀n a b,.two n a b∈B->(th (.two n a b)=true↔∀i:Nat,i < 4->Yi n.g i=true->th (Xh i n a b)=true)
 know:Qgs lg->∀n a,.one n a∈B->th (.one n a)=true->ev th a=true
def Se(lg:Int)(B:List Tr)(i:Int)(th th':Tr->Bool):Prop :=
 ∀n a,.one n a∈B->n.i=i->Ve lg (th (.one n a)) (ev th' a) (th' (.one n a))=true
section
variable {T:Type} (lg:Int) (B:List Tr) (S:T->Prop) (th:T->Tr->Bool)
def Mp(g:Int)(a:Tr)(t u:T):Prop:=S u/\ev (th u) a=true/\∃i:Nat,i < 4/\Yi g i=true/\Se lg B (i:Int) (th t) (th u)
structure Hx:Prop where
 coh:∀t,S t->Coh lg B (th t)
 ser:lg=1\/lg=5->∀t,S t->∀i:Int,(∃n a,.one n a∈B/\n.i=i)->∃u,S u/\Se lg B i (th t) (th u)
 know:∀t,S t->∀n a,.one n a∈B->th t (.one n a)=false->∃u,S u/\ev (th u) a=false/\Se lg B n.i (th t) (th u)
 com:∀t,S t->∀n a b,.two n a b∈B->th t (.two n a b)=false->∃u,Rch (Mp lg B S th n.g a) t u/\ev (th u) b=false
end
theorem Qn5 {M:KM} {a b:Tr} {w:M.W} :M.sat (.two ⟨7,0,0,0,0,0⟩ a b) w↔(M.sat a w->M.sat b w):=by simp [KM.sat]
theorem Qkn {M:KM} {a b:Tr} {w:M.W} :M.sat (.two ⟨5,0,0,0,0,0⟩ a b) w↔(M.sat a w/\M.sat b w):=by simp [KM.sat]
theorem Gw {M:KM} {n:Nd} {a:Tr} {w:M.W}(h:n.op=9):M.sat (.one n a) w↔∀v,M.R n.i w v->M.sat a v:=by simp [KM.sat,h]
theorem Pz {M:KM} {n:Nd} {a b:Tr} {w:M.W}(h:n.op=13):M.sat (.two n a b) w↔∀v,Rch (M.step n.g (M.sat a)) w v->M.sat b v:=by simp [KM.sat,h]
theorem Qkr {M:KM} {i:Nat} {n:Nd} {a b:Tr} {w:M.W} :M.sat (Xh i n a b) w↔∀v,M.R (i:Int) w v->M.sat a v->M.sat b v/\M.sat (.two n a b) v:=by
 unfold Xh;rw [Gw rfl];constructor
 ·intro h v hv ha;exact Qkn.1 (Qn5.1 (h v hv) ha)
 intro h v hv;exact Qn5.2 fun ha=>Qkn.2 (h v hv ha)
theorem Qeq {M:KM} {n:Nd} {a b:Tr} {w:M.W}(h:n.op=13):M.sat (.two n a b) w↔∀i:Nat,i < 4->Yi n.g i=true->M.sat (Xh i n a b) w:=by
 constructor
 ·intro hc i hi hb;rw [Qkr];intro v hv ha;rw [Pz h]at hc;refine⟨hc v (.one ⟨⟨i,hi,hb,hv⟩,ha⟩),?_⟩;rw [Pz h];exact fun u hu=>hc u (.cons ⟨⟨i,hi,hb,hv⟩,ha⟩ hu)
 intro hu;rw [Pz h];intro v hv;cases hv with
 |one hs =>
  obtain⟨⟨i,hi,hb,hr⟩,ha⟩:=hs;exact((Qkr.1 (hu i hi hb)) v hr ha).1
 |cons hs hr =>
  obtain⟨⟨i,hi,hb,hr'⟩,ha⟩:=hs;exact((Pz h).1 ((Qkr.1 (hu i hi hb)) _ hr' ha).2) v hr
theorem Iq {M:KM} {B:List Tr} {w:M.W} {th:Tr->Bool}(hth:∀f∈B,th f=true↔M.sat f w):∀f,cov B f->lang f->(ev th f=true↔M.sat f w)
 |.leaf n,hc,_=>by
  by_cases h3:n.op=3
  ·have:=hth _ (hc h3);simp only [ev,h3,if_true];exact this
  simp only [ev,h3,if_false,KM.sat,beq_iff_eq,false_and,or_false]
 |.one n a,hc,hl=>by
  by_cases h9:n.op=9
  ·have hc':.one n a∈B:=by simpa [cov,h9]using hc
   have:=hth _ hc';rw [<-this];simp [ev,h9]
  have h4:n.op=4:=hl.1.resolve_right h9;have hc':cov B a:=by simpa [cov,h4]using hc
  have:=Iq hth a hc' hl.2;simp only [ev,KM.sat,h4,if_true,Bool.not_eq_true'];rw [<-this];simp
 |.two n a b,hc,hl=>by
  by_cases h13:n.op=13
  ·have hc':.two n a b∈B:=by simpa [cov,h13]using hc
   have:=hth _ hc';rw [<-this];simp [ev,h13]
  have hc':cov B a/\cov B b:=by simpa [cov,h13]using hc
  have ha:=Iq hth a hc'.1 hl.2.1;have hb:=Iq hth b hc'.2 hl.2.2;have ho:n.op=5\/n.op=6\/n.op=7\/n.op=8:=by
   have:=hl.1.resolve_right h13;omega
  rcases ho with ho|ho|ho|ho
  ·simp [ev,KM.sat,ho,ha,hb]
  ·simp [ev,KM.sat,ho,ha,hb]
  ·simp only [ev,KM.sat,ho];simp only [show ¬(7:Int)=5 by decide,show ¬(7:Int)=6 by decide,if_false,if_true,Bool.or_eq_true,Bool.not_eq_true'];rw [<-ha,<-hb];cases ev th a <;> cases ev th b <;> simp
  simp only [ev,KM.sat,ho];simp only [show ¬(8:Int)=5 by decide,show ¬(8:Int)=6 by decide,show ¬(8:Int)=7 by decide,if_false,if_true,beq_iff_eq];rw [<-ha,<-hb];cases ev th a <;> cases ev th b <;> simp
open Classical in
noncomputable def thW (M:KM) (w:M.W) (f:Tr):Bool:=decide (M.sat f w)
theorem Ug {M:KM} {w:M.W} {f:Tr} :thW M w f=true↔M.sat f w:=by simp [thW]
section
variable {lg:Int} {B:List Tr} {M:KM}
theorem evW(w:M.W) {f:Tr}(hc:cov B f)(hl:lang f):ev (thW M w) f=true↔M.sat f w:=Iq (B:=B) (fun _ _=>Ug) f hc hl
theorem Qx1(hB:Ha B)(hM:M.In lg)(w:M.W):Coh lg B (thW M w) where
 com n a b h:=by
  rw [Ug,Qeq (hB.com n a b h).1];exact⟨fun k i hi hb=>Ug.2 (k i hi hb),fun k i hi hb=>Ug.1 (k i hi hb)⟩
 know hl n a h ht:=by
  obtain⟨h9,hc,hla,_⟩:=hB.know n a h;rw [evW w hc hla];exact(Gw h9).1 (Ug.1 ht) w ((hM n.i).refl hl w)
theorem Qqh {lg:Int} {here hold there:Bool}(h1:here=true->hold=true)(h2:3<=lg/\lg<=6->here=true->there=true)(h3:lg=5\/lg=6->there=true->here=true)(hlg:lg<=6):Ve lg here hold there=true:=by
 unfold Ve;by_cases a:lg<=2
 ·rw [if_pos a];cases here <;> simp_all
 rw [if_neg a];have h2:=h2 ⟨by omega,hlg⟩;by_cases b:lg=3
 ·rw [if_pos b];cases here <;> simp_all
 rw [if_neg b];by_cases c:lg=4
 ·rw [if_pos c];cases here <;> simp_all
 rw [if_neg c];have h3:=h3 (by omega);by_cases d:lg=6
 ·rw [if_pos d];cases here <;> cases there <;> simp_all
 rw [if_neg d];cases here <;> cases there <;> simp_all
theorem Oy(hB:Ha B)(hM:M.In lg)(hlg:lg<=6) {i:Int} {w v:M.W}(hr:M.R i w v):Se lg B i (thW M w) (thW M v):=by
 intro n a h hi;subst hi;obtain⟨h9,hc,hla,_⟩:=hB.know n a h;refine Qqh (fun e=> ?_) (fun hl e=> ?_) (fun hl e=> ?_) hlg
 ·rw [evW v hc hla];exact(Gw h9).1 (Ug.1 e) v hr
 ·rw [Ug,Gw h9];exact fun u hu=>(Gw h9).1 (Ug.1 e) u ((hM n.i).trans hl w v u hr hu)
 rw [Ug,Gw h9];exact fun u hu=>(Gw h9).1 (Ug.1 e) u ((hM n.i).eucl hl w v u hr hu)
theorem Qtx(hB:Ha B)(hM:M.In lg)(hlg:lg<=6):Hx lg B (fun _:M.W=>True) (thW M) where
 coh w _:=Qx1 hB hM w
 ser hl w _ i _:=by
  obtain⟨v,hv⟩:=(hM i).ser hl w;exact⟨v,trivial,Oy hB hM hlg hv⟩
 know w _ n a h hf:=by
  obtain⟨h9,hc,hla,_⟩:=hB.know n a h;have hn:¬M.sat (.one n a) w:=fun hs=>by rw [Ug.2 hs]at hf;cases hf
  rw [Gw h9]at hn;obtain⟨v,hv⟩:=Classical.not_forall.1 hn;obtain⟨hr,ha⟩:=Classical.not_imp.1 hv;refine⟨v,trivial,?_,Oy hB hM hlg hr⟩;cases e:ev (thW M v) a
  ·rfl
  exact absurd ((evW v hc hla).1 e) ha
 com w _ n a b h hf:=by
  obtain⟨h13,hca,hcb,hla,hlb,_⟩:=hB.com n a b h;have hn:¬M.sat (.two n a b) w:=fun hs=>by rw [Ug.2 hs]at hf;cases hf
  rw [Pz h13]at hn;obtain⟨v,hv⟩:=Classical.not_forall.1 hn;obtain⟨hr,hb⟩:=Classical.not_imp.1 hv;refine⟨v,hr.mono fun x y hxy=> ?_,?_⟩
  ·obtain⟨⟨i,hi,hg,hR⟩,ha⟩:=hxy;exact⟨trivial,(evW y hca hla).2 ha,i,hi,hg,Oy hB hM hlg hR⟩
  cases e:ev (thW M v) b
  ·rfl
  exact absurd ((evW v hcb hlb).1 e) hb
end
section
variable {T:Type} (lg:Int) (B:List Tr) (S:T->Prop) (th:T->Tr->Bool)
def Dn:KM:=⟨{t:T // S t},fun i t u=>Se lg B i (th t.1) (th u.1),fun p t=>th t.1 (.leaf ⟨3,p,0,0,0,0⟩)=true⟩
end
section
variable {T:Type} {lg:Int} {B:List Tr} {S:T->Prop} {th:T->Tr->Bool}
theorem Qti {lg:Int} {here hold there:Bool}(h:Ve lg here hold there=true)(hh:here=true)(hr:Qgs lg->there=true->hold=true):hold=true:=by
 subst hh;unfold Ve at h;by_cases a:lg<=2
 ·rw [if_pos a]at h;simpa using h
 rw [if_neg a]at h;by_cases b:lg=3
 ·rw [if_pos b]at h;simp at h;exact h.1
 rw [if_neg b]at h;by_cases c:lg=4
 ·rw [if_pos c]at h;simp at h;exact hr (.inr (.inl c)) h
 rw [if_neg c]at h;by_cases d:lg=6
 ·rw [if_pos d]at h;simp at h;exact hr (.inr (.inr d)) h
 rw [if_neg d]at h;simp at h;exact h.2
theorem Sd {lg:Int} {here hold there:Bool}(h:Ve lg here hold there=true)(hl:3<=lg)(hh:here=true):there=true:=by
 subst hh;unfold Ve at h;rw [if_neg (by omega)]at h;by_cases b:lg=3
 ·rw [if_pos b]at h;simp at h;exact h.2
 rw [if_neg b]at h;by_cases c:lg=4
 ·rw [if_pos c]at h;simp at h;exact h
 rw [if_neg c]at h;by_cases d:lg=6
 ·rw [if_pos d]at h;simp at h;exact h
 rw [if_neg d]at h;simp at h;exact h.1
theorem Lb {lg:Int} {here hold there:Bool}(h:Ve lg here hold there=true)(hl:5<=lg)(ht:there=true):here=true:=by
 subst ht;unfold Ve at h;rw [if_neg (by omega),if_neg (by omega),if_neg (by omega)]at h;by_cases d:lg=6
 ·rw [if_pos d]at h;simpa using h
 rw [if_neg d]at h;simp at h;exact h.1
theorem Co(hF:Hx lg B S th) {i:Int} {t u:T}(hu:S u)(hp:Se lg B i (th t) (th u)) {n:Nd} {a:Tr}(h:.one n a∈B)(hi:n.i=i)(ht:th t (.one n a)=true):ev (th u) a=true :=
 Qti (hp n a h hi) ht (fun hr e=>(hF.coh u hu).know hr n a h e)
theorem Qna(hF:Hx lg B S th)(hlg:lg<=6):(Dn lg B S th).In lg:=fun i=> {
 ser:=fun hl w=>by
  by_cases ho:∃n a,Tr.one n a∈B/\n.i=i
  ·obtain⟨u,hu,hp⟩:=hF.ser hl w.1 w.2 i ho;exact⟨⟨u,hu⟩,hp⟩
  exact⟨w,fun n a h hi=>absurd ⟨n,a,h,hi⟩ ho⟩
 refl:=fun hl w n a h hi=>Qqh (fun e=>(hF.coh w.1 w.2).know hl n a h e) (fun _ e=>e) (fun _ e=>e) hlg
 trans:=fun hl u v w huv hvw n a h hi=>by
  have h1:=huv n a h hi;have h2:=hvw n a h hi;exact Qqh (fun e=>Co hF w.2 hvw h hi (Sd h1 hl.1 e)) (fun _ e=>Sd h2 hl.1 (Sd h1 hl.1 e)) (fun k e=>Lb h1 (by omega) (Lb h2 (by omega) e)) hlg
 eucl:=fun hl u v w huv huw n a h hi=>by
  have h1:=huv n a h hi;have h2:=huw n a h hi;exact Qqh (fun e=>Co hF w.2 huw h hi (Lb h1 (by omega) e)) (fun _ e=>Sd h2 (by omega) (Lb h1 (by omega) e)) (fun k e=>Sd h1 (by omega) (Lb h2 (by omega) e)) hlg }
def Aj:Tr->Prop
 |.leaf n=>n.op=3->n=⟨3,n.i,0,0,0,0⟩
 |.one _ a=>Aj a
 |.two _ a b=>Aj a/\Aj b
theorem Hj(hB:Ha B)(hF:Hx lg B S th):∀f,cov B f->lang f->Aj f->∀t:(Dn lg B S th).W,(ev (th t.1) f=true↔(Dn lg B S th).sat f t)
 |.leaf n,_,_,hk,t=>by
  by_cases h3:n.op=3
  ·have e:=hk h3;simp only [ev,h3,if_true,KM.sat,Dn,true_and,show ¬(3:Int)=1 by decide,false_or];rw [<-e]
  simp only [ev,h3,if_false,KM.sat,beq_iff_eq,false_and,or_false]
 |.one n a,hc,hl,hk,t=>by
  by_cases h9:n.op=9
  ·have hm:.one n a∈B:=by simpa [cov,h9]using hc
   obtain⟨_,hca,hla,_⟩:=hB.know n a hm;have ih:=Hj hB hF a hca hla hk;rw [Gw h9];have e:ev (th t.1) (.one n a)=th t.1 (.one n a):=by simp [ev,h9]
   rw [e];constructor
   ·intro ht v hr;rw [<-ih v];exact Co hF v.2 hr hm rfl ht
   intro hs;cases ht:th t.1 (.one n a)
   ·obtain⟨u,hu,he,hp⟩:=hF.know t.1 t.2 n a hm ht;have:=(ih ⟨u,hu⟩).2 (hs ⟨u,hu⟩ hp);rw [he]at this;cases this
   rfl
  have h4:n.op=4:=hl.1.resolve_right h9;have hca:cov B a:=by simpa [cov,h4]using hc
  have ih:=Hj hB hF a hca hl.2 hk t;simp only [ev,KM.sat,h4,if_true,Bool.not_eq_true'];rw [<-ih];simp
 |.two n a b,hc,hl,hk,t=>by
  by_cases h13:n.op=13
  ·have hm:.two n a b∈B:=by simpa [cov,h13]using hc
   obtain⟨_,hca,hcb,hla,hlb,hun⟩:=hB.com n a b hm;have iha:=Hj hB hF a hca hla hk.1;have ihb:=Hj hB hF b hcb hlb hk.2;rw [Pz h13];have e:ev (th t.1) (.two n a b)=th t.1 (.two n a b):=by simp [ev,h13]
   rw [e];constructor
   ·intro ht v hr;have key:∀(s v:(Dn lg B S th).W),Rch ((Dn lg B S th).step n.g ((Dn lg B S th).sat a)) s v->th s.1 (.two n a b)=true->ev (th v.1) b=true:=by
     intro s v hr;have hstep:∀s v:(Dn lg B S th).W,(Dn lg B S th).step n.g ((Dn lg B S th).sat a) s v->th s.1 (.two n a b)=true->ev (th v.1) b=true/\th v.1 (.two n a b)=true:=by
      rintro s v ⟨⟨i,hi,hg,hp⟩,ha⟩ hs;have hsu:=((hF.coh s.1 s.2).com n a b hm).1 hs i hi hg;have hev:=Co hF v.2 hp (hun i hi hg) rfl hsu;have hx:=(iha v).2 ha;simp only [ev,show ¬(7:Int)=5 by decide,show ¬(7:Int)=6 by decide,if_false,if_true,hx,Bool.not_true,Bool.false_or,Bool.and_eq_true,h13,show ¬(13:Int)=5 by decide,show ¬(13:Int)=6 by decide,show ¬(13:Int)=7 by decide,show ¬(13:Int)=8 by decide]at hev;exact hev
     induction hr with
     |one h=>intro hs;exact(hstep _ _ h hs).1
     |cons h _ ih=>intro hs;exact ih (hstep _ _ h hs).2
    rw [<-ihb v];exact key t v hr ht
   intro hs;cases ht:th t.1 (.two n a b)
   ·obtain⟨u,hp,he⟩:=hF.com t.1 t.2 n a b hm ht;have lift:∀(s u:T) (hs:S s),Rch (Mp lg B S th n.g a) s u->∃hu:S u,Rch ((Dn lg B S th).step n.g ((Dn lg B S th).sat a)) ⟨s,hs⟩ ⟨u,hu⟩:=by
     intro s u hs hr
     induction hr with
     |one h =>
      obtain⟨hu,hx,i,hi,hg,hp⟩:=h;exact⟨hu,.one (b:=(⟨_,hu⟩:(Dn lg B S th).W)) ⟨⟨i,hi,hg,hp⟩,(iha ⟨_,hu⟩).1 hx⟩⟩
     |cons h _ ih =>
      obtain⟨hu,hx,i,hi,hg,hp⟩:=h;obtain⟨hu2,h2⟩:=ih hu;exact⟨hu2,.cons (b:=(⟨_,hu⟩:(Dn lg B S th).W)) ⟨⟨i,hi,hg,hp⟩,(iha ⟨_,hu⟩).1 hx⟩ h2⟩
    obtain⟨hu,hr⟩:=lift t.1 u t.2 hp;have:=(ihb ⟨u,hu⟩).2 (hs ⟨u,hu⟩ hr);rw [he]at this;cases this
   rfl
  have hc':cov B a/\cov B b:=by simpa [cov,h13]using hc
  have ha:=Hj hB hF a hc'.1 hl.2.1 hk.1 t;have hb:=Hj hB hF b hc'.2 hl.2.2 hk.2 t;have ho:n.op=5\/n.op=6\/n.op=7\/n.op=8:=by
   have:=hl.1.resolve_right h13;omega
  rcases ho with ho|ho|ho|ho
  ·simp [ev,KM.sat,ho,ha,hb]
  ·simp [ev,KM.sat,ho,ha,hb]
  ·simp only [ev,KM.sat,ho];simp only [show ¬(7:Int)=5 by decide,show ¬(7:Int)=6 by decide,if_false,if_true,Bool.or_eq_true,Bool.not_eq_true'];rw [<-ha,<-hb];cases ev (th t.1) a <;> cases ev (th t.1) b <;> simp
  simp only [ev,KM.sat,ho];simp only [show ¬(8:Int)=5 by decide,show ¬(8:Int)=6 by decide,show ¬(8:Int)=7 by decide,if_false,if_true,beq_iff_eq];rw [<-ha,<-hb];cases ev (th t.1) a <;> cases ev (th t.1) b <;> simp
end
def Hf(l:List Nat)(n:Nat)(u v:Fin n):Prop:=(l.getD u.1 0).testBit v.1=true
def Ko(md:Md):KM where
 W:=Fin md.n.toNat
 R:=fun a u v=>if 0<=a/\a < md.rel.length then Hf (md.rel.getD a.toNat []) md.n.toNat u v else u=v
 V:=fun p w=>(md.val.getD p.toNat 0).testBit w.1=true
theorem Qix(lg:Int) {W:Type} :Frm lg (fun u v:W=>u=v) where
 ser:=fun _ w=>⟨w,rfl⟩
 refl:=fun _ _=>rfl
 trans:=fun _ _ _ _ h1 h2=>h1.trans h2
 eucl:=fun _ _ _ _ h1 h2=>h1.symm.trans h2
theorem Qh7 {s n:Nat}(h:s < 2^n)(h0:s≠0):∃i,i < n/\s.testBit i=true:=by
 obtain⟨i,hi⟩:=Nat.exists_testBit_of_ne_zero h0;exact⟨i,Ky h hi,hi⟩
theorem Qa6 {l:List Nat}(h:Gl false l) {w u v:Nat}(hw:w < l.length)(hu:u < l.length)(h1:(l.getD w 0).testBit u=true)(h2:(l.getD u 0).testBit v=true):(l.getD w 0).testBit v=true:=by
 exact Yd.1 (h w u hw hu h1) v h2
theorem Qa4 {l:List Nat}(h:Gl true l) {w u v:Nat}(hw:w < l.length)(hu:u < l.length)(h1:(l.getD w 0).testBit u=true)(h2:(l.getD w 0).testBit v=true):(l.getD u 0).testBit v=true:=by
 exact Yd.1 (h w u hw hu h1) v h2
theorem Qct {l:List Nat} {n:Nat} {lg:Int}(hl:l.length=n)(hv:Re l=true)(hg:Wj lg l)(hr:0<=lg/\lg<=6):Frm lg (Hf l n):=by
 have hlt:∀i,i < n->l.getD i 0 < 2^n:=fun i hi=>(Sz.start (eu:=true) hl (by rw [<-hl];exact(Rw.1 hv).2)).lt i hi
 unfold Wj Uh at hg;refine⟨fun h w=> ?_,fun h w=> ?_,fun h u v w h1 h2=> ?_,fun h u v w h1 h2=> ?_⟩
 ·have h1:Ns 1 l:=hg 1 (by rcases h with rfl|rfl <;> simp);obtain⟨i,hi,hb⟩:=Qh7 (hlt w.1 w.2) (h1 w.1 (by rw [hl];exact w.2));exact⟨⟨i,hi⟩,hb⟩
 ·have h1:Ns 2 l:=hg 2 (by rcases h with rfl|rfl|rfl <;> simp);exact h1 w.1 (by rw [hl];exact w.2)
 ·have h3:Ns 4 l:=hg 4 (by
   have:lg=3\/lg=4\/lg=5\/lg=6:=by omega
   rcases this with rfl|rfl|rfl|rfl <;> simp)
  exact Qa6 h3 (by rw [hl];exact u.2) (by rw [hl];exact v.2) h1 h2
 have h3:Ns 5 l:=hg 5 (by rcases h with rfl|rfl <;> simp);exact Qa4 h3 (by rw [hl];exact u.2) (by rw [hl];exact v.2) h1 h2
theorem Qkk {md:Md} {lg:Int}(h:Nk md lg):(Ko md).In lg:=by
 intro a;show Frm lg (fun u v=>if 0<=a/\a < md.rel.length then Hf (md.rel.getD a.toNat []) md.n.toNat u v else u=v);by_cases ha:0<=a/\a < md.rel.length
 ·simp only [if_pos ha];have hm:md.rel.getD a.toNat []∈md.rel:=by
   rw [Qk,List.getElem?_eq_getElem (by omega)];exact List.getElem_mem _
  obtain⟨hv,_⟩:=Qxs h.ck hm;have hl:=(Zv h.ck).2.2.2.2.1 _ hm;exact Qct (by omega) hv (h.rel _ hm) h.lgr
 simp only [if_neg ha];exact Qix lg
theorem Rj(r:List Nat)(n s i:Nat):(Kr r n s).testBit i=true↔i < n/\∀v,(r.getD i 0).testBit v=true->s.testBit v=true:=by
 unfold Kr;rw [Db,Bool.and_eq_true,decide_eq_true_iff,Yd]
theorem Qez(r:List Nat)(n s i:Nat)(h:∀v,(r.getD i 0).testBit v=true->v < n):
 (Jz (Zx n) (Kr r n (Jz (Zx n) s))).testBit i=true↔i < n/\∃v,(r.getD i 0).testBit v=true/\s.testBit v=true:=by
 rw [Xe,Bool.and_eq_true,Vl,decide_eq_true_iff];constructor
 ·rintro⟨hi,hb⟩;refine⟨hi,Classical.byContradiction fun hn=> ?_⟩;have:(Kr r n (Jz (Zx n) s)).testBit i=true:=(Rj ..).2 ⟨hi,fun v hv=>by
   rw [Xe,Vl,Bool.and_eq_true,decide_eq_true_iff];refine⟨h v hv,?_⟩;cases hs:s.testBit v
   ·rfl
   exact absurd ⟨v,hv,hs⟩ hn⟩
  rw [this]at hb;cases hb
 rintro⟨hi,v,hv,hs⟩;refine⟨hi,?_⟩;cases hb:(Kr r n (Jz (Zx n) s)).testBit i
 ·rfl
 have h2:=((Rj ..).1 hb).2 v hv;rw [Xe,hs,Bool.not_true,Bool.and_false]at h2;cases h2
theorem Qfl(rl:List (List Nat))(gn i v:Nat):∀(k s:Nat),(((List.range k).foldl (Fa rl gn false i) s).testBit v=true↔s.testBit v=true\/∃a,a < k/\gn.testBit a=true/\((rl.getD a []).getD i 0).testBit v=true)
 |0,s=>by simp
 |k+1,s=>by
  rw [Kb];have ih:=Qfl rl gn i v k s;unfold Fa;cases hg:gn.testBit k
  ·rw [if_neg (by simp)];rw [show(List.foldl (fun s a=>if gn.testBit a=true then if false=true then s&&&(rl.getD a []).getD i 0 else s|||(rl.getD a []).getD i 0 else s) s (List.range k))=(List.range k).foldl (Fa rl gn false i) s from rfl,ih];refine or_congr Iff.rfl ⟨fun⟨a,h1,h2,h3⟩=>⟨a,by omega,h2,h3⟩,fun⟨a,h1,h2,h3⟩=>⟨a,?_,h2,h3⟩⟩;have:a≠k:=fun e=>by rw [e,hg]at h2;cases h2
   omega
  rw [if_pos rfl,if_neg (by simp),Nat.testBit_or,Bool.or_eq_true];rw [show(List.foldl (fun s a=>if gn.testBit a=true then if false=true then s&&&(rl.getD a []).getD i 0 else s|||(rl.getD a []).getD i 0 else s) s (List.range k))=(List.range k).foldl (Fa rl gn false i) s from rfl,ih];constructor
  ·rintro((h|⟨a,h1,h2,h3⟩)|h)
   ·exact Or.inl h
   ·exact Or.inr ⟨a,by omega,h2,h3⟩
   exact Or.inr ⟨k,by omega,hg,h⟩
  rintro(h|⟨a,h1,h2,h3⟩)
  ·exact Or.inl (Or.inl h)
  by_cases e:a=k
  ·exact Or.inr (by rw [<-e];exact h3)
  exact Or.inl (Or.inr ⟨a,by omega,h2,h3⟩)
theorem Qq0(rl:List (List Nat))(gn n i v:Nat):(Vw rl gn false n i).testBit v=true↔∃a,a < rl.length/\gn.testBit a=true/\((rl.getD a []).getD i 0).testBit v=true:=by
 unfold Vw;rw [Qfl];simp
theorem Qq1(rl:List (List Nat))(gn n i:Nat)(b:Bool)(hi:i < n):((List.range n).map (Vw rl gn b n)).getD i 0=Vw rl gn b n i:=by
 rw [Qk,List.getElem?_map,List.getElem?_range hi];rfl
def Fz(r:List Nat)(c:Nat)(u v:Nat):Prop:=(r.getD u 0).testBit v=true/\c.testBit v=true
theorem Qhb {α:Type} {r:α->α->Prop} {a b c:α}(h:Rch r a b)(hc:r b c):Rch r a c:=by
 induction h with
 |one h=>exact .cons h (.one hc)
 |cons h _ ih=>exact .cons h (ih hc)
theorem Lt(r:List Nat)(c a v:Nat):(r.getD a 0&&&c).testBit v=true↔Fz r c a v:=by
 rw [Nat.testBit_and,Bool.and_eq_true];rfl
theorem Qs7 {r:List Nat} {c a s:Nat}(h:∀v,s.testBit v=true->Rch (Fz r c) a v)(u:Nat):∀v,(Mm r c s u).testBit v=true->Rch (Fz r c) a v:=by
 intro v hv;unfold Mm at hv;cases hu:s.testBit u
 ·rw [if_neg (by rw [hu];simp)]at hv;exact h v hv
 rw [if_pos hu,Nat.testBit_or,Bool.or_eq_true]at hv;rcases hv with hv|hv
 ·exact h v hv
 exact Qhb (h u hu) ((Lt ..).1 hv)
theorem Qvt {r:List Nat} {c a:Nat} :∀(n s:Nat),(∀v,s.testBit v=true->Rch (Fz r c) a v)->∀v,(Ut r c n s).testBit v=true->Rch (Fz r c) a v
 |0,s,h=>h
 |n+1,s,h=>by
  unfold Ut;rw [Kb];exact Qs7 (Qvt n s h) n
theorem Qvl {r:List Nat} {c a n:Nat} :∀(k:Nat),∀v,((List.range k).foldl (fun s _=>Ut r c n s) (r.getD a 0&&&c)).testBit v=true->Rch (Fz r c) a v
 |0=>fun v hv=> .one ((Lt ..).1 hv)
 |k+1=>by
  rw [Kb];exact Qvt n _ (Qvl k)
theorem Qde {r:List Nat} {c n a v:Nat}(h:(Io r c n a).testBit v=true):Rch (Fz r c) a v:=Qvl n v h
theorem Qxm {r:List Nat} {c s u v:Nat}(h:s.testBit v=true):(Mm r c s u).testBit v=true:=by
 unfold Mm
 split
 ·rw [Nat.testBit_or,h,Bool.true_or]
 exact h
theorem Qpv {r:List Nat} {c s u v:Nat}(h:s.testBit u=true)(hst:Fz r c u v):(Mm r c s u).testBit v=true:=by
 unfold Mm;rw [if_pos h,Nat.testBit_or,(Lt r c u v).2 hst,Bool.or_true]
theorem Cw {r:List Nat} {c v:Nat} :∀(n s:Nat),s.testBit v=true->(Ut r c n s).testBit v=true
 |0,_,h=>h
 |n+1,s,h=>by
  unfold Ut;rw [Kb];exact Qxm (Cw n s h)
theorem Qxv {r:List Nat} {c s u v:Nat}(hs:s.testBit u=true)(hst:Fz r c u v):∀(n:Nat),u < n->(Ut r c n s).testBit v=true
 |0,h=>absurd h (by omega)
 |n+1,h=>by
  unfold Ut;rw [Kb];by_cases e:u=n
  ·subst e;have h1:(Ut r c u s).testBit u=true:=Cw u s hs;unfold Ut at h1;exact Qpv h1 hst
  exact Qxm (Qxv hs hst n (by omega))
def Oa(r:List Nat)(c s:Nat):Prop:=∀u v,s.testBit u=true->Fz r c u v->s.testBit v=true
theorem Qs8 {r:List Nat} {c s u:Nat}(h:Oa r c s):Mm r c s u=s:=by
 unfold Mm
 split
 ·rename_i hu;refine Nat.eq_of_testBit_eq fun v=> ?_
  rw [Nat.testBit_or];cases hb:(r.getD u 0&&&c).testBit v
  ·rw [Bool.or_false]
  rw [h u v hu ((Lt ..).1 hb)];rfl
 rfl
theorem Wc {r:List Nat} {c s:Nat}(h:Oa r c s):∀n,Ut r c n s=s
 |0=>rfl
 |n+1=>by
  unfold Ut;rw [Kb];have ih:=Wc h n;unfold Ut at ih;rw [ih,Qs8 h]
def Qyr(n s:Nat):Nat:=(List.range n).countP fun i=> !s.testBit i
theorem Qme {r:List Nat} {c n s:Nat}(hb:∀u v,(r.getD u 0).testBit v=true->u < n/\v < n)(h:¬Oa r c s):Qyr n (Ut r c n s) < Qyr n s:=by
 obtain⟨u,v,h1,h2,h3⟩:∃u v,s.testBit u=true/\Fz r c u v/\s.testBit v=false:=Classical.byContradiction fun hn=>h fun u v h1 h2=>by
  cases h3:s.testBit v
  ·exact absurd ⟨u,v,h1,h2,h3⟩ hn
  rfl
 obtain⟨hu,hv⟩:=hb u v h2.1;unfold Qyr;refine Em (fun i _ hq=> ?_) ⟨v,List.mem_range.2 hv,by rw [h3];rfl,by rw [Qxv h1 h2 n hu];rfl⟩;cases hi:s.testBit i
 ·rfl
 rw [Cw n s hi]at hq;cases hq
theorem Zq2(n s:Nat):Qyr n s<=n:=by
 have:=List.countP_le_length (p:=fun i=> !s.testBit i) (l:=List.range n);rw [List.length_range]at this;exact this
theorem Qh9 {r:List Nat} {c n s:Nat}(hb:∀u v,(r.getD u 0).testBit v=true->u < n/\v < n)(h:Qyr n s=0):Oa r c s:=by
 intro u v _ h2;unfold Qyr at h;rw [List.countP_eq_zero]at h;have:=h v (List.mem_range.2 (hb u v h2.1).2)
 simpa using this
theorem Qxx {r:List Nat} {c n a:Nat}(hb:∀u v,(r.getD u 0).testBit v=true->u < n/\v < n):∀k,Oa r c ((List.range k).foldl (fun s _=>Ut r c n s) (r.getD a 0&&&c))\/Qyr n ((List.range k).foldl (fun s _=>Ut r c n s) (r.getD a 0&&&c))+k<=n
 |0=>Or.inr (Zq2 _ _)
 |k+1=>by
  rw [Kb];rcases Qxx hb k with h|h
  ·exact Or.inl (by rw [Wc h];exact h)
  by_cases hc:Oa r c ((List.range k).foldl (fun s _=>Ut r c n s) (r.getD a 0&&&c))
  ·exact Or.inl (by rw [Wc hc];exact hc)
  have:=Qme hb hc;exact Or.inr (by omega)
theorem Qbr {r:List Nat} {c n a v:Nat}(h:Fz r c a v):∀k,((List.range k).foldl (fun s _=>Ut r c n s) (r.getD a 0&&&c)).testBit v=true
 |0=>(Lt ..).2 h
 |k+1=>by
  rw [Kb];exact Cw n _ (Qbr h k)
theorem Qi8 {r:List Nat} {c s:Nat}(hc:Oa r c s) {a v:Nat}(h:Rch (Fz r c) a v):(∀u,Fz r c a u->s.testBit u=true)->s.testBit v=true:=by
 induction h with
 |one h=>exact fun hs=>hs _ h
 |cons h _ ih=>exact fun hs=>ih fun u hu=>hc _ u (hs _ h) hu
theorem Ii {r:List Nat} {c n a v:Nat}(hb:∀u v,(r.getD u 0).testBit v=true->u < n/\v < n):(Io r c n a).testBit v=true↔Rch (Fz r c) a v:=by
 refine⟨Qde,fun h=> ?_⟩;have hc:Oa r c (Io r c n a):=by
  rcases Qxx (a:=a) (c:=c) hb n with h|h
  ·exact h
  exact Qh9 hb (by unfold Io;omega)
 exact Qi8 hc h fun u hu=>Qbr hu n
theorem Qyk {r:List Nat} {n:Nat}(hl:r.length=n)(hb:Zi r n=false):∀u v,(r.getD u 0).testBit v=true->u < n/\v < n:=fun u v h=>by
 by_cases hu:u < r.length
 ·have hm:r.getD u 0∈r:=by rw [Qk,Qv hu];exact List.getElem_mem hu
  have h2:=List.any_eq_false.1 hb _ hm;simp only [Bool.not_eq_true',decide_eq_false_iff_not,Nat.not_lt,Nat.not_le]at h2;exact⟨by omega,Ky h2 h⟩
 rw [Qk,List.getElem?_eq_none (by omega)]at h;simp at h
def gfF(r:List Nat)(n c s out:Nat):Nat:=Kr r n (Jz (Zx n) c|||(s&&&out))
theorem Tk {r:List Nat} {n c s out i:Nat}(hb:∀u v,(r.getD u 0).testBit v=true->u < n/\v < n):
 (gfF r n c s out).testBit i=true↔i < n/\∀v,(r.getD i 0).testBit v=true->c.testBit v=true->s.testBit v=true/\out.testBit v=true:=by
 unfold gfF;rw [Rj];refine and_congr_right fun _=>forall_congr' fun v=> ?_
 refine⟨fun h h1 h2=> ?_,fun h h1=> ?_⟩
 ·have:=h h1;rw [Nat.testBit_or,Xe,Nat.testBit_and,h2,Bool.not_true,Bool.and_false,Bool.false_or,Bool.and_eq_true]at this;exact this
 rw [Nat.testBit_or,Xe,Nat.testBit_and,Vl];cases hc:c.testBit v
 ·simp [(hb i v h1).2]
 obtain⟨h3,h4⟩:=h h1 hc;simp [h3,h4]
theorem Ti {r:List Nat} {n c s i:Nat}(hb:∀u v,(r.getD u 0).testBit v=true->u < n/\v < n):
 (Gm r n c s).testBit i=true↔i < n/\∀v,Rch (Fz r c) i v->s.testBit v=true:=by
 unfold Gm;rw [Db,Bool.and_eq_true,decide_eq_true_eq,Yd];exact and_congr_right fun _=>forall_congr' fun v=>by rw [Ii hb]
theorem Qfz {r:List Nat} {n c s:Nat}(hb:∀u v,(r.getD u 0).testBit v=true->u < n/\v < n):∀i,(Gm r n c s).testBit i=true->(Zx n).testBit i=true:=fun i h=>by
 rw [Vl];exact decide_eq_true ((Ti hb).1 h).1
theorem Qfq {r:List Nat} {n c s out:Nat}(hb:∀u v,(r.getD u 0).testBit v=true->u < n/\v < n)(h:∀i,(Gm r n c s).testBit i=true->out.testBit i=true):
 ∀i,(Gm r n c s).testBit i=true->(gfF r n c s out).testBit i=true:=fun i hi=>by
 obtain⟨h1,h2⟩:=(Ti hb).1 hi;exact(Tk hb).2 ⟨h1,fun v hv hc=>⟨h2 v (.one ⟨hv,hc⟩),h v ((Ti hb).2 ⟨(hb i v hv).2,fun z hz=>h2 z (.cons ⟨hv,hc⟩ hz)⟩)⟩⟩
theorem Qcs {r:List Nat} {n c s:Nat}(hb:∀u v,(r.getD u 0).testBit v=true->u < n/\v < n):∀i,(gfF r n c s (Zx n)).testBit i=true->(Zx n).testBit i=true:=fun i h=>by
 rw [Vl];exact decide_eq_true ((Tk hb).1 h).1
theorem Qir {r:List Nat} {n c s out:Nat}(hb:∀u v,(r.getD u 0).testBit v=true->u < n/\v < n)(h:∀i,(gfF r n c s out).testBit i=true->out.testBit i=true):
 ∀i,(gfF r n c s (gfF r n c s out)).testBit i=true->(gfF r n c s out).testBit i=true:=fun i hi=>by
 obtain⟨h1,h2⟩:=(Tk hb).1 hi;exact(Tk hb).2 ⟨h1,fun v hv hc=>⟨(h2 v hv hc).1,h v (h2 v hv hc).2⟩⟩
theorem Qrc {r:List Nat} {n c s out:Nat}(hb:∀u v,(r.getD u 0).testBit v=true->u < n/\v < n)(h:gfF r n c s out=out)(hi:∀i,(Gm r n c s).testBit i=true->out.testBit i=true):out=Gm r n c s:=by
 have hp:∀u v,Rch (Fz r c) u v->out.testBit u=true->s.testBit v=true:=fun u v hr=>by
  induction hr with
  |one hst=>intro ho;rw [<-h]at ho;exact(((Tk hb).1 ho).2 _ hst.1 hst.2).1
  |cons hst _ ih=>intro ho;rw [<-h]at ho;exact ih (((Tk hb).1 ho).2 _ hst.1 hst.2).2
 refine Nat.eq_of_testBit_eq fun i=> ?_
 rw [Bool.eq_iff_iff];refine⟨fun ho=>(Ti hb).2 ⟨?_,fun v hv=>hp i v hv ho⟩,hi i⟩;have ho2:=ho;rw [<-h]at ho2;exact((Tk hb).1 ho2).1
theorem Zqy {a b:Nat}(h:∀i,a.testBit i=true->b.testBit i=true)(hne:a≠b):a < b:=by
 have e:a&&&b=a:=by
  refine Nat.eq_of_testBit_eq fun i=> ?_
  rw [Nat.testBit_and];cases ha:a.testBit i
  ·rfl
  rw [h i ha];rfl
 have:a<=b:=by rw [<-e];exact Nat.and_le_right
 omega
theorem Qd7 {N:Nat}(h:N<=64):(18446744073709551615:Int) / 2^(64 - N)=((Zx N:Nat):Int):=by
 have e:∀k:Fin 65,(18446744073709551615:Int) / 2^(64 - k.val)=((Zx k.val:Nat):Int):=by decide+kernel
 exact e ⟨N,by omega⟩
def Zw(md:Md)(n:Nd):Bool :=
 if n.op=3 then decide (n.i < md.val.length)else if n.op<=8 then true else if n.op<=10 then decide (n.i < md.rel.length)
 else if n.op<=13 then decide (n.g < ((2^md.rel.length:Nat):Int))else false
def Vq(md:Md)(n:Nd)(x y:Nat):Nat:=if Zw md n=true then Qyq md n x y else 0
theorem Qet {rl:List (List Nat)} {n:Nat}(hw:∀r∈rl,∀s∈r,s < 2^n) {gn i s a:Nat} {meet:Bool}(hs:s < 2^n):Fa rl gn meet i s a < 2^n:=by
 unfold Fa
 split
 ·split
  ·exact Nat.lt_of_le_of_lt Nat.and_le_left hs
  refine Nat.or_lt_two_pow hs ?_;by_cases ha:a < rl.length
  ·have hm:rl.getD a []∈rl:=by rw [Qk,Qv ha];exact List.getElem_mem ha
   by_cases hi:i < (rl.getD a []).length
   ·refine hw _ hm _ ?_;rw [Qk (l:=rl.getD a []),Qv hi];exact List.getElem_mem hi
   rw [Qk (l:=rl.getD a []),List.getElem?_eq_none (by omega)];exact Nat.two_pow_pos n
  rw [Qk (l:=rl),List.getElem?_eq_none (by omega)];exact Nat.two_pow_pos n
 exact hs
theorem Qat(n:Nat):Zx n < 2^n:=by
 unfold Zx;have:=Nat.two_pow_pos n;omega
theorem Qes {rl:List (List Nat)} {n:Nat}(hw:∀r∈rl,∀s∈r,s < 2^n) {gn i:Nat} {meet:Bool} :Vw rl gn meet n i < 2^n:=by
 unfold Vw;have:∀k,(List.range k).foldl (Fa rl gn meet i) (if meet then Zx n else 0) < 2^n:=fun k=>by
  induction k with
  |zero =>
   cases meet
   ·exact Nat.two_pow_pos n
   exact Qat n
  |succ k ih=>rw [Kb];exact Qet hw ih
 exact this _
theorem Mk {r:List Nat} {N:Nat}(hl:r.length=N)(hN:N<=64)(h:∀s∈r,s < 2^N):Vz r.length r=0:=by
 have hb:Zi r r.length=false:=List.any_eq_false.2 fun s hs=>by rw [hl];simpa using h s hs
 have:=Rw.2 ⟨by omega,hb⟩;unfold Re at this
 simpa using this
theorem Qn3 {md:Md}(h:Zj md=0):∀r∈md.rel,∀s∈r,s < 2^md.n.toNat:=fun r hr s hs=>by
 obtain⟨_,_,_,_,_,_,hlow⟩:=Zv h;have:=List.any_eq_false.1 (hlow r hr) s hs
 simpa using this
theorem Qth {r:List Nat} {n x:Nat}(hn:n<=64)(hb:∀u v,(r.getD u 0).testBit v=true->u < n/\v < n):Kr r n (Zx 64^^^x)=Kr r n (Jz (Zx n) x):=by
 refine Nat.eq_of_testBit_eq fun i=> ?_
 rw [Bool.eq_iff_iff,Rj,Rj];refine and_congr_right fun _=>forall_congr' fun v=>imp_congr_right fun hv=> ?_
 have hv2:=(hb i v hv).2;rw [Nat.testBit_xor,Vl,Xe,Vl,decide_eq_true (show v < 64 by omega),decide_eq_true hv2];cases x.testBit v <;> simp
theorem Fo {md:Md}(h:Zj md=0)(a:Nat):∀u v,((md.rel.getD a []).getD u 0).testBit v=true->u < md.n.toNat/\v < md.n.toNat:=by
 intro u v hb;by_cases ha:a < md.rel.length
 ·have hm:md.rel.getD a []∈md.rel:=by
   rw [Qk,Qv ha];exact List.getElem_mem _
  obtain⟨hv,_⟩:=Qxs h hm;have hl:=(Zv h).2.2.2.2.1 _ hm;have hl2:(md.rel.getD a []).length=md.n.toNat:=by omega
  by_cases hu:u < md.n.toNat
  ·have:=(Sz.start (eu:=true) hl2 (by rw [<-hl2];exact(Rw.1 hv).2)).lt u hu;exact⟨hu,Ky this hb⟩
  rw [Qk,List.getElem?_eq_none (by omega)]at hb;simp at hb
 have e:md.rel.getD a []= []:=by rw [Qk,List.getElem?_eq_none (by omega)];rfl
 rw [e]at hb;simp at hb
theorem Tx {md:Md}(h:Zj md=0)(gn:Nat):∀u v,(((List.range md.n.toNat).map (Vw md.rel gn false md.n.toNat)).getD u 0).testBit v=true->u < md.n.toNat/\v < md.n.toNat:=by
 intro u v hb;by_cases hu:u < md.n.toNat
 ·rw [Qq1 _ _ _ _ _ hu,Qq0]at hb;obtain⟨a,_,_,h3⟩:=hb;exact⟨hu,(Fo h a u v h3).2⟩
 rw [Qk,List.getElem?_eq_none (by simp;omega)]at hb;simp at hb
def IsW(md:Md)(s:Nat)(t:Tr):Prop:=∀w:Fin md.n.toNat,s.testBit w.1=true↔(Ko md).sat t w
theorem Qa0 {md:Md}(h:Zj md=0) {n:Nd} {s:Nat} {t:Tr}(hi:0<=n.i/\n.i < md.rel.length)(hs:IsW md s t)(h9:n.op=9):IsW md (Kr (md.rel.getD n.i.toNat []) md.n.toNat s) (.one n t):=by
 intro w;rw [Rj];show _↔(if n.op=4 then _ else if n.op=9 then _ else _);rw [if_neg (by omega),if_pos h9];constructor
 ·rintro⟨_,hb⟩ v hv;refine(hs v).1 (hb v.1 ?_);have hv':(if 0<=n.i/\n.i < md.rel.length then Hf (md.rel.getD n.i.toNat []) md.n.toNat w v else w=v):=hv;rw [if_pos hi]at hv';exact hv'
 intro hf;refine⟨w.2,fun v hv=> ?_⟩;have hvn:=(Fo h n.i.toNat w.1 v hv).2;refine(hs ⟨v,hvn⟩).2 (hf ⟨v,hvn⟩ ?_);show(if 0<=n.i/\n.i < md.rel.length then Hf (md.rel.getD n.i.toNat []) md.n.toNat w ⟨v,hvn⟩else _);rw [if_pos hi];exact hv
end Go.Proofs.YtkmclcmnoicagaaGreatDoor
