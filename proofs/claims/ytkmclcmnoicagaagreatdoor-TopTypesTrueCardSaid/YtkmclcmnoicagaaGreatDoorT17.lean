/- models of Kripke: the plain part of the walks of checkers (split off by splitpl.py): masks, relations, groups, what is checked, what fits, what holds. -/
import Derived.Test.YtkmclcmnoicagaaGreatDoorT10
import Derived.Test.YtkmclcmnoicagaaGreatDoorT16
namespace Go.Proofs.YtkmclcmnoicagaaGreatDoor
set_option maxRecDepth 100000
set_option maxHeartbeats 128000000
open Go.RowKit
theorem Ow {a b:List Nat}(hl:a.length=b.length)(h:∀k,k < a.length->a.getD k 0=b.getD k 0):a=b:=by
 refine List.ext_getElem hl fun i h1 h2=> ?_
 have:=h i h1;rw [Qk,Qk,Qv h1,Qv h2]at this;exact this
def Ba(l:List Nat)(k:Nat):List Nat:=(List.range l.length).map fun i=>if i < k then l.getD i 0|||2^i else l.getD i 0
theorem Qst(l:List Nat):Ba l 0=l:=by
 refine List.ext_getElem (by simp [Ba]) fun i h1 h2=> ?_
 simp [Ba,h2]
theorem Ut(l:List Nat)(k:Nat):(Ba l k).length=l.length:=by simp [Ba]
theorem Tw {l:List Nat} {k i:Nat}(hi:i < l.length):(Ba l k).getD i 0=if i < k then l.getD i 0|||2^i else l.getD i 0:=by
 unfold Ba;rw [Qk,List.getElem?_map,List.getElem?_range hi];rfl
theorem Qss {l:List Nat} {k:Nat}(hk:k < l.length):(Ba l k).set k (l.getD k 0|||2^k)=Ba l (k+1):=by
 refine Ow (by rw [List.length_set,Ut,Ut]) fun i hi=> ?_
 rw [List.length_set,Ut]at hi;rw [Ho (by rw [Ut];exact hk),Tw hi,Tw hi];by_cases e:k=i
 ·subst e;rw [if_pos rfl,if_pos (Nat.lt_succ_self _)]
 rw [if_neg e];by_cases h:i < k
 ·rw [if_pos h,if_pos (show i < k+1 by omega)]
 rw [if_neg h,if_neg (show ¬i < k+1 by omega)]
def Qsl(l:List Nat):Prop:=∀i,i < l.length->(l.getD i 0).testBit i=true
theorem Qmp {l:List Nat} :Ba l l.length=l↔Qsl l:=by
 constructor
 ·intro h i hi;have h1:=Tw (k:=l.length) hi;rw [h,if_pos hi]at h1;have:=(Ob.1 h1.symm);rw [Vg]at this;exact this i (by rw [Nat.testBit_two_pow];simp)
 intro h;refine Ow (Ut _ _) fun i hi=> ?_
 rw [Ut]at hi;rw [Tw hi,if_pos hi,Ob,Vg];intro j hj;rw [Nat.testBit_two_pow]at hj;have:i=j:=by simpa using hj
 rw [<-this];exact h i hi
def Zy(md:Md):Int :=
 if md.n < 1\/64 < md.n then 2 else if 4 < md.rel.length\/8 < md.val.length then 8
 else if md.rel.any (fun r=> !decide ((r.length:Int)=md.n))then 3
 else if Zx md.val md.n.toNat then 2 else if md.rel.any (fun r=>Zx r md.n.toNat)then 2 else 0
theorem Qzs {P:List Nat->Bool} {l:List (List Nat)} {k:Nat}(hk:k < l.length)(h:P (l.getD k [])=true):l.any P=true:=by
 rw [List.any_eq_true];exact⟨l[k],List.getElem_mem hk,by rw [Qk,Qv hk]at h;exact h⟩
theorem Wy {P:List Nat->Bool} {l:List (List Nat)}(h:∀k,k < l.length->P (l.getD k [])=false):l.any P=false:=by
 rw [List.any_eq_false];intro s hs;obtain⟨k,hk,e⟩:=List.getElem_of_mem hs;have:=h k hk;rw [Qk,Qv hk]at this;have h2:P l[k]=false:=this;rw [e]at h2;rw [h2];simp
def Ve(q:Int)(l:List Nat):Prop :=
 if q=1 then ∀i,i < l.length->l.getD i 0≠0 else if q=2 then Qsl l else if q=4 then Fk false l else Fk true l
def Bg(lg:Int):List Int:=if lg=0 then []else if lg=1 then [1]else if lg=2 then [2]else if lg=3 then [4]else if lg=4 then [2,4]else if lg=5 then [1,4,5]else [2,4,5]
def p15(lg:Int):Int:=if 0<=lg/\lg<=6 then 0 else 1
theorem Qks {lg q:Int}(h:q∈Bg lg):q=1\/q=2\/q=4\/q=5:=by
 unfold Bg at h
 repeat' split at h
 all_goals(simp at h;try omega)
def Fh(lg:Int)(l:List Nat):Prop:=∀q∈Bg lg,Ve q l
theorem Qmr(lg:Int):(Bg lg).length<=3:=by
 unfold Bg
 repeat' split
 all_goals simp
structure Fm (md:Md) (lg:Int):Prop where
 lgr:0<=lg/\lg<=6
 ck:Zy md=0
 rel:∀r∈md.rel,Fh lg r
theorem Jv {md:Md}(h:Zy md=0):1<=md.n/\md.n<=64/\md.rel.length<=4/\md.val.length<=8/\(∀r∈md.rel,(r.length:Int)=md.n)/\Zx md.val md.n.toNat=false/\∀r∈md.rel,Zx r md.n.toNat=false:=by
 unfold Zy at h;by_cases h1:md.n < 1\/64 < md.n
 ·rw [if_pos h1]at h;cases h
 rw [if_neg h1]at h;by_cases h2:4 < md.rel.length\/8 < md.val.length
 ·rw [if_pos h2]at h;cases h
 rw [if_neg h2]at h;cases h3:md.rel.any (fun r=> !decide ((r.length:Int)=md.n))
 ·rw [h3]at h;cases h4:Zx md.val md.n.toNat
  ·rw [h4]at h;cases h5:md.rel.any (fun r=>Zx r md.n.toNat)
   ·rw [List.any_eq_false]at h3 h5;exact⟨by omega,by omega,by omega,by omega,fun r hr=>by simpa using h3 r hr,rfl,fun r hr=>by simpa using h5 r hr⟩
   rw [h5]at h;cases h
  rw [h4]at h;cases h
 rw [h3]at h;cases h
theorem Oh {md:Md}(h:Zy md=0) {r:List Nat}(hr:r∈md.rel):Xb r=true/\0 < r.length:=by
 obtain⟨h1,h2,_,_,h3,_,h4⟩:=Jv h;have h5:=h3 r hr;have h6:=h4 r hr;have e:md.n.toNat=r.length:=by omega
 rw [e]at h6;exact⟨Ul.2 ⟨by omega,h6⟩,by omega⟩
theorem Qhc {k:Nat}(h:k < 64):Zj (2^k):=by
 show 2^k < 18446744073709551616;rw [show(18446744073709551616:Nat)=2^64 from rfl];exact Nat.pow_lt_pow_right (by decide) h
theorem Qfv {s k:Nat}(hs:Zj s)(hk:k < 64):bits .or .u64 (s:Int) (IntKind.u64.wrap ((2:Int)^k))=((s|||2^k:Nat):Int):=by
 rw [Qjh hk];exact Bd hs (Qhc hk)
theorem Qbd {a b:Nat}(ha:Zj a)(hb:Zj b):(bits .andNot .u64 (a:Int) (b:Int)==0)=Yw a b:=by
 rw [Uc ha hb,<-Qgg,Bool.eq_iff_iff,beq_iff_eq,beq_iff_eq];omega
def Re(op:Int)(x y al:Nat):Nat :=
 if op=1 then al else if op=4 then Yc al x else if op=5 then x&&&y else if op=6 then x|||y else if op=7 then Yc al x|||y else if op=8 then Yc al (x^^^y)else 0
theorem Qzr {a b:Nat}(ha:Zj a):Zj (a&&&b):=Nat.lt_of_le_of_lt Nat.and_le_left ha
theorem Qd5 {a b:Nat}(ha:Zj a)(hb:Zj b):Zj (a|||b):=Nat.or_lt_two_pow (n:=64) ha hb
theorem Qf7 {a b:Nat}(ha:Zj a)(hb:Zj b):Zj (a^^^b):=Nat.xor_lt_two_pow (n:=64) ha hb
def Kj(r:List Nat)(n s:Nat):Nat:=Kk n fun i=>Yw (r.getD i 0) s
def Lm(r:List Nat)(c s v:Nat):Nat:=if s.testBit v then s|||(r.getD v 0&&&c)else s
def Ug(r:List Nat)(c n s:Nat):Nat:=(List.range n).foldl (Lm r c) s
def Ol(r:List Nat)(c n a:Nat):Nat:=(List.range n).foldl (fun s _=>Ug r c n s) (r.getD a 0&&&c)
theorem Vi {f:Nat->Nat->Nat}(k s:Nat):(List.range (k+1)).foldl f s=f ((List.range k).foldl f s) k:=by
 rw [List.range_succ,List.foldl_append];rfl
theorem Qlq {f:Nat->Nat->Nat}(hf:∀s v,Zj s->Zj (f s v))(k s:Nat)(hs:Zj s):Zj ((List.range k).foldl f s):=by
 induction k with
 |zero=>exact hs
 |succ k ih=>rw [Vi];exact hf _ _ ih
def Gb(r:List Nat)(n c s:Nat):Nat:=Kk n fun i=>Yw (Ol r c n i) s
def Fa(rl:List (List Nat))(gn:Nat)(meet:Bool)(i s a:Nat):Nat:=if gn.testBit a then(if meet then s&&&(rl.getD a []).getD i 0 else s|||(rl.getD a []).getD i 0)else s
def Vt(rl:List (List Nat))(gn:Nat)(meet:Bool)(n i:Nat):Nat:=(List.range rl.length).foldl (Fa rl gn meet i) (if meet then Zl n else 0)
theorem Qlv {rl:List (List Nat)}(hw:∀r∈rl,∀s∈r,Zj s) {gn i s a:Nat} {meet:Bool}(hs:Zj s):Zj (Fa rl gn meet i s a):=by
 unfold Fa;have h1:Zj ((rl.getD a []).getD i 0):=Fd (Qyx hw a) i
 split
 ·split
  ·exact Qzr hs
  exact Qd5 hs h1
 exact hs
theorem Qy0 {k gn:Nat}(hk:k<=4)(hg:gn < 2^k):¬wrap64 ((2:Int)^k)<=(gn:Int):=by
 have hc:k=0\/k=1\/k=2\/k=3\/k=4:=by omega
 rcases hc with rfl|rfl|rfl|rfl|rfl <;>(unfold wrap64;simp at hg⊢;omega)
theorem Xr {n:Nd}(h:Zn n)(ho:Qe n.op=true):0<=n.i/\n.i < 4:=by
 obtain⟨_,_,h3,_,_⟩:=h;unfold Jg at h3;simp only [Qr,ho,Bool.or_eq_false_iff]at h3;simp at h3;omega
theorem Fr {n:Nd}(h:Zn n)(ho:n.op=3):0<=n.i/\n.i < 8:=by
 obtain⟨_,_,h3,_,_⟩:=h;unfold Jg at h3;rw [ho]at h3;simp [Qr,Zk,Qe,Qw,Zz]at h3;omega
theorem Ga {n:Nd}(h:Zn n):0<=n.g/\n.g < 16:=by
 obtain⟨_,h2,h3,_,_⟩:=h;cases hg:Zz n.op
 ·unfold Zv at h2;simp only [hg,Bool.or_eq_false_iff]at h2;simp at h2;omega
 unfold Jg at h3;simp only [Qr,hg,Bool.or_eq_false_iff]at h3;simp at h3;omega
def agS(s:Nat)(n:Nd):Nat:=(s|||(if Qe n.op then 2^n.i.toNat else 0))|||n.g.toNat
def faS(s:Nat)(n:Nd):Nat:=if n.op=3 then s|||2^n.i.toNat else s
def Jn(l:List Nd):Nat:=l.foldl agS 0
def Je(l:List Nd):Nat:=l.foldl faS 0
theorem Qoc {s:Nat} {n:Nd}(h:Zn n)(hs:s < 2^4):agS s n < 2^4:=by
 unfold agS;have h1:=Ga h;refine Nat.or_lt_two_pow (Nat.or_lt_two_pow hs ?_) (by omega)
 split
 ·rename_i ho;have:=Xr h ho;exact Nat.pow_lt_pow_right (by decide) (by omega)
 decide
theorem Qo3 {s:Nat} {n:Nd}(h:Zn n)(hs:s < 2^8):faS s n < 2^8:=by
 unfold faS
 split
 ·rename_i ho;have:=Fr h ho;exact Nat.or_lt_two_pow hs (Nat.pow_lt_pow_right (by decide) (by omega))
 exact hs
theorem Ni:∀(l:List Nd) (s:Nat),(∀n∈l,Zn n)->s < 2^4->l.foldl agS s < 2^4
 |[],_,_,hs=>hs
 |n :: l,_,h,hs=>Ni l _ (fun n hn=>h n (List.mem_cons_of_mem _ hn)) (Qoc (h n (List.mem_cons_self ..)) hs)
theorem Ss:∀(l:List Nd) (s:Nat),(∀n∈l,Zn n)->s < 2^8->l.foldl faS s < 2^8
 |[],_,_,hs=>hs
 |n :: l,_,h,hs=>Ss l _ (fun n hn=>h n (List.mem_cons_of_mem _ hn)) (Qo3 (h n (List.mem_cons_self ..)) hs)
theorem Bj {k:Nat}(hk:k < 8):wrap64 ((2:Int)^k)=((2^k:Nat):Int):=by
 have hc:k=0\/k=1\/k=2\/k=3\/k=4\/k=5\/k=6\/k=7:=by omega
 rcases hc with rfl|rfl|rfl|rfl|rfl|rfl|rfl|rfl <;> decide+kernel
def Kb(a:Nat)(m i:Nat):Bool:= !m.testBit i||decide (i < a)
def Yg(f:List Nd)(a b:Nat):Bool:=check f==0&&((List.range 4).all (Kb a (Jn (Qg f)))&&(List.range 8).all (Kb b (Je (Qg f))))
theorem Qx6 {P:Nat->Bool} {n k:Nat}(hk:k < n)(h:P k=false):(List.range n).all P=false:=by
 rw [List.all_eq_false];exact⟨k,List.mem_range.2 hk,by rw [h];simp⟩
theorem Qvw {P:Nat->Bool} {n:Nat}(h:∀k,k < n->P k=true):(List.range n).all P=true:=by
 rw [List.all_eq_true];exact fun k hk=>h k (List.mem_range.1 hk)
theorem Qsc:(List.range 512).all (fun m=>((bits .andNot .i64 (m:Int) 15==0)==Yw m 15)&&((bits .andNot .i64 (m:Int) 15 !=0)== !Yw m 15))=true:=by kernel_rfl
theorem Qb2(f:List Nd):(bits .andNot .i64 ((Jh f:Nat):Int) 15==0)=Yw (Jh f) 15/\(bits .andNot .i64 ((Jh f:Nat):Int) 15 !=0)= !Yw (Jh f) 15:=by
 have h:=List.all_eq_true.1 Qsc (Jh f) (List.mem_range.2 (Cq (Qg f)));rw [Bool.and_eq_true,beq_iff_eq,beq_iff_eq]at h;exact h
def Iw(md:Md)(f:List Nd)(i:Int):Bool:=Yw (Jh (Jb f i)) 15&&Yg (Jb f i) md.rel.length md.val.length
def Jr(md:Md)(f:List Nd):Int :=
 if Zy md≠0 then Zy md else if check f≠0 then check f else if Yw (Jh f) 15=false then 10 else if Yg f md.rel.length md.val.length=false then 2 else 0
structure Qxd (md:Md) (n:Nd):Prop where
 head:Zn n
 op:n.op<=13
 fact:n.op=3->n.i < md.val.length
 agent:n.op=9\/n.op=10->n.i < md.rel.length
 group:11<=n.op->1<=n.g/\n.g.toNat < 2^md.rel.length
def Qjf(md:Md)(n:Nd)(x y:Nat):Nat :=
 if n.op=3 then md.val.getD n.i.toNat 0 else if n.op<=8 then Re n.op x y (Zl md.n.toNat)
 else if n.op=9 then Kj (md.rel.getD n.i.toNat []) md.n.toNat x
 else if n.op=10 then Yc (Zl md.n.toNat) (Kj (md.rel.getD n.i.toNat []) md.n.toNat (Yc (Zl md.n.toNat) x))
 else if n.op=11 then Kj ((List.range md.n.toNat).map (Vt md.rel n.g.toNat false md.n.toNat)) md.n.toNat x
 else if n.op=12 then Kj ((List.range md.n.toNat).map (Vt md.rel n.g.toNat true md.n.toNat)) md.n.toNat x
 else Gb ((List.range md.n.toNat).map (Vt md.rel n.g.toNat false md.n.toNat)) md.n.toNat x y
def Zzb(md:Md)(f:List Nd)(out:List Nat)(k:Nat):Nat :=
 if Iw md f (k:Int)then Qjf md (f.getD k Nd.zero) (if Qh (f.getD k Nd.zero).op then out.getD (f.getD k Nd.zero).x.toNat 0 else 0) (if Qc (f.getD k Nd.zero).op then out.getD (f.getD k Nd.zero).y.toNat 0 else 0)else 0
def Qsp(md:Md)(f:List Nd):Nat->List Nat
 |0=> []
 |k+1=>Qsp md f k++ [Zzb md f (Qsp md f k) k]
theorem Ya {md:Md} {f:List Nd}(h:Jr md f=0):Zy md=0/\check f=0/\Yw (Jh f) 15=true/\Yg f md.rel.length md.val.length=true:=by
 unfold Jr at h;by_cases h1:Zy md≠0
 ·rw [if_pos h1]at h;exact absurd h h1
 rw [if_neg h1]at h;by_cases h2:check f≠0
 ·rw [if_pos h2]at h;exact absurd h h2
 rw [if_neg h2]at h;cases h3:Yw (Jh f) 15
 ·rw [if_pos h3]at h;cases h
 rw [if_neg (by rw [h3];simp)]at h;cases h4:Yg f md.rel.length md.val.length
 ·rw [if_pos h4]at h;cases h
 exact⟨Classical.not_not.1 h1,Classical.not_not.1 h2,rfl,rfl⟩
def Qrs(md:Md)(f:List Nd):Int:=if Jr md (Qg f)=0 then 0 else Jr md f
def Qo8(md:Md)(f:List Nd):Nat:=if Jr md (Qg f)=0 then(Qsp md (Qg f) (Qg f).length).getD ((Qg f).length - 1) 0 else 0
def atE(md:Md)(f:List Nd)(i:Int):Int:=if Qrs md f=0 then(if i < 0\/md.n<=i then 2 else 0)else Qrs md f
def Zz1(md:Md)(f:List Nd)(i:Int):Bool:=if Qrs md f=0 then(if i < 0\/md.n<=i then false else(Qo8 md f).testBit i.toNat)else false
theorem Ha:∀(l:List Nd) (s:Nat),(∀i,s.testBit i=true->(l.foldl (fun s n=>s|||(Yd n.op).toNat) s).testBit i=true)/\∀n∈l,∀i,(Yd n.op).toNat.testBit i=true->(l.foldl (fun s n=>s|||(Yd n.op).toNat) s).testBit i=true
 |[],_=>⟨fun _ h=>h,fun _ h=>by cases h⟩
 |a :: l,s=>by
  obtain⟨h1,h2⟩:=Ha l (s|||(Yd a.op).toNat);refine⟨fun i hi=>h1 i (by rw [Nat.testBit_or,hi];rfl),fun n hn i hi=> ?_⟩;rcases List.mem_cons.1 hn with rfl|hn
  ·exact h1 i (by rw [Nat.testBit_or,hi,Bool.or_true])
  exact h2 n hn i hi
theorem Qj0:∀(l:List Nd) (s:Nat),(∀i,s.testBit i=true->(l.foldl agS s).testBit i=true)/\∀n∈l,∀i,((Qe n.op=true/\i=n.i.toNat)\/n.g.toNat.testBit i=true)->(l.foldl agS s).testBit i=true
 |[],_=>⟨fun _ h=>h,fun _ h=>by cases h⟩
 |a :: l,s=>by
  obtain⟨h1,h2⟩:=Qj0 l (agS s a);refine⟨fun i hi=>h1 i (by unfold agS;rw [Nat.testBit_or,Nat.testBit_or,hi];rfl),fun n hn i hi=> ?_⟩;rcases List.mem_cons.1 hn with rfl|hn
  ·refine h1 i ?_;unfold agS;rw [Nat.testBit_or,Nat.testBit_or];rcases hi with⟨ha,rfl⟩|hg
   ·rw [if_pos ha,Nat.testBit_two_pow];simp
   rw [hg,Bool.or_true]
  exact h2 n hn i hi
theorem Qj9:∀(l:List Nd) (s:Nat),(∀i,s.testBit i=true->(l.foldl faS s).testBit i=true)/\∀n∈l,∀i,(n.op=3/\i=n.i.toNat)->(l.foldl faS s).testBit i=true
 |[],_=>⟨fun _ h=>h,fun _ h=>by cases h⟩
 |a :: l,s=>by
  obtain⟨h1,h2⟩:=Qj9 l (faS s a)
  refine⟨fun i hi=>h1 i (by unfold faS;split;· rw [Nat.testBit_or,hi];rfl
                            ·exact hi),fun n hn i hi=> ?_⟩
  rcases List.mem_cons.1 hn with rfl|hn
  ·refine h1 i ?_;obtain⟨ho,rfl⟩:=hi;unfold faS;rw [if_pos ho,Nat.testBit_or,Nat.testBit_two_pow];simp
  exact h2 n hn i hi
theorem Np {m n:Nd}(h:m.head=n.head):m.op=n.op/\m.i=n.i/\m.g=n.g:=by
 have h1:=congrArg Nd.op h;have h2:=congrArg Nd.i h;have h3:=congrArg Nd.g h;exact⟨h1,h2,h3⟩
theorem Qz7 {g k:Nat}(h:∀i,g.testBit i=true->i < k):g < 2^k:=by
 rcases Nat.lt_or_ge g (2^k)with h1|h1
 ·exact h1
 obtain⟨i,hi1,hi2⟩:=Nat.exists_ge_and_testBit_of_ge_two_pow h1;have:=h i hi2;omega
theorem Qt8 {md:Md} {f:List Nd} {k:Nat} {n:Nd}(hc:check f=0)(hk:f[k]?=some n)(hf:Iw md f (k:Int)=true)(_hr4:md.rel.length<=4):Qxd md n:=by
 have hkl:=(List.getElem?_eq_some_iff.1 hk).1;have hh:=Dx hc n (List.mem_of_getElem? hk);unfold Iw at hf;rw [Bool.and_eq_true]at hf;obtain⟨h1,h2⟩:=hf;have hg:=(Qke hc hkl).2.1;have ht:=Fs hc hkl;have htk:(tr f k).ok:=Qxp (Ja hc) k hkl;have hcc:Qg (Jb f (k:Int))=Qf (tr f k):=by
  rw [Ko hg,ht,Vf htk]
 obtain⟨m,hm,hmt,_⟩:=Oq htk;have hmm:=List.mem_of_getElem? hm;have hmh:=Np (Qli ((Vo (Ja hc) hk).symm.trans hmt)).1;unfold Yg at h2;rw [Bool.and_eq_true,Bool.and_eq_true,List.all_eq_true,List.all_eq_true]at h2;rw [hcc]at h2;have hag:∀i,((Qe n.op=true/\i=n.i.toNat)\/n.g.toNat.testBit i=true)->i < 4->i < md.rel.length:=fun i hi hi4=>by
  have h3:=(Qj0 (Qf (tr f k)) 0).2 m hmm i (by rw [<-hmh.1,<-hmh.2.1,<-hmh.2.2];exact hi);have h4:=h2.2.1 i (List.mem_range.2 hi4);unfold Kb Jn at h4;rw [h3]at h4
  simpa using h4
 refine⟨hh,?_,fun ho=> ?_,fun ho=> ?_,fun ho=> ?_⟩
 ·have hop21:=(Sh n.op).1 hh.1;have hfr:Yw (Yd m.op).toNat 15=true:=by
   rw [Vg]at h1⊢;intro i hi;refine h1 i ?_;unfold Jh;rw [hcc];exact(Ha (Qf (tr f k)) 0).2 m hmm i hi
  rw [<-hmh.1]at hfr;rcases Dn n.op with h|h|h|h|h|h|h|h|h|h|h|h|h|h|h|h|h|h|h|h|h|h|h <;> first|omega|(rw [h]at hfr;exact absurd hfr (by decide))
 ·have hb:=Fr hh ho;have h3:=(Qj9 (Qf (tr f k)) 0).2 m hmm n.i.toNat ⟨by rw [<-hmh.1];exact ho,by rw [<-hmh.2.1]⟩;have h4:=h2.2.2 n.i.toNat (List.mem_range.2 (by omega));unfold Kb Je at h4;rw [h3]at h4;have:n.i.toNat < md.val.length:=by simpa using h4
  omega
 ·have ha:Qe n.op=true:=by rcases ho with h|h <;>(rw [h];rfl)
  have hb:=Xr hh ha;have:=hag n.i.toNat (.inl ⟨ha,rfl⟩) (by omega);omega
 have hb:=Ga hh;have hop13:n.op<=21:=((Sh n.op).1 hh.1).2;refine⟨?_,Qz7 fun i hi=>hag i (.inr hi) (Vm (n:=4) (by omega) hi)⟩;obtain⟨_,h3,h4,_,_⟩:=hh;cases hgr:Zz n.op
 ·exfalso
  have hfr:Yw (Yd m.op).toNat 15=true:=by
   rw [Vg]at h1⊢;intro i hi;refine h1 i ?_;unfold Jh;rw [hcc];exact(Ha (Qf (tr f k)) 0).2 m hmm i hi
  rw [<-hmh.1]at hfr;rcases Dn n.op with h|h|h|h|h|h|h|h|h|h|h|h|h|h|h|h|h|h|h|h|h|h|h <;> first|omega|(rw [h]at hfr;exact absurd hfr (by decide))|(rw [h]at hgr;cases hgr)
 unfold Jg at h4;simp only [Qr,hgr,Bool.or_eq_false_iff]at h4;simp at h4;omega
inductive Rch {α:Type} (r:α->α->Prop):α->α->Prop
 |one {a b:α} :r a b->Rch r a b
 |cons {a b c:α} :r a b->Rch r b c->Rch r a c
theorem Rch.snoc {α:Type} {r:α->α->Prop} {a b c:α}(h:Rch r a b)(k:r b c):Rch r a c:=by
 induction h with
 |one h=>exact .cons h (.one k)
 |cons h _ ih=>exact .cons h (ih k)
theorem Rch.map {α β:Type} {r:α->α->Prop} {s:β->β->Prop}(f:α->β)(hf:∀a b,r a b->s (f a) (f b)) {a b:α}(h:Rch r a b):Rch s (f a) (f b):=by
 induction h with
 |one h=>exact .one (hf _ _ h)
 |cons h _ ih=>exact .cons (hf _ _ h) ih
theorem Rch.mono {α:Type} {r s:α->α->Prop}(hf:∀a b,r a b->s a b) {a b:α}(h:Rch r a b):Rch s a b:=by
 induction h with
 |one h=>exact .one (hf _ _ h)
 |cons h _ ih=>exact .cons (hf _ _ h) ih
structure KM where
 W:Type
 R:Int->W->W->Prop
 V:Int->W->Prop
def Yl(g:Int)(i:Nat):Bool:=g.toNat.testBit i
def KM.step(M:KM)(g:Int)(c:M.W->Prop)(u v:M.W):Prop:=(∃i:Nat,i < 4/\Yl g i=true/\M.R (i:Int) u v)/\c v
def KM.sat(M:KM):Tr->M.W->Prop
 |.leaf n,w=>n.op=1\/(n.op=3/\M.V n.i w)
 |.one n a,w =>
  if n.op=4 then ¬M.sat a w
  else if n.op=9 then ∀v,M.R n.i w v->M.sat a v
  else if n.op=10 then ∃v,M.R n.i w v/\M.sat a v
  else if n.op=11 then ∀i:Nat,i < 4->Yl n.g i=true->∀v,M.R (i:Int) w v->M.sat a v
  else if n.op=12 then ∀v,(∀i:Nat,i < 4->Yl n.g i=true->M.R (i:Int) w v)->M.sat a v
  else False
 |.two n a b,w =>
  if n.op=5 then M.sat a w/\M.sat b w
  else if n.op=6 then M.sat a w\/M.sat b w
  else if n.op=7 then M.sat a w->M.sat b w
  else if n.op=8 then(M.sat a w↔M.sat b w)
  else if n.op=13 then ∀v,Rch (M.step n.g (M.sat a)) w v->M.sat b v
  else False
structure Frm (lg:Int) {W:Type} (R:W->W->Prop):Prop where
 ser:lg=1\/lg=5->∀w,∃v,R w v
 refl:lg=2\/lg=4\/lg=6->∀w,R w w
 trans:3<=lg/\lg<=6->∀u v w,R u v->R v w->R u w
 eucl:lg=5\/lg=6->∀u v w,R u v->R u w->R v w
def KM.In(M:KM)(lg:Int):Prop:=∀i:Int,Frm lg (M.R i)
def ev(th:Tr->Bool):Tr->Bool
 |.leaf n=>if n.op=3 then th (.leaf n)else n.op==1
 |.one n a=>if n.op=4 then !ev th a else if n.op=9 then th (.one n a)else false
 |.two n a b =>
  if n.op=5 then ev th a&&ev th b
  else if n.op=6 then ev th a||ev th b
  else if n.op=7 then !ev th a||ev th b
  else if n.op=8 then ev th a==ev th b
  else if n.op=13 then th (.two n a b)else false
def cov(B:List Tr):Tr->Prop
 |.leaf n=>n.op=3->.leaf n∈B
 |.one n a=>if n.op=9 then .one n a∈B else cov B a
 |.two n a b=>if n.op=13 then .two n a b∈B else cov B a/\cov B b
def lang:Tr->Prop
 |.leaf _=>True
 |.one n a=>(n.op=4\/n.op=9)/\lang a
 |.two n a b=>((5<=n.op/\n.op<=8)\/n.op=13)/\lang a/\lang b
def Xt(i:Nat)(n:Nd)(a b:Tr):Tr:=.one ⟨9,i,0,0,0,0⟩ (.two ⟨7,0,0,0,0,0⟩ a (.two ⟨5,0,0,0,0,0⟩ b (.two n a b)))
structure Cg (B:List Tr):Prop where
 know:∀n a,.one n a∈B->n.op=9/\cov B a/\lang a/\0<=n.i/\n.i < 4
 com:∀n a b,.two n a b∈B->n.op=13/\cov B a/\cov B b/\lang a/\lang b/\∀i:Nat,i < 4->Yl n.g i=true->Xt i n a b∈B
def Vs(lg:Int)(here hold there:Bool):Bool :=
 if lg<=2 then !here||hold
 else if lg=3 then !here||(hold&&there)
 else if lg=4 then !here||there
 else if lg=6 then here==there
 else(here==there)&&(!here||hold)
def Qxm(lg:Int):Prop:=lg=2\/lg=4\/lg=6
structure Coh (lg:Int) (B:List Tr) (th:Tr->Bool):Prop where
 com:∀n a b,.two n a b∈B->(th (.two n a b)=true↔∀i:Nat,i < 4->Yl n.g i=true->th (Xt i n a b)=true)
 know:Qxm lg->∀n a,.one n a∈B->th (.one n a)=true->ev th a=true
def Sb(lg:Int)(B:List Tr)(i:Int)(th th':Tr->Bool):Prop :=
 ∀n a,.one n a∈B->n.i=i->Vs lg (th (.one n a)) (ev th' a) (th' (.one n a))=true
section
variable {T:Type} (lg:Int) (B:List Tr) (S:T->Prop) (th:T->Tr->Bool)
def Lp(g:Int)(a:Tr)(t u:T):Prop:=S u/\ev (th u) a=true/\∃i:Nat,i < 4/\Yl g i=true/\Sb lg B (i:Int) (th t) (th u)
structure Pc:Prop where
 coh:∀t,S t->Coh lg B (th t)
 ser:lg=1\/lg=5->∀t,S t->∀i:Int,(∃n a,.one n a∈B/\n.i=i)->∃u,S u/\Sb lg B i (th t) (th u)
 know:∀t,S t->∀n a,.one n a∈B->th t (.one n a)=false->∃u,S u/\ev (th u) a=false/\Sb lg B n.i (th t) (th u)
 com:∀t,S t->∀n a b,.two n a b∈B->th t (.two n a b)=false->∃u,Rch (Lp lg B S th n.g a) t u/\ev (th u) b=false
end
theorem Qnq {M:KM} {a b:Tr} {w:M.W} :M.sat (.two ⟨7,0,0,0,0,0⟩ a b) w↔(M.sat a w->M.sat b w):=by simp [KM.sat]
theorem Qvl {M:KM} {a b:Tr} {w:M.W} :M.sat (.two ⟨5,0,0,0,0,0⟩ a b) w↔(M.sat a w/\M.sat b w):=by simp [KM.sat]
theorem Gt {M:KM} {n:Nd} {a:Tr} {w:M.W}(h:n.op=9):M.sat (.one n a) w↔∀v,M.R n.i w v->M.sat a v:=by simp [KM.sat,h]
theorem Mj {M:KM} {n:Nd} {a b:Tr} {w:M.W}(h:n.op=13):M.sat (.two n a b) w↔∀v,Rch (M.step n.g (M.sat a)) w v->M.sat b v:=by simp [KM.sat,h]
theorem Qqf {M:KM} {i:Nat} {n:Nd} {a b:Tr} {w:M.W} :M.sat (Xt i n a b) w↔∀v,M.R (i:Int) w v->M.sat a v->M.sat b v/\M.sat (.two n a b) v:=by
 unfold Xt;rw [Gt rfl];constructor
 ·intro h v hv ha;exact Qvl.1 (Qnq.1 (h v hv) ha)
 intro h v hv;exact Qnq.2 fun ha=>Qvl.2 (h v hv ha)
theorem Qdf {M:KM} {n:Nd} {a b:Tr} {w:M.W}(h:n.op=13):M.sat (.two n a b) w↔∀i:Nat,i < 4->Yl n.g i=true->M.sat (Xt i n a b) w:=by
 constructor
 ·intro hc i hi hb;rw [Qqf];intro v hv ha;rw [Mj h]at hc;refine⟨hc v (.one ⟨⟨i,hi,hb,hv⟩,ha⟩),?_⟩;rw [Mj h];exact fun u hu=>hc u (.cons ⟨⟨i,hi,hb,hv⟩,ha⟩ hu)
 intro hu;rw [Mj h];intro v hv;cases hv with
 |one hs =>
  obtain⟨⟨i,hi,hb,hr⟩,ha⟩:=hs;exact((Qqf.1 (hu i hi hb)) v hr ha).1
 |cons hs hr =>
  obtain⟨⟨i,hi,hb,hr'⟩,ha⟩:=hs;exact((Mj h).1 ((Qqf.1 (hu i hi hb)) _ hr' ha).2) v hr
theorem Wl {M:KM} {B:List Tr} {w:M.W} {th:Tr->Bool}(hth:∀f∈B,th f=true↔M.sat f w):∀f,cov B f->lang f->(ev th f=true↔M.sat f w)
 |.leaf n,hc,_=>by
  by_cases h3:n.op=3
  ·have:=hth _ (hc h3);simp only [ev,h3,if_true];exact this
  simp only [ev,h3,if_false,KM.sat,beq_iff_eq,false_and,or_false]
 |.one n a,hc,hl=>by
  by_cases h9:n.op=9
  ·have hc':.one n a∈B:=by simpa [cov,h9]using hc
   have:=hth _ hc';rw [<-this];simp [ev,h9]
  have h4:n.op=4:=hl.1.resolve_right h9;have hc':cov B a:=by simpa [cov,h4]using hc
  have:=Wl hth a hc' hl.2;simp only [ev,KM.sat,h4,if_true,Bool.not_eq_true'];rw [<-this];simp
 |.two n a b,hc,hl=>by
  by_cases h13:n.op=13
  ·have hc':.two n a b∈B:=by simpa [cov,h13]using hc
   have:=hth _ hc';rw [<-this];simp [ev,h13]
  have hc':cov B a/\cov B b:=by simpa [cov,h13]using hc
  have ha:=Wl hth a hc'.1 hl.2.1;have hb:=Wl hth b hc'.2 hl.2.2;have ho:n.op=5\/n.op=6\/n.op=7\/n.op=8:=by
   have:=hl.1.resolve_right h13;omega
  rcases ho with ho|ho|ho|ho
  ·simp [ev,KM.sat,ho,ha,hb]
  ·simp [ev,KM.sat,ho,ha,hb]
  ·simp only [ev,KM.sat,ho];simp only [show ¬(7:Int)=5 by decide,show ¬(7:Int)=6 by decide,if_false,if_true,Bool.or_eq_true,Bool.not_eq_true'];rw [<-ha,<-hb];cases ev th a <;> cases ev th b <;> simp
  simp only [ev,KM.sat,ho];simp only [show ¬(8:Int)=5 by decide,show ¬(8:Int)=6 by decide,show ¬(8:Int)=7 by decide,if_false,if_true,beq_iff_eq];rw [<-ha,<-hb];cases ev th a <;> cases ev th b <;> simp
open Classical in
noncomputable def thW (M:KM) (w:M.W) (f:Tr):Bool:=decide (M.sat f w)
theorem Gi {M:KM} {w:M.W} {f:Tr} :thW M w f=true↔M.sat f w:=by simp [thW]
section
variable {lg:Int} {B:List Tr} {M:KM}
theorem evW(w:M.W) {f:Tr}(hc:cov B f)(hl:lang f):ev (thW M w) f=true↔M.sat f w:=Wl (B:=B) (fun _ _=>Gi) f hc hl
theorem Qk5(hB:Cg B)(hM:M.In lg)(w:M.W):Coh lg B (thW M w) where
 com n a b h:=by
  rw [Gi,Qdf (hB.com n a b h).1];exact⟨fun k i hi hb=>Gi.2 (k i hi hb),fun k i hi hb=>Gi.1 (k i hi hb)⟩
 know hl n a h ht:=by
  obtain⟨h9,hc,hla,_⟩:=hB.know n a h;rw [evW w hc hla];exact(Gt h9).1 (Gi.1 ht) w ((hM n.i).refl hl w)
theorem Il {lg:Int} {here hold there:Bool}(h1:here=true->hold=true)(h2:3<=lg/\lg<=6->here=true->there=true)(h3:lg=5\/lg=6->there=true->here=true)(hlg:lg<=6):Vs lg here hold there=true:=by
 unfold Vs;by_cases a:lg<=2
 ·rw [if_pos a];cases here <;> simp_all
 rw [if_neg a];have h2:=h2 ⟨by omega,hlg⟩;by_cases b:lg=3
 ·rw [if_pos b];cases here <;> simp_all
 rw [if_neg b];by_cases c:lg=4
 ·rw [if_pos c];cases here <;> simp_all
 rw [if_neg c];have h3:=h3 (by omega);by_cases d:lg=6
 ·rw [if_pos d];cases here <;> cases there <;> simp_all
 rw [if_neg d];cases here <;> cases there <;> simp_all
theorem Ep(hB:Cg B)(hM:M.In lg)(hlg:lg<=6) {i:Int} {w v:M.W}(hr:M.R i w v):Sb lg B i (thW M w) (thW M v):=by
 intro n a h hi;subst hi;obtain⟨h9,hc,hla,_⟩:=hB.know n a h;refine Il (fun e=> ?_) (fun hl e=> ?_) (fun hl e=> ?_) hlg
 ·rw [evW v hc hla];exact(Gt h9).1 (Gi.1 e) v hr
 ·rw [Gi,Gt h9];exact fun u hu=>(Gt h9).1 (Gi.1 e) u ((hM n.i).trans hl w v u hr hu)
 rw [Gi,Gt h9];exact fun u hu=>(Gt h9).1 (Gi.1 e) u ((hM n.i).eucl hl w v u hr hu)
theorem Qs2(hB:Cg B)(hM:M.In lg)(hlg:lg<=6):Pc lg B (fun _:M.W=>True) (thW M) where
 coh w _:=Qk5 hB hM w
 ser hl w _ i _:=by
  obtain⟨v,hv⟩:=(hM i).ser hl w;exact⟨v,trivial,Ep hB hM hlg hv⟩
 know w _ n a h hf:=by
  obtain⟨h9,hc,hla,_⟩:=hB.know n a h;have hn:¬M.sat (.one n a) w:=fun hs=>by rw [Gi.2 hs]at hf;cases hf
  rw [Gt h9]at hn;obtain⟨v,hv⟩:=Classical.not_forall.1 hn;obtain⟨hr,ha⟩:=Classical.not_imp.1 hv;refine⟨v,trivial,?_,Ep hB hM hlg hr⟩;cases e:ev (thW M v) a
  ·rfl
  exact absurd ((evW v hc hla).1 e) ha
 com w _ n a b h hf:=by
  obtain⟨h13,hca,hcb,hla,hlb,_⟩:=hB.com n a b h;have hn:¬M.sat (.two n a b) w:=fun hs=>by rw [Gi.2 hs]at hf;cases hf
  rw [Mj h13]at hn;obtain⟨v,hv⟩:=Classical.not_forall.1 hn;obtain⟨hr,hb⟩:=Classical.not_imp.1 hv;refine⟨v,hr.mono fun x y hxy=> ?_,?_⟩
  ·obtain⟨⟨i,hi,hg,hR⟩,ha⟩:=hxy;exact⟨trivial,(evW y hca hla).2 ha,i,hi,hg,Ep hB hM hlg hR⟩
  cases e:ev (thW M v) b
  ·rfl
  exact absurd ((evW v hcb hlb).1 e) hb
end
section
variable {T:Type} (lg:Int) (B:List Tr) (S:T->Prop) (th:T->Tr->Bool)
def Dd:KM:=⟨{t:T // S t},fun i t u=>Sb lg B i (th t.1) (th u.1),fun p t=>th t.1 (.leaf ⟨3,p,0,0,0,0⟩)=true⟩
end
section
variable {T:Type} {lg:Int} {B:List Tr} {S:T->Prop} {th:T->Tr->Bool}
theorem Qts {lg:Int} {here hold there:Bool}(h:Vs lg here hold there=true)(hh:here=true)(hr:Qxm lg->there=true->hold=true):hold=true:=by
 subst hh;unfold Vs at h;by_cases a:lg<=2
 ·rw [if_pos a]at h;simpa using h
 rw [if_neg a]at h;by_cases b:lg=3
 ·rw [if_pos b]at h;simp at h;exact h.1
 rw [if_neg b]at h;by_cases c:lg=4
 ·rw [if_pos c]at h;simp at h;exact hr (.inr (.inl c)) h
 rw [if_neg c]at h;by_cases d:lg=6
 ·rw [if_pos d]at h;simp at h;exact hr (.inr (.inr d)) h
 rw [if_neg d]at h;simp at h;exact h.2
theorem Sq {lg:Int} {here hold there:Bool}(h:Vs lg here hold there=true)(hl:3<=lg)(hh:here=true):there=true:=by
 subst hh;unfold Vs at h;rw [if_neg (by omega)]at h;by_cases b:lg=3
 ·rw [if_pos b]at h;simp at h;exact h.2
 rw [if_neg b]at h;by_cases c:lg=4
 ·rw [if_pos c]at h;simp at h;exact h
 rw [if_neg c]at h;by_cases d:lg=6
 ·rw [if_pos d]at h;simp at h;exact h
 rw [if_neg d]at h;simp at h;exact h.1
theorem Tt {lg:Int} {here hold there:Bool}(h:Vs lg here hold there=true)(hl:5<=lg)(ht:there=true):here=true:=by
 subst ht;unfold Vs at h;rw [if_neg (by omega),if_neg (by omega),if_neg (by omega)]at h;by_cases d:lg=6
 ·rw [if_pos d]at h;simpa using h
 rw [if_neg d]at h;simp at h;exact h.1
theorem Pr(hF:Pc lg B S th) {i:Int} {t u:T}(hu:S u)(hp:Sb lg B i (th t) (th u)) {n:Nd} {a:Tr}(h:.one n a∈B)(hi:n.i=i)(ht:th t (.one n a)=true):ev (th u) a=true :=
 Qts (hp n a h hi) ht (fun hr e=>(hF.coh u hu).know hr n a h e)
theorem Qdi(hF:Pc lg B S th)(hlg:lg<=6):(Dd lg B S th).In lg:=fun i=> {
 ser:=fun hl w=>by
  by_cases ho:∃n a,Tr.one n a∈B/\n.i=i
  ·obtain⟨u,hu,hp⟩:=hF.ser hl w.1 w.2 i ho;exact⟨⟨u,hu⟩,hp⟩
  exact⟨w,fun n a h hi=>absurd ⟨n,a,h,hi⟩ ho⟩
 refl:=fun hl w n a h hi=>Il (fun e=>(hF.coh w.1 w.2).know hl n a h e) (fun _ e=>e) (fun _ e=>e) hlg
 trans:=fun hl u v w huv hvw n a h hi=>by
  have h1:=huv n a h hi;have h2:=hvw n a h hi;exact Il (fun e=>Pr hF w.2 hvw h hi (Sq h1 hl.1 e)) (fun _ e=>Sq h2 hl.1 (Sq h1 hl.1 e)) (fun k e=>Tt h1 (by omega) (Tt h2 (by omega) e)) hlg
 eucl:=fun hl u v w huv huw n a h hi=>by
  have h1:=huv n a h hi;have h2:=huw n a h hi;exact Il (fun e=>Pr hF w.2 huw h hi (Tt h1 (by omega) e)) (fun _ e=>Sq h2 (by omega) (Tt h1 (by omega) e)) (fun k e=>Sq h1 (by omega) (Tt h2 (by omega) e)) hlg }
def Cn:Tr->Prop
 |.leaf n=>n.op=3->n=⟨3,n.i,0,0,0,0⟩
 |.one _ a=>Cn a
 |.two _ a b=>Cn a/\Cn b
theorem La(hB:Cg B)(hF:Pc lg B S th):∀f,cov B f->lang f->Cn f->∀t:(Dd lg B S th).W,(ev (th t.1) f=true↔(Dd lg B S th).sat f t)
 |.leaf n,_,_,hk,t=>by
  by_cases h3:n.op=3
  ·have e:=hk h3;simp only [ev,h3,if_true,KM.sat,Dd,true_and,show ¬(3:Int)=1 by decide,false_or];rw [<-e]
  simp only [ev,h3,if_false,KM.sat,beq_iff_eq,false_and,or_false]
 |.one n a,hc,hl,hk,t=>by
  by_cases h9:n.op=9
  ·have hm:.one n a∈B:=by simpa [cov,h9]using hc
   obtain⟨_,hca,hla,_⟩:=hB.know n a hm;have ih:=La hB hF a hca hla hk;rw [Gt h9];have e:ev (th t.1) (.one n a)=th t.1 (.one n a):=by simp [ev,h9]
   rw [e];constructor
   ·intro ht v hr;rw [<-ih v];exact Pr hF v.2 hr hm rfl ht
   intro hs;cases ht:th t.1 (.one n a)
   ·obtain⟨u,hu,he,hp⟩:=hF.know t.1 t.2 n a hm ht;have:=(ih ⟨u,hu⟩).2 (hs ⟨u,hu⟩ hp);rw [he]at this;cases this
   rfl
  have h4:n.op=4:=hl.1.resolve_right h9;have hca:cov B a:=by simpa [cov,h4]using hc
  have ih:=La hB hF a hca hl.2 hk t;simp only [ev,KM.sat,h4,if_true,Bool.not_eq_true'];rw [<-ih];simp
 |.two n a b,hc,hl,hk,t=>by
  by_cases h13:n.op=13
  ·have hm:.two n a b∈B:=by simpa [cov,h13]using hc
   obtain⟨_,hca,hcb,hla,hlb,hun⟩:=hB.com n a b hm;have iha:=La hB hF a hca hla hk.1;have ihb:=La hB hF b hcb hlb hk.2;rw [Mj h13];have e:ev (th t.1) (.two n a b)=th t.1 (.two n a b):=by simp [ev,h13]
   rw [e];constructor
   ·intro ht v hr;have key:∀(s v:(Dd lg B S th).W),Rch ((Dd lg B S th).step n.g ((Dd lg B S th).sat a)) s v->th s.1 (.two n a b)=true->ev (th v.1) b=true:=by
     intro s v hr;have hstep:∀s v:(Dd lg B S th).W,(Dd lg B S th).step n.g ((Dd lg B S th).sat a) s v->th s.1 (.two n a b)=true->ev (th v.1) b=true/\th v.1 (.two n a b)=true:=by
      rintro s v ⟨⟨i,hi,hg,hp⟩,ha⟩ hs;have hsu:=((hF.coh s.1 s.2).com n a b hm).1 hs i hi hg;have hev:=Pr hF v.2 hp (hun i hi hg) rfl hsu;have hx:=(iha v).2 ha;simp only [ev,show ¬(7:Int)=5 by decide,show ¬(7:Int)=6 by decide,if_false,if_true,hx,Bool.not_true,Bool.false_or,Bool.and_eq_true,h13,show ¬(13:Int)=5 by decide,show ¬(13:Int)=6 by decide,show ¬(13:Int)=7 by decide,show ¬(13:Int)=8 by decide]at hev;exact hev
     induction hr with
     |one h=>intro hs;exact(hstep _ _ h hs).1
     |cons h _ ih=>intro hs;exact ih (hstep _ _ h hs).2
    rw [<-ihb v];exact key t v hr ht
   intro hs;cases ht:th t.1 (.two n a b)
   ·obtain⟨u,hp,he⟩:=hF.com t.1 t.2 n a b hm ht;have lift:∀(s u:T) (hs:S s),Rch (Lp lg B S th n.g a) s u->∃hu:S u,Rch ((Dd lg B S th).step n.g ((Dd lg B S th).sat a)) ⟨s,hs⟩ ⟨u,hu⟩:=by
     intro s u hs hr
     induction hr with
     |one h =>
      obtain⟨hu,hx,i,hi,hg,hp⟩:=h;exact⟨hu,.one (b:=(⟨_,hu⟩:(Dd lg B S th).W)) ⟨⟨i,hi,hg,hp⟩,(iha ⟨_,hu⟩).1 hx⟩⟩
     |cons h _ ih =>
      obtain⟨hu,hx,i,hi,hg,hp⟩:=h;obtain⟨hu2,h2⟩:=ih hu;exact⟨hu2,.cons (b:=(⟨_,hu⟩:(Dd lg B S th).W)) ⟨⟨i,hi,hg,hp⟩,(iha ⟨_,hu⟩).1 hx⟩ h2⟩
    obtain⟨hu,hr⟩:=lift t.1 u t.2 hp;have:=(ihb ⟨u,hu⟩).2 (hs ⟨u,hu⟩ hr);rw [he]at this;cases this
   rfl
  have hc':cov B a/\cov B b:=by simpa [cov,h13]using hc
  have ha:=La hB hF a hc'.1 hl.2.1 hk.1 t;have hb:=La hB hF b hc'.2 hl.2.2 hk.2 t;have ho:n.op=5\/n.op=6\/n.op=7\/n.op=8:=by
   have:=hl.1.resolve_right h13;omega
  rcases ho with ho|ho|ho|ho
  ·simp [ev,KM.sat,ho,ha,hb]
  ·simp [ev,KM.sat,ho,ha,hb]
  ·simp only [ev,KM.sat,ho];simp only [show ¬(7:Int)=5 by decide,show ¬(7:Int)=6 by decide,if_false,if_true,Bool.or_eq_true,Bool.not_eq_true'];rw [<-ha,<-hb];cases ev (th t.1) a <;> cases ev (th t.1) b <;> simp
  simp only [ev,KM.sat,ho];simp only [show ¬(8:Int)=5 by decide,show ¬(8:Int)=6 by decide,show ¬(8:Int)=7 by decide,if_false,if_true,beq_iff_eq];rw [<-ha,<-hb];cases ev (th t.1) a <;> cases ev (th t.1) b <;> simp
end
def Pe(l:List Nat)(n:Nat)(u v:Fin n):Prop:=(l.getD u.1 0).testBit v.1=true
def Kd(md:Md):KM where
 W:=Fin md.n.toNat
 R:=fun a u v=>if 0<=a/\a < md.rel.length then Pe (md.rel.getD a.toNat []) md.n.toNat u v else u=v
 V:=fun p w=>(md.val.getD p.toNat 0).testBit w.1=true
theorem Qo2(lg:Int) {W:Type} :Frm lg (fun u v:W=>u=v) where
 ser:=fun _ w=>⟨w,rfl⟩
 refl:=fun _ _=>rfl
 trans:=fun _ _ _ _ h1 h2=>h1.trans h2
 eucl:=fun _ _ _ _ h1 h2=>h1.symm.trans h2
theorem Qh5 {s n:Nat}(h:s < 2^n)(h0:s≠0):∃i,i < n/\s.testBit i=true:=by
 obtain⟨i,hi⟩:=Nat.exists_testBit_of_ne_zero h0;exact⟨i,Vm h hi,hi⟩
theorem Qa1 {l:List Nat}(h:Fk false l) {w u v:Nat}(hw:w < l.length)(hu:u < l.length)(h1:(l.getD w 0).testBit u=true)(h2:(l.getD u 0).testBit v=true):(l.getD w 0).testBit v=true:=by
 exact Vg.1 (h w u hw hu h1) v h2
theorem Qai {l:List Nat}(h:Fk true l) {w u v:Nat}(hw:w < l.length)(hu:u < l.length)(h1:(l.getD w 0).testBit u=true)(h2:(l.getD w 0).testBit v=true):(l.getD u 0).testBit v=true:=by
 exact Vg.1 (h w u hw hu h1) v h2
theorem Qcv {l:List Nat} {n:Nat} {lg:Int}(hl:l.length=n)(hv:Xb l=true)(hg:Fh lg l)(hr:0<=lg/\lg<=6):Frm lg (Pe l n):=by
 have hlt:∀i,i < n->l.getD i 0 < 2^n:=fun i hi=>(Ns.start (eu:=true) hl (by rw [<-hl];exact(Ul.1 hv).2)).lt i hi
 unfold Fh Bg at hg;refine⟨fun h w=> ?_,fun h w=> ?_,fun h u v w h1 h2=> ?_,fun h u v w h1 h2=> ?_⟩
 ·have h1:Ve 1 l:=hg 1 (by rcases h with rfl|rfl <;> simp);obtain⟨i,hi,hb⟩:=Qh5 (hlt w.1 w.2) (h1 w.1 (by rw [hl];exact w.2));exact⟨⟨i,hi⟩,hb⟩
 ·have h1:Ve 2 l:=hg 2 (by rcases h with rfl|rfl|rfl <;> simp);exact h1 w.1 (by rw [hl];exact w.2)
 ·have h3:Ve 4 l:=hg 4 (by
   have:lg=3\/lg=4\/lg=5\/lg=6:=by omega
   rcases this with rfl|rfl|rfl|rfl <;> simp)
  exact Qa1 h3 (by rw [hl];exact u.2) (by rw [hl];exact v.2) h1 h2
 have h3:Ve 5 l:=hg 5 (by rcases h with rfl|rfl <;> simp);exact Qai h3 (by rw [hl];exact u.2) (by rw [hl];exact v.2) h1 h2
theorem Qdc {md:Md} {lg:Int}(h:Fm md lg):(Kd md).In lg:=by
 intro a;show Frm lg (fun u v=>if 0<=a/\a < md.rel.length then Pe (md.rel.getD a.toNat []) md.n.toNat u v else u=v);by_cases ha:0<=a/\a < md.rel.length
 ·simp only [if_pos ha];have hm:md.rel.getD a.toNat []∈md.rel:=by
   rw [Qk,List.getElem?_eq_getElem (by omega)];exact List.getElem_mem _
  obtain⟨hv,_⟩:=Oh h.ck hm;have hl:=(Jv h.ck).2.2.2.2.1 _ hm;exact Qcv (by omega) hv (h.rel _ hm) h.lgr
 simp only [if_neg ha];exact Qo2 lg
theorem Rq(r:List Nat)(n s i:Nat):(Kj r n s).testBit i=true↔i < n/\∀v,(r.getD i 0).testBit v=true->s.testBit v=true:=by
 unfold Kj;rw [Df,Bool.and_eq_true,decide_eq_true_iff,Vg]
theorem Qa6(r:List Nat)(n s i:Nat)(h:∀v,(r.getD i 0).testBit v=true->v < n):
 (Yc (Zl n) (Kj r n (Yc (Zl n) s))).testBit i=true↔i < n/\∃v,(r.getD i 0).testBit v=true/\s.testBit v=true:=by
 rw [Gz,Bool.and_eq_true,Xy,decide_eq_true_iff];constructor
 ·rintro⟨hi,hb⟩;refine⟨hi,Classical.byContradiction fun hn=> ?_⟩;have:(Kj r n (Yc (Zl n) s)).testBit i=true:=(Rq ..).2 ⟨hi,fun v hv=>by
   rw [Gz,Xy,Bool.and_eq_true,decide_eq_true_iff];refine⟨h v hv,?_⟩;cases hs:s.testBit v
   ·rfl
   exact absurd ⟨v,hv,hs⟩ hn⟩
  rw [this]at hb;cases hb
 rintro⟨hi,v,hv,hs⟩;refine⟨hi,?_⟩;cases hb:(Kj r n (Yc (Zl n) s)).testBit i
 ·rfl
 have h2:=((Rq ..).1 hb).2 v hv;rw [Gz,hs,Bool.not_true,Bool.and_false]at h2;cases h2
theorem Qgw(rl:List (List Nat))(gn i v:Nat):∀(k s:Nat),(((List.range k).foldl (Fa rl gn false i) s).testBit v=true↔s.testBit v=true\/∃a,a < k/\gn.testBit a=true/\((rl.getD a []).getD i 0).testBit v=true)
 |0,s=>by simp
 |k+1,s=>by
  rw [Vi];have ih:=Qgw rl gn i v k s;unfold Fa;cases hg:gn.testBit k
  ·rw [if_neg (by simp)];rw [show(List.foldl (fun s a=>if gn.testBit a=true then if false=true then s&&&(rl.getD a []).getD i 0 else s|||(rl.getD a []).getD i 0 else s) s (List.range k))=(List.range k).foldl (Fa rl gn false i) s from rfl,ih];refine or_congr Iff.rfl ⟨fun⟨a,h1,h2,h3⟩=>⟨a,by omega,h2,h3⟩,fun⟨a,h1,h2,h3⟩=>⟨a,?_,h2,h3⟩⟩;have:a≠k:=fun e=>by rw [e,hg]at h2;cases h2
   omega
  rw [if_pos rfl,if_neg (by simp),Nat.testBit_or,Bool.or_eq_true];rw [show(List.foldl (fun s a=>if gn.testBit a=true then if false=true then s&&&(rl.getD a []).getD i 0 else s|||(rl.getD a []).getD i 0 else s) s (List.range k))=(List.range k).foldl (Fa rl gn false i) s from rfl,ih];constructor
  ·rintro((h|⟨a,h1,h2,h3⟩)|h)
   ·exact Or.inl h
   ·exact Or.inr ⟨a,by omega,h2,h3⟩
   exact Or.inr ⟨k,by omega,hg,h⟩
  rintro(h|⟨a,h1,h2,h3⟩)
  ·exact Or.inl (Or.inl h)
  by_cases e:a=k
  ·exact Or.inr (by rw [<-e];exact h3)
  exact Or.inl (Or.inr ⟨a,by omega,h2,h3⟩)
theorem Io(rl:List (List Nat))(gn n i v:Nat):(Vt rl gn false n i).testBit v=true↔∃a,a < rl.length/\gn.testBit a=true/\((rl.getD a []).getD i 0).testBit v=true:=by
 unfold Vt;rw [Qgw];simp
theorem Ii(rl:List (List Nat))(gn n i:Nat)(b:Bool)(hi:i < n):((List.range n).map (Vt rl gn b n)).getD i 0=Vt rl gn b n i:=by
 rw [Qk,List.getElem?_map,List.getElem?_range hi];rfl
def Uw(r:List Nat)(c:Nat)(u v:Nat):Prop:=(r.getD u 0).testBit v=true/\c.testBit v=true
theorem Qhj {α:Type} {r:α->α->Prop} {a b c:α}(h:Rch r a b)(hc:r b c):Rch r a c:=by
 induction h with
 |one h=>exact .cons h (.one hc)
 |cons h _ ih=>exact .cons h (ih hc)
theorem Tc(r:List Nat)(c a v:Nat):(r.getD a 0&&&c).testBit v=true↔Uw r c a v:=by
 rw [Nat.testBit_and,Bool.and_eq_true];rfl
theorem Qsh {r:List Nat} {c a s:Nat}(h:∀v,s.testBit v=true->Rch (Uw r c) a v)(u:Nat):∀v,(Lm r c s u).testBit v=true->Rch (Uw r c) a v:=by
 intro v hv;unfold Lm at hv;cases hu:s.testBit u
 ·rw [if_neg (by rw [hu];simp)]at hv;exact h v hv
 rw [if_pos hu,Nat.testBit_or,Bool.or_eq_true]at hv;rcases hv with hv|hv
 ·exact h v hv
 exact Qhj (h u hu) ((Tc ..).1 hv)
theorem Qyc {r:List Nat} {c a:Nat} :∀(n s:Nat),(∀v,s.testBit v=true->Rch (Uw r c) a v)->∀v,(Ug r c n s).testBit v=true->Rch (Uw r c) a v
 |0,s,h=>h
 |n+1,s,h=>by
  unfold Ug;rw [Vi];exact Qsh (Qyc n s h) n
theorem Qyh {r:List Nat} {c a n:Nat} :∀(k:Nat),∀v,((List.range k).foldl (fun s _=>Ug r c n s) (r.getD a 0&&&c)).testBit v=true->Rch (Uw r c) a v
 |0=>fun v hv=> .one ((Tc ..).1 hv)
 |k+1=>by
  rw [Vi];exact Qyc n _ (Qyh k)
theorem Qbi {r:List Nat} {c n a v:Nat}(h:(Ol r c n a).testBit v=true):Rch (Uw r c) a v:=Qyh n v h
theorem Qka {r:List Nat} {c s u v:Nat}(h:s.testBit v=true):(Lm r c s u).testBit v=true:=by
 unfold Lm
 split
 ·rw [Nat.testBit_or,h,Bool.true_or]
 exact h
theorem Qm0 {r:List Nat} {c s u v:Nat}(h:s.testBit u=true)(hst:Uw r c u v):(Lm r c s u).testBit v=true:=by
 unfold Lm;rw [if_pos h,Nat.testBit_or,(Tc r c u v).2 hst,Bool.or_true]
theorem Pn {r:List Nat} {c v:Nat} :∀(n s:Nat),s.testBit v=true->(Ug r c n s).testBit v=true
 |0,_,h=>h
 |n+1,s,h=>by
  unfold Ug;rw [Vi];exact Qka (Pn n s h)
theorem Qkf {r:List Nat} {c s u v:Nat}(hs:s.testBit u=true)(hst:Uw r c u v):∀(n:Nat),u < n->(Ug r c n s).testBit v=true
 |0,h=>absurd h (by omega)
 |n+1,h=>by
  unfold Ug;rw [Vi];by_cases e:u=n
  ·subst e;have h1:(Ug r c u s).testBit u=true:=Pn u s hs;unfold Ug at h1;exact Qm0 h1 hst
  exact Qka (Qkf hs hst n (by omega))
def Wg(r:List Nat)(c s:Nat):Prop:=∀u v,s.testBit u=true->Uw r c u v->s.testBit v=true
theorem Qsa {r:List Nat} {c s u:Nat}(h:Wg r c s):Lm r c s u=s:=by
 unfold Lm
 split
 ·rename_i hu;refine Nat.eq_of_testBit_eq fun v=> ?_
  rw [Nat.testBit_or];cases hb:(r.getD u 0&&&c).testBit v
  ·rw [Bool.or_false]
  rw [h u v hu ((Tc ..).1 hb)];rfl
 rfl
theorem Ek {r:List Nat} {c s:Nat}(h:Wg r c s):∀n,Ug r c n s=s
 |0=>rfl
 |n+1=>by
  unfold Ug;rw [Vi];have ih:=Ek h n;unfold Ug at ih;rw [ih,Qsa h]
def Qja(n s:Nat):Nat:=(List.range n).countP fun i=> !s.testBit i
theorem Qmf {r:List Nat} {c n s:Nat}(hb:∀u v,(r.getD u 0).testBit v=true->u < n/\v < n)(h:¬Wg r c s):Qja n (Ug r c n s) < Qja n s:=by
 obtain⟨u,v,h1,h2,h3⟩:∃u v,s.testBit u=true/\Uw r c u v/\s.testBit v=false:=Classical.byContradiction fun hn=>h fun u v h1 h2=>by
  cases h3:s.testBit v
  ·exact absurd ⟨u,v,h1,h2,h3⟩ hn
  rfl
 obtain⟨hu,hv⟩:=hb u v h2.1;unfold Qja;refine Hb (fun i _ hq=> ?_) ⟨v,List.mem_range.2 hv,by rw [h3];rfl,by rw [Qkf h1 h2 n hu];rfl⟩;cases hi:s.testBit i
 ·rfl
 rw [Pn n s hi]at hq;cases hq
theorem Zqq(n s:Nat):Qja n s<=n:=by
 have:=List.countP_le_length (p:=fun i=> !s.testBit i) (l:=List.range n);rw [List.length_range]at this;exact this
theorem Qh6 {r:List Nat} {c n s:Nat}(hb:∀u v,(r.getD u 0).testBit v=true->u < n/\v < n)(h:Qja n s=0):Wg r c s:=by
 intro u v _ h2;unfold Qja at h;rw [List.countP_eq_zero]at h;have:=h v (List.mem_range.2 (hb u v h2.1).2)
 simpa using this
theorem Qkd {r:List Nat} {c n a:Nat}(hb:∀u v,(r.getD u 0).testBit v=true->u < n/\v < n):∀k,Wg r c ((List.range k).foldl (fun s _=>Ug r c n s) (r.getD a 0&&&c))\/Qja n ((List.range k).foldl (fun s _=>Ug r c n s) (r.getD a 0&&&c))+k<=n
 |0=>Or.inr (Zqq _ _)
 |k+1=>by
  rw [Vi];rcases Qkd hb k with h|h
  ·exact Or.inl (by rw [Ek h];exact h)
  by_cases hc:Wg r c ((List.range k).foldl (fun s _=>Ug r c n s) (r.getD a 0&&&c))
  ·exact Or.inl (by rw [Ek hc];exact hc)
  have:=Qmf hb hc;exact Or.inr (by omega)
theorem Qfp {r:List Nat} {c n a v:Nat}(h:Uw r c a v):∀k,((List.range k).foldl (fun s _=>Ug r c n s) (r.getD a 0&&&c)).testBit v=true
 |0=>(Tc ..).2 h
 |k+1=>by
  rw [Vi];exact Pn n _ (Qfp h k)
theorem Qin {r:List Nat} {c s:Nat}(hc:Wg r c s) {a v:Nat}(h:Rch (Uw r c) a v):(∀u,Uw r c a u->s.testBit u=true)->s.testBit v=true:=by
 induction h with
 |one h=>exact fun hs=>hs _ h
 |cons h _ ih=>exact fun hs=>ih fun u hu=>hc _ u (hs _ h) hu
theorem Om {r:List Nat} {c n a v:Nat}(hb:∀u v,(r.getD u 0).testBit v=true->u < n/\v < n):(Ol r c n a).testBit v=true↔Rch (Uw r c) a v:=by
 refine⟨Qbi,fun h=> ?_⟩;have hc:Wg r c (Ol r c n a):=by
  rcases Qkd (a:=a) (c:=c) hb n with h|h
  ·exact h
  exact Qh6 hb (by unfold Ol;omega)
 exact Qin hc h fun u hu=>Qfp hu n
theorem Qjs {r:List Nat} {n:Nat}(hl:r.length=n)(hb:Zx r n=false):∀u v,(r.getD u 0).testBit v=true->u < n/\v < n:=fun u v h=>by
 by_cases hu:u < r.length
 ·have hm:r.getD u 0∈r:=by rw [Qk,Qv hu];exact List.getElem_mem hu
  have h2:=List.any_eq_false.1 hb _ hm;simp only [Bool.not_eq_true',decide_eq_false_iff_not,Nat.not_lt,Nat.not_le]at h2;exact⟨by omega,Vm h2 h⟩
 rw [Qk,List.getElem?_eq_none (by omega)]at h;simp at h
def gfF(r:List Nat)(n c s out:Nat):Nat:=Kj r n (Yc (Zl n) c|||(s&&&out))
theorem Sl {r:List Nat} {n c s out i:Nat}(hb:∀u v,(r.getD u 0).testBit v=true->u < n/\v < n):
 (gfF r n c s out).testBit i=true↔i < n/\∀v,(r.getD i 0).testBit v=true->c.testBit v=true->s.testBit v=true/\out.testBit v=true:=by
 unfold gfF;rw [Rq];refine and_congr_right fun _=>forall_congr' fun v=> ?_
 refine⟨fun h h1 h2=> ?_,fun h h1=> ?_⟩
 ·have:=h h1;rw [Nat.testBit_or,Gz,Nat.testBit_and,h2,Bool.not_true,Bool.and_false,Bool.false_or,Bool.and_eq_true]at this;exact this
 rw [Nat.testBit_or,Gz,Nat.testBit_and,Xy];cases hc:c.testBit v
 ·simp [(hb i v h1).2]
 obtain⟨h3,h4⟩:=h h1 hc;simp [h3,h4]
theorem Tx {r:List Nat} {n c s i:Nat}(hb:∀u v,(r.getD u 0).testBit v=true->u < n/\v < n):
 (Gb r n c s).testBit i=true↔i < n/\∀v,Rch (Uw r c) i v->s.testBit v=true:=by
 unfold Gb;rw [Df,Bool.and_eq_true,decide_eq_true_eq,Vg];exact and_congr_right fun _=>forall_congr' fun v=>by rw [Om hb]
theorem Qgk {r:List Nat} {n c s:Nat}(hb:∀u v,(r.getD u 0).testBit v=true->u < n/\v < n):∀i,(Gb r n c s).testBit i=true->(Zl n).testBit i=true:=fun i h=>by
 rw [Xy];exact decide_eq_true ((Tx hb).1 h).1
theorem Qgv {r:List Nat} {n c s out:Nat}(hb:∀u v,(r.getD u 0).testBit v=true->u < n/\v < n)(h:∀i,(Gb r n c s).testBit i=true->out.testBit i=true):
 ∀i,(Gb r n c s).testBit i=true->(gfF r n c s out).testBit i=true:=fun i hi=>by
 obtain⟨h1,h2⟩:=(Tx hb).1 hi;exact(Sl hb).2 ⟨h1,fun v hv hc=>⟨h2 v (.one ⟨hv,hc⟩),h v ((Tx hb).2 ⟨(hb i v hv).2,fun z hz=>h2 z (.cons ⟨hv,hc⟩ hz)⟩)⟩⟩
theorem Qcy {r:List Nat} {n c s:Nat}(hb:∀u v,(r.getD u 0).testBit v=true->u < n/\v < n):∀i,(gfF r n c s (Zl n)).testBit i=true->(Zl n).testBit i=true:=fun i h=>by
 rw [Xy];exact decide_eq_true ((Sl hb).1 h).1
theorem Qo6 {r:List Nat} {n c s out:Nat}(hb:∀u v,(r.getD u 0).testBit v=true->u < n/\v < n)(h:∀i,(gfF r n c s out).testBit i=true->out.testBit i=true):
 ∀i,(gfF r n c s (gfF r n c s out)).testBit i=true->(gfF r n c s out).testBit i=true:=fun i hi=>by
 obtain⟨h1,h2⟩:=(Sl hb).1 hi;exact(Sl hb).2 ⟨h1,fun v hv hc=>⟨(h2 v hv hc).1,h v (h2 v hv hc).2⟩⟩
theorem Qn3 {r:List Nat} {n c s out:Nat}(hb:∀u v,(r.getD u 0).testBit v=true->u < n/\v < n)(h:gfF r n c s out=out)(hi:∀i,(Gb r n c s).testBit i=true->out.testBit i=true):out=Gb r n c s:=by
 have hp:∀u v,Rch (Uw r c) u v->out.testBit u=true->s.testBit v=true:=fun u v hr=>by
  induction hr with
  |one hst=>intro ho;rw [<-h]at ho;exact(((Sl hb).1 ho).2 _ hst.1 hst.2).1
  |cons hst _ ih=>intro ho;rw [<-h]at ho;exact ih (((Sl hb).1 ho).2 _ hst.1 hst.2).2
 refine Nat.eq_of_testBit_eq fun i=> ?_
 rw [Bool.eq_iff_iff];refine⟨fun ho=>(Tx hb).2 ⟨?_,fun v hv=>hp i v hv ho⟩,hi i⟩;have ho2:=ho;rw [<-h]at ho2;exact((Sl hb).1 ho2).1
theorem Qit {a b:Nat}(h:∀i,a.testBit i=true->b.testBit i=true)(hne:a≠b):a < b:=by
 have e:a&&&b=a:=by
  refine Nat.eq_of_testBit_eq fun i=> ?_
  rw [Nat.testBit_and];cases ha:a.testBit i
  ·rfl
  rw [h i ha];rfl
 have:a<=b:=by rw [<-e];exact Nat.and_le_right
 omega
end Go.Proofs.YtkmclcmnoicagaaGreatDoor
