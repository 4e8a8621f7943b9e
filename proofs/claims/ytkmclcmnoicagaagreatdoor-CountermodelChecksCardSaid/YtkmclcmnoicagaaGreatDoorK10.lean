/- models of Kripke: the plain part of the walks of checkers (split off by splitpl.py): masks, relations, groups, what is checked, what fits, what holds. -/
import Derived.Test.YtkmclcmnoicagaaGreatDoorK07
namespace Go.Proofs.YtkmclcmnoicagaaGreatDoor
set_option maxRecDepth 100000
set_option maxHeartbeats 128000000
open Go.RowKit
theorem Ej {a b:List Nat}(hl:a.length=b.length)(h:∀k,k < a.length->a.getD k 0=b.getD k 0):a=b:=by
 refine List.ext_getElem hl fun i h1 h2=> ?_
 have:=h i h1;rw [Qk,Qk,Qv h1,Qv h2]at this;exact this
def Nk(l:List Nat)(k:Nat):List Nat:=(List.range l.length).map fun i=>if i < k then l.getD i 0|||2^i else l.getD i 0
theorem Qlp(l:List Nat):Nk l 0=l:=by
 refine List.ext_getElem (by simp [Nk]) fun i h1 h2=> ?_
 simp [Nk,h2]
theorem Fh(l:List Nat)(k:Nat):(Nk l k).length=l.length:=by simp [Nk]
theorem Mm {l:List Nat} {k i:Nat}(hi:i < l.length):(Nk l k).getD i 0=if i < k then l.getD i 0|||2^i else l.getD i 0:=by
 unfold Nk;rw [Qk,List.getElem?_map,List.getElem?_range hi];rfl
theorem Qlm {l:List Nat} {k:Nat}(hk:k < l.length):(Nk l k).set k (l.getD k 0|||2^k)=Nk l (k+1):=by
 refine Ej (by rw [List.length_set,Fh,Fh]) fun i hi=> ?_
 rw [List.length_set,Fh]at hi;rw [Ol (by rw [Fh];exact hk),Mm hi,Mm hi];by_cases e:k=i
 ·subst e;rw [if_pos rfl,if_pos (Nat.lt_succ_self _)]
 rw [if_neg e];by_cases h:i < k
 ·rw [if_pos h,if_pos (show i < k+1 by omega)]
 rw [if_neg h,if_neg (show ¬i < k+1 by omega)]
def Qk7(l:List Nat):Prop:=∀i,i < l.length->(l.getD i 0).testBit i=true
theorem Qc5 {l:List Nat} :Nk l l.length=l↔Qk7 l:=by
 constructor
 ·intro h i hi;have h1:=Mm (k:=l.length) hi;rw [h,if_pos hi]at h1;have:=(Qzv.1 h1.symm);rw [Yb]at this;exact this i (by rw [Nat.testBit_two_pow];simp)
 intro h;refine Ej (Fh _ _) fun i hi=> ?_
 rw [Fh]at hi;rw [Mm hi,if_pos hi,Qzv,Yb];intro j hj;rw [Nat.testBit_two_pow]at hj;have:i=j:=by simpa using hj
 rw [<-this];exact h i hi
def Zq(md:Md):Int :=
 if md.n < 1\/64 < md.n then 2 else if 4 < md.rel.length\/8 < md.val.length then 8
 else if md.rel.any (fun r=> !decide ((r.length:Int)=md.n))then 3
 else if Zb md.val md.n.toNat then 2 else if md.rel.any (fun r=>Zb r md.n.toNat)then 2 else 0
theorem Qyt {P:List Nat->Bool} {l:List (List Nat)} {k:Nat}(hk:k < l.length)(h:P (l.getD k [])=true):l.any P=true:=by
 rw [List.any_eq_true];exact⟨l[k],List.getElem_mem hk,by rw [Qk,Qv hk]at h;exact h⟩
theorem Qqk {P:List Nat->Bool} {l:List (List Nat)}(h:∀k,k < l.length->P (l.getD k [])=false):l.any P=false:=by
 rw [List.any_eq_false];intro s hs;obtain⟨k,hk,e⟩:=List.getElem_of_mem hs;have:=h k hk;rw [Qk,Qv hk]at this;have h2:P l[k]=false:=this;rw [e]at h2;rw [h2];simp
def Kz(q:Int)(l:List Nat):Prop :=
 if q=1 then ∀i,i < l.length->l.getD i 0≠0 else if q=2 then Qk7 l else if q=4 then Xo false l else Xo true l
def Gg(lg:Int):List Int:=if lg=0 then []else if lg=1 then [1]else if lg=2 then [2]else if lg=3 then [4]else if lg=4 then [2,4]else if lg=5 then [1,4,5]else [2,4,5]
def p15(lg:Int):Int:=if 0<=lg/\lg<=6 then 0 else 1
theorem Qzf {lg q:Int}(h:q∈Gg lg):q=1\/q=2\/q=4\/q=5:=by
 unfold Gg at h
 repeat' split at h
 all_goals(simp at h;try omega)
def Bo(lg:Int)(l:List Nat):Prop:=∀q∈Gg lg,Kz q l
theorem Qc0(lg:Int):(Gg lg).length<=3:=by
 unfold Gg
 repeat' split
 all_goals simp
structure Fd (md:Md) (lg:Int):Prop where
 lgr:0<=lg/\lg<=6
 ck:Zq md=0
 rel:∀r∈md.rel,Bo lg r
theorem Zn {md:Md}(h:Zq md=0):1<=md.n/\md.n<=64/\md.rel.length<=4/\md.val.length<=8/\(∀r∈md.rel,(r.length:Int)=md.n)/\Zb md.val md.n.toNat=false/\∀r∈md.rel,Zb r md.n.toNat=false:=by
 unfold Zq at h;by_cases h1:md.n < 1\/64 < md.n
 ·rw [if_pos h1]at h;cases h
 rw [if_neg h1]at h;by_cases h2:4 < md.rel.length\/8 < md.val.length
 ·rw [if_pos h2]at h;cases h
 rw [if_neg h2]at h;cases h3:md.rel.any (fun r=> !decide ((r.length:Int)=md.n))
 ·rw [h3]at h;cases h4:Zb md.val md.n.toNat
  ·rw [h4]at h;cases h5:md.rel.any (fun r=>Zb r md.n.toNat)
   ·rw [List.any_eq_false]at h3 h5;exact⟨by omega,by omega,by omega,by omega,fun r hr=>by simpa using h3 r hr,rfl,fun r hr=>by simpa using h5 r hr⟩
   rw [h5]at h;cases h
  rw [h4]at h;cases h
 rw [h3]at h;cases h
theorem Qzd {md:Md}(h:Zq md=0) {r:List Nat}(hr:r∈md.rel):Xq r=true/\0 < r.length:=by
 obtain⟨h1,h2,_,_,h3,_,h4⟩:=Zn h;have h5:=h3 r hr;have h6:=h4 r hr;have e:md.n.toNat=r.length:=by omega
 rw [e]at h6;exact⟨Fq.2 ⟨by omega,h6⟩,by omega⟩
theorem Ip {k:Nat}(h:k < 64):Qp (2^k):=by
 show 2^k < 18446744073709551616;rw [show(18446744073709551616:Nat)=2^64 from rfl];exact Nat.pow_lt_pow_right (by decide) h
theorem Wx {s k:Nat}(hs:Qp s)(hk:k < 64):bits .or .u64 (s:Int) (IntKind.u64.wrap ((2:Int)^k))=((s|||2^k:Nat):Int):=by
 rw [Lh hk];exact Xw hs (Ip hk)
theorem Em {a b:Nat}(ha:Qp a)(hb:Qp b):(bits .andNot .u64 (a:Int) (b:Int)==0)=Js a b:=by
 rw [Vx ha hb,<-Ly,Bool.eq_iff_iff,beq_iff_eq,beq_iff_eq];omega
def Gv(op:Int)(x y al:Nat):Nat :=
 if op=1 then al else if op=4 then Jv al x else if op=5 then x&&&y else if op=6 then x|||y else if op=7 then Jv al x|||y else if op=8 then Jv al (x^^^y)else 0
theorem Nr {a b:Nat}(ha:Qp a):Qp (a&&&b):=Nat.lt_of_le_of_lt Nat.and_le_left ha
theorem Wg {a b:Nat}(ha:Qp a)(hb:Qp b):Qp (a|||b):=Nat.or_lt_two_pow (n:=64) ha hb
theorem Qv1 {a b:Nat}(ha:Qp a)(hb:Qp b):Qp (a^^^b):=Nat.xor_lt_two_pow (n:=64) ha hb
theorem Qmg {op:Int} {x y al:Nat}(hx:Qp x)(hy:Qp y)(ha:Qp al):Qp (Gv op x y al):=by
 unfold Gv
 split
 ·exact ha
 split
 ·exact Un ha
 split
 ·exact Nr hx
 split
 ·exact Wg hx hy
 split
 ·exact Wg (Un ha) hy
 split
 ·exact Un ha
 show(0:Nat) < _;omega
def Vd(r:List Nat)(n s:Nat):Nat:=Vt n fun i=>Js (r.getD i 0) s
def Re(r:List Nat)(c s v:Nat):Nat:=if s.testBit v then s|||(r.getD v 0&&&c)else s
def Uz(r:List Nat)(c n s:Nat):Nat:=(List.range n).foldl (Re r c) s
def Fc(r:List Nat)(c n a:Nat):Nat:=(List.range n).foldl (fun s _=>Uz r c n s) (r.getD a 0&&&c)
theorem Qzt {r:List Nat}(hw:∀s∈r,Qp s) {c s v:Nat}(hs:Qp s):Qp (Re r c s v):=by
 unfold Re
 split
 ·exact Wg hs (Nr (Yr hw v))
 exact hs
theorem Ve {f:Nat->Nat->Nat}(k s:Nat):(List.range (k+1)).foldl f s=f ((List.range k).foldl f s) k:=by
 rw [List.range_succ,List.foldl_append];rfl
theorem Ft {f:Nat->Nat->Nat}(hf:∀s v,Qp s->Qp (f s v))(k s:Nat)(hs:Qp s):Qp ((List.range k).foldl f s):=by
 induction k with
 |zero=>exact hs
 |succ k ih=>rw [Ve];exact hf _ _ ih
theorem Qld {r:List Nat}(hw:∀s∈r,Qp s)(c n a:Nat):Qp (Fc r c n a):=
 Ft (fun s _ hs=>Ft (fun _ _ h=>Qzt hw h) n s hs) n _ (Nr (Yr hw a))
def Xx(r:List Nat)(n c s:Nat):Nat:=Vt n fun i=>Js (Fc r c n i) s
def Fk(rl:List (List Nat))(gn:Nat)(meet:Bool)(i s a:Nat):Nat:=if gn.testBit a then(if meet then s&&&(rl.getD a []).getD i 0 else s|||(rl.getD a []).getD i 0)else s
def Yz(rl:List (List Nat))(gn:Nat)(meet:Bool)(n i:Nat):Nat:=(List.range rl.length).foldl (Fk rl gn meet i) (if meet then Zs n else 0)
theorem Hh {rl:List (List Nat)}(hw:∀r∈rl,∀s∈r,Qp s) {gn i s a:Nat} {meet:Bool}(hs:Qp s):Qp (Fk rl gn meet i s a):=by
 unfold Fk;have h1:Qp ((rl.getD a []).getD i 0):=Yr (Rl hw a) i
 split
 ·split
  ·exact Nr hs
  exact Wg hs h1
 exact hs
theorem Qam {rl:List (List Nat)}(hw:∀r∈rl,∀s∈r,Qp s) {gn n i:Nat} {meet:Bool}(hn:n<=64):Qp (Yz rl gn meet n i):=by
 unfold Yz;refine Ft (fun s a h=>Hh hw h) _ _ ?_
 split
 ·exact Vl hn
 show(0:Nat) < _;omega
theorem Qyf {α:Type}(g:Nat->α)(k:Nat):(List.range (k+1)).map g=(List.range k).map g++ [g k]:=by
 rw [List.range_succ,List.map_append];rfl
theorem Qzs {k gn:Nat}(hk:k<=4)(hg:gn < 2^k):¬wrap64 ((2:Int)^k)<=(gn:Int):=by
 have hc:k=0\/k=1\/k=2\/k=3\/k=4:=by omega
 rcases hc with rfl|rfl|rfl|rfl|rfl <;>(unfold wrap64;simp at hg⊢;omega)
theorem Kw {n:Nd}(h:Zh n)(ho:Qo n.op=true):0<=n.i/\n.i < 4:=by
 obtain⟨_,_,h3,_,_⟩:=h;unfold Jt at h3;simp only [Qt,ho,Bool.or_eq_false_iff]at h3;simp at h3;omega
theorem Fm {n:Nd}(h:Zh n)(ho:n.op=3):0<=n.i/\n.i < 8:=by
 obtain⟨_,_,h3,_,_⟩:=h;unfold Jt at h3;rw [ho]at h3;simp [Qt,Zg,Qo,Qi,Zk]at h3;omega
theorem Ue {n:Nd}(h:Zh n):0<=n.g/\n.g < 16:=by
 obtain⟨_,h2,h3,_,_⟩:=h;cases hg:Zk n.op
 ·unfold Zd at h2;simp only [hg,Bool.or_eq_false_iff]at h2;simp at h2;omega
 unfold Jt at h3;simp only [Qt,hg,Bool.or_eq_false_iff]at h3;simp at h3;omega
def agS(s:Nat)(n:Nd):Nat:=(s|||(if Qo n.op then 2^n.i.toNat else 0))|||n.g.toNat
def faS(s:Nat)(n:Nd):Nat:=if n.op=3 then s|||2^n.i.toNat else s
def Jr(l:List Nd):Nat:=l.foldl agS 0
def Yy(l:List Nd):Nat:=l.foldl faS 0
theorem Zzk {s:Nat} {n:Nd}(h:Zh n)(hs:s < 2^4):agS s n < 2^4:=by
 unfold agS;have h1:=Ue h;refine Nat.or_lt_two_pow (Nat.or_lt_two_pow hs ?_) (by omega)
 split
 ·rename_i ho;have:=Kw h ho;exact Nat.pow_lt_pow_right (by decide) (by omega)
 decide
theorem Zzl {s:Nat} {n:Nd}(h:Zh n)(hs:s < 2^8):faS s n < 2^8:=by
 unfold faS
 split
 ·rename_i ho;have:=Fm h ho;exact Nat.or_lt_two_pow hs (Nat.pow_lt_pow_right (by decide) (by omega))
 exact hs
theorem Nb:∀(l:List Nd) (s:Nat),(∀n∈l,Zh n)->s < 2^4->l.foldl agS s < 2^4
 |[],_,_,hs=>hs
 |n :: l,_,h,hs=>Nb l _ (fun n hn=>h n (List.mem_cons_of_mem _ hn)) (Zzk (h n (List.mem_cons_self ..)) hs)
theorem Sg:∀(l:List Nd) (s:Nat),(∀n∈l,Zh n)->s < 2^8->l.foldl faS s < 2^8
 |[],_,_,hs=>hs
 |n :: l,_,h,hs=>Sg l _ (fun n hn=>h n (List.mem_cons_of_mem _ hn)) (Zzl (h n (List.mem_cons_self ..)) hs)
theorem Df {k:Nat}(hk:k < 8):wrap64 ((2:Int)^k)=((2^k:Nat):Int):=by
 have hc:k=0\/k=1\/k=2\/k=3\/k=4\/k=5\/k=6\/k=7:=by omega
 rcases hc with rfl|rfl|rfl|rfl|rfl|rfl|rfl|rfl <;> decide+kernel
def Xj(a:Nat)(m i:Nat):Bool:= !m.testBit i||decide (i < a)
def Yc(f:List Nd)(a b:Nat):Bool:=check f==0&&((List.range 4).all (Xj a (Jr (Qg f)))&&(List.range 8).all (Xj b (Yy (Qg f))))
theorem Qbx {P:Nat->Bool} {n k:Nat}(hk:k < n)(h:P k=false):(List.range n).all P=false:=by
 rw [List.all_eq_false];exact⟨k,List.mem_range.2 hk,by rw [h];simp⟩
theorem Qx9 {P:Nat->Bool} {n:Nat}(h:∀k,k < n->P k=true):(List.range n).all P=true:=by
 rw [List.all_eq_true];exact fun k hk=>h k (List.mem_range.1 hk)
theorem Qlh:(List.range 512).all (fun m=>((bits .andNot .i64 (m:Int) 15==0)==Js m 15)&&((bits .andNot .i64 (m:Int) 15 !=0)== !Js m 15))=true:=by kernel_rfl
theorem Mk(f:List Nd):(bits .andNot .i64 ((Jm f:Nat):Int) 15==0)=Js (Jm f) 15/\(bits .andNot .i64 ((Jm f:Nat):Int) 15 !=0)= !Js (Jm f) 15:=by
 have h:=List.all_eq_true.1 Qlh (Jm f) (List.mem_range.2 (Mj (Qg f)));rw [Bool.and_eq_true,beq_iff_eq,beq_iff_eq]at h;exact h
def Pf(md:Md)(f:List Nd)(i:Int):Bool:=Js (Jm (Jn f i)) 15&&Yc (Jn f i) md.rel.length md.val.length
def Zi(md:Md)(f:List Nd):Int :=
 if Zq md≠0 then Zq md else if check f≠0 then check f else if Js (Jm f) 15=false then 10 else if Yc f md.rel.length md.val.length=false then 2 else 0
structure Qv4 (md:Md) (n:Nd):Prop where
 head:Zh n
 op:n.op<=13
 fact:n.op=3->n.i < md.val.length
 agent:n.op=9\/n.op=10->n.i < md.rel.length
 group:11<=n.op->1<=n.g/\n.g.toNat < 2^md.rel.length
def Uk(md:Md)(n:Nd)(x y:Nat):Nat :=
 if n.op=3 then md.val.getD n.i.toNat 0 else if n.op<=8 then Gv n.op x y (Zs md.n.toNat)
 else if n.op=9 then Vd (md.rel.getD n.i.toNat []) md.n.toNat x
 else if n.op=10 then Jv (Zs md.n.toNat) (Vd (md.rel.getD n.i.toNat []) md.n.toNat (Jv (Zs md.n.toNat) x))
 else if n.op=11 then Vd ((List.range md.n.toNat).map (Yz md.rel n.g.toNat false md.n.toNat)) md.n.toNat x
 else if n.op=12 then Vd ((List.range md.n.toNat).map (Yz md.rel n.g.toNat true md.n.toNat)) md.n.toNat x
 else Xx ((List.range md.n.toNat).map (Yz md.rel n.g.toNat false md.n.toNat)) md.n.toNat x y
theorem Qal {md:Md}(zO:md.ok) {gn N:Nat} {meet:Bool}(hN:N<=64):((List.range N).map (Yz md.rel gn meet N)).length=N/\∀s∈(List.range N).map (Yz md.rel gn meet N),Qp s:=by
 refine⟨by simp,fun s hs=> ?_⟩;obtain⟨i,_,rfl⟩:=List.mem_map.1 hs;exact Qam zO.rel hN
theorem Ww {r:List Nat} {n s:Nat}(hn:n<=64):Qp (Vd r n s):=Fp hn _
theorem Qev {md:Md}(zO:md.ok)(hN:md.n.toNat<=64) {n:Nd} {x y:Nat}(hx:Qp x)(hy:Qp y):Qp (Uk md n x y):=by
 unfold Uk
 split
 ·exact Yr zO.val _
 split
 ·exact Qmg hx hy (Vl hN)
 split
 ·exact Ww hN
 split
 ·exact Un (Vl hN)
 split
 ·exact Ww hN
 split
 ·exact Ww hN
 exact Fp hN _
def Co(md:Md)(f:List Nd)(out:List Nat)(k:Nat):Nat :=
 if Pf md f (k:Int)then Uk md (f.getD k Nd.zero) (if Qw (f.getD k Nd.zero).op then out.getD (f.getD k Nd.zero).x.toNat 0 else 0) (if Qc (f.getD k Nd.zero).op then out.getD (f.getD k Nd.zero).y.toNat 0 else 0)else 0
def Kd(md:Md)(f:List Nd):Nat->List Nat
 |0=> []
 |k+1=>Kd md f k++ [Co md f (Kd md f k) k]
theorem Rg(md:Md)(f:List Nd):∀k,(Kd md f k).length=k
 |0=>rfl
 |k+1=>by
  show(Kd md f k++_).length=_;rw [List.length_append,Rg md f k];rfl
theorem Qxq {md:Md}(zO:md.ok)(hN:md.n.toNat<=64)(f:List Nd):∀k,∀s∈Kd md f k,Qp s
 |0,s,hs=>by cases hs
 |k+1,s,hs=>by
  have ih:=Qxq zO hN f k;rcases List.mem_append.1 hs with h|h
  ·exact ih s h
  rw [List.mem_singleton.1 h];unfold Co
  split
  ·refine Qev zO hN ?_ ?_
   ·split
    ·exact Yr ih _
    show(0:Nat) < _;omega
   split
   ·exact Yr ih _
   show(0:Nat) < _;omega
  show(0:Nat) < _;omega
theorem Vr {md:Md} {f:List Nd}(h:Zi md f=0):Zq md=0/\check f=0/\Js (Jm f) 15=true/\Yc f md.rel.length md.val.length=true:=by
 unfold Zi at h;by_cases h1:Zq md≠0
 ·rw [if_pos h1]at h;exact absurd h h1
 rw [if_neg h1]at h;by_cases h2:check f≠0
 ·rw [if_pos h2]at h;exact absurd h h2
 rw [if_neg h2]at h;cases h3:Js (Jm f) 15
 ·rw [if_pos h3]at h;cases h
 rw [if_neg (by rw [h3];simp)]at h;cases h4:Yc f md.rel.length md.val.length
 ·rw [if_pos h4]at h;cases h
 exact⟨Classical.not_not.1 h1,Classical.not_not.1 h2,rfl,rfl⟩
def Rc(md:Md)(f:List Nd):Int:=if Zi md (Qg f)=0 then 0 else Zi md f
def Bn(md:Md)(f:List Nd):Nat:=if Zi md (Qg f)=0 then(Kd md (Qg f) (Qg f).length).getD ((Qg f).length - 1) 0 else 0
def atE(md:Md)(f:List Nd)(i:Int):Int:=if Rc md f=0 then(if i < 0\/md.n<=i then 2 else 0)else Rc md f
def Zvw(md:Md)(f:List Nd)(i:Int):Bool:=if Rc md f=0 then(if i < 0\/md.n<=i then false else(Bn md f).testBit i.toNat)else false
theorem On:∀(l:List Nd) (s:Nat),(∀i,s.testBit i=true->(l.foldl (fun s n=>s|||(Vf n.op).toNat) s).testBit i=true)/\∀n∈l,∀i,(Vf n.op).toNat.testBit i=true->(l.foldl (fun s n=>s|||(Vf n.op).toNat) s).testBit i=true
 |[],_=>⟨fun _ h=>h,fun _ h=>by cases h⟩
 |a :: l,s=>by
  obtain⟨h1,h2⟩:=On l (s|||(Vf a.op).toNat);refine⟨fun i hi=>h1 i (by rw [Nat.testBit_or,hi];rfl),fun n hn i hi=> ?_⟩;rcases List.mem_cons.1 hn with rfl|hn
  ·exact h1 i (by rw [Nat.testBit_or,hi,Bool.or_true])
  exact h2 n hn i hi
theorem Qv8:∀(l:List Nd) (s:Nat),(∀i,s.testBit i=true->(l.foldl agS s).testBit i=true)/\∀n∈l,∀i,((Qo n.op=true/\i=n.i.toNat)\/n.g.toNat.testBit i=true)->(l.foldl agS s).testBit i=true
 |[],_=>⟨fun _ h=>h,fun _ h=>by cases h⟩
 |a :: l,s=>by
  obtain⟨h1,h2⟩:=Qv8 l (agS s a);refine⟨fun i hi=>h1 i (by unfold agS;rw [Nat.testBit_or,Nat.testBit_or,hi];rfl),fun n hn i hi=> ?_⟩;rcases List.mem_cons.1 hn with rfl|hn
  ·refine h1 i ?_;unfold agS;rw [Nat.testBit_or,Nat.testBit_or];rcases hi with⟨ha,rfl⟩|hg
   ·rw [if_pos ha,Nat.testBit_two_pow];simp
   rw [hg,Bool.or_true]
  exact h2 n hn i hi
theorem Qkf:∀(l:List Nd) (s:Nat),(∀i,s.testBit i=true->(l.foldl faS s).testBit i=true)/\∀n∈l,∀i,(n.op=3/\i=n.i.toNat)->(l.foldl faS s).testBit i=true
 |[],_=>⟨fun _ h=>h,fun _ h=>by cases h⟩
 |a :: l,s=>by
  obtain⟨h1,h2⟩:=Qkf l (faS s a)
  refine⟨fun i hi=>h1 i (by unfold faS;split;· rw [Nat.testBit_or,hi];rfl
                            ·exact hi),fun n hn i hi=> ?_⟩
  rcases List.mem_cons.1 hn with rfl|hn
  ·refine h1 i ?_;obtain⟨ho,rfl⟩:=hi;unfold faS;rw [if_pos ho,Nat.testBit_or,Nat.testBit_two_pow];simp
  exact h2 n hn i hi
theorem Sd {m n:Nd}(h:m.head=n.head):m.op=n.op/\m.i=n.i/\m.g=n.g:=by
 have h1:=congrArg Nd.op h;have h2:=congrArg Nd.i h;have h3:=congrArg Nd.g h;exact⟨h1,h2,h3⟩
theorem Qvz {g k:Nat}(h:∀i,g.testBit i=true->i < k):g < 2^k:=by
 rcases Nat.lt_or_ge g (2^k)with h1|h1
 ·exact h1
 obtain⟨i,iJ,eP⟩:=Nat.exists_ge_and_testBit_of_ge_two_pow h1;have:=h i eP;omega
theorem Qkr {md:Md} {f:List Nd} {k:Nat} {n:Nd}(hc:check f=0)(hk:f[k]?=some n)(hf:Pf md f (k:Int)=true)(_hr4:md.rel.length<=4):Qv4 md n:=by
 have wO:=(List.getElem?_eq_some_iff.1 hk).1;have hh:=Ni hc n (List.mem_of_getElem? hk);unfold Pf at hf;rw [Bool.and_eq_true]at hf;obtain⟨h1,h2⟩:=hf;have hg:=(Qg9 hc wO).2.1;have ht:=Rd hc wO;have lS:(tr f k).ok:=Qf2 (Ym hc) k wO;have wN:Qg (Jn f (k:Int))=Qn (tr f k):=by
  rw [Ub hg,ht,Kr lS]
 obtain⟨m,hm,hmt,_⟩:=Qq3 lS;have rY:=List.mem_of_getElem? hm;have eG:=Sd (Qp5 ((Xk (Ym hc) hk).symm.trans hmt)).1;unfold Yc at h2;rw [Bool.and_eq_true,Bool.and_eq_true,List.all_eq_true,List.all_eq_true]at h2;rw [wN]at h2;have vH:∀i,((Qo n.op=true/\i=n.i.toNat)\/n.g.toNat.testBit i=true)->i < 4->i < md.rel.length:=fun i hi DN=>by
  have h3:=(Qv8 (Qn (tr f k)) 0).2 m rY i (by rw [<-eG.1,<-eG.2.1,<-eG.2.2];exact hi);have h4:=h2.2.1 i (List.mem_range.2 DN);unfold Xj Jr at h4;rw [h3]at h4
  simpa using h4
 refine⟨hh,?_,fun ho=> ?_,fun ho=> ?_,fun ho=> ?_⟩
 ·have Q7:=(Dq n.op).1 hh.1;have yF:Js (Vf m.op).toNat 15=true:=by
   rw [Yb]at h1⊢;intro i hi;refine h1 i ?_;unfold Jm;rw [wN];exact(On (Qn (tr f k)) 0).2 m rY i hi
  rw [<-eG.1]at yF;rcases Dz n.op with h|h|h|h|h|h|h|h|h|h|h|h|h|h|h|h|h|h|h|h|h|h|h <;> first|omega|(rw [h]at yF;exact absurd yF (by decide))
 ·have hb:=Fm hh ho;have h3:=(Qkf (Qn (tr f k)) 0).2 m rY n.i.toNat ⟨by rw [<-eG.1];exact ho,by rw [<-eG.2.1]⟩;have h4:=h2.2.2 n.i.toNat (List.mem_range.2 (by omega));unfold Xj Yy at h4;rw [h3]at h4;have:n.i.toNat < md.val.length:=by simpa using h4
  omega
 ·have ha:Qo n.op=true:=by rcases ho with h|h <;>(rw [h];rfl)
  have hb:=Kw hh ha;have:=vH n.i.toNat (.inl ⟨ha,rfl⟩) (by omega);omega
 have hb:=Ue hh;have Q8:n.op<=21:=((Dq n.op).1 hh.1).2;refine⟨?_,Qvz fun i hi=>vH i (.inr hi) (Ka (n:=4) (by omega) hi)⟩;obtain⟨_,h3,h4,_,_⟩:=hh;cases jJ:Zk n.op
 ·exfalso
  have yF:Js (Vf m.op).toNat 15=true:=by
   rw [Yb]at h1⊢;intro i hi;refine h1 i ?_;unfold Jm;rw [wN];exact(On (Qn (tr f k)) 0).2 m rY i hi
  rw [<-eG.1]at yF;rcases Dz n.op with h|h|h|h|h|h|h|h|h|h|h|h|h|h|h|h|h|h|h|h|h|h|h <;> first|omega|(rw [h]at yF;exact absurd yF (by decide))|(rw [h]at jJ;cases jJ)
 unfold Jt at h4;simp only [Qt,jJ,Bool.or_eq_false_iff]at h4;simp at h4;omega
inductive Rch {α:Type} (r:α->α->Prop):α->α->Prop
 |one {a b:α} :r a b->Rch r a b
 |cons {a b c:α} :r a b->Rch r b c->Rch r a c
theorem Rch.snoc {α:Type} {r:α->α->Prop} {a b c:α}(h:Rch r a b)(k:r b c):Rch r a c:=by
 induction h with
 |one h=>exact .cons h (.one k)
 |cons h _ ih=>exact .cons h (ih k)
theorem Rch.map {α β:Type} {r:α->α->Prop} {s:β->β->Prop}(f:α->β)(hf:∀a b,r a b->s (f a) (f b)) {a b:α}(h:Rch r a b):Rch s (f a) (f b):=by
 induction h with
 |one h=>exact .one (hf _ _ h)
 |cons h _ ih=>exact .cons (hf _ _ h) ih
theorem Rch.mono {α:Type} {r s:α->α->Prop}(hf:∀a b,r a b->s a b) {a b:α}(h:Rch r a b):Rch s a b:=by
 induction h with
 |one h=>exact .one (hf _ _ h)
 |cons h _ ih=>exact .cons (hf _ _ h) ih
structure KM where
 W:Type
 R:Int->W->W->Prop
 V:Int->W->Prop
def Vy(g:Int)(i:Nat):Bool:=g.toNat.testBit i
def KM.step(M:KM)(g:Int)(c:M.W->Prop)(u v:M.W):Prop:=(∃i:Nat,i < 4/\Vy g i=true/\M.R (i:Int) u v)/\c v
def KM.sat(M:KM):Tr->M.W->Prop
 |.leaf n,w=>n.op=1\/(n.op=3/\M.V n.i w)
 |.one n a,w =>
  if n.op=4 then ¬M.sat a w
  else if n.op=9 then ∀v,M.R n.i w v->M.sat a v
  else if n.op=10 then ∃v,M.R n.i w v/\M.sat a v
  else if n.op=11 then ∀i:Nat,i < 4->Vy n.g i=true->∀v,M.R (i:Int) w v->M.sat a v
  else if n.op=12 then ∀v,(∀i:Nat,i < 4->Vy n.g i=true->M.R (i:Int) w v)->M.sat a v
  else False
 |.two n a b,w =>
  if n.op=5 then M.sat a w/\M.sat b w
  else if n.op=6 then M.sat a w\/M.sat b w
  else if n.op=7 then M.sat a w->M.sat b w
  else if n.op=8 then(M.sat a w↔M.sat b w)
  else if n.op=13 then ∀v,Rch (M.step n.g (M.sat a)) w v->M.sat b v
  else False
structure Frm (lg:Int) {W:Type} (R:W->W->Prop):Prop where
 ser:lg=1\/lg=5->∀w,∃v,R w v
 refl:lg=2\/lg=4\/lg=6->∀w,R w w
 trans:3<=lg/\lg<=6->∀u v w,R u v->R v w->R u w
 eucl:lg=5\/lg=6->∀u v w,R u v->R u w->R v w
def KM.In(M:KM)(lg:Int):Prop:=∀i:Int,Frm lg (M.R i)
def ev(th:Tr->Bool):Tr->Bool
 |.leaf n=>if n.op=3 then th (.leaf n)else n.op==1
 |.one n a=>if n.op=4 then !ev th a else if n.op=9 then th (.one n a)else false
 |.two n a b =>
  if n.op=5 then ev th a&&ev th b
  else if n.op=6 then ev th a||ev th b
  else if n.op=7 then !ev th a||ev th b
  else if n.op=8 then ev th a==ev th b
  else if n.op=13 then th (.two n a b)else false
def cov(B:List Tr):Tr->Prop
 |.leaf n=>n.op=3->.leaf n∈B
 |.one n a=>if n.op=9 then .one n a∈B else cov B a
 |.two n a b=>if n.op=13 then .two n a b∈B else cov B a/\cov B b
def lang:Tr->Prop
 |.leaf _=>True
 |.one n a=>(n.op=4\/n.op=9)/\lang a
 |.two n a b=>((5<=n.op/\n.op<=8)\/n.op=13)/\lang a/\lang b
def Gb(i:Nat)(n:Nd)(a b:Tr):Tr:=.one ⟨9,i,0,0,0,0⟩ (.two ⟨7,0,0,0,0,0⟩ a (.two ⟨5,0,0,0,0,0⟩ b (.two n a b)))
structure Ei (B:List Tr):Prop where
 know:∀n a,.one n a∈B->n.op=9/\cov B a/\lang a/\0<=n.i/\n.i < 4
 com:∀n a b,.two n a b∈B->n.op=13/\cov B a/\cov B b/\lang a/\lang b/\∀i:Nat,i < 4->Vy n.g i=true->Gb i n a b∈B
def Kb(lg:Int)(here vE there:Bool):Bool :=
 if lg<=2 then !here||vE
 else if lg=3 then !here||(vE&&there)
 else if lg=4 then !here||there
 else if lg=6 then here==there
 else(here==there)&&(!here||vE)
def Qf1(lg:Int):Prop:=lg=2\/lg=4\/lg=6
structure Coh (lg:Int) (B:List Tr) (th:Tr->Bool):Prop where
 com:∀n a b,.two n a b∈B->(th (.two n a b)=true↔∀i:Nat,i < 4->Vy n.g i=true->th (Gb i n a b)=true)
 know:Qf1 lg->∀n a,.one n a∈B->th (.one n a)=true->ev th a=true
def Ti(lg:Int)(B:List Tr)(i:Int)(th th':Tr->Bool):Prop :=
 ∀n a,.one n a∈B->n.i=i->Kb lg (th (.one n a)) (ev th' a) (th' (.one n a))=true
section
variable {T:Type} (lg:Int) (B:List Tr) (S:T->Prop) (th:T->Tr->Bool)
def Pa(g:Int)(a:Tr)(t u:T):Prop:=S u/\ev (th u) a=true/\∃i:Nat,i < 4/\Vy g i=true/\Ti lg B (i:Int) (th t) (th u)
structure Eb:Prop where
 coh:∀t,S t->Coh lg B (th t)
 ser:lg=1\/lg=5->∀t,S t->∀i:Int,(∃n a,.one n a∈B/\n.i=i)->∃u,S u/\Ti lg B i (th t) (th u)
 know:∀t,S t->∀n a,.one n a∈B->th t (.one n a)=false->∃u,S u/\ev (th u) a=false/\Ti lg B n.i (th t) (th u)
 com:∀t,S t->∀n a b,.two n a b∈B->th t (.two n a b)=false->∃u,Rch (Pa lg B S th n.g a) t u/\ev (th u) b=false
end
theorem Qsb {M:KM} {a b:Tr} {w:M.W} :M.sat (.two ⟨7,0,0,0,0,0⟩ a b) w↔(M.sat a w->M.sat b w):=by simp [KM.sat]
theorem Qx1 {M:KM} {a b:Tr} {w:M.W} :M.sat (.two ⟨5,0,0,0,0,0⟩ a b) w↔(M.sat a w/\M.sat b w):=by simp [KM.sat]
theorem Ut {M:KM} {n:Nd} {a:Tr} {w:M.W}(h:n.op=9):M.sat (.one n a) w↔∀v,M.R n.i w v->M.sat a v:=by simp [KM.sat,h]
theorem Ck {M:KM} {n:Nd} {a b:Tr} {w:M.W}(h:n.op=13):M.sat (.two n a b) w↔∀v,Rch (M.step n.g (M.sat a)) w v->M.sat b v:=by simp [KM.sat,h]
theorem Qx2 {M:KM} {i:Nat} {n:Nd} {a b:Tr} {w:M.W} :M.sat (Gb i n a b) w↔∀v,M.R (i:Int) w v->M.sat a v->M.sat b v/\M.sat (.two n a b) v:=by
 unfold Gb;rw [Ut rfl];constructor
 ·intro h v hv ha;exact Qx1.1 (Qsb.1 (h v hv) ha)
 intro h v hv;exact Qsb.2 fun ha=>Qx1.2 (h v hv ha)
theorem Qol {M:KM} {n:Nd} {a b:Tr} {w:M.W}(h:n.op=13):M.sat (.two n a b) w↔∀i:Nat,i < 4->Vy n.g i=true->M.sat (Gb i n a b) w:=by
 constructor
 ·intro hc i hi hb;rw [Qx2];intro v hv ha;rw [Ck h]at hc;refine⟨hc v (.one ⟨⟨i,hi,hb,hv⟩,ha⟩),?_⟩;rw [Ck h];exact fun u hu=>hc u (.cons ⟨⟨i,hi,hb,hv⟩,ha⟩ hu)
 intro hu;rw [Ck h];intro v hv;cases hv with
 |one hs =>
  obtain⟨⟨i,hi,hb,hr⟩,ha⟩:=hs;exact((Qx2.1 (hu i hi hb)) v hr ha).1
 |cons hs hr =>
  obtain⟨⟨i,hi,hb,TI⟩,ha⟩:=hs;exact((Ck h).1 ((Qx2.1 (hu i hi hb)) _ TI ha).2) v hr
theorem Qqm {M:KM} {B:List Tr} {w:M.W} {th:Tr->Bool}(tC:∀f∈B,th f=true↔M.sat f w):∀f,cov B f->lang f->(ev th f=true↔M.sat f w)
 |.leaf n,hc,_=>by
  by_cases h3:n.op=3
  ·have:=tC _ (hc h3);simp only [ev,h3,if_true];exact this
  simp only [ev,h3,if_false,KM.sat,beq_iff_eq,false_and,or_false]
 |.one n a,hc,hl=>by
  by_cases h9:n.op=9
  ·have jM:.one n a∈B:=by simpa [cov,h9]using hc
   have:=tC _ jM;rw [<-this];simp [ev,h9]
  have h4:n.op=4:=hl.1.resolve_right h9;have jM:cov B a:=by simpa [cov,h4]using hc
  have:=Qqm tC a jM hl.2;simp only [ev,KM.sat,h4,if_true,Bool.not_eq_true'];rw [<-this];simp
 |.two n a b,hc,hl=>by
  by_cases xK:n.op=13
  ·have jM:.two n a b∈B:=by simpa [cov,xK]using hc
   have:=tC _ jM;rw [<-this];simp [ev,xK]
  have jM:cov B a/\cov B b:=by simpa [cov,xK]using hc
  have ha:=Qqm tC a jM.1 hl.2.1;have hb:=Qqm tC b jM.2 hl.2.2;have ho:n.op=5\/n.op=6\/n.op=7\/n.op=8:=by
   have:=hl.1.resolve_right xK;omega
  rcases ho with ho|ho|ho|ho
  ·simp [ev,KM.sat,ho,ha,hb]
  ·simp [ev,KM.sat,ho,ha,hb]
  ·simp only [ev,KM.sat,ho];simp only [show ¬(7:Int)=5 by decide,show ¬(7:Int)=6 by decide,if_false,if_true,Bool.or_eq_true,Bool.not_eq_true'];rw [<-ha,<-hb];cases ev th a <;> cases ev th b <;> simp
  simp only [ev,KM.sat,ho];simp only [show ¬(8:Int)=5 by decide,show ¬(8:Int)=6 by decide,show ¬(8:Int)=7 by decide,if_false,if_true,beq_iff_eq];rw [<-ha,<-hb];cases ev th a <;> cases ev th b <;> simp
open Classical in
noncomputable def thW (M:KM) (w:M.W) (f:Tr):Bool:=decide (M.sat f w)
theorem Fz {M:KM} {w:M.W} {f:Tr} :thW M w f=true↔M.sat f w:=by simp [thW]
section
variable {lg:Int} {B:List Tr} {M:KM}
theorem evW(w:M.W) {f:Tr}(hc:cov B f)(hl:lang f):ev (thW M w) f=true↔M.sat f w:=Qqm (B:=B) (fun _ _=>Fz) f hc hl
theorem Qfg(hB:Ei B)(hM:M.In lg)(w:M.W):Coh lg B (thW M w) where
 com n a b h:=by
  rw [Fz,Qol (hB.com n a b h).1];exact⟨fun k i hi hb=>Fz.2 (k i hi hb),fun k i hi hb=>Fz.1 (k i hi hb)⟩
 know hl n a h ht:=by
  obtain⟨h9,hc,uN,_⟩:=hB.know n a h;rw [evW w hc uN];exact(Ut h9).1 (Fz.1 ht) w ((hM n.i).refl hl w)
theorem Qz4 {lg:Int} {here vE there:Bool}(h1:here=true->vE=true)(h2:3<=lg/\lg<=6->here=true->there=true)(h3:lg=5\/lg=6->there=true->here=true)(xY:lg<=6):Kb lg here vE there=true:=by
 unfold Kb;by_cases a:lg<=2
 ·rw [if_pos a];cases here <;> simp_all
 rw [if_neg a];have h2:=h2 ⟨by omega,xY⟩;by_cases b:lg=3
 ·rw [if_pos b];cases here <;> simp_all
 rw [if_neg b];by_cases c:lg=4
 ·rw [if_pos c];cases here <;> simp_all
 rw [if_neg c];have h3:=h3 (by omega);by_cases d:lg=6
 ·rw [if_pos d];cases here <;> cases there <;> simp_all
 rw [if_neg d];cases here <;> cases there <;> simp_all
theorem Ih(hB:Ei B)(hM:M.In lg)(xY:lg<=6) {i:Int} {w v:M.W}(hr:M.R i w v):Ti lg B i (thW M w) (thW M v):=by
 intro n a h hi;subst hi;obtain⟨h9,hc,uN,_⟩:=hB.know n a h;refine Qz4 (fun e=> ?_) (fun hl e=> ?_) (fun hl e=> ?_) xY
 ·rw [evW v hc uN];exact(Ut h9).1 (Fz.1 e) v hr
 ·rw [Fz,Ut h9];exact fun u hu=>(Ut h9).1 (Fz.1 e) u ((hM n.i).trans hl w v u hr hu)
 rw [Fz,Ut h9];exact fun u hu=>(Ut h9).1 (Fz.1 e) u ((hM n.i).eucl hl w v u hr hu)
theorem Ql5(hB:Ei B)(hM:M.In lg)(xY:lg<=6):Eb lg B (fun _:M.W=>True) (thW M) where
 coh w _:=Qfg hB hM w
 ser hl w _ i _:=by
  obtain⟨v,hv⟩:=(hM i).ser hl w;exact⟨v,trivial,Ih hB hM xY hv⟩
 know w _ n a h hf:=by
  obtain⟨h9,hc,uN,_⟩:=hB.know n a h;have hn:¬M.sat (.one n a) w:=fun hs=>by rw [Fz.2 hs]at hf;cases hf
  rw [Ut h9]at hn;obtain⟨v,hv⟩:=Classical.not_forall.1 hn;obtain⟨hr,ha⟩:=Classical.not_imp.1 hv;refine⟨v,trivial,?_,Ih hB hM xY hr⟩;cases e:ev (thW M v) a
  ·rfl
  exact absurd ((evW v hc uN).1 e) ha
 com w _ n a b h hf:=by
  obtain⟨xK,qQ,sF,uN,kR,_⟩:=hB.com n a b h;have hn:¬M.sat (.two n a b) w:=fun hs=>by rw [Fz.2 hs]at hf;cases hf
  rw [Ck xK]at hn;obtain⟨v,hv⟩:=Classical.not_forall.1 hn;obtain⟨hr,hb⟩:=Classical.not_imp.1 hv;refine⟨v,hr.mono fun x y pB=> ?_,?_⟩
  ·obtain⟨⟨i,hi,hg,hR⟩,ha⟩:=pB;exact⟨trivial,(evW y qQ uN).2 ha,i,hi,hg,Ih hB hM xY hR⟩
  cases e:ev (thW M v) b
  ·rfl
  exact absurd ((evW v sF kR).1 e) hb
end
section
variable {T:Type} (lg:Int) (B:List Tr) (S:T->Prop) (th:T->Tr->Bool)
def Ry:KM:=⟨{t:T // S t},fun i t u=>Ti lg B i (th t.1) (th u.1),fun p t=>th t.1 (.leaf ⟨3,p,0,0,0,0⟩)=true⟩
end
section
variable {T:Type} {lg:Int} {B:List Tr} {S:T->Prop} {th:T->Tr->Bool}
theorem Qmt {lg:Int} {here vE there:Bool}(h:Kb lg here vE there=true)(hh:here=true)(hr:Qf1 lg->there=true->vE=true):vE=true:=by
 subst hh;unfold Kb at h;by_cases a:lg<=2
 ·rw [if_pos a]at h;simpa using h
 rw [if_neg a]at h;by_cases b:lg=3
 ·rw [if_pos b]at h;simp at h;exact h.1
 rw [if_neg b]at h;by_cases c:lg=4
 ·rw [if_pos c]at h;simp at h;exact hr (.inr (.inl c)) h
 rw [if_neg c]at h;by_cases d:lg=6
 ·rw [if_pos d]at h;simp at h;exact hr (.inr (.inr d)) h
 rw [if_neg d]at h;simp at h;exact h.2
theorem Tp {lg:Int} {here vE there:Bool}(h:Kb lg here vE there=true)(hl:3<=lg)(hh:here=true):there=true:=by
 subst hh;unfold Kb at h;rw [if_neg (by omega)]at h;by_cases b:lg=3
 ·rw [if_pos b]at h;simp at h;exact h.2
 rw [if_neg b]at h;by_cases c:lg=4
 ·rw [if_pos c]at h;simp at h;exact h
 rw [if_neg c]at h;by_cases d:lg=6
 ·rw [if_pos d]at h;simp at h;exact h
 rw [if_neg d]at h;simp at h;exact h.1
theorem Mb {lg:Int} {here vE there:Bool}(h:Kb lg here vE there=true)(hl:5<=lg)(ht:there=true):here=true:=by
 subst ht;unfold Kb at h;rw [if_neg (by omega),if_neg (by omega),if_neg (by omega)]at h;by_cases d:lg=6
 ·rw [if_pos d]at h;simpa using h
 rw [if_neg d]at h;simp at h;exact h.1
theorem Ag(hF:Eb lg B S th) {i:Int} {t u:T}(hu:S u)(hp:Ti lg B i (th t) (th u)) {n:Nd} {a:Tr}(h:.one n a∈B)(hi:n.i=i)(ht:th t (.one n a)=true):ev (th u) a=true :=
 Qmt (hp n a h hi) ht (fun hr e=>(hF.coh u hu).know hr n a h e)
theorem Qr5(hF:Eb lg B S th)(xY:lg<=6):(Ry lg B S th).In lg:=fun i=> {
 ser:=fun hl w=>by
  by_cases ho:∃n a,Tr.one n a∈B/\n.i=i
  ·obtain⟨u,hu,hp⟩:=hF.ser hl w.1 w.2 i ho;exact⟨⟨u,hu⟩,hp⟩
  exact⟨w,fun n a h hi=>absurd ⟨n,a,h,hi⟩ ho⟩
 refl:=fun hl w n a h hi=>Qz4 (fun e=>(hF.coh w.1 w.2).know hl n a h e) (fun _ e=>e) (fun _ e=>e) xY
 trans:=fun hl u v w gL RJ n a h hi=>by
  have h1:=gL n a h hi;have h2:=RJ n a h hi;exact Qz4 (fun e=>Ag hF w.2 RJ h hi (Tp h1 hl.1 e)) (fun _ e=>Tp h2 hl.1 (Tp h1 hl.1 e)) (fun k e=>Mb h1 (by omega) (Mb h2 (by omega) e)) xY
 eucl:=fun hl u v w gL P6 n a h hi=>by
  have h1:=gL n a h hi;have h2:=P6 n a h hi;exact Qz4 (fun e=>Ag hF w.2 P6 h hi (Mb h1 (by omega) e)) (fun _ e=>Tp h2 (by omega) (Mb h1 (by omega) e)) (fun k e=>Tp h1 (by omega) (Mb h2 (by omega) e)) xY }
def Wy:Tr->Prop
 |.leaf n=>n.op=3->n=⟨3,n.i,0,0,0,0⟩
 |.one _ a=>Wy a
 |.two _ a b=>Wy a/\Wy b
theorem Ey(hB:Ei B)(hF:Eb lg B S th):∀f,cov B f->lang f->Wy f->∀t:(Ry lg B S th).W,(ev (th t.1) f=true↔(Ry lg B S th).sat f t)
 |.leaf n,_,_,hk,t=>by
  by_cases h3:n.op=3
  ·have e:=hk h3;simp only [ev,h3,if_true,KM.sat,Ry,true_and,show ¬(3:Int)=1 by decide,false_or];rw [<-e]
  simp only [ev,h3,if_false,KM.sat,beq_iff_eq,false_and,or_false]
 |.one n a,hc,hl,hk,t=>by
  by_cases h9:n.op=9
  ·have hm:.one n a∈B:=by simpa [cov,h9]using hc
   obtain⟨_,qQ,uN,_⟩:=hB.know n a hm;have ih:=Ey hB hF a qQ uN hk;rw [Ut h9];have e:ev (th t.1) (.one n a)=th t.1 (.one n a):=by simp [ev,h9]
   rw [e];constructor
   ·intro ht v hr;rw [<-ih v];exact Ag hF v.2 hr hm rfl ht
   intro hs;cases ht:th t.1 (.one n a)
   ·obtain⟨u,hu,he,hp⟩:=hF.know t.1 t.2 n a hm ht;have:=(ih ⟨u,hu⟩).2 (hs ⟨u,hu⟩ hp);rw [he]at this;cases this
   rfl
  have h4:n.op=4:=hl.1.resolve_right h9;have qQ:cov B a:=by simpa [cov,h4]using hc
  have ih:=Ey hB hF a qQ hl.2 hk t;simp only [ev,KM.sat,h4,if_true,Bool.not_eq_true'];rw [<-ih];simp
 |.two n a b,hc,hl,hk,t=>by
  by_cases xK:n.op=13
  ·have hm:.two n a b∈B:=by simpa [cov,xK]using hc
   obtain⟨_,qQ,sF,uN,kR,dP⟩:=hB.com n a b hm;have iha:=Ey hB hF a qQ uN hk.1;have ihb:=Ey hB hF b sF kR hk.2;rw [Ck xK];have e:ev (th t.1) (.two n a b)=th t.1 (.two n a b):=by simp [ev,xK]
   rw [e];constructor
   ·intro ht v hr;have key:∀(s v:(Ry lg B S th).W),Rch ((Ry lg B S th).step n.g ((Ry lg B S th).sat a)) s v->th s.1 (.two n a b)=true->ev (th v.1) b=true:=by
     intro s v hr;have vT:∀s v:(Ry lg B S th).W,(Ry lg B S th).step n.g ((Ry lg B S th).sat a) s v->th s.1 (.two n a b)=true->ev (th v.1) b=true/\th v.1 (.two n a b)=true:=by
      rintro s v ⟨⟨i,hi,hg,hp⟩,ha⟩ hs;have XK:=((hF.coh s.1 s.2).com n a b hm).1 hs i hi hg;have NS:=Ag hF v.2 hp (dP i hi hg) rfl XK;have hx:=(iha v).2 ha;simp only [ev,show ¬(7:Int)=5 by decide,show ¬(7:Int)=6 by decide,if_false,if_true,hx,Bool.not_true,Bool.false_or,Bool.and_eq_true,xK,show ¬(13:Int)=5 by decide,show ¬(13:Int)=6 by decide,show ¬(13:Int)=7 by decide,show ¬(13:Int)=8 by decide]at NS;exact NS
     induction hr with
     |one h=>intro hs;exact(vT _ _ h hs).1
     |cons h _ ih=>intro hs;exact ih (vT _ _ h hs).2
    rw [<-ihb v];exact key t v hr ht
   intro hs;cases ht:th t.1 (.two n a b)
   ·obtain⟨u,hp,he⟩:=hF.com t.1 t.2 n a b hm ht;have lift:∀(s u:T) (hs:S s),Rch (Pa lg B S th n.g a) s u->∃hu:S u,Rch ((Ry lg B S th).step n.g ((Ry lg B S th).sat a)) ⟨s,hs⟩ ⟨u,hu⟩:=by
     intro s u hs hr
     induction hr with
     |one h =>
      obtain⟨hu,hx,i,hi,hg,hp⟩:=h;exact⟨hu,.one (b:=(⟨_,hu⟩:(Ry lg B S th).W)) ⟨⟨i,hi,hg,hp⟩,(iha ⟨_,hu⟩).1 hx⟩⟩
     |cons h _ ih =>
      obtain⟨hu,hx,i,hi,hg,hp⟩:=h;obtain⟨JM,h2⟩:=ih hu;exact⟨JM,.cons (b:=(⟨_,hu⟩:(Ry lg B S th).W)) ⟨⟨i,hi,hg,hp⟩,(iha ⟨_,hu⟩).1 hx⟩ h2⟩
    obtain⟨hu,hr⟩:=lift t.1 u t.2 hp;have:=(ihb ⟨u,hu⟩).2 (hs ⟨u,hu⟩ hr);rw [he]at this;cases this
   rfl
  have jM:cov B a/\cov B b:=by simpa [cov,xK]using hc
  have ha:=Ey hB hF a jM.1 hl.2.1 hk.1 t;have hb:=Ey hB hF b jM.2 hl.2.2 hk.2 t;have ho:n.op=5\/n.op=6\/n.op=7\/n.op=8:=by
   have:=hl.1.resolve_right xK;omega
  rcases ho with ho|ho|ho|ho
  ·simp [ev,KM.sat,ho,ha,hb]
  ·simp [ev,KM.sat,ho,ha,hb]
  ·simp only [ev,KM.sat,ho];simp only [show ¬(7:Int)=5 by decide,show ¬(7:Int)=6 by decide,if_false,if_true,Bool.or_eq_true,Bool.not_eq_true'];rw [<-ha,<-hb];cases ev (th t.1) a <;> cases ev (th t.1) b <;> simp
  simp only [ev,KM.sat,ho];simp only [show ¬(8:Int)=5 by decide,show ¬(8:Int)=6 by decide,show ¬(8:Int)=7 by decide,if_false,if_true,beq_iff_eq];rw [<-ha,<-hb];cases ev (th t.1) a <;> cases ev (th t.1) b <;> simp
end
def Et(l:List Nat)(n:Nat)(u v:Fin n):Prop:=(l.getD u.1 0).testBit v.1=true
def Gj(md:Md):KM where
 W:=Fin md.n.toNat
 R:=fun a u v=>if 0<=a/\a < md.rel.length then Et (md.rel.getD a.toNat []) md.n.toNat u v else u=v
 V:=fun p w=>(md.val.getD p.toNat 0).testBit w.1=true
theorem Zzs(lg:Int) {W:Type} :Frm lg (fun u v:W=>u=v) where
 ser:=fun _ w=>⟨w,rfl⟩
 refl:=fun _ _=>rfl
 trans:=fun _ _ _ _ h1 h2=>h1.trans h2
 eucl:=fun _ _ _ _ h1 h2=>h1.symm.trans h2
theorem Qwn {s n:Nat}(h:s < 2^n)(h0:s≠0):∃i,i < n/\s.testBit i=true:=by
 obtain⟨i,hi⟩:=Nat.exists_testBit_of_ne_zero h0;exact⟨i,Ka h hi,hi⟩
theorem Qon {l:List Nat}(h:Xo false l) {w u v:Nat}(hw:w < l.length)(hu:u < l.length)(h1:(l.getD w 0).testBit u=true)(h2:(l.getD u 0).testBit v=true):(l.getD w 0).testBit v=true:=by
 exact Yb.1 (h w u hw hu h1) v h2
theorem Qob {l:List Nat}(h:Xo true l) {w u v:Nat}(hw:w < l.length)(hu:u < l.length)(h1:(l.getD w 0).testBit u=true)(h2:(l.getD w 0).testBit v=true):(l.getD u 0).testBit v=true:=by
 exact Yb.1 (h w u hw hu h1) v h2
theorem Qas {l:List Nat} {n:Nat} {lg:Int}(hl:l.length=n)(hv:Xq l=true)(hg:Bo lg l)(hr:0<=lg/\lg<=6):Frm lg (Et l n):=by
 have zG:∀i,i < n->l.getD i 0 < 2^n:=fun i hi=>(Sx.start (eu:=true) hl (by rw [<-hl];exact(Fq.1 hv).2)).lt i hi
 unfold Bo Gg at hg;refine⟨fun h w=> ?_,fun h w=> ?_,fun h u v w h1 h2=> ?_,fun h u v w h1 h2=> ?_⟩
 ·have h1:Kz 1 l:=hg 1 (by rcases h with rfl|rfl <;> simp);obtain⟨i,hi,hb⟩:=Qwn (zG w.1 w.2) (h1 w.1 (by rw [hl];exact w.2));exact⟨⟨i,hi⟩,hb⟩
 ·have h1:Kz 2 l:=hg 2 (by rcases h with rfl|rfl|rfl <;> simp);exact h1 w.1 (by rw [hl];exact w.2)
 ·have h3:Kz 4 l:=hg 4 (by
   have:lg=3\/lg=4\/lg=5\/lg=6:=by omega
   rcases this with rfl|rfl|rfl|rfl <;> simp)
  exact Qon h3 (by rw [hl];exact u.2) (by rw [hl];exact v.2) h1 h2
 have h3:Kz 5 l:=hg 5 (by rcases h with rfl|rfl <;> simp);exact Qob h3 (by rw [hl];exact u.2) (by rw [hl];exact v.2) h1 h2
theorem Qr1 {md:Md} {lg:Int}(h:Fd md lg):(Gj md).In lg:=by
 intro a;show Frm lg (fun u v=>if 0<=a/\a < md.rel.length then Et (md.rel.getD a.toNat []) md.n.toNat u v else u=v);by_cases ha:0<=a/\a < md.rel.length
 ·simp only [if_pos ha];have hm:md.rel.getD a.toNat []∈md.rel:=by
   rw [Qk,List.getElem?_eq_getElem (by omega)];exact List.getElem_mem _
  obtain⟨hv,_⟩:=Qzd h.ck hm;have hl:=(Zn h.ck).2.2.2.2.1 _ hm;exact Qas (by omega) hv (h.rel _ hm) h.lgr
 simp only [if_neg ha];exact Zzs lg
theorem Sh(r:List Nat)(n s i:Nat):(Vd r n s).testBit i=true↔i < n/\∀v,(r.getD i 0).testBit v=true->s.testBit v=true:=by
 unfold Vd;rw [Rz,Bool.and_eq_true,decide_eq_true_iff,Yb]
theorem Qop(r:List Nat)(n s i:Nat)(h:∀v,(r.getD i 0).testBit v=true->v < n):
 (Jv (Zs n) (Vd r n (Jv (Zs n) s))).testBit i=true↔i < n/\∃v,(r.getD i 0).testBit v=true/\s.testBit v=true:=by
 rw [Gn,Bool.and_eq_true,Kf,decide_eq_true_iff];constructor
 ·rintro⟨hi,hb⟩;refine⟨hi,Classical.byContradiction fun hn=> ?_⟩;have:(Vd r n (Jv (Zs n) s)).testBit i=true:=(Sh ..).2 ⟨hi,fun v hv=>by
   rw [Gn,Kf,Bool.and_eq_true,decide_eq_true_iff];refine⟨h v hv,?_⟩;cases hs:s.testBit v
   ·rfl
   exact absurd ⟨v,hv,hs⟩ hn⟩
  rw [this]at hb;cases hb
 rintro⟨hi,v,hv,hs⟩;refine⟨hi,?_⟩;cases hb:(Vd r n (Jv (Zs n) s)).testBit i
 ·rfl
 have h2:=((Sh ..).1 hb).2 v hv;rw [Gn,hs,Bool.not_true,Bool.and_false]at h2;cases h2
theorem Qb6(rl:List (List Nat))(gn i v:Nat):∀(k s:Nat),(((List.range k).foldl (Fk rl gn false i) s).testBit v=true↔s.testBit v=true\/∃a,a < k/\gn.testBit a=true/\((rl.getD a []).getD i 0).testBit v=true)
 |0,s=>by simp
 |k+1,s=>by
  rw [Ve];have ih:=Qb6 rl gn i v k s;unfold Fk;cases hg:gn.testBit k
  ·rw [if_neg (by simp)];rw [show(List.foldl (fun s a=>if gn.testBit a=true then if false=true then s&&&(rl.getD a []).getD i 0 else s|||(rl.getD a []).getD i 0 else s) s (List.range k))=(List.range k).foldl (Fk rl gn false i) s from rfl,ih];refine or_congr Iff.rfl ⟨fun⟨a,h1,h2,h3⟩=>⟨a,by omega,h2,h3⟩,fun⟨a,h1,h2,h3⟩=>⟨a,?_,h2,h3⟩⟩;have:a≠k:=fun e=>by rw [e,hg]at h2;cases h2
   omega
  rw [if_pos rfl,if_neg (by simp),Nat.testBit_or,Bool.or_eq_true];rw [show(List.foldl (fun s a=>if gn.testBit a=true then if false=true then s&&&(rl.getD a []).getD i 0 else s|||(rl.getD a []).getD i 0 else s) s (List.range k))=(List.range k).foldl (Fk rl gn false i) s from rfl,ih];constructor
  ·rintro((h|⟨a,h1,h2,h3⟩)|h)
   ·exact Or.inl h
   ·exact Or.inr ⟨a,by omega,h2,h3⟩
   exact Or.inr ⟨k,by omega,hg,h⟩
  rintro(h|⟨a,h1,h2,h3⟩)
  ·exact Or.inl (Or.inl h)
  by_cases e:a=k
  ·exact Or.inr (by rw [<-e];exact h3)
  exact Or.inl (Or.inr ⟨a,by omega,h2,h3⟩)
theorem Qz9(rl:List (List Nat))(gn n i v:Nat):(Yz rl gn false n i).testBit v=true↔∃a,a < rl.length/\gn.testBit a=true/\((rl.getD a []).getD i 0).testBit v=true:=by
 unfold Yz;rw [Qb6];simp
theorem Qjq(rl:List (List Nat))(gn n i:Nat)(b:Bool)(hi:i < n):((List.range n).map (Yz rl gn b n)).getD i 0=Yz rl gn b n i:=by
 rw [Qk,List.getElem?_map,List.getElem?_range hi];rfl
def Bj(r:List Nat)(c:Nat)(u v:Nat):Prop:=(r.getD u 0).testBit v=true/\c.testBit v=true
theorem Qec {α:Type} {r:α->α->Prop} {a b c:α}(h:Rch r a b)(hc:r b c):Rch r a c:=by
 induction h with
 |one h=>exact .cons h (.one hc)
 |cons h _ ih=>exact .cons h (ih hc)
theorem Ms(r:List Nat)(c a v:Nat):(r.getD a 0&&&c).testBit v=true↔Bj r c a v:=by
 rw [Nat.testBit_and,Bool.and_eq_true];rfl
theorem Qle {r:List Nat} {c a s:Nat}(h:∀v,s.testBit v=true->Rch (Bj r c) a v)(u:Nat):∀v,(Re r c s u).testBit v=true->Rch (Bj r c) a v:=by
 intro v hv;unfold Re at hv;cases hu:s.testBit u
 ·rw [if_neg (by rw [hu];simp)]at hv;exact h v hv
 rw [if_pos hu,Nat.testBit_or,Bool.or_eq_true]at hv;rcases hv with hv|hv
 ·exact h v hv
 exact Qec (h u hu) ((Ms ..).1 hv)
theorem Qk0 {r:List Nat} {c a:Nat} :∀(n s:Nat),(∀v,s.testBit v=true->Rch (Bj r c) a v)->∀v,(Uz r c n s).testBit v=true->Rch (Bj r c) a v
 |0,s,h=>h
 |n+1,s,h=>by
  unfold Uz;rw [Ve];exact Qle (Qk0 n s h) n
theorem Qk1 {r:List Nat} {c a n:Nat} :∀(k:Nat),∀v,((List.range k).foldl (fun s _=>Uz r c n s) (r.getD a 0&&&c)).testBit v=true->Rch (Bj r c) a v
 |0=>fun v hv=> .one ((Ms ..).1 hv)
 |k+1=>by
  rw [Ve];exact Qk0 n _ (Qk1 k)
theorem Qrq {r:List Nat} {c n a v:Nat}(h:(Fc r c n a).testBit v=true):Rch (Bj r c) a v:=Qk1 n v h
theorem Qg8 {r:List Nat} {c s u v:Nat}(h:s.testBit v=true):(Re r c s u).testBit v=true:=by
 unfold Re
 split
 ·rw [Nat.testBit_or,h,Bool.true_or]
 exact h
theorem Qhy {r:List Nat} {c s u v:Nat}(h:s.testBit u=true)(wX:Bj r c u v):(Re r c s u).testBit v=true:=by
 unfold Re;rw [if_pos h,Nat.testBit_or,(Ms r c u v).2 wX,Bool.or_true]
theorem Aj {r:List Nat} {c v:Nat} :∀(n s:Nat),s.testBit v=true->(Uz r c n s).testBit v=true
 |0,_,h=>h
 |n+1,s,h=>by
  unfold Uz;rw [Ve];exact Qg8 (Aj n s h)
theorem Qgh {r:List Nat} {c s u v:Nat}(hs:s.testBit u=true)(wX:Bj r c u v):∀(n:Nat),u < n->(Uz r c n s).testBit v=true
 |0,h=>absurd h (by omega)
 |n+1,h=>by
  unfold Uz;rw [Ve];by_cases e:u=n
  ·subst e;have h1:(Uz r c u s).testBit u=true:=Aj u s hs;unfold Uz at h1;exact Qhy h1 wX
  exact Qg8 (Qgh hs wX n (by omega))
def Qqd(r:List Nat)(c s:Nat):Prop:=∀u v,s.testBit u=true->Bj r c u v->s.testBit v=true
theorem Qlw {r:List Nat} {c s u:Nat}(h:Qqd r c s):Re r c s u=s:=by
 unfold Re
 split
 ·rename_i hu;refine Nat.eq_of_testBit_eq fun v=> ?_
  rw [Nat.testBit_or];cases hb:(r.getD u 0&&&c).testBit v
  ·rw [Bool.or_false]
  rw [h u v hu ((Ms ..).1 hb)];rfl
 rfl
theorem Ik {r:List Nat} {c s:Nat}(h:Qqd r c s):∀n,Uz r c n s=s
 |0=>rfl
 |n+1=>by
  unfold Uz;rw [Ve];have ih:=Ik h n;unfold Uz at ih;rw [ih,Qlw h]
def Qv2(n s:Nat):Nat:=(List.range n).countP fun i=> !s.testBit i
theorem Qcp {r:List Nat} {c n s:Nat}(hb:∀u v,(r.getD u 0).testBit v=true->u < n/\v < n)(h:¬Qqd r c s):Qv2 n (Uz r c n s) < Qv2 n s:=by
 obtain⟨u,v,h1,h2,h3⟩:∃u v,s.testBit u=true/\Bj r c u v/\s.testBit v=false:=Classical.byContradiction fun hn=>h fun u v h1 h2=>by
  cases h3:s.testBit v
  ·exact absurd ⟨u,v,h1,h2,h3⟩ hn
  rfl
 obtain⟨hu,hv⟩:=hb u v h2.1;unfold Qv2;refine Oj (fun i _ hq=> ?_) ⟨v,List.mem_range.2 hv,by rw [h3];rfl,by rw [Qgh h1 h2 n hu];rfl⟩;cases hi:s.testBit i
 ·rfl
 rw [Aj n s hi]at hq;cases hq
theorem Zj1(n s:Nat):Qv2 n s<=n:=by
 have:=List.countP_le_length (p:=fun i=> !s.testBit i) (l:=List.range n);rw [List.length_range]at this;exact this
theorem Qws {r:List Nat} {c n s:Nat}(hb:∀u v,(r.getD u 0).testBit v=true->u < n/\v < n)(h:Qv2 n s=0):Qqd r c s:=by
 intro u v _ h2;unfold Qv2 at h;rw [List.countP_eq_zero]at h;have:=h v (List.mem_range.2 (hb u v h2.1).2)
 simpa using this
theorem Qge {r:List Nat} {c n a:Nat}(hb:∀u v,(r.getD u 0).testBit v=true->u < n/\v < n):∀k,Qqd r c ((List.range k).foldl (fun s _=>Uz r c n s) (r.getD a 0&&&c))\/Qv2 n ((List.range k).foldl (fun s _=>Uz r c n s) (r.getD a 0&&&c))+k<=n
 |0=>Or.inr (Zj1 _ _)
 |k+1=>by
  rw [Ve];rcases Qge hb k with h|h
  ·exact Or.inl (by rw [Ik h];exact h)
  by_cases hc:Qqd r c ((List.range k).foldl (fun s _=>Uz r c n s) (r.getD a 0&&&c))
  ·exact Or.inl (by rw [Ik hc];exact hc)
  have:=Qcp hb hc;exact Or.inr (by omega)
theorem Qd3 {r:List Nat} {c n a v:Nat}(h:Bj r c a v):∀k,((List.range k).foldl (fun s _=>Uz r c n s) (r.getD a 0&&&c)).testBit v=true
 |0=>(Ms ..).2 h
 |k+1=>by
  rw [Ve];exact Aj n _ (Qd3 h k)
theorem Zjj {r:List Nat} {c s:Nat}(hc:Qqd r c s) {a v:Nat}(h:Rch (Bj r c) a v):(∀u,Bj r c a u->s.testBit u=true)->s.testBit v=true:=by
 induction h with
 |one h=>exact fun hs=>hs _ h
 |cons h _ ih=>exact fun hs=>ih fun u hu=>hc _ u (hs _ h) hu
theorem Qzx {r:List Nat} {c n a v:Nat}(hb:∀u v,(r.getD u 0).testBit v=true->u < n/\v < n):(Fc r c n a).testBit v=true↔Rch (Bj r c) a v:=by
 refine⟨Qrq,fun h=> ?_⟩;have hc:Qqd r c (Fc r c n a):=by
  rcases Qge (a:=a) (c:=c) hb n with h|h
  ·exact h
  exact Qws hb (by unfold Fc;omega)
 exact Zjj hc h fun u hu=>Qd3 hu n
theorem Qvp {r:List Nat} {n:Nat}(hl:r.length=n)(hb:Zb r n=false):∀u v,(r.getD u 0).testBit v=true->u < n/\v < n:=fun u v h=>by
 by_cases hu:u < r.length
 ·have hm:r.getD u 0∈r:=by rw [Qk,Qv hu];exact List.getElem_mem hu
  have h2:=List.any_eq_false.1 hb _ hm;simp only [Bool.not_eq_true',decide_eq_false_iff_not,Nat.not_lt,Nat.not_le]at h2;exact⟨by omega,Ka h2 h⟩
 rw [Qk,List.getElem?_eq_none (by omega)]at h;simp at h
def gfF(r:List Nat)(n c s out:Nat):Nat:=Vd r n (Jv (Zs n) c|||(s&&&out))
theorem Lf {r:List Nat} {n c s out i:Nat}(hb:∀u v,(r.getD u 0).testBit v=true->u < n/\v < n):
 (gfF r n c s out).testBit i=true↔i < n/\∀v,(r.getD i 0).testBit v=true->c.testBit v=true->s.testBit v=true/\out.testBit v=true:=by
 unfold gfF;rw [Sh];refine and_congr_right fun _=>forall_congr' fun v=> ?_
 refine⟨fun h h1 h2=> ?_,fun h h1=> ?_⟩
 ·have:=h h1;rw [Nat.testBit_or,Gn,Nat.testBit_and,h2,Bool.not_true,Bool.and_false,Bool.false_or,Bool.and_eq_true]at this;exact this
 rw [Nat.testBit_or,Gn,Nat.testBit_and,Kf];cases hc:c.testBit v
 ·simp [(hb i v h1).2]
 obtain⟨h3,h4⟩:=h h1 hc;simp [h3,h4]
theorem Mz {r:List Nat} {n c s i:Nat}(hb:∀u v,(r.getD u 0).testBit v=true->u < n/\v < n):
 (Xx r n c s).testBit i=true↔i < n/\∀v,Rch (Bj r c) i v->s.testBit v=true:=by
 unfold Xx;rw [Rz,Bool.and_eq_true,decide_eq_true_eq,Yb];exact and_congr_right fun _=>forall_congr' fun v=>by rw [Qzx hb]
theorem Qbc {r:List Nat} {n c s:Nat}(hb:∀u v,(r.getD u 0).testBit v=true->u < n/\v < n):∀i,(Xx r n c s).testBit i=true->(Zs n).testBit i=true:=fun i h=>by
 rw [Kf];exact decide_eq_true ((Mz hb).1 h).1
theorem Qbp {r:List Nat} {n c s out:Nat}(hb:∀u v,(r.getD u 0).testBit v=true->u < n/\v < n)(h:∀i,(Xx r n c s).testBit i=true->out.testBit i=true):
 ∀i,(Xx r n c s).testBit i=true->(gfF r n c s out).testBit i=true:=fun i hi=>by
 obtain⟨h1,h2⟩:=(Mz hb).1 hi;exact(Lf hb).2 ⟨h1,fun v hv hc=>⟨h2 v (.one ⟨hv,hc⟩),h v ((Mz hb).2 ⟨(hb i v hv).2,fun z hz=>h2 z (.cons ⟨hv,hc⟩ hz)⟩)⟩⟩
theorem Qar {r:List Nat} {n c s:Nat}(hb:∀u v,(r.getD u 0).testBit v=true->u < n/\v < n):∀i,(gfF r n c s (Zs n)).testBit i=true->(Zs n).testBit i=true:=fun i h=>by
 rw [Kf];exact decide_eq_true ((Lf hb).1 h).1
theorem Zzc {r:List Nat} {n c s out:Nat}(hb:∀u v,(r.getD u 0).testBit v=true->u < n/\v < n)(h:∀i,(gfF r n c s out).testBit i=true->out.testBit i=true):
 ∀i,(gfF r n c s (gfF r n c s out)).testBit i=true->(gfF r n c s out).testBit i=true:=fun i hi=>by
 obtain⟨h1,h2⟩:=(Lf hb).1 hi;exact(Lf hb).2 ⟨h1,fun v hv hc=>⟨(h2 v hv hc).1,h v (h2 v hv hc).2⟩⟩
theorem Qty {r:List Nat} {n c s out:Nat}(hb:∀u v,(r.getD u 0).testBit v=true->u < n/\v < n)(h:gfF r n c s out=out)(hi:∀i,(Xx r n c s).testBit i=true->out.testBit i=true):out=Xx r n c s:=by
 have hp:∀u v,Rch (Bj r c) u v->out.testBit u=true->s.testBit v=true:=fun u v hr=>by
  induction hr with
  |one wX=>intro ho;rw [<-h]at ho;exact(((Lf hb).1 ho).2 _ wX.1 wX.2).1
  |cons wX _ ih=>intro ho;rw [<-h]at ho;exact ih (((Lf hb).1 ho).2 _ wX.1 wX.2).2
 refine Nat.eq_of_testBit_eq fun i=> ?_
 rw [Bool.eq_iff_iff];refine⟨fun ho=>(Mz hb).2 ⟨?_,fun v hv=>hp i v hv ho⟩,hi i⟩;have gN:=ho;rw [<-h]at gN;exact((Lf hb).1 gN).1
theorem Zjk {a b:Nat}(h:∀i,a.testBit i=true->b.testBit i=true)(zQ:a≠b):a < b:=by
 have e:a&&&b=a:=by
  refine Nat.eq_of_testBit_eq fun i=> ?_
  rw [Nat.testBit_and];cases ha:a.testBit i
  ·rfl
  rw [h i ha];rfl
 have:a<=b:=by rw [<-e];exact Nat.and_le_right
 omega
theorem Qw6 {N:Nat}(h:N<=64):(18446744073709551615:Int) / 2^(64 - N)=((Zs N:Nat):Int):=by
 have e:∀k:Fin 65,(18446744073709551615:Int) / 2^(64 - k.val)=((Zs k.val:Nat):Int):=by decide+kernel
 exact e ⟨N,by omega⟩
def Jz(md:Md)(n:Nd):Bool :=
 if n.op=3 then decide (n.i < md.val.length)else if n.op<=8 then true else if n.op<=10 then decide (n.i < md.rel.length)
 else if n.op<=13 then decide (n.g < ((2^md.rel.length:Nat):Int))else false
def Vv(md:Md)(n:Nd)(x y:Nat):Nat:=if Jz md n=true then Uk md n x y else 0
theorem Qo6 {rl:List (List Nat)} {n:Nat}(hw:∀r∈rl,∀s∈r,s < 2^n) {gn i s a:Nat} {meet:Bool}(hs:s < 2^n):Fk rl gn meet i s a < 2^n:=by
 unfold Fk
 split
 ·split
  ·exact Nat.lt_of_le_of_lt Nat.and_le_left hs
  refine Nat.or_lt_two_pow hs ?_;by_cases ha:a < rl.length
  ·have hm:rl.getD a []∈rl:=by rw [Qk,Qv ha];exact List.getElem_mem ha
   by_cases hi:i < (rl.getD a []).length
   ·refine hw _ hm _ ?_;rw [Qk (l:=rl.getD a []),Qv hi];exact List.getElem_mem hi
   rw [Qk (l:=rl.getD a []),List.getElem?_eq_none (by omega)];exact Nat.two_pow_pos n
  rw [Qk (l:=rl),List.getElem?_eq_none (by omega)];exact Nat.two_pow_pos n
 exact hs
theorem Qw3(n:Nat):Zs n < 2^n:=by
 unfold Zs;have:=Nat.two_pow_pos n;omega
theorem Qo5 {rl:List (List Nat)} {n:Nat}(hw:∀r∈rl,∀s∈r,s < 2^n) {gn i:Nat} {meet:Bool} :Yz rl gn meet n i < 2^n:=by
 unfold Yz;have:∀k,(List.range k).foldl (Fk rl gn meet i) (if meet then Zs n else 0) < 2^n:=fun k=>by
  induction k with
  |zero =>
   cases meet
   ·exact Nat.two_pow_pos n
   exact Qw3 n
  |succ k ih=>rw [Ve];exact Qo6 hw ih
 exact this _
theorem Pv {r:List Nat} {N:Nat}(hl:r.length=N)(hN:N<=64)(h:∀s∈r,s < 2^N):Jw r.length r=0:=by
 have hb:Zb r r.length=false:=List.any_eq_false.2 fun s hs=>by rw [hl];simpa using h s hs
 have:=Fq.2 ⟨by omega,hb⟩;unfold Xq at this
 simpa using this
theorem Qsg {md:Md}(h:Zq md=0):∀r∈md.rel,∀s∈r,s < 2^md.n.toNat:=fun r hr s hs=>by
 obtain⟨_,_,_,_,_,_,vW⟩:=Zn h;have:=List.any_eq_false.1 (vW r hr) s hs
 simpa using this
theorem Qmb {r:List Nat} {n x:Nat}(hn:n<=64)(hb:∀u v,(r.getD u 0).testBit v=true->u < n/\v < n):Vd r n (Zs 64^^^x)=Vd r n (Jv (Zs n) x):=by
 refine Nat.eq_of_testBit_eq fun i=> ?_
 rw [Bool.eq_iff_iff,Sh,Sh];refine and_congr_right fun _=>forall_congr' fun v=>imp_congr_right fun hv=> ?_
 have mH:=(hb i v hv).2;rw [Nat.testBit_xor,Kf,Gn,Kf,decide_eq_true (show v < 64 by omega),decide_eq_true mH];cases x.testBit v <;> simp
theorem Dj {md:Md}(h:Zq md=0)(a:Nat):∀u v,((md.rel.getD a []).getD u 0).testBit v=true->u < md.n.toNat/\v < md.n.toNat:=by
 intro u v hb;by_cases ha:a < md.rel.length
 ·have hm:md.rel.getD a []∈md.rel:=by
   rw [Qk,Qv ha];exact List.getElem_mem _
  obtain⟨hv,_⟩:=Qzd h hm;have hl:=(Zn h).2.2.2.2.1 _ hm;have sX:(md.rel.getD a []).length=md.n.toNat:=by omega
  by_cases hu:u < md.n.toNat
  ·have:=(Sx.start (eu:=true) sX (by rw [<-sX];exact(Fq.1 hv).2)).lt u hu;exact⟨hu,Ka this hb⟩
  rw [Qk,List.getElem?_eq_none (by omega)]at hb;simp at hb
 have e:md.rel.getD a []= []:=by rw [Qk,List.getElem?_eq_none (by omega)];rfl
 rw [e]at hb;simp at hb
theorem Lb {md:Md}(h:Zq md=0)(gn:Nat):∀u v,(((List.range md.n.toNat).map (Yz md.rel gn false md.n.toNat)).getD u 0).testBit v=true->u < md.n.toNat/\v < md.n.toNat:=by
 intro u v hb;by_cases hu:u < md.n.toNat
 ·rw [Qjq _ _ _ _ _ hu,Qz9]at hb;obtain⟨a,_,_,h3⟩:=hb;exact⟨hu,(Dj h a u v h3).2⟩
 rw [Qk,List.getElem?_eq_none (by simp;omega)]at hb;simp at hb
def IsW(md:Md)(s:Nat)(t:Tr):Prop:=∀w:Fin md.n.toNat,s.testBit w.1=true↔(Gj md).sat t w
theorem Qok {md:Md}(h:Zq md=0) {n:Nd} {s:Nat} {t:Tr}(hi:0<=n.i/\n.i < md.rel.length)(hs:IsW md s t)(h9:n.op=9):IsW md (Vd (md.rel.getD n.i.toNat []) md.n.toNat s) (.one n t):=by
 intro w;rw [Sh];show _↔(if n.op=4 then _ else if n.op=9 then _ else _);rw [if_neg (by omega),if_pos h9];constructor
 ·rintro⟨_,hb⟩ v hv;refine(hs v).1 (hb v.1 ?_);have iA:(if 0<=n.i/\n.i < md.rel.length then Et (md.rel.getD n.i.toNat []) md.n.toNat w v else w=v):=hv;rw [if_pos hi]at iA;exact iA
 intro hf;refine⟨w.2,fun v hv=> ?_⟩;have nC:=(Dj h n.i.toNat w.1 v hv).2;refine(hs ⟨v,nC⟩).2 (hf ⟨v,nC⟩ ?_);show(if 0<=n.i/\n.i < md.rel.length then Et (md.rel.getD n.i.toNat []) md.n.toNat w ⟨v,nC⟩else _);rw [if_pos hi];exact hv
theorem Qoc {md:Md}(h:Zq md=0) {n:Nd} {s:Nat} {t:Tr}(hi:0<=n.i/\n.i < md.rel.length)(hs:IsW md s t)(h9:n.op=10):
 IsW md (Jv (Zs md.n.toNat) (Vd (md.rel.getD n.i.toNat []) md.n.toNat (Jv (Zs md.n.toNat) s))) (.one n t):=by
 intro w;rw [Qop _ _ _ _ (fun v hv=>(Dj h _ _ v hv).2)];show _↔(if n.op=4 then _ else if n.op=9 then _ else if n.op=10 then _ else _);rw [if_neg (by omega),if_neg (by omega),if_pos h9];constructor
 ·rintro⟨_,v,hv,hb⟩;have nC:=(Dj h n.i.toNat w.1 v hv).2;refine⟨⟨v,nC⟩,?_,(hs ⟨v,nC⟩).1 hb⟩;show(if 0<=n.i/\n.i < md.rel.length then Et (md.rel.getD n.i.toNat []) md.n.toNat w ⟨v,nC⟩else _);rw [if_pos hi];exact hv
 rintro⟨v,hv,hb⟩;have iA:(if 0<=n.i/\n.i < md.rel.length then Et (md.rel.getD n.i.toNat []) md.n.toNat w v else w=v):=hv;rw [if_pos hi]at iA;exact⟨w.2,v.1,iA,(hs v).2 hb⟩
theorem Sw {md:Md} {g:Int}(hg:g.toNat < 2^md.rel.length) {i:Nat}(hi:Vy g i=true):i < md.rel.length:=Ka hg hi
theorem kmR {md:Md} {i:Nat}(hi:i < md.rel.length)(u v:Fin md.n.toNat):(Gj md).R (i:Int) u v↔((md.rel.getD i []).getD u.1 0).testBit v.1=true:=by
 show(if 0<=(i:Int)/\(i:Int) < md.rel.length then Et (md.rel.getD (i:Int).toNat []) md.n.toNat u v else u=v)↔_;rw [if_pos (by omega),Int.toNat_natCast];rfl
theorem Qo7 {md:Md}(h:Zq md=0) {n:Nd} {s:Nat} {t:Tr}(hg:n.g.toNat < 2^md.rel.length)(hs:IsW md s t)(h9:n.op=11):
 IsW md (Vd ((List.range md.n.toNat).map (Yz md.rel n.g.toNat false md.n.toNat)) md.n.toNat s) (.one n t):=by
 intro w;rw [Sh];show _↔(if n.op=4 then _ else if n.op=9 then _ else if n.op=10 then _ else if n.op=11 then _ else _);rw [if_neg (by omega),if_neg (by omega),if_neg (by omega),if_pos h9,Qjq _ _ _ _ _ w.2];have h4:=(Zn h).2.2.1;constructor
 ·rintro⟨_,hb⟩ i hi gQ v hv;exact(hs v).1 (hb v.1 ((Qz9 ..).2 ⟨i,Sw hg gQ,gQ,(kmR (Sw hg gQ) w v).1 hv⟩))
 intro hf;refine⟨w.2,fun v hv=> ?_⟩;obtain⟨i,hi,gQ,hr⟩:=(Qz9 ..).1 hv;have nC:=(Dj h i w.1 v hr).2;exact(hs ⟨v,nC⟩).2 (hf i (by omega) gQ ⟨v,nC⟩ ((kmR hi w ⟨v,nC⟩).2 hr))
theorem Pe {md:Md}(h:Zq md=0) {g:Int} {c:Nat} {t:Tr}(hg:g.toNat < 2^md.rel.length)(hc:IsW md c t)(u v:Fin md.n.toNat):
 Bj ((List.range md.n.toNat).map (Yz md.rel g.toNat false md.n.toNat)) c u.1 v.1↔(Gj md).step g ((Gj md).sat t) u v:=by
 unfold Bj KM.step;rw [Qjq _ _ _ _ _ u.2,Qz9,hc v];have h4:=(Zn h).2.2.1;refine and_congr ⟨?_,?_⟩ Iff.rfl
 ·rintro⟨a,ha,cP,hr⟩;exact⟨a,by omega,cP,(kmR ha u v).2 hr⟩
 rintro⟨a,_,cP,hr⟩;exact⟨a,Sw hg cP,cP,(kmR (Sw hg cP) u v).1 hr⟩
theorem Zjy {md:Md}(h:Zq md=0) {g:Int} {c:Nat} {t:Tr}(hg:g.toNat < 2^md.rel.length)(hc:IsW md c t) {a b:Nat}(hr:Rch (Bj ((List.range md.n.toNat).map (Yz md.rel g.toNat false md.n.toNat)) c) a b):
 ∀(ha:a < md.n.toNat),∃hb:b < md.n.toNat,Rch ((Gj md).step g ((Gj md).sat t)) (⟨a,ha⟩:Fin md.n.toNat) (⟨b,hb⟩:Fin md.n.toNat):=by
 induction hr with
 |one hs=>exact fun ha=>⟨(Lb h _ _ _ hs.1).2,.one ((Pe h hg hc ⟨_,ha⟩ ⟨_,(Lb h _ _ _ hs.1).2⟩).1 hs)⟩
 |cons hs _ ih =>
  intro ha;obtain⟨hb,kN⟩:=ih (Lb h _ _ _ hs.1).2;exact⟨hb,.cons ((Pe h hg hc ⟨_,ha⟩ ⟨_,(Lb h _ _ _ hs.1).2⟩).1 hs) kN⟩
theorem Qep {md:Md}(h:Zq md=0) {g:Int} {c:Nat} {t:Tr}(hg:g.toNat < 2^md.rel.length)(hc:IsW md c t) {a b:Fin md.n.toNat}(hr:Rch ((Gj md).step g ((Gj md).sat t)) a b):
 Rch (Bj ((List.range md.n.toNat).map (Yz md.rel g.toNat false md.n.toNat)) c) a.1 b.1:=by
 induction hr with
 |one hs=>exact .one ((Pe h hg hc _ _).2 hs)
 |cons hs _ ih=>exact .cons ((Pe h hg hc _ _).2 hs) ih
theorem Qtv {md:Md}(h:Zq md=0) {n:Nd} {c s:Nat} {t1 t2:Tr}(hg:n.g.toNat < 2^md.rel.length)(hc:IsW md c t1)(hs:IsW md s t2)(h9:n.op=13):
 IsW md (Xx ((List.range md.n.toNat).map (Yz md.rel n.g.toNat false md.n.toNat)) md.n.toNat c s) (.two n t1 t2):=by
 intro w;unfold Xx;rw [Rz,Bool.and_eq_true,decide_eq_true_iff,Yb];show _↔(if n.op=5 then _ else if n.op=6 then _ else if n.op=7 then _ else if n.op=8 then _ else if n.op=13 then _ else _);rw [if_neg (by omega),if_neg (by omega),if_neg (by omega),if_neg (by omega),if_pos h9];constructor
 ·rintro⟨_,hb⟩ v hv;exact(hs v).1 (hb v.1 ((Qzx (Lb h _)).2 (Qep h hg hc hv)))
 intro hf;refine⟨w.2,fun v hv=> ?_⟩;obtain⟨nC,hr⟩:=Zjy h hg hc ((Qzx (Lb h _)).1 hv) w.2;exact(hs ⟨v,nC⟩).2 (hf ⟨v,nC⟩ hr)
theorem Zqx {md:Md} {n:Nd}(h:n.op=1)(x y:Nat):IsW md (Gv n.op x y (Zs md.n.toNat)) (.leaf n):=by
 intro w;show _↔(n.op=1\/_);unfold Gv;rw [if_pos h,Kf];exact⟨fun _=>Or.inl h,fun _=>decide_eq_true w.2⟩
theorem Qov {md:Md} {n:Nd}(h:n.op=2)(x y:Nat):IsW md (Gv n.op x y (Zs md.n.toNat)) (.leaf n):=by
 intro w;show _↔(n.op=1\/(n.op=3/\_));rw [h];show(Gv 2 x y (Zs md.n.toNat)).testBit w.1=true↔_;rw [show Gv 2 x y (Zs md.n.toNat)=0 from rfl,Nat.zero_testBit];simp
theorem Qaz {md:Md} {n:Nd}(h:n.op=3):IsW md (md.val.getD n.i.toNat 0) (.leaf n):=by
 intro w;show _↔(n.op=1\/(n.op=3/\(md.val.getD n.i.toNat 0).testBit w.1=true));rw [h];simp
theorem Qis {md:Md} {n:Nd} {x y:Nat} {t:Tr}(h:n.op=4)(hx:IsW md x t):IsW md (Gv n.op x y (Zs md.n.toNat)) (.one n t):=by
 intro w;show _↔(if n.op=4 then ¬(Gj md).sat t w else _);rw [if_pos h,<-hx w,h];show(Jv (Zs md.n.toNat) x).testBit w.1=true↔_;rw [Gn,Kf,decide_eq_true w.2];simp
theorem Qjl {md:Md} {n:Nd} {x y:Nat} {t1 t2:Tr}(h:n.op=5\/n.op=6\/n.op=7\/n.op=8)(hx:IsW md x t1)(hy:IsW md y t2):IsW md (Gv n.op x y (Zs md.n.toNat)) (.two n t1 t2):=by
 intro w;have h1:=hx w;have h2:=hy w;show _↔(if n.op=5 then(Gj md).sat t1 w/\(Gj md).sat t2 w else if n.op=6 then(Gj md).sat t1 w\/(Gj md).sat t2 w else if n.op=7 then(Gj md).sat t1 w->(Gj md).sat t2 w else if n.op=8 then((Gj md).sat t1 w↔(Gj md).sat t2 w)else _);rw [<-h1,<-h2];rcases h with h|h|h|h <;> rw [h]
 ·show(x&&&y).testBit w.1=true↔_;rw [Nat.testBit_and];cases x.testBit w.1 <;> cases y.testBit w.1 <;> simp
 ·show(x|||y).testBit w.1=true↔_;rw [Nat.testBit_or];cases x.testBit w.1 <;> cases y.testBit w.1 <;> simp
 ·show(Jv (Zs md.n.toNat) x|||y).testBit w.1=true↔_;rw [Nat.testBit_or,Gn,Kf,decide_eq_true w.2];cases x.testBit w.1 <;> cases y.testBit w.1 <;> simp
 show(Jv (Zs md.n.toNat) (x^^^y)).testBit w.1=true↔_;rw [Gn,Kf,decide_eq_true w.2,Nat.testBit_xor];cases x.testBit w.1 <;> cases y.testBit w.1 <;> simp
theorem Qgl(rl:List (List Nat))(gn i v:Nat):∀(k s:Nat),(((List.range k).foldl (Fk rl gn true i) s).testBit v=true↔s.testBit v=true/\∀a,a < k->gn.testBit a=true->((rl.getD a []).getD i 0).testBit v=true)
 |0,s=>by simp
 |k+1,s=>by
  rw [Ve];have ih:=Qgl rl gn i v k s;obtain⟨t,ht⟩:∃t,t=(List.range k).foldl (Fk rl gn true i) s:=⟨_,rfl⟩;rw [<-ht]at ih⊢;unfold Fk;cases hg:gn.testBit k
  ·rw [if_neg (by simp),ih];refine and_congr Iff.rfl ⟨fun h a h1 h2=> ?_,fun h a h1 h2=>h a (by omega) h2⟩;by_cases e:a=k
   ·rw [e,hg]at h2;cases h2
   exact h a (by omega) h2
  rw [if_pos rfl,if_pos rfl,Nat.testBit_and,Bool.and_eq_true,ih];constructor
  ·rintro⟨⟨h1,h2⟩,h3⟩;refine⟨h1,fun a ha hb=> ?_⟩;by_cases e:a=k
   ·rw [e];exact h3
   exact h2 a (by omega) hb
  rintro⟨h1,h2⟩;exact⟨⟨h1,fun a ha hb=>h2 a (by omega) hb⟩,h2 k (by omega) hg⟩
theorem Qdk(rl:List (List Nat))(gn n i v:Nat):(Yz rl gn true n i).testBit v=true↔v < n/\∀a,a < rl.length->gn.testBit a=true->((rl.getD a []).getD i 0).testBit v=true:=by
 unfold Yz;rw [Qgl,if_pos rfl,Kf,decide_eq_true_iff]
theorem Qh4 {md:Md}(h:Zq md=0) {n:Nd} {s:Nat} {t:Tr}(hg:n.g.toNat < 2^md.rel.length)(hs:IsW md s t)(h9:n.op=12):
 IsW md (Vd ((List.range md.n.toNat).map (Yz md.rel n.g.toNat true md.n.toNat)) md.n.toNat s) (.one n t):=by
 intro w;rw [Sh];show _↔(if n.op=4 then _ else if n.op=9 then _ else if n.op=10 then _ else if n.op=11 then _ else if n.op=12 then _ else _);rw [if_neg (by omega),if_neg (by omega),if_neg (by omega),if_neg (by omega),if_pos h9,Qjq _ _ _ _ _ w.2];have h4:=(Zn h).2.2.1;constructor
 ·rintro⟨_,hb⟩ v hv;exact(hs v).1 (hb v.1 ((Qdk ..).2 ⟨v.2,fun a ha cP=>(kmR ha w v).1 (hv a (by omega) cP)⟩))
 intro hf;refine⟨w.2,fun v hv=> ?_⟩;obtain⟨nC,hv⟩:=(Qdk ..).1 hv;exact(hs ⟨v,nC⟩).2 (hf ⟨v,nC⟩ fun i _ gQ=>(kmR (Sw hg gQ) w ⟨v,nC⟩).2 (hv i (Sw hg gQ) gQ))
theorem Qgm {md:Md}(h:Zq md=0) {n:Nd} {x y:Nat} {a b:Tr}(hf:Qv4 md n)(hx:Qw n.op=true->IsW md x a)(hy:Qc n.op=true->IsW md y b):
 IsW md (Uk md n x y) (Yi n a b):=by
 have ho:1<=n.op:=by
  have:=hf.head.1;unfold Jd at this;simp at this;omega
 have xK:=hf.op;obtain⟨op,i,e,g,p,q⟩:=n;have hc:op=1\/op=2\/op=3\/op=4\/(op=5\/op=6\/op=7\/op=8)\/op=9\/op=10\/op=11\/op=12\/op=13:=by
  simp at ho xK;omega
 rcases hc with rfl|rfl|rfl|rfl|hc|rfl|rfl|rfl|rfl|rfl
 ·exact Zqx (n:=⟨1,i,e,g,p,q⟩) rfl x y
 ·exact Qov (n:=⟨2,i,e,g,p,q⟩) rfl x y
 ·exact Qaz (n:=⟨3,i,e,g,p,q⟩) rfl
 ·exact Qis (n:=Nd.head ⟨4,i,e,g,p,q⟩) (y:=y) rfl (hx rfl)
 ·rcases hc with rfl|rfl|rfl|rfl
  ·exact Qjl (n:=Nd.head ⟨5,i,e,g,p,q⟩) (Or.inl rfl) (hx rfl) (hy rfl)
  ·exact Qjl (n:=Nd.head ⟨6,i,e,g,p,q⟩) (Or.inr (Or.inl rfl)) (hx rfl) (hy rfl)
  ·exact Qjl (n:=Nd.head ⟨7,i,e,g,p,q⟩) (Or.inr (Or.inr (Or.inl rfl))) (hx rfl) (hy rfl)
  exact Qjl (n:=Nd.head ⟨8,i,e,g,p,q⟩) (Or.inr (Or.inr (Or.inr rfl))) (hx rfl) (hy rfl)
 ·exact Qok h (n:=Nd.head ⟨9,i,e,g,p,q⟩) ⟨(Kw hf.head rfl).1,hf.agent (Or.inl rfl)⟩ (hx rfl) rfl
 ·exact Qoc h (n:=Nd.head ⟨10,i,e,g,p,q⟩) ⟨(Kw hf.head rfl).1,hf.agent (Or.inr rfl)⟩ (hx rfl) rfl
 ·exact Qo7 h (n:=Nd.head ⟨11,i,e,g,p,q⟩) (hf.group (show(11:Int)<=11 by decide)).2 (hx rfl) rfl
 ·exact Qh4 h (n:=Nd.head ⟨12,i,e,g,p,q⟩) (hf.group (show(11:Int)<=12 by decide)).2 (hx rfl) rfl
 exact Qtv h (n:=Nd.head ⟨13,i,e,g,p,q⟩) (hf.group (show(11:Int)<=13 by decide)).2 (hx rfl) (hy rfl) rfl
theorem It(md:Md)(f:List Nd):∀(m k:Nat),k < m->(Kd md f m).getD k 0=Co md f (Kd md f k) k
 |0,_,h=>absurd h (by omega)
 |m+1,k,h=>by
  show(Kd md f m++ [Co md f (Kd md f m) m]).getD k 0=_;rw [Qk];by_cases e:k=m
  ·subst e;rw [List.getElem?_append_right (by rw [Rg];omega),Rg,Nat.sub_self];rfl
  rw [List.getElem?_append_left (by rw [Rg];omega),<-Qk];exact It md f m k (by omega)
def okP(n:Nd)(fi:List Bool):Bool :=
 (!decide (4<=n.op)||fi.getD n.x.toNat false)&&(!((decide (5<=n.op)&&decide (n.op<=8))||n.op==13)||fi.getD n.y.toNat false)
def atP(md:Md)(f:List Nd)(out:List Nat)(fi:List Bool)(k:Nat):Nat×Bool :=
 if okP (f.getD k Nd.zero) fi=true then(Vv md (f.getD k Nd.zero) (out.getD (f.getD k Nd.zero).x.toNat 0) (out.getD (f.getD k Nd.zero).y.toNat 0),Jz md (f.getD k Nd.zero))else(0,false)
def Jk(md:Md)(f:List Nd):Nat->List Nat×List Bool
 |0=>([],[])
 |k+1=>((Jk md f k).1++ [(atP md f (Jk md f k).1 (Jk md f k).2 k).1],(Jk md f k).2++ [(atP md f (Jk md f k).1 (Jk md f k).2 k).2])
theorem Ui(md:Md)(f:List Nd):∀k,(Jk md f k).1.length=k/\(Jk md f k).2.length=k
 |0=>⟨rfl,rfl⟩
 |k+1=>by
  obtain⟨h1,h2⟩:=Ui md f k;unfold Jk;exact⟨by simp [h1],by simp [h2]⟩
theorem Rf(md:Md)(f:List Nd):∀(m k:Nat),k < m->(Jk md f m).1.getD k 0=(atP md f (Jk md f k).1 (Jk md f k).2 k).1/\(Jk md f m).2.getD k false=(atP md f (Jk md f k).1 (Jk md f k).2 k).2
 |0,k,h=>absurd h (Nat.not_lt_zero _)
 |m+1,k,h=>by
  obtain⟨h1,h2⟩:=Ui md f m;by_cases hk:k < m
  ·have:=Rf md f m k hk;rw [<-this.1,<-this.2];constructor
   ·show((Jk md f m).1++_).getD k 0=_;rw [Qk,Qk,List.getElem?_append_left (by omega)]
   show((Jk md f m).2++_).getD k false=_;rw [Qk,Qk,List.getElem?_append_left (by omega)]
  obtain rfl:k=m:=by omega
  constructor
  ·show((Jk md f k).1++_).getD k 0=_;rw [Qk,List.getElem?_append_right (by omega),h1,Nat.sub_self];rfl
  show((Jk md f k).2++_).getD k false=_;rw [Qk,List.getElem?_append_right (by omega),h2,Nat.sub_self];rfl
theorem Qav {md:Md} {n:Nd}(hh:Zh n)(h:Jz md n=true)(hg:11<=n.op->n.op<=13->1<=n.g):Qv4 md n:=by
 have zV:=(Dq n.op).1 hh.1;unfold Jz at h;refine⟨hh,?_,fun ho=> ?_,fun ho=> ?_,fun ho=> ?_⟩
 ·by_cases h3:n.op=3
  ·omega
  rw [if_neg h3]at h;by_cases h8:n.op<=8
  ·omega
  rw [if_neg h8]at h;by_cases xQ:n.op<=10
  ·omega
  rw [if_neg xQ]at h;by_cases xK:n.op<=13
  ·exact xK
  rw [if_neg xK]at h;cases h
 ·rw [if_pos ho]at h;exact of_decide_eq_true h
 ·rw [if_neg (by omega),if_neg (by omega),if_pos (by omega)]at h;exact of_decide_eq_true h
 rw [if_neg (by omega),if_neg (by omega),if_neg (by omega)]at h;by_cases xK:n.op<=13
 ·rw [if_pos xK]at h;have h2:=of_decide_eq_true h;have vL:=hg ho xK;exact⟨vL,by omega⟩
 rw [if_neg xK]at h;cases h
theorem Qy4 {f:List Nd} {k:Nat} {n:Nd}(h:f[k]?=some n):f.getD k Nd.zero=n:=by rw [Qk,h];rfl
theorem Qy2:∀(l:List Nd) (s i:Nat),(l.foldl (fun s n=>s|||(Vf n.op).toNat) s).testBit i=true->s.testBit i=true\/∃n∈l,(Vf n.op).toNat.testBit i=true
 |[],_,_,h=>Or.inl h
 |a :: l,s,i,h=>by
  rcases Qy2 l (s|||(Vf a.op).toNat) i h with h1|⟨n,hn,h2⟩
  ·rw [Nat.testBit_or,Bool.or_eq_true]at h1;rcases h1 with h1|h1
   ·exact Or.inl h1
   exact Or.inr ⟨a,List.mem_cons_self ..,h1⟩
  exact Or.inr ⟨n,List.mem_cons_of_mem _ hn,h2⟩
theorem Ql7:∀(l:List Nd) (s i:Nat),(l.foldl agS s).testBit i=true->s.testBit i=true\/∃n∈l,(Qo n.op=true/\i=n.i.toNat)\/n.g.toNat.testBit i=true
 |[],_,_,h=>Or.inl h
 |a :: l,s,i,h=>by
  rcases Ql7 l (agS s a) i h with h1|⟨n,hn,h2⟩
  ·unfold agS at h1;rw [Nat.testBit_or,Nat.testBit_or,Bool.or_eq_true,Bool.or_eq_true]at h1;rcases h1 with(h1|h1)|h1
   ·exact Or.inl h1
   ·refine Or.inr ⟨a,List.mem_cons_self ..,Or.inl ?_⟩;cases ha:Qo a.op
    ·rw [ha,if_neg (by simp),Nat.zero_testBit]at h1;cases h1
    rw [ha,if_pos rfl,Nat.testBit_two_pow,decide_eq_true_iff]at h1;exact⟨rfl,h1.symm⟩
   exact Or.inr ⟨a,List.mem_cons_self ..,Or.inr h1⟩
  exact Or.inr ⟨n,List.mem_cons_of_mem _ hn,h2⟩
theorem Qmo:∀(l:List Nd) (s i:Nat),(l.foldl faS s).testBit i=true->s.testBit i=true\/∃n∈l,n.op=3/\i=n.i.toNat
 |[],_,_,h=>Or.inl h
 |a :: l,s,i,h=>by
  rcases Qmo l (faS s a) i h with h1|⟨n,hn,h2⟩
  ·unfold faS at h1;by_cases ho:a.op=3
   ·rw [if_pos ho,Nat.testBit_or,Bool.or_eq_true,Nat.testBit_two_pow,decide_eq_true_iff]at h1;rcases h1 with h1|h1
    ·exact Or.inl h1
    exact Or.inr ⟨a,List.mem_cons_self ..,ho,h1.symm⟩
   rw [if_neg ho]at h1;exact Or.inl h1
  exact Or.inr ⟨n,List.mem_cons_of_mem _ hn,h2⟩
theorem Qlb {c:List Nd}(hc:check c=0) {k:Nat}(hk:k < c.length):∀n∈Qn (tr c k),∃m∈c,m.head=n.head:=by
 have hP:∀(n:Nd) (k1 k2:Nat),(∃m∈c,m.head=n.head)->∃m∈c,m.head=(n.with_ k1 k2).head:=fun n k1 k2 ⟨m,hm,h⟩=>⟨m,hm,by rw [Qzh];exact h⟩
 exact Tq (P:=fun n=>∃m∈c,m.head=n.head) hP (tr c k) [] (Hq (P:=fun n=>∃m∈c,m.head=n.head) hP (Ym hc) (fun n hn=>⟨n,hn,rfl⟩) k hk) (fun n hn=>by cases hn)
theorem Qy0 {md:Md} {c:List Nd}(hc:check c=0)(wN:Qg c=c)(hs:Js (Jm c) 15=true)(hf:Yc c md.rel.length md.val.length=true) {k:Nat}(hk:k < c.length):Pf md c (k:Int)=true:=by
 have hg:=(Qg9 hc hk).2.1;have lS:(tr c k).ok:=Qf2 (Ym hc) k hk;have cQ:Qg (Jn c (k:Int))=Qn (tr c k):=by
  rw [Ub hg,Rd hc hk,Kr lS]
 have hh:=Qlb hc hk;unfold Yc at hf;rw [Bool.and_eq_true,Bool.and_eq_true,List.all_eq_true,List.all_eq_true,wN]at hf;unfold Pf;rw [Bool.and_eq_true];refine⟨?_,?_⟩
 ·rw [Yb]at hs⊢;intro i hi;unfold Jm Vi at hi;rw [cQ]at hi;rcases Qy2 _ _ _ hi with h|⟨n,hn,h⟩
  ·rw [Nat.zero_testBit]at h;cases h
  obtain⟨m,hm,e⟩:=hh n hn;refine hs i ?_;unfold Jm Vi;rw [wN];exact(On c 0).2 m hm i (by rw [(Sd e).1];exact h)
 unfold Yc;rw [Bool.and_eq_true,Bool.and_eq_true,List.all_eq_true,List.all_eq_true,cQ];refine⟨by rw [hg];rfl,fun i hi=> ?_,fun i hi=> ?_⟩
 ·have h1:=hf.2.1 i hi;unfold Xj at h1⊢;rw [Bool.or_eq_true]at h1⊢;rcases h1 with h1|h1
  ·refine Or.inl ?_;cases hb:(Jr (Qn (tr c k))).testBit i
   ·rfl
   exfalso
   rcases Ql7 _ _ _ hb with h|⟨n,hn,h⟩
   ·rw [Nat.zero_testBit]at h;cases h
   obtain⟨m,hm,e⟩:=hh n hn;have:=(Qv8 c 0).2 m hm i (by rw [(Sd e).1,(Sd e).2.1,(Sd e).2.2];exact h);unfold Jr at h1;rw [this]at h1;cases h1
  exact Or.inr h1
 have h1:=hf.2.2 i hi;unfold Xj at h1⊢;rw [Bool.or_eq_true]at h1⊢;rcases h1 with h1|h1
 ·refine Or.inl ?_;cases hb:(Yy (Qn (tr c k))).testBit i
  ·rfl
  exfalso
  rcases Qmo _ _ _ hb with h|⟨n,hn,h⟩
  ·rw [Nat.zero_testBit]at h;cases h
  obtain⟨m,hm,e⟩:=hh n hn;have:=(Qkf c 0).2 m hm i (by rw [(Sd e).1,(Sd e).2.1];exact h);unfold Yy at h1;rw [this]at h1;cases h1
 exact Or.inr h1
def Bk(md:Md):Tr->Bool
 |.leaf n=>Jz md n
 |.one n a=>Jz md n&&Bk md a
 |.two n a b=>Jz md n&&(Bk md a&&Bk md b)
theorem Qkn(md:Md)(n:Nd):Jz md n.head=Jz md n:=rfl
theorem Qay(md:Md)(n:Nd)(a b:Tr):Bk md (Yi n a b)=(Jz md n&&((!Qw n.op||Bk md a)&&(!Qc n.op||Bk md b))):=by
 unfold Yi;cases hy:Qc n.op
 ·cases hx:Qw n.op
  ·simp [Bk]
  simp [Bk,Qkn]
 have hx:Qw n.op=true:=Vn hy;simp [Bk,Qkn,hx]
theorem Qb0 {md:Md} {n:Nd}(h:Jz md n=true):n.op<=13:=by
 unfold Jz at h;by_cases h3:n.op=3
 ·omega
 rw [if_neg h3]at h;by_cases h8:n.op<=8
 ·omega
 rw [if_neg h8]at h;by_cases xQ:n.op<=10
 ·omega
 rw [if_neg xQ]at h;by_cases xK:n.op<=13
 ·exact xK
 rw [if_neg xK]at h;cases h
theorem Qm8 {md:Md} {f:List Nd}(hc:check f=0):∀k,k < f.length->(atP md f (Jk md f k).1 (Jk md f k).2 k).2=Bk md (tr f k):=by
 intro k
 induction k using Nat.strongRecOn with
 |_ k ih =>
  intro hk;obtain⟨n,hn⟩:∃n,f[k]?=some n:=⟨_,Qv hk⟩;obtain⟨hx,hy⟩:=Ym hc k n hn;rw [Xk (Ym hc) hn,Qay];unfold atP;rw [Qy4 hn];cases hf:Jz md n
  ·rw [Bool.false_and]
   split
   ·rfl
   rfl
  have xK:=Qb0 hf;have e:okP n (Jk md f k).2=((!Qw n.op||Bk md (tr f n.x.toNat))&&(!Qc n.op||Bk md (tr f n.y.toNat))):=by
   unfold okP
   congr 1
   ·have e1:decide (4<=n.op)=Qw n.op:=by unfold Qw;rw [decide_eq_true (show n.op<=21 by omega),Bool.and_true]
    rw [e1];cases h:Qw n.op
    ·rfl
    have hb:=hx h;rw [(Rf md f k _ (by omega)).2,ih _ (by omega) (by omega)]
   have e1:((decide (5<=n.op)&&decide (n.op<=8))||n.op==13)=Qc n.op:=by
    unfold Qc;rw [show(n.op==14)=false by simp;omega,show(n.op==16)=false by simp;omega,show(n.op==19)=false by simp;omega,show(n.op==21)=false by simp;omega];simp
   rw [e1];cases h:Qc n.op
   ·rfl
   have hb:=hy h;rw [(Rf md f k _ (by omega)).2,ih _ (by omega) (by omega)]
  rw [<-e,Bool.true_and];cases ho:okP n (Jk md f k).2
  ·rfl
  rfl
theorem Qax {md:Md} {n:Nd}(h:Qv4 md n):Jz md n=true:=by
 unfold Jz;by_cases h3:n.op=3
 ·rw [if_pos h3];exact decide_eq_true (h.fact h3)
 rw [if_neg h3];by_cases h8:n.op<=8
 ·rw [if_pos h8]
 rw [if_neg h8];by_cases xQ:n.op<=10
 ·rw [if_pos xQ];exact decide_eq_true (h.agent (by omega))
 rw [if_neg xQ,if_pos h.op];have:=h.group (by omega);exact decide_eq_true (by omega)
theorem Hp {md:Md} :∀{t:Tr},t.all (fun n=>Jz md n=true)->Bk md t=true
 |.leaf n,h=>h
 |.one n a,h=>by unfold Bk;rw [h.1,Hp h.2];rfl
 |.two n a b,h=>by unfold Bk;rw [h.1,Hp h.2.1,Hp h.2.2];rfl
theorem Qhi {md:Md} {f:List Nd}(h:Zi md f=0):Bk md (Qe f)=true:=by
 obtain⟨zT,hc,hs,hf⟩:=Vr h;have h2:=Ud hc;have wN:=Xi hc;have xP:Js (Jm (Qg f)) 15=true:=by unfold Jm at hs⊢;rw [h2];exact hs
 have rJ:Yc (Qg f) md.rel.length md.val.length=true:=by
  unfold Yc at hf⊢;rw [h2,wN];rw [hc]at hf;exact hf
 rw [<-Ki hc];refine Hp (Hq (P:=fun n=>Jz md n=true) (fun n k1 k2 h=>h) (Ym wN) (fun n hn=> ?_) _ (by have:=(Jg wN).1;omega));obtain⟨k,hk⟩:=List.mem_iff_getElem?.1 hn;have wO:=(List.getElem?_eq_some_iff.1 hk).1;exact Qax (Qkr wN hk (Qy0 wN h2 xP rJ wO) (Zn zT).2.2.1)
def Nv(md:Md)(f:List Nd):Nat:=(Jk md f f.length).1.getD (f.length - 1) 0
end Go.Proofs.YtkmclcmnoicagaaGreatDoor
