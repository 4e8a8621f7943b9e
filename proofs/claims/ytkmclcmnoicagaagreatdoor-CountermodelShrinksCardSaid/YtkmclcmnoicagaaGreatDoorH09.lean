/- models of Kripke: the plain part of the walks of checkers (split off by splitpl.py): masks, relations, groups, what is checked, what fits, what holds. -/
import Derived.Test.YtkmclcmnoicagaaGreatDoorH06
namespace Go.Proofs.YtkmclcmnoicagaaGreatDoor
set_option maxRecDepth 100000
set_option maxHeartbeats 128000000
open Go.RowKit
theorem Ox {a b:List Nat}(hl:a.length=b.length)(h:∀k,k < a.length->a.getD k 0=b.getD k 0):a=b:=by
 refine List.ext_getElem hl fun i h1 h2=> ?_
 have:=h i h1;rw [Qk,Qk,Qv h1,Qv h2]at this;exact this
def Nh(l:List Nat)(k:Nat):List Nat:=(List.range l.length).map fun i=>if i < k then l.getD i 0|||2^i else l.getD i 0
theorem Qmh(l:List Nat):Nh l 0=l:=by
 refine List.ext_getElem (by simp [Nh]) fun i h1 h2=> ?_
 simp [Nh,h2]
theorem Bg(l:List Nat)(k:Nat):(Nh l k).length=l.length:=by simp [Nh]
theorem Cf {l:List Nat} {k i:Nat}(hi:i < l.length):(Nh l k).getD i 0=if i < k then l.getD i 0|||2^i else l.getD i 0:=by
 unfold Nh;rw [Qk,List.getElem?_map,List.getElem?_range hi];rfl
theorem Qmc {l:List Nat} {k:Nat}(hk:k < l.length):(Nh l k).set k (l.getD k 0|||2^k)=Nh l (k+1):=by
 refine Ox (by rw [List.length_set,Bg,Bg]) fun i hi=> ?_
 rw [List.length_set,Bg]at hi;rw [Qqc (by rw [Bg];exact hk),Cf hi,Cf hi];by_cases e:k=i
 ·subst e;rw [if_pos rfl,if_pos (Nat.lt_succ_self _)]
 rw [if_neg e];by_cases h:i < k
 ·rw [if_pos h,if_pos (show i < k+1 by omega)]
 rw [if_neg h,if_neg (show ¬i < k+1 by omega)]
def Qx8(l:List Nat):Prop:=∀i,i < l.length->(l.getD i 0).testBit i=true
theorem Qaz {l:List Nat} :Nh l l.length=l↔Qx8 l:=by
 constructor
 ·intro h i hi;have h1:=Cf (k:=l.length) hi;rw [h,if_pos hi]at h1;have:=(Qjh.1 h1.symm);rw [Je]at this;exact this i (by rw [Nat.testBit_two_pow];simp)
 intro h;refine Ox (Bg _ _) fun i hi=> ?_
 rw [Bg]at hi;rw [Cf hi,if_pos hi,Qjh,Je];intro j hj;rw [Nat.testBit_two_pow]at hj;have:i=j:=by simpa using hj
 rw [<-this];exact h i hi
def Qa(md:Md):Int :=
 if md.n < 1\/64 < md.n then 2 else if 4 < md.rel.length\/8 < md.val.length then 8
 else if md.rel.any (fun r=> !decide ((r.length:Int)=md.n))then 3
 else if Zn md.val md.n.toNat then 2 else if md.rel.any (fun r=>Zn r md.n.toNat)then 2 else 0
theorem Qve {P:List Nat->Bool} {l:List (List Nat)} {k:Nat}(hk:k < l.length)(h:P (l.getD k [])=true):l.any P=true:=by
 rw [List.any_eq_true];exact⟨l[k],List.getElem_mem hk,by rw [Qk,Qv hk]at h;exact h⟩
theorem Qzi {P:List Nat->Bool} {l:List (List Nat)}(h:∀k,k < l.length->P (l.getD k [])=false):l.any P=false:=by
 rw [List.any_eq_false];intro s hs;obtain⟨k,hk,e⟩:=List.getElem_of_mem hs;have:=h k hk;rw [Qk,Qv hk]at this;have h2:P l[k]=false:=this;rw [e]at h2;rw [h2];simp
def Kg(q:Int)(l:List Nat):Prop :=
 if q=1 then ∀i,i < l.length->l.getD i 0≠0 else if q=2 then Qx8 l else if q=4 then Gy false l else Gy true l
def Gd(lg:Int):List Int:=if lg=0 then []else if lg=1 then [1]else if lg=2 then [2]else if lg=3 then [4]else if lg=4 then [2,4]else if lg=5 then [1,4,5]else [2,4,5]
def Is(lg:Int):Int:=if 0<=lg/\lg<=6 then 0 else 1
theorem Qjo {lg q:Int}(h:q∈Gd lg):q=1\/q=2\/q=4\/q=5:=by
 unfold Gd at h
 repeat' split at h
 all_goals(simp at h;try omega)
def Dm(lg:Int)(l:List Nat):Prop:=∀q∈Gd lg,Kg q l
theorem Qh6(lg:Int):(Gd lg).length<=3:=by
 unfold Gd
 repeat' split
 all_goals simp
structure Fw (md:Md) (lg:Int):Prop where
 lgr:0<=lg/\lg<=6
 ck:Qa md=0
 rel:∀r∈md.rel,Dm lg r
theorem Zv {md:Md}(h:Qa md=0):1<=md.n/\md.n<=64/\md.rel.length<=4/\md.val.length<=8/\(∀r∈md.rel,(r.length:Int)=md.n)/\Zn md.val md.n.toNat=false/\∀r∈md.rel,Zn r md.n.toNat=false:=by
 unfold Qa at h;by_cases h1:md.n < 1\/64 < md.n
 ·rw [if_pos h1]at h;cases h
 rw [if_neg h1]at h;by_cases h2:4 < md.rel.length\/8 < md.val.length
 ·rw [if_pos h2]at h;cases h
 rw [if_neg h2]at h;cases h3:md.rel.any (fun r=> !decide ((r.length:Int)=md.n))
 ·rw [h3]at h;cases h4:Zn md.val md.n.toNat
  ·rw [h4]at h;cases h5:md.rel.any (fun r=>Zn r md.n.toNat)
   ·rw [List.any_eq_false]at h3 h5;exact⟨by omega,by omega,by omega,by omega,fun r hr=>by simpa using h3 r hr,rfl,fun r hr=>by simpa using h5 r hr⟩
   rw [h5]at h;cases h
  rw [h4]at h;cases h
 rw [h3]at h;cases h
theorem Qj1 {md:Md}(h:Qa md=0) {r:List Nat}(hr:r∈md.rel):Xv r=true/\0 < r.length:=by
 obtain⟨h1,h2,_,_,h3,_,h4⟩:=Zv h;have h5:=h3 r hr;have h6:=h4 r hr;have e:md.n.toNat=r.length:=by omega
 rw [e]at h6;exact⟨Fg.2 ⟨by omega,h6⟩,by omega⟩
theorem Tl {k:Nat}(h:k < 64):Qm (2^k):=by
 show 2^k < 18446744073709551616;rw [show(18446744073709551616:Nat)=2^64 from rfl];exact Nat.pow_lt_pow_right (by decide) h
theorem Ep {s k:Nat}(hs:Qm s)(hk:k < 64):bits .or .u64 (s:Int) (IntKind.u64.wrap ((2:Int)^k))=((s|||2^k:Nat):Int):=by
 rw [Sg hk];exact Xq hs (Tl hk)
theorem Oa {a b:Nat}(ha:Qm a)(hb:Qm b):(bits .andNot .u64 (a:Int) (b:Int)==0)=Jr a b:=by
 rw [Yg ha hb,<-Rr,Bool.eq_iff_iff,beq_iff_eq,beq_iff_eq];omega
def Gg(op:Int)(x y al:Nat):Nat :=
 if op=1 then al else if op=4 then Zl al x else if op=5 then x&&&y else if op=6 then x|||y else if op=7 then Zl al x|||y else if op=8 then Zl al (x^^^y)else 0
theorem Rk {a b:Nat}(ha:Qm a):Qm (a&&&b):=Nat.lt_of_le_of_lt Nat.and_le_left ha
theorem Ir {a b:Nat}(ha:Qm a)(hb:Qm b):Qm (a|||b):=Nat.or_lt_two_pow (n:=64) ha hb
theorem Qk0 {a b:Nat}(ha:Qm a)(hb:Qm b):Qm (a^^^b):=Nat.xor_lt_two_pow (n:=64) ha hb
theorem Qpr {op:Int} {x y al:Nat}(hx:Qm x)(hy:Qm y)(ha:Qm al):Qm (Gg op x y al):=by
 unfold Gg
 split
 ·exact ha
 split
 ·exact Uy ha
 split
 ·exact Rk hx
 split
 ·exact Ir hx hy
 split
 ·exact Ir (Uy ha) hy
 split
 ·exact Uy ha
 show(0:Nat) < _;omega
def Vt(r:List Nat)(n s:Nat):Nat:=Yi n fun i=>Jr (r.getD i 0) s
def Sc(r:List Nat)(c s v:Nat):Nat:=if s.testBit v then s|||(r.getD v 0&&&c)else s
def Ug(r:List Nat)(c n s:Nat):Nat:=(List.range n).foldl (Sc r c) s
def Bx(r:List Nat)(c n a:Nat):Nat:=(List.range n).foldl (fun s _=>Ug r c n s) (r.getD a 0&&&c)
theorem Qj5 {r:List Nat}(hw:∀s∈r,Qm s) {c s v:Nat}(hs:Qm s):Qm (Sc r c s v):=by
 unfold Sc
 split
 ·exact Ir hs (Rk (Yx hw v))
 exact hs
theorem Kq {f:Nat->Nat->Nat}(k s:Nat):(List.range (k+1)).foldl f s=f ((List.range k).foldl f s) k:=by
 rw [List.range_succ,List.foldl_append];rfl
theorem Bz {f:Nat->Nat->Nat}(hf:∀s v,Qm s->Qm (f s v))(k s:Nat)(hs:Qm s):Qm ((List.range k).foldl f s):=by
 induction k with
 |zero=>exact hs
 |succ k ih=>rw [Kq];exact hf _ _ ih
theorem Qms {r:List Nat}(hw:∀s∈r,Qm s)(c n a:Nat):Qm (Bx r c n a):=
 Bz (fun s _ hs=>Bz (fun _ _ h=>Qj5 hw h) n s hs) n _ (Rk (Yx hw a))
def Xn(r:List Nat)(n c s:Nat):Nat:=Yi n fun i=>Jr (Bx r c n i) s
def Ft(rl:List (List Nat))(gn:Nat)(meet:Bool)(i s a:Nat):Nat:=if gn.testBit a then(if meet then s&&&(rl.getD a []).getD i 0 else s|||(rl.getD a []).getD i 0)else s
def Yz(rl:List (List Nat))(gn:Nat)(meet:Bool)(n i:Nat):Nat:=(List.range rl.length).foldl (Ft rl gn meet i) (if meet then Zk n else 0)
theorem Wh {rl:List (List Nat)}(hw:∀r∈rl,∀s∈r,Qm s) {gn i s a:Nat} {meet:Bool}(hs:Qm s):Qm (Ft rl gn meet i s a):=by
 unfold Ft;have h1:Qm ((rl.getD a []).getD i 0):=Yx (Ss hw a) i
 split
 ·split
  ·exact Rk hs
  exact Ir hs h1
 exact hs
theorem Qe3 {rl:List (List Nat)}(hw:∀r∈rl,∀s∈r,Qm s) {gn n i:Nat} {meet:Bool}(hn:n<=64):Qm (Yz rl gn meet n i):=by
 unfold Yz;refine Bz (fun s a h=>Wh hw h) _ _ ?_
 split
 ·exact Yk hn
 show(0:Nat) < _;omega
theorem Qvr {α:Type}(g:Nat->α)(k:Nat):(List.range (k+1)).map g=(List.range k).map g++ [g k]:=by
 rw [List.range_succ,List.map_append];rfl
theorem Qj4 {k gn:Nat}(hk:k<=4)(hg:gn < 2^k):¬wrap64 ((2:Int)^k)<=(gn:Int):=by
 have hc:k=0\/k=1\/k=2\/k=3\/k=4:=by omega
 rcases hc with rfl|rfl|rfl|rfl|rfl <;>(unfold wrap64;simp at hg⊢;omega)
theorem Xz {n:Nd}(h:Ze n)(ho:Zb n.op=true):0<=n.i/\n.i < 4:=by
 obtain⟨_,_,h3,_,_⟩:=h;unfold Ya at h3;simp only [Ql,ho,Bool.or_eq_false_iff]at h3;simp at h3;omega
theorem By {n:Nd}(h:Ze n)(ho:n.op=3):0<=n.i/\n.i < 8:=by
 obtain⟨_,_,h3,_,_⟩:=h;unfold Ya at h3;rw [ho]at h3;simp [Ql,Zo,Zb,Zd,Zm]at h3;omega
theorem Ui {n:Nd}(h:Ze n):0<=n.g/\n.g < 16:=by
 obtain⟨_,h2,h3,_,_⟩:=h;cases hg:Zm n.op
 ·unfold Zh at h2;simp only [hg,Bool.or_eq_false_iff]at h2;simp at h2;omega
 unfold Ya at h3;simp only [Ql,hg,Bool.or_eq_false_iff]at h3;simp at h3;omega
def Tq(s:Nat)(n:Nd):Nat:=(s|||(if Zb n.op then 2^n.i.toNat else 0))|||n.g.toNat
def Tz(s:Nat)(n:Nd):Nat:=if n.op=3 then s|||2^n.i.toNat else s
def Jl(l:List Nd):Nat:=l.foldl Tq 0
def Yy(l:List Nd):Nat:=l.foldl Tz 0
theorem Zjw {s:Nat} {n:Nd}(h:Ze n)(hs:s < 2^4):Tq s n < 2^4:=by
 unfold Tq;have h1:=Ui h;refine Nat.or_lt_two_pow (Nat.or_lt_two_pow hs ?_) (by omega)
 split
 ·rename_i ho;have:=Xz h ho;exact Nat.pow_lt_pow_right (by decide) (by omega)
 decide
theorem Zj7 {s:Nat} {n:Nd}(h:Ze n)(hs:s < 2^8):Tz s n < 2^8:=by
 unfold Tz
 split
 ·rename_i ho;have:=By h ho;exact Nat.or_lt_two_pow hs (Nat.pow_lt_pow_right (by decide) (by omega))
 exact hs
theorem Ry:∀(l:List Nd) (s:Nat),(∀n∈l,Ze n)->s < 2^4->l.foldl Tq s < 2^4
 |[],_,_,hs=>hs
 |n :: l,_,h,hs=>Ry l _ (fun n hn=>h n (List.mem_cons_of_mem _ hn)) (Zjw (h n (List.mem_cons_self ..)) hs)
theorem Tb:∀(l:List Nd) (s:Nat),(∀n∈l,Ze n)->s < 2^8->l.foldl Tz s < 2^8
 |[],_,_,hs=>hs
 |n :: l,_,h,hs=>Tb l _ (fun n hn=>h n (List.mem_cons_of_mem _ hn)) (Zj7 (h n (List.mem_cons_self ..)) hs)
theorem Di {k:Nat}(hk:k < 8):wrap64 ((2:Int)^k)=((2^k:Nat):Int):=by
 have hc:k=0\/k=1\/k=2\/k=3\/k=4\/k=5\/k=6\/k=7:=by omega
 rcases hc with rfl|rfl|rfl|rfl|rfl|rfl|rfl|rfl <;> decide+kernel
def Xx(a:Nat)(m i:Nat):Bool:= !m.testBit i||decide (i < a)
def Yl(f:List Nd)(a b:Nat):Bool:=check f==0&&((List.range 4).all (Xx a (Jl (Qf f)))&&(List.range 8).all (Xx b (Yy (Qf f))))
theorem Qdd {P:Nat->Bool} {n k:Nat}(hk:k < n)(h:P k=false):(List.range n).all P=false:=by
 rw [List.all_eq_false];exact⟨k,List.mem_range.2 hk,by rw [h];simp⟩
theorem Qg8 {P:Nat->Bool} {n:Nat}(h:∀k,k < n->P k=true):(List.range n).all P=true:=by
 rw [List.all_eq_true];exact fun k hk=>h k (List.mem_range.1 hk)
theorem Qme:(List.range 512).all (fun m=>((bits .andNot .i64 (m:Int) 15==0)==Jr m 15)&&((bits .andNot .i64 (m:Int) 15 !=0)== !Jr m 15))=true:=by kernel_rfl
theorem Pt(f:List Nd):(bits .andNot .i64 ((Jp f:Nat):Int) 15==0)=Jr (Jp f) 15/\(bits .andNot .i64 ((Jp f:Nat):Int) 15 !=0)= !Jr (Jp f) 15:=by
 have h:=List.all_eq_true.1 Qme (Jp f) (List.mem_range.2 (Pd (Qf f)));rw [Bool.and_eq_true,beq_iff_eq,beq_iff_eq]at h;exact h
def Hf(md:Md)(f:List Nd)(i:Int):Bool:=Jr (Jp (Js f i)) 15&&Yl (Js f i) md.rel.length md.val.length
def Jz(md:Md)(f:List Nd):Int :=
 if Qa md≠0 then Qa md else if check f≠0 then check f else if Jr (Jp f) 15=false then 10 else if Yl f md.rel.length md.val.length=false then 2 else 0
structure Qk3 (md:Md) (n:Nd):Prop where
 head:Ze n
 op:n.op<=13
 fact:n.op=3->n.i < md.val.length
 agent:n.op=9\/n.op=10->n.i < md.rel.length
 group:11<=n.op->1<=n.g/\n.g.toNat < 2^md.rel.length
def Fq(md:Md)(n:Nd)(x y:Nat):Nat :=
 if n.op=3 then md.val.getD n.i.toNat 0 else if n.op<=8 then Gg n.op x y (Zk md.n.toNat)
 else if n.op=9 then Vt (md.rel.getD n.i.toNat []) md.n.toNat x
 else if n.op=10 then Zl (Zk md.n.toNat) (Vt (md.rel.getD n.i.toNat []) md.n.toNat (Zl (Zk md.n.toNat) x))
 else if n.op=11 then Vt ((List.range md.n.toNat).map (Yz md.rel n.g.toNat false md.n.toNat)) md.n.toNat x
 else if n.op=12 then Vt ((List.range md.n.toNat).map (Yz md.rel n.g.toNat true md.n.toNat)) md.n.toNat x
 else Xn ((List.range md.n.toNat).map (Yz md.rel n.g.toNat false md.n.toNat)) md.n.toNat x y
theorem Qe2 {md:Md}(zP:md.ok) {gn N:Nat} {meet:Bool}(hN:N<=64):((List.range N).map (Yz md.rel gn meet N)).length=N/\∀s∈(List.range N).map (Yz md.rel gn meet N),Qm s:=by
 refine⟨by simp,fun s hs=> ?_⟩;obtain⟨i,_,rfl⟩:=List.mem_map.1 hs;exact Qe3 zP.rel hN
theorem Qqv {r:List Nat} {n s:Nat}(hn:n<=64):Qm (Vt r n s):=Fk hn _
theorem Qwh {md:Md}(zP:md.ok)(hN:md.n.toNat<=64) {n:Nd} {x y:Nat}(hx:Qm x)(hy:Qm y):Qm (Fq md n x y):=by
 unfold Fq
 split
 ·exact Yx zP.val _
 split
 ·exact Qpr hx hy (Yk hN)
 split
 ·exact Qqv hN
 split
 ·exact Uy (Yk hN)
 split
 ·exact Qqv hN
 split
 ·exact Qqv hN
 exact Fk hN _
def Ew(md:Md)(f:List Nd)(out:List Nat)(k:Nat):Nat :=
 if Hf md f (k:Int)then Fq md (f.getD k Nd.zero) (if Zq (f.getD k Nd.zero).op then out.getD (f.getD k Nd.zero).x.toNat 0 else 0) (if Qw (f.getD k Nd.zero).op then out.getD (f.getD k Nd.zero).y.toNat 0 else 0)else 0
def Ka(md:Md)(f:List Nd):Nat->List Nat
 |0=> []
 |k+1=>Ka md f k++ [Ew md f (Ka md f k) k]
theorem Sj(md:Md)(f:List Nd):∀k,(Ka md f k).length=k
 |0=>rfl
 |k+1=>by
  show(Ka md f k++_).length=_;rw [List.length_append,Sj md f k];rfl
theorem Qgz {md:Md}(zP:md.ok)(hN:md.n.toNat<=64)(f:List Nd):∀k,∀s∈Ka md f k,Qm s
 |0,s,hs=>by cases hs
 |k+1,s,hs=>by
  have ih:=Qgz zP hN f k;rcases List.mem_append.1 hs with h|h
  ·exact ih s h
  rw [List.mem_singleton.1 h];unfold Ew
  split
  ·refine Qwh zP hN ?_ ?_
   ·split
    ·exact Yx ih _
    show(0:Nat) < _;omega
   split
   ·exact Yx ih _
   show(0:Nat) < _;omega
  show(0:Nat) < _;omega
theorem Vm {md:Md} {f:List Nd}(h:Jz md f=0):Qa md=0/\check f=0/\Jr (Jp f) 15=true/\Yl f md.rel.length md.val.length=true:=by
 unfold Jz at h;by_cases h1:Qa md≠0
 ·rw [if_pos h1]at h;exact absurd h h1
 rw [if_neg h1]at h;by_cases h2:check f≠0
 ·rw [if_pos h2]at h;exact absurd h h2
 rw [if_neg h2]at h;cases h3:Jr (Jp f) 15
 ·rw [if_pos h3]at h;cases h
 rw [if_neg (by rw [h3];simp)]at h;cases h4:Yl f md.rel.length md.val.length
 ·rw [if_pos h4]at h;cases h
 exact⟨Classical.not_not.1 h1,Classical.not_not.1 h2,rfl,rfl⟩
def Sl(md:Md)(f:List Nd):Int:=if Jz md (Qf f)=0 then 0 else Jz md f
def Dj(md:Md)(f:List Nd):Nat:=if Jz md (Qf f)=0 then(Ka md (Qf f) (Qf f).length).getD ((Qf f).length - 1) 0 else 0
def atE(md:Md)(f:List Nd)(i:Int):Int:=if Sl md f=0 then(if i < 0\/md.n<=i then 2 else 0)else Sl md f
def Zxy(md:Md)(f:List Nd)(i:Int):Bool:=if Sl md f=0 then(if i < 0\/md.n<=i then false else(Dj md f).testBit i.toNat)else false
theorem Qqm:∀(l:List Nd) (s:Nat),(∀i,s.testBit i=true->(l.foldl (fun s n=>s|||(Vn n.op).toNat) s).testBit i=true)/\∀n∈l,∀i,(Vn n.op).toNat.testBit i=true->(l.foldl (fun s n=>s|||(Vn n.op).toNat) s).testBit i=true
 |[],_=>⟨fun _ h=>h,fun _ h=>by cases h⟩
 |a :: l,s=>by
  obtain⟨h1,h2⟩:=Qqm l (s|||(Vn a.op).toNat);refine⟨fun i hi=>h1 i (by rw [Nat.testBit_or,hi];rfl),fun n hn i hi=> ?_⟩;rcases List.mem_cons.1 hn with rfl|hn
  ·exact h1 i (by rw [Nat.testBit_or,hi,Bool.or_true])
  exact h2 n hn i hi
theorem Qk7:∀(l:List Nd) (s:Nat),(∀i,s.testBit i=true->(l.foldl Tq s).testBit i=true)/\∀n∈l,∀i,((Zb n.op=true/\i=n.i.toNat)\/n.g.toNat.testBit i=true)->(l.foldl Tq s).testBit i=true
 |[],_=>⟨fun _ h=>h,fun _ h=>by cases h⟩
 |a :: l,s=>by
  obtain⟨h1,h2⟩:=Qk7 l (Tq s a);refine⟨fun i hi=>h1 i (by unfold Tq;rw [Nat.testBit_or,Nat.testBit_or,hi];rfl),fun n hn i hi=> ?_⟩;rcases List.mem_cons.1 hn with rfl|hn
  ·refine h1 i ?_;unfold Tq;rw [Nat.testBit_or,Nat.testBit_or];rcases hi with⟨ha,rfl⟩|hg
   ·rw [if_pos ha,Nat.testBit_two_pow];simp
   rw [hg,Bool.or_true]
  exact h2 n hn i hi
theorem Qxg:∀(l:List Nd) (s:Nat),(∀i,s.testBit i=true->(l.foldl Tz s).testBit i=true)/\∀n∈l,∀i,(n.op=3/\i=n.i.toNat)->(l.foldl Tz s).testBit i=true
 |[],_=>⟨fun _ h=>h,fun _ h=>by cases h⟩
 |a :: l,s=>by
  obtain⟨h1,h2⟩:=Qxg l (Tz s a)
  refine⟨fun i hi=>h1 i (by unfold Tz;split;· rw [Nat.testBit_or,hi];rfl
                            ·exact hi),fun n hn i hi=> ?_⟩
  rcases List.mem_cons.1 hn with rfl|hn
  ·refine h1 i ?_;obtain⟨ho,rfl⟩:=hi;unfold Tz;rw [if_pos ho,Nat.testBit_or,Nat.testBit_two_pow];simp
  exact h2 n hn i hi
theorem Ts {m n:Nd}(h:m.head=n.head):m.op=n.op/\m.i=n.i/\m.g=n.g:=by
 have h1:=congrArg Nd.op h;have h2:=congrArg Nd.i h;have h3:=congrArg Nd.g h;exact⟨h1,h2,h3⟩
theorem Qkf {g k:Nat}(h:∀i,g.testBit i=true->i < k):g < 2^k:=by
 rcases Nat.lt_or_ge g (2^k)with h1|h1
 ·exact h1
 obtain⟨i,gN,dG⟩:=Nat.exists_ge_and_testBit_of_ge_two_pow h1;have:=h i dG;omega
theorem Qxn {md:Md} {f:List Nd} {k:Nat} {n:Nd}(hc:check f=0)(hk:f[k]?=some n)(hf:Hf md f (k:Int)=true)(_hr4:md.rel.length<=4):Qk3 md n:=by
 have wR:=(List.getElem?_eq_some_iff.1 hk).1;have hh:=Rh hc n (List.mem_of_getElem? hk);unfold Hf at hf;rw [Bool.and_eq_true]at hf;obtain⟨h1,h2⟩:=hf;have hg:=(Qbz hc wR).2.1;have ht:=Sk hc wR;have oG:(tr f k).ok:=Qb7 (Yt hc) k wR;have wN:Qf (Js f (k:Int))=Qs (tr f k):=by
  rw [Ut hg,ht,Kl oG]
 obtain⟨m,hm,hmt,_⟩:=Qjs oG;have rH:=List.mem_of_getElem? hm;have cW:=Ts (Qhq ((Xd (Yt hc) hk).symm.trans hmt)).1;unfold Yl at h2;rw [Bool.and_eq_true,Bool.and_eq_true,List.all_eq_true,List.all_eq_true]at h2;rw [wN]at h2;have uZ:∀i,((Zb n.op=true/\i=n.i.toNat)\/n.g.toNat.testBit i=true)->i < 4->i < md.rel.length:=fun i hi CC=>by
  have h3:=(Qk7 (Qs (tr f k)) 0).2 m rH i (by rw [<-cW.1,<-cW.2.1,<-cW.2.2];exact hi);have h4:=h2.2.1 i (List.mem_range.2 CC);unfold Xx Jl at h4;rw [h3]at h4
  simpa using h4
 refine⟨hh,?_,fun ho=> ?_,fun ho=> ?_,fun ho=> ?_⟩
 ·have L7:=(Dc n.op).1 hh.1;have xM:Jr (Vn m.op).toNat 15=true:=by
   rw [Je]at h1⊢;intro i hi;refine h1 i ?_;unfold Jp;rw [wN];exact(Qqm (Qs (tr f k)) 0).2 m rH i hi
  rw [<-cW.1]at xM;rcases Dh n.op with h|h|h|h|h|h|h|h|h|h|h|h|h|h|h|h|h|h|h|h|h|h|h <;> first|omega|(rw [h]at xM;exact absurd xM (by decide))
 ·have hb:=By hh ho;have h3:=(Qxg (Qs (tr f k)) 0).2 m rH n.i.toNat ⟨by rw [<-cW.1];exact ho,by rw [<-cW.2.1]⟩;have h4:=h2.2.2 n.i.toNat (List.mem_range.2 (by omega));unfold Xx Yy at h4;rw [h3]at h4;have:n.i.toNat < md.val.length:=by simpa using h4
  omega
 ·have ha:Zb n.op=true:=by rcases ho with h|h <;>(rw [h];rfl)
  have hb:=Xz hh ha;have:=uZ n.i.toNat (.inl ⟨ha,rfl⟩) (by omega);omega
 have hb:=Ui hh;have L8:n.op<=21:=((Dc n.op).1 hh.1).2;refine⟨?_,Qkf fun i hi=>uZ i (.inr hi) (Kf (n:=4) (by omega) hi)⟩;obtain⟨_,h3,h4,_,_⟩:=hh;cases iP:Zm n.op
 ·exfalso
  have xM:Jr (Vn m.op).toNat 15=true:=by
   rw [Je]at h1⊢;intro i hi;refine h1 i ?_;unfold Jp;rw [wN];exact(Qqm (Qs (tr f k)) 0).2 m rH i hi
  rw [<-cW.1]at xM;rcases Dh n.op with h|h|h|h|h|h|h|h|h|h|h|h|h|h|h|h|h|h|h|h|h|h|h <;> first|omega|(rw [h]at xM;exact absurd xM (by decide))|(rw [h]at iP;cases iP)
 unfold Ya at h4;simp only [Ql,iP,Bool.or_eq_false_iff]at h4;simp at h4;omega
inductive Kj {α:Type} (r:α->α->Prop):α->α->Prop
 |one {a b:α} :r a b->Kj r a b
 |cons {a b c:α} :r a b->Kj r b c->Kj r a c
theorem Kj.snoc {α:Type} {r:α->α->Prop} {a b c:α}(h:Kj r a b)(k:r b c):Kj r a c:=by
 induction h with
 |one h=>exact .cons h (.one k)
 |cons h _ ih=>exact .cons h (ih k)
theorem Kj.map {α β:Type} {r:α->α->Prop} {s:β->β->Prop}(f:α->β)(hf:∀a b,r a b->s (f a) (f b)) {a b:α}(h:Kj r a b):Kj s (f a) (f b):=by
 induction h with
 |one h=>exact .one (hf _ _ h)
 |cons h _ ih=>exact .cons (hf _ _ h) ih
theorem Kj.mono {α:Type} {r s:α->α->Prop}(hf:∀a b,r a b->s a b) {a b:α}(h:Kj r a b):Kj s a b:=by
 induction h with
 |one h=>exact .one (hf _ _ h)
 |cons h _ ih=>exact .cons (hf _ _ h) ih
structure KM where
 W:Type
 R:Int->W->W->Prop
 V:Int->W->Prop
def Vg(g:Int)(i:Nat):Bool:=g.toNat.testBit i
def KM.step(M:KM)(g:Int)(c:M.W->Prop)(u v:M.W):Prop:=(∃i:Nat,i < 4/\Vg g i=true/\M.R (i:Int) u v)/\c v
def KM.sat(M:KM):Tr->M.W->Prop
 |.leaf n,w=>n.op=1\/(n.op=3/\M.V n.i w)
 |.one n a,w =>
  if n.op=4 then ¬M.sat a w
  else if n.op=9 then ∀v,M.R n.i w v->M.sat a v
  else if n.op=10 then ∃v,M.R n.i w v/\M.sat a v
  else if n.op=11 then ∀i:Nat,i < 4->Vg n.g i=true->∀v,M.R (i:Int) w v->M.sat a v
  else if n.op=12 then ∀v,(∀i:Nat,i < 4->Vg n.g i=true->M.R (i:Int) w v)->M.sat a v
  else False
 |.two n a b,w =>
  if n.op=5 then M.sat a w/\M.sat b w
  else if n.op=6 then M.sat a w\/M.sat b w
  else if n.op=7 then M.sat a w->M.sat b w
  else if n.op=8 then(M.sat a w↔M.sat b w)
  else if n.op=13 then ∀v,Kj (M.step n.g (M.sat a)) w v->M.sat b v
  else False
structure Frm (lg:Int) {W:Type} (R:W->W->Prop):Prop where
 ser:lg=1\/lg=5->∀w,∃v,R w v
 refl:lg=2\/lg=4\/lg=6->∀w,R w w
 trans:3<=lg/\lg<=6->∀u v w,R u v->R v w->R u w
 eucl:lg=5\/lg=6->∀u v w,R u v->R u w->R v w
def KM.In(M:KM)(lg:Int):Prop:=∀i:Int,Frm lg (M.R i)
def ev(th:Tr->Bool):Tr->Bool
 |.leaf n=>if n.op=3 then th (.leaf n)else n.op==1
 |.one n a=>if n.op=4 then !ev th a else if n.op=9 then th (.one n a)else false
 |.two n a b =>
  if n.op=5 then ev th a&&ev th b
  else if n.op=6 then ev th a||ev th b
  else if n.op=7 then !ev th a||ev th b
  else if n.op=8 then ev th a==ev th b
  else if n.op=13 then th (.two n a b)else false
def cov(B:List Tr):Tr->Prop
 |.leaf n=>n.op=3->.leaf n∈B
 |.one n a=>if n.op=9 then .one n a∈B else cov B a
 |.two n a b=>if n.op=13 then .two n a b∈B else cov B a/\cov B b
def lang:Tr->Prop
 |.leaf _=>True
 |.one n a=>(n.op=4\/n.op=9)/\lang a
 |.two n a b=>((5<=n.op/\n.op<=8)\/n.op=13)/\lang a/\lang b
def Gr(i:Nat)(n:Nd)(a b:Tr):Tr:=.one ⟨9,i,0,0,0,0⟩ (.two ⟨7,0,0,0,0,0⟩ a (.two ⟨5,0,0,0,0,0⟩ b (.two n a b)))
structure Ij (B:List Tr):Prop where
 know:∀n a,.one n a∈B->n.op=9/\cov B a/\lang a/\0<=n.i/\n.i < 4
 com:∀n a b,.two n a b∈B->n.op=13/\cov B a/\cov B b/\lang a/\lang b/\∀i:Nat,i < 4->Vg n.g i=true->Gr i n a b∈B
def Kt(lg:Int)(here vU there:Bool):Bool :=
 if lg<=2 then !here||vU
 else if lg=3 then !here||(vU&&there)
 else if lg=4 then !here||there
 else if lg=6 then here==there
 else(here==there)&&(!here||vU)
def Qb6(lg:Int):Prop:=lg=2\/lg=4\/lg=6
structure Coh (lg:Int) (B:List Tr) (th:Tr->Bool):Prop where
 com:∀n a b,.two n a b∈B->(th (.two n a b)=true↔∀i:Nat,i < 4->Vg n.g i=true->th (Gr i n a b)=true)
 know:Qb6 lg->∀n a,.one n a∈B->th (.one n a)=true->ev th a=true
def Mx(lg:Int)(B:List Tr)(i:Int)(th th':Tr->Bool):Prop :=
 ∀n a,.one n a∈B->n.i=i->Kt lg (th (.one n a)) (ev th' a) (th' (.one n a))=true
section
variable {T:Type} (lg:Int) (B:List Tr) (S:T->Prop) (th:T->Tr->Bool)
def Ha(g:Int)(a:Tr)(t u:T):Prop:=S u/\ev (th u) a=true/\∃i:Nat,i < 4/\Vg g i=true/\Mx lg B (i:Int) (th t) (th u)
structure Od:Prop where
 coh:∀t,S t->Coh lg B (th t)
 ser:lg=1\/lg=5->∀t,S t->∀i:Int,(∃n a,.one n a∈B/\n.i=i)->∃u,S u/\Mx lg B i (th t) (th u)
 know:∀t,S t->∀n a,.one n a∈B->th t (.one n a)=false->∃u,S u/\ev (th u) a=false/\Mx lg B n.i (th t) (th u)
 com:∀t,S t->∀n a b,.two n a b∈B->th t (.two n a b)=false->∃u,Kj (Ha lg B S th n.g a) t u/\ev (th u) b=false
end
theorem Qtr {M:KM} {a b:Tr} {w:M.W} :M.sat (.two ⟨7,0,0,0,0,0⟩ a b) w↔(M.sat a w->M.sat b w):=by simp [KM.sat]
theorem Qg0 {M:KM} {a b:Tr} {w:M.W} :M.sat (.two ⟨5,0,0,0,0,0⟩ a b) w↔(M.sat a w/\M.sat b w):=by simp [KM.sat]
theorem Uc {M:KM} {n:Nd} {a:Tr} {w:M.W}(h:n.op=9):M.sat (.one n a) w↔∀v,M.R n.i w v->M.sat a v:=by simp [KM.sat,h]
theorem Ez {M:KM} {n:Nd} {a b:Tr} {w:M.W}(h:n.op=13):M.sat (.two n a b) w↔∀v,Kj (M.step n.g (M.sat a)) w v->M.sat b v:=by simp [KM.sat,h]
theorem Qg1 {M:KM} {i:Nat} {n:Nd} {a b:Tr} {w:M.W} :M.sat (Gr i n a b) w↔∀v,M.R (i:Int) w v->M.sat a v->M.sat b v/\M.sat (.two n a b) v:=by
 unfold Gr;rw [Uc rfl];constructor
 ·intro h v hv ha;exact Qg0.1 (Qtr.1 (h v hv) ha)
 intro h v hv;exact Qtr.2 fun ha=>Qg0.2 (h v hv ha)
theorem Qi6 {M:KM} {n:Nd} {a b:Tr} {w:M.W}(h:n.op=13):M.sat (.two n a b) w↔∀i:Nat,i < 4->Vg n.g i=true->M.sat (Gr i n a b) w:=by
 constructor
 ·intro hc i hi hb;rw [Qg1];intro v hv ha;rw [Ez h]at hc;refine⟨hc v (.one ⟨⟨i,hi,hb,hv⟩,ha⟩),?_⟩;rw [Ez h];exact fun u hu=>hc u (.cons ⟨⟨i,hi,hb,hv⟩,ha⟩ hu)
 intro hu;rw [Ez h];intro v hv;cases hv with
 |one hs =>
  obtain⟨⟨i,hi,hb,hr⟩,ha⟩:=hs;exact((Qg1.1 (hu i hi hb)) v hr ha).1
 |cons hs hr =>
  obtain⟨⟨i,hi,hb,RU⟩,ha⟩:=hs;exact((Ez h).1 ((Qg1.1 (hu i hi hb)) _ RU ha).2) v hr
theorem Qjz {M:KM} {B:List Tr} {w:M.W} {th:Tr->Bool}(sP:∀f∈B,th f=true↔M.sat f w):∀f,cov B f->lang f->(ev th f=true↔M.sat f w)
 |.leaf n,hc,_=>by
  by_cases h3:n.op=3
  ·have:=sP _ (hc h3);simp only [ev,h3,if_true];exact this
  simp only [ev,h3,if_false,KM.sat,beq_iff_eq,false_and,or_false]
 |.one n a,hc,hl=>by
  by_cases h9:n.op=9
  ·have iR:.one n a∈B:=by simpa [cov,h9]using hc
   have:=sP _ iR;rw [<-this];simp [ev,h9]
  have h4:n.op=4:=hl.1.resolve_right h9;have iR:cov B a:=by simpa [cov,h4]using hc
  have:=Qjz sP a iR hl.2;simp only [ev,KM.sat,h4,if_true,Bool.not_eq_true'];rw [<-this];simp
 |.two n a b,hc,hl=>by
  by_cases xI:n.op=13
  ·have iR:.two n a b∈B:=by simpa [cov,xI]using hc
   have:=sP _ iR;rw [<-this];simp [ev,xI]
  have iR:cov B a/\cov B b:=by simpa [cov,xI]using hc
  have ha:=Qjz sP a iR.1 hl.2.1;have hb:=Qjz sP b iR.2 hl.2.2;have ho:n.op=5\/n.op=6\/n.op=7\/n.op=8:=by
   have:=hl.1.resolve_right xI;omega
  rcases ho with ho|ho|ho|ho
  ·simp [ev,KM.sat,ho,ha,hb]
  ·simp [ev,KM.sat,ho,ha,hb]
  ·simp only [ev,KM.sat,ho];simp only [show ¬(7:Int)=5 by decide,show ¬(7:Int)=6 by decide,if_false,if_true,Bool.or_eq_true,Bool.not_eq_true'];rw [<-ha,<-hb];cases ev th a <;> cases ev th b <;> simp
  simp only [ev,KM.sat,ho];simp only [show ¬(8:Int)=5 by decide,show ¬(8:Int)=6 by decide,show ¬(8:Int)=7 by decide,if_false,if_true,beq_iff_eq];rw [<-ha,<-hb];cases ev th a <;> cases ev th b <;> simp
open Classical in
noncomputable def So (M:KM) (w:M.W) (f:Tr):Bool:=decide (M.sat f w)
theorem Fb {M:KM} {w:M.W} {f:Tr} :So M w f=true↔M.sat f w:=by simp [So]
section
variable {lg:Int} {B:List Tr} {M:KM}
theorem evW(w:M.W) {f:Tr}(hc:cov B f)(hl:lang f):ev (So M w) f=true↔M.sat f w:=Qjz (B:=B) (fun _ _=>Fb) f hc hl
theorem Qbn(hB:Ij B)(hM:M.In lg)(w:M.W):Coh lg B (So M w) where
 com n a b h:=by
  rw [Fb,Qi6 (hB.com n a b h).1];exact⟨fun k i hi hb=>Fb.2 (k i hi hb),fun k i hi hb=>Fb.1 (k i hi hb)⟩
 know hl n a h ht:=by
  obtain⟨h9,hc,uE,_⟩:=hB.know n a h;rw [evW w hc uE];exact(Uc h9).1 (Fb.1 ht) w ((hM n.i).refl hl w)
theorem Qyn {lg:Int} {here vU there:Bool}(h1:here=true->vU=true)(h2:3<=lg/\lg<=6->here=true->there=true)(h3:lg=5\/lg=6->there=true->here=true)(xX:lg<=6):Kt lg here vU there=true:=by
 unfold Kt;by_cases a:lg<=2
 ·rw [if_pos a];cases here <;> simp_all
 rw [if_neg a];have h2:=h2 ⟨by omega,xX⟩;by_cases b:lg=3
 ·rw [if_pos b];cases here <;> simp_all
 rw [if_neg b];by_cases c:lg=4
 ·rw [if_pos c];cases here <;> simp_all
 rw [if_neg c];have h3:=h3 (by omega);by_cases d:lg=6
 ·rw [if_pos d];cases here <;> cases there <;> simp_all
 rw [if_neg d];cases here <;> cases there <;> simp_all
theorem Qzs(hB:Ij B)(hM:M.In lg)(xX:lg<=6) {i:Int} {w v:M.W}(hr:M.R i w v):Mx lg B i (So M w) (So M v):=by
 intro n a h hi;subst hi;obtain⟨h9,hc,uE,_⟩:=hB.know n a h;refine Qyn (fun e=> ?_) (fun hl e=> ?_) (fun hl e=> ?_) xX
 ·rw [evW v hc uE];exact(Uc h9).1 (Fb.1 e) v hr
 ·rw [Fb,Uc h9];exact fun u hu=>(Uc h9).1 (Fb.1 e) u ((hM n.i).trans hl w v u hr hu)
 rw [Fb,Uc h9];exact fun u hu=>(Uc h9).1 (Fb.1 e) u ((hM n.i).eucl hl w v u hr hu)
theorem Qm8(hB:Ij B)(hM:M.In lg)(xX:lg<=6):Od lg B (fun _:M.W=>True) (So M) where
 coh w _:=Qbn hB hM w
 ser hl w _ i _:=by
  obtain⟨v,hv⟩:=(hM i).ser hl w;exact⟨v,trivial,Qzs hB hM xX hv⟩
 know w _ n a h hf:=by
  obtain⟨h9,hc,uE,_⟩:=hB.know n a h;have hn:¬M.sat (.one n a) w:=fun hs=>by rw [Fb.2 hs]at hf;cases hf
  rw [Uc h9]at hn;obtain⟨v,hv⟩:=Classical.not_forall.1 hn;obtain⟨hr,ha⟩:=Classical.not_imp.1 hv;refine⟨v,trivial,?_,Qzs hB hM xX hr⟩;cases e:ev (So M v) a
  ·rfl
  exact absurd ((evW v hc uE).1 e) ha
 com w _ n a b h hf:=by
  obtain⟨xI,qC,rN,uE,lR,_⟩:=hB.com n a b h;have hn:¬M.sat (.two n a b) w:=fun hs=>by rw [Fb.2 hs]at hf;cases hf
  rw [Ez xI]at hn;obtain⟨v,hv⟩:=Classical.not_forall.1 hn;obtain⟨hr,hb⟩:=Classical.not_imp.1 hv;refine⟨v,hr.mono fun x y oS=> ?_,?_⟩
  ·obtain⟨⟨i,hi,hg,hR⟩,ha⟩:=oS;exact⟨trivial,(evW y qC uE).2 ha,i,hi,hg,Qzs hB hM xX hR⟩
  cases e:ev (So M v) b
  ·rfl
  exact absurd ((evW v rN lR).1 e) hb
end
section
variable {T:Type} (lg:Int) (B:List Tr) (S:T->Prop) (th:T->Tr->Bool)
def Ri:KM:=⟨{t:T // S t},fun i t u=>Mx lg B i (th t.1) (th u.1),fun p t=>th t.1 (.leaf ⟨3,p,0,0,0,0⟩)=true⟩
end
section
variable {T:Type} {lg:Int} {B:List Tr} {S:T->Prop} {th:T->Tr->Bool}
theorem Qph {lg:Int} {here vU there:Bool}(h:Kt lg here vU there=true)(hh:here=true)(hr:Qb6 lg->there=true->vU=true):vU=true:=by
 subst hh;unfold Kt at h;by_cases a:lg<=2
 ·rw [if_pos a]at h;simpa using h
 rw [if_neg a]at h;by_cases b:lg=3
 ·rw [if_pos b]at h;simp at h;exact h.1
 rw [if_neg b]at h;by_cases c:lg=4
 ·rw [if_pos c]at h;simp at h;exact hr (.inr (.inl c)) h
 rw [if_neg c]at h;by_cases d:lg=6
 ·rw [if_pos d]at h;simp at h;exact hr (.inr (.inr d)) h
 rw [if_neg d]at h;simp at h;exact h.2
theorem La {lg:Int} {here vU there:Bool}(h:Kt lg here vU there=true)(hl:3<=lg)(hh:here=true):there=true:=by
 subst hh;unfold Kt at h;rw [if_neg (by omega)]at h;by_cases b:lg=3
 ·rw [if_pos b]at h;simp at h;exact h.2
 rw [if_neg b]at h;by_cases c:lg=4
 ·rw [if_pos c]at h;simp at h;exact h
 rw [if_neg c]at h;by_cases d:lg=6
 ·rw [if_pos d]at h;simp at h;exact h
 rw [if_neg d]at h;simp at h;exact h.1
theorem Pe {lg:Int} {here vU there:Bool}(h:Kt lg here vU there=true)(hl:5<=lg)(ht:there=true):here=true:=by
 subst ht;unfold Kt at h;rw [if_neg (by omega),if_neg (by omega),if_neg (by omega)]at h;by_cases d:lg=6
 ·rw [if_pos d]at h;simpa using h
 rw [if_neg d]at h;simp at h;exact h.1
theorem Oj(hF:Od lg B S th) {i:Int} {t u:T}(hu:S u)(hp:Mx lg B i (th t) (th u)) {n:Nd} {a:Tr}(h:.one n a∈B)(hi:n.i=i)(ht:th t (.one n a)=true):ev (th u) a=true :=
 Qph (hp n a h hi) ht (fun hr e=>(hF.coh u hu).know hr n a h e)
theorem Qs8(hF:Od lg B S th)(xX:lg<=6):(Ri lg B S th).In lg:=fun i=> {
 ser:=fun hl w=>by
  by_cases ho:∃n a,Tr.one n a∈B/\n.i=i
  ·obtain⟨u,hu,hp⟩:=hF.ser hl w.1 w.2 i ho;exact⟨⟨u,hu⟩,hp⟩
  exact⟨w,fun n a h hi=>absurd ⟨n,a,h,hi⟩ ho⟩
 refl:=fun hl w n a h hi=>Qyn (fun e=>(hF.coh w.1 w.2).know hl n a h e) (fun _ e=>e) (fun _ e=>e) xX
 trans:=fun hl u v w fI PU n a h hi=>by
  have h1:=fI n a h hi;have h2:=PU n a h hi;exact Qyn (fun e=>Oj hF w.2 PU h hi (La h1 hl.1 e)) (fun _ e=>La h2 hl.1 (La h1 hl.1 e)) (fun k e=>Pe h1 (by omega) (Pe h2 (by omega) e)) xX
 eucl:=fun hl u v w fI K7 n a h hi=>by
  have h1:=fI n a h hi;have h2:=K7 n a h hi;exact Qyn (fun e=>Oj hF w.2 K7 h hi (Pe h1 (by omega) e)) (fun _ e=>La h2 (by omega) (Pe h1 (by omega) e)) (fun k e=>La h1 (by omega) (Pe h2 (by omega) e)) xX }
def Ig:Tr->Prop
 |.leaf n=>n.op=3->n=⟨3,n.i,0,0,0,0⟩
 |.one _ a=>Ig a
 |.two _ a b=>Ig a/\Ig b
theorem Og(hB:Ij B)(hF:Od lg B S th):∀f,cov B f->lang f->Ig f->∀t:(Ri lg B S th).W,(ev (th t.1) f=true↔(Ri lg B S th).sat f t)
 |.leaf n,_,_,hk,t=>by
  by_cases h3:n.op=3
  ·have e:=hk h3;simp only [ev,h3,if_true,KM.sat,Ri,true_and,show ¬(3:Int)=1 by decide,false_or];rw [<-e]
  simp only [ev,h3,if_false,KM.sat,beq_iff_eq,false_and,or_false]
 |.one n a,hc,hl,hk,t=>by
  by_cases h9:n.op=9
  ·have hm:.one n a∈B:=by simpa [cov,h9]using hc
   obtain⟨_,qC,uE,_⟩:=hB.know n a hm;have ih:=Og hB hF a qC uE hk;rw [Uc h9];have e:ev (th t.1) (.one n a)=th t.1 (.one n a):=by simp [ev,h9]
   rw [e];constructor
   ·intro ht v hr;rw [<-ih v];exact Oj hF v.2 hr hm rfl ht
   intro hs;cases ht:th t.1 (.one n a)
   ·obtain⟨u,hu,he,hp⟩:=hF.know t.1 t.2 n a hm ht;have:=(ih ⟨u,hu⟩).2 (hs ⟨u,hu⟩ hp);rw [he]at this;cases this
   rfl
  have h4:n.op=4:=hl.1.resolve_right h9;have qC:cov B a:=by simpa [cov,h4]using hc
  have ih:=Og hB hF a qC hl.2 hk t;simp only [ev,KM.sat,h4,if_true,Bool.not_eq_true'];rw [<-ih];simp
 |.two n a b,hc,hl,hk,t=>by
  by_cases xI:n.op=13
  ·have hm:.two n a b∈B:=by simpa [cov,xI]using hc
   obtain⟨_,qC,rN,uE,lR,bZ⟩:=hB.com n a b hm;have iha:=Og hB hF a qC uE hk.1;have ihb:=Og hB hF b rN lR hk.2;rw [Ez xI];have e:ev (th t.1) (.two n a b)=th t.1 (.two n a b):=by simp [ev,xI]
   rw [e];constructor
   ·intro ht v hr;have key:∀(s v:(Ri lg B S th).W),Kj ((Ri lg B S th).step n.g ((Ri lg B S th).sat a)) s v->th s.1 (.two n a b)=true->ev (th v.1) b=true:=by
     intro s v hr;have vI:∀s v:(Ri lg B S th).W,(Ri lg B S th).step n.g ((Ri lg B S th).sat a) s v->th s.1 (.two n a b)=true->ev (th v.1) b=true/\th v.1 (.two n a b)=true:=by
      rintro s v ⟨⟨i,hi,hg,hp⟩,ha⟩ hs;have WH:=((hF.coh s.1 s.2).com n a b hm).1 hs i hi hg;have MI:=Oj hF v.2 hp (bZ i hi hg) rfl WH;have hx:=(iha v).2 ha;simp only [ev,show ¬(7:Int)=5 by decide,show ¬(7:Int)=6 by decide,if_false,if_true,hx,Bool.not_true,Bool.false_or,Bool.and_eq_true,xI,show ¬(13:Int)=5 by decide,show ¬(13:Int)=6 by decide,show ¬(13:Int)=7 by decide,show ¬(13:Int)=8 by decide]at MI;exact MI
     induction hr with
     |one h=>intro hs;exact(vI _ _ h hs).1
     |cons h _ ih=>intro hs;exact ih (vI _ _ h hs).2
    rw [<-ihb v];exact key t v hr ht
   intro hs;cases ht:th t.1 (.two n a b)
   ·obtain⟨u,hp,he⟩:=hF.com t.1 t.2 n a b hm ht;have lift:∀(s u:T) (hs:S s),Kj (Ha lg B S th n.g a) s u->∃hu:S u,Kj ((Ri lg B S th).step n.g ((Ri lg B S th).sat a)) ⟨s,hs⟩ ⟨u,hu⟩:=by
     intro s u hs hr
     induction hr with
     |one h =>
      obtain⟨hu,hx,i,hi,hg,hp⟩:=h;exact⟨hu,.one (b:=(⟨_,hu⟩:(Ri lg B S th).W)) ⟨⟨i,hi,hg,hp⟩,(iha ⟨_,hu⟩).1 hx⟩⟩
     |cons h _ ih =>
      obtain⟨hu,hx,i,hi,hg,hp⟩:=h;obtain⟨IA,h2⟩:=ih hu;exact⟨IA,.cons (b:=(⟨_,hu⟩:(Ri lg B S th).W)) ⟨⟨i,hi,hg,hp⟩,(iha ⟨_,hu⟩).1 hx⟩ h2⟩
    obtain⟨hu,hr⟩:=lift t.1 u t.2 hp;have:=(ihb ⟨u,hu⟩).2 (hs ⟨u,hu⟩ hr);rw [he]at this;cases this
   rfl
  have iR:cov B a/\cov B b:=by simpa [cov,xI]using hc
  have ha:=Og hB hF a iR.1 hl.2.1 hk.1 t;have hb:=Og hB hF b iR.2 hl.2.2 hk.2 t;have ho:n.op=5\/n.op=6\/n.op=7\/n.op=8:=by
   have:=hl.1.resolve_right xI;omega
  rcases ho with ho|ho|ho|ho
  ·simp [ev,KM.sat,ho,ha,hb]
  ·simp [ev,KM.sat,ho,ha,hb]
  ·simp only [ev,KM.sat,ho];simp only [show ¬(7:Int)=5 by decide,show ¬(7:Int)=6 by decide,if_false,if_true,Bool.or_eq_true,Bool.not_eq_true'];rw [<-ha,<-hb];cases ev (th t.1) a <;> cases ev (th t.1) b <;> simp
  simp only [ev,KM.sat,ho];simp only [show ¬(8:Int)=5 by decide,show ¬(8:Int)=6 by decide,show ¬(8:Int)=7 by decide,if_false,if_true,beq_iff_eq];rw [<-ha,<-hb];cases ev (th t.1) a <;> cases ev (th t.1) b <;> simp
end
def Oc(l:List Nat)(n:Nat)(u v:Fin n):Prop:=(l.getD u.1 0).testBit v.1=true
def Gx(md:Md):KM where
 W:=Fin md.n.toNat
 R:=fun a u v=>if 0<=a/\a < md.rel.length then Oc (md.rel.getD a.toNat []) md.n.toNat u v else u=v
 V:=fun p w=>(md.val.getD p.toNat 0).testBit w.1=true
theorem Zj5(lg:Int) {W:Type} :Frm lg (fun u v:W=>u=v) where
 ser:=fun _ w=>⟨w,rfl⟩
 refl:=fun _ _=>rfl
 trans:=fun _ _ _ _ h1 h2=>h1.trans h2
 eucl:=fun _ _ _ _ h1 h2=>h1.symm.trans h2
theorem Qo2 {s n:Nat}(h:s < 2^n)(h0:s≠0):∃i,i < n/\s.testBit i=true:=by
 obtain⟨i,hi⟩:=Nat.exists_testBit_of_ne_zero h0;exact⟨i,Kf h hi,hi⟩
theorem Qi2 {l:List Nat}(h:Gy false l) {w u v:Nat}(hw:w < l.length)(hu:u < l.length)(h1:(l.getD w 0).testBit u=true)(h2:(l.getD u 0).testBit v=true):(l.getD w 0).testBit v=true:=by
 exact Je.1 (h w u hw hu h1) v h2
theorem Qi0 {l:List Nat}(h:Gy true l) {w u v:Nat}(hw:w < l.length)(hu:u < l.length)(h1:(l.getD w 0).testBit u=true)(h2:(l.getD w 0).testBit v=true):(l.getD u 0).testBit v=true:=by
 exact Je.1 (h w u hw hu h1) v h2
theorem Qe0 {l:List Nat} {n:Nat} {lg:Int}(hl:l.length=n)(hv:Xv l=true)(hg:Dm lg l)(hr:0<=lg/\lg<=6):Frm lg (Oc l n):=by
 have zJ:∀i,i < n->l.getD i 0 < 2^n:=fun i hi=>(Tf.start (eu:=true) hl (by rw [<-hl];exact(Fg.1 hv).2)).lt i hi
 unfold Dm Gd at hg;refine⟨fun h w=> ?_,fun h w=> ?_,fun h u v w h1 h2=> ?_,fun h u v w h1 h2=> ?_⟩
 ·have h1:Kg 1 l:=hg 1 (by rcases h with rfl|rfl <;> simp);obtain⟨i,hi,hb⟩:=Qo2 (zJ w.1 w.2) (h1 w.1 (by rw [hl];exact w.2));exact⟨⟨i,hi⟩,hb⟩
 ·have h1:Kg 2 l:=hg 2 (by rcases h with rfl|rfl|rfl <;> simp);exact h1 w.1 (by rw [hl];exact w.2)
 ·have h3:Kg 4 l:=hg 4 (by
   have:lg=3\/lg=4\/lg=5\/lg=6:=by omega
   rcases this with rfl|rfl|rfl|rfl <;> simp)
  exact Qi2 h3 (by rw [hl];exact u.2) (by rw [hl];exact v.2) h1 h2
 have h3:Kg 5 l:=hg 5 (by rcases h with rfl|rfl <;> simp);exact Qi0 h3 (by rw [hl];exact u.2) (by rw [hl];exact v.2) h1 h2
theorem Qs3 {md:Md} {lg:Int}(h:Fw md lg):(Gx md).In lg:=by
 intro a;show Frm lg (fun u v=>if 0<=a/\a < md.rel.length then Oc (md.rel.getD a.toNat []) md.n.toNat u v else u=v);by_cases ha:0<=a/\a < md.rel.length
 ·simp only [if_pos ha];have hm:md.rel.getD a.toNat []∈md.rel:=by
   rw [Qk,List.getElem?_eq_getElem (by omega)];exact List.getElem_mem _
  obtain⟨hv,_⟩:=Qj1 h.ck hm;have hl:=(Zv h.ck).2.2.2.2.1 _ hm;exact Qe0 (by omega) hv (h.rel _ hm) h.lgr
 simp only [if_neg ha];exact Zj5 lg
theorem Tw(r:List Nat)(n s i:Nat):(Vt r n s).testBit i=true↔i < n/\∀v,(r.getD i 0).testBit v=true->s.testBit v=true:=by
 unfold Vt;rw [Rw,Bool.and_eq_true,decide_eq_true_iff,Je]
theorem Qi8(r:List Nat)(n s i:Nat)(h:∀v,(r.getD i 0).testBit v=true->v < n):
 (Zl (Zk n) (Vt r n (Zl (Zk n) s))).testBit i=true↔i < n/\∃v,(r.getD i 0).testBit v=true/\s.testBit v=true:=by
 rw [Gl,Bool.and_eq_true,Vz,decide_eq_true_iff];constructor
 ·rintro⟨hi,hb⟩;refine⟨hi,Classical.byContradiction fun hn=> ?_⟩;have:(Vt r n (Zl (Zk n) s)).testBit i=true:=(Tw ..).2 ⟨hi,fun v hv=>by
   rw [Gl,Vz,Bool.and_eq_true,decide_eq_true_iff];refine⟨h v hv,?_⟩;cases hs:s.testBit v
   ·rfl
   exact absurd ⟨v,hv,hs⟩ hn⟩
  rw [this]at hb;cases hb
 rintro⟨hi,v,hv,hs⟩;refine⟨hi,?_⟩;cases hb:(Vt r n (Zl (Zk n) s)).testBit i
 ·rfl
 have h2:=((Tw ..).1 hb).2 v hv;rw [Gl,hs,Bool.not_true,Bool.and_false]at h2;cases h2
theorem Qd8(rl:List (List Nat))(gn i v:Nat):∀(k s:Nat),(((List.range k).foldl (Ft rl gn false i) s).testBit v=true↔s.testBit v=true\/∃a,a < k/\gn.testBit a=true/\((rl.getD a []).getD i 0).testBit v=true)
 |0,s=>by simp
 |k+1,s=>by
  rw [Kq];have ih:=Qd8 rl gn i v k s;unfold Ft;cases hg:gn.testBit k
  ·rw [if_neg (by simp)];rw [show(List.foldl (fun s a=>if gn.testBit a=true then if false=true then s&&&(rl.getD a []).getD i 0 else s|||(rl.getD a []).getD i 0 else s) s (List.range k))=(List.range k).foldl (Ft rl gn false i) s from rfl,ih];refine or_congr Iff.rfl ⟨fun⟨a,h1,h2,h3⟩=>⟨a,by omega,h2,h3⟩,fun⟨a,h1,h2,h3⟩=>⟨a,?_,h2,h3⟩⟩;have:a≠k:=fun e=>by rw [e,hg]at h2;cases h2
   omega
  rw [if_pos rfl,if_neg (by simp),Nat.testBit_or,Bool.or_eq_true];rw [show(List.foldl (fun s a=>if gn.testBit a=true then if false=true then s&&&(rl.getD a []).getD i 0 else s|||(rl.getD a []).getD i 0 else s) s (List.range k))=(List.range k).foldl (Ft rl gn false i) s from rfl,ih];constructor
  ·rintro((h|⟨a,h1,h2,h3⟩)|h)
   ·exact Or.inl h
   ·exact Or.inr ⟨a,by omega,h2,h3⟩
   exact Or.inr ⟨k,by omega,hg,h⟩
  rintro(h|⟨a,h1,h2,h3⟩)
  ·exact Or.inl (Or.inl h)
  by_cases e:a=k
  ·exact Or.inr (by rw [<-e];exact h3)
  exact Or.inl (Or.inr ⟨a,by omega,h2,h3⟩)
theorem Qym(rl:List (List Nat))(gn n i v:Nat):(Yz rl gn false n i).testBit v=true↔∃a,a < rl.length/\gn.testBit a=true/\((rl.getD a []).getD i 0).testBit v=true:=by
 unfold Yz;rw [Qd8];simp
theorem Qyp(rl:List (List Nat))(gn n i:Nat)(b:Bool)(hi:i < n):((List.range n).map (Yz rl gn b n)).getD i 0=Yz rl gn b n i:=by
 rw [Qk,List.getElem?_map,List.getElem?_range hi];rfl
def Bh(r:List Nat)(c:Nat)(u v:Nat):Prop:=(r.getD u 0).testBit v=true/\c.testBit v=true
theorem Qw9 {α:Type} {r:α->α->Prop} {a b c:α}(h:Kj r a b)(hc:r b c):Kj r a c:=by
 induction h with
 |one h=>exact .cons h (.one hc)
 |cons h _ ih=>exact .cons h (ih hc)
theorem Cj(r:List Nat)(c a v:Nat):(r.getD a 0&&&c).testBit v=true↔Bh r c a v:=by
 rw [Nat.testBit_and,Bool.and_eq_true];rfl
theorem Qmo {r:List Nat} {c a s:Nat}(h:∀v,s.testBit v=true->Kj (Bh r c) a v)(u:Nat):∀v,(Sc r c s u).testBit v=true->Kj (Bh r c) a v:=by
 intro v hv;unfold Sc at hv;cases hu:s.testBit u
 ·rw [if_neg (by rw [hu];simp)]at hv;exact h v hv
 rw [if_pos hu,Nat.testBit_or,Bool.or_eq_true]at hv;rcases hv with hv|hv
 ·exact h v hv
 exact Qw9 (h u hu) ((Cj ..).1 hv)
theorem Qx1 {r:List Nat} {c a:Nat} :∀(n s:Nat),(∀v,s.testBit v=true->Kj (Bh r c) a v)->∀v,(Ug r c n s).testBit v=true->Kj (Bh r c) a v
 |0,s,h=>h
 |n+1,s,h=>by
  unfold Ug;rw [Kq];exact Qmo (Qx1 n s h) n
theorem Qx2 {r:List Nat} {c a n:Nat} :∀(k:Nat),∀v,((List.range k).foldl (fun s _=>Ug r c n s) (r.getD a 0&&&c)).testBit v=true->Kj (Bh r c) a v
 |0=>fun v hv=> .one ((Cj ..).1 hv)
 |k+1=>by
  rw [Kq];exact Qx1 n _ (Qx2 k)
theorem Qsy {r:List Nat} {c n a v:Nat}(h:(Bx r c n a).testBit v=true):Kj (Bh r c) a v:=Qx2 n v h
theorem Qbq {r:List Nat} {c s u v:Nat}(h:s.testBit v=true):(Sc r c s u).testBit v=true:=by
 unfold Sc
 split
 ·rw [Nat.testBit_or,h,Bool.true_or]
 exact h
theorem Qan {r:List Nat} {c s u v:Nat}(h:s.testBit u=true)(wZ:Bh r c u v):(Sc r c s u).testBit v=true:=by
 unfold Sc;rw [if_pos h,Nat.testBit_or,(Cj r c u v).2 wZ,Bool.or_true]
theorem Oq {r:List Nat} {c v:Nat} :∀(n s:Nat),s.testBit v=true->(Ug r c n s).testBit v=true
 |0,_,h=>h
 |n+1,s,h=>by
  unfold Ug;rw [Kq];exact Qbq (Oq n s h)
theorem Qfh {r:List Nat} {c s u v:Nat}(hs:s.testBit u=true)(wZ:Bh r c u v):∀(n:Nat),u < n->(Ug r c n s).testBit v=true
 |0,h=>absurd h (by omega)
 |n+1,h=>by
  unfold Ug;rw [Kq];by_cases e:u=n
  ·subst e;have h1:(Ug r c u s).testBit u=true:=Oq u s hs;unfold Ug at h1;exact Qan h1 wZ
  exact Qbq (Qfh hs wZ n (by omega))
def Qz5(r:List Nat)(c s:Nat):Prop:=∀u v,s.testBit u=true->Bh r c u v->s.testBit v=true
theorem Qmi {r:List Nat} {c s u:Nat}(h:Qz5 r c s):Sc r c s u=s:=by
 unfold Sc
 split
 ·rename_i hu;refine Nat.eq_of_testBit_eq fun v=> ?_
  rw [Nat.testBit_or];cases hb:(r.getD u 0&&&c).testBit v
  ·rw [Bool.or_false]
  rw [h u v hu ((Cj ..).1 hb)];rfl
 rfl
theorem Qzq {r:List Nat} {c s:Nat}(h:Qz5 r c s):∀n,Ug r c n s=s
 |0=>rfl
 |n+1=>by
  unfold Ug;rw [Kq];have ih:=Qzq h n;unfold Ug at ih;rw [ih,Qmi h]
def Qk1(n s:Nat):Nat:=(List.range n).countP fun i=> !s.testBit i
theorem Qho {r:List Nat} {c n s:Nat}(hb:∀u v,(r.getD u 0).testBit v=true->u < n/\v < n)(h:¬Qz5 r c s):Qk1 n (Ug r c n s) < Qk1 n s:=by
 obtain⟨u,v,h1,h2,h3⟩:∃u v,s.testBit u=true/\Bh r c u v/\s.testBit v=false:=Classical.byContradiction fun hn=>h fun u v h1 h2=>by
  cases h3:s.testBit v
  ·exact absurd ⟨u,v,h1,h2,h3⟩ hn
  rfl
 obtain⟨hu,hv⟩:=hb u v h2.1;unfold Qk1;refine Qqf (fun i _ hq=> ?_) ⟨v,List.mem_range.2 hv,by rw [h3];rfl,by rw [Qfh h1 h2 n hu];rfl⟩;cases hi:s.testBit i
 ·rfl
 rw [Oq n s hi]at hq;cases hq
theorem Zvf(n s:Nat):Qk1 n s<=n:=by
 have:=List.countP_le_length (p:=fun i=> !s.testBit i) (l:=List.range n);rw [List.length_range]at this;exact this
theorem Qo4 {r:List Nat} {c n s:Nat}(hb:∀u v,(r.getD u 0).testBit v=true->u < n/\v < n)(h:Qk1 n s=0):Qz5 r c s:=by
 intro u v _ h2;unfold Qk1 at h;rw [List.countP_eq_zero]at h;have:=h v (List.mem_range.2 (hb u v h2.1).2)
 simpa using this
theorem Qfe {r:List Nat} {c n a:Nat}(hb:∀u v,(r.getD u 0).testBit v=true->u < n/\v < n):∀k,Qz5 r c ((List.range k).foldl (fun s _=>Ug r c n s) (r.getD a 0&&&c))\/Qk1 n ((List.range k).foldl (fun s _=>Ug r c n s) (r.getD a 0&&&c))+k<=n
 |0=>Or.inr (Zvf _ _)
 |k+1=>by
  rw [Kq];rcases Qfe hb k with h|h
  ·exact Or.inl (by rw [Qzq h];exact h)
  by_cases hc:Qz5 r c ((List.range k).foldl (fun s _=>Ug r c n s) (r.getD a 0&&&c))
  ·exact Or.inl (by rw [Qzq hc];exact hc)
  have:=Qho hb hc;exact Or.inr (by omega)
theorem Qn7 {r:List Nat} {c n a v:Nat}(h:Bh r c a v):∀k,((List.range k).foldl (fun s _=>Ug r c n s) (r.getD a 0&&&c)).testBit v=true
 |0=>(Cj ..).2 h
 |k+1=>by
  rw [Kq];exact Oq n _ (Qn7 h k)
theorem Zyc {r:List Nat} {c s:Nat}(hc:Qz5 r c s) {a v:Nat}(h:Kj (Bh r c) a v):(∀u,Bh r c a u->s.testBit u=true)->s.testBit v=true:=by
 induction h with
 |one h=>exact fun hs=>hs _ h
 |cons h _ ih=>exact fun hs=>ih fun u hu=>hc _ u (hs _ h) hu
theorem Qje {r:List Nat} {c n a v:Nat}(hb:∀u v,(r.getD u 0).testBit v=true->u < n/\v < n):(Bx r c n a).testBit v=true↔Kj (Bh r c) a v:=by
 refine⟨Qsy,fun h=> ?_⟩;have hc:Qz5 r c (Bx r c n a):=by
  rcases Qfe (a:=a) (c:=c) hb n with h|h
  ·exact h
  exact Qo4 hb (by unfold Bx;omega)
 exact Zyc hc h fun u hu=>Qn7 hu n
theorem Qkm {r:List Nat} {n:Nat}(hl:r.length=n)(hb:Zn r n=false):∀u v,(r.getD u 0).testBit v=true->u < n/\v < n:=fun u v h=>by
 by_cases hu:u < r.length
 ·have hm:r.getD u 0∈r:=by rw [Qk,Qv hu];exact List.getElem_mem hu
  have h2:=List.any_eq_false.1 hb _ hm;simp only [Bool.not_eq_true',decide_eq_false_iff_not,Nat.not_lt,Nat.not_le]at h2;exact⟨by omega,Kf h2 h⟩
 rw [Qk,List.getElem?_eq_none (by omega)]at h;simp at h
def gfF(r:List Nat)(n c s out:Nat):Nat:=Vt r n (Zl (Zk n) c|||(s&&&out))
theorem Mt {r:List Nat} {n c s out i:Nat}(hb:∀u v,(r.getD u 0).testBit v=true->u < n/\v < n):
 (gfF r n c s out).testBit i=true↔i < n/\∀v,(r.getD i 0).testBit v=true->c.testBit v=true->s.testBit v=true/\out.testBit v=true:=by
 unfold gfF;rw [Tw];refine and_congr_right fun _=>forall_congr' fun v=> ?_
 refine⟨fun h h1 h2=> ?_,fun h h1=> ?_⟩
 ·have:=h h1;rw [Nat.testBit_or,Gl,Nat.testBit_and,h2,Bool.not_true,Bool.and_false,Bool.false_or,Bool.and_eq_true]at this;exact this
 rw [Nat.testBit_or,Gl,Nat.testBit_and,Vz];cases hc:c.testBit v
 ·simp [(hb i v h1).2]
 obtain⟨h3,h4⟩:=h h1 hc;simp [h3,h4]
theorem Pb {r:List Nat} {n c s i:Nat}(hb:∀u v,(r.getD u 0).testBit v=true->u < n/\v < n):
 (Xn r n c s).testBit i=true↔i < n/\∀v,Kj (Bh r c) i v->s.testBit v=true:=by
 unfold Xn;rw [Rw,Bool.and_eq_true,decide_eq_true_eq,Je];exact and_congr_right fun _=>forall_congr' fun v=>by rw [Qje hb]
theorem Qde {r:List Nat} {n c s:Nat}(hb:∀u v,(r.getD u 0).testBit v=true->u < n/\v < n):∀i,(Xn r n c s).testBit i=true->(Zk n).testBit i=true:=fun i h=>by
 rw [Vz];exact decide_eq_true ((Pb hb).1 h).1
theorem Qda {r:List Nat} {n c s out:Nat}(hb:∀u v,(r.getD u 0).testBit v=true->u < n/\v < n)(h:∀i,(Xn r n c s).testBit i=true->out.testBit i=true):
 ∀i,(Xn r n c s).testBit i=true->(gfF r n c s out).testBit i=true:=fun i hi=>by
 obtain⟨h1,h2⟩:=(Pb hb).1 hi;exact(Mt hb).2 ⟨h1,fun v hv hc=>⟨h2 v (.one ⟨hv,hc⟩),h v ((Pb hb).2 ⟨(hb i v hv).2,fun z hz=>h2 z (.cons ⟨hv,hc⟩ hz)⟩)⟩⟩
theorem Qei {r:List Nat} {n c s:Nat}(hb:∀u v,(r.getD u 0).testBit v=true->u < n/\v < n):∀i,(gfF r n c s (Zk n)).testBit i=true->(Zk n).testBit i=true:=fun i h=>by
 rw [Vz];exact decide_eq_true ((Mt hb).1 h).1
theorem Zyq {r:List Nat} {n c s out:Nat}(hb:∀u v,(r.getD u 0).testBit v=true->u < n/\v < n)(h:∀i,(gfF r n c s out).testBit i=true->out.testBit i=true):
 ∀i,(gfF r n c s (gfF r n c s out)).testBit i=true->(gfF r n c s out).testBit i=true:=fun i hi=>by
 obtain⟨h1,h2⟩:=(Mt hb).1 hi;exact(Mt hb).2 ⟨h1,fun v hv hc=>⟨(h2 v hv hc).1,h v (h2 v hv hc).2⟩⟩
theorem Qlk {r:List Nat} {n c s out:Nat}(hb:∀u v,(r.getD u 0).testBit v=true->u < n/\v < n)(h:gfF r n c s out=out)(hi:∀i,(Xn r n c s).testBit i=true->out.testBit i=true):out=Xn r n c s:=by
 have hp:∀u v,Kj (Bh r c) u v->out.testBit u=true->s.testBit v=true:=fun u v hr=>by
  induction hr with
  |one wZ=>intro ho;rw [<-h]at ho;exact(((Mt hb).1 ho).2 _ wZ.1 wZ.2).1
  |cons wZ _ ih=>intro ho;rw [<-h]at ho;exact ih (((Mt hb).1 ho).2 _ wZ.1 wZ.2).2
 refine Nat.eq_of_testBit_eq fun i=> ?_
 rw [Bool.eq_iff_iff];refine⟨fun ho=>(Pb hb).2 ⟨?_,fun v hv=>hp i v hv ho⟩,hi i⟩;have fL:=ho;rw [<-h]at fL;exact((Mt hb).1 fL).1
theorem Zyw {a b:Nat}(h:∀i,a.testBit i=true->b.testBit i=true)(zQ:a≠b):a < b:=by
 have e:a&&&b=a:=by
  refine Nat.eq_of_testBit_eq fun i=> ?_
  rw [Nat.testBit_and];cases ha:a.testBit i
  ·rfl
  rw [h i ha];rfl
 have:a<=b:=by rw [<-e];exact Nat.and_le_right
 omega
theorem Qir {N:Nat}(h:N<=64):(18446744073709551615:Int) / 2^(64 - N)=((Zk N:Nat):Int):=by
 have e:∀k:Fin 65,(18446744073709551615:Int) / 2^(64 - k.val)=((Zk k.val:Nat):Int):=by decide+kernel
 exact e ⟨N,by omega⟩
def Jv(md:Md)(n:Nd):Bool :=
 if n.op=3 then decide (n.i < md.val.length)else if n.op<=8 then true else if n.op<=10 then decide (n.i < md.rel.length)
 else if n.op<=13 then decide (n.g < ((2^md.rel.length:Nat):Int))else false
def Vb(md:Md)(n:Nd)(x y:Nat):Nat:=if Jv md n=true then Fq md n x y else 0
theorem Zqr {rl:List (List Nat)} {n:Nat}(hw:∀r∈rl,∀s∈r,s < 2^n) {gn i s a:Nat} {meet:Bool}(hs:s < 2^n):Ft rl gn meet i s a < 2^n:=by
 unfold Ft
 split
 ·split
  ·exact Nat.lt_of_le_of_lt Nat.and_le_left hs
  refine Nat.or_lt_two_pow hs ?_;by_cases ha:a < rl.length
  ·have hm:rl.getD a []∈rl:=by rw [Qk,Qv ha];exact List.getElem_mem ha
   by_cases hi:i < (rl.getD a []).length
   ·refine hw _ hm _ ?_;rw [Qk (l:=rl.getD a []),Qv hi];exact List.getElem_mem hi
   rw [Qk (l:=rl.getD a []),List.getElem?_eq_none (by omega)];exact Nat.two_pow_pos n
  rw [Qk (l:=rl),List.getElem?_eq_none (by omega)];exact Nat.two_pow_pos n
 exact hs
theorem Qib(n:Nat):Zk n < 2^n:=by
 unfold Zk;have:=Nat.two_pow_pos n;omega
theorem Zqn {rl:List (List Nat)} {n:Nat}(hw:∀r∈rl,∀s∈r,s < 2^n) {gn i:Nat} {meet:Bool} :Yz rl gn meet n i < 2^n:=by
 unfold Yz;have:∀k,(List.range k).foldl (Ft rl gn meet i) (if meet then Zk n else 0) < 2^n:=fun k=>by
  induction k with
  |zero =>
   cases meet
   ·exact Nat.two_pow_pos n
   exact Qib n
  |succ k ih=>rw [Kq];exact Zqr hw ih
 exact this _
theorem Hy {r:List Nat} {N:Nat}(hl:r.length=N)(hN:N<=64)(h:∀s∈r,s < 2^N):Jo r.length r=0:=by
 have hb:Zn r r.length=false:=List.any_eq_false.2 fun s hs=>by rw [hl];simpa using h s hs
 have:=Fg.2 ⟨by omega,hb⟩;unfold Xv at this
 simpa using this
theorem Qtd {md:Md}(h:Qa md=0):∀r∈md.rel,∀s∈r,s < 2^md.n.toNat:=fun r hr s hs=>by
 obtain⟨_,_,_,_,_,_,wQ⟩:=Zv h;have:=List.any_eq_false.1 (wQ r hr) s hs
 simpa using this
theorem Qpt {r:List Nat} {n x:Nat}(hn:n<=64)(hb:∀u v,(r.getD u 0).testBit v=true->u < n/\v < n):Vt r n (Zk 64^^^x)=Vt r n (Zl (Zk n) x):=by
 refine Nat.eq_of_testBit_eq fun i=> ?_
 rw [Bool.eq_iff_iff,Tw,Tw];refine and_congr_right fun _=>forall_congr' fun v=>imp_congr_right fun hv=> ?_
 have bX:=(hb i v hv).2;rw [Nat.testBit_xor,Vz,Gl,Vz,decide_eq_true (show v < 64 by omega),decide_eq_true bX];cases x.testBit v <;> simp
theorem Da {md:Md}(h:Qa md=0)(a:Nat):∀u v,((md.rel.getD a []).getD u 0).testBit v=true->u < md.n.toNat/\v < md.n.toNat:=by
 intro u v hb;by_cases ha:a < md.rel.length
 ·have hm:md.rel.getD a []∈md.rel:=by
   rw [Qk,Qv ha];exact List.getElem_mem _
  obtain⟨hv,_⟩:=Qj1 h hm;have hl:=(Zv h).2.2.2.2.1 _ hm;have qN:(md.rel.getD a []).length=md.n.toNat:=by omega
  by_cases hu:u < md.n.toNat
  ·have:=(Tf.start (eu:=true) qN (by rw [<-qN];exact(Fg.1 hv).2)).lt u hu;exact⟨hu,Kf this hb⟩
  rw [Qk,List.getElem?_eq_none (by omega)]at hb;simp at hb
 have e:md.rel.getD a []= []:=by rw [Qk,List.getElem?_eq_none (by omega)];rfl
 rw [e]at hb;simp at hb
theorem Ml {md:Md}(h:Qa md=0)(gn:Nat):∀u v,(((List.range md.n.toNat).map (Yz md.rel gn false md.n.toNat)).getD u 0).testBit v=true->u < md.n.toNat/\v < md.n.toNat:=by
 intro u v hb;by_cases hu:u < md.n.toNat
 ·rw [Qyp _ _ _ _ _ hu,Qym]at hb;obtain⟨a,_,_,h3⟩:=hb;exact⟨hu,(Da h a u v h3).2⟩
 rw [Qk,List.getElem?_eq_none (by simp;omega)]at hb;simp at hb
def Fp(md:Md)(s:Nat)(t:Tr):Prop:=∀w:Fin md.n.toNat,s.testBit w.1=true↔(Gx md).sat t w
theorem Qie {md:Md}(h:Qa md=0) {n:Nd} {s:Nat} {t:Tr}(hi:0<=n.i/\n.i < md.rel.length)(hs:Fp md s t)(h9:n.op=9):Fp md (Vt (md.rel.getD n.i.toNat []) md.n.toNat s) (.one n t):=by
 intro w;rw [Tw];show _↔(if n.op=4 then _ else if n.op=9 then _ else _);rw [if_neg (by omega),if_pos h9];constructor
 ·rintro⟨_,hb⟩ v hv;refine(hs v).1 (hb v.1 ?_);have gG:(if 0<=n.i/\n.i < md.rel.length then Oc (md.rel.getD n.i.toNat []) md.n.toNat w v else w=v):=hv;rw [if_pos hi]at gG;exact gG
 intro hf;refine⟨w.2,fun v hv=> ?_⟩;have mO:=(Da h n.i.toNat w.1 v hv).2;refine(hs ⟨v,mO⟩).2 (hf ⟨v,mO⟩ ?_);show(if 0<=n.i/\n.i < md.rel.length then Oc (md.rel.getD n.i.toNat []) md.n.toNat w ⟨v,mO⟩else _);rw [if_pos hi];exact hv
theorem Qi9 {md:Md}(h:Qa md=0) {n:Nd} {s:Nat} {t:Tr}(hi:0<=n.i/\n.i < md.rel.length)(hs:Fp md s t)(h9:n.op=10):
 Fp md (Zl (Zk md.n.toNat) (Vt (md.rel.getD n.i.toNat []) md.n.toNat (Zl (Zk md.n.toNat) s))) (.one n t):=by
 intro w;rw [Qi8 _ _ _ _ (fun v hv=>(Da h _ _ v hv).2)];show _↔(if n.op=4 then _ else if n.op=9 then _ else if n.op=10 then _ else _);rw [if_neg (by omega),if_neg (by omega),if_pos h9];constructor
 ·rintro⟨_,v,hv,hb⟩;have mO:=(Da h n.i.toNat w.1 v hv).2;refine⟨⟨v,mO⟩,?_,(hs ⟨v,mO⟩).1 hb⟩;show(if 0<=n.i/\n.i < md.rel.length then Oc (md.rel.getD n.i.toNat []) md.n.toNat w ⟨v,mO⟩else _);rw [if_pos hi];exact hv
 rintro⟨v,hv,hb⟩;have gG:(if 0<=n.i/\n.i < md.rel.length then Oc (md.rel.getD n.i.toNat []) md.n.toNat w v else w=v):=hv;rw [if_pos hi]at gG;exact⟨w.2,v.1,gG,(hs v).2 hb⟩
theorem Lq {md:Md} {g:Int}(hg:g.toNat < 2^md.rel.length) {i:Nat}(hi:Vg g i=true):i < md.rel.length:=Kf hg hi
theorem kmR {md:Md} {i:Nat}(hi:i < md.rel.length)(u v:Fin md.n.toNat):(Gx md).R (i:Int) u v↔((md.rel.getD i []).getD u.1 0).testBit v.1=true:=by
 show(if 0<=(i:Int)/\(i:Int) < md.rel.length then Oc (md.rel.getD (i:Int).toNat []) md.n.toNat u v else u=v)↔_;rw [if_pos (by omega),Int.toNat_natCast];rfl
theorem Zqs {md:Md}(h:Qa md=0) {n:Nd} {s:Nat} {t:Tr}(hg:n.g.toNat < 2^md.rel.length)(hs:Fp md s t)(h9:n.op=11):
 Fp md (Vt ((List.range md.n.toNat).map (Yz md.rel n.g.toNat false md.n.toNat)) md.n.toNat s) (.one n t):=by
 intro w;rw [Tw];show _↔(if n.op=4 then _ else if n.op=9 then _ else if n.op=10 then _ else if n.op=11 then _ else _);rw [if_neg (by omega),if_neg (by omega),if_neg (by omega),if_pos h9,Qyp _ _ _ _ _ w.2];have h4:=(Zv h).2.2.1;constructor
 ·rintro⟨_,hb⟩ i hi fO v hv;exact(hs v).1 (hb v.1 ((Qym ..).2 ⟨i,Lq hg fO,fO,(kmR (Lq hg fO) w v).1 hv⟩))
 intro hf;refine⟨w.2,fun v hv=> ?_⟩;obtain⟨i,hi,fO,hr⟩:=(Qym ..).1 hv;have mO:=(Da h i w.1 v hr).2;exact(hs ⟨v,mO⟩).2 (hf i (by omega) fO ⟨v,mO⟩ ((kmR hi w ⟨v,mO⟩).2 hr))
theorem He {md:Md}(h:Qa md=0) {g:Int} {c:Nat} {t:Tr}(hg:g.toNat < 2^md.rel.length)(hc:Fp md c t)(u v:Fin md.n.toNat):
 Bh ((List.range md.n.toNat).map (Yz md.rel g.toNat false md.n.toNat)) c u.1 v.1↔(Gx md).step g ((Gx md).sat t) u v:=by
 unfold Bh KM.step;rw [Qyp _ _ _ _ _ u.2,Qym,hc v];have h4:=(Zv h).2.2.1;refine and_congr ⟨?_,?_⟩ Iff.rfl
 ·rintro⟨a,ha,bA,hr⟩;exact⟨a,by omega,bA,(kmR ha u v).2 hr⟩
 rintro⟨a,_,bA,hr⟩;exact⟨a,Lq hg bA,bA,(kmR (Lq hg bA) u v).1 hr⟩
theorem Zyh {md:Md}(h:Qa md=0) {g:Int} {c:Nat} {t:Tr}(hg:g.toNat < 2^md.rel.length)(hc:Fp md c t) {a b:Nat}(hr:Kj (Bh ((List.range md.n.toNat).map (Yz md.rel g.toNat false md.n.toNat)) c) a b):
 ∀(ha:a < md.n.toNat),∃hb:b < md.n.toNat,Kj ((Gx md).step g ((Gx md).sat t)) (⟨a,ha⟩:Fin md.n.toNat) (⟨b,hb⟩:Fin md.n.toNat):=by
 induction hr with
 |one hs=>exact fun ha=>⟨(Ml h _ _ _ hs.1).2,.one ((He h hg hc ⟨_,ha⟩ ⟨_,(Ml h _ _ _ hs.1).2⟩).1 hs)⟩
 |cons hs _ ih =>
  intro ha;obtain⟨hb,kA⟩:=ih (Ml h _ _ _ hs.1).2;exact⟨hb,.cons ((He h hg hc ⟨_,ha⟩ ⟨_,(Ml h _ _ _ hs.1).2⟩).1 hs) kA⟩
theorem Qw8 {md:Md}(h:Qa md=0) {g:Int} {c:Nat} {t:Tr}(hg:g.toNat < 2^md.rel.length)(hc:Fp md c t) {a b:Fin md.n.toNat}(hr:Kj ((Gx md).step g ((Gx md).sat t)) a b):
 Kj (Bh ((List.range md.n.toNat).map (Yz md.rel g.toNat false md.n.toNat)) c) a.1 b.1:=by
 induction hr with
 |one hs=>exact .one ((He h hg hc _ _).2 hs)
 |cons hs _ ih=>exact .cons ((He h hg hc _ _).2 hs) ih
theorem Qlx {md:Md}(h:Qa md=0) {n:Nd} {c s:Nat} {t1 t2:Tr}(hg:n.g.toNat < 2^md.rel.length)(hc:Fp md c t1)(hs:Fp md s t2)(h9:n.op=13):
 Fp md (Xn ((List.range md.n.toNat).map (Yz md.rel n.g.toNat false md.n.toNat)) md.n.toNat c s) (.two n t1 t2):=by
 intro w;unfold Xn;rw [Rw,Bool.and_eq_true,decide_eq_true_iff,Je];show _↔(if n.op=5 then _ else if n.op=6 then _ else if n.op=7 then _ else if n.op=8 then _ else if n.op=13 then _ else _);rw [if_neg (by omega),if_neg (by omega),if_neg (by omega),if_neg (by omega),if_pos h9];constructor
 ·rintro⟨_,hb⟩ v hv;exact(hs v).1 (hb v.1 ((Qje (Ml h _)).2 (Qw8 h hg hc hv)))
 intro hf;refine⟨w.2,fun v hv=> ?_⟩;obtain⟨mO,hr⟩:=Zyh h hg hc ((Qje (Ml h _)).1 hv) w.2;exact(hs ⟨v,mO⟩).2 (hf ⟨v,mO⟩ hr)
theorem Zzo {md:Md} {n:Nd}(h:n.op=1)(x y:Nat):Fp md (Gg n.op x y (Zk md.n.toNat)) (.leaf n):=by
 intro w;show _↔(n.op=1\/_);unfold Gg;rw [if_pos h,Vz];exact⟨fun _=>Or.inl h,fun _=>decide_eq_true w.2⟩
theorem Qia {md:Md} {n:Nd}(h:n.op=2)(x y:Nat):Fp md (Gg n.op x y (Zk md.n.toNat)) (.leaf n):=by
 intro w;show _↔(n.op=1\/(n.op=3/\_));rw [h];show(Gg 2 x y (Zk md.n.toNat)).testBit w.1=true↔_;rw [show Gg 2 x y (Zk md.n.toNat)=0 from rfl,Nat.zero_testBit];simp
theorem Qes {md:Md} {n:Nd}(h:n.op=3):Fp md (md.val.getD n.i.toNat 0) (.leaf n):=by
 intro w;show _↔(n.op=1\/(n.op=3/\(md.val.getD n.i.toNat 0).testBit w.1=true));rw [h];simp
theorem Zq5 {md:Md} {n:Nd} {x y:Nat} {t:Tr}(h:n.op=4)(hx:Fp md x t):Fp md (Gg n.op x y (Zk md.n.toNat)) (.one n t):=by
 intro w;show _↔(if n.op=4 then ¬(Gx md).sat t w else _);rw [if_pos h,<-hx w,h];show(Zl (Zk md.n.toNat) x).testBit w.1=true↔_;rw [Gl,Vz,decide_eq_true w.2];simp
theorem Qy6 {md:Md} {n:Nd} {x y:Nat} {t1 t2:Tr}(h:n.op=5\/n.op=6\/n.op=7\/n.op=8)(hx:Fp md x t1)(hy:Fp md y t2):Fp md (Gg n.op x y (Zk md.n.toNat)) (.two n t1 t2):=by
 intro w;have h1:=hx w;have h2:=hy w;show _↔(if n.op=5 then(Gx md).sat t1 w/\(Gx md).sat t2 w else if n.op=6 then(Gx md).sat t1 w\/(Gx md).sat t2 w else if n.op=7 then(Gx md).sat t1 w->(Gx md).sat t2 w else if n.op=8 then((Gx md).sat t1 w↔(Gx md).sat t2 w)else _);rw [<-h1,<-h2];rcases h with h|h|h|h <;> rw [h]
 ·show(x&&&y).testBit w.1=true↔_;rw [Nat.testBit_and];cases x.testBit w.1 <;> cases y.testBit w.1 <;> simp
 ·show(x|||y).testBit w.1=true↔_;rw [Nat.testBit_or];cases x.testBit w.1 <;> cases y.testBit w.1 <;> simp
 ·show(Zl (Zk md.n.toNat) x|||y).testBit w.1=true↔_;rw [Nat.testBit_or,Gl,Vz,decide_eq_true w.2];cases x.testBit w.1 <;> cases y.testBit w.1 <;> simp
 show(Zl (Zk md.n.toNat) (x^^^y)).testBit w.1=true↔_;rw [Gl,Vz,decide_eq_true w.2,Nat.testBit_xor];cases x.testBit w.1 <;> cases y.testBit w.1 <;> simp
theorem Qfl(rl:List (List Nat))(gn i v:Nat):∀(k s:Nat),(((List.range k).foldl (Ft rl gn true i) s).testBit v=true↔s.testBit v=true/\∀a,a < k->gn.testBit a=true->((rl.getD a []).getD i 0).testBit v=true)
 |0,s=>by simp
 |k+1,s=>by
  rw [Kq];have ih:=Qfl rl gn i v k s;obtain⟨t,ht⟩:∃t,t=(List.range k).foldl (Ft rl gn true i) s:=⟨_,rfl⟩;rw [<-ht]at ih⊢;unfold Ft;cases hg:gn.testBit k
  ·rw [if_neg (by simp),ih];refine and_congr Iff.rfl ⟨fun h a h1 h2=> ?_,fun h a h1 h2=>h a (by omega) h2⟩;by_cases e:a=k
   ·rw [e,hg]at h2;cases h2
   exact h a (by omega) h2
  rw [if_pos rfl,if_pos rfl,Nat.testBit_and,Bool.and_eq_true,ih];constructor
  ·rintro⟨⟨h1,h2⟩,h3⟩;refine⟨h1,fun a ha hb=> ?_⟩;by_cases e:a=k
   ·rw [e];exact h3
   exact h2 a (by omega) hb
  rintro⟨h1,h2⟩;exact⟨⟨h1,fun a ha hb=>h2 a (by omega) hb⟩,h2 k (by omega) hg⟩
theorem Qng(rl:List (List Nat))(gn n i v:Nat):(Yz rl gn true n i).testBit v=true↔v < n/\∀a,a < rl.length->gn.testBit a=true->((rl.getD a []).getD i 0).testBit v=true:=by
 unfold Yz;rw [Qfl,if_pos rfl,Vz,decide_eq_true_iff]
theorem Qev {md:Md}(h:Qa md=0) {n:Nd} {s:Nat} {t:Tr}(hg:n.g.toNat < 2^md.rel.length)(hs:Fp md s t)(h9:n.op=12):
 Fp md (Vt ((List.range md.n.toNat).map (Yz md.rel n.g.toNat true md.n.toNat)) md.n.toNat s) (.one n t):=by
 intro w;rw [Tw];show _↔(if n.op=4 then _ else if n.op=9 then _ else if n.op=10 then _ else if n.op=11 then _ else if n.op=12 then _ else _);rw [if_neg (by omega),if_neg (by omega),if_neg (by omega),if_neg (by omega),if_pos h9,Qyp _ _ _ _ _ w.2];have h4:=(Zv h).2.2.1;constructor
 ·rintro⟨_,hb⟩ v hv;exact(hs v).1 (hb v.1 ((Qng ..).2 ⟨v.2,fun a ha bA=>(kmR ha w v).1 (hv a (by omega) bA)⟩))
 intro hf;refine⟨w.2,fun v hv=> ?_⟩;obtain⟨mO,hv⟩:=(Qng ..).1 hv;exact(hs ⟨v,mO⟩).2 (hf ⟨v,mO⟩ fun i _ fO=>(kmR (Lq hg fO) w ⟨v,mO⟩).2 (hv i (Lq hg fO) fO))
theorem Qfm {md:Md}(h:Qa md=0) {n:Nd} {x y:Nat} {a b:Tr}(hf:Qk3 md n)(hx:Zq n.op=true->Fp md x a)(hy:Qw n.op=true->Fp md y b):
 Fp md (Fq md n x y) (Vy n a b):=by
 have ho:1<=n.op:=by
  have:=hf.head.1;unfold Yp at this;simp at this;omega
 have xI:=hf.op;obtain⟨op,i,e,g,p,q⟩:=n;have hc:op=1\/op=2\/op=3\/op=4\/(op=5\/op=6\/op=7\/op=8)\/op=9\/op=10\/op=11\/op=12\/op=13:=by
  simp at ho xI;omega
 rcases hc with rfl|rfl|rfl|rfl|hc|rfl|rfl|rfl|rfl|rfl
 ·exact Zzo (n:=⟨1,i,e,g,p,q⟩) rfl x y
 ·exact Qia (n:=⟨2,i,e,g,p,q⟩) rfl x y
 ·exact Qes (n:=⟨3,i,e,g,p,q⟩) rfl
 ·exact Zq5 (n:=Nd.head ⟨4,i,e,g,p,q⟩) (y:=y) rfl (hx rfl)
 ·rcases hc with rfl|rfl|rfl|rfl
  ·exact Qy6 (n:=Nd.head ⟨5,i,e,g,p,q⟩) (Or.inl rfl) (hx rfl) (hy rfl)
  ·exact Qy6 (n:=Nd.head ⟨6,i,e,g,p,q⟩) (Or.inr (Or.inl rfl)) (hx rfl) (hy rfl)
  ·exact Qy6 (n:=Nd.head ⟨7,i,e,g,p,q⟩) (Or.inr (Or.inr (Or.inl rfl))) (hx rfl) (hy rfl)
  exact Qy6 (n:=Nd.head ⟨8,i,e,g,p,q⟩) (Or.inr (Or.inr (Or.inr rfl))) (hx rfl) (hy rfl)
 ·exact Qie h (n:=Nd.head ⟨9,i,e,g,p,q⟩) ⟨(Xz hf.head rfl).1,hf.agent (Or.inl rfl)⟩ (hx rfl) rfl
 ·exact Qi9 h (n:=Nd.head ⟨10,i,e,g,p,q⟩) ⟨(Xz hf.head rfl).1,hf.agent (Or.inr rfl)⟩ (hx rfl) rfl
 ·exact Zqs h (n:=Nd.head ⟨11,i,e,g,p,q⟩) (hf.group (show(11:Int)<=11 by decide)).2 (hx rfl) rfl
 ·exact Qev h (n:=Nd.head ⟨12,i,e,g,p,q⟩) (hf.group (show(11:Int)<=12 by decide)).2 (hx rfl) rfl
 exact Qlx h (n:=Nd.head ⟨13,i,e,g,p,q⟩) (hf.group (show(11:Int)<=13 by decide)).2 (hx rfl) (hy rfl) rfl
theorem Qzf(md:Md)(f:List Nd):∀(m k:Nat),k < m->(Ka md f m).getD k 0=Ew md f (Ka md f k) k
 |0,_,h=>absurd h (by omega)
 |m+1,k,h=>by
  show(Ka md f m++ [Ew md f (Ka md f m) m]).getD k 0=_;rw [Qk];by_cases e:k=m
  ·subst e;rw [List.getElem?_append_right (by rw [Sj];omega),Sj,Nat.sub_self];rfl
  rw [List.getElem?_append_left (by rw [Sj];omega),<-Qk];exact Qzf md f m k (by omega)
def okP(n:Nd)(fi:List Bool):Bool :=
 (!decide (4<=n.op)||fi.getD n.x.toNat false)&&(!((decide (5<=n.op)&&decide (n.op<=8))||n.op==13)||fi.getD n.y.toNat false)
def Lc(md:Md)(f:List Nd)(out:List Nat)(fi:List Bool)(k:Nat):Nat×Bool :=
 if okP (f.getD k Nd.zero) fi=true then(Vb md (f.getD k Nd.zero) (out.getD (f.getD k Nd.zero).x.toNat 0) (out.getD (f.getD k Nd.zero).y.toNat 0),Jv md (f.getD k Nd.zero))else(0,false)
def Jg(md:Md)(f:List Nd):Nat->List Nat×List Bool
 |0=>([],[])
 |k+1=>((Jg md f k).1++ [(Lc md f (Jg md f k).1 (Jg md f k).2 k).1],(Jg md f k).2++ [(Lc md f (Jg md f k).1 (Jg md f k).2 k).2])
theorem Fx(md:Md)(f:List Nd):∀k,(Jg md f k).1.length=k/\(Jg md f k).2.length=k
 |0=>⟨rfl,rfl⟩
 |k+1=>by
  obtain⟨h1,h2⟩:=Fx md f k;unfold Jg;exact⟨by simp [h1],by simp [h2]⟩
theorem Sy(md:Md)(f:List Nd):∀(m k:Nat),k < m->(Jg md f m).1.getD k 0=(Lc md f (Jg md f k).1 (Jg md f k).2 k).1/\(Jg md f m).2.getD k false=(Lc md f (Jg md f k).1 (Jg md f k).2 k).2
 |0,k,h=>absurd h (Nat.not_lt_zero _)
 |m+1,k,h=>by
  obtain⟨h1,h2⟩:=Fx md f m;by_cases hk:k < m
  ·have:=Sy md f m k hk;rw [<-this.1,<-this.2];constructor
   ·show((Jg md f m).1++_).getD k 0=_;rw [Qk,Qk,List.getElem?_append_left (by omega)]
   show((Jg md f m).2++_).getD k false=_;rw [Qk,Qk,List.getElem?_append_left (by omega)]
  obtain rfl:k=m:=by omega
  constructor
  ·show((Jg md f k).1++_).getD k 0=_;rw [Qk,List.getElem?_append_right (by omega),h1,Nat.sub_self];rfl
  show((Jg md f k).2++_).getD k false=_;rw [Qk,List.getElem?_append_right (by omega),h2,Nat.sub_self];rfl
theorem Qem {md:Md} {n:Nd}(hh:Ze n)(h:Jv md n=true)(hg:11<=n.op->n.op<=13->1<=n.g):Qk3 md n:=by
 have zI:=(Dc n.op).1 hh.1;unfold Jv at h;refine⟨hh,?_,fun ho=> ?_,fun ho=> ?_,fun ho=> ?_⟩
 ·by_cases h3:n.op=3
  ·omega
  rw [if_neg h3]at h;by_cases h8:n.op<=8
  ·omega
  rw [if_neg h8]at h;by_cases xT:n.op<=10
  ·omega
  rw [if_neg xT]at h;by_cases xI:n.op<=13
  ·exact xI
  rw [if_neg xI]at h;cases h
 ·rw [if_pos ho]at h;exact of_decide_eq_true h
 ·rw [if_neg (by omega),if_neg (by omega),if_pos (by omega)]at h;exact of_decide_eq_true h
 rw [if_neg (by omega),if_neg (by omega),if_neg (by omega)]at h;by_cases xI:n.op<=13
 ·rw [if_pos xI]at h;have h2:=of_decide_eq_true h;have vD:=hg ho xI;exact⟨vD,by omega⟩
 rw [if_neg xI]at h;cases h
theorem Qkz {f:List Nd} {k:Nat} {n:Nd}(h:f[k]?=some n):f.getD k Nd.zero=n:=by rw [Qk,h];rfl
theorem Qv9:∀(l:List Nd) (s i:Nat),(l.foldl (fun s n=>s|||(Vn n.op).toNat) s).testBit i=true->s.testBit i=true\/∃n∈l,(Vn n.op).toNat.testBit i=true
 |[],_,_,h=>Or.inl h
 |a :: l,s,i,h=>by
  rcases Qv9 l (s|||(Vn a.op).toNat) i h with h1|⟨n,hn,h2⟩
  ·rw [Nat.testBit_or,Bool.or_eq_true]at h1;rcases h1 with h1|h1
   ·exact Or.inl h1
   exact Or.inr ⟨a,List.mem_cons_self ..,h1⟩
  exact Or.inr ⟨n,List.mem_cons_of_mem _ hn,h2⟩
theorem Qpz:∀(l:List Nd) (s i:Nat),(l.foldl Tq s).testBit i=true->s.testBit i=true\/∃n∈l,(Zb n.op=true/\i=n.i.toNat)\/n.g.toNat.testBit i=true
 |[],_,_,h=>Or.inl h
 |a :: l,s,i,h=>by
  rcases Qpz l (Tq s a) i h with h1|⟨n,hn,h2⟩
  ·unfold Tq at h1;rw [Nat.testBit_or,Nat.testBit_or,Bool.or_eq_true,Bool.or_eq_true]at h1;rcases h1 with(h1|h1)|h1
   ·exact Or.inl h1
   ·refine Or.inr ⟨a,List.mem_cons_self ..,Or.inl ?_⟩;cases ha:Zb a.op
    ·rw [ha,if_neg (by simp),Nat.zero_testBit]at h1;cases h1
    rw [ha,if_pos rfl,Nat.testBit_two_pow,decide_eq_true_iff]at h1;exact⟨rfl,h1.symm⟩
   exact Or.inr ⟨a,List.mem_cons_self ..,Or.inr h1⟩
  exact Or.inr ⟨n,List.mem_cons_of_mem _ hn,h2⟩
theorem Qp4:∀(l:List Nd) (s i:Nat),(l.foldl Tz s).testBit i=true->s.testBit i=true\/∃n∈l,n.op=3/\i=n.i.toNat
 |[],_,_,h=>Or.inl h
 |a :: l,s,i,h=>by
  rcases Qp4 l (Tz s a) i h with h1|⟨n,hn,h2⟩
  ·unfold Tz at h1;by_cases ho:a.op=3
   ·rw [if_pos ho,Nat.testBit_or,Bool.or_eq_true,Nat.testBit_two_pow,decide_eq_true_iff]at h1;rcases h1 with h1|h1
    ·exact Or.inl h1
    exact Or.inr ⟨a,List.mem_cons_self ..,ho,h1.symm⟩
   rw [if_neg ho]at h1;exact Or.inl h1
  exact Or.inr ⟨n,List.mem_cons_of_mem _ hn,h2⟩
theorem Qmr {c:List Nd}(hc:check c=0) {k:Nat}(hk:k < c.length):∀n∈Qs (tr c k),∃m∈c,m.head=n.head:=by
 have hP:∀(n:Nd) (k1 k2:Nat),(∃m∈c,m.head=n.head)->∃m∈c,m.head=(n.with_ k1 k2).head:=fun n k1 k2 ⟨m,hm,h⟩=>⟨m,hm,by rw [Qyq];exact h⟩
 exact Ly (P:=fun n=>∃m∈c,m.head=n.head) hP (tr c k) [] (Ei (P:=fun n=>∃m∈c,m.head=n.head) hP (Yt hc) (fun n hn=>⟨n,hn,rfl⟩) k hk) (fun n hn=>by cases hn)
theorem Qv7 {md:Md} {c:List Nd}(hc:check c=0)(wN:Qf c=c)(hs:Jr (Jp c) 15=true)(hf:Yl c md.rel.length md.val.length=true) {k:Nat}(hk:k < c.length):Hf md c (k:Int)=true:=by
 have hg:=(Qbz hc hk).2.1;have oG:(tr c k).ok:=Qb7 (Yt hc) k hk;have bC:Qf (Js c (k:Int))=Qs (tr c k):=by
  rw [Ut hg,Sk hc hk,Kl oG]
 have hh:=Qmr hc hk;unfold Yl at hf;rw [Bool.and_eq_true,Bool.and_eq_true,List.all_eq_true,List.all_eq_true,wN]at hf;unfold Hf;rw [Bool.and_eq_true];refine⟨?_,?_⟩
 ·rw [Je]at hs⊢;intro i hi;unfold Jp Kv at hi;rw [bC]at hi;rcases Qv9 _ _ _ hi with h|⟨n,hn,h⟩
  ·rw [Nat.zero_testBit]at h;cases h
  obtain⟨m,hm,e⟩:=hh n hn;refine hs i ?_;unfold Jp Kv;rw [wN];exact(Qqm c 0).2 m hm i (by rw [(Ts e).1];exact h)
 unfold Yl;rw [Bool.and_eq_true,Bool.and_eq_true,List.all_eq_true,List.all_eq_true,bC];refine⟨by rw [hg];rfl,fun i hi=> ?_,fun i hi=> ?_⟩
 ·have h1:=hf.2.1 i hi;unfold Xx at h1⊢;rw [Bool.or_eq_true]at h1⊢;rcases h1 with h1|h1
  ·refine Or.inl ?_;cases hb:(Jl (Qs (tr c k))).testBit i
   ·rfl
   exfalso
   rcases Qpz _ _ _ hb with h|⟨n,hn,h⟩
   ·rw [Nat.zero_testBit]at h;cases h
   obtain⟨m,hm,e⟩:=hh n hn;have:=(Qk7 c 0).2 m hm i (by rw [(Ts e).1,(Ts e).2.1,(Ts e).2.2];exact h);unfold Jl at h1;rw [this]at h1;cases h1
  exact Or.inr h1
 have h1:=hf.2.2 i hi;unfold Xx at h1⊢;rw [Bool.or_eq_true]at h1⊢;rcases h1 with h1|h1
 ·refine Or.inl ?_;cases hb:(Yy (Qs (tr c k))).testBit i
  ·rfl
  exfalso
  rcases Qp4 _ _ _ hb with h|⟨n,hn,h⟩
  ·rw [Nat.zero_testBit]at h;cases h
  obtain⟨m,hm,e⟩:=hh n hn;have:=(Qxg c 0).2 m hm i (by rw [(Ts e).1,(Ts e).2.1];exact h);unfold Yy at h1;rw [this]at h1;cases h1
 exact Or.inr h1
def Be(md:Md):Tr->Bool
 |.leaf n=>Jv md n
 |.one n a=>Jv md n&&Be md a
 |.two n a b=>Jv md n&&(Be md a&&Be md b)
theorem Qxd(md:Md)(n:Nd):Jv md n.head=Jv md n:=rfl
theorem Qel(md:Md)(n:Nd)(a b:Tr):Be md (Vy n a b)=(Jv md n&&((!Zq n.op||Be md a)&&(!Qw n.op||Be md b))):=by
 unfold Vy;cases hy:Qw n.op
 ·cases hx:Zq n.op
  ·simp [Be]
  simp [Be,Qxd]
 have hx:Zq n.op=true:=Vl hy;simp [Be,Qxd,hx]
theorem Qd2 {md:Md} {n:Nd}(h:Jv md n=true):n.op<=13:=by
 unfold Jv at h;by_cases h3:n.op=3
 ·omega
 rw [if_neg h3]at h;by_cases h8:n.op<=8
 ·omega
 rw [if_neg h8]at h;by_cases xT:n.op<=10
 ·omega
 rw [if_neg xT]at h;by_cases xI:n.op<=13
 ·exact xI
 rw [if_neg xI]at h;cases h
theorem Qcv {md:Md} {f:List Nd}(hc:check f=0):∀k,k < f.length->(Lc md f (Jg md f k).1 (Jg md f k).2 k).2=Be md (tr f k):=by
 intro k
 induction k using Nat.strongRecOn with
 |_ k ih =>
  intro hk;obtain⟨n,hn⟩:∃n,f[k]?=some n:=⟨_,Qv hk⟩;obtain⟨hx,hy⟩:=Yt hc k n hn;rw [Xd (Yt hc) hn,Qel];unfold Lc;rw [Qkz hn];cases hf:Jv md n
  ·rw [Bool.false_and]
   split
   ·rfl
   rfl
  have xI:=Qd2 hf;have e:okP n (Jg md f k).2=((!Zq n.op||Be md (tr f n.x.toNat))&&(!Qw n.op||Be md (tr f n.y.toNat))):=by
   unfold okP
   congr 1
   ·have e1:decide (4<=n.op)=Zq n.op:=by unfold Zq;rw [decide_eq_true (show n.op<=21 by omega),Bool.and_true]
    rw [e1];cases h:Zq n.op
    ·rfl
    have hb:=hx h;rw [(Sy md f k _ (by omega)).2,ih _ (by omega) (by omega)]
   have e1:((decide (5<=n.op)&&decide (n.op<=8))||n.op==13)=Qw n.op:=by
    unfold Qw;rw [show(n.op==14)=false by simp;omega,show(n.op==16)=false by simp;omega,show(n.op==19)=false by simp;omega,show(n.op==21)=false by simp;omega];simp
   rw [e1];cases h:Qw n.op
   ·rfl
   have hb:=hy h;rw [(Sy md f k _ (by omega)).2,ih _ (by omega) (by omega)]
  rw [<-e,Bool.true_and];cases ho:okP n (Jg md f k).2
  ·rfl
  rfl
theorem Qec {md:Md} {n:Nd}(h:Qk3 md n):Jv md n=true:=by
 unfold Jv;by_cases h3:n.op=3
 ·rw [if_pos h3];exact decide_eq_true (h.fact h3)
 rw [if_neg h3];by_cases h8:n.op<=8
 ·rw [if_pos h8]
 rw [if_neg h8];by_cases xT:n.op<=10
 ·rw [if_pos xT];exact decide_eq_true (h.agent (by omega))
 rw [if_neg xT,if_pos h.op];have:=h.group (by omega);exact decide_eq_true (by omega)
theorem Wp {md:Md} :∀{t:Tr},t.all (fun n=>Jv md n=true)->Be md t=true
 |.leaf n,h=>h
 |.one n a,h=>by unfold Be;rw [h.1,Wp h.2];rfl
 |.two n a b,h=>by unfold Be;rw [h.1,Wp h.2.1,Wp h.2.2];rfl
theorem Qa8 {md:Md} {f:List Nd}(h:Jz md f=0):Be md (Qh f)=true:=by
 obtain⟨zU,hc,hs,hf⟩:=Vm h;have h2:=Ul hc;have wN:=Gv hc;have xN:Jr (Jp (Qf f)) 15=true:=by unfold Jp at hs⊢;rw [h2];exact hs
 have qW:Yl (Qf f) md.rel.length md.val.length=true:=by
  unfold Yl at hf⊢;rw [h2,wN];rw [hc]at hf;exact hf
 rw [<-Xy hc];refine Wp (Ei (P:=fun n=>Jv md n=true) (fun n k1 k2 h=>h) (Yt wN) (fun n hn=> ?_) _ (by have:=(Jf wN).1;omega));obtain⟨k,hk⟩:=List.mem_iff_getElem?.1 hn;have wR:=(List.getElem?_eq_some_iff.1 hk).1;exact Qec (Qxn wN hk (Qv7 wN h2 xN qW wR) (Zv zU).2.2.1)
def Nc(md:Md)(f:List Nd):Nat:=(Jg md f f.length).1.getD (f.length - 1) 0
end Go.Proofs.YtkmclcmnoicagaaGreatDoor
