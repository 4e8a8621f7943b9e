/- models of Kripke: the plain part of the walks of checkers (split off by splitpl.py): masks, relations, groups, what is checked, what fits, what holds. -/
import Derived.Test.YtkmclcmnoicagaaGreatDoorL06
namespace Go.Proofs.YtkmclcmnoicagaaGreatDoor
set_option maxRecDepth 100000
set_option maxHeartbeats 128000000
open Go.RowKit
theorem Wc {a b:List Nat}(hl:a.length=b.length)(h:∀k,k < a.length->a.getD k 0=b.getD k 0):a=b:=by
 refine List.ext_getElem hl fun i h1 h2=> ?_
 have:=h i h1;rw [Qk,Qk,Qv h1,Qv h2]at this;exact this
def Rj(l:List Nat)(k:Nat):List Nat:=(List.range l.length).map fun i=>if i < k then l.getD i 0|||2^i else l.getD i 0
theorem Qmk(l:List Nat):Rj l 0=l:=by
 refine List.ext_getElem (by simp [Rj]) fun i h1 h2=> ?_
 simp [Rj,h2]
theorem Bz(l:List Nat)(k:Nat):(Rj l k).length=l.length:=by simp [Rj]
theorem Cq {l:List Nat} {k i:Nat}(hi:i < l.length):(Rj l k).getD i 0=if i < k then l.getD i 0|||2^i else l.getD i 0:=by
 unfold Rj;rw [Qk,List.getElem?_map,List.getElem?_range hi];rfl
theorem Qmv {l:List Nat} {k:Nat}(hk:k < l.length):(Rj l k).set k (l.getD k 0|||2^k)=Rj l (k+1):=by
 refine Wc (by rw [List.length_set,Bz,Bz]) fun i hi=> ?_
 rw [List.length_set,Bz]at hi;rw [Qqf (by rw [Bz];exact hk),Cq hi,Cq hi];by_cases e:k=i
 ·subst e;rw [if_pos rfl,if_pos (Nat.lt_succ_self _)]
 rw [if_neg e];by_cases h:i < k
 ·rw [if_pos h,if_pos (show i < k+1 by omega)]
 rw [if_neg h,if_neg (show ¬i < k+1 by omega)]
def Qxc(l:List Nat):Prop:=∀i,i < l.length->(l.getD i 0).testBit i=true
theorem Qhm {l:List Nat} :Rj l l.length=l↔Qxc l:=by
 constructor
 ·intro h i hi;have h1:=Cq (k:=l.length) hi;rw [h,if_pos hi]at h1;have:=(Qjg.1 h1.symm);rw [Yy]at this;exact this i (by rw [Nat.testBit_two_pow];simp)
 intro h;refine Wc (Bz _ _) fun i hi=> ?_
 rw [Bz]at hi;rw [Cq hi,if_pos hi,Qjg,Yy];intro j hj;rw [Nat.testBit_two_pow]at hj;have:i=j:=by simpa using hj
 rw [<-this];exact h i hi
def Qa(md:Md):Int :=
 if md.n < 1\/64 < md.n then 2 else if 4 < md.rel.length\/8 < md.val.length then 8
 else if md.rel.any (fun r=> !decide ((r.length:Int)=md.n))then 3
 else if Zf md.val md.n.toNat then 2 else if md.rel.any (fun r=>Zf r md.n.toNat)then 2 else 0
theorem Qvx {P:List Nat->Bool} {l:List (List Nat)} {k:Nat}(hk:k < l.length)(h:P (l.getD k [])=true):l.any P=true:=by
 rw [List.any_eq_true];exact⟨l[k],List.getElem_mem hk,by rw [Qk,Qv hk]at h;exact h⟩
theorem Qzr {P:List Nat->Bool} {l:List (List Nat)}(h:∀k,k < l.length->P (l.getD k [])=false):l.any P=false:=by
 rw [List.any_eq_false];intro s hs;obtain⟨k,hk,e⟩:=List.getElem_of_mem hs;have:=h k hk;rw [Qk,Qv hk]at this;have h2:P l[k]=false:=this;rw [e]at h2;rw [h2];simp
def Ky(q:Int)(l:List Nat):Prop :=
 if q=1 then ∀i,i < l.length->l.getD i 0≠0 else if q=2 then Qxc l else if q=4 then Gz false l else Gz true l
def Gg(lg:Int):List Int:=if lg=0 then []else if lg=1 then [1]else if lg=2 then [2]else if lg=3 then [4]else if lg=4 then [2,4]else if lg=5 then [1,4,5]else [2,4,5]
def Iq(lg:Int):Int:=if 0<=lg/\lg<=6 then 0 else 1
theorem Qjn {lg q:Int}(h:q∈Gg lg):q=1\/q=2\/q=4\/q=5:=by
 unfold Gg at h
 repeat' split at h
 all_goals(simp at h;try omega)
def Dm(lg:Int)(l:List Nat):Prop:=∀q∈Gg lg,Ky q l
theorem Qhn(lg:Int):(Gg lg).length<=3:=by
 unfold Gg
 repeat' split
 all_goals simp
structure Fl (md:Md) (lg:Int):Prop where
 lgr:0<=lg/\lg<=6
 ck:Qa md=0
 rel:∀r∈md.rel,Dm lg r
theorem Zb {md:Md}(h:Qa md=0):1<=md.n/\md.n<=64/\md.rel.length<=4/\md.val.length<=8/\(∀r∈md.rel,(r.length:Int)=md.n)/\Zf md.val md.n.toNat=false/\∀r∈md.rel,Zf r md.n.toNat=false:=by
 unfold Qa at h;by_cases h1:md.n < 1\/64 < md.n
 ·rw [if_pos h1]at h;cases h
 rw [if_neg h1]at h;by_cases h2:4 < md.rel.length\/8 < md.val.length
 ·rw [if_pos h2]at h;cases h
 rw [if_neg h2]at h;cases h3:md.rel.any (fun r=> !decide ((r.length:Int)=md.n))
 ·rw [h3]at h;cases h4:Zf md.val md.n.toNat
  ·rw [h4]at h;cases h5:md.rel.any (fun r=>Zf r md.n.toNat)
   ·rw [List.any_eq_false]at h3 h5;exact⟨by omega,by omega,by omega,by omega,fun r hr=>by simpa using h3 r hr,rfl,fun r hr=>by simpa using h5 r hr⟩
   rw [h5]at h;cases h
  rw [h4]at h;cases h
 rw [h3]at h;cases h
theorem Qjs {md:Md}(h:Qa md=0) {r:List Nat}(hr:r∈md.rel):Xj r=true/\0 < r.length:=by
 obtain⟨h1,h2,_,_,h3,_,h4⟩:=Zb h;have h5:=h3 r hr;have h6:=h4 r hr;have e:md.n.toNat=r.length:=by omega
 rw [e]at h6;exact⟨Fz.2 ⟨by omega,h6⟩,by omega⟩
theorem Qq9 {k:Nat}(h:k < 64):Qp (2^k):=by
 show 2^k < 18446744073709551616;rw [show(18446744073709551616:Nat)=2^64 from rfl];exact Nat.pow_lt_pow_right (by decide) h
theorem Oo {s k:Nat}(hs:Qp s)(hk:k < 64):bits .or .u64 (s:Int) (IntKind.u64.wrap ((2:Int)^k))=((s|||2^k:Nat):Int):=by
 rw [Mo hk];exact Gq hs (Qq9 hk)
theorem Ov {a b:Nat}(ha:Qp a)(hb:Qp b):(bits .andNot .u64 (a:Int) (b:Int)==0)=Jr a b:=by
 rw [Vy ha hb,<-Mk,Bool.eq_iff_iff,beq_iff_eq,beq_iff_eq];omega
def Gk(op:Int)(x y al:Nat):Nat :=
 if op=1 then al else if op=4 then Jk al x else if op=5 then x&&&y else if op=6 then x|||y else if op=7 then Jk al x|||y else if op=8 then Jk al (x^^^y)else 0
theorem Rf {a b:Nat}(ha:Qp a):Qp (a&&&b):=Nat.lt_of_le_of_lt Nat.and_le_left ha
theorem Oi {a b:Nat}(ha:Qp a)(hb:Qp b):Qp (a|||b):=Nat.or_lt_two_pow (n:=64) ha hb
theorem Qkn {a b:Nat}(ha:Qp a)(hb:Qp b):Qp (a^^^b):=Nat.xor_lt_two_pow (n:=64) ha hb
theorem Qm5 {op:Int} {x y al:Nat}(hx:Qp x)(hy:Qp y)(ha:Qp al):Qp (Gk op x y al):=by
 unfold Gk
 split
 ·exact ha
 split
 ·exact Ub ha
 split
 ·exact Rf hx
 split
 ·exact Oi hx hy
 split
 ·exact Oi (Ub ha) hy
 split
 ·exact Ub ha
 show(0:Nat) < _;omega
def Vg(r:List Nat)(n s:Nat):Nat:=Vd n fun i=>Jr (r.getD i 0) s
def Sa(r:List Nat)(c s v:Nat):Nat:=if s.testBit v then s|||(r.getD v 0&&&c)else s
def Gi(r:List Nat)(c n s:Nat):Nat:=(List.range n).foldl (Sa r c) s
def Bq(r:List Nat)(c n a:Nat):Nat:=(List.range n).foldl (fun s _=>Gi r c n s) (r.getD a 0&&&c)
theorem Qjp {r:List Nat}(hw:∀s∈r,Qp s) {c s v:Nat}(hs:Qp s):Qp (Sa r c s v):=by
 unfold Sa
 split
 ·exact Oi hs (Rf (Yg hw v))
 exact hs
theorem Ve {f:Nat->Nat->Nat}(k s:Nat):(List.range (k+1)).foldl f s=f ((List.range k).foldl f s) k:=by
 rw [List.range_succ,List.foldl_append];rfl
theorem Fh {f:Nat->Nat->Nat}(hf:∀s v,Qp s->Qp (f s v))(k s:Nat)(hs:Qp s):Qp ((List.range k).foldl f s):=by
 induction k with
 |zero=>exact hs
 |succ k ih=>rw [Ve];exact hf _ _ ih
theorem Ql8 {r:List Nat}(hw:∀s∈r,Qp s)(c n a:Nat):Qp (Bq r c n a):=
 Fh (fun s _ hs=>Fh (fun _ _ h=>Qjp hw h) n s hs) n _ (Rf (Yg hw a))
def Xb(r:List Nat)(n c s:Nat):Nat:=Vd n fun i=>Jr (Bq r c n i) s
def Fx(rl:List (List Nat))(gn:Nat)(meet:Bool)(i s a:Nat):Nat:=if gn.testBit a then(if meet then s&&&(rl.getD a []).getD i 0 else s|||(rl.getD a []).getD i 0)else s
def Jw(rl:List (List Nat))(gn:Nat)(meet:Bool)(n i:Nat):Nat:=(List.range rl.length).foldl (Fx rl gn meet i) (if meet then Zn n else 0)
theorem Wk {rl:List (List Nat)}(hw:∀r∈rl,∀s∈r,Qp s) {gn i s a:Nat} {meet:Bool}(hs:Qp s):Qp (Fx rl gn meet i s a):=by
 unfold Fx;have h1:Qp ((rl.getD a []).getD i 0):=Yg (Sm hw a) i
 split
 ·split
  ·exact Rf hs
  exact Oi hs h1
 exact hs
theorem Qey {rl:List (List Nat)}(hw:∀r∈rl,∀s∈r,Qp s) {gn n i:Nat} {meet:Bool}(hn:n<=64):Qp (Jw rl gn meet n i):=by
 unfold Jw;refine Fh (fun s a h=>Wk hw h) _ _ ?_
 split
 ·exact Vn hn
 show(0:Nat) < _;omega
theorem Qy9 {α:Type}(g:Nat->α)(k:Nat):(List.range (k+1)).map g=(List.range k).map g++ [g k]:=by
 rw [List.range_succ,List.map_append];rfl
theorem Qjm {k gn:Nat}(hk:k<=4)(hg:gn < 2^k):¬wrap64 ((2:Int)^k)<=(gn:Int):=by
 have hc:k=0\/k=1\/k=2\/k=3\/k=4:=by omega
 rcases hc with rfl|rfl|rfl|rfl|rfl <;>(unfold wrap64;simp at hg⊢;omega)
theorem Ki {n:Nd}(h:Za n)(ho:Zx n.op=true):0<=n.i/\n.i < 4:=by
 obtain⟨_,_,h3,_,_⟩:=h;unfold Ys at h3;simp only [Ql,ho,Bool.or_eq_false_iff]at h3;simp at h3;omega
theorem Fe {n:Nd}(h:Za n)(ho:n.op=3):0<=n.i/\n.i < 8:=by
 obtain⟨_,_,h3,_,_⟩:=h;unfold Ys at h3;rw [ho]at h3;simp [Ql,Zw,Zx,Zg,Zl]at h3;omega
theorem Uw {n:Nd}(h:Za n):0<=n.g/\n.g < 16:=by
 obtain⟨_,h2,h3,_,_⟩:=h;cases hg:Zl n.op
 ·unfold Zc at h2;simp only [hg,Bool.or_eq_false_iff]at h2;simp at h2;omega
 unfold Ys at h3;simp only [Ql,hg,Bool.or_eq_false_iff]at h3;simp at h3;omega
def Se(s:Nat)(n:Nd):Nat:=(s|||(if Zx n.op then 2^n.i.toNat else 0))|||n.g.toNat
def So(s:Nat)(n:Nd):Nat:=if n.op=3 then s|||2^n.i.toNat else s
def Jd(l:List Nd):Nat:=l.foldl Se 0
def Je(l:List Nd):Nat:=l.foldl So 0
theorem Zz3 {s:Nat} {n:Nd}(h:Za n)(hs:s < 2^4):Se s n < 2^4:=by
 unfold Se;have h1:=Uw h;refine Nat.or_lt_two_pow (Nat.or_lt_two_pow hs ?_) (by omega)
 split
 ·rename_i ho;have:=Ki h ho;exact Nat.pow_lt_pow_right (by decide) (by omega)
 decide
theorem Zjj {s:Nat} {n:Nd}(h:Za n)(hs:s < 2^8):So s n < 2^8:=by
 unfold So
 split
 ·rename_i ho;have:=Fe h ho;exact Nat.or_lt_two_pow hs (Nat.pow_lt_pow_right (by decide) (by omega))
 exact hs
theorem Dy:∀(l:List Nd) (s:Nat),(∀n∈l,Za n)->s < 2^4->l.foldl Se s < 2^4
 |[],_,_,hs=>hs
 |n :: l,_,h,hs=>Dy l _ (fun n hn=>h n (List.mem_cons_of_mem _ hn)) (Zz3 (h n (List.mem_cons_self ..)) hs)
theorem Rp:∀(l:List Nd) (s:Nat),(∀n∈l,Za n)->s < 2^8->l.foldl So s < 2^8
 |[],_,_,hs=>hs
 |n :: l,_,h,hs=>Rp l _ (fun n hn=>h n (List.mem_cons_of_mem _ hn)) (Zjj (h n (List.mem_cons_self ..)) hs)
theorem Di {k:Nat}(hk:k < 8):wrap64 ((2:Int)^k)=((2^k:Nat):Int):=by
 have hc:k=0\/k=1\/k=2\/k=3\/k=4\/k=5\/k=6\/k=7:=by omega
 rcases hc with rfl|rfl|rfl|rfl|rfl|rfl|rfl|rfl <;> decide+kernel
def Xv(a:Nat)(m i:Nat):Bool:= !m.testBit i||decide (i < a)
def Yd(f:List Nd)(a b:Nat):Bool:=check f==0&&((List.range 4).all (Xv a (Jd (Qf f)))&&(List.range 8).all (Xv b (Je (Qf f))))
theorem Qb2 {P:Nat->Bool} {n k:Nat}(hk:k < n)(h:P k=false):(List.range n).all P=false:=by
 rw [List.all_eq_false];exact⟨k,List.mem_range.2 hk,by rw [h];simp⟩
theorem Qgc {P:Nat->Bool} {n:Nat}(h:∀k,k < n->P k=true):(List.range n).all P=true:=by
 rw [List.all_eq_true];exact fun k hk=>h k (List.mem_range.1 hk)
theorem Qmg:(List.range 512).all (fun m=>((bits .andNot .i64 (m:Int) 15==0)==Jr m 15)&&((bits .andNot .i64 (m:Int) 15 !=0)== !Jr m 15))=true:=by kernel_rfl
theorem Ty(f:List Nd):(bits .andNot .i64 ((Js f:Nat):Int) 15==0)=Jr (Js f) 15/\(bits .andNot .i64 ((Js f:Nat):Int) 15 !=0)= !Jr (Js f) 15:=by
 have h:=List.all_eq_true.1 Qmg (Js f) (List.mem_range.2 (Pk (Qf f)));rw [Bool.and_eq_true,beq_iff_eq,beq_iff_eq]at h;exact h
def Ce(md:Md)(f:List Nd)(i:Int):Bool:=Jr (Js (Jn f i)) 15&&Yd (Jn f i) md.rel.length md.val.length
def Jq(md:Md)(f:List Nd):Int :=
 if Qa md≠0 then Qa md else if check f≠0 then check f else if Jr (Js f) 15=false then 10 else if Yd f md.rel.length md.val.length=false then 2 else 0
structure Qkt (md:Md) (n:Nd):Prop where
 head:Za n
 op:n.op<=13
 fact:n.op=3->n.i < md.val.length
 agent:n.op=9\/n.op=10->n.i < md.rel.length
 group:11<=n.op->1<=n.g/\n.g.toNat < 2^md.rel.length
def Uo(md:Md)(n:Nd)(x y:Nat):Nat :=
 if n.op=3 then md.val.getD n.i.toNat 0 else if n.op<=8 then Gk n.op x y (Zn md.n.toNat)
 else if n.op=9 then Vg (md.rel.getD n.i.toNat []) md.n.toNat x
 else if n.op=10 then Jk (Zn md.n.toNat) (Vg (md.rel.getD n.i.toNat []) md.n.toNat (Jk (Zn md.n.toNat) x))
 else if n.op=11 then Vg ((List.range md.n.toNat).map (Jw md.rel n.g.toNat false md.n.toNat)) md.n.toNat x
 else if n.op=12 then Vg ((List.range md.n.toNat).map (Jw md.rel n.g.toNat true md.n.toNat)) md.n.toNat x
 else Xb ((List.range md.n.toNat).map (Jw md.rel n.g.toNat false md.n.toNat)) md.n.toNat x y
theorem Qej {md:Md}(zO:md.ok) {gn N:Nat} {meet:Bool}(hN:N<=64):((List.range N).map (Jw md.rel gn meet N)).length=N/\∀s∈(List.range N).map (Jw md.rel gn meet N),Qp s:=by
 refine⟨by simp,fun s hs=> ?_⟩;obtain⟨i,_,rfl⟩:=List.mem_map.1 hs;exact Qey zO.rel hN
theorem Ip {r:List Nat} {n s:Nat}(hn:n<=64):Qp (Vg r n s):=Fi hn _
theorem Qe1 {md:Md}(zO:md.ok)(hN:md.n.toNat<=64) {n:Nd} {x y:Nat}(hx:Qp x)(hy:Qp y):Qp (Uo md n x y):=by
 unfold Uo
 split
 ·exact Yg zO.val _
 split
 ·exact Qm5 hx hy (Vn hN)
 split
 ·exact Ip hN
 split
 ·exact Ub (Vn hN)
 split
 ·exact Ip hN
 split
 ·exact Ip hN
 exact Fi hN _
def Ef(md:Md)(f:List Nd)(out:List Nat)(k:Nat):Nat :=
 if Ce md f (k:Int)then Uo md (f.getD k Nd.zero) (if Qi (f.getD k Nd.zero).op then out.getD (f.getD k Nd.zero).x.toNat 0 else 0) (if Qe (f.getD k Nd.zero).op then out.getD (f.getD k Nd.zero).y.toNat 0 else 0)else 0
def Kc(md:Md)(f:List Nd):Nat->List Nat
 |0=> []
 |k+1=>Kc md f k++ [Ef md f (Kc md f k) k]
theorem Sx(md:Md)(f:List Nd):∀k,(Kc md f k).length=k
 |0=>rfl
 |k+1=>by
  show(Kc md f k++_).length=_;rw [List.length_append,Sx md f k];rfl
theorem Qxe {md:Md}(zO:md.ok)(hN:md.n.toNat<=64)(f:List Nd):∀k,∀s∈Kc md f k,Qp s
 |0,s,hs=>by cases hs
 |k+1,s,hs=>by
  have ih:=Qxe zO hN f k;rcases List.mem_append.1 hs with h|h
  ·exact ih s h
  rw [List.mem_singleton.1 h];unfold Ef
  split
  ·refine Qe1 zO hN ?_ ?_
   ·split
    ·exact Yg ih _
    show(0:Nat) < _;omega
   split
   ·exact Yg ih _
   show(0:Nat) < _;omega
  show(0:Nat) < _;omega
theorem Vb {md:Md} {f:List Nd}(h:Jq md f=0):Qa md=0/\check f=0/\Jr (Js f) 15=true/\Yd f md.rel.length md.val.length=true:=by
 unfold Jq at h;by_cases h1:Qa md≠0
 ·rw [if_pos h1]at h;exact absurd h h1
 rw [if_neg h1]at h;by_cases h2:check f≠0
 ·rw [if_pos h2]at h;exact absurd h h2
 rw [if_neg h2]at h;cases h3:Jr (Js f) 15
 ·rw [if_pos h3]at h;cases h
 rw [if_neg (by rw [h3];simp)]at h;cases h4:Yd f md.rel.length md.val.length
 ·rw [if_pos h4]at h;cases h
 exact⟨Classical.not_not.1 h1,Classical.not_not.1 h2,rfl,rfl⟩
def Sc(md:Md)(f:List Nd):Int:=if Jq md (Qf f)=0 then 0 else Jq md f
def Bw(md:Md)(f:List Nd):Nat:=if Jq md (Qf f)=0 then(Kc md (Qf f) (Qf f).length).getD ((Qf f).length - 1) 0 else 0
def atE(md:Md)(f:List Nd)(i:Int):Int:=if Sc md f=0 then(if i < 0\/md.n<=i then 2 else 0)else Sc md f
def Zkx(md:Md)(f:List Nd)(i:Int):Bool:=if Sc md f=0 then(if i < 0\/md.n<=i then false else(Bw md f).testBit i.toNat)else false
theorem Qqx:∀(l:List Nd) (s:Nat),(∀i,s.testBit i=true->(l.foldl (fun s n=>s|||(Vk n.op).toNat) s).testBit i=true)/\∀n∈l,∀i,(Vk n.op).toNat.testBit i=true->(l.foldl (fun s n=>s|||(Vk n.op).toNat) s).testBit i=true
 |[],_=>⟨fun _ h=>h,fun _ h=>by cases h⟩
 |a :: l,s=>by
  obtain⟨h1,h2⟩:=Qqx l (s|||(Vk a.op).toNat);refine⟨fun i hi=>h1 i (by rw [Nat.testBit_or,hi];rfl),fun n hn i hi=> ?_⟩;rcases List.mem_cons.1 hn with rfl|hn
  ·exact h1 i (by rw [Nat.testBit_or,hi,Bool.or_true])
  exact h2 n hn i hi
theorem Qkc:∀(l:List Nd) (s:Nat),(∀i,s.testBit i=true->(l.foldl Se s).testBit i=true)/\∀n∈l,∀i,((Zx n.op=true/\i=n.i.toNat)\/n.g.toNat.testBit i=true)->(l.foldl Se s).testBit i=true
 |[],_=>⟨fun _ h=>h,fun _ h=>by cases h⟩
 |a :: l,s=>by
  obtain⟨h1,h2⟩:=Qkc l (Se s a);refine⟨fun i hi=>h1 i (by unfold Se;rw [Nat.testBit_or,Nat.testBit_or,hi];rfl),fun n hn i hi=> ?_⟩;rcases List.mem_cons.1 hn with rfl|hn
  ·refine h1 i ?_;unfold Se;rw [Nat.testBit_or,Nat.testBit_or];rcases hi with⟨ha,rfl⟩|hg
   ·rw [if_pos ha,Nat.testBit_two_pow];simp
   rw [hg,Bool.or_true]
  exact h2 n hn i hi
theorem Qk3:∀(l:List Nd) (s:Nat),(∀i,s.testBit i=true->(l.foldl So s).testBit i=true)/\∀n∈l,∀i,(n.op=3/\i=n.i.toNat)->(l.foldl So s).testBit i=true
 |[],_=>⟨fun _ h=>h,fun _ h=>by cases h⟩
 |a :: l,s=>by
  obtain⟨h1,h2⟩:=Qk3 l (So s a)
  refine⟨fun i hi=>h1 i (by unfold So;split;· rw [Nat.testBit_or,hi];rfl
                            ·exact hi),fun n hn i hi=> ?_⟩
  rcases List.mem_cons.1 hn with rfl|hn
  ·refine h1 i ?_;obtain⟨ho,rfl⟩:=hi;unfold So;rw [if_pos ho,Nat.testBit_or,Nat.testBit_two_pow];simp
  exact h2 n hn i hi
theorem Ts {m n:Nd}(h:m.head=n.head):m.op=n.op/\m.i=n.i/\m.g=n.g:=by
 have h1:=congrArg Nd.op h;have h2:=congrArg Nd.i h;have h3:=congrArg Nd.g h;exact⟨h1,h2,h3⟩
theorem Qv3 {g k:Nat}(h:∀i,g.testBit i=true->i < k):g < 2^k:=by
 rcases Nat.lt_or_ge g (2^k)with h1|h1
 ·exact h1
 obtain⟨i,iG,eF⟩:=Nat.exists_ge_and_testBit_of_ge_two_pow h1;have:=h i eF;omega
theorem Qk7 {md:Md} {f:List Nd} {k:Nat} {n:Nd}(hc:check f=0)(hk:f[k]?=some n)(hf:Ce md f (k:Int)=true)(_hr4:md.rel.length<=4):Qkt md n:=by
 have xD:=(List.getElem?_eq_some_iff.1 hk).1;have hh:=Rw hc n (List.mem_of_getElem? hk);unfold Ce at hf;rw [Bool.and_eq_true]at hf;obtain⟨h1,h2⟩:=hf;have hg:=(Qfe hc xD).2.1;have ht:=Sf hc xD;have lW:(tr f k).ok:=Qbt (Yb hc) k xD;have wU:Qf (Jn f (k:Int))=Qr (tr f k):=by
  rw [Ug hg,ht,Ks lW]
 obtain⟨m,hm,hmt,_⟩:=Qjq lW;have rD:=List.mem_of_getElem? hm;have dX:=Ts (Qcm ((Xg (Yb hc) hk).symm.trans hmt)).1;unfold Yd at h2;rw [Bool.and_eq_true,Bool.and_eq_true,List.all_eq_true,List.all_eq_true]at h2;rw [wU]at h2;have vZ:∀i,((Zx n.op=true/\i=n.i.toNat)\/n.g.toNat.testBit i=true)->i < 4->i < md.rel.length:=fun i hi DJ=>by
  have h3:=(Qkc (Qr (tr f k)) 0).2 m rD i (by rw [<-dX.1,<-dX.2.1,<-dX.2.2];exact hi);have h4:=h2.2.1 i (List.mem_range.2 DJ);unfold Xv Jd at h4;rw [h3]at h4
  simpa using h4
 refine⟨hh,?_,fun ho=> ?_,fun ho=> ?_,fun ho=> ?_⟩
 ·have P6:=(Dc n.op).1 hh.1;have xJ:Jr (Vk m.op).toNat 15=true:=by
   rw [Yy]at h1⊢;intro i hi;refine h1 i ?_;unfold Js;rw [wU];exact(Qqx (Qr (tr f k)) 0).2 m rD i hi
  rw [<-dX.1]at xJ;rcases Dh n.op with h|h|h|h|h|h|h|h|h|h|h|h|h|h|h|h|h|h|h|h|h|h|h <;> first|omega|(rw [h]at xJ;exact absurd xJ (by decide))
 ·have hb:=Fe hh ho;have h3:=(Qk3 (Qr (tr f k)) 0).2 m rD n.i.toNat ⟨by rw [<-dX.1];exact ho,by rw [<-dX.2.1]⟩;have h4:=h2.2.2 n.i.toNat (List.mem_range.2 (by omega));unfold Xv Je at h4;rw [h3]at h4;have:n.i.toNat < md.val.length:=by simpa using h4
  omega
 ·have ha:Zx n.op=true:=by rcases ho with h|h <;>(rw [h];rfl)
  have hb:=Ki hh ha;have:=vZ n.i.toNat (.inl ⟨ha,rfl⟩) (by omega);omega
 have hb:=Uw hh;have P7:n.op<=21:=((Dc n.op).1 hh.1).2;refine⟨?_,Qv3 fun i hi=>vZ i (.inr hi) (Kw (n:=4) (by omega) hi)⟩;obtain⟨_,h3,h4,_,_⟩:=hh;cases jM:Zl n.op
 ·exfalso
  have xJ:Jr (Vk m.op).toNat 15=true:=by
   rw [Yy]at h1⊢;intro i hi;refine h1 i ?_;unfold Js;rw [wU];exact(Qqx (Qr (tr f k)) 0).2 m rD i hi
  rw [<-dX.1]at xJ;rcases Dh n.op with h|h|h|h|h|h|h|h|h|h|h|h|h|h|h|h|h|h|h|h|h|h|h <;> first|omega|(rw [h]at xJ;exact absurd xJ (by decide))|(rw [h]at jM;cases jM)
 unfold Ys at h4;simp only [Ql,jM,Bool.or_eq_false_iff]at h4;simp at h4;omega
inductive Vi {α:Type} (r:α->α->Prop):α->α->Prop
 |one {a b:α} :r a b->Vi r a b
 |cons {a b c:α} :r a b->Vi r b c->Vi r a c
theorem Vi.snoc {α:Type} {r:α->α->Prop} {a b c:α}(h:Vi r a b)(k:r b c):Vi r a c:=by
 induction h with
 |one h=>exact .cons h (.one k)
 |cons h _ ih=>exact .cons h (ih k)
theorem Vi.map {α β:Type} {r:α->α->Prop} {s:β->β->Prop}(f:α->β)(hf:∀a b,r a b->s (f a) (f b)) {a b:α}(h:Vi r a b):Vi s (f a) (f b):=by
 induction h with
 |one h=>exact .one (hf _ _ h)
 |cons h _ ih=>exact .cons (hf _ _ h) ih
theorem Vi.mono {α:Type} {r s:α->α->Prop}(hf:∀a b,r a b->s a b) {a b:α}(h:Vi r a b):Vi s a b:=by
 induction h with
 |one h=>exact .one (hf _ _ h)
 |cons h _ ih=>exact .cons (hf _ _ h) ih
structure KM where
 W:Type
 R:Int->W->W->Prop
 V:Int->W->Prop
def Vz(g:Int)(i:Nat):Bool:=g.toNat.testBit i
def KM.step(M:KM)(g:Int)(c:M.W->Prop)(u v:M.W):Prop:=(∃i:Nat,i < 4/\Vz g i=true/\M.R (i:Int) u v)/\c v
def KM.sat(M:KM):Tr->M.W->Prop
 |.leaf n,w=>n.op=1\/(n.op=3/\M.V n.i w)
 |.one n a,w =>
  if n.op=4 then ¬M.sat a w
  else if n.op=9 then ∀v,M.R n.i w v->M.sat a v
  else if n.op=10 then ∃v,M.R n.i w v/\M.sat a v
  else if n.op=11 then ∀i:Nat,i < 4->Vz n.g i=true->∀v,M.R (i:Int) w v->M.sat a v
  else if n.op=12 then ∀v,(∀i:Nat,i < 4->Vz n.g i=true->M.R (i:Int) w v)->M.sat a v
  else False
 |.two n a b,w =>
  if n.op=5 then M.sat a w/\M.sat b w
  else if n.op=6 then M.sat a w\/M.sat b w
  else if n.op=7 then M.sat a w->M.sat b w
  else if n.op=8 then(M.sat a w↔M.sat b w)
  else if n.op=13 then ∀v,Vi (M.step n.g (M.sat a)) w v->M.sat b v
  else False
structure Frm (lg:Int) {W:Type} (R:W->W->Prop):Prop where
 ser:lg=1\/lg=5->∀w,∃v,R w v
 refl:lg=2\/lg=4\/lg=6->∀w,R w w
 trans:3<=lg/\lg<=6->∀u v w,R u v->R v w->R u w
 eucl:lg=5\/lg=6->∀u v w,R u v->R u w->R v w
def KM.In(M:KM)(lg:Int):Prop:=∀i:Int,Frm lg (M.R i)
def ev(th:Tr->Bool):Tr->Bool
 |.leaf n=>if n.op=3 then th (.leaf n)else n.op==1
 |.one n a=>if n.op=4 then !ev th a else if n.op=9 then th (.one n a)else false
 |.two n a b =>
  if n.op=5 then ev th a&&ev th b
  else if n.op=6 then ev th a||ev th b
  else if n.op=7 then !ev th a||ev th b
  else if n.op=8 then ev th a==ev th b
  else if n.op=13 then th (.two n a b)else false
def cov(B:List Tr):Tr->Prop
 |.leaf n=>n.op=3->.leaf n∈B
 |.one n a=>if n.op=9 then .one n a∈B else cov B a
 |.two n a b=>if n.op=13 then .two n a b∈B else cov B a/\cov B b
def lang:Tr->Prop
 |.leaf _=>True
 |.one n a=>(n.op=4\/n.op=9)/\lang a
 |.two n a b=>((5<=n.op/\n.op<=8)\/n.op=13)/\lang a/\lang b
def Gf(i:Nat)(n:Nd)(a b:Tr):Tr:=.one ⟨9,i,0,0,0,0⟩ (.two ⟨7,0,0,0,0,0⟩ a (.two ⟨5,0,0,0,0,0⟩ b (.two n a b)))
structure On (B:List Tr):Prop where
 know:∀n a,.one n a∈B->n.op=9/\cov B a/\lang a/\0<=n.i/\n.i < 4
 com:∀n a b,.two n a b∈B->n.op=13/\cov B a/\cov B b/\lang a/\lang b/\∀i:Nat,i < 4->Vz n.g i=true->Gf i n a b∈B
def Kd(lg:Int)(here vF there:Bool):Bool :=
 if lg<=2 then !here||vF
 else if lg=3 then !here||(vF&&there)
 else if lg=4 then !here||there
 else if lg=6 then here==there
 else(here==there)&&(!here||vF)
def Qbs(lg:Int):Prop:=lg=2\/lg=4\/lg=6
structure Coh (lg:Int) (B:List Tr) (th:Tr->Bool):Prop where
 com:∀n a b,.two n a b∈B->(th (.two n a b)=true↔∀i:Nat,i < 4->Vz n.g i=true->th (Gf i n a b)=true)
 know:Qbs lg->∀n a,.one n a∈B->th (.one n a)=true->ev th a=true
def Mz(lg:Int)(B:List Tr)(i:Int)(th th':Tr->Bool):Prop :=
 ∀n a,.one n a∈B->n.i=i->Kd lg (th (.one n a)) (ev th' a) (th' (.one n a))=true
section
variable {T:Type} (lg:Int) (B:List Tr) (S:T->Prop) (th:T->Tr->Bool)
def Hg(g:Int)(a:Tr)(t u:T):Prop:=S u/\ev (th u) a=true/\∃i:Nat,i < 4/\Vz g i=true/\Mz lg B (i:Int) (th t) (th u)
structure Ww:Prop where
 coh:∀t,S t->Coh lg B (th t)
 ser:lg=1\/lg=5->∀t,S t->∀i:Int,(∃n a,.one n a∈B/\n.i=i)->∃u,S u/\Mz lg B i (th t) (th u)
 know:∀t,S t->∀n a,.one n a∈B->th t (.one n a)=false->∃u,S u/\ev (th u) a=false/\Mz lg B n.i (th t) (th u)
 com:∀t,S t->∀n a b,.two n a b∈B->th t (.two n a b)=false->∃u,Vi (Hg lg B S th n.g a) t u/\ev (th u) b=false
end
theorem Qs7 {M:KM} {a b:Tr} {w:M.W} :M.sat (.two ⟨7,0,0,0,0,0⟩ a b) w↔(M.sat a w->M.sat b w):=by simp [KM.sat]
theorem Qgd {M:KM} {a b:Tr} {w:M.W} :M.sat (.two ⟨5,0,0,0,0,0⟩ a b) w↔(M.sat a w/\M.sat b w):=by simp [KM.sat]
theorem Ur {M:KM} {n:Nd} {a:Tr} {w:M.W}(h:n.op=9):M.sat (.one n a) w↔∀v,M.R n.i w v->M.sat a v:=by simp [KM.sat,h]
theorem Hc {M:KM} {n:Nd} {a b:Tr} {w:M.W}(h:n.op=13):M.sat (.two n a b) w↔∀v,Vi (M.step n.g (M.sat a)) w v->M.sat b v:=by simp [KM.sat,h]
theorem Qgn {M:KM} {i:Nat} {n:Nd} {a b:Tr} {w:M.W} :M.sat (Gf i n a b) w↔∀v,M.R (i:Int) w v->M.sat a v->M.sat b v/\M.sat (.two n a b) v:=by
 unfold Gf;rw [Ur rfl];constructor
 ·intro h v hv ha;exact Qgd.1 (Qs7.1 (h v hv) ha)
 intro h v hv;exact Qs7.2 fun ha=>Qgd.2 (h v hv ha)
theorem Qij {M:KM} {n:Nd} {a b:Tr} {w:M.W}(h:n.op=13):M.sat (.two n a b) w↔∀i:Nat,i < 4->Vz n.g i=true->M.sat (Gf i n a b) w:=by
 constructor
 ·intro hc i hi hb;rw [Qgn];intro v hv ha;rw [Hc h]at hc;refine⟨hc v (.one ⟨⟨i,hi,hb,hv⟩,ha⟩),?_⟩;rw [Hc h];exact fun u hu=>hc u (.cons ⟨⟨i,hi,hb,hv⟩,ha⟩ hu)
 intro hu;rw [Hc h];intro v hv;cases hv with
 |one hs =>
  obtain⟨⟨i,hi,hb,hr⟩,ha⟩:=hs;exact((Qgn.1 (hu i hi hb)) v hr ha).1
 |cons hs hr =>
  obtain⟨⟨i,hi,hb,TI⟩,ha⟩:=hs;exact((Hc h).1 ((Qgn.1 (hu i hi hb)) _ TI ha).2) v hr
theorem Qzo {M:KM} {B:List Tr} {w:M.W} {th:Tr->Bool}(sZ:∀f∈B,th f=true↔M.sat f w):∀f,cov B f->lang f->(ev th f=true↔M.sat f w)
 |.leaf n,hc,_=>by
  by_cases h3:n.op=3
  ·have:=sZ _ (hc h3);simp only [ev,h3,if_true];exact this
  simp only [ev,h3,if_false,KM.sat,beq_iff_eq,false_and,or_false]
 |.one n a,hc,hl=>by
  by_cases h9:n.op=9
  ·have jQ:.one n a∈B:=by simpa [cov,h9]using hc
   have:=sZ _ jQ;rw [<-this];simp [ev,h9]
  have h4:n.op=4:=hl.1.resolve_right h9;have jQ:cov B a:=by simpa [cov,h4]using hc
  have:=Qzo sZ a jQ hl.2;simp only [ev,KM.sat,h4,if_true,Bool.not_eq_true'];rw [<-this];simp
 |.two n a b,hc,hl=>by
  by_cases xL:n.op=13
  ·have jQ:.two n a b∈B:=by simpa [cov,xL]using hc
   have:=sZ _ jQ;rw [<-this];simp [ev,xL]
  have jQ:cov B a/\cov B b:=by simpa [cov,xL]using hc
  have ha:=Qzo sZ a jQ.1 hl.2.1;have hb:=Qzo sZ b jQ.2 hl.2.2;have ho:n.op=5\/n.op=6\/n.op=7\/n.op=8:=by
   have:=hl.1.resolve_right xL;omega
  rcases ho with ho|ho|ho|ho
  ·simp [ev,KM.sat,ho,ha,hb]
  ·simp [ev,KM.sat,ho,ha,hb]
  ·simp only [ev,KM.sat,ho];simp only [show ¬(7:Int)=5 by decide,show ¬(7:Int)=6 by decide,if_false,if_true,Bool.or_eq_true,Bool.not_eq_true'];rw [<-ha,<-hb];cases ev th a <;> cases ev th b <;> simp
  simp only [ev,KM.sat,ho];simp only [show ¬(8:Int)=5 by decide,show ¬(8:Int)=6 by decide,show ¬(8:Int)=7 by decide,if_false,if_true,beq_iff_eq];rw [<-ha,<-hb];cases ev th a <;> cases ev th b <;> simp
open Classical in
noncomputable def Tq (M:KM) (w:M.W) (f:Tr):Bool:=decide (M.sat f w)
theorem Fj {M:KM} {w:M.W} {f:Tr} :Tq M w f=true↔M.sat f w:=by simp [Tq]
section
variable {lg:Int} {B:List Tr} {M:KM}
theorem evW(w:M.W) {f:Tr}(hc:cov B f)(hl:lang f):ev (Tq M w) f=true↔M.sat f w:=Qzo (B:=B) (fun _ _=>Fj) f hc hl
theorem Qf5(hB:On B)(hM:M.In lg)(w:M.W):Coh lg B (Tq M w) where
 com n a b h:=by
  rw [Fj,Qij (hB.com n a b h).1];exact⟨fun k i hi hb=>Fj.2 (k i hi hb),fun k i hi hb=>Fj.1 (k i hi hb)⟩
 know hl n a h ht:=by
  obtain⟨h9,hc,uO,_⟩:=hB.know n a h;rw [evW w hc uO];exact(Ur h9).1 (Fj.1 ht) w ((hM n.i).refl hl w)
theorem Qj6 {lg:Int} {here vF there:Bool}(h1:here=true->vF=true)(h2:3<=lg/\lg<=6->here=true->there=true)(h3:lg=5\/lg=6->there=true->here=true)(yA:lg<=6):Kd lg here vF there=true:=by
 unfold Kd;by_cases a:lg<=2
 ·rw [if_pos a];cases here <;> simp_all
 rw [if_neg a];have h2:=h2 ⟨by omega,yA⟩;by_cases b:lg=3
 ·rw [if_pos b];cases here <;> simp_all
 rw [if_neg b];by_cases c:lg=4
 ·rw [if_pos c];cases here <;> simp_all
 rw [if_neg c];have h3:=h3 (by omega);by_cases d:lg=6
 ·rw [if_pos d];cases here <;> cases there <;> simp_all
 rw [if_neg d];cases here <;> cases there <;> simp_all
theorem Qzz(hB:On B)(hM:M.In lg)(yA:lg<=6) {i:Int} {w v:M.W}(hr:M.R i w v):Mz lg B i (Tq M w) (Tq M v):=by
 intro n a h hi;subst hi;obtain⟨h9,hc,uO,_⟩:=hB.know n a h;refine Qj6 (fun e=> ?_) (fun hl e=> ?_) (fun hl e=> ?_) yA
 ·rw [evW v hc uO];exact(Ur h9).1 (Fj.1 e) v hr
 ·rw [Fj,Ur h9];exact fun u hu=>(Ur h9).1 (Fj.1 e) u ((hM n.i).trans hl w v u hr hu)
 rw [Fj,Ur h9];exact fun u hu=>(Ur h9).1 (Fj.1 e) u ((hM n.i).eucl hl w v u hr hu)
theorem Qmc(hB:On B)(hM:M.In lg)(yA:lg<=6):Ww lg B (fun _:M.W=>True) (Tq M) where
 coh w _:=Qf5 hB hM w
 ser hl w _ i _:=by
  obtain⟨v,hv⟩:=(hM i).ser hl w;exact⟨v,trivial,Qzz hB hM yA hv⟩
 know w _ n a h hf:=by
  obtain⟨h9,hc,uO,_⟩:=hB.know n a h;have hn:¬M.sat (.one n a) w:=fun hs=>by rw [Fj.2 hs]at hf;cases hf
  rw [Ur h9]at hn;obtain⟨v,hv⟩:=Classical.not_forall.1 hn;obtain⟨hr,ha⟩:=Classical.not_imp.1 hv;refine⟨v,trivial,?_,Qzz hB hM yA hr⟩;cases e:ev (Tq M v) a
  ·rfl
  exact absurd ((evW v hc uO).1 e) ha
 com w _ n a b h hf:=by
  obtain⟨xL,qP,sF,uO,lB,_⟩:=hB.com n a b h;have hn:¬M.sat (.two n a b) w:=fun hs=>by rw [Fj.2 hs]at hf;cases hf
  rw [Hc xL]at hn;obtain⟨v,hv⟩:=Classical.not_forall.1 hn;obtain⟨hr,hb⟩:=Classical.not_imp.1 hv;refine⟨v,hr.mono fun x y pE=> ?_,?_⟩
  ·obtain⟨⟨i,hi,hg,hR⟩,ha⟩:=pE;exact⟨trivial,(evW y qP uO).2 ha,i,hi,hg,Qzz hB hM yA hR⟩
  cases e:ev (Tq M v) b
  ·rfl
  exact absurd ((evW v sF lB).1 e) hb
end
section
variable {T:Type} (lg:Int) (B:List Tr) (S:T->Prop) (th:T->Tr->Bool)
def Sz:KM:=⟨{t:T // S t},fun i t u=>Mz lg B i (th t.1) (th u.1),fun p t=>th t.1 (.leaf ⟨3,p,0,0,0,0⟩)=true⟩
end
section
variable {T:Type} {lg:Int} {B:List Tr} {S:T->Prop} {th:T->Tr->Bool}
theorem Qpj {lg:Int} {here vF there:Bool}(h:Kd lg here vF there=true)(hh:here=true)(hr:Qbs lg->there=true->vF=true):vF=true:=by
 subst hh;unfold Kd at h;by_cases a:lg<=2
 ·rw [if_pos a]at h;simpa using h
 rw [if_neg a]at h;by_cases b:lg=3
 ·rw [if_pos b]at h;simp at h;exact h.1
 rw [if_neg b]at h;by_cases c:lg=4
 ·rw [if_pos c]at h;simp at h;exact hr (.inr (.inl c)) h
 rw [if_neg c]at h;by_cases d:lg=6
 ·rw [if_pos d]at h;simp at h;exact hr (.inr (.inr d)) h
 rw [if_neg d]at h;simp at h;exact h.2
theorem Lc {lg:Int} {here vF there:Bool}(h:Kd lg here vF there=true)(hl:3<=lg)(hh:here=true):there=true:=by
 subst hh;unfold Kd at h;rw [if_neg (by omega)]at h;by_cases b:lg=3
 ·rw [if_pos b]at h;simp at h;exact h.2
 rw [if_neg b]at h;by_cases c:lg=4
 ·rw [if_pos c]at h;simp at h;exact h
 rw [if_neg c]at h;by_cases d:lg=6
 ·rw [if_pos d]at h;simp at h;exact h
 rw [if_neg d]at h;simp at h;exact h.1
theorem Pt {lg:Int} {here vF there:Bool}(h:Kd lg here vF there=true)(hl:5<=lg)(ht:there=true):here=true:=by
 subst ht;unfold Kd at h;rw [if_neg (by omega),if_neg (by omega),if_neg (by omega)]at h;by_cases d:lg=6
 ·rw [if_pos d]at h;simpa using h
 rw [if_neg d]at h;simp at h;exact h.1
theorem Wt(hF:Ww lg B S th) {i:Int} {t u:T}(hu:S u)(hp:Mz lg B i (th t) (th u)) {n:Nd} {a:Tr}(h:.one n a∈B)(hi:n.i=i)(ht:th t (.one n a)=true):ev (th u) a=true :=
 Qpj (hp n a h hi) ht (fun hr e=>(hF.coh u hu).know hr n a h e)
theorem Qsp(hF:Ww lg B S th)(yA:lg<=6):(Sz lg B S th).In lg:=fun i=> {
 ser:=fun hl w=>by
  by_cases ho:∃n a,Tr.one n a∈B/\n.i=i
  ·obtain⟨u,hu,hp⟩:=hF.ser hl w.1 w.2 i ho;exact⟨⟨u,hu⟩,hp⟩
  exact⟨w,fun n a h hi=>absurd ⟨n,a,h,hi⟩ ho⟩
 refl:=fun hl w n a h hi=>Qj6 (fun e=>(hF.coh w.1 w.2).know hl n a h e) (fun _ e=>e) (fun _ e=>e) yA
 trans:=fun hl u v w gG RN n a h hi=>by
  have h1:=gG n a h hi;have h2:=RN n a h hi;exact Qj6 (fun e=>Wt hF w.2 RN h hi (Lc h1 hl.1 e)) (fun _ e=>Lc h2 hl.1 (Lc h1 hl.1 e)) (fun k e=>Pt h1 (by omega) (Pt h2 (by omega) e)) yA
 eucl:=fun hl u v w gG N5 n a h hi=>by
  have h1:=gG n a h hi;have h2:=N5 n a h hi;exact Qj6 (fun e=>Wt hF w.2 N5 h hi (Pt h1 (by omega) e)) (fun _ e=>Lc h2 (by omega) (Pt h1 (by omega) e)) (fun k e=>Lc h1 (by omega) (Pt h2 (by omega) e)) yA }
def Oc:Tr->Prop
 |.leaf n=>n.op=3->n=⟨3,n.i,0,0,0,0⟩
 |.one _ a=>Oc a
 |.two _ a b=>Oc a/\Oc b
theorem Wh(hB:On B)(hF:Ww lg B S th):∀f,cov B f->lang f->Oc f->∀t:(Sz lg B S th).W,(ev (th t.1) f=true↔(Sz lg B S th).sat f t)
 |.leaf n,_,_,hk,t=>by
  by_cases h3:n.op=3
  ·have e:=hk h3;simp only [ev,h3,if_true,KM.sat,Sz,true_and,show ¬(3:Int)=1 by decide,false_or];rw [<-e]
  simp only [ev,h3,if_false,KM.sat,beq_iff_eq,false_and,or_false]
 |.one n a,hc,hl,hk,t=>by
  by_cases h9:n.op=9
  ·have hm:.one n a∈B:=by simpa [cov,h9]using hc
   obtain⟨_,qP,uO,_⟩:=hB.know n a hm;have ih:=Wh hB hF a qP uO hk;rw [Ur h9];have e:ev (th t.1) (.one n a)=th t.1 (.one n a):=by simp [ev,h9]
   rw [e];constructor
   ·intro ht v hr;rw [<-ih v];exact Wt hF v.2 hr hm rfl ht
   intro hs;cases ht:th t.1 (.one n a)
   ·obtain⟨u,hu,he,hp⟩:=hF.know t.1 t.2 n a hm ht;have:=(ih ⟨u,hu⟩).2 (hs ⟨u,hu⟩ hp);rw [he]at this;cases this
   rfl
  have h4:n.op=4:=hl.1.resolve_right h9;have qP:cov B a:=by simpa [cov,h4]using hc
  have ih:=Wh hB hF a qP hl.2 hk t;simp only [ev,KM.sat,h4,if_true,Bool.not_eq_true'];rw [<-ih];simp
 |.two n a b,hc,hl,hk,t=>by
  by_cases xL:n.op=13
  ·have hm:.two n a b∈B:=by simpa [cov,xL]using hc
   obtain⟨_,qP,sF,uO,lB,dE⟩:=hB.com n a b hm;have iha:=Wh hB hF a qP uO hk.1;have ihb:=Wh hB hF b sF lB hk.2;rw [Hc xL];have e:ev (th t.1) (.two n a b)=th t.1 (.two n a b):=by simp [ev,xL]
   rw [e];constructor
   ·intro ht v hr;have key:∀(s v:(Sz lg B S th).W),Vi ((Sz lg B S th).step n.g ((Sz lg B S th).sat a)) s v->th s.1 (.two n a b)=true->ev (th v.1) b=true:=by
     intro s v hr;have vU:∀s v:(Sz lg B S th).W,(Sz lg B S th).step n.g ((Sz lg B S th).sat a) s v->th s.1 (.two n a b)=true->ev (th v.1) b=true/\th v.1 (.two n a b)=true:=by
      rintro s v ⟨⟨i,hi,hg,hp⟩,ha⟩ hs;have XS:=((hF.coh s.1 s.2).com n a b hm).1 hs i hi hg;have NQ:=Wt hF v.2 hp (dE i hi hg) rfl XS;have hx:=(iha v).2 ha;simp only [ev,show ¬(7:Int)=5 by decide,show ¬(7:Int)=6 by decide,if_false,if_true,hx,Bool.not_true,Bool.false_or,Bool.and_eq_true,xL,show ¬(13:Int)=5 by decide,show ¬(13:Int)=6 by decide,show ¬(13:Int)=7 by decide,show ¬(13:Int)=8 by decide]at NQ;exact NQ
     induction hr with
     |one h=>intro hs;exact(vU _ _ h hs).1
     |cons h _ ih=>intro hs;exact ih (vU _ _ h hs).2
    rw [<-ihb v];exact key t v hr ht
   intro hs;cases ht:th t.1 (.two n a b)
   ·obtain⟨u,hp,he⟩:=hF.com t.1 t.2 n a b hm ht;have lift:∀(s u:T) (hs:S s),Vi (Hg lg B S th n.g a) s u->∃hu:S u,Vi ((Sz lg B S th).step n.g ((Sz lg B S th).sat a)) ⟨s,hs⟩ ⟨u,hu⟩:=by
     intro s u hs hr
     induction hr with
     |one h =>
      obtain⟨hu,hx,i,hi,hg,hp⟩:=h;exact⟨hu,.one (b:=(⟨_,hu⟩:(Sz lg B S th).W)) ⟨⟨i,hi,hg,hp⟩,(iha ⟨_,hu⟩).1 hx⟩⟩
     |cons h _ ih =>
      obtain⟨hu,hx,i,hi,hg,hp⟩:=h;obtain⟨JK,h2⟩:=ih hu;exact⟨JK,.cons (b:=(⟨_,hu⟩:(Sz lg B S th).W)) ⟨⟨i,hi,hg,hp⟩,(iha ⟨_,hu⟩).1 hx⟩ h2⟩
    obtain⟨hu,hr⟩:=lift t.1 u t.2 hp;have:=(ihb ⟨u,hu⟩).2 (hs ⟨u,hu⟩ hr);rw [he]at this;cases this
   rfl
  have jQ:cov B a/\cov B b:=by simpa [cov,xL]using hc
  have ha:=Wh hB hF a jQ.1 hl.2.1 hk.1 t;have hb:=Wh hB hF b jQ.2 hl.2.2 hk.2 t;have ho:n.op=5\/n.op=6\/n.op=7\/n.op=8:=by
   have:=hl.1.resolve_right xL;omega
  rcases ho with ho|ho|ho|ho
  ·simp [ev,KM.sat,ho,ha,hb]
  ·simp [ev,KM.sat,ho,ha,hb]
  ·simp only [ev,KM.sat,ho];simp only [show ¬(7:Int)=5 by decide,show ¬(7:Int)=6 by decide,if_false,if_true,Bool.or_eq_true,Bool.not_eq_true'];rw [<-ha,<-hb];cases ev (th t.1) a <;> cases ev (th t.1) b <;> simp
  simp only [ev,KM.sat,ho];simp only [show ¬(8:Int)=5 by decide,show ¬(8:Int)=6 by decide,show ¬(8:Int)=7 by decide,if_false,if_true,beq_iff_eq];rw [<-ha,<-hb];cases ev (th t.1) a <;> cases ev (th t.1) b <;> simp
end
def Oz(l:List Nat)(n:Nat)(u v:Fin n):Prop:=(l.getD u.1 0).testBit v.1=true
def Gv(md:Md):KM where
 W:=Fin md.n.toNat
 R:=fun a u v=>if 0<=a/\a < md.rel.length then Oz (md.rel.getD a.toNat []) md.n.toNat u v else u=v
 V:=fun p w=>(md.val.getD p.toNat 0).testBit w.1=true
theorem Zjq(lg:Int) {W:Type} :Frm lg (fun u v:W=>u=v) where
 ser:=fun _ w=>⟨w,rfl⟩
 refl:=fun _ _=>rfl
 trans:=fun _ _ _ _ h1 h2=>h1.trans h2
 eucl:=fun _ _ _ _ h1 h2=>h1.symm.trans h2
theorem Qw8 {s n:Nat}(h:s < 2^n)(h0:s≠0):∃i,i < n/\s.testBit i=true:=by
 obtain⟨i,hi⟩:=Nat.exists_testBit_of_ne_zero h0;exact⟨i,Kw h hi,hi⟩
theorem Qo8 {l:List Nat}(h:Gz false l) {w u v:Nat}(hw:w < l.length)(hu:u < l.length)(h1:(l.getD w 0).testBit u=true)(h2:(l.getD u 0).testBit v=true):(l.getD w 0).testBit v=true:=by
 exact Yy.1 (h w u hw hu h1) v h2
theorem Qo6 {l:List Nat}(h:Gz true l) {w u v:Nat}(hw:w < l.length)(hu:u < l.length)(h1:(l.getD w 0).testBit u=true)(h2:(l.getD w 0).testBit v=true):(l.getD u 0).testBit v=true:=by
 exact Yy.1 (h w u hw hu h1) v h2
theorem Qeq {l:List Nat} {n:Nat} {lg:Int}(hl:l.length=n)(hv:Xj l=true)(hg:Dm lg l)(hr:0<=lg/\lg<=6):Frm lg (Oz l n):=by
 have zI:∀i,i < n->l.getD i 0 < 2^n:=fun i hi=>(Tb.start (eu:=true) hl (by rw [<-hl];exact(Fz.1 hv).2)).lt i hi
 unfold Dm Gg at hg;refine⟨fun h w=> ?_,fun h w=> ?_,fun h u v w h1 h2=> ?_,fun h u v w h1 h2=> ?_⟩
 ·have h1:Ky 1 l:=hg 1 (by rcases h with rfl|rfl <;> simp);obtain⟨i,hi,hb⟩:=Qw8 (zI w.1 w.2) (h1 w.1 (by rw [hl];exact w.2));exact⟨⟨i,hi⟩,hb⟩
 ·have h1:Ky 2 l:=hg 2 (by rcases h with rfl|rfl|rfl <;> simp);exact h1 w.1 (by rw [hl];exact w.2)
 ·have h3:Ky 4 l:=hg 4 (by
   have:lg=3\/lg=4\/lg=5\/lg=6:=by omega
   rcases this with rfl|rfl|rfl|rfl <;> simp)
  exact Qo8 h3 (by rw [hl];exact u.2) (by rw [hl];exact v.2) h1 h2
 have h3:Ky 5 l:=hg 5 (by rcases h with rfl|rfl <;> simp);exact Qo6 h3 (by rw [hl];exact u.2) (by rw [hl];exact v.2) h1 h2
theorem Qsn {md:Md} {lg:Int}(h:Fl md lg):(Gv md).In lg:=by
 intro a;show Frm lg (fun u v=>if 0<=a/\a < md.rel.length then Oz (md.rel.getD a.toNat []) md.n.toNat u v else u=v);by_cases ha:0<=a/\a < md.rel.length
 ·simp only [if_pos ha];have hm:md.rel.getD a.toNat []∈md.rel:=by
   rw [Qk,List.getElem?_eq_getElem (by omega)];exact List.getElem_mem _
  obtain⟨hv,_⟩:=Qjs h.ck hm;have hl:=(Zb h.ck).2.2.2.2.1 _ hm;exact Qeq (by omega) hv (h.rel _ hm) h.lgr
 simp only [if_neg ha];exact Zjq lg
theorem Tw(r:List Nat)(n s i:Nat):(Vg r n s).testBit i=true↔i < n/\∀v,(r.getD i 0).testBit v=true->s.testBit v=true:=by
 unfold Vg;rw [Ri,Bool.and_eq_true,decide_eq_true_iff,Yy]
theorem Qiv(r:List Nat)(n s i:Nat)(h:∀v,(r.getD i 0).testBit v=true->v < n):
 (Jk (Zn n) (Vg r n (Jk (Zn n) s))).testBit i=true↔i < n/\∃v,(r.getD i 0).testBit v=true/\s.testBit v=true:=by
 rw [Gd,Bool.and_eq_true,Kb,decide_eq_true_iff];constructor
 ·rintro⟨hi,hb⟩;refine⟨hi,Classical.byContradiction fun hn=> ?_⟩;have:(Vg r n (Jk (Zn n) s)).testBit i=true:=(Tw ..).2 ⟨hi,fun v hv=>by
   rw [Gd,Kb,Bool.and_eq_true,decide_eq_true_iff];refine⟨h v hv,?_⟩;cases hs:s.testBit v
   ·rfl
   exact absurd ⟨v,hv,hs⟩ hn⟩
  rw [this]at hb;cases hb
 rintro⟨hi,v,hv,hs⟩;refine⟨hi,?_⟩;cases hb:(Vg r n (Jk (Zn n) s)).testBit i
 ·rfl
 have h2:=((Tw ..).1 hb).2 v hv;rw [Gd,hs,Bool.not_true,Bool.and_false]at h2;cases h2
theorem Qdm(rl:List (List Nat))(gn i v:Nat):∀(k s:Nat),(((List.range k).foldl (Fx rl gn false i) s).testBit v=true↔s.testBit v=true\/∃a,a < k/\gn.testBit a=true/\((rl.getD a []).getD i 0).testBit v=true)
 |0,s=>by simp
 |k+1,s=>by
  rw [Ve];have ih:=Qdm rl gn i v k s;unfold Fx;cases hg:gn.testBit k
  ·rw [if_neg (by simp)];rw [show(List.foldl (fun s a=>if gn.testBit a=true then if false=true then s&&&(rl.getD a []).getD i 0 else s|||(rl.getD a []).getD i 0 else s) s (List.range k))=(List.range k).foldl (Fx rl gn false i) s from rfl,ih];refine or_congr Iff.rfl ⟨fun⟨a,h1,h2,h3⟩=>⟨a,by omega,h2,h3⟩,fun⟨a,h1,h2,h3⟩=>⟨a,?_,h2,h3⟩⟩;have:a≠k:=fun e=>by rw [e,hg]at h2;cases h2
   omega
  rw [if_pos rfl,if_neg (by simp),Nat.testBit_or,Bool.or_eq_true];rw [show(List.foldl (fun s a=>if gn.testBit a=true then if false=true then s&&&(rl.getD a []).getD i 0 else s|||(rl.getD a []).getD i 0 else s) s (List.range k))=(List.range k).foldl (Fx rl gn false i) s from rfl,ih];constructor
  ·rintro((h|⟨a,h1,h2,h3⟩)|h)
   ·exact Or.inl h
   ·exact Or.inr ⟨a,by omega,h2,h3⟩
   exact Or.inr ⟨k,by omega,hg,h⟩
  rintro(h|⟨a,h1,h2,h3⟩)
  ·exact Or.inl (Or.inl h)
  by_cases e:a=k
  ·exact Or.inr (by rw [<-e];exact h3)
  exact Or.inl (Or.inr ⟨a,by omega,h2,h3⟩)
theorem Qyj(rl:List (List Nat))(gn n i v:Nat):(Jw rl gn false n i).testBit v=true↔∃a,a < rl.length/\gn.testBit a=true/\((rl.getD a []).getD i 0).testBit v=true:=by
 unfold Jw;rw [Qdm];simp
theorem Qyy(rl:List (List Nat))(gn n i:Nat)(b:Bool)(hi:i < n):((List.range n).map (Jw rl gn b n)).getD i 0=Jw rl gn b n i:=by
 rw [Qk,List.getElem?_map,List.getElem?_range hi];rfl
def Bs(r:List Nat)(c:Nat)(u v:Nat):Prop:=(r.getD u 0).testBit v=true/\c.testBit v=true
theorem Qwk {α:Type} {r:α->α->Prop} {a b c:α}(h:Vi r a b)(hc:r b c):Vi r a c:=by
 induction h with
 |one h=>exact .cons h (.one hc)
 |cons h _ ih=>exact .cons h (ih hc)
theorem Pe(r:List Nat)(c a v:Nat):(r.getD a 0&&&c).testBit v=true↔Bs r c a v:=by
 rw [Nat.testBit_and,Bool.and_eq_true];rfl
theorem Qmb {r:List Nat} {c a s:Nat}(h:∀v,s.testBit v=true->Vi (Bs r c) a v)(u:Nat):∀v,(Sa r c s u).testBit v=true->Vi (Bs r c) a v:=by
 intro v hv;unfold Sa at hv;cases hu:s.testBit u
 ·rw [if_neg (by rw [hu];simp)]at hv;exact h v hv
 rw [if_pos hu,Nat.testBit_or,Bool.or_eq_true]at hv;rcases hv with hv|hv
 ·exact h v hv
 exact Qwk (h u hu) ((Pe ..).1 hv)
theorem Qxn {r:List Nat} {c a:Nat} :∀(n s:Nat),(∀v,s.testBit v=true->Vi (Bs r c) a v)->∀v,(Gi r c n s).testBit v=true->Vi (Bs r c) a v
 |0,s,h=>h
 |n+1,s,h=>by
  unfold Gi;rw [Ve];exact Qmb (Qxn n s h) n
theorem Qxr {r:List Nat} {c a n:Nat} :∀(k:Nat),∀v,((List.range k).foldl (fun s _=>Gi r c n s) (r.getD a 0&&&c)).testBit v=true->Vi (Bs r c) a v
 |0=>fun v hv=> .one ((Pe ..).1 hv)
 |k+1=>by
  rw [Ve];exact Qxn n _ (Qxr k)
theorem Qre {r:List Nat} {c n a v:Nat}(h:(Bq r c n a).testBit v=true):Vi (Bs r c) a v:=Qxr n v h
theorem Qfa {r:List Nat} {c s u v:Nat}(h:s.testBit v=true):(Sa r c s u).testBit v=true:=by
 unfold Sa
 split
 ·rw [Nat.testBit_or,h,Bool.true_or]
 exact h
theorem Qhi {r:List Nat} {c s u v:Nat}(h:s.testBit u=true)(xM:Bs r c u v):(Sa r c s u).testBit v=true:=by
 unfold Sa;rw [if_pos h,Nat.testBit_or,(Pe r c u v).2 xM,Bool.or_true]
theorem Wr {r:List Nat} {c v:Nat} :∀(n s:Nat),s.testBit v=true->(Gi r c n s).testBit v=true
 |0,_,h=>h
 |n+1,s,h=>by
  unfold Gi;rw [Ve];exact Qfa (Wr n s h)
theorem Qfx {r:List Nat} {c s u v:Nat}(hs:s.testBit u=true)(xM:Bs r c u v):∀(n:Nat),u < n->(Gi r c n s).testBit v=true
 |0,h=>absurd h (by omega)
 |n+1,h=>by
  unfold Gi;rw [Ve];by_cases e:u=n
  ·subst e;have h1:(Gi r c u s).testBit u=true:=Wr u s hs;unfold Gi at h1;exact Qhi h1 xM
  exact Qfa (Qfx hs xM n (by omega))
def Qzp(r:List Nat)(c s:Nat):Prop:=∀u v,s.testBit u=true->Bs r c u v->s.testBit v=true
theorem Qmd {r:List Nat} {c s u:Nat}(h:Qzp r c s):Sa r c s u=s:=by
 unfold Sa
 split
 ·rename_i hu;refine Nat.eq_of_testBit_eq fun v=> ?_
  rw [Nat.testBit_or];cases hb:(r.getD u 0&&&c).testBit v
  ·rw [Bool.or_false]
  rw [h u v hu ((Pe ..).1 hb)];rfl
 rfl
theorem Qqi {r:List Nat} {c s:Nat}(h:Qzp r c s):∀n,Gi r c n s=s
 |0=>rfl
 |n+1=>by
  unfold Gi;rw [Ve];have ih:=Qqi h n;unfold Gi at ih;rw [ih,Qmd h]
def Qkr(n s:Nat):Nat:=(List.range n).countP fun i=> !s.testBit i
theorem Qhy {r:List Nat} {c n s:Nat}(hb:∀u v,(r.getD u 0).testBit v=true->u < n/\v < n)(h:¬Qzp r c s):Qkr n (Gi r c n s) < Qkr n s:=by
 obtain⟨u,v,h1,h2,h3⟩:∃u v,s.testBit u=true/\Bs r c u v/\s.testBit v=false:=Classical.byContradiction fun hn=>h fun u v h1 h2=>by
  cases h3:s.testBit v
  ·exact absurd ⟨u,v,h1,h2,h3⟩ hn
  rfl
 obtain⟨hu,hv⟩:=hb u v h2.1;unfold Qkr;refine Iw (fun i _ hq=> ?_) ⟨v,List.mem_range.2 hv,by rw [h3];rfl,by rw [Qfx h1 h2 n hu];rfl⟩;cases hi:s.testBit i
 ·rfl
 rw [Wr n s hi]at hq;cases hq
theorem Zyn(n s:Nat):Qkr n s<=n:=by
 have:=List.countP_le_length (p:=fun i=> !s.testBit i) (l:=List.range n);rw [List.length_range]at this;exact this
theorem Qoq {r:List Nat} {c n s:Nat}(hb:∀u v,(r.getD u 0).testBit v=true->u < n/\v < n)(h:Qkr n s=0):Qzp r c s:=by
 intro u v _ h2;unfold Qkr at h;rw [List.countP_eq_zero]at h;have:=h v (List.mem_range.2 (hb u v h2.1).2)
 simpa using this
theorem Qff {r:List Nat} {c n a:Nat}(hb:∀u v,(r.getD u 0).testBit v=true->u < n/\v < n):∀k,Qzp r c ((List.range k).foldl (fun s _=>Gi r c n s) (r.getD a 0&&&c))\/Qkr n ((List.range k).foldl (fun s _=>Gi r c n s) (r.getD a 0&&&c))+k<=n
 |0=>Or.inr (Zyn _ _)
 |k+1=>by
  rw [Ve];rcases Qff hb k with h|h
  ·exact Or.inl (by rw [Qqi h];exact h)
  by_cases hc:Qzp r c ((List.range k).foldl (fun s _=>Gi r c n s) (r.getD a 0&&&c))
  ·exact Or.inl (by rw [Qqi hc];exact hc)
  have:=Qhy hb hc;exact Or.inr (by omega)
theorem Qnm {r:List Nat} {c n a v:Nat}(h:Bs r c a v):∀k,((List.range k).foldl (fun s _=>Gi r c n s) (r.getD a 0&&&c)).testBit v=true
 |0=>(Pe ..).2 h
 |k+1=>by
  rw [Ve];exact Wr n _ (Qnm h k)
theorem Zjw {r:List Nat} {c s:Nat}(hc:Qzp r c s) {a v:Nat}(h:Vi (Bs r c) a v):(∀u,Bs r c a u->s.testBit u=true)->s.testBit v=true:=by
 induction h with
 |one h=>exact fun hs=>hs _ h
 |cons h _ ih=>exact fun hs=>ih fun u hu=>hc _ u (hs _ h) hu
theorem Qjb {r:List Nat} {c n a v:Nat}(hb:∀u v,(r.getD u 0).testBit v=true->u < n/\v < n):(Bq r c n a).testBit v=true↔Vi (Bs r c) a v:=by
 refine⟨Qre,fun h=> ?_⟩;have hc:Qzp r c (Bq r c n a):=by
  rcases Qff (a:=a) (c:=c) hb n with h|h
  ·exact h
  exact Qoq hb (by unfold Bq;omega)
 exact Zjw hc h fun u hu=>Qnm hu n
theorem Qky {r:List Nat} {n:Nat}(hl:r.length=n)(hb:Zf r n=false):∀u v,(r.getD u 0).testBit v=true->u < n/\v < n:=fun u v h=>by
 by_cases hu:u < r.length
 ·have hm:r.getD u 0∈r:=by rw [Qk,Qv hu];exact List.getElem_mem hu
  have h2:=List.any_eq_false.1 hb _ hm;simp only [Bool.not_eq_true',decide_eq_false_iff_not,Nat.not_lt,Nat.not_le]at h2;exact⟨by omega,Kw h2 h⟩
 rw [Qk,List.getElem?_eq_none (by omega)]at h;simp at h
def gfF(r:List Nat)(n c s out:Nat):Nat:=Vg r n (Jk (Zn n) c|||(s&&&out))
theorem Mn {r:List Nat} {n c s out i:Nat}(hb:∀u v,(r.getD u 0).testBit v=true->u < n/\v < n):
 (gfF r n c s out).testBit i=true↔i < n/\∀v,(r.getD i 0).testBit v=true->c.testBit v=true->s.testBit v=true/\out.testBit v=true:=by
 unfold gfF;rw [Tw];refine and_congr_right fun _=>forall_congr' fun v=> ?_
 refine⟨fun h h1 h2=> ?_,fun h h1=> ?_⟩
 ·have:=h h1;rw [Nat.testBit_or,Gd,Nat.testBit_and,h2,Bool.not_true,Bool.and_false,Bool.false_or,Bool.and_eq_true]at this;exact this
 rw [Nat.testBit_or,Gd,Nat.testBit_and,Kb];cases hc:c.testBit v
 ·simp [(hb i v h1).2]
 obtain⟨h3,h4⟩:=h h1 hc;simp [h3,h4]
theorem Pv {r:List Nat} {n c s i:Nat}(hb:∀u v,(r.getD u 0).testBit v=true->u < n/\v < n):
 (Xb r n c s).testBit i=true↔i < n/\∀v,Vi (Bs r c) i v->s.testBit v=true:=by
 unfold Xb;rw [Ri,Bool.and_eq_true,decide_eq_true_eq,Yy];exact and_congr_right fun _=>forall_congr' fun v=>by rw [Qjb hb]
theorem Qdy {r:List Nat} {n c s:Nat}(hb:∀u v,(r.getD u 0).testBit v=true->u < n/\v < n):∀i,(Xb r n c s).testBit i=true->(Zn n).testBit i=true:=fun i h=>by
 rw [Kb];exact decide_eq_true ((Pv hb).1 h).1
theorem Qdj {r:List Nat} {n c s out:Nat}(hb:∀u v,(r.getD u 0).testBit v=true->u < n/\v < n)(h:∀i,(Xb r n c s).testBit i=true->out.testBit i=true):
 ∀i,(Xb r n c s).testBit i=true->(gfF r n c s out).testBit i=true:=fun i hi=>by
 obtain⟨h1,h2⟩:=(Pv hb).1 hi;exact(Mn hb).2 ⟨h1,fun v hv hc=>⟨h2 v (.one ⟨hv,hc⟩),h v ((Pv hb).2 ⟨(hb i v hv).2,fun z hz=>h2 z (.cons ⟨hv,hc⟩ hz)⟩)⟩⟩
theorem Qa9 {r:List Nat} {n c s:Nat}(hb:∀u v,(r.getD u 0).testBit v=true->u < n/\v < n):∀i,(gfF r n c s (Zn n)).testBit i=true->(Zn n).testBit i=true:=fun i h=>by
 rw [Kb];exact decide_eq_true ((Mn hb).1 h).1
theorem Zjk {r:List Nat} {n c s out:Nat}(hb:∀u v,(r.getD u 0).testBit v=true->u < n/\v < n)(h:∀i,(gfF r n c s out).testBit i=true->out.testBit i=true):
 ∀i,(gfF r n c s (gfF r n c s out)).testBit i=true->(gfF r n c s out).testBit i=true:=fun i hi=>by
 obtain⟨h1,h2⟩:=(Mn hb).1 hi;exact(Mn hb).2 ⟨h1,fun v hv hc=>⟨(h2 v hv hc).1,h v (h2 v hv hc).2⟩⟩
theorem Qt0 {r:List Nat} {n c s out:Nat}(hb:∀u v,(r.getD u 0).testBit v=true->u < n/\v < n)(h:gfF r n c s out=out)(hi:∀i,(Xb r n c s).testBit i=true->out.testBit i=true):out=Xb r n c s:=by
 have hp:∀u v,Vi (Bs r c) u v->out.testBit u=true->s.testBit v=true:=fun u v hr=>by
  induction hr with
  |one xM=>intro ho;rw [<-h]at ho;exact(((Mn hb).1 ho).2 _ xM.1 xM.2).1
  |cons xM _ ih=>intro ho;rw [<-h]at ho;exact ih (((Mn hb).1 ho).2 _ xM.1 xM.2).2
 refine Nat.eq_of_testBit_eq fun i=> ?_
 rw [Bool.eq_iff_iff];refine⟨fun ho=>(Pv hb).2 ⟨?_,fun v hv=>hp i v hv ho⟩,hi i⟩;have gI:=ho;rw [<-h]at gI;exact((Mn hb).1 gI).1
theorem Zj0 {a b:Nat}(h:∀i,a.testBit i=true->b.testBit i=true)(zQ:a≠b):a < b:=by
 have e:a&&&b=a:=by
  refine Nat.eq_of_testBit_eq fun i=> ?_
  rw [Nat.testBit_and];cases ha:a.testBit i
  ·rfl
  rw [h i ha];rfl
 have:a<=b:=by rw [<-e];exact Nat.and_le_right
 omega
theorem Qoc {N:Nat}(h:N<=64):(18446744073709551615:Int) / 2^(64 - N)=((Zn N:Nat):Int):=by
 have e:∀k:Fin 65,(18446744073709551615:Int) / 2^(64 - k.val)=((Zn k.val:Nat):Int):=by decide+kernel
 exact e ⟨N,by omega⟩
def Jy(md:Md)(n:Nd):Bool :=
 if n.op=3 then decide (n.i < md.val.length)else if n.op<=8 then true else if n.op<=10 then decide (n.i < md.rel.length)
 else if n.op<=13 then decide (n.g < ((2^md.rel.length:Nat):Int))else false
def Vj(md:Md)(n:Nd)(x y:Nat):Nat:=if Jy md n=true then Uo md n x y else 0
theorem Qic {rl:List (List Nat)} {n:Nat}(hw:∀r∈rl,∀s∈r,s < 2^n) {gn i s a:Nat} {meet:Bool}(hs:s < 2^n):Fx rl gn meet i s a < 2^n:=by
 unfold Fx
 split
 ·split
  ·exact Nat.lt_of_le_of_lt Nat.and_le_left hs
  refine Nat.or_lt_two_pow hs ?_;by_cases ha:a < rl.length
  ·have hm:rl.getD a []∈rl:=by rw [Qk,Qv ha];exact List.getElem_mem ha
   by_cases hi:i < (rl.getD a []).length
   ·refine hw _ hm _ ?_;rw [Qk (l:=rl.getD a []),Qv hi];exact List.getElem_mem hi
   rw [Qk (l:=rl.getD a []),List.getElem?_eq_none (by omega)];exact Nat.two_pow_pos n
  rw [Qk (l:=rl),List.getElem?_eq_none (by omega)];exact Nat.two_pow_pos n
 exact hs
theorem Qol(n:Nat):Zn n < 2^n:=by
 unfold Zn;have:=Nat.two_pow_pos n;omega
theorem Qip {rl:List (List Nat)} {n:Nat}(hw:∀r∈rl,∀s∈r,s < 2^n) {gn i:Nat} {meet:Bool} :Jw rl gn meet n i < 2^n:=by
 unfold Jw;have:∀k,(List.range k).foldl (Fx rl gn meet i) (if meet then Zn n else 0) < 2^n:=fun k=>by
  induction k with
  |zero =>
   cases meet
   ·exact Nat.two_pow_pos n
   exact Qol n
  |succ k ih=>rw [Ve];exact Qic hw ih
 exact this _
theorem Cc {r:List Nat} {N:Nat}(hl:r.length=N)(hN:N<=64)(h:∀s∈r,s < 2^N):Jh r.length r=0:=by
 have hb:Zf r r.length=false:=List.any_eq_false.2 fun s hs=>by rw [hl];simpa using h s hs
 have:=Fz.2 ⟨by omega,hb⟩;unfold Xj at this
 simpa using this
theorem Qs5 {md:Md}(h:Qa md=0):∀r∈md.rel,∀s∈r,s < 2^md.n.toNat:=fun r hr s hs=>by
 obtain⟨_,_,_,_,_,_,vY⟩:=Zb h;have:=List.any_eq_false.1 (vY r hr) s hs
 simpa using this
theorem Qm7 {r:List Nat} {n x:Nat}(hn:n<=64)(hb:∀u v,(r.getD u 0).testBit v=true->u < n/\v < n):Vg r n (Zn 64^^^x)=Vg r n (Jk (Zn n) x):=by
 refine Nat.eq_of_testBit_eq fun i=> ?_
 rw [Bool.eq_iff_iff,Tw,Tw];refine and_congr_right fun _=>forall_congr' fun v=>imp_congr_right fun hv=> ?_
 have dC:=(hb i v hv).2;rw [Nat.testBit_xor,Kb,Gd,Kb,decide_eq_true (show v < 64 by omega),decide_eq_true dC];cases x.testBit v <;> simp
theorem Da {md:Md}(h:Qa md=0)(a:Nat):∀u v,((md.rel.getD a []).getD u 0).testBit v=true->u < md.n.toNat/\v < md.n.toNat:=by
 intro u v hb;by_cases ha:a < md.rel.length
 ·have hm:md.rel.getD a []∈md.rel:=by
   rw [Qk,Qv ha];exact List.getElem_mem _
  obtain⟨hv,_⟩:=Qjs h hm;have hl:=(Zb h).2.2.2.2.1 _ hm;have pM:(md.rel.getD a []).length=md.n.toNat:=by omega
  by_cases hu:u < md.n.toNat
  ·have:=(Tb.start (eu:=true) pM (by rw [<-pM];exact(Fz.1 hv).2)).lt u hu;exact⟨hu,Kw this hb⟩
  rw [Qk,List.getElem?_eq_none (by omega)]at hb;simp at hb
 have e:md.rel.getD a []= []:=by rw [Qk,List.getElem?_eq_none (by omega)];rfl
 rw [e]at hb;simp at hb
theorem Mr {md:Md}(h:Qa md=0)(gn:Nat):∀u v,(((List.range md.n.toNat).map (Jw md.rel gn false md.n.toNat)).getD u 0).testBit v=true->u < md.n.toNat/\v < md.n.toNat:=by
 intro u v hb;by_cases hu:u < md.n.toNat
 ·rw [Qyy _ _ _ _ _ hu,Qyj]at hb;obtain⟨a,_,_,h3⟩:=hb;exact⟨hu,(Da h a u v h3).2⟩
 rw [Qk,List.getElem?_eq_none (by simp;omega)]at hb;simp at hb
def Fd(md:Md)(s:Nat)(t:Tr):Prop:=∀w:Fin md.n.toNat,s.testBit w.1=true↔(Gv md).sat t w
theorem Qo2 {md:Md}(h:Qa md=0) {n:Nd} {s:Nat} {t:Tr}(hi:0<=n.i/\n.i < md.rel.length)(hs:Fd md s t)(h9:n.op=9):Fd md (Vg (md.rel.getD n.i.toNat []) md.n.toNat s) (.one n t):=by
 intro w;rw [Tw];show _↔(if n.op=4 then _ else if n.op=9 then _ else _);rw [if_neg (by omega),if_pos h9];constructor
 ·rintro⟨_,hb⟩ v hv;refine(hs v).1 (hb v.1 ?_);have hO:(if 0<=n.i/\n.i < md.rel.length then Oz (md.rel.getD n.i.toNat []) md.n.toNat w v else w=v):=hv;rw [if_pos hi]at hO;exact hO
 intro hf;refine⟨w.2,fun v hv=> ?_⟩;have nF:=(Da h n.i.toNat w.1 v hv).2;refine(hs ⟨v,nF⟩).2 (hf ⟨v,nF⟩ ?_);show(if 0<=n.i/\n.i < md.rel.length then Oz (md.rel.getD n.i.toNat []) md.n.toNat w ⟨v,nF⟩else _);rw [if_pos hi];exact hv
theorem Qik {md:Md}(h:Qa md=0) {n:Nd} {s:Nat} {t:Tr}(hi:0<=n.i/\n.i < md.rel.length)(hs:Fd md s t)(h9:n.op=10):
 Fd md (Jk (Zn md.n.toNat) (Vg (md.rel.getD n.i.toNat []) md.n.toNat (Jk (Zn md.n.toNat) s))) (.one n t):=by
 intro w;rw [Qiv _ _ _ _ (fun v hv=>(Da h _ _ v hv).2)];show _↔(if n.op=4 then _ else if n.op=9 then _ else if n.op=10 then _ else _);rw [if_neg (by omega),if_neg (by omega),if_pos h9];constructor
 ·rintro⟨_,v,hv,hb⟩;have nF:=(Da h n.i.toNat w.1 v hv).2;refine⟨⟨v,nF⟩,?_,(hs ⟨v,nF⟩).1 hb⟩;show(if 0<=n.i/\n.i < md.rel.length then Oz (md.rel.getD n.i.toNat []) md.n.toNat w ⟨v,nF⟩else _);rw [if_pos hi];exact hv
 rintro⟨v,hv,hb⟩;have hO:(if 0<=n.i/\n.i < md.rel.length then Oz (md.rel.getD n.i.toNat []) md.n.toNat w v else w=v):=hv;rw [if_pos hi]at hO;exact⟨w.2,v.1,hO,(hs v).2 hb⟩
theorem Lq {md:Md} {g:Int}(hg:g.toNat < 2^md.rel.length) {i:Nat}(hi:Vz g i=true):i < md.rel.length:=Kw hg hi
theorem kmR {md:Md} {i:Nat}(hi:i < md.rel.length)(u v:Fin md.n.toNat):(Gv md).R (i:Int) u v↔((md.rel.getD i []).getD u.1 0).testBit v.1=true:=by
 show(if 0<=(i:Int)/\(i:Int) < md.rel.length then Oz (md.rel.getD (i:Int).toNat []) md.n.toNat u v else u=v)↔_;rw [if_pos (by omega),Int.toNat_natCast];rfl
theorem Qih {md:Md}(h:Qa md=0) {n:Nd} {s:Nat} {t:Tr}(hg:n.g.toNat < 2^md.rel.length)(hs:Fd md s t)(h9:n.op=11):
 Fd md (Vg ((List.range md.n.toNat).map (Jw md.rel n.g.toNat false md.n.toNat)) md.n.toNat s) (.one n t):=by
 intro w;rw [Tw];show _↔(if n.op=4 then _ else if n.op=9 then _ else if n.op=10 then _ else if n.op=11 then _ else _);rw [if_neg (by omega),if_neg (by omega),if_neg (by omega),if_pos h9,Qyy _ _ _ _ _ w.2];have h4:=(Zb h).2.2.1;constructor
 ·rintro⟨_,hb⟩ i hi gL v hv;exact(hs v).1 (hb v.1 ((Qyj ..).2 ⟨i,Lq hg gL,gL,(kmR (Lq hg gL) w v).1 hv⟩))
 intro hf;refine⟨w.2,fun v hv=> ?_⟩;obtain⟨i,hi,gL,hr⟩:=(Qyj ..).1 hv;have nF:=(Da h i w.1 v hr).2;exact(hs ⟨v,nF⟩).2 (hf i (by omega) gL ⟨v,nF⟩ ((kmR hi w ⟨v,nF⟩).2 hr))
theorem Hf {md:Md}(h:Qa md=0) {g:Int} {c:Nat} {t:Tr}(hg:g.toNat < 2^md.rel.length)(hc:Fd md c t)(u v:Fin md.n.toNat):
 Bs ((List.range md.n.toNat).map (Jw md.rel g.toNat false md.n.toNat)) c u.1 v.1↔(Gv md).step g ((Gv md).sat t) u v:=by
 unfold Bs KM.step;rw [Qyy _ _ _ _ _ u.2,Qyj,hc v];have h4:=(Zb h).2.2.1;refine and_congr ⟨?_,?_⟩ Iff.rfl
 ·rintro⟨a,ha,cE,hr⟩;exact⟨a,by omega,cE,(kmR ha u v).2 hr⟩
 rintro⟨a,_,cE,hr⟩;exact⟨a,Lq hg cE,cE,(kmR (Lq hg cE) u v).1 hr⟩
theorem Zjo {md:Md}(h:Qa md=0) {g:Int} {c:Nat} {t:Tr}(hg:g.toNat < 2^md.rel.length)(hc:Fd md c t) {a b:Nat}(hr:Vi (Bs ((List.range md.n.toNat).map (Jw md.rel g.toNat false md.n.toNat)) c) a b):
 ∀(ha:a < md.n.toNat),∃hb:b < md.n.toNat,Vi ((Gv md).step g ((Gv md).sat t)) (⟨a,ha⟩:Fin md.n.toNat) (⟨b,hb⟩:Fin md.n.toNat):=by
 induction hr with
 |one hs=>exact fun ha=>⟨(Mr h _ _ _ hs.1).2,.one ((Hf h hg hc ⟨_,ha⟩ ⟨_,(Mr h _ _ _ hs.1).2⟩).1 hs)⟩
 |cons hs _ ih =>
  intro ha;obtain⟨hb,kY⟩:=ih (Mr h _ _ _ hs.1).2;exact⟨hb,.cons ((Hf h hg hc ⟨_,ha⟩ ⟨_,(Mr h _ _ _ hs.1).2⟩).1 hs) kY⟩
theorem Qwv {md:Md}(h:Qa md=0) {g:Int} {c:Nat} {t:Tr}(hg:g.toNat < 2^md.rel.length)(hc:Fd md c t) {a b:Fin md.n.toNat}(hr:Vi ((Gv md).step g ((Gv md).sat t)) a b):
 Vi (Bs ((List.range md.n.toNat).map (Jw md.rel g.toNat false md.n.toNat)) c) a.1 b.1:=by
 induction hr with
 |one hs=>exact .one ((Hf h hg hc _ _).2 hs)
 |cons hs _ ih=>exact .cons ((Hf h hg hc _ _).2 hs) ih
theorem Qt1 {md:Md}(h:Qa md=0) {n:Nd} {c s:Nat} {t1 t2:Tr}(hg:n.g.toNat < 2^md.rel.length)(hc:Fd md c t1)(hs:Fd md s t2)(h9:n.op=13):
 Fd md (Xb ((List.range md.n.toNat).map (Jw md.rel n.g.toNat false md.n.toNat)) md.n.toNat c s) (.two n t1 t2):=by
 intro w;unfold Xb;rw [Ri,Bool.and_eq_true,decide_eq_true_iff,Yy];show _↔(if n.op=5 then _ else if n.op=6 then _ else if n.op=7 then _ else if n.op=8 then _ else if n.op=13 then _ else _);rw [if_neg (by omega),if_neg (by omega),if_neg (by omega),if_neg (by omega),if_pos h9];constructor
 ·rintro⟨_,hb⟩ v hv;exact(hs v).1 (hb v.1 ((Qjb (Mr h _)).2 (Qwv h hg hc hv)))
 intro hf;refine⟨w.2,fun v hv=> ?_⟩;obtain⟨nF,hr⟩:=Zjo h hg hc ((Qjb (Mr h _)).1 hv) w.2;exact(hs ⟨v,nF⟩).2 (hf ⟨v,nF⟩ hr)
theorem Zq3 {md:Md} {n:Nd}(h:n.op=1)(x y:Nat):Fd md (Gk n.op x y (Zn md.n.toNat)) (.leaf n):=by
 intro w;show _↔(n.op=1\/_);unfold Gk;rw [if_pos h,Kb];exact⟨fun _=>Or.inl h,fun _=>decide_eq_true w.2⟩
theorem Qo1 {md:Md} {n:Nd}(h:n.op=2)(x y:Nat):Fd md (Gk n.op x y (Zn md.n.toNat)) (.leaf n):=by
 intro w;show _↔(n.op=1\/(n.op=3/\_));rw [h];show(Gk 2 x y (Zn md.n.toNat)).testBit w.1=true↔_;rw [show Gk 2 x y (Zn md.n.toNat)=0 from rfl,Nat.zero_testBit];simp
theorem Qao {md:Md} {n:Nd}(h:n.op=3):Fd md (md.val.getD n.i.toNat 0) (.leaf n):=by
 intro w;show _↔(n.op=1\/(n.op=3/\(md.val.getD n.i.toNat 0).testBit w.1=true));rw [h];simp
theorem Zqq {md:Md} {n:Nd} {x y:Nat} {t:Tr}(h:n.op=4)(hx:Fd md x t):Fd md (Gk n.op x y (Zn md.n.toNat)) (.one n t):=by
 intro w;show _↔(if n.op=4 then ¬(Gv md).sat t w else _);rw [if_pos h,<-hx w,h];show(Jk (Zn md.n.toNat) x).testBit w.1=true↔_;rw [Gd,Kb,decide_eq_true w.2];simp
theorem Qyp {md:Md} {n:Nd} {x y:Nat} {t1 t2:Tr}(h:n.op=5\/n.op=6\/n.op=7\/n.op=8)(hx:Fd md x t1)(hy:Fd md y t2):Fd md (Gk n.op x y (Zn md.n.toNat)) (.two n t1 t2):=by
 intro w;have h1:=hx w;have h2:=hy w;show _↔(if n.op=5 then(Gv md).sat t1 w/\(Gv md).sat t2 w else if n.op=6 then(Gv md).sat t1 w\/(Gv md).sat t2 w else if n.op=7 then(Gv md).sat t1 w->(Gv md).sat t2 w else if n.op=8 then((Gv md).sat t1 w↔(Gv md).sat t2 w)else _);rw [<-h1,<-h2];rcases h with h|h|h|h <;> rw [h]
 ·show(x&&&y).testBit w.1=true↔_;rw [Nat.testBit_and];cases x.testBit w.1 <;> cases y.testBit w.1 <;> simp
 ·show(x|||y).testBit w.1=true↔_;rw [Nat.testBit_or];cases x.testBit w.1 <;> cases y.testBit w.1 <;> simp
 ·show(Jk (Zn md.n.toNat) x|||y).testBit w.1=true↔_;rw [Nat.testBit_or,Gd,Kb,decide_eq_true w.2];cases x.testBit w.1 <;> cases y.testBit w.1 <;> simp
 show(Jk (Zn md.n.toNat) (x^^^y)).testBit w.1=true↔_;rw [Gd,Kb,decide_eq_true w.2,Nat.testBit_xor];cases x.testBit w.1 <;> cases y.testBit w.1 <;> simp
theorem Qfq(rl:List (List Nat))(gn i v:Nat):∀(k s:Nat),(((List.range k).foldl (Fx rl gn true i) s).testBit v=true↔s.testBit v=true/\∀a,a < k->gn.testBit a=true->((rl.getD a []).getD i 0).testBit v=true)
 |0,s=>by simp
 |k+1,s=>by
  rw [Ve];have ih:=Qfq rl gn i v k s;obtain⟨t,ht⟩:∃t,t=(List.range k).foldl (Fx rl gn true i) s:=⟨_,rfl⟩;rw [<-ht]at ih⊢;unfold Fx;cases hg:gn.testBit k
  ·rw [if_neg (by simp),ih];refine and_congr Iff.rfl ⟨fun h a h1 h2=> ?_,fun h a h1 h2=>h a (by omega) h2⟩;by_cases e:a=k
   ·rw [e,hg]at h2;cases h2
   exact h a (by omega) h2
  rw [if_pos rfl,if_pos rfl,Nat.testBit_and,Bool.and_eq_true,ih];constructor
  ·rintro⟨⟨h1,h2⟩,h3⟩;refine⟨h1,fun a ha hb=> ?_⟩;by_cases e:a=k
   ·rw [e];exact h3
   exact h2 a (by omega) hb
  rintro⟨h1,h2⟩;exact⟨⟨h1,fun a ha hb=>h2 a (by omega) hb⟩,h2 k (by omega) hg⟩
theorem Qd1(rl:List (List Nat))(gn n i v:Nat):(Jw rl gn true n i).testBit v=true↔v < n/\∀a,a < rl.length->gn.testBit a=true->((rl.getD a []).getD i 0).testBit v=true:=by
 unfold Jw;rw [Qfq,if_pos rfl,Kb,decide_eq_true_iff]
theorem Qam {md:Md}(h:Qa md=0) {n:Nd} {s:Nat} {t:Tr}(hg:n.g.toNat < 2^md.rel.length)(hs:Fd md s t)(h9:n.op=12):
 Fd md (Vg ((List.range md.n.toNat).map (Jw md.rel n.g.toNat true md.n.toNat)) md.n.toNat s) (.one n t):=by
 intro w;rw [Tw];show _↔(if n.op=4 then _ else if n.op=9 then _ else if n.op=10 then _ else if n.op=11 then _ else if n.op=12 then _ else _);rw [if_neg (by omega),if_neg (by omega),if_neg (by omega),if_neg (by omega),if_pos h9,Qyy _ _ _ _ _ w.2];have h4:=(Zb h).2.2.1;constructor
 ·rintro⟨_,hb⟩ v hv;exact(hs v).1 (hb v.1 ((Qd1 ..).2 ⟨v.2,fun a ha cE=>(kmR ha w v).1 (hv a (by omega) cE)⟩))
 intro hf;refine⟨w.2,fun v hv=> ?_⟩;obtain⟨nF,hv⟩:=(Qd1 ..).1 hv;exact(hs ⟨v,nF⟩).2 (hf ⟨v,nF⟩ fun i _ gL=>(kmR (Lq hg gL) w ⟨v,nF⟩).2 (hv i (Lq hg gL) gL))
theorem Qfj {md:Md}(h:Qa md=0) {n:Nd} {x y:Nat} {a b:Tr}(hf:Qkt md n)(hx:Qi n.op=true->Fd md x a)(hy:Qe n.op=true->Fd md y b):
 Fd md (Uo md n x y) (Yh n a b):=by
 have ho:1<=n.op:=by
  have:=hf.head.1;unfold Yr at this;simp at this;omega
 have xL:=hf.op;obtain⟨op,i,e,g,p,q⟩:=n;have hc:op=1\/op=2\/op=3\/op=4\/(op=5\/op=6\/op=7\/op=8)\/op=9\/op=10\/op=11\/op=12\/op=13:=by
  simp at ho xL;omega
 rcases hc with rfl|rfl|rfl|rfl|hc|rfl|rfl|rfl|rfl|rfl
 ·exact Zq3 (n:=⟨1,i,e,g,p,q⟩) rfl x y
 ·exact Qo1 (n:=⟨2,i,e,g,p,q⟩) rfl x y
 ·exact Qao (n:=⟨3,i,e,g,p,q⟩) rfl
 ·exact Zqq (n:=Nd.head ⟨4,i,e,g,p,q⟩) (y:=y) rfl (hx rfl)
 ·rcases hc with rfl|rfl|rfl|rfl
  ·exact Qyp (n:=Nd.head ⟨5,i,e,g,p,q⟩) (Or.inl rfl) (hx rfl) (hy rfl)
  ·exact Qyp (n:=Nd.head ⟨6,i,e,g,p,q⟩) (Or.inr (Or.inl rfl)) (hx rfl) (hy rfl)
  ·exact Qyp (n:=Nd.head ⟨7,i,e,g,p,q⟩) (Or.inr (Or.inr (Or.inl rfl))) (hx rfl) (hy rfl)
  exact Qyp (n:=Nd.head ⟨8,i,e,g,p,q⟩) (Or.inr (Or.inr (Or.inr rfl))) (hx rfl) (hy rfl)
 ·exact Qo2 h (n:=Nd.head ⟨9,i,e,g,p,q⟩) ⟨(Ki hf.head rfl).1,hf.agent (Or.inl rfl)⟩ (hx rfl) rfl
 ·exact Qik h (n:=Nd.head ⟨10,i,e,g,p,q⟩) ⟨(Ki hf.head rfl).1,hf.agent (Or.inr rfl)⟩ (hx rfl) rfl
 ·exact Qih h (n:=Nd.head ⟨11,i,e,g,p,q⟩) (hf.group (show(11:Int)<=11 by decide)).2 (hx rfl) rfl
 ·exact Qam h (n:=Nd.head ⟨12,i,e,g,p,q⟩) (hf.group (show(11:Int)<=12 by decide)).2 (hx rfl) rfl
 exact Qt1 h (n:=Nd.head ⟨13,i,e,g,p,q⟩) (hf.group (show(11:Int)<=13 by decide)).2 (hx rfl) (hy rfl) rfl
theorem Qq5(md:Md)(f:List Nd):∀(m k:Nat),k < m->(Kc md f m).getD k 0=Ef md f (Kc md f k) k
 |0,_,h=>absurd h (by omega)
 |m+1,k,h=>by
  show(Kc md f m++ [Ef md f (Kc md f m) m]).getD k 0=_;rw [Qk];by_cases e:k=m
  ·subst e;rw [List.getElem?_append_right (by rw [Sx];omega),Sx,Nat.sub_self];rfl
  rw [List.getElem?_append_left (by rw [Sx];omega),<-Qk];exact Qq5 md f m k (by omega)
def okP(n:Nd)(fi:List Bool):Bool :=
 (!decide (4<=n.op)||fi.getD n.x.toNat false)&&(!((decide (5<=n.op)&&decide (n.op<=8))||n.op==13)||fi.getD n.y.toNat false)
def Lm(md:Md)(f:List Nd)(out:List Nat)(fi:List Bool)(k:Nat):Nat×Bool :=
 if okP (f.getD k Nd.zero) fi=true then(Vj md (f.getD k Nd.zero) (out.getD (f.getD k Nd.zero).x.toNat 0) (out.getD (f.getD k Nd.zero).y.toNat 0),Jy md (f.getD k Nd.zero))else(0,false)
def Jg(md:Md)(f:List Nd):Nat->List Nat×List Bool
 |0=>([],[])
 |k+1=>((Jg md f k).1++ [(Lm md f (Jg md f k).1 (Jg md f k).2 k).1],(Jg md f k).2++ [(Lm md f (Jg md f k).1 (Jg md f k).2 k).2])
theorem Fq(md:Md)(f:List Nd):∀k,(Jg md f k).1.length=k/\(Jg md f k).2.length=k
 |0=>⟨rfl,rfl⟩
 |k+1=>by
  obtain⟨h1,h2⟩:=Fq md f k;unfold Jg;exact⟨by simp [h1],by simp [h2]⟩
theorem Sg(md:Md)(f:List Nd):∀(m k:Nat),k < m->(Jg md f m).1.getD k 0=(Lm md f (Jg md f k).1 (Jg md f k).2 k).1/\(Jg md f m).2.getD k false=(Lm md f (Jg md f k).1 (Jg md f k).2 k).2
 |0,k,h=>absurd h (Nat.not_lt_zero _)
 |m+1,k,h=>by
  obtain⟨h1,h2⟩:=Fq md f m;by_cases hk:k < m
  ·have:=Sg md f m k hk;rw [<-this.1,<-this.2];constructor
   ·show((Jg md f m).1++_).getD k 0=_;rw [Qk,Qk,List.getElem?_append_left (by omega)]
   show((Jg md f m).2++_).getD k false=_;rw [Qk,Qk,List.getElem?_append_left (by omega)]
  obtain rfl:k=m:=by omega
  constructor
  ·show((Jg md f k).1++_).getD k 0=_;rw [Qk,List.getElem?_append_right (by omega),h1,Nat.sub_self];rfl
  show((Jg md f k).2++_).getD k false=_;rw [Qk,List.getElem?_append_right (by omega),h2,Nat.sub_self];rfl
theorem Qa1 {md:Md} {n:Nd}(hh:Za n)(h:Jy md n=true)(hg:11<=n.op->n.op<=13->1<=n.g):Qkt md n:=by
 have zK:=(Dc n.op).1 hh.1;unfold Jy at h;refine⟨hh,?_,fun ho=> ?_,fun ho=> ?_,fun ho=> ?_⟩
 ·by_cases h3:n.op=3
  ·omega
  rw [if_neg h3]at h;by_cases h8:n.op<=8
  ·omega
  rw [if_neg h8]at h;by_cases xW:n.op<=10
  ·omega
  rw [if_neg xW]at h;by_cases xL:n.op<=13
  ·exact xL
  rw [if_neg xL]at h;cases h
 ·rw [if_pos ho]at h;exact of_decide_eq_true h
 ·rw [if_neg (by omega),if_neg (by omega),if_pos (by omega)]at h;exact of_decide_eq_true h
 rw [if_neg (by omega),if_neg (by omega),if_neg (by omega)]at h;by_cases xL:n.op<=13
 ·rw [if_pos xL]at h;have h2:=of_decide_eq_true h;have vK:=hg ho xL;exact⟨vK,by omega⟩
 rw [if_neg xL]at h;cases h
theorem Qve {f:List Nd} {k:Nat} {n:Nd}(h:f[k]?=some n):f.getD k Nd.zero=n:=by rw [Qk,h];rfl
theorem Qvh:∀(l:List Nd) (s i:Nat),(l.foldl (fun s n=>s|||(Vk n.op).toNat) s).testBit i=true->s.testBit i=true\/∃n∈l,(Vk n.op).toNat.testBit i=true
 |[],_,_,h=>Or.inl h
 |a :: l,s,i,h=>by
  rcases Qvh l (s|||(Vk a.op).toNat) i h with h1|⟨n,hn,h2⟩
  ·rw [Nat.testBit_or,Bool.or_eq_true]at h1;rcases h1 with h1|h1
   ·exact Or.inl h1
   exact Or.inr ⟨a,List.mem_cons_self ..,h1⟩
  exact Or.inr ⟨n,List.mem_cons_of_mem _ hn,h2⟩
theorem Qma:∀(l:List Nd) (s i:Nat),(l.foldl Se s).testBit i=true->s.testBit i=true\/∃n∈l,(Zx n.op=true/\i=n.i.toNat)\/n.g.toNat.testBit i=true
 |[],_,_,h=>Or.inl h
 |a :: l,s,i,h=>by
  rcases Qma l (Se s a) i h with h1|⟨n,hn,h2⟩
  ·unfold Se at h1;rw [Nat.testBit_or,Nat.testBit_or,Bool.or_eq_true,Bool.or_eq_true]at h1;rcases h1 with(h1|h1)|h1
   ·exact Or.inl h1
   ·refine Or.inr ⟨a,List.mem_cons_self ..,Or.inl ?_⟩;cases ha:Zx a.op
    ·rw [ha,if_neg (by simp),Nat.zero_testBit]at h1;cases h1
    rw [ha,if_pos rfl,Nat.testBit_two_pow,decide_eq_true_iff]at h1;exact⟨rfl,h1.symm⟩
   exact Or.inr ⟨a,List.mem_cons_self ..,Or.inr h1⟩
  exact Or.inr ⟨n,List.mem_cons_of_mem _ hn,h2⟩
theorem Qpn:∀(l:List Nd) (s i:Nat),(l.foldl So s).testBit i=true->s.testBit i=true\/∃n∈l,n.op=3/\i=n.i.toNat
 |[],_,_,h=>Or.inl h
 |a :: l,s,i,h=>by
  rcases Qpn l (So s a) i h with h1|⟨n,hn,h2⟩
  ·unfold So at h1;by_cases ho:a.op=3
   ·rw [if_pos ho,Nat.testBit_or,Bool.or_eq_true,Nat.testBit_two_pow,decide_eq_true_iff]at h1;rcases h1 with h1|h1
    ·exact Or.inl h1
    exact Or.inr ⟨a,List.mem_cons_self ..,ho,h1.symm⟩
   rw [if_neg ho]at h1;exact Or.inl h1
  exact Or.inr ⟨n,List.mem_cons_of_mem _ hn,h2⟩
theorem Ql7 {c:List Nd}(hc:check c=0) {k:Nat}(hk:k < c.length):∀n∈Qr (tr c k),∃m∈c,m.head=n.head:=by
 have hP:∀(n:Nd) (k1 k2:Nat),(∃m∈c,m.head=n.head)->∃m∈c,m.head=(n.with_ k1 k2).head:=fun n k1 k2 ⟨m,hm,h⟩=>⟨m,hm,by rw [Qje];exact h⟩
 exact Ly (P:=fun n=>∃m∈c,m.head=n.head) hP (tr c k) [] (Ed (P:=fun n=>∃m∈c,m.head=n.head) hP (Yb hc) (fun n hn=>⟨n,hn,rfl⟩) k hk) (fun n hn=>by cases hn)
theorem Qvp {md:Md} {c:List Nd}(hc:check c=0)(wU:Qf c=c)(hs:Jr (Js c) 15=true)(hf:Yd c md.rel.length md.val.length=true) {k:Nat}(hk:k < c.length):Ce md c (k:Int)=true:=by
 have hg:=(Qfe hc hk).2.1;have lW:(tr c k).ok:=Qbt (Yb hc) k hk;have cG:Qf (Jn c (k:Int))=Qr (tr c k):=by
  rw [Ug hg,Sf hc hk,Ks lW]
 have hh:=Ql7 hc hk;unfold Yd at hf;rw [Bool.and_eq_true,Bool.and_eq_true,List.all_eq_true,List.all_eq_true,wU]at hf;unfold Ce;rw [Bool.and_eq_true];refine⟨?_,?_⟩
 ·rw [Yy]at hs⊢;intro i hi;unfold Js Kz at hi;rw [cG]at hi;rcases Qvh _ _ _ hi with h|⟨n,hn,h⟩
  ·rw [Nat.zero_testBit]at h;cases h
  obtain⟨m,hm,e⟩:=hh n hn;refine hs i ?_;unfold Js Kz;rw [wU];exact(Qqx c 0).2 m hm i (by rw [(Ts e).1];exact h)
 unfold Yd;rw [Bool.and_eq_true,Bool.and_eq_true,List.all_eq_true,List.all_eq_true,cG];refine⟨by rw [hg];rfl,fun i hi=> ?_,fun i hi=> ?_⟩
 ·have h1:=hf.2.1 i hi;unfold Xv at h1⊢;rw [Bool.or_eq_true]at h1⊢;rcases h1 with h1|h1
  ·refine Or.inl ?_;cases hb:(Jd (Qr (tr c k))).testBit i
   ·rfl
   exfalso
   rcases Qma _ _ _ hb with h|⟨n,hn,h⟩
   ·rw [Nat.zero_testBit]at h;cases h
   obtain⟨m,hm,e⟩:=hh n hn;have:=(Qkc c 0).2 m hm i (by rw [(Ts e).1,(Ts e).2.1,(Ts e).2.2];exact h);unfold Jd at h1;rw [this]at h1;cases h1
  exact Or.inr h1
 have h1:=hf.2.2 i hi;unfold Xv at h1⊢;rw [Bool.or_eq_true]at h1⊢;rcases h1 with h1|h1
 ·refine Or.inl ?_;cases hb:(Je (Qr (tr c k))).testBit i
  ·rfl
  exfalso
  rcases Qpn _ _ _ hb with h|⟨n,hn,h⟩
  ·rw [Nat.zero_testBit]at h;cases h
  obtain⟨m,hm,e⟩:=hh n hn;have:=(Qk3 c 0).2 m hm i (by rw [(Ts e).1,(Ts e).2.1];exact h);unfold Je at h1;rw [this]at h1;cases h1
 exact Or.inr h1
def Bm(md:Md):Tr->Bool
 |.leaf n=>Jy md n
 |.one n a=>Jy md n&&Bm md a
 |.two n a b=>Jy md n&&(Bm md a&&Bm md b)
theorem Qk6(md:Md)(n:Nd):Jy md n.head=Jy md n:=rfl
theorem Qa0(md:Md)(n:Nd)(a b:Tr):Bm md (Yh n a b)=(Jy md n&&((!Qi n.op||Bm md a)&&(!Qe n.op||Bm md b))):=by
 unfold Yh;cases hy:Qe n.op
 ·cases hx:Qi n.op
  ·simp [Bm]
  simp [Bm,Qk6]
 have hx:Qi n.op=true:=Vf hy;simp [Bm,Qk6,hx]
theorem Qdd {md:Md} {n:Nd}(h:Jy md n=true):n.op<=13:=by
 unfold Jy at h;by_cases h3:n.op=3
 ·omega
 rw [if_neg h3]at h;by_cases h8:n.op<=8
 ·omega
 rw [if_neg h8]at h;by_cases xW:n.op<=10
 ·omega
 rw [if_neg xW]at h;by_cases xL:n.op<=13
 ·exact xL
 rw [if_neg xL]at h;cases h
theorem Qpa {md:Md} {f:List Nd}(hc:check f=0):∀k,k < f.length->(Lm md f (Jg md f k).1 (Jg md f k).2 k).2=Bm md (tr f k):=by
 intro k
 induction k using Nat.strongRecOn with
 |_ k ih =>
  intro hk;obtain⟨n,hn⟩:∃n,f[k]?=some n:=⟨_,Qv hk⟩;obtain⟨hx,hy⟩:=Yb hc k n hn;rw [Xg (Yb hc) hn,Qa0];unfold Lm;rw [Qve hn];cases hf:Jy md n
  ·rw [Bool.false_and]
   split
   ·rfl
   rfl
  have xL:=Qdd hf;have e:okP n (Jg md f k).2=((!Qi n.op||Bm md (tr f n.x.toNat))&&(!Qe n.op||Bm md (tr f n.y.toNat))):=by
   unfold okP
   congr 1
   ·have e1:decide (4<=n.op)=Qi n.op:=by unfold Qi;rw [decide_eq_true (show n.op<=21 by omega),Bool.and_true]
    rw [e1];cases h:Qi n.op
    ·rfl
    have hb:=hx h;rw [(Sg md f k _ (by omega)).2,ih _ (by omega) (by omega)]
   have e1:((decide (5<=n.op)&&decide (n.op<=8))||n.op==13)=Qe n.op:=by
    unfold Qe;rw [show(n.op==14)=false by simp;omega,show(n.op==16)=false by simp;omega,show(n.op==19)=false by simp;omega,show(n.op==21)=false by simp;omega];simp
   rw [e1];cases h:Qe n.op
   ·rfl
   have hb:=hy h;rw [(Sg md f k _ (by omega)).2,ih _ (by omega) (by omega)]
  rw [<-e,Bool.true_and];cases ho:okP n (Jg md f k).2
  ·rfl
  rfl
theorem Qa3 {md:Md} {n:Nd}(h:Qkt md n):Jy md n=true:=by
 unfold Jy;by_cases h3:n.op=3
 ·rw [if_pos h3];exact decide_eq_true (h.fact h3)
 rw [if_neg h3];by_cases h8:n.op<=8
 ·rw [if_pos h8]
 rw [if_neg h8];by_cases xW:n.op<=10
 ·rw [if_pos xW];exact decide_eq_true (h.agent (by omega))
 rw [if_neg xW,if_pos h.op];have:=h.group (by omega);exact decide_eq_true (by omega)
theorem Wy {md:Md} :∀{t:Tr},t.all (fun n=>Jy md n=true)->Bm md t=true
 |.leaf n,h=>h
 |.one n a,h=>by unfold Bm;rw [h.1,Wy h.2];rfl
 |.two n a b,h=>by unfold Bm;rw [h.1,Wy h.2.1,Wy h.2.2];rfl
theorem Qad {md:Md} {f:List Nd}(h:Jq md f=0):Bm md (Qh f)=true:=by
 obtain⟨zU,hc,hs,hf⟩:=Vb h;have h2:=Uf hc;have wU:=Gj hc;have yD:Jr (Js (Qf f)) 15=true:=by unfold Js at hs⊢;rw [h2];exact hs
 have rI:Yd (Qf f) md.rel.length md.val.length=true:=by
  unfold Yd at hf⊢;rw [h2,wU];rw [hc]at hf;exact hf
 rw [<-Xz hc];refine Wy (Ed (P:=fun n=>Jy md n=true) (fun n k1 k2 h=>h) (Yb wU) (fun n hn=> ?_) _ (by have:=(Jf wU).1;omega));obtain⟨k,hk⟩:=List.mem_iff_getElem?.1 hn;have xD:=(List.getElem?_eq_some_iff.1 hk).1;exact Qa3 (Qk7 wU hk (Qvp wU h2 yD rI xD) (Zb zU).2.2.1)
def Rz(md:Md)(f:List Nd):Nat:=(Jg md f f.length).1.getD (f.length - 1) 0
end Go.Proofs.YtkmclcmnoicagaaGreatDoor
