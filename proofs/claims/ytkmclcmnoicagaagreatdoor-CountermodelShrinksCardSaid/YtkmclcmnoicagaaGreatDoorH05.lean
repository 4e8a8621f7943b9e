/- Bits of words, as a walk shows them. -/
import Derived.Test.YtkmclcmnoicagaaGreatDoorH04
import Derived.Laws.Bits64b
import Derived.Deep.RegionLaw
import Derived.OrdersHeld
import Derived.Deep.RegionHeld
import Derived.Deep.MidRow
namespace Go.Proofs.YtkmclcmnoicagaaGreatDoor
set_option maxRecDepth 100000
set_option maxHeartbeats 128000000
open Go.RowKit
theorem Ty(s k:Nat):s.testBit k=(s / 2^k % 2==1):=by
 rw [Nat.testBit_eq_decide_div_mod_eq];rfl
theorem Ld(s k:Nat):(s:Int) / 2^k=((s / 2^k:Nat):Int):=by
 rw [show((2:Int)^k)=((2^k:Nat):Int) by simp];rfl
theorem Bc(s k:Nat)(hs:s < 18446744073709551616):(bits .and .u64 ((s:Int) / 2^k) 1==1)=s.testBit k:=by
 have zJ:s / 2^k < 18446744073709551616:=Nat.lt_of_le_of_lt (Nat.div_le_self _ _) hs;rw [Ld,show(1:Int)=((1:Nat):Int)from rfl,bits_and_u64_nat _ 1 zJ (by decide),Nat.and_one_is_mod,Ty];generalize s / 2^k % 2=r;rw [Bool.eq_iff_iff,beq_iff_eq,beq_iff_eq];omega
theorem Pn(a b:Nat)(ha:a < 9223372036854775808)(hb:b < 9223372036854775808):bits .and .i64 (a:Int) (b:Int)=((a&&&b:Nat):Int):=by
 have hx:a&&&b < 2^63:=Nat.and_lt_two_pow _ (by omega);show IntKind.i64.wrap ((BitVec.ofInt 64 (a:Int)&&&BitVec.ofInt 64 (b:Int)).toNat:Int)=_;rw [BitVec.toNat_and,Wo a ha,Wo b hb,IntKind.wrap_i64];omega
theorem Co(s k:Nat)(hs:s < 9223372036854775808):(bits .and .i64 ((s:Int) / 2^k) 1==1)=s.testBit k:=by
 have zJ:s / 2^k < 9223372036854775808:=Nat.lt_of_le_of_lt (Nat.div_le_self _ _) hs;rw [Ld,show(1:Int)=((1:Nat):Int)from rfl,Pn _ 1 zJ (by decide),Nat.and_one_is_mod,Ty];generalize s / 2^k % 2=r;rw [Bool.eq_iff_iff,beq_iff_eq,beq_iff_eq];omega
theorem Ip(s k:Nat)(hs:s < 9223372036854775808):(bits .and .i64 ((s:Int) / 2^k) 1==0)= !s.testBit k:=by
 have zJ:s / 2^k < 9223372036854775808:=Nat.lt_of_le_of_lt (Nat.div_le_self _ _) hs;rw [Ld,show(1:Int)=((1:Nat):Int)from rfl,Pn _ 1 zJ (by decide),Nat.and_one_is_mod,Ty];rcases Nat.mod_two_eq_zero_or_one (s / 2^k)with h|h <;> rw [h] <;> rfl
inductive Tr where
 |leaf (n:Nd)
 |one (n:Nd) (a:Tr)
 |two (n:Nd) (a b:Tr)
def Nd.head(n:Nd):Nd:=n.with_ 0 0
def Tr.ok:Tr->Prop
 |.leaf n=>Zq n.op=false/\Qw n.op=false
 |.one n a=>Zq n.op=true/\Qw n.op=false/\n.head=n/\a.ok
 |.two n a b=>Zq n.op=true/\Qw n.op=true/\n.head=n/\a.ok/\b.ok
def Tr.size:Tr->Nat
 |.leaf _=>1
 |.one _ a=>a.size+1
 |.two _ a b=>a.size+b.size+1
def Tr.top:Tr->Nd
 |.leaf n=>n
 |.one n _=>n
 |.two n _ _=>n
def trF(f:List Nd):Nat->Nat->Tr
 |0,_=> .leaf Nd.zero
 |k+1,i=>bif Qw (f.getD i Nd.zero).op then .two (f.getD i Nd.zero).head (trF f k (f.getD i Nd.zero).x.toNat) (trF f k (f.getD i Nd.zero).y.toNat)
  else bif Zq (f.getD i Nd.zero).op then .one (f.getD i Nd.zero).head (trF f k (f.getD i Nd.zero).x.toNat)else .leaf (f.getD i Nd.zero)
def tr(f:List Nd)(i:Nat):Tr:=trF f (i+1) i
def Qh(f:List Nd):Tr:=tr f (f.length - 1)
def Vy(n:Nd)(a b:Tr):Tr:=bif Qw n.op then .two n.head a b else bif Zq n.op then .one n.head a else .leaf n
theorem Qka {f:List Nd}(hf:Wf f):∀(k i:Nat),i < k->i < f.length->trF f k i=tr f i:=by
 intro k
 induction k using Nat.strongRecOn with
 |_ k ih =>
  intro i h hi;cases k with
  |zero=>omega
  |succ k =>
   obtain⟨n,hn⟩:∃n,f[i]?=some n:=⟨_,Qv hi⟩;obtain⟨hx,hy⟩:=hf i n hn;have e:∀(b:Nat),b < i->trF f k b=trF f i b:=fun b hb=>by
    rw [ih k (by omega) b (by omega) (by omega)];by_cases hik:i=k
    ·subst hik;exact(ih i (by omega) b hb (by omega)).symm
    exact(ih i (by omega) b hb (by omega)).symm
   unfold tr;simp only [trF,Aj hn];cases h2:Qw n.op
   ·cases h1:Zq n.op
    ·rfl
    have:=hx h1;simp only [cond_true,cond_false];rw [e _ (by omega)]
   have h1:=Vl h2;have:=hx h1;have:=hy h2;simp only [cond_true];rw [e _ (by omega),e _ (by omega)]
theorem Xd {f:List Nd}(hf:Wf f) {i:Nat} {n:Nd}(hn:f[i]?=some n):tr f i=Vy n (tr f n.x.toNat) (tr f n.y.toNat):=by
 have hi:i < f.length:=(List.getElem?_eq_some_iff.1 hn).1;obtain⟨hx,hy⟩:=hf i n hn
 conv=>lhs;unfold tr trF
 simp only [Aj hn,Vy];cases h2:Qw n.op
 ·cases h1:Zq n.op
  ·rfl
  have:=hx h1;simp only [cond_true,cond_false];rw [Qka hf _ _ (by omega) (by omega)]
 have h1:=Vl h2;have:=hx h1;have:=hy h2;simp only [cond_true];rw [Qka hf _ _ (by omega) (by omega),Qka hf _ _ (by omega) (by omega)]
theorem Qmf {n:Nd} {a a' b b':Tr}(hx:Zq n.op=true->a=a')(hy:Qw n.op=true->b=b'):Vy n a b=Vy n a' b':=by
 unfold Vy;cases h2:Qw n.op
 ·cases h1:Zq n.op
  ·rfl
  rw [hx h1];rfl
 rw [hx (Vl h2),hy h2]
theorem Bb {f g:List Nd}(hf:Wf f)(hg:Wf g)(hp:f <+: g):∀i,i < f.length->tr g i=tr f i:=by
 intro i
 induction i using Nat.strongRecOn with
 |_ i ih =>
  intro hi;obtain⟨n,hn⟩:∃n,f[i]?=some n:=⟨_,Qv hi⟩;obtain⟨hx,hy⟩:=hf i n hn;have QD:g[i]?=some n:=by
   obtain⟨t,rfl⟩:=hp;rw [List.getElem?_append_left hi];exact hn
  rw [Xd hf hn,Xd hg QD];exact Qmf (fun h=>by have:=hx h;exact ih _ (by omega) (by omega)) (fun h=>by have:=hy h;exact ih _ (by omega) (by omega))
theorem Lz(n:Nd):n.head.head=n.head:=by
 unfold Nd.head Nd.with_;cases Zq n.op <;> cases Qw n.op <;> rfl
theorem Qyq(n:Nd)(a b:Nat):(n.with_ a b).head=n.head:=by
 unfold Nd.head Nd.with_;cases Zq n.op <;> cases Qw n.op <;> rfl
theorem Qjg(n:Nd)(a b:Nat):n.head.with_ a b=n.with_ a b:=by
 unfold Nd.head Nd.with_;cases Zq n.op <;> cases Qw n.op <;> rfl
theorem Qg6(n:Nd)(a b:Nat):(n.with_ a b).op=n.op:=rfl
theorem Ng(n:Nd):n.head.op=n.op:=rfl
theorem Zqo {n:Nd} {a b:Tr}(ha:Zq n.op=true->a.ok)(hb:Qw n.op=true->b.ok):(Vy n a b).ok:=by
 unfold Vy;cases h2:Qw n.op
 ·cases h1:Zq n.op
  ·exact⟨h1,h2⟩
  exact⟨h1,h2,Lz n,ha h1⟩
 have h1:=Vl h2;exact⟨h1,h2,Lz n,ha h1,hb h2⟩
theorem Qb7 {f:List Nd}(hf:Wf f):∀i,i < f.length->(tr f i).ok:=by
 intro i
 induction i using Nat.strongRecOn with
 |_ i ih =>
  intro hi;obtain⟨n,hn⟩:∃n,f[i]?=some n:=⟨_,Qv hi⟩;obtain⟨hx,hy⟩:=hf i n hn;rw [Xd hf hn];exact Zqo (fun h=>by have:=hx h;exact ih _ (by omega) (by omega)) (fun h=>by have:=hy h;exact ih _ (by omega) (by omega))
def Yo:Tr->List Nd->List Nd×Nat
 |.leaf n,o=>(Jq o n,o.idxOf n)
 |.one n a,o=>(Jq (Yo a o).1 (n.with_ (Yo a o).2 0),(Yo a o).1.idxOf (n.with_ (Yo a o).2 0))
 |.two n a b,o=>(Jq (Yo b (Yo a o).1).1 (n.with_ (Yo a o).2 (Yo b (Yo a o).1).2),(Yo b (Yo a o).1).1.idxOf (n.with_ (Yo a o).2 (Yo b (Yo a o).1).2))
def Qs(t:Tr):List Nd:=(Yo t []).1
theorem Qbb {n:Nd}(h1:Zq n.op=false)(h2:Qw n.op=false)(a b:Nat):n.with_ a b=n:=by
 unfold Nd.with_;rw [h1,h2];rfl
theorem Qo1 {n:Nd}(h2:Qw n.op=false)(a b c:Nat):n.with_ a b=n.with_ a c:=by
 unfold Nd.with_;rw [h2];rfl
theorem Mr {f:List Nd}(hf:Wf f):∀(i:Nat) (o:List Nd),i < f.length->Zw f i o=Yo (tr f i) o:=by
 intro i
 induction i using Nat.strongRecOn with
 |_ i ih =>
  intro o hi;obtain⟨n,hn⟩:∃n,f[i]?=some n:=⟨_,Qv hi⟩;obtain⟨hx,hy⟩:=hf i n hn;rw [Fh hf hn,Xd hf hn];unfold Vy Yf Vh;cases h2:Qw n.op
  ·cases h1:Zq n.op
   ·simp only [cond_false,Yo,Bool.false_eq_true,if_false,Qbb h1 h2]
   have:=hx h1;simp only [cond_false,cond_true,Yo,Bool.false_eq_true,if_false,if_true,Qjg];rw [ih _ (by omega) _ (by omega),Qo1 h2 _ _ 0]
  have h1:=Vl h2;have:=hx h1;have:=hy h2;simp only [h1,cond_true,Yo,if_true,Qjg];rw [ih n.x.toNat (by omega) o (by omega),ih n.y.toNat (by omega) _ (by omega)]
theorem Qg5 {o:List Nd} {m:Nd}(ho:Wf o)(hx:Zq m.op=true->0<=m.x/\m.x < o.length)(hy:Qw m.op=true->0<=m.y/\m.y < o.length):Wf (Jq o m):=by
 unfold Jq
 split
 ·exact ho
 exact Ey ho hx hy
theorem Qvh(o:List Nd)(m:Nd):(Jq o m)[o.idxOf m]?=some m:=by
 rw [<-Qqa];rw [List.getElem?_eq_getElem (List.idxOf_lt_length_of_mem (Qkb o m))];rw [List.getElem_idxOf]
structure Zvd (t:Tr) (o:List Nd):Prop where
 wf:Wf (Yo t o).1
 pre:o <+:(Yo t o).1
 lt:(Yo t o).2 < (Yo t o).1.length
 tree:tr (Yo t o).1 (Yo t o).2=t
theorem Xh:∀(t:Tr) (o:List Nd),t.ok->Wf o->Zvd t o
 |.leaf n,o,⟨h1,h2⟩,ho=>by
  have hw:Wf (Jq o n):=Qg5 ho (fun h=>by rw [h1]at h;cases h) (fun h=>by rw [h2]at h;cases h);refine⟨hw,Xl _ _,Nj _ _,?_⟩;show tr (Jq o n) (o.idxOf n)=_;rw [Xd hw (Qvh o n)];unfold Vy;rw [h1,h2];rfl
 |.one n a,o,⟨h1,h2,h3,ha⟩,ho=>by
  have A:=Xh a o ha ho;have hw:Wf (Jq (Yo a o).1 (n.with_ (Yo a o).2 0)):=Qg5 A.wf (fun h=>by
   have:=A.lt;simp only [Nd.with_,h1,cond_true]
   omega) (fun h=>by rw [Qg6,h2]at h;cases h)
  refine⟨hw,A.pre.trans (Xl _ _),Nj _ _,?_⟩;show tr (Jq (Yo a o).1 (n.with_ (Yo a o).2 0)) ((Yo a o).1.idxOf (n.with_ (Yo a o).2 0))=_;rw [Xd hw (Qvh _ _)];unfold Vy;rw [Qg6,h1,h2,Qyq,h3];have e:(n.with_ (Yo a o).2 0).x.toNat=(Yo a o).2:=by simp [Nd.with_,h1]
  rw [e,Bb A.wf hw (Xl _ _) _ A.lt,A.tree];rfl
 |.two n a b,o,⟨h1,h2,h3,ha,hb⟩,ho=>by
  have A:=Xh a o ha ho;have B:=Xh b _ hb A.wf;have zJ:(Yo a o).2 < (Yo b (Yo a o).1).1.length:=Qy A.lt B.pre.length_le;have hw:Wf (Jq (Yo b (Yo a o).1).1 (n.with_ (Yo a o).2 (Yo b (Yo a o).1).2)):=Qg5 B.wf (fun h=>by
   simp only [Nd.with_,h1,cond_true]
   omega) (fun h=>by
   have:=B.lt;simp only [Nd.with_,h2,cond_true]
   omega)
  refine⟨hw,(A.pre.trans B.pre).trans (Xl _ _),Nj _ _,?_⟩;show tr (Jq (Yo b (Yo a o).1).1 (n.with_ (Yo a o).2 (Yo b (Yo a o).1).2)) ((Yo b (Yo a o).1).1.idxOf (n.with_ (Yo a o).2 (Yo b (Yo a o).1).2))=_;rw [Xd hw (Qvh _ _)];unfold Vy;rw [Qg6,h2,Qyq,h3];have e:(n.with_ (Yo a o).2 (Yo b (Yo a o).1).2).x.toNat=(Yo a o).2:=by simp [Nd.with_,h1]
  have e':(n.with_ (Yo a o).2 (Yo b (Yo a o).1).2).y.toNat=(Yo b (Yo a o).1).2:=by simp [Nd.with_,h2]
  rw [e,e',Bb A.wf hw (B.pre.trans (Xl _ _)) _ A.lt,A.tree,Bb B.wf hw (Xl _ _) _ B.lt,B.tree];rfl
def Below(N:Nat)(o:List Nd):Prop:=∀k,k < o.length->(tr o k).size < N
theorem Qqj {N:Nat} {o:List Nd} {m:Nd}(ho:Wf o)(hw:Wf (Jq o m))(h:Below N o)(hm:(tr (Jq o m) (o.idxOf m)).size < N):Below N (Jq o m):=by
 intro k hk;by_cases hko:k < o.length
 ·rw [Bb ho hw (Xl _ _) _ hko];exact h k hko
 have zQ:m∉o:=fun oJ=>by
  unfold Jq at hk;rw [if_pos oJ]at hk;exact hko hk
 have:k=o.idxOf m:=by
  rw [List.idxOf_eq_length zQ];unfold Jq at hk;rw [if_neg zQ]at hk;simp at hk;omega
 rw [this];exact hm
theorem Lv:∀(t:Tr) (o:List Nd) (N:Nat),t.ok->Wf o->Below N o->t.size < N->Below N (Yo t o).1
 |.leaf n,o,N,ht,ho,hb,hs=>by
  have I:=Xh (.leaf n) o ht ho;exact Qqj ho I.wf hb (Nat.lt_of_le_of_lt (Nat.le_of_eq (congrArg Tr.size I.tree)) hs)
 |.one n a,o,N,ht,ho,hb,hs=>by
  have I:=Xh (.one n a) o ht ho;have A:=Xh a o ht.2.2.2 ho;have WL:a.size+1 < N:=hs;exact Qqj A.wf I.wf (Lv a o N ht.2.2.2 ho hb (by omega)) (Nat.lt_of_le_of_lt (Nat.le_of_eq (congrArg Tr.size I.tree)) hs)
 |.two n a b,o,N,ht,ho,hb,hs=>by
  have I:=Xh (.two n a b) o ht ho;have A:=Xh a o ht.2.2.2.1 ho;have B:=Xh b _ ht.2.2.2.2 A.wf;have WL:a.size+b.size+1 < N:=hs;exact Qqj B.wf I.wf (Lv b _ N ht.2.2.2.2 A.wf (Lv a o N ht.2.2.2.1 ho hb (by omega)) (by omega)) (Nat.lt_of_le_of_lt (Nat.le_of_eq (congrArg Tr.size I.tree)) hs)
theorem Qz2(N:Nat):Below N []:=fun k h=>absurd h (by simp)
theorem Qjr {o:List Nd} {m:Nd} {t:Tr}(hb:Below t.size o)(ht:tr (Jq o m) (o.idxOf m)=t):o.idxOf m+1=(Jq o m).length:=by
 have zQ:m∉o:=fun hm=>by
  have zJ:=List.idxOf_lt_length_of_mem hm;have:=hb _ zJ;have e:Jq o m=o:=by unfold Jq;rw [if_pos hm]
  rw [e]at ht;rw [ht]at this;omega
 rw [List.idxOf_eq_length zQ];unfold Jq;rw [if_neg zQ];simp
theorem Qny(t:Tr)(ht:t.ok):(Yo t []).2+1=(Qs t).length:=by
 have I:=Xh t [] ht Nk;cases t with
 |leaf n=>exact Qjr (Qz2 _) I.tree
 |one n a =>
  have A:=Xh a [] ht.2.2.2 Nk;exact Qjr (t:=.one n a) (Lv a [] _ ht.2.2.2 Nk (Qz2 _) (Nat.lt_succ_self _)) I.tree
 |two n a b =>
  have A:=Xh a [] ht.2.2.2.1 Nk;have B:=Xh b _ ht.2.2.2.2 A.wf;have e:(Tr.two n a b).size=a.size+b.size+1:=rfl;exact Qjr (t:=.two n a b) (Lv b _ _ ht.2.2.2.2 A.wf (Lv a [] _ ht.2.2.2.1 Nk (Qz2 _) (by omega)) (by omega)) I.tree
theorem Qqx {t:Tr}(ht:t.ok):Wf (Qs t):=(Xh t [] ht Nk).wf
theorem Ud {t:Tr}(ht:t.ok):0 < (Qs t).length:=by have:=Qny t ht;omega
theorem Kl {t:Tr}(ht:t.ok):Qh (Qs t)=t:=by
 unfold Qh;have h:=Qny t ht;rw [show(Qs t).length - 1=(Yo t []).2 by omega];exact(Xh t [] ht Nk).tree
theorem Qpm {s t:Tr}(hs:s.ok)(ht:t.ok)(h:Qs s=Qs t):s=t:=by
 rw [<-Kl hs,<-Kl ht,h]
theorem Qat {f:List Nd}(h:check f=0):(Qh f).ok:=Qb7 (Yt h) _ (by have:=(Jf h).1;omega)
theorem Ut {f:List Nd}(h:check f=0):Qf f=Qs (Qh f):=by
 rw [Qvz h,Mr (Yt h) _ _ (by have:=(Jf h).1;omega)];rfl
theorem Sk {f:List Nd}(h:check f=0) {z:Nat}(hz:z < f.length):Js f z=Qs (tr f z):=by
 unfold Js;have e:(decide ((z:Int) < 0)||decide ((f.length:Int)<=(z:Int)))=false:=by simp;omega
 rw [h,e,Int.toNat_natCast,Mr (Yt h) _ _ hz];rfl
theorem Xy {f:List Nd}(h:check f=0):Qh (Qf f)=Qh f:=by
 rw [Ut h,Kl (Qat h)]
theorem Ul {f:List Nd}(h:check f=0):Qf (Qf f)=Qf f:=by
 rw [Ut (Gv h),Xy h,Ut h]
theorem Qop {a b:List Nd}(ha:Wf a)(hb:Wf b):∀k,k < b.length->tr (a++b.map (Ja a.length)) (a.length+k)=tr b k:=by
 intro k
 induction k using Nat.strongRecOn with
 |_ k ih =>
  intro hk;obtain⟨n,hn⟩:∃n,b[k]?=some n:=⟨_,Qv hk⟩;obtain⟨hx,hy⟩:=hb k n hn;have QD:(a++b.map (Ja a.length))[a.length+k]?=some (Ja a.length n):=by
   rw [List.getElem?_append_right (by omega),Nat.add_sub_cancel_left,List.getElem?_map,hn];rfl
  rw [Xd (Qkp ha hb) QD,Xd hb hn];have e0:(Ja a.length n).op=n.op:=rfl;have ehead:(Ja a.length n).head=n.head:=by
   unfold Nd.head Nd.with_ Ja;cases Zq n.op <;> cases Qw n.op <;> rfl
  unfold Vy;rw [e0,ehead];cases h2:Qw n.op
  ·cases h1:Zq n.op
   ·simp only [cond_false]
    congr 1
    unfold Ja;rw [h1,h2];rfl
   have:=hx h1;have e1:(Ja a.length n).x.toNat=a.length+n.x.toNat:=by simp only [Ja,h1,cond_true];omega
   rw [e1,ih _ (by omega) (by omega)];rfl
  have h1:=Vl h2;have:=hx h1;have:=hy h2;have e1:(Ja a.length n).x.toNat=a.length+n.x.toNat:=by simp only [Ja,h1,cond_true];omega
  have e2:(Ja a.length n).y.toNat=a.length+n.y.toNat:=by simp only [Ja,h2,cond_true];omega
  rw [e1,e2,ih n.x.toNat (by omega) (by omega),ih n.y.toNat (by omega) (by omega)];rfl
def Tr.all(P:Nd->Prop):Tr->Prop
 |.leaf n=>P n
 |.one n a=>P n/\a.all P
 |.two n a b=>P n/\a.all P/\b.all P
theorem Ly {P:Nd->Prop}(hP:∀n k1 k2,P n->P (n.with_ k1 k2)):∀(t:Tr) (o:List Nd),t.all P->(∀n∈o,P n)->∀n∈(Yo t o).1,P n
 |.leaf n,o,ht,ho,m,hm=>by
  change m∈Jq o n at hm;unfold Jq at hm
  split at hm
  ·exact ho m hm
  rcases List.mem_append.1 hm with h|h
  ·exact ho m h
  simp at h;subst h;exact ht
 |.one n a,o,ht,ho,m,hm=>by
  change m∈Jq (Yo a o).1 _ at hm;have ha:=Ly hP a o ht.2 ho;unfold Jq at hm
  split at hm
  ·exact ha m hm
  rcases List.mem_append.1 hm with h|h
  ·exact ha m h
  simp at h;subst h;exact hP _ _ _ ht.1
 |.two n a b,o,ht,ho,m,hm=>by
  change m∈Jq (Yo b (Yo a o).1).1 _ at hm;have ha:=Ly hP b _ ht.2.2 (Ly hP a o ht.2.1 ho);unfold Jq at hm
  split at hm
  ·exact ha m hm
  rcases List.mem_append.1 hm with h|h
  ·exact ha m h
  simp at h;subst h;exact hP _ _ _ ht.1
theorem Ei {P:Nd->Prop}(hP:∀n k1 k2,P n->P (n.with_ k1 k2)) {f:List Nd}(hf:Wf f)(hn:∀n∈f,P n):∀i,i < f.length->(tr f i).all P:=by
 intro i
 induction i using Nat.strongRecOn with
 |_ i ih =>
  intro hi;obtain⟨n,CD⟩:∃n,f[i]?=some n:=⟨_,Qv hi⟩;obtain⟨hx,hy⟩:=hf i n CD;have hp:=hn n (List.mem_of_getElem? CD);rw [Xd hf CD];unfold Vy;cases h2:Qw n.op
  ·cases h1:Zq n.op
   ·exact hp
   have:=hx h1;exact⟨hP _ _ _ hp,ih _ (by omega) (by omega)⟩
  have h1:=Vl h2;have:=hx h1;have:=hy h2;exact⟨hP _ _ _ hp,ih _ (by omega) (by omega),ih _ (by omega) (by omega)⟩
theorem Qq9 {t:Tr}(ht:t.ok) {k:Nat}(hk:k < (Qs t).length):(Qs (tr (Qs t) k)).length<=(Qs t).length:=by
 have hw:=Qqx ht;have e:=Mr hw k [] hk;have h1:=Gp (Qs t) (Zw (Qs t) k []).1;have h2:=Qjw hw k [] hk;have h3:=It (Qs t);have:Qs (tr (Qs t) k)=(Zw (Qs t) k []).1:=by rw [e];rfl
 rw [this];omega
theorem Qjs {t:Tr}(ht:t.ok):∃n,(Qs t)[(Qs t).length - 1]?=some n/\t=Vy n (tr (Qs t) n.x.toNat) (tr (Qs t) n.y.toNat)/\(Zq n.op=true->0<=n.x/\n.x < ((Qs t).length - 1:Nat))/\(Qw n.op=true->0<=n.y/\n.y < ((Qs t).length - 1:Nat)):=by
 have hw:=Qqx ht;have hp:=Ud ht;obtain⟨n,hn⟩:∃n,(Qs t)[(Qs t).length - 1]?=some n:=⟨_,List.getElem?_eq_getElem (by omega)⟩;have h1:=Xd hw hn;have h2:tr (Qs t) ((Qs t).length - 1)=t:=Kl ht;rw [h2]at h1;exact⟨n,hn,h1,hw _ n hn⟩
theorem Qtq {n:Nd} {a:Tr}(ht:(Tr.one n a).ok):(Qs a).length<=(Qs (.one n a)).length:=by
 obtain⟨m,_,h1,hx,_⟩:=Qjs ht;have hp:=Ud ht;unfold Vy at h1;cases h2:Qw m.op
 ·cases h3:Zq m.op
  ·rw [h2,h3]at h1;cases h1
  rw [h2,h3]at h1;injection h1 with _ h1;have:=hx h3;have e:=Qq9 ht (k:=m.x.toNat) (by omega);rw [<-h1]at e;exact e
 rw [h2]at h1;cases h1
theorem Qg4 {n:Nd} {a b:Tr}(ht:(Tr.two n a b).ok):(Qs a).length<=(Qs (.two n a b)).length/\(Qs b).length<=(Qs (.two n a b)).length:=by
 obtain⟨m,_,h1,hx,hy⟩:=Qjs ht;have hp:=Ud ht;unfold Vy at h1;cases h2:Qw m.op
 ·cases h3:Zq m.op
  ·rw [h2,h3]at h1;cases h1
  rw [h2,h3]at h1;cases h1
 rw [h2]at h1;injection h1 with _ h1 h3;have:=hx (Vl h2);have:=hy h2;refine⟨?_,?_⟩
 ·have e:=Qq9 ht (k:=m.x.toNat) (by omega);rw [<-h1]at e;exact e
 have e:=Qq9 ht (k:=m.y.toNat) (by omega);rw [<-h3]at e;exact e
theorem Qjt {f:List Nd}(h:check f=0):Qh f=Vy (Qi f) (tr f (Qi f).x.toNat) (tr f (Qi f).y.toNat):=
 Xd (Yt h) (Lx (Jf h).1)
theorem Qhz {m n:Nd} {a b c:Tr}(h:Vy m a b=.one n c):Zq m.op=true/\m.op=n.op/\m.i=n.i/\a=c:=by
 unfold Vy at h;cases h2:Qw m.op
 ·cases h1:Zq m.op
  ·rw [h2,h1]at h;cases h
  rw [h2,h1]at h;simp only [cond_false,cond_true,Tr.one.injEq]at h;exact⟨rfl,by rw [<-h.1];rfl,by rw [<-h.1];rfl,h.2⟩
 rw [h2]at h;cases h
theorem Qkg {f:List Nd} {n:Nd} {c:Tr}(h:check f=0)(ht:Qh f=.one n c):
 (Qi f).op=n.op/\(Qi f).i=n.i/\tr f (Qi f).x.toNat=c/\Js f (Qi f).x=Qs c/\(Qi f).x.toNat < f.length:=by
 have e:=Qjt h;rw [ht]at e;obtain⟨h1,h2,h3,h4⟩:=Qhz e.symm;have hw:=(Yt h _ _ (Lx (Jf h).1)).1 h1;have hx:(Qi f).x.toNat < f.length:=by omega
 refine⟨h2,h3,h4,?_,hx⟩;have e2:=Sk h hx;rw [show(((Qi f).x.toNat:Nat):Int)=(Qi f).x by omega]at e2;rw [e2,h4]
theorem Qhj {m n:Nd} {a b c d:Tr}(h:Vy m a b=.two n c d):Qw m.op=true/\m.head=n/\a=c/\b=d:=by
 unfold Vy at h;cases h2:Qw m.op
 ·cases h1:Zq m.op
  ·rw [h2,h1]at h;cases h
  rw [h2,h1]at h;cases h
 rw [h2]at h;simp only [cond_true,Tr.two.injEq]at h;exact⟨rfl,h⟩
theorem Tt {f:List Nd} {n:Nd} {c d:Tr}(h:check f=0)(ht:Qh f=.two n c d):
 (Qi f).op=n.op/\(Qi f).g=n.g/\Js f (Qi f).x=Qs c/\Js f (Qi f).y=Qs d:=by
 have e:=Qjt h;rw [ht]at e;obtain⟨h2,h3,h4,h5⟩:=Qhj e.symm;obtain⟨hx,hy⟩:=Yt h _ _ (Lx (Jf h).1);have hx:=hx (Vl h2);have hy:=hy h2;have e1:=Sk h (show(Qi f).x.toNat < f.length by omega);have e2:=Sk h (show(Qi f).y.toNat < f.length by omega);rw [show(((Qi f).x.toNat:Nat):Int)=(Qi f).x by omega,h4]at e1;rw [show(((Qi f).y.toNat:Nat):Int)=(Qi f).y by omega,h5]at e2;exact⟨by rw [<-h3];rfl,by rw [<-h3];rfl,e1,e2⟩
theorem Zqh {f:List Nd}(h:check f=0):(Qi f).op=(Qh f).top.op:=by
 rw [Qjt h];unfold Vy;cases Qw (Qi f).op
 ·cases Zq (Qi f).op <;> rfl
 rfl
def Dst(o:List Nd):Prop:=∀i j,i < o.length->j < o.length->tr o i=tr o j->i=j
theorem Qhq {m n:Nd} {a b c d:Tr}(h:Vy m a b=Vy n c d):m.head=n.head/\(Zq m.op=true->a=c)/\(Qw m.op=true->b=d):=by
 unfold Vy at h;cases h2:Qw m.op
 ·cases h1:Zq m.op
  ·cases k2:Qw n.op
   ·cases k1:Zq n.op
    ·rw [h1,h2,k1,k2]at h;injection h with h;exact⟨by rw [h],(fun e=>by cases e),(fun e=>by cases e)⟩
    rw [h1,h2,k1,k2]at h;cases h
   rw [h1,h2,k2]at h;cases h
  cases k2:Qw n.op
  ·cases k1:Zq n.op
   ·rw [h1,h2,k1,k2]at h;cases h
   rw [h1,h2,k1,k2]at h;injection h with e1 e2;exact⟨e1,(fun _=>e2),(fun e=>by cases e)⟩
  rw [h1,h2,k2]at h;cases h
 cases k2:Qw n.op
 ·cases k1:Zq n.op
  ·rw [h2,k1,k2]at h;cases h
  rw [h2,k1,k2]at h;cases h
 rw [h2,k2]at h;injection h with e1 e2 e3;exact⟨e1,fun _=>e2,fun _=>e3⟩
theorem Qbd {n:Nd}(hx:Zq n.op=true->0<=n.x)(hy:Qw n.op=true->0<=n.y):n.head.with_ n.x.toNat n.y.toNat=n:=by
 rw [Qjg];obtain⟨op,i,e,g,x,y⟩:=n;unfold Nd.with_;simp only at hx hy⊢
 congr 1
 ·cases h:Zq op
  ·rfl
  have:=hx h;simp only [cond_true];omega
 cases h:Qw op
 ·rfl
 have:=hy h;simp only [cond_true];omega
theorem Qv4 {o:List Nd} {m:Nd}(ho:Wf o)(hw:Wf (Jq o m))(h:Dst o):Dst (Jq o m):=by
 by_cases hm:m∈o
 ·have e:Jq o m=o:=by unfold Jq;rw [if_pos hm]
  rw [e];exact h
 have e:Jq o m=o++ [m]:=by unfold Jq;rw [if_neg hm]
 rw [e]at hw⊢;have hp:∀k,k < o.length->tr (o++ [m]) k=tr o k:=fun k hk=>Bb ho hw (List.prefix_append _ _) k hk
 have hl:(o++ [m])[o.length]?=some m:=by simp
 have WS:=hw _ _ hl;have key:∀j,j < o.length->tr (o++ [m]) o.length≠tr o j:=fun j hj he=>by
  obtain⟨n,hn⟩:∃n,o[j]?=some n:=⟨_,Qv hj⟩;have qT:=ho j n hn;rw [Xd hw hl,Xd ho hn]at he;obtain⟨e1,e2,e3⟩:=Qhq he;have eo:m.op=n.op:=by have:=congrArg Nd.op e1;exact this
  have ex:Zq m.op=true->m.x.toNat=n.x.toNat:=fun hx=>by
   have a1:=WS.1 hx;have a2:=qT.1 (eo▸hx);have:=e2 hx;rw [hp _ (by omega)]at this;exact h _ _ (by omega) (by omega) this
  have ey:Qw m.op=true->m.y.toNat=n.y.toNat:=fun hy=>by
   have a1:=WS.2 hy;have a2:=qT.2 (eo▸hy);have:=e3 hy;rw [hp _ (by omega)]at this;exact h _ _ (by omega) (by omega) this
  have em:=Qbd (n:=m) (fun hx=>(WS.1 hx).1) (fun hy=>(WS.2 hy).1);have en:=Qbd (n:=n) (fun hx=>(qT.1 hx).1) (fun hy=>(qT.2 hy).1);have:m=n:=by
   rw [<-em,<-en,e1];unfold Nd.with_
   congr 1
   ·cases hx:Zq n.head.op
    ·rfl
    rw [ex (by rw [eo];exact hx)]
   cases hy:Qw n.head.op
   ·rfl
   rw [ey (by rw [eo];exact hy)]
  exact hm (this▸List.mem_of_getElem? hn)
 intro i j hi hj sK;rw [List.length_append,List.length_singleton]at hi hj;by_cases hio:i < o.length
 ·by_cases hjo:j < o.length
  ·rw [hp i hio,hp j hjo]at sK;exact h i j hio hjo sK
  have:j=o.length:=by omega
  subst this;rw [hp i hio]at sK;exact absurd sK.symm (key i hio)
 have:i=o.length:=by omega
 subst this;by_cases hjo:j < o.length
 ·rw [hp j hjo]at sK;exact absurd sK (key j hjo)
 omega
theorem Qya:∀(t:Tr) (o:List Nd),t.ok->Wf o->Dst o->Dst (Yo t o).1
 |.leaf n,o,ht,ho,h=>Qv4 ho (Xh (.leaf n) o ht ho).wf h
 |.one n a,o,ht,ho,h=>Qv4 (Xh a o ht.2.2.2 ho).wf (Xh (.one n a) o ht ho).wf (Qya a o ht.2.2.2 ho h)
 |.two n a b,o,ht,ho,h=>by
  have A:=Xh a o ht.2.2.2.1 ho;exact Qv4 (Xh b _ ht.2.2.2.2 A.wf).wf (Xh (.two n a b) o ht ho).wf (Qya b _ ht.2.2.2.2 A.wf (Qya a o ht.2.2.2.1 ho h))
theorem Qpl {t:Tr}(ht:t.ok):Dst (Qs t):=Qya t [] ht Nk (fun i _ hi=>absurd hi (by simp))
theorem Gk {P:Program} {ops:Array Oper} {o:Oper} {a:Act} {w:World} {K:Act->World->Prop} {Q:Exit->Act->World->Prop} {E:Prop}
 (hgd:o.guard=none)(s x:Operand)(t:TypeId)(ho:o.op=.call { callee:=.builtin .append,args:=#[s,x],argTypes:=#[t,t] })
 (base:Nat)(e:TypeId)(i:TypeInfo)(z:Value)(size bytes:Nat)(ht:P.underlying t=some (.slice e))(hi:P.info? e=some i)(hz:i.zero=some z)
 (KJ:i.size=size)(qD:i.bytes=bytes)(hzs:z.cells.size=size)(mP:0 < size)
 (v:Value)(n:Nat)(xs:List Value)(hs:a.eval s=v)(xJ:w.ownsRow base e size v n xs)
 (ad:Addr)(m c:Nat)(news:List Value)(hx:a.eval x=.slice (some ad) m c)(hl:news.length=m*size)(KU:∀j u,news[j]?=some u->w.cell? (ad.add j)=some u)(h1:∀u∈news,u.oneCell'=true)
 (h63:n+m<=maxLen)(TK:(n+m)*bytes<=140737488355328)(tE:base<=w.heap.size)
 (h:∀v' w',w'.ownsRow base e size v' (n+m) (xs++news)->w.grownBy w' v.ownBlock->(v'.ownBlock=v.ownBlock\/v'.ownBlock=some w.heap.size)->K (a.put o.dst v') w'):
 if Region.wanted o (yielded ops a.tmps)=true then Oper.wp P o a w K Q else E:=by
 have hw:Region.wanted o (yielded ops a.tmps)=true:=by simp [Region.wanted,hgd]
 rw [if_pos hw];obtain⟨v',w',hr,h2,h3,_,h5⟩:=run_append_own_at (P:=P) w base t o.type e i z size bytes ht hi hz KJ qD hzs mP v n xs xJ ad m c news hl KU h1 h63 TK tE;unfold Oper.wp execOp;simp only [ho,resolve,invoke,builtin,Sem.run_bind,Sem.run_pure,Result.andThen_ok,List.map_toArray,List.map_cons,List.map_nil,hs,hx,hr];exact h v' w' h2 h3 h5
section
variable {P:Program} {md:Region.Mode} {ops:Array Oper} {Q:Exit->Act->World->Prop} {S:World->Prop}
theorem tk(i:Nat) {oi:Oper} {v:Value} {fuel:Nat} {listed:Array Bool} {a a':Act} {w:World}(hS:S w)
 (h:wpAnyH P md ops Q S fuel (listed.setIfInBounds i true) a' w)
 (hi:ops[i]?=some oi:=by exact rfl)(hs:Region.noSelect ops=true:=by kernel_rfl)(hf:Region.free md ops listed i=true:=by kernel_rfl)(hr:(Region.ready md ops listed).contains i=true:=by kernel_rfl)
 (hy:YieldsIf P ops S oi v a:=by refine Or.inl ⟨by rfl,?_⟩;intro w' DK;(try dsimp only at DK);go_simp;(try with_reducible rfl))
 (hQ:∀c a w,Q (.panic c) (a.put oi.dst v) w->Q (.panic c) a w:=by exact fun _ _ _ h=>h)
 (ha:a.put oi.dst v=a':=by(try simp only [Act.put,List.setIfInBounds_toArray,List.set_cons_zero,List.set_cons_succ,List.getElem_toArray,List.getElem_cons_succ,List.getElem_cons_zero]);exact rfl):wpAnyH P md ops Q S (fuel+1) listed a w :=
 wpAnyH_take hi hs hf hr hQ hy hS (by rw [ha];exact h)
end
section
variable {a b c:World} {p:Addr} {v:Value}
theorem xc(hb:p.block < a.heap.size)(f:a.cell? p=some v)(h:Qg a b:=by repeat(first|exact Qz|assumption|apply Qg.alloc|apply Qg.drew)):b.cell? p=some v:=(h.cell hb).trans f
theorem xw(e:Qg a b:=by repeat(first|exact Qz|assumption|apply Qg.alloc|apply Qg.drew)):Qg a b:=e
end
theorem Qd {P:Program} {md:Region.Mode} {ops:Array Oper} {Q:Exit->Act->World->Prop} {S:World->Prop} {fuel:Nat} {up:Array Bool} {a a':Act} {w:World}(h:wpAnyH P md ops Q S fuel up a' w)(e:a=a':=by(try simp only [Act.put,List.setIfInBounds_toArray,List.set_cons_zero,List.set_cons_succ,List.getElem_toArray,List.getElem_cons_succ,List.getElem_cons_zero]);exact rfl):wpAnyH P md ops Q S fuel up a w:=e▸h
theorem My {P:Program} {fn:Func} {t:Tmp} {ty:TypeId}(h:fn.results=#[.cell t ty])(tmps:Array Value)(w:World) {b o:Nat}(ht:tmps.getD t undef=.pointer (some ⟨b,o,none⟩)) {cs:List Value} {d:TypeDesc}(hc:w.rangeAt b o cs)
 (hu:P.underlying ty=some d)(hd:d.isRow=true)(hi:(P.info? ty).map (·.size)=some cs.length):(results fn tmps).run P w=.ok (.agg cs.toArray) w:=by
 have lO:tmps[t]?.getD undef=.pointer (some ⟨b,o,none⟩):=by rw [<-Array.getD_eq_getD_getElem?];exact ht
 simp [results,h,lO,asAddr,run_loadVar_mid w b o ty cs d hc hu hd hi]
end Go.Proofs.YtkmclcmnoicagaaGreatDoor
