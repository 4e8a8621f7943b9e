/- Bits of words, as a walk shows them. -/
import Derived.Test.YtmidgcldljfkcaaGreatDoorM01
import Derived.Test.YtmidgcldljfkcaaGreatDoorM12
import Derived.Test.YtmidgcldljfkcaaGreatDoorM03
import Derived.Laws.Bits64b
import Derived.Deep.RegionLaw
import Derived.Deep.MidRow
import Derived.OrdersHeld
import Derived.Deep.RegionHeld
import Derived.RegionTactic
import Derived.Test.YtmidgcldljfkcaaGreatDoorM04
namespace Go.Proofs.YtmidgcldljfkcaaGreatDoor
set_option maxRecDepth 100000
set_option maxHeartbeats 128000000
open Go.RowKit
theorem Pp(s k:Nat):s.testBit k=(s / 2^k % 2==1):=by
 rw [Nat.testBit_eq_decide_div_mod_eq];rfl
theorem Wm(s k:Nat):(s:Int) / 2^k=((s / 2^k:Nat):Int):=by
 rw [show((2:Int)^k)=((2^k:Nat):Int) by simp];rfl
theorem Fq(s k:Nat)(hs:s < 18446744073709551616):(bits .and .u64 ((s:Int) / 2^k) 1==1)=s.testBit k:=by
 have hlt:s / 2^k < 18446744073709551616:=Nat.lt_of_le_of_lt (Nat.div_le_self _ _) hs;rw [Wm,show(1:Int)=((1:Nat):Int)from rfl,bits_and_u64_nat _ 1 hlt (by decide),Nat.and_one_is_mod,Pp];generalize s / 2^k % 2=r;rw [Bool.eq_iff_iff,beq_iff_eq,beq_iff_eq];omega
theorem Ib(x y:BitVec 64):x&&& ~~~y=0#64↔x&&&y=x:=by
 constructor
 ·intro h;apply BitVec.eq_of_getLsbD_eq;intro i hi;have:=congrArg (fun z=>z.getLsbD i) h;simp only [BitVec.getLsbD_and,BitVec.getLsbD_not,hi,decide_true,Bool.true_and,BitVec.getLsbD_zero]at this⊢
  revert this
  cases x.getLsbD i <;> cases y.getLsbD i <;> simp
 intro h;apply BitVec.eq_of_getLsbD_eq;intro i hi;have:=congrArg (fun z=>z.getLsbD i) h;simp only [BitVec.getLsbD_and,BitVec.getLsbD_not,hi,decide_true,Bool.true_and,BitVec.getLsbD_zero]at this⊢
 revert this
 cases x.getLsbD i <;> cases y.getLsbD i <;> simp
theorem Qz7(a b:Nat)(ha:a < 18446744073709551616)(hb:b < 18446744073709551616):(bits .andNot .u64 (a:Int) (b:Int)==0)=Yd a b:=by
 have h1:(BitVec.ofInt 64 (a:Int)).toNat=a:=by
  rw [BitVec.ofInt_natCast,BitVec.toNat_ofNat];exact Nat.mod_eq_of_lt (by omega)
 have h2:(BitVec.ofInt 64 (b:Int)).toNat=b:=by
  rw [BitVec.ofInt_natCast,BitVec.toNat_ofNat];exact Nat.mod_eq_of_lt (by omega)
 show(IntKind.u64.wrap ((BitVec.ofInt 64 (a:Int)&&& ~~~BitVec.ofInt 64 (b:Int)).toNat:Int)==0)=_;have hlt:(BitVec.ofInt 64 (a:Int)&&& ~~~BitVec.ofInt 64 (b:Int)).toNat < 2^64:=BitVec.isLt _;rw [IntKind.wrap_u64];unfold Yd;rw [Bool.eq_iff_iff,beq_iff_eq,beq_iff_eq];constructor
 ·intro h;have h0:(BitVec.ofInt 64 (a:Int)&&& ~~~BitVec.ofInt 64 (b:Int))=0#64:=BitVec.eq_of_toNat_eq (by
   show _=0
   omega)
  have:=congrArg BitVec.toNat ((Ib _ _).1 h0);rw [BitVec.toNat_and,h1,h2]at this;exact this
 intro h;have h0:BitVec.ofInt 64 (a:Int)&&&BitVec.ofInt 64 (b:Int)=BitVec.ofInt 64 (a:Int):=BitVec.eq_of_toNat_eq (by
  rw [BitVec.toNat_and,h1,h2];exact h)
 rw [(Ib _ _).2 h0];rfl
theorem Qx8(s n:Nat)(hs:s < 18446744073709551616)(hn:1<=n/\n<=64):(bits .andNot .u64 (s:Int) (18446744073709551615 / 2^(64 - n))==0)=decide (s < 2^n):=by
 have e:(18446744073709551615:Int) / 2^(64 - n)=((2^n - 1:Nat):Int):=by
  rw [show(18446744073709551615:Int)=((18446744073709551615:Nat):Int)from rfl,Wm]
  congr 1
  have hp:(18446744073709551615:Nat)+1=2^n*2^(64 - n):=by rw [<-Nat.pow_add,show n+(64 - n)=64 by omega]
  have h1:0 < 2^(64 - n):=Nat.two_pow_pos _;have h2:0 < 2^n:=Nat.two_pow_pos _;have:(18446744073709551615:Nat)=(2^n - 1)*2^(64 - n)+(2^(64 - n) - 1):=by
   have:(2^n - 1)*2^(64 - n)+2^(64 - n)=2^n*2^(64 - n):=by
    rw [<-Nat.succ_mul,Nat.succ_eq_add_one,Nat.sub_add_cancel h2]
   omega
  rw [this,Nat.mul_comm,Nat.mul_add_div h1,Nat.div_eq_of_lt (by omega:2^(64 - n) - 1 < 2^(64 - n)),Nat.add_zero]
 have h3:2^n<=18446744073709551616:=by
  rw [show(18446744073709551616:Nat)=2^64 from rfl];exact Nat.pow_le_pow_right (by decide) hn.2
 rw [e,Qz7 s (2^n - 1) hs (by have:=Nat.two_pow_pos n;omega)];unfold Yd;rw [Nat.and_two_pow_sub_one_eq_mod,Bool.eq_iff_iff,beq_iff_eq,decide_eq_true_iff];constructor
 ·intro h;rw [<-h];exact Nat.mod_lt _ (Nat.two_pow_pos n)
 exact Nat.mod_eq_of_lt
theorem If(a b:Nat)(ha:a < 9223372036854775808)(hb:b < 9223372036854775808):bits .and .i64 (a:Int) (b:Int)=((a&&&b:Nat):Int):=by
 have hx:a&&&b < 2^63:=Nat.and_lt_two_pow _ (by omega);show IntKind.i64.wrap ((BitVec.ofInt 64 (a:Int)&&&BitVec.ofInt 64 (b:Int)).toNat:Int)=_;rw [BitVec.toNat_and,Mw a ha,Mw b hb,IntKind.wrap_i64];omega
theorem Hh(s k:Nat)(hs:s < 9223372036854775808):(bits .and .i64 ((s:Int) / 2^k) 1==1)=s.testBit k:=by
 have hlt:s / 2^k < 9223372036854775808:=Nat.lt_of_le_of_lt (Nat.div_le_self _ _) hs;rw [Wm,show(1:Int)=((1:Nat):Int)from rfl,If _ 1 hlt (by decide),Nat.and_one_is_mod,Pp];generalize s / 2^k % 2=r;rw [Bool.eq_iff_iff,beq_iff_eq,beq_iff_eq];omega
theorem Qjx(s k:Nat)(hs:s < 9223372036854775808):(bits .and .i64 ((s:Int) / 2^k) 1==0)= !s.testBit k:=by
 have hlt:s / 2^k < 9223372036854775808:=Nat.lt_of_le_of_lt (Nat.div_le_self _ _) hs;rw [Wm,show(1:Int)=((1:Nat):Int)from rfl,If _ 1 hlt (by decide),Nat.and_one_is_mod,Pp];rcases Nat.mod_two_eq_zero_or_one (s / 2^k)with h|h <;> rw [h] <;> rfl
inductive Tr where
 |leaf (n:Nd)
 |one (n:Nd) (a:Tr)
 |two (n:Nd) (a b:Tr)
def Nd.head(n:Nd):Nd:=n.with_ 0 0
def Tr.ok:Tr->Prop
 |.leaf n=>Qw n.op=false/\Qa n.op=false
 |.one n a=>Qw n.op=true/\Qa n.op=false/\n.head=n/\a.ok
 |.two n a b=>Qw n.op=true/\Qa n.op=true/\n.head=n/\a.ok/\b.ok
def Tr.size:Tr->Nat
 |.leaf _=>1
 |.one _ a=>a.size+1
 |.two _ a b=>a.size+b.size+1
def Tr.top:Tr->Nd
 |.leaf n=>n
 |.one n _=>n
 |.two n _ _=>n
def trF(f:List Nd):Nat->Nat->Tr
 |0,_=> .leaf Nd.zero
 |k+1,i=>bif Qa (f.getD i Nd.zero).op then .two (f.getD i Nd.zero).head (trF f k (f.getD i Nd.zero).x.toNat) (trF f k (f.getD i Nd.zero).y.toNat)
  else bif Qw (f.getD i Nd.zero).op then .one (f.getD i Nd.zero).head (trF f k (f.getD i Nd.zero).x.toNat)else .leaf (f.getD i Nd.zero)
def tr(f:List Nd)(i:Nat):Tr:=trF f (i+1) i
def Qp(f:List Nd):Tr:=tr f (f.length - 1)
def Ve(n:Nd)(a b:Tr):Tr:=bif Qa n.op then .two n.head a b else bif Qw n.op then .one n.head a else .leaf n
theorem Qqo {f:List Nd}(hf:Wf f):∀(k i:Nat),i < k->i < f.length->trF f k i=tr f i:=by
 intro k
 induction k using Nat.strongRecOn with
 |_ k ih =>
  intro i h hi;cases k with
  |zero=>omega
  |succ k =>
   obtain⟨n,hn⟩:∃n,f[i]?=some n:=⟨_,Qv hi⟩;obtain⟨hx,hy⟩:=hf i n hn;have e:∀(b:Nat),b < i->trF f k b=trF f i b:=fun b hb=>by
    rw [ih k (by omega) b (by omega) (by omega)];by_cases hik:i=k
    ·subst hik;exact(ih i (by omega) b hb (by omega)).symm
    exact(ih i (by omega) b hb (by omega)).symm
   unfold tr;simp only [trF,Nm hn];cases h2:Qa n.op
   ·cases h1:Qw n.op
    ·rfl
    have:=hx h1;simp only [cond_true,cond_false];rw [e _ (by omega)]
   have h1:=Xd h2;have:=hx h1;have:=hy h2;simp only [cond_true];rw [e _ (by omega),e _ (by omega)]
theorem Xb {f:List Nd}(hf:Wf f) {i:Nat} {n:Nd}(hn:f[i]?=some n):tr f i=Ve n (tr f n.x.toNat) (tr f n.y.toNat):=by
 have hi:i < f.length:=(List.getElem?_eq_some_iff.1 hn).1;obtain⟨hx,hy⟩:=hf i n hn
 conv=>lhs;unfold tr trF
 simp only [Nm hn,Ve];cases h2:Qa n.op
 ·cases h1:Qw n.op
  ·rfl
  have:=hx h1;simp only [cond_true,cond_false];rw [Qqo hf _ _ (by omega) (by omega)]
 have h1:=Xd h2;have:=hx h1;have:=hy h2;simp only [cond_true];rw [Qqo hf _ _ (by omega) (by omega),Qqo hf _ _ (by omega) (by omega)]
theorem Qf7 {n:Nd} {a a' b b':Tr}(hx:Qw n.op=true->a=a')(hy:Qa n.op=true->b=b'):Ve n a b=Ve n a' b':=by
 unfold Ve;cases h2:Qa n.op
 ·cases h1:Qw n.op
  ·rfl
  rw [hx h1];rfl
 rw [hx (Xd h2),hy h2]
theorem Fc {f g:List Nd}(hf:Wf f)(hg:Wf g)(hp:f <+: g):∀i,i < f.length->tr g i=tr f i:=by
 intro i
 induction i using Nat.strongRecOn with
 |_ i ih =>
  intro hi;obtain⟨n,hn⟩:∃n,f[i]?=some n:=⟨_,Qv hi⟩;obtain⟨hx,hy⟩:=hf i n hn;have hn':g[i]?=some n:=by
   obtain⟨t,rfl⟩:=hp;rw [List.getElem?_append_left hi];exact hn
  rw [Xb hf hn,Xb hg hn'];exact Qf7 (fun h=>by have:=hx h;exact ih _ (by omega) (by omega)) (fun h=>by have:=hy h;exact ih _ (by omega) (by omega))
theorem Qj3(n:Nd):n.head.head=n.head:=by
 unfold Nd.head Nd.with_;cases Qw n.op <;> cases Qa n.op <;> rfl
theorem Aq(n:Nd)(a b:Nat):(n.with_ a b).head=n.head:=by
 unfold Nd.head Nd.with_;cases Qw n.op <;> cases Qa n.op <;> rfl
theorem Qyb(n:Nd)(a b:Nat):n.head.with_ a b=n.with_ a b:=by
 unfold Nd.head Nd.with_;cases Qw n.op <;> cases Qa n.op <;> rfl
theorem Qjv(n:Nd)(a b:Nat):(n.with_ a b).op=n.op:=rfl
theorem Qpn {n:Nd} {a b:Tr}(ha:Qw n.op=true->a.ok)(hb:Qa n.op=true->b.ok):(Ve n a b).ok:=by
 unfold Ve;cases h2:Qa n.op
 ·cases h1:Qw n.op
  ·exact⟨h1,h2⟩
  exact⟨h1,h2,Qj3 n,ha h1⟩
 have h1:=Xd h2;exact⟨h1,h2,Qj3 n,ha h1,hb h2⟩
theorem Qvy {f:List Nd}(hf:Wf f):∀i,i < f.length->(tr f i).ok:=by
 intro i
 induction i using Nat.strongRecOn with
 |_ i ih =>
  intro hi;obtain⟨n,hn⟩:∃n,f[i]?=some n:=⟨_,Qv hi⟩;obtain⟨hx,hy⟩:=hf i n hn;rw [Xb hf hn];exact Qpn (fun h=>by have:=hx h;exact ih _ (by omega) (by omega)) (fun h=>by have:=hy h;exact ih _ (by omega) (by omega))
def ins:Tr->List Nd->List Nd×Nat
 |.leaf n,o=>(Jb o n,o.idxOf n)
 |.one n a,o=>(Jb (ins a o).1 (n.with_ (ins a o).2 0),(ins a o).1.idxOf (n.with_ (ins a o).2 0))
 |.two n a b,o=>(Jb (ins b (ins a o).1).1 (n.with_ (ins a o).2 (ins b (ins a o).1).2),(ins b (ins a o).1).1.idxOf (n.with_ (ins a o).2 (ins b (ins a o).1).2))
def Ys(t:Tr):List Nd:=(ins t []).1
theorem Qrm {n:Nd}(h1:Qw n.op=false)(h2:Qa n.op=false)(a b:Nat):n.with_ a b=n:=by
 unfold Nd.with_;rw [h1,h2];rfl
theorem Qt2 {n:Nd}(h2:Qa n.op=false)(a b c:Nat):n.with_ a b=n.with_ a c:=by
 unfold Nd.with_;rw [h2];rfl
theorem Cs {f:List Nd}(hf:Wf f):∀(i:Nat) (o:List Nd),i < f.length->Jj f i o=ins (tr f i) o:=by
 intro i
 induction i using Nat.strongRecOn with
 |_ i ih =>
  intro o hi;obtain⟨n,hn⟩:∃n,f[i]?=some n:=⟨_,Qv hi⟩;obtain⟨hx,hy⟩:=hf i n hn;rw [Un hf hn,Xb hf hn];unfold Ve opX opY;cases h2:Qa n.op
  ·cases h1:Qw n.op
   ·simp only [cond_false,ins,Bool.false_eq_true,if_false,Qrm h1 h2]
   have:=hx h1;simp only [cond_false,cond_true,ins,Bool.false_eq_true,if_false,if_true,Qyb];rw [ih _ (by omega) _ (by omega),Qt2 h2 _ _ 0]
  have h1:=Xd h2;have:=hx h1;have:=hy h2;simp only [h1,cond_true,ins,if_true,Qyb];rw [ih n.x.toNat (by omega) o (by omega),ih n.y.toNat (by omega) _ (by omega)]
theorem Qjm {o:List Nd} {m:Nd}(ho:Wf o)(hx:Qw m.op=true->0<=m.x/\m.x < o.length)(hy:Qa m.op=true->0<=m.y/\m.y < o.length):Wf (Jb o m):=by
 unfold Jb
 split
 ·exact ho
 exact Lm ho hx hy
theorem Im(o:List Nd)(m:Nd):(Jb o m)[o.idxOf m]?=some m:=by
 rw [<-Cc];rw [List.getElem?_eq_getElem (List.idxOf_lt_length_of_mem (Il o m))];rw [List.getElem_idxOf]
structure Qe8 (t:Tr) (o:List Nd):Prop where
 wf:Wf (ins t o).1
 pre:o <+:(ins t o).1
 lt:(ins t o).2 < (ins t o).1.length
 tree:tr (ins t o).1 (ins t o).2=t
theorem Uj:∀(t:Tr) (o:List Nd),t.ok->Wf o->Qe8 t o
 |.leaf n,o,⟨h1,h2⟩,ho=>by
  have hw:Wf (Jb o n):=Qjm ho (fun h=>by rw [h1]at h;cases h) (fun h=>by rw [h2]at h;cases h);refine⟨hw,Ki _ _,Bg _ _,?_⟩;show tr (Jb o n) (o.idxOf n)=_;rw [Xb hw (Im o n)];unfold Ve;rw [h1,h2];rfl
 |.one n a,o,⟨h1,h2,h3,ha⟩,ho=>by
  have A:=Uj a o ha ho;have hw:Wf (Jb (ins a o).1 (n.with_ (ins a o).2 0)):=Qjm A.wf (fun h=>by
   have:=A.lt;simp only [Nd.with_,h1,cond_true]
   omega) (fun h=>by rw [Qjv,h2]at h;cases h)
  refine⟨hw,A.pre.trans (Ki _ _),Bg _ _,?_⟩;show tr (Jb (ins a o).1 (n.with_ (ins a o).2 0)) ((ins a o).1.idxOf (n.with_ (ins a o).2 0))=_;rw [Xb hw (Im _ _)];unfold Ve;rw [Qjv,h1,h2,Aq,h3];have e:(n.with_ (ins a o).2 0).x.toNat=(ins a o).2:=by simp [Nd.with_,h1]
  rw [e,Fc A.wf hw (Ki _ _) _ A.lt,A.tree];rfl
 |.two n a b,o,⟨h1,h2,h3,ha,hb⟩,ho=>by
  have A:=Uj a o ha ho;have B:=Uj b _ hb A.wf;have hlt:(ins a o).2 < (ins b (ins a o).1).1.length:=Qy A.lt B.pre.length_le;have hw:Wf (Jb (ins b (ins a o).1).1 (n.with_ (ins a o).2 (ins b (ins a o).1).2)):=Qjm B.wf (fun h=>by
   simp only [Nd.with_,h1,cond_true]
   omega) (fun h=>by
   have:=B.lt;simp only [Nd.with_,h2,cond_true]
   omega)
  refine⟨hw,(A.pre.trans B.pre).trans (Ki _ _),Bg _ _,?_⟩;show tr (Jb (ins b (ins a o).1).1 (n.with_ (ins a o).2 (ins b (ins a o).1).2)) ((ins b (ins a o).1).1.idxOf (n.with_ (ins a o).2 (ins b (ins a o).1).2))=_;rw [Xb hw (Im _ _)];unfold Ve;rw [Qjv,h2,Aq,h3];have e:(n.with_ (ins a o).2 (ins b (ins a o).1).2).x.toNat=(ins a o).2:=by simp [Nd.with_,h1]
  have e':(n.with_ (ins a o).2 (ins b (ins a o).1).2).y.toNat=(ins b (ins a o).1).2:=by simp [Nd.with_,h2]
  rw [e,e',Fc A.wf hw (B.pre.trans (Ki _ _)) _ A.lt,A.tree,Fc B.wf hw (Ki _ _) _ B.lt,B.tree];rfl
def Below(N:Nat)(o:List Nd):Prop:=∀k,k < o.length->(tr o k).size < N
theorem Hz {N:Nat} {o:List Nd} {m:Nd}(ho:Wf o)(hw:Wf (Jb o m))(h:Below N o)(hm:(tr (Jb o m) (o.idxOf m)).size < N):Below N (Jb o m):=by
 intro k hk;by_cases hko:k < o.length
 ·rw [Fc ho hw (Ki _ _) _ hko];exact h k hko
 have hne:m∉o:=fun hm'=>by
  unfold Jb at hk;rw [if_pos hm']at hk;exact hko hk
 have:k=o.idxOf m:=by
  rw [List.idxOf_eq_length hne];unfold Jb at hk;rw [if_neg hne]at hk;simp at hk;omega
 rw [this];exact hm
theorem Nc:∀(t:Tr) (o:List Nd) (N:Nat),t.ok->Wf o->Below N o->t.size < N->Below N (ins t o).1
 |.leaf n,o,N,ht,ho,hb,hs=>by
  have I:=Uj (.leaf n) o ht ho;exact Hz ho I.wf hb (Nat.lt_of_le_of_lt (Nat.le_of_eq (congrArg Tr.size I.tree)) hs)
 |.one n a,o,N,ht,ho,hb,hs=>by
  have I:=Uj (.one n a) o ht ho;have A:=Uj a o ht.2.2.2 ho;have hs':a.size+1 < N:=hs;exact Hz A.wf I.wf (Nc a o N ht.2.2.2 ho hb (by omega)) (Nat.lt_of_le_of_lt (Nat.le_of_eq (congrArg Tr.size I.tree)) hs)
 |.two n a b,o,N,ht,ho,hb,hs=>by
  have I:=Uj (.two n a b) o ht ho;have A:=Uj a o ht.2.2.2.1 ho;have B:=Uj b _ ht.2.2.2.2 A.wf;have hs':a.size+b.size+1 < N:=hs;exact Hz B.wf I.wf (Nc b _ N ht.2.2.2.2 A.wf (Nc a o N ht.2.2.2.1 ho hb (by omega)) (by omega)) (Nat.lt_of_le_of_lt (Nat.le_of_eq (congrArg Tr.size I.tree)) hs)
theorem Es(N:Nat):Below N []:=fun k h=>absurd h (by simp)
theorem Wj {o:List Nd} {m:Nd} {t:Tr}(hb:Below t.size o)(ht:tr (Jb o m) (o.idxOf m)=t):o.idxOf m+1=(Jb o m).length:=by
 have hne:m∉o:=fun hm=>by
  have hlt:=List.idxOf_lt_length_of_mem hm;have:=hb _ hlt;have e:Jb o m=o:=by unfold Jb;rw [if_pos hm]
  rw [e]at ht;rw [ht]at this;omega
 rw [List.idxOf_eq_length hne];unfold Jb;rw [if_neg hne];simp
theorem Qv0(t:Tr)(ht:t.ok):(ins t []).2+1=(Ys t).length:=by
 have I:=Uj t [] ht Dg;cases t with
 |leaf n=>exact Wj (Es _) I.tree
 |one n a =>
  have A:=Uj a [] ht.2.2.2 Dg;exact Wj (t:=.one n a) (Nc a [] _ ht.2.2.2 Dg (Es _) (Nat.lt_succ_self _)) I.tree
 |two n a b =>
  have A:=Uj a [] ht.2.2.2.1 Dg;have B:=Uj b _ ht.2.2.2.2 A.wf;have e:(Tr.two n a b).size=a.size+b.size+1:=rfl;exact Wj (t:=.two n a b) (Nc b _ _ ht.2.2.2.2 A.wf (Nc a [] _ ht.2.2.2.1 Dg (Es _) (by omega)) (by omega)) I.tree
theorem Qt8 {t:Tr}(ht:t.ok):Wf (Ys t):=(Uj t [] ht Dg).wf
theorem Qns {t:Tr}(ht:t.ok):0 < (Ys t).length:=by have:=Qv0 t ht;omega
theorem Xq {t:Tr}(ht:t.ok):Qp (Ys t)=t:=by
 unfold Qp;have h:=Qv0 t ht;rw [show(Ys t).length - 1=(ins t []).2 by omega];exact(Uj t [] ht Dg).tree
theorem Qsl {s t:Tr}(hs:s.ok)(ht:t.ok)(h:Ys s=Ys t):s=t:=by
 rw [<-Xq hs,<-Xq ht,h]
theorem Rz {f:List Nd}(h:Qs f=0):(Qp f).ok:=Qvy (Jq h) _ (by have:=(Zk h).1;omega)
theorem Kt {f:List Nd}(h:Qs f=0):Qf f=Ys (Qp f):=by
 rw [Pt h,Cs (Jq h) _ _ (by have:=(Zk h).1;omega)];rfl
theorem Eh {f:List Nd}(h:Qs f=0) {z:Nat}(hz:z < f.length):Zh f z=Ys (tr f z):=by
 unfold Zh;have e:(decide ((z:Int) < 0)||decide ((f.length:Int)<=(z:Int)))=false:=by simp;omega
 rw [h,e,Int.toNat_natCast,Cs (Jq h) _ _ hz];rfl
theorem Ky {f:List Nd}(h:Qs f=0):Qp (Qf f)=Qp f:=by
 rw [Kt h,Xq (Rz h)]
theorem Ay {f g:List Nd}(hf:Qs f=0)(hg:Qs g=0):Qf f=Qf g↔Qp f=Qp g:=by
 rw [Kt hf,Kt hg];exact⟨Qsl (Rz hf) (Rz hg),fun e=>by rw [e]⟩
theorem Qf0 {f g:List Nd} :Yb f g=true↔Qs f=0/\Qs g=0/\Qp f=Qp g:=by
 unfold Yb;rw [Bool.and_eq_true,Bool.and_eq_true,beq_iff_eq,beq_iff_eq,decide_eq_true_iff];constructor
 ·rintro⟨a,b,c⟩;exact⟨a,b,(Ay a b).1 c⟩
 rintro⟨a,b,c⟩;exact⟨a,b,(Ay a b).2 c⟩
theorem Qy3 {f:List Nd}(h:Qs f=0):Qf (Qf f)=Qf f:=by
 rw [Kt (Ke h),Ky h,Kt h]
theorem Qmk {a b:List Nd}(ha:Wf a)(hb:Wf b):∀k,k < b.length->tr (a++b.map (Jk a.length)) (a.length+k)=tr b k:=by
 intro k
 induction k using Nat.strongRecOn with
 |_ k ih =>
  intro hk;obtain⟨n,hn⟩:∃n,b[k]?=some n:=⟨_,Qv hk⟩;obtain⟨hx,hy⟩:=hb k n hn;have hn':(a++b.map (Jk a.length))[a.length+k]?=some (Jk a.length n):=by
   rw [List.getElem?_append_right (by omega),Nat.add_sub_cancel_left,List.getElem?_map,hn];rfl
  rw [Xb (Hd ha hb) hn',Xb hb hn];have e0:(Jk a.length n).op=n.op:=rfl;have ehead:(Jk a.length n).head=n.head:=by
   unfold Nd.head Nd.with_ Jk;cases Qw n.op <;> cases Qa n.op <;> rfl
  unfold Ve;rw [e0,ehead];cases h2:Qa n.op
  ·cases h1:Qw n.op
   ·simp only [cond_false]
    congr 1
    unfold Jk;rw [h1,h2];rfl
   have:=hx h1;have e1:(Jk a.length n).x.toNat=a.length+n.x.toNat:=by simp only [Jk,h1,cond_true];omega
   rw [e1,ih _ (by omega) (by omega)];rfl
  have h1:=Xd h2;have:=hx h1;have:=hy h2;have e1:(Jk a.length n).x.toNat=a.length+n.x.toNat:=by simp only [Jk,h1,cond_true];omega
  have e2:(Jk a.length n).y.toNat=a.length+n.y.toNat:=by simp only [Jk,h2,cond_true];omega
  rw [e1,e2,ih n.x.toNat (by omega) (by omega),ih n.y.toNat (by omega) (by omega)];rfl
def Tr.all(P:Nd->Prop):Tr->Prop
 |.leaf n=>P n
 |.one n a=>P n/\a.all P
 |.two n a b=>P n/\a.all P/\b.all P
theorem We {P:Nd->Prop}(hP:∀n k1 k2,P n->P (n.with_ k1 k2)):∀(t:Tr) (o:List Nd),t.all P->(∀n∈o,P n)->∀n∈(ins t o).1,P n
 |.leaf n,o,ht,ho,m,hm=>by
  change m∈Jb o n at hm;unfold Jb at hm
  split at hm
  ·exact ho m hm
  rcases List.mem_append.1 hm with h|h
  ·exact ho m h
  simp at h;subst h;exact ht
 |.one n a,o,ht,ho,m,hm=>by
  change m∈Jb (ins a o).1 _ at hm;have ha:=We hP a o ht.2 ho;unfold Jb at hm
  split at hm
  ·exact ha m hm
  rcases List.mem_append.1 hm with h|h
  ·exact ha m h
  simp at h;subst h;exact hP _ _ _ ht.1
 |.two n a b,o,ht,ho,m,hm=>by
  change m∈Jb (ins b (ins a o).1).1 _ at hm;have ha:=We hP b _ ht.2.2 (We hP a o ht.2.1 ho);unfold Jb at hm
  split at hm
  ·exact ha m hm
  rcases List.mem_append.1 hm with h|h
  ·exact ha m h
  simp at h;subst h;exact hP _ _ _ ht.1
theorem Qv5 {P:Nd->Prop}(hP:∀n k1 k2,P n->P (n.with_ k1 k2)) {f:List Nd}(hf:Wf f)(hn:∀n∈f,P n):∀i,i < f.length->(tr f i).all P:=by
 intro i
 induction i using Nat.strongRecOn with
 |_ i ih =>
  intro hi;obtain⟨n,hi'⟩:∃n,f[i]?=some n:=⟨_,Qv hi⟩;obtain⟨hx,hy⟩:=hf i n hi';have hp:=hn n (List.mem_of_getElem? hi');rw [Xb hf hi'];unfold Ve;cases h2:Qa n.op
  ·cases h1:Qw n.op
   ·exact hp
   have:=hx h1;exact⟨hP _ _ _ hp,ih _ (by omega) (by omega)⟩
  have h1:=Xd h2;have:=hx h1;have:=hy h2;exact⟨hP _ _ _ hp,ih _ (by omega) (by omega),ih _ (by omega) (by omega)⟩
theorem Qsn {t:Tr}(ht:t.ok):∃n,(Ys t)[(Ys t).length - 1]?=some n/\t=Ve n (tr (Ys t) n.x.toNat) (tr (Ys t) n.y.toNat)/\(Qw n.op=true->0<=n.x/\n.x < ((Ys t).length - 1:Nat))/\(Qa n.op=true->0<=n.y/\n.y < ((Ys t).length - 1:Nat)):=by
 have hw:=Qt8 ht;have hp:=Qns ht;obtain⟨n,hn⟩:∃n,(Ys t)[(Ys t).length - 1]?=some n:=⟨_,List.getElem?_eq_getElem (by omega)⟩;have h1:=Xb hw hn;have h2:tr (Ys t) ((Ys t).length - 1)=t:=Xq ht;rw [h2]at h1;exact⟨n,hn,h1,hw _ n hn⟩
def Dst(o:List Nd):Prop:=∀i j,i < o.length->j < o.length->tr o i=tr o j->i=j
theorem Qej {m n:Nd} {a b c d:Tr}(h:Ve m a b=Ve n c d):m.head=n.head/\(Qw m.op=true->a=c)/\(Qa m.op=true->b=d):=by
 unfold Ve at h;cases h2:Qa m.op
 ·cases h1:Qw m.op
  ·cases k2:Qa n.op
   ·cases k1:Qw n.op
    ·rw [h1,h2,k1,k2]at h;injection h with h;exact⟨by rw [h],(fun e=>by cases e),(fun e=>by cases e)⟩
    rw [h1,h2,k1,k2]at h;cases h
   rw [h1,h2,k2]at h;cases h
  cases k2:Qa n.op
  ·cases k1:Qw n.op
   ·rw [h1,h2,k1,k2]at h;cases h
   rw [h1,h2,k1,k2]at h;injection h with e1 e2;exact⟨e1,(fun _=>e2),(fun e=>by cases e)⟩
  rw [h1,h2,k2]at h;cases h
 cases k2:Qa n.op
 ·cases k1:Qw n.op
  ·rw [h2,k1,k2]at h;cases h
  rw [h2,k1,k2]at h;cases h
 rw [h2,k2]at h;injection h with e1 e2 e3;exact⟨e1,fun _=>e2,fun _=>e3⟩
theorem Ka {P:Program} {ops:Array Oper} {o:Oper} {a:Act} {w:World} {K:Act->World->Prop} {Q:Exit->Act->World->Prop} {E:Prop}
 (hgd:o.guard=none)(s x:Operand)(t:TypeId)(ho:o.op=.call { callee:=.builtin .append,args:=#[s,x],argTypes:=#[t,t] })
 (base:Nat)(e:TypeId)(i:TypeInfo)(z:Value)(size bytes:Nat)(ht:P.underlying t=some (.slice e))(hi:P.info? e=some i)(hz:i.zero=some z)
 (hsize:i.size=size)(hby:i.bytes=bytes)(hzs:z.cells.size=size)(hsz:0 < size)
 (v:Value)(n:Nat)(xs:List Value)(hs:a.eval s=v)(hown:w.ownsRow base e size v n xs)
 (ad:Addr)(m c:Nat)(news:List Value)(hx:a.eval x=.slice (some ad) m c)(hl:news.length=m*size)(hnews:∀j u,news[j]?=some u->w.cell? (ad.add j)=some u)(h1:∀u∈news,u.oneCell'=true)
 (h63:n+m<=maxLen)(hbytes:(n+m)*bytes<=140737488355328)(hbase:base<=w.heap.size)
 (h:∀v' w',w'.ownsRow base e size v' (n+m) (xs++news)->w.grownBy w' v.ownBlock->(v'.ownBlock=v.ownBlock\/v'.ownBlock=some w.heap.size)->K (a.put o.dst v') w'):
 if Region.wanted o (yielded ops a.tmps)=true then Oper.wp P o a w K Q else E:=by
 have hw:Region.wanted o (yielded ops a.tmps)=true:=by simp [Region.wanted,hgd]
 rw [if_pos hw];obtain⟨v',w',hr,h2,h3,_,h5⟩:=run_append_own_at (P:=P) w base t o.type e i z size bytes ht hi hz hsize hby hzs hsz v n xs hown ad m c news hl hnews h1 h63 hbytes hbase;unfold Oper.wp execOp;simp only [ho,resolve,invoke,builtin,Sem.run_bind,Sem.run_pure,Result.andThen_ok,List.map_toArray,List.map_cons,List.map_nil,hs,hx,hr];exact h v' w' h2 h3 h5
theorem Xz(v1 v2:Value)(l1 l2:List Nd)(w:World)(h1:Fml w v1 l1)(h2:Fml w v2 l2):
 Calls Tryz.prog 20 #[v1,v2] w fun e w'=>e=.returned (.bool (Yb l1 l2))/\Ext w w':=by
 have H1:=Qq h1;have H2:=Qq h2;clear h1 h2;by_cases hc1:Qs l1=0
 ·have HC1:=Qq hc1;clear hc1;by_cases hc2:Qs l2=0
  ·have HC2:=Qq hc2;clear hc2;go_enter Tryz.func20,Tryz.ntmps20;go_wp2_with fail;refine(Je _ l1 _ H1.out.1).mono ?_;rintro e w1 ⟨rfl,hb1⟩;rw [HC1.out];go_wp2_with fail;refine(Je _ l2 _ (H2.out.1.ext hb1)).mono ?_;rintro e w2 ⟨rfl,hb2⟩;rw [HC2.out];have X2:=Qq (hb1.trans hb2);clear hb1 hb2;go_wp2_with fail;refine(Vy _ l1 _ (H1.out.ext X2.out)).mono ?_;rintro e w3 ⟨u1,rfl,hm1⟩;have X3:=Qq (X2.out.trans hm1.2.2);have M1:=Qq hm1;clear hm1;go_wp2_with fail;refine(Vy _ l2 _ (H2.out.ext X3.out)).mono ?_;rintro e w4 ⟨u2,rfl,hm2⟩;have X4:=Qq (X3.out.trans hm2.2.2);have M2:=Qq hm2
   clear hm2;go_wp2_with fail;refine(Hb _ _ _ _ _ ((M1.out.after M2.out.2.2).fml.1) M2.out.fml.1).mono ?_;rintro e w5 ⟨rfl,hb5⟩;go_wp2_with fail;go_ret;exact⟨Qr (by simp [Yb,HC1.out,HC2.out]),X4.out.trans hb5⟩
  have hb:(Qs l2==0)=false:=by simpa using hc2
  have HR:=Qq (show Yb l1 l2=false by simp [Yb,hb]);clear hc2;go_enter Tryz.func20,Tryz.ntmps20;go_wp2_with fail;refine(Je _ l1 _ H1.out.1).mono ?_;rintro e w1 ⟨rfl,hb1⟩;rw [HC1.out];go_wp2_with fail;refine(Je _ l2 _ (H2.out.1.ext hb1)).mono ?_;rintro e w2 ⟨rfl,hb2⟩;go_wp2_with fail;go_ret;exact⟨Qr (by rw [HR.out]),hb1.trans hb2⟩
 have hb:(Qs l1==0)=false:=by simpa using hc1
 have HR:=Qq (show Yb l1 l2=false by simp [Yb,hb]);clear hc1;go_enter Tryz.func20,Tryz.ntmps20;go_wp2_with fail;refine(Je _ l1 _ H1.out.1).mono ?_;rintro e w1 ⟨rfl,hb1⟩;go_wp2_with fail;go_ret;exact⟨Qr (by rw [HR.out]),hb1⟩
section
variable {P:Program} {md:Region.Mode} {ops:Array Oper} {Q:Exit->Act->World->Prop} {S:World->Prop}
theorem tk(i:Nat) {oi:Oper} {v:Value} {fuel:Nat} {listed:Array Bool} {a a':Act} {w:World}(hS:S w)
 (h:wpAnyH P md ops Q S fuel (listed.setIfInBounds i true) a' w)
 (hi:ops[i]?=some oi:=by exact rfl)(hs:Region.noSelect ops=true:=by kernel_rfl)(hf:Region.free md ops listed i=true:=by kernel_rfl)(hr:(Region.ready md ops listed).contains i=true:=by kernel_rfl)
 (hy:YieldsIf P ops S oi v a:=by refine Or.inl ⟨by rfl,?_⟩;intro w' hSw;(try dsimp only at hSw);go_simp;(try with_reducible rfl))
 (hQ:∀c a w,Q (.panic c) (a.put oi.dst v) w->Q (.panic c) a w:=by exact fun _ _ _ h=>h)
 (ha:a.put oi.dst v=a':=by(try simp only [Act.put,List.setIfInBounds_toArray,List.set_cons_zero,List.set_cons_succ,List.getElem_toArray,List.getElem_cons_succ,List.getElem_cons_zero]);exact rfl):wpAnyH P md ops Q S (fuel+1) listed a w :=
 wpAnyH_take hi hs hf hr hQ hy hS (by rw [ha];exact h)
theorem un(i:Nat) {oi:Oper} {fuel:Nat} {listed:Array Bool} {a a':Act} {w:World}(hS:S w)
 (h:wpAnyH P md ops Q S fuel (listed.setIfInBounds i true) a' w)
 (hi:ops[i]?=some oi:=by exact rfl)(hs:Region.noSelect ops=true:=by kernel_rfl)(hf:Region.free md ops listed i=true:=by kernel_rfl)(hr:(Region.ready md ops listed).contains i=true:=by kernel_rfl)
 (hy:YieldsIf P ops S oi undef a:=by exact Or.inr ⟨by rfl,rfl⟩)
 (hQ:∀c a w,Q (.panic c) (a.put oi.dst undef) w->Q (.panic c) a w:=by exact fun _ _ _ h=>h)
 (ha:a.put oi.dst undef=a':=by(try simp only [Act.put,List.setIfInBounds_toArray,List.set_cons_zero,List.set_cons_succ,List.getElem_toArray,List.getElem_cons_succ,List.getElem_cons_zero]);exact rfl):wpAnyH P md ops Q S (fuel+1) listed a w :=
 wpAnyH_take hi hs hf hr hQ hy hS (by rw [ha];exact h)
end
section
variable {a b c:World} {p:Addr} {v:Value}
theorem xc(hb:p.block < a.heap.size)(f:a.cell? p=some v)(h:Ext a b:=by repeat(first|exact Qz|assumption|apply Ext.alloc|apply Ext.drew)):b.cell? p=some v:=(h.cell hb).trans f
theorem xt(h:Ext b c)(e:Ext a b:=by repeat(first|exact Qz|assumption|apply Ext.alloc|apply Ext.drew)):Ext a c:=e.trans h
theorem xw(e:Ext a b:=by repeat(first|exact Qz|assumption|apply Ext.alloc|apply Ext.drew)):Ext a b:=e
end
theorem Qd {P:Program} {md:Region.Mode} {ops:Array Oper} {Q:Exit->Act->World->Prop} {S:World->Prop} {fuel:Nat} {up:Array Bool} {a a':Act} {w:World}(h:wpAnyH P md ops Q S fuel up a' w)(e:a=a':=by(try simp only [Act.put,List.setIfInBounds_toArray,List.set_cons_zero,List.set_cons_succ,List.getElem_toArray,List.getElem_cons_succ,List.getElem_cons_zero]);exact rfl):wpAnyH P md ops Q S fuel up a w:=e▸h
section
variable {P:Program} {ops:Array Oper} {Q:Exit->Act->World->Prop} {md:Region.Mode} {S:World->Prop} {z:Nat}
def Uz(P:Program)(md:Region.Mode)(ops:Array Oper)(Q:Exit->Act->World->Prop)(S:World->Prop)(z:Nat):Nat->Array Bool->Act->World->Prop
 |0,up,a,w=>Region.ready md ops up= []/\Q .normal a w
 |n+1,up,a,w=>(Region.ready md ops up= []->Q .normal a w)/\∀i∈Region.ready md ops up,wpOp P ops Q i (fun b v=>(i≠z->S v)/\Uz P md ops Q S z n (up.setIfInBounds i true) b v) a w
theorem Uz.any:∀(n:Nat) (up:Array Bool) (a:Act) (w:World),Uz P md ops Q S z n up a w->wpAny P md ops Q n up a w
 |0,_,_,_,h=>h
 |n+1,_,_,_,h=>⟨h.1,fun i hi=>wpOp_mono (fun b v g=>Uz.any n _ b v g.2) (h.2 i hi)⟩
def Qxs(md:Region.Mode)(ops:Array Oper)(z i:Nat):Prop:=∀o,ops[z]?=some o->∃e∈o.after,Region.binds md e=true/\e.on=i
theorem Qp2 {up:Array Bool} {i:Nat}(h0:up.getD i true=false)(h1:up.getD i false=true):False:=by
 rcases Nat.lt_or_ge i up.size with h'|h'
 ·simp [h']at h0 h1;rw [h0]at h1;cases h1
 simp [Array.getElem?_eq_none h']at h1
theorem Uz.first {i:Nat} {oi:Oper} {v:Value}(hi:ops[i]?=some oi)(hsel:∀(j:Nat) (o:Oper) cs b,ops[j]?=some o->o.op≠.select cs b)(hQ:∀c a w,Q (.panic c) (a.put oi.dst v) w->Q (.panic c) a w)
 (hz:Qxs md ops z i):∀(n:Nat) (up:Array Bool) (a:Act) (w:World),
  (∀j oj,ops[j]?=some oj->j≠i->up.getD j true=false->(∀e∈oj.after,Region.binds md e=true->e.on≠i)->oi.apart ops oj=true)->
  i∈Region.ready md ops up->YieldsIf P ops S oi v a->S w->Uz P md ops Q S z n (up.setIfInBounds i true) (a.put oi.dst v) w->Uz P md ops Q S z (n+1) up a w
 |0,up,a,w,_,hr,hy,hS,H=>⟨fun h=>(by rw [h]at hr;cases hr),fun j hj=>by
  by_cases e:j=i
  ·subst e;exact hy.wpOp hi hS ⟨fun _=>hS,H⟩
  have h2:=ready_mono hj e;rw [H.1]at h2;cases h2⟩
 |n+1,up,a,w,hfree,hr,hy,hS,H=>⟨fun h=>(by rw [h]at hr;cases hr),fun j hj=>by
  by_cases e:j=i
  ·subst e;exact hy.wpOp hi hS ⟨fun _=>hS,H⟩
  obtain⟨hjun,oj,hoj,hall⟩:=mem_ready.1 hj;have hiun:=(mem_ready.1 hr).1;have hnot:∀e∈oj.after,Region.binds md e=true->e.on≠i:=fun d hd hb hq=>Qp2 hiun (by have:=hall d hd hb;rwa [hq]at this)
  have hjz:j≠z:=fun hjz=>by
   subst hjz;obtain⟨d,hd,hb,hq⟩:=hz oj hoj;exact hnot d hd hb hq
  have h2:=wpOp_putIf hoj (hfree j oj hoj e hjun hnot) (fun cs b=>hsel i oi cs b hi) (fun cs b=>hsel j oj cs b hoj) hQ hy (H.2 j (ready_mono hj e));refine wpOp_mono (fun b v h3=>⟨h3.2.1,Uz.first hi hsel hQ hz n (up.setIfInBounds j true) b v (fun k ok hk hki hun hno=>hfree k ok hk hki ?_ hno) (ready_mono hr (Ne.symm e)) h3.1 (h3.2.1 hjz) ?_⟩) h2
  ·by_cases hjk:j=k
   ·subst hjk;exact hjun
   rw [getD_set_ne true hjk]at hun;exact hun
  rw [Array.setIfInBounds_comm _ _ e];exact h3.2.2⟩
def Qzc(md:Region.Mode)(ops:Array Oper)(z i:Nat):Bool:=match ops[z]? with|none=>true|some o=>o.after.any fun e=>Region.binds md e&&e.on==i
theorem Qmv {i:Nat}(h:Qzc md ops z i=true):Qxs md ops z i:=by
 intro o ho;unfold Qzc at h;rw [ho]at h;simp only [Array.any_eq_true']at h;obtain⟨e,he,hb⟩:=h;rw [Bool.and_eq_true]at hb;exact⟨e,he,hb.1,eq_of_beq hb.2⟩
theorem Zr {i:Nat} {oi:Oper} {v:Value} {n:Nat} {up:Array Bool} {a:Act} {w:World}(hi:ops[i]?=some oi)(hs:Region.noSelect ops=true)(hf:Region.free md ops up i=true)(hr:(Region.ready md ops up).contains i=true)
 (hz:Qzc md ops z i=true)(hQ:∀c a w,Q (.panic c) (a.put oi.dst v) w->Q (.panic c) a w)(hy:YieldsIf P ops S oi v a)(hS:S w)
 (h:Uz P md ops Q S z n (up.setIfInBounds i true) (a.put oi.dst v) w):Uz P md ops Q S z (n+1) up a w :=
 Uz.first hi (Region.noSelect_spec hs) hQ (Qmv hz) n up a w (Region.free_spec hi hf) (by simpa using hr) hy hS h
def Gt(P:Program)(md:Region.Mode)(ops:Array Oper)(Q:Exit->Act->World->Prop)(S:World->Prop)(z n:Nat)(up:Array Bool)(a:Act)(w:World)(rs:List Nat):Prop :=
 ∀i∈rs,wpOp P ops Q i (fun b v=>(i≠z->S v)/\Uz P md ops Q S z n (up.setIfInBounds i true) b v) a w
theorem Gm {rs:List Nat} {n:Nat} {up:Array Bool} {a:Act} {w:World}(hr:Region.ready md ops up=rs)(hne:rs≠ [])(h:Gt P md ops Q S z n up a w rs):Uz P md ops Q S z (n+1) up a w :=
 ⟨fun h0=>absurd (hr▸h0) hne,hr▸h⟩
theorem Gt.nil {n:Nat} {up:Array Bool} {a:Act} {w:World} :Gt P md ops Q S z n up a w []:=fun _ h=>by cases h
theorem Gt.cons {n:Nat} {up:Array Bool} {a:Act} {w:World} {i:Nat} {o:Oper} {rs:List Nat}(ho:ops[i]?=some o)
 (h:∀K:Act->World->Prop,Hid (∀a w,S w->(S w->Uz P md ops Q S z n (up.setIfInBounds i true) a w)->K a w)->if Region.wanted o (yielded ops a.tmps)=true then Oper.wp P o a w K Q else K (a.put o.dst undef) w)
 (hs:Gt P md ops Q S z n up a w rs):Gt P md ops Q S z n up a w (i :: rs):=fun j hj=>by
 rcases List.mem_cons.1 hj with rfl|hj
 ·exact wpOp_step ho (fun K hK=>h K (Qq (fun a w hS hW=>hK a w ⟨fun _=>hS,hW hS⟩)))
 exact hs j hj
theorem Pv {n:Nat} {up:Array Bool} {a:Act} {w:World} {o:Oper}(hr:Region.ready md ops up= [z])(ho:ops[z]?=some o)
 (h:∀K:Act->World->Prop,Hid (∀a w,Uz P md ops Q S z n (up.setIfInBounds z true) a w->K a w)->if Region.wanted o (yielded ops a.tmps)=true then Oper.wp P o a w K Q else K (a.put o.dst undef) w):Uz P md ops Q S z (n+1) up a w :=
 ⟨fun h0=>(by rw [hr]at h0;cases h0),fun j hj=>by
  rw [hr,List.mem_singleton]at hj;subst hj;exact wpOp_step ho (fun K hK=>h K (Qq (fun a w hW=>hK a w ⟨fun hne=>absurd rfl hne,hW⟩)))⟩
theorem Ms {up:Array Bool} {a:Act} {w:World}(hr:Region.ready md ops up= [])(h:Q .normal a w):∀n,Uz P md ops Q S z n up a w
 |0=>⟨hr,h⟩
 |_+1=>⟨fun _=>h,by rw [hr];simp⟩
theorem Pb {id:Nat} {a:Act} {w:World}(z:Nat)(S:World->Prop)(hm:P.follows .mixedOrders=true)(hS:S w.drew)(h:S w.drew->Uz P .any ops Q S z ops.size (Array.replicate ops.size false) a w.drew):(Code.region id ops true).wp P Q a w :=
 wp_region_any hm (Uz.any _ _ _ _ (h hS))
end
theorem Qb {P:Program} {md:Region.Mode} {ops:Array Oper} {Q:Exit->Act->World->Prop} {S:World->Prop} {z n:Nat} {up:Array Bool} {a a':Act} {w:World}(h:Uz P md ops Q S z n up a' w)(e:a=a':=by(try simp only [Act.put,List.setIfInBounds_toArray,List.set_cons_zero,List.set_cons_succ,List.getElem_toArray,List.getElem_cons_succ,List.getElem_cons_zero]);exact rfl):Uz P md ops Q S z n up a w:=e▸h
section
variable {P:Program} {md:Region.Mode} {ops:Array Oper} {Q:Exit->Act->World->Prop} {S:World->Prop} {z:Nat}
theorem utk(i:Nat) {oi:Oper} {v:Value} {n:Nat} {up:Array Bool} {a a':Act} {w:World}(hS:S w)
 (h:Uz P md ops Q S z n (up.setIfInBounds i true) a' w)
 (hi:ops[i]?=some oi:=by exact rfl)(hs:Region.noSelect ops=true:=by kernel_rfl)(hf:Region.free md ops up i=true:=by kernel_rfl)(hr:(Region.ready md ops up).contains i=true:=by kernel_rfl)(hz:Qzc md ops z i=true:=by kernel_rfl)
 (hy:YieldsIf P ops S oi v a:=by refine Or.inl ⟨by rfl,?_⟩;intro w' hSw;(try dsimp only at hSw);go_simp;(try with_reducible rfl))
 (hQ:∀c a w,Q (.panic c) (a.put oi.dst v) w->Q (.panic c) a w:=by exact fun _ _ _ h=>h)
 (ha:a.put oi.dst v=a':=by(try simp only [Act.put,List.setIfInBounds_toArray,List.set_cons_zero,List.set_cons_succ,List.getElem_toArray,List.getElem_cons_succ,List.getElem_cons_zero]);exact rfl):Uz P md ops Q S z (n+1) up a w :=
 Zr hi hs hf hr hz hQ hy hS (by rw [ha];exact h)
end
section
variable {a b:World} {p:Addr} {v:Value}
theorem xd(hb:p.block < a.heap.size)(f:a.cell? p=some v)(h:Ext a b:=by repeat(first|exact Qz|assumption|apply Ext.alloc|apply Ext.drew|apply Ext.setCell)):b.cell? p=some v:=(h.cell hb).trans f
end
theorem Cn(v1 v2:Value)(f g:List Nd)(w:World)(h1:Fml w v1 f)(h2:Fml w v2 g):
 Calls Tryz.prog 122 #[v1,v2] w fun e w'=>∃u,e=.returned u/\Ye w w' u (orN f g):=by
 have H1:=Qq h1;have H2:=Qq h2;obtain⟨A1,c1,rfl,_⟩:=Qg h1;obtain⟨A2,c2,rfl,_⟩:=Qg h2;clear h1 h2;go_enter Tryz.func122,Tryz.ntmps122;go_wp2_with fail;refine(Gz ⟨6,0,0,0,0,0⟩ _ [f,g] _ (Ux (Qe (by omega) (by omega)) (Qe (by omega) (by omega)) (Qe (by omega) (by omega)) (Qe (by omega) (by omega)) (Qe (by omega) (by omega)) (Qe (by omega) (by omega))) (Cl H1.out H2.out) (by simp)).mono ?_;rintro e w1 ⟨u,rfl,hm⟩;have HM:=Qq hm;clear hm;go_wp2_with fail;go_ret;exact⟨_,rfl,(HM.out.before (Qz.alloc _))⟩
theorem Qqd(v1 v2:Value)(f g:List Nd)(w:World)(h1:Fml w v1 f)(h2:Fml w v2 g):
 Calls Tryz.prog 126 #[v1,v2] w fun e w'=>∃u,e=.returned u/\Ye w w' u (Lo f g):=by
 have H1:=Qq h1;have H2:=Qq h2;obtain⟨A1,c1,rfl,_⟩:=Qg h1;obtain⟨A2,c2,rfl,_⟩:=Qg h2;clear h1 h2;go_enter Tryz.func126,Tryz.ntmps126;go_wp2_with fail;refine(Gz ⟨8,0,0,0,0,0⟩ _ [f,g] _ (Ux (Qe (by omega) (by omega)) (Qe (by omega) (by omega)) (Qe (by omega) (by omega)) (Qe (by omega) (by omega)) (Qe (by omega) (by omega)) (Qe (by omega) (by omega))) (Cl H1.out H2.out) (by simp)).mono ?_;rintro e w1 ⟨u,rfl,hm⟩;have HM:=Qq hm;clear hm;go_wp2_with fail;go_ret;exact⟨_,rfl,(HM.out.before (Qz.alloc _))⟩
def Ps(m:Nat)(w:World)(vo u:Value):Prop:=∀g,u.ownBlock=some g->g < w.heap.size/\vo.ownBlock≠some g/\m<=g
theorem Ps.ext {m:Nat} {w w':World} {vo u:Value}(h:Ps m w vo u)(he:Ext w w'):Ps m w' vo u:=fun g hg=>⟨Qy (h g hg).1 he.size,(h g hg).2⟩
theorem Qfr:(Tryz.prog.info? 31).map (fun i=>(i.zero,i.size,i.bytes))=some (some (.slice none 0 0),1,24):=by kernel_rfl
theorem Nds.keepF {w w':World} {v:Value} {l:List Nd}(h:Nds w v l)(hb:∀g,v.ownBlock=some g->g < w.heap.size->w'.heap[g]?=w.heap[g]?)(hs:w.heap.size<=w'.heap.size):Nds w' v l:=by
 obtain⟨A,c,rfl,h1,h2,h3⟩:=h;refine⟨A,c,rfl,h1,h2,fun hn=> ?_⟩;obtain⟨ad,rfl,hlt,hc⟩:=h3 hn;refine⟨ad,rfl,Qy hlt hs,fun k n hk=>(hc k n hk).keep fun p hp=>World.cell?_of_block ?_⟩;rw [hp,Qn];exact hb ad.block rfl hlt
structure Ud (w0 w:World) (vo:Value) (out:List (List Nd)):Prop where
 ext:Ext w0 w
 row:∃us,w.ownsRow w0.heap.size 31 1 vo out.length us/\∀(k:Nat) (s:List Nd),out[k]?=some s->∃u,us[k]?=some u/\Fml w u s/\Ps w0.heap.size w vo u
theorem Ud.ext_ {w0 w w':World} {vo:Value} {out:List (List Nd)}(h:Ud w0 w vo out)(he:Ext w w'):Ud w0 w' vo out:=by
 obtain⟨us,hr,hu⟩:=h.row;refine⟨h.ext.trans he,us,Jt hr he,fun k s hk=> ?_⟩;obtain⟨u,a,b,c⟩:=hu k s hk;exact⟨u,a,b.ext he,c.ext he⟩
theorem Ud.nil(w:World):Ud w w (.slice none 0 0) []:=⟨Qz,[],World.ownsRow_nil _ _ _ _,fun k s h=>by simp at h⟩
theorem Oh {w:World} {base n:Nat} {t:TypeId} {v:Value} {us:List Value}(h:w.ownsRow base t 1 v n us)(hn:0 < n):
 ∃g cap,v=.slice (some ⟨g,0,none⟩) n cap/\g < w.heap.size/\n<=cap/\cap<=maxLen/\∀i z,us[i]?=some z->w.cell? ⟨g,i,none⟩=some z:=by
 rcases h.2 with⟨_,h0⟩|⟨g,cap,cur,rfl,_,hg,hnc,hm,hs,ht⟩
 ·omega
 refine⟨g,cap,rfl,Qm hg,hnc,hm,fun i z h1=> ?_⟩;rw [<-ht,List.getElem?_take]at h1
 split at h1
 ·have h2:cur[i]?=some z:=by simpa using h1
  simp [World.cell?,hg,h2]
 cases h1
theorem Ud.keep {w0 w w':World} {vo:Value} {out:List (List Nd)}(h:Ud w0 w vo out)(hb:∀g,w0.heap.size<=g->g < w.heap.size->w'.heap[g]?=w.heap[g]?)(hs:w.heap.size<=w'.heap.size)(he:Ext w0 w'):Ud w0 w' vo out:=by
 obtain⟨us,hr,hu⟩:=h.row;refine⟨he,us,⟨hr.1,?_⟩,fun k s hk=> ?_⟩
 ·rcases hr.2 with h0|⟨g,cap,cur,e,h1,h2,h3,h4,h5,h6⟩
  ·exact .inl h0
  exact .inr ⟨g,cap,cur,e,h1,(hb g h1 (Qm h2)).trans h2,h3,h4,h5,h6⟩
 obtain⟨u,a,b,c⟩:=hu k s hk;exact⟨u,a,⟨b.1.keepF (fun g hg _=>hb g (c g hg).2.2 (c g hg).1) hs,b.2⟩,fun g hg=>⟨Qy (c g hg).1 hs,(c g hg).2⟩⟩
theorem Ud.fmls {w0 w:World} {vo:Value} {out:List (List Nd)}(h:Ud w0 w vo out):Rl w vo out:=by
 obtain⟨ss,hs,hv⟩:=h.row;by_cases h0:0 < out.length
 ·obtain⟨g,cap,rfl,hg,h1,h2,hc⟩:=Oh hs h0;refine⟨_,cap,rfl,h1,h2,fun _=>⟨_,rfl,hg,fun k f hk=> ?_⟩⟩;obtain⟨u,a,b,_⟩:=hv k f hk;exact⟨u,by rw [Xs];exact hc k u a,b⟩
 have e:out= []:=List.length_eq_zero_iff.1 (by omega);subst e;obtain⟨A,c,rfl⟩:=Zq hs;rcases hs.2 with⟨e,_⟩|⟨g,cap,cur,e,_,_,hn,hm,_⟩
 ·injection e with e1 _ e2;subst e1 e2;exact⟨_,_,rfl,Nat.le_refl _,by unfold maxLen;omega,fun h=>absurd rfl h⟩
 injection e with e1 _ e2;subst e1 e2;exact⟨_,_,rfl,Nat.zero_le _,hm,fun h=>absurd rfl h⟩
theorem Ud.push {w0 W w4:World} {vo v' x:Value} {out:List (List Nd)} {s:List Nd} {ss:List Value}(he:Ext w0 W)(hs:W.ownsRow w0.heap.size 31 1 vo out.length ss)(hv:∀(k:Nat) (s:List Nd),out[k]?=some s->∃u,ss[k]?=some u/\Fml W u s/\Ps w0.heap.size W vo u)
 (hrow:w4.ownsRow w0.heap.size 31 1 v' (out.length+1) (ss++ [x]))(hg:W.grownBy w4 vo.ownBlock)(hat:v'.ownBlock=vo.ownBlock\/v'.ownBlock=some W.heap.size)(hx:Fml W x s)(hxf:Ps w0.heap.size W vo x):
 Ud w0 w4 v' (out++ [s]):=by
 have hlen:ss.length=out.length:=by simpa using hs.1
 have hkeep:∀g,g < W.heap.size->vo.ownBlock≠some g->w4.heap[g]?=W.heap[g]?:=fun g h1 h2=>hg.block g h1 (fun e=>h2 e.symm)
 have haway:∀u,Ps w0.heap.size W vo u->Ps w0.heap.size w4 v' u:=fun u hu g hgu=>by
  obtain⟨a,b,hm⟩:=hu g hgu;refine⟨Qy a hg.size,fun e=> ?_,hm⟩;rcases hat with e1|e1
  ·exact b (e1.symm.trans e)
  rw [e1]at e;injection e with e;omega
 have hfml:∀u s,Ps w0.heap.size W vo u->Fml W u s->Fml w4 u s:=fun u s ha hi=>⟨hi.1.keepF (fun g hg' _=>hkeep g (ha g hg').1 (ha g hg').2.1) hg.size,hi.2⟩
 refine⟨he.grown hg (fun g hg'=>(hs.lt g hg').1),ss++ [x],by rw [List.length_append];exact hrow,fun k s' hk=> ?_⟩;by_cases hk':k < out.length
 ·rw [List.getElem?_append_left hk']at hk;obtain⟨u,a,b,c⟩:=hv k s' hk;exact⟨u,by rw [List.getElem?_append_left (by omega)];exact a,hfml u s' c b,haway u c⟩
 rw [List.getElem?_append_right (by omega)]at hk;have hk0:k=out.length:=by
  by_cases e:k - out.length=0
  ·omega
  rw [List.getElem?_eq_none (by simp;omega)]at hk;cases hk
 subst hk0;simp at hk;subst hk;exact⟨x,by rw [List.getElem?_append_right (by omega),hlen];simp,hfml x _ hxf hx,haway x hxf⟩
theorem Qym {w W:World} {vo x:Value} {B n k:Nat} {us zs:List Value} {e:TypeId} {sz m:Nat}(hB:w.heap.size<=B)(hx:W.ownsRow B e sz x n zs)(hs:w.ownsRow m 31 1 vo k us)(hm:m<=w.heap.size):Ps m W vo x:=fun g hg=>by
 obtain⟨h1,h2⟩:=hx.lt g hg;exact⟨h2,fun e=>by have:=(hs.lt g e).2;omega,by omega⟩
def Ct(p:List Nd->Bool)(l:List (List Nd)):Int:=match l.findIdx? p with|none=> -1|some j=>j
theorem Iq(p:List Nd->Bool):∀(l:List (List Nd)) (k:Nat) (s:List Nd),l[k]?=some s->p s=true->(∀t∈l.take k,p t=false)->l.findIdx? p=some k
 |[],k,s,h,_,_=>by simp at h
 |a :: r,0,s,h,hp,_=>by
  simp only [List.getElem?_cons_zero,Option.some.injEq]at h;subst h;rw [List.findIdx?_cons,hp];rfl
 |a :: r,k+1,s,h,hp,hn=>by
  have ha:p a=false:=hn a (by simp);rw [List.findIdx?_cons,ha,Iq p r k s (by simpa using h) hp (fun t ht=>hn t (by simp [ht]))];rfl
theorem Hw(p:List Nd->Bool):∀(l:List (List Nd)),(∀t∈l,p t=false)->l.findIdx? p=none
 |[],_=>by simp
 |a :: r,hn=>by
  rw [List.findIdx?_cons,hn a (by simp),Hw p r (fun t ht=>hn t (by simp [ht]))];rfl
theorem Qd9(g:Nat)(lb:Array Value)(eg:∀args w,(callFunc g args).run Tryz.prog w=.ok (.enter g args) w)(p:List Nd->Bool)(v:Value)(l:List (List Nd))(w:World)(h:Rl w v l)
 (hp:∀(W:World) (u:Value) (s:List Nd),Ext w W->Fml W u s->Calls Tryz.prog g (#[u]++lb) W fun e w'=>e=.returned (.bool (p s))/\Ext W w'):
 Calls Tryz.prog 54 #[v,.func (.func g) #[] lb] w fun e w'=>e=.returned (.int .i64 (Ct p l))/\Ext w w':=by
 obtain⟨A,c,rfl,hcap,hmax,hr⟩:=h;unfold maxLen at hmax;have HR:=Qq hr;have HP:=Qq hp;clear hr hp;go_enter Tryz.func54,Tryz.ntmps54;go_wp2_with fail;go_loopw [5,8] (fun _ i wr=>∃k:Nat,k<=l.length/\i=.int .i64 (k:Int)/\Hid (∀t∈l.take k,p t=false)/\Hid (Ext w wr)) (fun _ i _=>l.length - (intOf i).toNat)
 case atStart=>exact⟨0,Nat.zero_le _,rfl,Qq (by simp),Qq Qz⟩
 case round =>
  obtain⟨k,hk,rfl,HNI,HX⟩:=hrel;by_cases hlt2:k < l.length
  ·obtain⟨s,hs⟩:∃s,l[k]?=some s:=⟨_,Qv hlt2⟩;obtain⟨ad,rfl,hb1,hc1⟩:=HR.out (by intro e;rw [e]at hlt2;simp at hlt2);obtain⟨u,hu,hf⟩:=hc1 k s hs;have a0:=(HX.out.cell (p:=ad.add k) (Qj hb1)).trans hu;have HF:=Qq (hf.ext HX.out);have HA:=Qq hs;have hk1:(k:Int) < (l.length:Int):=by omega
   clear hs hc1 hf hu;cases hps:p s
   ·have HT:Hid (∀t∈l.take (k+1),p t=false):=Qq (by
     rw [Yr HA.out];intro t ht;rcases List.mem_append.1 ht with ht|ht
     ·exact HNI.out t ht
     rw [List.mem_singleton.1 ht];exact hps)
    go_wp2_with(refine(HP.out _ u s (by exact HX.out.trans (by repeat(first|exact Qz|assumption|apply Ext.alloc|apply Ext.drew))) (by exact HF.out.ext (by repeat(first|exact Qz|assumption|apply Ext.alloc|apply Ext.drew)))).mono ?_;rintro e w1 ⟨rfl,hx⟩;rw [hps]);go_roundw
    case rel=>exact⟨k+1,by omega,by go_num,HT,Qq (HX.out.trans (by first|exact hx|exact Ext.trans (by repeat(first|exact Qz|assumption|apply Ext.alloc|apply Ext.drew)) hx))⟩
    case measure=>simp [intOf];omega
   have HE:=Qq (show Ct p l=(k:Int) by unfold Ct;rw [Iq p l k s HA.out hps HNI.out]);go_wp2_with(refine(HP.out _ u s (by exact HX.out.trans (by repeat(first|exact Qz|assumption|apply Ext.alloc|apply Ext.drew))) (by exact HF.out.ext (by repeat(first|exact Qz|assumption|apply Ext.alloc|apply Ext.drew)))).mono ?_;rintro e w1 ⟨rfl,hx⟩;rw [hps]);go_ret;exact⟨by rw [HE.out] <;> rfl,HX.out.trans (by first|exact hx|exact Ext.trans (by repeat(first|exact Qz|assumption|apply Ext.alloc|apply Ext.drew)) hx)⟩
  obtain rfl:l.length=k:=by omega
  have HE:=Qq (show Ct p l= -1 by
   unfold Ct;rw [Hw p l (fun t ht=>HNI.out t (by rw [List.take_of_length_le (Nat.le_refl _)];exact ht))])
  go_wp2_with fail;go_ret;exact⟨by rw [HE.out] <;> rfl,HX.out⟩
end Go.Proofs.YtmidgcldljfkcaaGreatDoor
