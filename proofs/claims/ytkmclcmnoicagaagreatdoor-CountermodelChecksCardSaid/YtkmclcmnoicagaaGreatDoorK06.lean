/- Bits of words, as a walk shows them. -/
import Derived.Test.YtkmclcmnoicagaaGreatDoorK05
import Derived.Laws.Bits64b
import Derived.Deep.RegionLaw
import Derived.OrdersHeld
import Derived.Deep.RegionHeld
import Derived.Deep.MidRow
namespace Go.Proofs.YtkmclcmnoicagaaGreatDoor
set_option maxRecDepth 100000
set_option maxHeartbeats 128000000
open Go.RowKit
theorem Sz(s k:Nat):s.testBit k=(s / 2^k % 2==1):=by
 rw [Nat.testBit_eq_decide_div_mod_eq];rfl
theorem Tf(s k:Nat):(s:Int) / 2^k=((s / 2^k:Nat):Int):=by
 rw [show((2:Int)^k)=((2^k:Nat):Int) by simp];rfl
theorem Bz(s k:Nat)(hs:s < 18446744073709551616):(bits .and .u64 ((s:Int) / 2^k) 1==1)=s.testBit k:=by
 have zG:s / 2^k < 18446744073709551616:=Nat.lt_of_le_of_lt (Nat.div_le_self _ _) hs;rw [Tf,show(1:Int)=((1:Nat):Int)from rfl,bits_and_u64_nat _ 1 zG (by decide),Nat.and_one_is_mod,Sz];generalize s / 2^k % 2=r;rw [Bool.eq_iff_iff,beq_iff_eq,beq_iff_eq];omega
theorem My(a b:Nat)(ha:a < 9223372036854775808)(hb:b < 9223372036854775808):bits .and .i64 (a:Int) (b:Int)=((a&&&b:Nat):Int):=by
 have hx:a&&&b < 2^63:=Nat.and_lt_two_pow _ (by omega);show IntKind.i64.wrap ((BitVec.ofInt 64 (a:Int)&&&BitVec.ofInt 64 (b:Int)).toNat:Int)=_;rw [BitVec.toNat_and,Ho a ha,Ho b hb,IntKind.wrap_i64];omega
theorem Pq(s k:Nat)(hs:s < 9223372036854775808):(bits .and .i64 ((s:Int) / 2^k) 1==1)=s.testBit k:=by
 have zG:s / 2^k < 9223372036854775808:=Nat.lt_of_le_of_lt (Nat.div_le_self _ _) hs;rw [Tf,show(1:Int)=((1:Nat):Int)from rfl,My _ 1 zG (by decide),Nat.and_one_is_mod,Sz];generalize s / 2^k % 2=r;rw [Bool.eq_iff_iff,beq_iff_eq,beq_iff_eq];omega
theorem Wr(s k:Nat)(hs:s < 9223372036854775808):(bits .and .i64 ((s:Int) / 2^k) 1==0)= !s.testBit k:=by
 have zG:s / 2^k < 9223372036854775808:=Nat.lt_of_le_of_lt (Nat.div_le_self _ _) hs;rw [Tf,show(1:Int)=((1:Nat):Int)from rfl,My _ 1 zG (by decide),Nat.and_one_is_mod,Sz];rcases Nat.mod_two_eq_zero_or_one (s / 2^k)with h|h <;> rw [h] <;> rfl
inductive Tr where
 |leaf (n:Nd)
 |one (n:Nd) (a:Tr)
 |two (n:Nd) (a b:Tr)
def Nd.head(n:Nd):Nd:=n.with_ 0 0
def Tr.ok:Tr->Prop
 |.leaf n=>Qw n.op=false/\Qc n.op=false
 |.one n a=>Qw n.op=true/\Qc n.op=false/\n.head=n/\a.ok
 |.two n a b=>Qw n.op=true/\Qc n.op=true/\n.head=n/\a.ok/\b.ok
def Tr.size:Tr->Nat
 |.leaf _=>1
 |.one _ a=>a.size+1
 |.two _ a b=>a.size+b.size+1
def Tr.top:Tr->Nd
 |.leaf n=>n
 |.one n _=>n
 |.two n _ _=>n
def trF(f:List Nd):Nat->Nat->Tr
 |0,_=> .leaf Nd.zero
 |k+1,i=>bif Qc (f.getD i Nd.zero).op then .two (f.getD i Nd.zero).head (trF f k (f.getD i Nd.zero).x.toNat) (trF f k (f.getD i Nd.zero).y.toNat)
  else bif Qw (f.getD i Nd.zero).op then .one (f.getD i Nd.zero).head (trF f k (f.getD i Nd.zero).x.toNat)else .leaf (f.getD i Nd.zero)
def tr(f:List Nd)(i:Nat):Tr:=trF f (i+1) i
def Qe(f:List Nd):Tr:=tr f (f.length - 1)
def Yi(n:Nd)(a b:Tr):Tr:=bif Qc n.op then .two n.head a b else bif Qw n.op then .one n.head a else .leaf n
theorem Qve {f:List Nd}(hf:Wf f):∀(k i:Nat),i < k->i < f.length->trF f k i=tr f i:=by
 intro k
 induction k using Nat.strongRecOn with
 |_ k ih =>
  intro i h hi;cases k with
  |zero=>omega
  |succ k =>
   obtain⟨n,hn⟩:∃n,f[i]?=some n:=⟨_,Qv hi⟩;obtain⟨hx,hy⟩:=hf i n hn;have e:∀(b:Nat),b < i->trF f k b=trF f i b:=fun b hb=>by
    rw [ih k (by omega) b (by omega) (by omega)];by_cases hik:i=k
    ·subst hik;exact(ih i (by omega) b hb (by omega)).symm
    exact(ih i (by omega) b hb (by omega)).symm
   unfold tr;simp only [trF,Cq hn];cases h2:Qc n.op
   ·cases h1:Qw n.op
    ·rfl
    have:=hx h1;simp only [cond_true,cond_false];rw [e _ (by omega)]
   have h1:=Vn h2;have:=hx h1;have:=hy h2;simp only [cond_true];rw [e _ (by omega),e _ (by omega)]
theorem Xk {f:List Nd}(hf:Wf f) {i:Nat} {n:Nd}(hn:f[i]?=some n):tr f i=Yi n (tr f n.x.toNat) (tr f n.y.toNat):=by
 have hi:i < f.length:=(List.getElem?_eq_some_iff.1 hn).1;obtain⟨hx,hy⟩:=hf i n hn
 conv=>lhs;unfold tr trF
 simp only [Cq hn,Yi];cases h2:Qc n.op
 ·cases h1:Qw n.op
  ·rfl
  have:=hx h1;simp only [cond_true,cond_false];rw [Qve hf _ _ (by omega) (by omega)]
 have h1:=Vn h2;have:=hx h1;have:=hy h2;simp only [cond_true];rw [Qve hf _ _ (by omega) (by omega),Qve hf _ _ (by omega) (by omega)]
theorem Qlk {n:Nd} {a a' b b':Tr}(hx:Qw n.op=true->a=a')(hy:Qc n.op=true->b=b'):Yi n a b=Yi n a' b':=by
 unfold Yi;cases h2:Qc n.op
 ·cases h1:Qw n.op
  ·rfl
  rw [hx h1];rfl
 rw [hx (Vn h2),hy h2]
theorem Fa {f g:List Nd}(hf:Wf f)(hg:Wf g)(hp:f <+: g):∀i,i < f.length->tr g i=tr f i:=by
 intro i
 induction i using Nat.strongRecOn with
 |_ i ih =>
  intro hi;obtain⟨n,hn⟩:∃n,f[i]?=some n:=⟨_,Qv hi⟩;obtain⟨hx,hy⟩:=hf i n hn;have RP:g[i]?=some n:=by
   obtain⟨t,rfl⟩:=hp;rw [List.getElem?_append_left hi];exact hn
  rw [Xk hf hn,Xk hg RP];exact Qlk (fun h=>by have:=hx h;exact ih _ (by omega) (by omega)) (fun h=>by have:=hy h;exact ih _ (by omega) (by omega))
theorem So(n:Nd):n.head.head=n.head:=by
 unfold Nd.head Nd.with_;cases Qw n.op <;> cases Qc n.op <;> rfl
theorem Qzh(n:Nd)(a b:Nat):(n.with_ a b).head=n.head:=by
 unfold Nd.head Nd.with_;cases Qw n.op <;> cases Qc n.op <;> rfl
theorem Qqw(n:Nd)(a b:Nat):n.head.with_ a b=n.with_ a b:=by
 unfold Nd.head Nd.with_;cases Qw n.op <;> cases Qc n.op <;> rfl
theorem Qx7(n:Nd)(a b:Nat):(n.with_ a b).op=n.op:=rfl
theorem Dp(n:Nd):n.head.op=n.op:=rfl
theorem Qix {n:Nd} {a b:Tr}(ha:Qw n.op=true->a.ok)(hb:Qc n.op=true->b.ok):(Yi n a b).ok:=by
 unfold Yi;cases h2:Qc n.op
 ·cases h1:Qw n.op
  ·exact⟨h1,h2⟩
  exact⟨h1,h2,So n,ha h1⟩
 have h1:=Vn h2;exact⟨h1,h2,So n,ha h1,hb h2⟩
theorem Qf2 {f:List Nd}(hf:Wf f):∀i,i < f.length->(tr f i).ok:=by
 intro i
 induction i using Nat.strongRecOn with
 |_ i ih =>
  intro hi;obtain⟨n,hn⟩:∃n,f[i]?=some n:=⟨_,Qv hi⟩;obtain⟨hx,hy⟩:=hf i n hn;rw [Xk hf hn];exact Qix (fun h=>by have:=hx h;exact ih _ (by omega) (by omega)) (fun h=>by have:=hy h;exact ih _ (by omega) (by omega))
def ins:Tr->List Nd->List Nd×Nat
 |.leaf n,o=>(Zo o n,o.idxOf n)
 |.one n a,o=>(Zo (ins a o).1 (n.with_ (ins a o).2 0),(ins a o).1.idxOf (n.with_ (ins a o).2 0))
 |.two n a b,o=>(Zo (ins b (ins a o).1).1 (n.with_ (ins a o).2 (ins b (ins a o).1).2),(ins b (ins a o).1).1.idxOf (n.with_ (ins a o).2 (ins b (ins a o).1).2))
def Qn(t:Tr):List Nd:=(ins t []).1
theorem Qfk {n:Nd}(h1:Qw n.op=false)(h2:Qc n.op=false)(a b:Nat):n.with_ a b=n:=by
 unfold Nd.with_;rw [h1,h2];rfl
theorem Qwd {n:Nd}(h2:Qc n.op=false)(a b c:Nat):n.with_ a b=n.with_ a c:=by
 unfold Nd.with_;rw [h2];rfl
theorem Lx {f:List Nd}(hf:Wf f):∀(i:Nat) (o:List Nd),i < f.length->Za f i o=ins (tr f i) o:=by
 intro i
 induction i using Nat.strongRecOn with
 |_ i ih =>
  intro o hi;obtain⟨n,hn⟩:∃n,f[i]?=some n:=⟨_,Qv hi⟩;obtain⟨hx,hy⟩:=hf i n hn;rw [Ff hf hn,Xk hf hn];unfold Yi opX opY;cases h2:Qc n.op
  ·cases h1:Qw n.op
   ·simp only [cond_false,ins,Bool.false_eq_true,if_false,Qfk h1 h2]
   have:=hx h1;simp only [cond_false,cond_true,ins,Bool.false_eq_true,if_false,if_true,Qqw];rw [ih _ (by omega) _ (by omega),Qwd h2 _ _ 0]
  have h1:=Vn h2;have:=hx h1;have:=hy h2;simp only [h1,cond_true,ins,if_true,Qqw];rw [ih n.x.toNat (by omega) o (by omega),ih n.y.toNat (by omega) _ (by omega)]
theorem Qx6 {o:List Nd} {m:Nd}(ho:Wf o)(hx:Qw m.op=true->0<=m.x/\m.x < o.length)(hy:Qc m.op=true->0<=m.y/\m.y < o.length):Wf (Zo o m):=by
 unfold Zo
 split
 ·exact ho
 exact Cg ho hx hy
theorem Qyr(o:List Nd)(m:Nd):(Zo o m)[o.idxOf m]?=some m:=by
 rw [<-Oc];rw [List.getElem?_eq_getElem (List.idxOf_lt_length_of_mem (Qvy o m))];rw [List.getElem_idxOf]
structure Zj3 (t:Tr) (o:List Nd):Prop where
 wf:Wf (ins t o).1
 pre:o <+:(ins t o).1
 lt:(ins t o).2 < (ins t o).1.length
 tree:tr (ins t o).1 (ins t o).2=t
theorem Xr:∀(t:Tr) (o:List Nd),t.ok->Wf o->Zj3 t o
 |.leaf n,o,⟨h1,h2⟩,ho=>by
  have hw:Wf (Zo o n):=Qx6 ho (fun h=>by rw [h1]at h;cases h) (fun h=>by rw [h2]at h;cases h);refine⟨hw,Xn _ _,Dd _ _,?_⟩;show tr (Zo o n) (o.idxOf n)=_;rw [Xk hw (Qyr o n)];unfold Yi;rw [h1,h2];rfl
 |.one n a,o,⟨h1,h2,h3,ha⟩,ho=>by
  have A:=Xr a o ha ho;have hw:Wf (Zo (ins a o).1 (n.with_ (ins a o).2 0)):=Qx6 A.wf (fun h=>by
   have:=A.lt;simp only [Nd.with_,h1,cond_true]
   omega) (fun h=>by rw [Qx7,h2]at h;cases h)
  refine⟨hw,A.pre.trans (Xn _ _),Dd _ _,?_⟩;show tr (Zo (ins a o).1 (n.with_ (ins a o).2 0)) ((ins a o).1.idxOf (n.with_ (ins a o).2 0))=_;rw [Xk hw (Qyr _ _)];unfold Yi;rw [Qx7,h1,h2,Qzh,h3];have e:(n.with_ (ins a o).2 0).x.toNat=(ins a o).2:=by simp [Nd.with_,h1]
  rw [e,Fa A.wf hw (Xn _ _) _ A.lt,A.tree];rfl
 |.two n a b,o,⟨h1,h2,h3,ha,hb⟩,ho=>by
  have A:=Xr a o ha ho;have B:=Xr b _ hb A.wf;have zG:(ins a o).2 < (ins b (ins a o).1).1.length:=Qy A.lt B.pre.length_le;have hw:Wf (Zo (ins b (ins a o).1).1 (n.with_ (ins a o).2 (ins b (ins a o).1).2)):=Qx6 B.wf (fun h=>by
   simp only [Nd.with_,h1,cond_true]
   omega) (fun h=>by
   have:=B.lt;simp only [Nd.with_,h2,cond_true]
   omega)
  refine⟨hw,(A.pre.trans B.pre).trans (Xn _ _),Dd _ _,?_⟩;show tr (Zo (ins b (ins a o).1).1 (n.with_ (ins a o).2 (ins b (ins a o).1).2)) ((ins b (ins a o).1).1.idxOf (n.with_ (ins a o).2 (ins b (ins a o).1).2))=_;rw [Xk hw (Qyr _ _)];unfold Yi;rw [Qx7,h2,Qzh,h3];have e:(n.with_ (ins a o).2 (ins b (ins a o).1).2).x.toNat=(ins a o).2:=by simp [Nd.with_,h1]
  have e':(n.with_ (ins a o).2 (ins b (ins a o).1).2).y.toNat=(ins b (ins a o).1).2:=by simp [Nd.with_,h2]
  rw [e,e',Fa A.wf hw (B.pre.trans (Xn _ _)) _ A.lt,A.tree,Fa B.wf hw (Xn _ _) _ B.lt,B.tree];rfl
def Below(N:Nat)(o:List Nd):Prop:=∀k,k < o.length->(tr o k).size < N
theorem Wa {N:Nat} {o:List Nd} {m:Nd}(ho:Wf o)(hw:Wf (Zo o m))(h:Below N o)(hm:(tr (Zo o m) (o.idxOf m)).size < N):Below N (Zo o m):=by
 intro k hk;by_cases hko:k < o.length
 ·rw [Fa ho hw (Xn _ _) _ hko];exact h k hko
 have zQ:m∉o:=fun oR=>by
  unfold Zo at hk;rw [if_pos oR]at hk;exact hko hk
 have:k=o.idxOf m:=by
  rw [List.idxOf_eq_length zQ];unfold Zo at hk;rw [if_neg zQ]at hk;simp at hk;omega
 rw [this];exact hm
theorem Tz:∀(t:Tr) (o:List Nd) (N:Nat),t.ok->Wf o->Below N o->t.size < N->Below N (ins t o).1
 |.leaf n,o,N,ht,ho,hb,hs=>by
  have I:=Xr (.leaf n) o ht ho;exact Wa ho I.wf hb (Nat.lt_of_le_of_lt (Nat.le_of_eq (congrArg Tr.size I.tree)) hs)
 |.one n a,o,N,ht,ho,hb,hs=>by
  have I:=Xr (.one n a) o ht ho;have A:=Xr a o ht.2.2.2 ho;have XP:a.size+1 < N:=hs;exact Wa A.wf I.wf (Tz a o N ht.2.2.2 ho hb (by omega)) (Nat.lt_of_le_of_lt (Nat.le_of_eq (congrArg Tr.size I.tree)) hs)
 |.two n a b,o,N,ht,ho,hb,hs=>by
  have I:=Xr (.two n a b) o ht ho;have A:=Xr a o ht.2.2.2.1 ho;have B:=Xr b _ ht.2.2.2.2 A.wf;have XP:a.size+b.size+1 < N:=hs;exact Wa B.wf I.wf (Tz b _ N ht.2.2.2.2 A.wf (Tz a o N ht.2.2.2.1 ho hb (by omega)) (by omega)) (Nat.lt_of_le_of_lt (Nat.le_of_eq (congrArg Tr.size I.tree)) hs)
theorem Qqg(N:Nat):Below N []:=fun k h=>absurd h (by simp)
theorem Qq2 {o:List Nd} {m:Nd} {t:Tr}(hb:Below t.size o)(ht:tr (Zo o m) (o.idxOf m)=t):o.idxOf m+1=(Zo o m).length:=by
 have zQ:m∉o:=fun hm=>by
  have zG:=List.idxOf_lt_length_of_mem hm;have:=hb _ zG;have e:Zo o m=o:=by unfold Zo;rw [if_pos hm]
  rw [e]at ht;rw [ht]at this;omega
 rw [List.idxOf_eq_length zQ];unfold Zo;rw [if_neg zQ];simp
theorem Qdz(t:Tr)(ht:t.ok):(ins t []).2+1=(Qn t).length:=by
 have I:=Xr t [] ht Ds;cases t with
 |leaf n=>exact Qq2 (Qqg _) I.tree
 |one n a =>
  have A:=Xr a [] ht.2.2.2 Ds;exact Qq2 (t:=.one n a) (Tz a [] _ ht.2.2.2 Ds (Qqg _) (Nat.lt_succ_self _)) I.tree
 |two n a b =>
  have A:=Xr a [] ht.2.2.2.1 Ds;have B:=Xr b _ ht.2.2.2.2 A.wf;have e:(Tr.two n a b).size=a.size+b.size+1:=rfl;exact Qq2 (t:=.two n a b) (Tz b _ _ ht.2.2.2.2 A.wf (Tz a [] _ ht.2.2.2.1 Ds (Qqg _) (by omega)) (by omega)) I.tree
theorem Wi {t:Tr}(ht:t.ok):Wf (Qn t):=(Xr t [] ht Ds).wf
theorem Uv {t:Tr}(ht:t.ok):0 < (Qn t).length:=by have:=Qdz t ht;omega
theorem Kr {t:Tr}(ht:t.ok):Qe (Qn t)=t:=by
 unfold Qe;have h:=Qdz t ht;rw [show(Qn t).length - 1=(ins t []).2 by omega];exact(Xr t [] ht Ds).tree
theorem Qmn {s t:Tr}(hs:s.ok)(ht:t.ok)(h:Qn s=Qn t):s=t:=by
 rw [<-Kr hs,<-Kr ht,h]
theorem Qhg {f:List Nd}(h:check f=0):(Qe f).ok:=Qf2 (Ym h) _ (by have:=(Jg h).1;omega)
theorem Ub {f:List Nd}(h:check f=0):Qg f=Qn (Qe f):=by
 rw [Qj7 h,Lx (Ym h) _ _ (by have:=(Jg h).1;omega)];rfl
theorem Rd {f:List Nd}(h:check f=0) {z:Nat}(hz:z < f.length):Jn f z=Qn (tr f z):=by
 unfold Jn;have e:(decide ((z:Int) < 0)||decide ((f.length:Int)<=(z:Int)))=false:=by simp;omega
 rw [h,e,Int.toNat_natCast,Lx (Ym h) _ _ hz];rfl
theorem Ki {f:List Nd}(h:check f=0):Qe (Qg f)=Qe f:=by
 rw [Ub h,Kr (Qhg h)]
theorem Ud {f:List Nd}(h:check f=0):Qg (Qg f)=Qg f:=by
 rw [Ub (Xi h),Ki h,Ub h]
theorem Qwz {a b:List Nd}(ha:Wf a)(hb:Wf b):∀k,k < b.length->tr (a++b.map (Ja a.length)) (a.length+k)=tr b k:=by
 intro k
 induction k using Nat.strongRecOn with
 |_ k ih =>
  intro hk;obtain⟨n,hn⟩:∃n,b[k]?=some n:=⟨_,Qv hk⟩;obtain⟨hx,hy⟩:=hb k n hn;have RP:(a++b.map (Ja a.length))[a.length+k]?=some (Ja a.length n):=by
   rw [List.getElem?_append_right (by omega),Nat.add_sub_cancel_left,List.getElem?_map,hn];rfl
  rw [Xk (Qvc ha hb) RP,Xk hb hn];have e0:(Ja a.length n).op=n.op:=rfl;have ehead:(Ja a.length n).head=n.head:=by
   unfold Nd.head Nd.with_ Ja;cases Qw n.op <;> cases Qc n.op <;> rfl
  unfold Yi;rw [e0,ehead];cases h2:Qc n.op
  ·cases h1:Qw n.op
   ·simp only [cond_false]
    congr 1
    unfold Ja;rw [h1,h2];rfl
   have:=hx h1;have e1:(Ja a.length n).x.toNat=a.length+n.x.toNat:=by simp only [Ja,h1,cond_true];omega
   rw [e1,ih _ (by omega) (by omega)];rfl
  have h1:=Vn h2;have:=hx h1;have:=hy h2;have e1:(Ja a.length n).x.toNat=a.length+n.x.toNat:=by simp only [Ja,h1,cond_true];omega
  have e2:(Ja a.length n).y.toNat=a.length+n.y.toNat:=by simp only [Ja,h2,cond_true];omega
  rw [e1,e2,ih n.x.toNat (by omega) (by omega),ih n.y.toNat (by omega) (by omega)];rfl
def Tr.all(P:Nd->Prop):Tr->Prop
 |.leaf n=>P n
 |.one n a=>P n/\a.all P
 |.two n a b=>P n/\a.all P/\b.all P
theorem Tq {P:Nd->Prop}(hP:∀n k1 k2,P n->P (n.with_ k1 k2)):∀(t:Tr) (o:List Nd),t.all P->(∀n∈o,P n)->∀n∈(ins t o).1,P n
 |.leaf n,o,ht,ho,m,hm=>by
  change m∈Zo o n at hm;unfold Zo at hm
  split at hm
  ·exact ho m hm
  rcases List.mem_append.1 hm with h|h
  ·exact ho m h
  simp at h;subst h;exact ht
 |.one n a,o,ht,ho,m,hm=>by
  change m∈Zo (ins a o).1 _ at hm;have ha:=Tq hP a o ht.2 ho;unfold Zo at hm
  split at hm
  ·exact ha m hm
  rcases List.mem_append.1 hm with h|h
  ·exact ha m h
  simp at h;subst h;exact hP _ _ _ ht.1
 |.two n a b,o,ht,ho,m,hm=>by
  change m∈Zo (ins b (ins a o).1).1 _ at hm;have ha:=Tq hP b _ ht.2.2 (Tq hP a o ht.2.1 ho);unfold Zo at hm
  split at hm
  ·exact ha m hm
  rcases List.mem_append.1 hm with h|h
  ·exact ha m h
  simp at h;subst h;exact hP _ _ _ ht.1
theorem Hq {P:Nd->Prop}(hP:∀n k1 k2,P n->P (n.with_ k1 k2)) {f:List Nd}(hf:Wf f)(hn:∀n∈f,P n):∀i,i < f.length->(tr f i).all P:=by
 intro i
 induction i using Nat.strongRecOn with
 |_ i ih =>
  intro hi;obtain⟨n,DO⟩:∃n,f[i]?=some n:=⟨_,Qv hi⟩;obtain⟨hx,hy⟩:=hf i n DO;have hp:=hn n (List.mem_of_getElem? DO);rw [Xk hf DO];unfold Yi;cases h2:Qc n.op
  ·cases h1:Qw n.op
   ·exact hp
   have:=hx h1;exact⟨hP _ _ _ hp,ih _ (by omega) (by omega)⟩
  have h1:=Vn h2;have:=hx h1;have:=hy h2;exact⟨hP _ _ _ hp,ih _ (by omega) (by omega),ih _ (by omega) (by omega)⟩
theorem Iv {t:Tr}(ht:t.ok) {k:Nat}(hk:k < (Qn t).length):(Qn (tr (Qn t) k)).length<=(Qn t).length:=by
 have hw:=Wi ht;have e:=Lx hw k [] hk;have h1:=Gs (Qn t) (Za (Qn t) k []).1;have h2:=Qzg hw k [] hk;have h3:=Wb (Qn t);have:Qn (tr (Qn t) k)=(Za (Qn t) k []).1:=by rw [e];rfl
 rw [this];omega
theorem Qq3 {t:Tr}(ht:t.ok):∃n,(Qn t)[(Qn t).length - 1]?=some n/\t=Yi n (tr (Qn t) n.x.toNat) (tr (Qn t) n.y.toNat)/\(Qw n.op=true->0<=n.x/\n.x < ((Qn t).length - 1:Nat))/\(Qc n.op=true->0<=n.y/\n.y < ((Qn t).length - 1:Nat)):=by
 have hw:=Wi ht;have hp:=Uv ht;obtain⟨n,hn⟩:∃n,(Qn t)[(Qn t).length - 1]?=some n:=⟨_,List.getElem?_eq_getElem (by omega)⟩;have h1:=Xk hw hn;have h2:tr (Qn t) ((Qn t).length - 1)=t:=Kr ht;rw [h2]at h1;exact⟨n,hn,h1,hw _ n hn⟩
theorem Qr7 {n:Nd} {a:Tr}(ht:(Tr.one n a).ok):(Qn a).length<=(Qn (.one n a)).length:=by
 obtain⟨m,_,h1,hx,_⟩:=Qq3 ht;have hp:=Uv ht;unfold Yi at h1;cases h2:Qc m.op
 ·cases h3:Qw m.op
  ·rw [h2,h3]at h1;cases h1
  rw [h2,h3]at h1;injection h1 with _ h1;have:=hx h3;have e:=Iv ht (k:=m.x.toNat) (by omega);rw [<-h1]at e;exact e
 rw [h2]at h1;cases h1
theorem Qx5 {n:Nd} {a b:Tr}(ht:(Tr.two n a b).ok):(Qn a).length<=(Qn (.two n a b)).length/\(Qn b).length<=(Qn (.two n a b)).length:=by
 obtain⟨m,_,h1,hx,hy⟩:=Qq3 ht;have hp:=Uv ht;unfold Yi at h1;cases h2:Qc m.op
 ·cases h3:Qw m.op
  ·rw [h2,h3]at h1;cases h1
  rw [h2,h3]at h1;cases h1
 rw [h2]at h1;injection h1 with _ h1 h3;have:=hx (Vn h2);have:=hy h2;refine⟨?_,?_⟩
 ·have e:=Iv ht (k:=m.x.toNat) (by omega);rw [<-h1]at e;exact e
 have e:=Iv ht (k:=m.y.toNat) (by omega);rw [<-h3]at e;exact e
theorem Qq4 {f:List Nd}(h:check f=0):Qe f=Yi (Zz f) (tr f (Zz f).x.toNat) (tr f (Zz f).y.toNat):=
 Xk (Ym h) (Ty (Jg h).1)
theorem Qp6 {m n:Nd} {a b c:Tr}(h:Yi m a b=.one n c):Qw m.op=true/\m.op=n.op/\m.i=n.i/\a=c:=by
 unfold Yi at h;cases h2:Qc m.op
 ·cases h1:Qw m.op
  ·rw [h2,h1]at h;cases h
  rw [h2,h1]at h;simp only [cond_false,cond_true,Tr.one.injEq]at h;exact⟨rfl,by rw [<-h.1];rfl,by rw [<-h.1];rfl,h.2⟩
 rw [h2]at h;cases h
theorem Qvq {f:List Nd} {n:Nd} {c:Tr}(h:check f=0)(ht:Qe f=.one n c):
 (Zz f).op=n.op/\(Zz f).i=n.i/\tr f (Zz f).x.toNat=c/\Jn f (Zz f).x=Qn c/\(Zz f).x.toNat < f.length:=by
 have e:=Qq4 h;rw [ht]at e;obtain⟨h1,h2,h3,h4⟩:=Qp6 e.symm;have hw:=(Ym h _ _ (Ty (Jg h).1)).1 h1;have hx:(Zz f).x.toNat < f.length:=by omega
 refine⟨h2,h3,h4,?_,hx⟩;have e2:=Rd h hx;rw [show(((Zz f).x.toNat:Nat):Int)=(Zz f).x by omega]at e2;rw [e2,h4]
theorem Qp7 {m n:Nd} {a b c d:Tr}(h:Yi m a b=.two n c d):Qc m.op=true/\m.head=n/\a=c/\b=d:=by
 unfold Yi at h;cases h2:Qc m.op
 ·cases h1:Qw m.op
  ·rw [h2,h1]at h;cases h
  rw [h2,h1]at h;cases h
 rw [h2]at h;simp only [cond_true,Tr.two.injEq]at h;exact⟨rfl,h⟩
theorem Sn {f:List Nd} {n:Nd} {c d:Tr}(h:check f=0)(ht:Qe f=.two n c d):
 (Zz f).op=n.op/\(Zz f).g=n.g/\Jn f (Zz f).x=Qn c/\Jn f (Zz f).y=Qn d:=by
 have e:=Qq4 h;rw [ht]at e;obtain⟨h2,h3,h4,h5⟩:=Qp7 e.symm;obtain⟨hx,hy⟩:=Ym h _ _ (Ty (Jg h).1);have hx:=hx (Vn h2);have hy:=hy h2;have e1:=Rd h (show(Zz f).x.toNat < f.length by omega);have e2:=Rd h (show(Zz f).y.toNat < f.length by omega);rw [show(((Zz f).x.toNat:Nat):Int)=(Zz f).x by omega,h4]at e1;rw [show(((Zz f).y.toNat:Nat):Int)=(Zz f).y by omega,h5]at e2;exact⟨by rw [<-h3];rfl,by rw [<-h3];rfl,e1,e2⟩
theorem Qij {f:List Nd}(h:check f=0):(Zz f).op=(Qe f).top.op:=by
 rw [Qq4 h];unfold Yi;cases Qc (Zz f).op
 ·cases Qw (Zz f).op <;> rfl
 rfl
def Dst(o:List Nd):Prop:=∀i j,i < o.length->j < o.length->tr o i=tr o j->i=j
theorem Qp5 {m n:Nd} {a b c d:Tr}(h:Yi m a b=Yi n c d):m.head=n.head/\(Qw m.op=true->a=c)/\(Qc m.op=true->b=d):=by
 unfold Yi at h;cases h2:Qc m.op
 ·cases h1:Qw m.op
  ·cases k2:Qc n.op
   ·cases k1:Qw n.op
    ·rw [h1,h2,k1,k2]at h;injection h with h;exact⟨by rw [h],(fun e=>by cases e),(fun e=>by cases e)⟩
    rw [h1,h2,k1,k2]at h;cases h
   rw [h1,h2,k2]at h;cases h
  cases k2:Qc n.op
  ·cases k1:Qw n.op
   ·rw [h1,h2,k1,k2]at h;cases h
   rw [h1,h2,k1,k2]at h;injection h with e1 e2;exact⟨e1,(fun _=>e2),(fun e=>by cases e)⟩
  rw [h1,h2,k2]at h;cases h
 cases k2:Qc n.op
 ·cases k1:Qw n.op
  ·rw [h2,k1,k2]at h;cases h
  rw [h2,k1,k2]at h;cases h
 rw [h2,k2]at h;injection h with e1 e2 e3;exact⟨e1,fun _=>e2,fun _=>e3⟩
theorem Qfx {n:Nd}(hx:Qw n.op=true->0<=n.x)(hy:Qc n.op=true->0<=n.y):n.head.with_ n.x.toNat n.y.toNat=n:=by
 rw [Qqw];obtain⟨op,i,e,g,x,y⟩:=n;unfold Nd.with_;simp only at hx hy⊢
 congr 1
 ·cases h:Qw op
  ·rfl
  have:=hx h;simp only [cond_true];omega
 cases h:Qc op
 ·rfl
 have:=hy h;simp only [cond_true];omega
theorem Qyw {o:List Nd} {m:Nd}(ho:Wf o)(hw:Wf (Zo o m))(h:Dst o):Dst (Zo o m):=by
 by_cases hm:m∈o
 ·have e:Zo o m=o:=by unfold Zo;rw [if_pos hm]
  rw [e];exact h
 have e:Zo o m=o++ [m]:=by unfold Zo;rw [if_neg hm]
 rw [e]at hw⊢;have hp:∀k,k < o.length->tr (o++ [m]) k=tr o k:=fun k hk=>Fa ho hw (List.prefix_append _ _) k hk
 have hl:(o++ [m])[o.length]?=some m:=by simp
 have XX:=hw _ _ hl;have key:∀j,j < o.length->tr (o++ [m]) o.length≠tr o j:=fun j hj he=>by
  obtain⟨n,hn⟩:∃n,o[j]?=some n:=⟨_,Qv hj⟩;have rG:=ho j n hn;rw [Xk hw hl,Xk ho hn]at he;obtain⟨e1,e2,e3⟩:=Qp5 he;have eo:m.op=n.op:=by have:=congrArg Nd.op e1;exact this
  have ex:Qw m.op=true->m.x.toNat=n.x.toNat:=fun hx=>by
   have a1:=XX.1 hx;have a2:=rG.1 (eo▸hx);have:=e2 hx;rw [hp _ (by omega)]at this;exact h _ _ (by omega) (by omega) this
  have ey:Qc m.op=true->m.y.toNat=n.y.toNat:=fun hy=>by
   have a1:=XX.2 hy;have a2:=rG.2 (eo▸hy);have:=e3 hy;rw [hp _ (by omega)]at this;exact h _ _ (by omega) (by omega) this
  have em:=Qfx (n:=m) (fun hx=>(XX.1 hx).1) (fun hy=>(XX.2 hy).1);have en:=Qfx (n:=n) (fun hx=>(rG.1 hx).1) (fun hy=>(rG.2 hy).1);have:m=n:=by
   rw [<-em,<-en,e1];unfold Nd.with_
   congr 1
   ·cases hx:Qw n.head.op
    ·rfl
    rw [ex (by rw [eo];exact hx)]
   cases hy:Qc n.head.op
   ·rfl
   rw [ey (by rw [eo];exact hy)]
  exact hm (this▸List.mem_of_getElem? hn)
 intro i j hi hj sY;rw [List.length_append,List.length_singleton]at hi hj;by_cases hio:i < o.length
 ·by_cases hjo:j < o.length
  ·rw [hp i hio,hp j hjo]at sY;exact h i j hio hjo sY
  have:j=o.length:=by omega
  subst this;rw [hp i hio]at sY;exact absurd sY.symm (key i hio)
 have:i=o.length:=by omega
 subst this;by_cases hjo:j < o.length
 ·rw [hp j hjo]at sY;exact absurd sY (key j hjo)
 omega
theorem Qjy:∀(t:Tr) (o:List Nd),t.ok->Wf o->Dst o->Dst (ins t o).1
 |.leaf n,o,ht,ho,h=>Qyw ho (Xr (.leaf n) o ht ho).wf h
 |.one n a,o,ht,ho,h=>Qyw (Xr a o ht.2.2.2 ho).wf (Xr (.one n a) o ht ho).wf (Qjy a o ht.2.2.2 ho h)
 |.two n a b,o,ht,ho,h=>by
  have A:=Xr a o ht.2.2.2.1 ho;exact Qyw (Xr b _ ht.2.2.2.2 A.wf).wf (Xr (.two n a b) o ht ho).wf (Qjy b _ ht.2.2.2.2 A.wf (Qjy a o ht.2.2.2.1 ho h))
theorem Qmd {t:Tr}(ht:t.ok):Dst (Qn t):=Qjy t [] ht Ds (fun i _ hi=>absurd hi (by simp))
theorem Gq {P:Program} {ops:Array Oper} {o:Oper} {a:Act} {w:World} {K:Act->World->Prop} {Q:Exit->Act->World->Prop} {E:Prop}
 (B8:o.guard=none)(s x:Operand)(t:TypeId)(ho:o.op=.call { callee:=.builtin .append,args:=#[s,x],argTypes:=#[t,t] })
 (base:Nat)(e:TypeId)(i:TypeInfo)(z:Value)(size bytes:Nat)(ht:P.underlying t=some (.slice e))(hi:P.info? e=some i)(hz:i.zero=some z)
 (LT:i.size=size)(qR:i.bytes=bytes)(hzs:z.cells.size=size)(pC:0 < size)
 (v:Value)(n:Nat)(xs:List Value)(hs:a.eval s=v)(xL:w.ownsRow base e size v n xs)
 (ad:Addr)(m c:Nat)(news:List Value)(hx:a.eval x=.slice (some ad) m c)(hl:news.length=m*size)(ME:∀j u,news[j]?=some u->w.cell? (ad.add j)=some u)(h1:∀u∈news,u.oneCell'=true)
 (G6:n+m<=maxLen)(UY:(n+m)*bytes<=140737488355328)(tR:base<=w.heap.size)
 (h:∀v' w',w'.ownsRow base e size v' (n+m) (xs++news)->w.grownBy w' v.ownBlock->(v'.ownBlock=v.ownBlock\/v'.ownBlock=some w.heap.size)->K (a.put o.dst v') w'):
 if Region.wanted o (yielded ops a.tmps)=true then Oper.wp P o a w K Q else E:=by
 have hw:Region.wanted o (yielded ops a.tmps)=true:=by simp [Region.wanted,B8]
 rw [if_pos hw];obtain⟨v',w',hr,h2,h3,_,h5⟩:=run_append_own_at (P:=P) w base t o.type e i z size bytes ht hi hz LT qR hzs pC v n xs xL ad m c news hl ME h1 G6 UY tR;unfold Oper.wp execOp;simp only [ho,resolve,invoke,builtin,Sem.run_bind,Sem.run_pure,Result.andThen_ok,List.map_toArray,List.map_cons,List.map_nil,hs,hx,hr];exact h v' w' h2 h3 h5
section
variable {P:Program} {md:Region.Mode} {ops:Array Oper} {Q:Exit->Act->World->Prop} {S:World->Prop}
theorem tk(i:Nat) {oi:Oper} {v:Value} {fuel:Nat} {listed:Array Bool} {a a':Act} {w:World}(hS:S w)
 (h:wpAnyH P md ops Q S fuel (listed.setIfInBounds i true) a' w)
 (hi:ops[i]?=some oi:=by exact rfl)(hs:Region.noSelect ops=true:=by kernel_rfl)(hf:Region.free md ops listed i=true:=by kernel_rfl)(hr:(Region.ready md ops listed).contains i=true:=by kernel_rfl)
 (hy:YieldsIf P ops S oi v a:=by refine Or.inl ⟨by rfl,?_⟩;intro w' EW;(try dsimp only at EW);go_simp;(try with_reducible rfl))
 (hQ:∀c a w,Q (.panic c) (a.put oi.dst v) w->Q (.panic c) a w:=by exact fun _ _ _ h=>h)
 (ha:a.put oi.dst v=a':=by(try simp only [Act.put,List.setIfInBounds_toArray,List.set_cons_zero,List.set_cons_succ,List.getElem_toArray,List.getElem_cons_succ,List.getElem_cons_zero]);exact rfl):wpAnyH P md ops Q S (fuel+1) listed a w :=
 wpAnyH_take hi hs hf hr hQ hy hS (by rw [ha];exact h)
end
section
variable {a b c:World} {p:Addr} {v:Value}
theorem xc(hb:p.block < a.heap.size)(f:a.cell? p=some v)(h:Ext a b:=by repeat(first|exact Qz|assumption|apply Ext.alloc|apply Ext.drew)):b.cell? p=some v:=(h.cell hb).trans f
theorem xw(e:Ext a b:=by repeat(first|exact Qz|assumption|apply Ext.alloc|apply Ext.drew)):Ext a b:=e
end
theorem Qd {P:Program} {md:Region.Mode} {ops:Array Oper} {Q:Exit->Act->World->Prop} {S:World->Prop} {fuel:Nat} {up:Array Bool} {a a':Act} {w:World}(h:wpAnyH P md ops Q S fuel up a' w)(e:a=a':=by(try simp only [Act.put,List.setIfInBounds_toArray,List.set_cons_zero,List.set_cons_succ,List.getElem_toArray,List.getElem_cons_succ,List.getElem_cons_zero]);exact rfl):wpAnyH P md ops Q S fuel up a w:=e▸h
theorem Cw {P:Program} {fn:Func} {t:Tmp} {ty:TypeId}(h:fn.results=#[.cell t ty])(tmps:Array Value)(w:World) {b o:Nat}(ht:tmps.getD t undef=.pointer (some ⟨b,o,none⟩)) {cs:List Value} {d:TypeDesc}(hc:w.rangeAt b o cs)
 (hu:P.underlying ty=some d)(hd:d.isRow=true)(hi:(P.info? ty).map (·.size)=some cs.length):(results fn tmps).run P w=.ok (.agg cs.toArray) w:=by
 have mI:tmps[t]?.getD undef=.pointer (some ⟨b,o,none⟩):=by rw [<-Array.getD_eq_getD_getElem?];exact ht
 simp [results,h,mI,asAddr,run_loadVar_mid w b o ty cs d hc hu hd hi]
end Go.Proofs.YtkmclcmnoicagaaGreatDoor
