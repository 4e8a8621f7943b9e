/- Bits of words, as a walk shows them. -/
import Derived.Test.YtkmclcmnoicagaaGreatDoorM01
import Derived.Test.YtkmclcmnoicagaaGreatDoorM08
import Derived.Test.YtkmclcmnoicagaaGreatDoorM06
import Derived.Laws.Bits64b
import Derived.Deep.RegionLaw
import Derived.OrdersHeld
import Derived.Deep.RegionHeld
import Derived.Deep.MidRow
namespace Go.Proofs.YtkmclcmnoicagaaGreatDoor
set_option maxRecDepth 100000
set_option maxHeartbeats 128000000
open Go.RowKit
theorem Lk(s k:Nat):s.testBit k=(s / 2^k % 2==1):=by
 rw [Nat.testBit_eq_decide_div_mod_eq];rfl
theorem Tm(s k:Nat):(s:Int) / 2^k=((s / 2^k:Nat):Int):=by
 rw [show((2:Int)^k)=((2^k:Nat):Int) by simp];rfl
theorem Bn(s k:Nat)(hs:s < 18446744073709551616):(bits .and .u64 ((s:Int) / 2^k) 1==1)=s.testBit k:=by
 have hlt:s / 2^k < 18446744073709551616:=Nat.lt_of_le_of_lt (Nat.div_le_self _ _) hs;rw [Tm,show(1:Int)=((1:Nat):Int)from rfl,bits_and_u64_nat _ 1 hlt (by decide),Nat.and_one_is_mod,Lk];generalize s / 2^k % 2=r;rw [Bool.eq_iff_iff,beq_iff_eq,beq_iff_eq];omega
theorem Lj(a b:Nat)(ha:a < 9223372036854775808)(hb:b < 9223372036854775808):bits .and .i64 (a:Int) (b:Int)=((a&&&b:Nat):Int):=by
 have hx:a&&&b < 2^63:=Nat.and_lt_two_pow _ (by omega);show IntKind.i64.wrap ((BitVec.ofInt 64 (a:Int)&&&BitVec.ofInt 64 (b:Int)).toNat:Int)=_;rw [BitVec.toNat_and,Ca a ha,Ca b hb,IntKind.wrap_i64];omega
theorem Mz(s k:Nat)(hs:s < 9223372036854775808):(bits .and .i64 ((s:Int) / 2^k) 1==1)=s.testBit k:=by
 have hlt:s / 2^k < 9223372036854775808:=Nat.lt_of_le_of_lt (Nat.div_le_self _ _) hs;rw [Tm,show(1:Int)=((1:Nat):Int)from rfl,Lj _ 1 hlt (by decide),Nat.and_one_is_mod,Lk];generalize s / 2^k % 2=r;rw [Bool.eq_iff_iff,beq_iff_eq,beq_iff_eq];omega
theorem Eq(s k:Nat)(hs:s < 9223372036854775808):(bits .and .i64 ((s:Int) / 2^k) 1==0)= !s.testBit k:=by
 have hlt:s / 2^k < 9223372036854775808:=Nat.lt_of_le_of_lt (Nat.div_le_self _ _) hs;rw [Tm,show(1:Int)=((1:Nat):Int)from rfl,Lj _ 1 hlt (by decide),Nat.and_one_is_mod,Lk];rcases Nat.mod_two_eq_zero_or_one (s / 2^k)with h|h <;> rw [h] <;> rfl
inductive Tr where
 |leaf (n:Nd)
 |one (n:Nd) (a:Tr)
 |two (n:Nd) (a b:Tr)
def Nd.head(n:Nd):Nd:=n.with_ 0 0
def Tr.ok:Tr->Prop
 |.leaf n=>Qe n.op=false/\Qh n.op=false
 |.one n a=>Qe n.op=true/\Qh n.op=false/\n.head=n/\a.ok
 |.two n a b=>Qe n.op=true/\Qh n.op=true/\n.head=n/\a.ok/\b.ok
def Tr.size:Tr->Nat
 |.leaf _=>1
 |.one _ a=>a.size+1
 |.two _ a b=>a.size+b.size+1
def Tr.top:Tr->Nd
 |.leaf n=>n
 |.one n _=>n
 |.two n _ _=>n
def trF(f:List Nd):Nat->Nat->Tr
 |0,_=> .leaf Nd.zero
 |k+1,i=>bif Qh (f.getD i Nd.zero).op then .two (f.getD i Nd.zero).head (trF f k (f.getD i Nd.zero).x.toNat) (trF f k (f.getD i Nd.zero).y.toNat)
  else bif Qe (f.getD i Nd.zero).op then .one (f.getD i Nd.zero).head (trF f k (f.getD i Nd.zero).x.toNat)else .leaf (f.getD i Nd.zero)
def tr(f:List Nd)(i:Nat):Tr:=trF f (i+1) i
def Qp(f:List Nd):Tr:=tr f (f.length - 1)
def Yh(n:Nd)(a b:Tr):Tr:=bif Qh n.op then .two n.head a b else bif Qe n.op then .one n.head a else .leaf n
theorem Qyb {f:List Nd}(hf:Wf f):∀(k i:Nat),i < k->i < f.length->trF f k i=tr f i:=by
 intro k
 induction k using Nat.strongRecOn with
 |_ k ih =>
  intro i h hi;cases k with
  |zero=>omega
  |succ k =>
   obtain⟨n,hn⟩:∃n,f[i]?=some n:=⟨_,Qv hi⟩;obtain⟨hx,hy⟩:=hf i n hn;have e:∀(b:Nat),b < i->trF f k b=trF f i b:=fun b hb=>by
    rw [ih k (by omega) b (by omega) (by omega)];by_cases hik:i=k
    ·subst hik;exact(ih i (by omega) b hb (by omega)).symm
    exact(ih i (by omega) b hb (by omega)).symm
   unfold tr;simp only [trF,Ad hn];cases h2:Qh n.op
   ·cases h1:Qe n.op
    ·rfl
    have:=hx h1;simp only [cond_true,cond_false];rw [e _ (by omega)]
   have h1:=Vs h2;have:=hx h1;have:=hy h2;simp only [cond_true];rw [e _ (by omega),e _ (by omega)]
theorem Xv {f:List Nd}(hf:Wf f) {i:Nat} {n:Nd}(hn:f[i]?=some n):tr f i=Yh n (tr f n.x.toNat) (tr f n.y.toNat):=by
 have hi:i < f.length:=(List.getElem?_eq_some_iff.1 hn).1;obtain⟨hx,hy⟩:=hf i n hn
 conv=>lhs;unfold tr trF
 simp only [Ad hn,Yh];cases h2:Qh n.op
 ·cases h1:Qe n.op
  ·rfl
  have:=hx h1;simp only [cond_true,cond_false];rw [Qyb hf _ _ (by omega) (by omega)]
 have h1:=Vs h2;have:=hx h1;have:=hy h2;simp only [cond_true];rw [Qyb hf _ _ (by omega) (by omega),Qyb hf _ _ (by omega) (by omega)]
theorem Qsw {n:Nd} {a a' b b':Tr}(hx:Qe n.op=true->a=a')(hy:Qh n.op=true->b=b'):Yh n a b=Yh n a' b':=by
 unfold Yh;cases h2:Qh n.op
 ·cases h1:Qe n.op
  ·rfl
  rw [hx h1];rfl
 rw [hx (Vs h2),hy h2]
theorem Ua {f g:List Nd}(hf:Wf f)(hg:Wf g)(hp:f <+: g):∀i,i < f.length->tr g i=tr f i:=by
 intro i
 induction i using Nat.strongRecOn with
 |_ i ih =>
  intro hi;obtain⟨n,hn⟩:∃n,f[i]?=some n:=⟨_,Qv hi⟩;obtain⟨hx,hy⟩:=hf i n hn;have hn':g[i]?=some n:=by
   obtain⟨t,rfl⟩:=hp;rw [List.getElem?_append_left hi];exact hn
  rw [Xv hf hn,Xv hg hn'];exact Qsw (fun h=>by have:=hx h;exact ih _ (by omega) (by omega)) (fun h=>by have:=hy h;exact ih _ (by omega) (by omega))
theorem Rd(n:Nd):n.head.head=n.head:=by
 unfold Nd.head Nd.with_;cases Qe n.op <;> cases Qh n.op <;> rfl
theorem Qqd(n:Nd)(a b:Nat):(n.with_ a b).head=n.head:=by
 unfold Nd.head Nd.with_;cases Qe n.op <;> cases Qh n.op <;> rfl
theorem Ig(n:Nd)(a b:Nat):n.head.with_ a b=n.with_ a b:=by
 unfold Nd.head Nd.with_;cases Qe n.op <;> cases Qh n.op <;> rfl
theorem Qkc(n:Nd)(a b:Nat):(n.with_ a b).op=n.op:=rfl
theorem Bg(n:Nd):n.head.op=n.op:=rfl
theorem Qeo {n:Nd} {a b:Tr}(ha:Qe n.op=true->a.ok)(hb:Qh n.op=true->b.ok):(Yh n a b).ok:=by
 unfold Yh;cases h2:Qh n.op
 ·cases h1:Qe n.op
  ·exact⟨h1,h2⟩
  exact⟨h1,h2,Rd n,ha h1⟩
 have h1:=Vs h2;exact⟨h1,h2,Rd n,ha h1,hb h2⟩
theorem Qgl {f:List Nd}(hf:Wf f):∀i,i < f.length->(tr f i).ok:=by
 intro i
 induction i using Nat.strongRecOn with
 |_ i ih =>
  intro hi;obtain⟨n,hn⟩:∃n,f[i]?=some n:=⟨_,Qv hi⟩;obtain⟨hx,hy⟩:=hf i n hn;rw [Xv hf hn];exact Qeo (fun h=>by have:=hx h;exact ih _ (by omega) (by omega)) (fun h=>by have:=hy h;exact ih _ (by omega) (by omega))
def ins:Tr->List Nd->List Nd×Nat
 |.leaf n,o=>(Jb o n,o.idxOf n)
 |.one n a,o=>(Jb (ins a o).1 (n.with_ (ins a o).2 0),(ins a o).1.idxOf (n.with_ (ins a o).2 0))
 |.two n a b,o=>(Jb (ins b (ins a o).1).1 (n.with_ (ins a o).2 (ins b (ins a o).1).2),(ins b (ins a o).1).1.idxOf (n.with_ (ins a o).2 (ins b (ins a o).1).2))
def Qn(t:Tr):List Nd:=(ins t []).1
theorem Qxi {n:Nd}(h1:Qe n.op=false)(h2:Qh n.op=false)(a b:Nat):n.with_ a b=n:=by
 unfold Nd.with_;rw [h1,h2];rfl
theorem Qh6 {n:Nd}(h2:Qh n.op=false)(a b c:Nat):n.with_ a b=n.with_ a c:=by
 unfold Nd.with_;rw [h2];rfl
theorem Ty {f:List Nd}(hf:Wf f):∀(i:Nat) (o:List Nd),i < f.length->Za f i o=ins (tr f i) o:=by
 intro i
 induction i using Nat.strongRecOn with
 |_ i ih =>
  intro o hi;obtain⟨n,hn⟩:∃n,f[i]?=some n:=⟨_,Qv hi⟩;obtain⟨hx,hy⟩:=hf i n hn;rw [Ul hf hn,Xv hf hn];unfold Yh opX opY;cases h2:Qh n.op
  ·cases h1:Qe n.op
   ·simp only [cond_false,ins,Bool.false_eq_true,if_false,Qxi h1 h2]
   have:=hx h1;simp only [cond_false,cond_true,ins,Bool.false_eq_true,if_false,if_true,Ig];rw [ih _ (by omega) _ (by omega),Qh6 h2 _ _ 0]
  have h1:=Vs h2;have:=hx h1;have:=hy h2;simp only [h1,cond_true,ins,if_true,Ig];rw [ih n.x.toNat (by omega) o (by omega),ih n.y.toNat (by omega) _ (by omega)]
theorem Qkp {o:List Nd} {m:Nd}(ho:Wf o)(hx:Qe m.op=true->0<=m.x/\m.x < o.length)(hy:Qh m.op=true->0<=m.y/\m.y < o.length):Wf (Jb o m):=by
 unfold Jb
 split
 ·exact ho
 exact Py ho hx hy
theorem Qjz(o:List Nd)(m:Nd):(Jb o m)[o.idxOf m]?=some m:=by
 rw [<-Wv];rw [List.getElem?_eq_getElem (List.idxOf_lt_length_of_mem (Qj1 o m))];rw [List.getElem_idxOf]
structure Zq4 (t:Tr) (o:List Nd):Prop where
 wf:Wf (ins t o).1
 pre:o <+:(ins t o).1
 lt:(ins t o).2 < (ins t o).1.length
 tree:tr (ins t o).1 (ins t o).2=t
theorem Kw:∀(t:Tr) (o:List Nd),t.ok->Wf o->Zq4 t o
 |.leaf n,o,⟨h1,h2⟩,ho=>by
  have hw:Wf (Jb o n):=Qkp ho (fun h=>by rw [h1]at h;cases h) (fun h=>by rw [h2]at h;cases h);refine⟨hw,Xs _ _,Bj _ _,?_⟩;show tr (Jb o n) (o.idxOf n)=_;rw [Xv hw (Qjz o n)];unfold Yh;rw [h1,h2];rfl
 |.one n a,o,⟨h1,h2,h3,ha⟩,ho=>by
  have A:=Kw a o ha ho;have hw:Wf (Jb (ins a o).1 (n.with_ (ins a o).2 0)):=Qkp A.wf (fun h=>by
   have:=A.lt;simp only [Nd.with_,h1,cond_true]
   omega) (fun h=>by rw [Qkc,h2]at h;cases h)
  refine⟨hw,A.pre.trans (Xs _ _),Bj _ _,?_⟩;show tr (Jb (ins a o).1 (n.with_ (ins a o).2 0)) ((ins a o).1.idxOf (n.with_ (ins a o).2 0))=_;rw [Xv hw (Qjz _ _)];unfold Yh;rw [Qkc,h1,h2,Qqd,h3];have e:(n.with_ (ins a o).2 0).x.toNat=(ins a o).2:=by simp [Nd.with_,h1]
  rw [e,Ua A.wf hw (Xs _ _) _ A.lt,A.tree];rfl
 |.two n a b,o,⟨h1,h2,h3,ha,hb⟩,ho=>by
  have A:=Kw a o ha ho;have B:=Kw b _ hb A.wf;have hlt:(ins a o).2 < (ins b (ins a o).1).1.length:=Qy A.lt B.pre.length_le;have hw:Wf (Jb (ins b (ins a o).1).1 (n.with_ (ins a o).2 (ins b (ins a o).1).2)):=Qkp B.wf (fun h=>by
   simp only [Nd.with_,h1,cond_true]
   omega) (fun h=>by
   have:=B.lt;simp only [Nd.with_,h2,cond_true]
   omega)
  refine⟨hw,(A.pre.trans B.pre).trans (Xs _ _),Bj _ _,?_⟩;show tr (Jb (ins b (ins a o).1).1 (n.with_ (ins a o).2 (ins b (ins a o).1).2)) ((ins b (ins a o).1).1.idxOf (n.with_ (ins a o).2 (ins b (ins a o).1).2))=_;rw [Xv hw (Qjz _ _)];unfold Yh;rw [Qkc,h2,Qqd,h3];have e:(n.with_ (ins a o).2 (ins b (ins a o).1).2).x.toNat=(ins a o).2:=by simp [Nd.with_,h1]
  have e':(n.with_ (ins a o).2 (ins b (ins a o).1).2).y.toNat=(ins b (ins a o).1).2:=by simp [Nd.with_,h2]
  rw [e,e',Ua A.wf hw (B.pre.trans (Xs _ _)) _ A.lt,A.tree,Ua B.wf hw (Xs _ _) _ B.lt,B.tree];rfl
def Below(N:Nat)(o:List Nd):Prop:=∀k,k < o.length->(tr o k).size < N
theorem Ed {N:Nat} {o:List Nd} {m:Nd}(ho:Wf o)(hw:Wf (Jb o m))(h:Below N o)(hm:(tr (Jb o m) (o.idxOf m)).size < N):Below N (Jb o m):=by
 intro k hk;by_cases hko:k < o.length
 ·rw [Ua ho hw (Xs _ _) _ hko];exact h k hko
 have hne:m∉o:=fun hm'=>by
  unfold Jb at hk;rw [if_pos hm']at hk;exact hko hk
 have:k=o.idxOf m:=by
  rw [List.idxOf_eq_length hne];unfold Jb at hk;rw [if_neg hne]at hk;simp at hk;omega
 rw [this];exact hm
theorem Rt:∀(t:Tr) (o:List Nd) (N:Nat),t.ok->Wf o->Below N o->t.size < N->Below N (ins t o).1
 |.leaf n,o,N,ht,ho,hb,hs=>by
  have I:=Kw (.leaf n) o ht ho;exact Ed ho I.wf hb (Nat.lt_of_le_of_lt (Nat.le_of_eq (congrArg Tr.size I.tree)) hs)
 |.one n a,o,N,ht,ho,hb,hs=>by
  have I:=Kw (.one n a) o ht ho;have A:=Kw a o ht.2.2.2 ho;have hs':a.size+1 < N:=hs;exact Ed A.wf I.wf (Rt a o N ht.2.2.2 ho hb (by omega)) (Nat.lt_of_le_of_lt (Nat.le_of_eq (congrArg Tr.size I.tree)) hs)
 |.two n a b,o,N,ht,ho,hb,hs=>by
  have I:=Kw (.two n a b) o ht ho;have A:=Kw a o ht.2.2.2.1 ho;have B:=Kw b _ ht.2.2.2.2 A.wf;have hs':a.size+b.size+1 < N:=hs;exact Ed B.wf I.wf (Rt b _ N ht.2.2.2.2 A.wf (Rt a o N ht.2.2.2.1 ho hb (by omega)) (by omega)) (Nat.lt_of_le_of_lt (Nat.le_of_eq (congrArg Tr.size I.tree)) hs)
theorem Oc(N:Nat):Below N []:=fun k h=>absurd h (by simp)
theorem Ir {o:List Nd} {m:Nd} {t:Tr}(hb:Below t.size o)(ht:tr (Jb o m) (o.idxOf m)=t):o.idxOf m+1=(Jb o m).length:=by
 have hne:m∉o:=fun hm=>by
  have hlt:=List.idxOf_lt_length_of_mem hm;have:=hb _ hlt;have e:Jb o m=o:=by unfold Jb;rw [if_pos hm]
  rw [e]at ht;rw [ht]at this;omega
 rw [List.idxOf_eq_length hne];unfold Jb;rw [if_neg hne];simp
theorem Qfe(t:Tr)(ht:t.ok):(ins t []).2+1=(Qn t).length:=by
 have I:=Kw t [] ht By;cases t with
 |leaf n=>exact Ir (Oc _) I.tree
 |one n a =>
  have A:=Kw a [] ht.2.2.2 By;exact Ir (t:=.one n a) (Rt a [] _ ht.2.2.2 By (Oc _) (Nat.lt_succ_self _)) I.tree
 |two n a b =>
  have A:=Kw a [] ht.2.2.2.1 By;have B:=Kw b _ ht.2.2.2.2 A.wf;have e:(Tr.two n a b).size=a.size+b.size+1:=rfl;exact Ir (t:=.two n a b) (Rt b _ _ ht.2.2.2.2 A.wf (Rt a [] _ ht.2.2.2.1 By (Oc _) (by omega)) (by omega)) I.tree
theorem Es {t:Tr}(ht:t.ok):Wf (Qn t):=(Kw t [] ht By).wf
theorem Gr {t:Tr}(ht:t.ok):0 < (Qn t).length:=by have:=Qfe t ht;omega
theorem Vc {t:Tr}(ht:t.ok):Qp (Qn t)=t:=by
 unfold Qp;have h:=Qfe t ht;rw [show(Qn t).length - 1=(ins t []).2 by omega];exact(Kw t [] ht By).tree
theorem Qte {s t:Tr}(hs:s.ok)(ht:t.ok)(h:Qn s=Qn t):s=t:=by
 rw [<-Vc hs,<-Vc ht,h]
theorem Qxc {f:List Nd}(h:check f=0):(Qp f).ok:=Qgl (Vy h) _ (by have:=(Jr h).1;omega)
theorem Gc {f:List Nd}(h:check f=0):Qg f=Qn (Qp f):=by
 rw [Qze h,Ty (Vy h) _ _ (by have:=(Jr h).1;omega)];rfl
theorem Dm {f:List Nd}(h:check f=0) {z:Nat}(hz:z < f.length):Yz f z=Qn (tr f z):=by
 unfold Yz;have e:(decide ((z:Int) < 0)||decide ((f.length:Int)<=(z:Int)))=false:=by simp;omega
 rw [h,e,Int.toNat_natCast,Ty (Vy h) _ _ hz];rfl
theorem Xr {f:List Nd}(h:check f=0):Qp (Qg f)=Qp f:=by
 rw [Gc h,Vc (Qxc h)]
theorem Ng {f:List Nd}(h:check f=0):Qg (Qg f)=Qg f:=by
 rw [Gc (Ux h),Xr h,Gc h]
theorem Qhw {a b:List Nd}(ha:Wf a)(hb:Wf b):∀k,k < b.length->tr (a++b.map (Jt a.length)) (a.length+k)=tr b k:=by
 intro k
 induction k using Nat.strongRecOn with
 |_ k ih =>
  intro hk;obtain⟨n,hn⟩:∃n,b[k]?=some n:=⟨_,Qv hk⟩;obtain⟨hx,hy⟩:=hb k n hn;have hn':(a++b.map (Jt a.length))[a.length+k]?=some (Jt a.length n):=by
   rw [List.getElem?_append_right (by omega),Nat.add_sub_cancel_left,List.getElem?_map,hn];rfl
  rw [Xv (Qyx ha hb) hn',Xv hb hn];have e0:(Jt a.length n).op=n.op:=rfl;have ehead:(Jt a.length n).head=n.head:=by
   unfold Nd.head Nd.with_ Jt;cases Qe n.op <;> cases Qh n.op <;> rfl
  unfold Yh;rw [e0,ehead];cases h2:Qh n.op
  ·cases h1:Qe n.op
   ·simp only [cond_false]
    congr 1
    unfold Jt;rw [h1,h2];rfl
   have:=hx h1;have e1:(Jt a.length n).x.toNat=a.length+n.x.toNat:=by simp only [Jt,h1,cond_true];omega
   rw [e1,ih _ (by omega) (by omega)];rfl
  have h1:=Vs h2;have:=hx h1;have:=hy h2;have e1:(Jt a.length n).x.toNat=a.length+n.x.toNat:=by simp only [Jt,h1,cond_true];omega
  have e2:(Jt a.length n).y.toNat=a.length+n.y.toNat:=by simp only [Jt,h2,cond_true];omega
  rw [e1,e2,ih n.x.toNat (by omega) (by omega),ih n.y.toNat (by omega) (by omega)];rfl
def Tr.all(P:Nd->Prop):Tr->Prop
 |.leaf n=>P n
 |.one n a=>P n/\a.all P
 |.two n a b=>P n/\a.all P/\b.all P
theorem Rs {P:Nd->Prop}(hP:∀n k1 k2,P n->P (n.with_ k1 k2)):∀(t:Tr) (o:List Nd),t.all P->(∀n∈o,P n)->∀n∈(ins t o).1,P n
 |.leaf n,o,ht,ho,m,hm=>by
  change m∈Jb o n at hm;unfold Jb at hm
  split at hm
  ·exact ho m hm
  rcases List.mem_append.1 hm with h|h
  ·exact ho m h
  simp at h;subst h;exact ht
 |.one n a,o,ht,ho,m,hm=>by
  change m∈Jb (ins a o).1 _ at hm;have ha:=Rs hP a o ht.2 ho;unfold Jb at hm
  split at hm
  ·exact ha m hm
  rcases List.mem_append.1 hm with h|h
  ·exact ha m h
  simp at h;subst h;exact hP _ _ _ ht.1
 |.two n a b,o,ht,ho,m,hm=>by
  change m∈Jb (ins b (ins a o).1).1 _ at hm;have ha:=Rs hP b _ ht.2.2 (Rs hP a o ht.2.1 ho);unfold Jb at hm
  split at hm
  ·exact ha m hm
  rcases List.mem_append.1 hm with h|h
  ·exact ha m h
  simp at h;subst h;exact hP _ _ _ ht.1
theorem Pw {P:Nd->Prop}(hP:∀n k1 k2,P n->P (n.with_ k1 k2)) {f:List Nd}(hf:Wf f)(hn:∀n∈f,P n):∀i,i < f.length->(tr f i).all P:=by
 intro i
 induction i using Nat.strongRecOn with
 |_ i ih =>
  intro hi;obtain⟨n,hi'⟩:∃n,f[i]?=some n:=⟨_,Qv hi⟩;obtain⟨hx,hy⟩:=hf i n hi';have hp:=hn n (List.mem_of_getElem? hi');rw [Xv hf hi'];unfold Yh;cases h2:Qh n.op
  ·cases h1:Qe n.op
   ·exact hp
   have:=hx h1;exact⟨hP _ _ _ hp,ih _ (by omega) (by omega)⟩
  have h1:=Vs h2;have:=hx h1;have:=hy h2;exact⟨hP _ _ _ hp,ih _ (by omega) (by omega),ih _ (by omega) (by omega)⟩
theorem Wp {t:Tr}(ht:t.ok) {k:Nat}(hk:k < (Qn t).length):(Qn (tr (Qn t) k)).length<=(Qn t).length:=by
 have hw:=Es ht;have e:=Ty hw k [] hk;have h1:=Ga (Qn t) (Za (Qn t) k []).1;have h2:=Qqq hw k [] hk;have h3:=Qzq (Qn t);have:Qn (tr (Qn t) k)=(Za (Qn t) k []).1:=by rw [e];rfl
 rw [this];omega
theorem Is {t:Tr}(ht:t.ok):∃n,(Qn t)[(Qn t).length - 1]?=some n/\t=Yh n (tr (Qn t) n.x.toNat) (tr (Qn t) n.y.toNat)/\(Qe n.op=true->0<=n.x/\n.x < ((Qn t).length - 1:Nat))/\(Qh n.op=true->0<=n.y/\n.y < ((Qn t).length - 1:Nat)):=by
 have hw:=Es ht;have hp:=Gr ht;obtain⟨n,hn⟩:∃n,(Qn t)[(Qn t).length - 1]?=some n:=⟨_,List.getElem?_eq_getElem (by omega)⟩;have h1:=Xv hw hn;have h2:tr (Qn t) ((Qn t).length - 1)=t:=Vc ht;rw [h2]at h1;exact⟨n,hn,h1,hw _ n hn⟩
theorem Qnw {n:Nd} {a:Tr}(ht:(Tr.one n a).ok):(Qn a).length<=(Qn (.one n a)).length:=by
 obtain⟨m,_,h1,hx,_⟩:=Is ht;have hp:=Gr ht;unfold Yh at h1;cases h2:Qh m.op
 ·cases h3:Qe m.op
  ·rw [h2,h3]at h1;cases h1
  rw [h2,h3]at h1;injection h1 with _ h1;have:=hx h3;have e:=Wp ht (k:=m.x.toNat) (by omega);rw [<-h1]at e;exact e
 rw [h2]at h1;cases h1
theorem Qkm {n:Nd} {a b:Tr}(ht:(Tr.two n a b).ok):(Qn a).length<=(Qn (.two n a b)).length/\(Qn b).length<=(Qn (.two n a b)).length:=by
 obtain⟨m,_,h1,hx,hy⟩:=Is ht;have hp:=Gr ht;unfold Yh at h1;cases h2:Qh m.op
 ·cases h3:Qe m.op
  ·rw [h2,h3]at h1;cases h1
  rw [h2,h3]at h1;cases h1
 rw [h2]at h1;injection h1 with _ h1 h3;have:=hx (Vs h2);have:=hy h2;refine⟨?_,?_⟩
 ·have e:=Wp ht (k:=m.x.toNat) (by omega);rw [<-h1]at e;exact e
 have e:=Wp ht (k:=m.y.toNat) (by omega);rw [<-h3]at e;exact e
theorem It {f:List Nd}(h:check f=0):Qp f=Yh (Qo f) (tr f (Qo f).x.toNat) (tr f (Qo f).y.toNat):=
 Xv (Vy h) (Rm (Jr h).1)
theorem Qmv {m n:Nd} {a b c:Tr}(h:Yh m a b=.one n c):Qe m.op=true/\m.op=n.op/\m.i=n.i/\a=c:=by
 unfold Yh at h;cases h2:Qh m.op
 ·cases h1:Qe m.op
  ·rw [h2,h1]at h;cases h
  rw [h2,h1]at h;simp only [cond_false,cond_true,Tr.one.injEq]at h;exact⟨rfl,by rw [<-h.1];rfl,by rw [<-h.1];rfl,h.2⟩
 rw [h2]at h;cases h
theorem Qjo {f:List Nd} {n:Nd} {c:Tr}(h:check f=0)(ht:Qp f=.one n c):
 (Qo f).op=n.op/\(Qo f).i=n.i/\tr f (Qo f).x.toNat=c/\Yz f (Qo f).x=Qn c/\(Qo f).x.toNat < f.length:=by
 have e:=It h;rw [ht]at e;obtain⟨h1,h2,h3,h4⟩:=Qmv e.symm;have hw:=(Vy h _ _ (Rm (Jr h).1)).1 h1;have hx:(Qo f).x.toNat < f.length:=by omega
 refine⟨h2,h3,h4,?_,hx⟩;have e2:=Dm h hx;rw [show(((Qo f).x.toNat:Nat):Int)=(Qo f).x by omega]at e2;rw [e2,h4]
theorem Qmk {m n:Nd} {a b c d:Tr}(h:Yh m a b=.two n c d):Qh m.op=true/\m.head=n/\a=c/\b=d:=by
 unfold Yh at h;cases h2:Qh m.op
 ·cases h1:Qe m.op
  ·rw [h2,h1]at h;cases h
  rw [h2,h1]at h;cases h
 rw [h2]at h;simp only [cond_true,Tr.two.injEq]at h;exact⟨rfl,h⟩
theorem Nh {f:List Nd} {n:Nd} {c d:Tr}(h:check f=0)(ht:Qp f=.two n c d):
 (Qo f).op=n.op/\(Qo f).g=n.g/\Yz f (Qo f).x=Qn c/\Yz f (Qo f).y=Qn d:=by
 have e:=It h;rw [ht]at e;obtain⟨h2,h3,h4,h5⟩:=Qmk e.symm;obtain⟨hx,hy⟩:=Vy h _ _ (Rm (Jr h).1);have hx:=hx (Vs h2);have hy:=hy h2;have e1:=Dm h (show(Qo f).x.toNat < f.length by omega);have e2:=Dm h (show(Qo f).y.toNat < f.length by omega);rw [show(((Qo f).x.toNat:Nat):Int)=(Qo f).x by omega,h4]at e1;rw [show(((Qo f).y.toNat:Nat):Int)=(Qo f).y by omega,h5]at e2;exact⟨by rw [<-h3];rfl,by rw [<-h3];rfl,e1,e2⟩
theorem Qeh {f:List Nd}(h:check f=0):(Qo f).op=(Qp f).top.op:=by
 rw [It h];unfold Yh;cases Qh (Qo f).op
 ·cases Qe (Qo f).op <;> rfl
 rfl
def Dst(o:List Nd):Prop:=∀i j,i < o.length->j < o.length->tr o i=tr o j->i=j
theorem Qmy {m n:Nd} {a b c d:Tr}(h:Yh m a b=Yh n c d):m.head=n.head/\(Qe m.op=true->a=c)/\(Qh m.op=true->b=d):=by
 unfold Yh at h;cases h2:Qh m.op
 ·cases h1:Qe m.op
  ·cases k2:Qh n.op
   ·cases k1:Qe n.op
    ·rw [h1,h2,k1,k2]at h;injection h with h;exact⟨by rw [h],(fun e=>by cases e),(fun e=>by cases e)⟩
    rw [h1,h2,k1,k2]at h;cases h
   rw [h1,h2,k2]at h;cases h
  cases k2:Qh n.op
  ·cases k1:Qe n.op
   ·rw [h1,h2,k1,k2]at h;cases h
   rw [h1,h2,k1,k2]at h;injection h with e1 e2;exact⟨e1,(fun _=>e2),(fun e=>by cases e)⟩
  rw [h1,h2,k2]at h;cases h
 cases k2:Qh n.op
 ·cases k1:Qe n.op
  ·rw [h2,k1,k2]at h;cases h
  rw [h2,k1,k2]at h;cases h
 rw [h2,k2]at h;injection h with e1 e2 e3;exact⟨e1,fun _=>e2,fun _=>e3⟩
theorem Qx0 {n:Nd}(hx:Qe n.op=true->0<=n.x)(hy:Qh n.op=true->0<=n.y):n.head.with_ n.x.toNat n.y.toNat=n:=by
 rw [Ig];obtain⟨op,i,e,g,x,y⟩:=n;unfold Nd.with_;simp only at hx hy⊢
 congr 1
 ·cases h:Qe op
  ·rfl
  have:=hx h;simp only [cond_true];omega
 cases h:Qh op
 ·rfl
 have:=hy h;simp only [cond_true];omega
theorem Qjn {o:List Nd} {m:Nd}(ho:Wf o)(hw:Wf (Jb o m))(h:Dst o):Dst (Jb o m):=by
 by_cases hm:m∈o
 ·have e:Jb o m=o:=by unfold Jb;rw [if_pos hm]
  rw [e];exact h
 have e:Jb o m=o++ [m]:=by unfold Jb;rw [if_neg hm]
 rw [e]at hw⊢;have hp:∀k,k < o.length->tr (o++ [m]) k=tr o k:=fun k hk=>Ua ho hw (List.prefix_append _ _) k hk
 have hl:(o++ [m])[o.length]?=some m:=by simp
 have hmx:=hw _ _ hl;have key:∀j,j < o.length->tr (o++ [m]) o.length≠tr o j:=fun j hj he=>by
  obtain⟨n,hn⟩:∃n,o[j]?=some n:=⟨_,Qv hj⟩;have hnx:=ho j n hn;rw [Xv hw hl,Xv ho hn]at he;obtain⟨e1,e2,e3⟩:=Qmy he;have eo:m.op=n.op:=by have:=congrArg Nd.op e1;exact this
  have ex:Qe m.op=true->m.x.toNat=n.x.toNat:=fun hx=>by
   have a1:=hmx.1 hx;have a2:=hnx.1 (eo▸hx);have:=e2 hx;rw [hp _ (by omega)]at this;exact h _ _ (by omega) (by omega) this
  have ey:Qh m.op=true->m.y.toNat=n.y.toNat:=fun hy=>by
   have a1:=hmx.2 hy;have a2:=hnx.2 (eo▸hy);have:=e3 hy;rw [hp _ (by omega)]at this;exact h _ _ (by omega) (by omega) this
  have em:=Qx0 (n:=m) (fun hx=>(hmx.1 hx).1) (fun hy=>(hmx.2 hy).1);have en:=Qx0 (n:=n) (fun hx=>(hnx.1 hx).1) (fun hy=>(hnx.2 hy).1);have:m=n:=by
   rw [<-em,<-en,e1];unfold Nd.with_
   congr 1
   ·cases hx:Qe n.head.op
    ·rfl
    rw [ex (by rw [eo];exact hx)]
   cases hy:Qh n.head.op
   ·rfl
   rw [ey (by rw [eo];exact hy)]
  exact hm (this▸List.mem_of_getElem? hn)
 intro i j hi hj hij;rw [List.length_append,List.length_singleton]at hi hj;by_cases hio:i < o.length
 ·by_cases hjo:j < o.length
  ·rw [hp i hio,hp j hjo]at hij;exact h i j hio hjo hij
  have:j=o.length:=by omega
  subst this;rw [hp i hio]at hij;exact absurd hij.symm (key i hio)
 have:i=o.length:=by omega
 subst this;by_cases hjo:j < o.length
 ·rw [hp j hjo]at hij;exact absurd hij (key j hjo)
 omega
theorem Qq4:∀(t:Tr) (o:List Nd),t.ok->Wf o->Dst o->Dst (ins t o).1
 |.leaf n,o,ht,ho,h=>Qjn ho (Kw (.leaf n) o ht ho).wf h
 |.one n a,o,ht,ho,h=>Qjn (Kw a o ht.2.2.2 ho).wf (Kw (.one n a) o ht ho).wf (Qq4 a o ht.2.2.2 ho h)
 |.two n a b,o,ht,ho,h=>by
  have A:=Kw a o ht.2.2.2.1 ho;exact Qjn (Kw b _ ht.2.2.2.2 A.wf).wf (Kw (.two n a b) o ht ho).wf (Qq4 b _ ht.2.2.2.2 A.wf (Qq4 a o ht.2.2.2.1 ho h))
theorem Qta {t:Tr}(ht:t.ok):Dst (Qn t):=Qq4 t [] ht By (fun i _ hi=>absurd hi (by simp))
theorem Di {P:Program} {ops:Array Oper} {o:Oper} {a:Act} {w:World} {K:Act->World->Prop} {Q:Exit->Act->World->Prop} {E:Prop}
 (hgd:o.guard=none)(s x:Operand)(t:TypeId)(ho:o.op=.call { callee:=.builtin .append,args:=#[s,x],argTypes:=#[t,t] })
 (base:Nat)(e:TypeId)(i:TypeInfo)(z:Value)(size bytes:Nat)(ht:P.underlying t=some (.slice e))(hi:P.info? e=some i)(hz:i.zero=some z)
 (hsize:i.size=size)(hby:i.bytes=bytes)(hzs:z.cells.size=size)(hsz:0 < size)
 (v:Value)(n:Nat)(xs:List Value)(hs:a.eval s=v)(hown:w.ownsRow base e size v n xs)
 (ad:Addr)(m c:Nat)(news:List Value)(hx:a.eval x=.slice (some ad) m c)(hl:news.length=m*size)(hnews:∀j u,news[j]?=some u->w.cell? (ad.add j)=some u)(h1:∀u∈news,u.oneCell'=true)
 (h63:n+m<=maxLen)(hbytes:(n+m)*bytes<=140737488355328)(hbase:base<=w.heap.size)
 (h:∀v' w',w'.ownsRow base e size v' (n+m) (xs++news)->w.grownBy w' v.ownBlock->(v'.ownBlock=v.ownBlock\/v'.ownBlock=some w.heap.size)->K (a.put o.dst v') w'):
 if Region.wanted o (yielded ops a.tmps)=true then Oper.wp P o a w K Q else E:=by
 have hw:Region.wanted o (yielded ops a.tmps)=true:=by simp [Region.wanted,hgd]
 rw [if_pos hw];obtain⟨v',w',hr,h2,h3,_,h5⟩:=run_append_own_at (P:=P) w base t o.type e i z size bytes ht hi hz hsize hby hzs hsz v n xs hown ad m c news hl hnews h1 h63 hbytes hbase;unfold Oper.wp execOp;simp only [ho,resolve,invoke,builtin,Sem.run_bind,Sem.run_pure,Result.andThen_ok,List.map_toArray,List.map_cons,List.map_nil,hs,hx,hr];exact h v' w' h2 h3 h5
section
variable {P:Program} {md:Region.Mode} {ops:Array Oper} {Q:Exit->Act->World->Prop} {S:World->Prop}
theorem tk(i:Nat) {oi:Oper} {v:Value} {fuel:Nat} {listed:Array Bool} {a a':Act} {w:World}(hS:S w)
 (h:wpAnyH P md ops Q S fuel (listed.setIfInBounds i true) a' w)
 (hi:ops[i]?=some oi:=by exact rfl)(hs:Region.noSelect ops=true:=by kernel_rfl)(hf:Region.free md ops listed i=true:=by kernel_rfl)(hr:(Region.ready md ops listed).contains i=true:=by kernel_rfl)
 (hy:YieldsIf P ops S oi v a:=by refine Or.inl ⟨by rfl,?_⟩;intro w' hSw;(try dsimp only at hSw);go_simp;(try with_reducible rfl))
 (hQ:∀c a w,Q (.panic c) (a.put oi.dst v) w->Q (.panic c) a w:=by exact fun _ _ _ h=>h)
 (ha:a.put oi.dst v=a':=by(try simp only [Act.put,List.setIfInBounds_toArray,List.set_cons_zero,List.set_cons_succ,List.getElem_toArray,List.getElem_cons_succ,List.getElem_cons_zero]);exact rfl):wpAnyH P md ops Q S (fuel+1) listed a w :=
 wpAnyH_take hi hs hf hr hQ hy hS (by rw [ha];exact h)
end
section
variable {a b c:World} {p:Addr} {v:Value}
theorem xc(hb:p.block < a.heap.size)(f:a.cell? p=some v)(h:Ext a b:=by repeat(first|exact Qz|assumption|apply Ext.alloc|apply Ext.drew)):b.cell? p=some v:=(h.cell hb).trans f
theorem xw(e:Ext a b:=by repeat(first|exact Qz|assumption|apply Ext.alloc|apply Ext.drew)):Ext a b:=e
end
theorem Qd {P:Program} {md:Region.Mode} {ops:Array Oper} {Q:Exit->Act->World->Prop} {S:World->Prop} {fuel:Nat} {up:Array Bool} {a a':Act} {w:World}(h:wpAnyH P md ops Q S fuel up a' w)(e:a=a':=by(try simp only [Act.put,List.setIfInBounds_toArray,List.set_cons_zero,List.set_cons_succ,List.getElem_toArray,List.getElem_cons_succ,List.getElem_cons_zero]);exact rfl):wpAnyH P md ops Q S fuel up a w:=e▸h
theorem Pa {P:Program} {fn:Func} {t:Tmp} {ty:TypeId}(h:fn.results=#[.cell t ty])(tmps:Array Value)(w:World) {b o:Nat}(ht:tmps.getD t undef=.pointer (some ⟨b,o,none⟩)) {cs:List Value} {d:TypeDesc}(hc:w.rangeAt b o cs)
 (hu:P.underlying ty=some d)(hd:d.isRow=true)(hi:(P.info? ty).map (·.size)=some cs.length):(results fn tmps).run P w=.ok (.agg cs.toArray) w:=by
 have ht':tmps[t]?.getD undef=.pointer (some ⟨b,o,none⟩):=by rw [<-Array.getD_eq_getD_getElem?];exact ht
 simp [results,h,ht',asAddr,run_loadVar_mid w b o ty cs d hc hu hd hi]
end Go.Proofs.YtkmclcmnoicagaaGreatDoor
