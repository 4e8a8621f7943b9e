/- Bits of words, as a walk shows them. -/
import Derived.Test.YtkmclcmnoicagaaGreatDoorL04
import Derived.Laws.Bits64b
import Derived.Deep.RegionLaw
import Derived.OrdersHeld
import Derived.Deep.RegionHeld
import Derived.Deep.MidRow
namespace Go.Proofs.YtkmclcmnoicagaaGreatDoor
set_option maxRecDepth 100000
set_option maxHeartbeats 128000000
open Go.RowKit
theorem Tv(s k:Nat):s.testBit k=(s / 2^k % 2==1):=by
 rw [Nat.testBit_eq_decide_div_mod_eq];rfl
theorem Dq(s k:Nat):(s:Int) / 2^k=((s / 2^k:Nat):Int):=by
 rw [show((2:Int)^k)=((2^k:Nat):Int) by simp];rfl
theorem Bn(s k:Nat)(hs:s < 18446744073709551616):(bits .and .u64 ((s:Int) / 2^k) 1==1)=s.testBit k:=by
 have zI:s / 2^k < 18446744073709551616:=Nat.lt_of_le_of_lt (Nat.div_le_self _ _) hs;rw [Dq,show(1:Int)=((1:Nat):Int)from rfl,bits_and_u64_nat _ 1 zI (by decide),Nat.and_one_is_mod,Tv];generalize s / 2^k % 2=r;rw [Bool.eq_iff_iff,beq_iff_eq,beq_iff_eq];omega
theorem Px(a b:Nat)(ha:a < 9223372036854775808)(hb:b < 9223372036854775808):bits .and .i64 (a:Int) (b:Int)=((a&&&b:Nat):Int):=by
 have hx:a&&&b < 2^63:=Nat.and_lt_two_pow _ (by omega);show IntKind.i64.wrap ((BitVec.ofInt 64 (a:Int)&&&BitVec.ofInt 64 (b:Int)).toNat:Int)=_;rw [BitVec.toNat_and,Wd a ha,Wd b hb,IntKind.wrap_i64];omega
theorem Cd(s k:Nat)(hs:s < 9223372036854775808):(bits .and .i64 ((s:Int) / 2^k) 1==1)=s.testBit k:=by
 have zI:s / 2^k < 9223372036854775808:=Nat.lt_of_le_of_lt (Nat.div_le_self _ _) hs;rw [Dq,show(1:Int)=((1:Nat):Int)from rfl,Px _ 1 zI (by decide),Nat.and_one_is_mod,Tv];generalize s / 2^k % 2=r;rw [Bool.eq_iff_iff,beq_iff_eq,beq_iff_eq];omega
theorem Iv(s k:Nat)(hs:s < 9223372036854775808):(bits .and .i64 ((s:Int) / 2^k) 1==0)= !s.testBit k:=by
 have zI:s / 2^k < 9223372036854775808:=Nat.lt_of_le_of_lt (Nat.div_le_self _ _) hs;rw [Dq,show(1:Int)=((1:Nat):Int)from rfl,Px _ 1 zI (by decide),Nat.and_one_is_mod,Tv];rcases Nat.mod_two_eq_zero_or_one (s / 2^k)with h|h <;> rw [h] <;> rfl
inductive Tr where
 |leaf (n:Nd)
 |one (n:Nd) (a:Tr)
 |two (n:Nd) (a b:Tr)
def Nd.head(n:Nd):Nd:=n.with_ 0 0
def Tr.ok:Tr->Prop
 |.leaf n=>Qi n.op=false/\Qe n.op=false
 |.one n a=>Qi n.op=true/\Qe n.op=false/\n.head=n/\a.ok
 |.two n a b=>Qi n.op=true/\Qe n.op=true/\n.head=n/\a.ok/\b.ok
def Tr.size:Tr->Nat
 |.leaf _=>1
 |.one _ a=>a.size+1
 |.two _ a b=>a.size+b.size+1
def Tr.top:Tr->Nd
 |.leaf n=>n
 |.one n _=>n
 |.two n _ _=>n
def trF(f:List Nd):Nat->Nat->Tr
 |0,_=> .leaf Nd.zero
 |k+1,i=>bif Qe (f.getD i Nd.zero).op then .two (f.getD i Nd.zero).head (trF f k (f.getD i Nd.zero).x.toNat) (trF f k (f.getD i Nd.zero).y.toNat)
  else bif Qi (f.getD i Nd.zero).op then .one (f.getD i Nd.zero).head (trF f k (f.getD i Nd.zero).x.toNat)else .leaf (f.getD i Nd.zero)
def tr(f:List Nd)(i:Nat):Tr:=trF f (i+1) i
def Qh(f:List Nd):Tr:=tr f (f.length - 1)
def Yh(n:Nd)(a b:Tr):Tr:=bif Qe n.op then .two n.head a b else bif Qi n.op then .one n.head a else .leaf n
theorem Qkg {f:List Nd}(hf:Wf f):∀(k i:Nat),i < k->i < f.length->trF f k i=tr f i:=by
 intro k
 induction k using Nat.strongRecOn with
 |_ k ih =>
  intro i h hi;cases k with
  |zero=>omega
  |succ k =>
   obtain⟨n,hn⟩:∃n,f[i]?=some n:=⟨_,Qv hi⟩;obtain⟨hx,hy⟩:=hf i n hn;have e:∀(b:Nat),b < i->trF f k b=trF f i b:=fun b hb=>by
    rw [ih k (by omega) b (by omega) (by omega)];by_cases hik:i=k
    ·subst hik;exact(ih i (by omega) b hb (by omega)).symm
    exact(ih i (by omega) b hb (by omega)).symm
   unfold tr;simp only [trF,Hs hn];cases h2:Qe n.op
   ·cases h1:Qi n.op
    ·rfl
    have:=hx h1;simp only [cond_true,cond_false];rw [e _ (by omega)]
   have h1:=Vf h2;have:=hx h1;have:=hy h2;simp only [cond_true];rw [e _ (by omega),e _ (by omega)]
theorem Xg {f:List Nd}(hf:Wf f) {i:Nat} {n:Nd}(hn:f[i]?=some n):tr f i=Yh n (tr f n.x.toNat) (tr f n.y.toNat):=by
 have hi:i < f.length:=(List.getElem?_eq_some_iff.1 hn).1;obtain⟨hx,hy⟩:=hf i n hn
 conv=>lhs;unfold tr trF
 simp only [Hs hn,Yh];cases h2:Qe n.op
 ·cases h1:Qi n.op
  ·rfl
  have:=hx h1;simp only [cond_true,cond_false];rw [Qkg hf _ _ (by omega) (by omega)]
 have h1:=Vf h2;have:=hx h1;have:=hy h2;simp only [cond_true];rw [Qkg hf _ _ (by omega) (by omega),Qkg hf _ _ (by omega) (by omega)]
theorem Ql3 {n:Nd} {a a' b b':Tr}(hx:Qi n.op=true->a=a')(hy:Qe n.op=true->b=b'):Yh n a b=Yh n a' b':=by
 unfold Yh;cases h2:Qe n.op
 ·cases h1:Qi n.op
  ·rfl
  rw [hx h1];rfl
 rw [hx (Vf h2),hy h2]
theorem By {f g:List Nd}(hf:Wf f)(hg:Wf g)(hp:f <+: g):∀i,i < f.length->tr g i=tr f i:=by
 intro i
 induction i using Nat.strongRecOn with
 |_ i ih =>
  intro hi;obtain⟨n,hn⟩:∃n,f[i]?=some n:=⟨_,Qv hi⟩;obtain⟨hx,hy⟩:=hf i n hn;have RS:g[i]?=some n:=by
   obtain⟨t,rfl⟩:=hp;rw [List.getElem?_append_left hi];exact hn
  rw [Xg hf hn,Xg hg RS];exact Ql3 (fun h=>by have:=hx h;exact ih _ (by omega) (by omega)) (fun h=>by have:=hy h;exact ih _ (by omega) (by omega))
theorem Lz(n:Nd):n.head.head=n.head:=by
 unfold Nd.head Nd.with_;cases Qi n.op <;> cases Qe n.op <;> rfl
theorem Qje(n:Nd)(a b:Nat):(n.with_ a b).head=n.head:=by
 unfold Nd.head Nd.with_;cases Qi n.op <;> cases Qe n.op <;> rfl
theorem Qz4(n:Nd)(a b:Nat):n.head.with_ a b=n.with_ a b:=by
 unfold Nd.head Nd.with_;cases Qi n.op <;> cases Qe n.op <;> rfl
theorem Qgm(n:Nd)(a b:Nat):(n.with_ a b).op=n.op:=rfl
theorem Nb(n:Nd):n.head.op=n.op:=rfl
theorem Qi3 {n:Nd} {a b:Tr}(ha:Qi n.op=true->a.ok)(hb:Qe n.op=true->b.ok):(Yh n a b).ok:=by
 unfold Yh;cases h2:Qe n.op
 ·cases h1:Qi n.op
  ·exact⟨h1,h2⟩
  exact⟨h1,h2,Lz n,ha h1⟩
 have h1:=Vf h2;exact⟨h1,h2,Lz n,ha h1,hb h2⟩
theorem Qbt {f:List Nd}(hf:Wf f):∀i,i < f.length->(tr f i).ok:=by
 intro i
 induction i using Nat.strongRecOn with
 |_ i ih =>
  intro hi;obtain⟨n,hn⟩:∃n,f[i]?=some n:=⟨_,Qv hi⟩;obtain⟨hx,hy⟩:=hf i n hn;rw [Xg hf hn];exact Qi3 (fun h=>by have:=hx h;exact ih _ (by omega) (by omega)) (fun h=>by have:=hy h;exact ih _ (by omega) (by omega))
def Ym:Tr->List Nd->List Nd×Nat
 |.leaf n,o=>(Zi o n,o.idxOf n)
 |.one n a,o=>(Zi (Ym a o).1 (n.with_ (Ym a o).2 0),(Ym a o).1.idxOf (n.with_ (Ym a o).2 0))
 |.two n a b,o=>(Zi (Ym b (Ym a o).1).1 (n.with_ (Ym a o).2 (Ym b (Ym a o).1).2),(Ym b (Ym a o).1).1.idxOf (n.with_ (Ym a o).2 (Ym b (Ym a o).1).2))
def Qr(t:Tr):List Nd:=(Ym t []).1
theorem Qf3 {n:Nd}(h1:Qi n.op=false)(h2:Qe n.op=false)(a b:Nat):n.with_ a b=n:=by
 unfold Nd.with_;rw [h1,h2];rfl
theorem Qw7 {n:Nd}(h2:Qe n.op=false)(a b c:Nat):n.with_ a b=n.with_ a c:=by
 unfold Nd.with_;rw [h2];rfl
theorem Mf {f:List Nd}(hf:Wf f):∀(i:Nat) (o:List Nd),i < f.length->Ze f i o=Ym (tr f i) o:=by
 intro i
 induction i using Nat.strongRecOn with
 |_ i ih =>
  intro o hi;obtain⟨n,hn⟩:∃n,f[i]?=some n:=⟨_,Qv hi⟩;obtain⟨hx,hy⟩:=hf i n hn;rw [Fs hf hn,Xg hf hn];unfold Yh Yv Vt;cases h2:Qe n.op
  ·cases h1:Qi n.op
   ·simp only [cond_false,Ym,Bool.false_eq_true,if_false,Qf3 h1 h2]
   have:=hx h1;simp only [cond_false,cond_true,Ym,Bool.false_eq_true,if_false,if_true,Qz4];rw [ih _ (by omega) _ (by omega),Qw7 h2 _ _ 0]
  have h1:=Vf h2;have:=hx h1;have:=hy h2;simp only [h1,cond_true,Ym,if_true,Qz4];rw [ih n.x.toNat (by omega) o (by omega),ih n.y.toNat (by omega) _ (by omega)]
theorem Qgl {o:List Nd} {m:Nd}(ho:Wf o)(hx:Qi m.op=true->0<=m.x/\m.x < o.length)(hy:Qe m.op=true->0<=m.y/\m.y < o.length):Wf (Zi o m):=by
 unfold Zi
 split
 ·exact ho
 exact Ha ho hx hy
theorem Qvv(o:List Nd)(m:Nd):(Zi o m)[o.idxOf m]?=some m:=by
 rw [<-Qqd];rw [List.getElem?_eq_getElem (List.idxOf_lt_length_of_mem (Qv5 o m))];rw [List.getElem_idxOf]
structure Zys (t:Tr) (o:List Nd):Prop where
 wf:Wf (Ym t o).1
 pre:o <+:(Ym t o).1
 lt:(Ym t o).2 < (Ym t o).1.length
 tree:tr (Ym t o).1 (Ym t o).2=t
theorem Xl:∀(t:Tr) (o:List Nd),t.ok->Wf o->Zys t o
 |.leaf n,o,⟨h1,h2⟩,ho=>by
  have hw:Wf (Zi o n):=Qgl ho (fun h=>by rw [h1]at h;cases h) (fun h=>by rw [h2]at h;cases h);refine⟨hw,Xt _ _,Nj _ _,?_⟩;show tr (Zi o n) (o.idxOf n)=_;rw [Xg hw (Qvv o n)];unfold Yh;rw [h1,h2];rfl
 |.one n a,o,⟨h1,h2,h3,ha⟩,ho=>by
  have A:=Xl a o ha ho;have hw:Wf (Zi (Ym a o).1 (n.with_ (Ym a o).2 0)):=Qgl A.wf (fun h=>by
   have:=A.lt;simp only [Nd.with_,h1,cond_true]
   omega) (fun h=>by rw [Qgm,h2]at h;cases h)
  refine⟨hw,A.pre.trans (Xt _ _),Nj _ _,?_⟩;show tr (Zi (Ym a o).1 (n.with_ (Ym a o).2 0)) ((Ym a o).1.idxOf (n.with_ (Ym a o).2 0))=_;rw [Xg hw (Qvv _ _)];unfold Yh;rw [Qgm,h1,h2,Qje,h3];have e:(n.with_ (Ym a o).2 0).x.toNat=(Ym a o).2:=by simp [Nd.with_,h1]
  rw [e,By A.wf hw (Xt _ _) _ A.lt,A.tree];rfl
 |.two n a b,o,⟨h1,h2,h3,ha,hb⟩,ho=>by
  have A:=Xl a o ha ho;have B:=Xl b _ hb A.wf;have zI:(Ym a o).2 < (Ym b (Ym a o).1).1.length:=Qy A.lt B.pre.length_le;have hw:Wf (Zi (Ym b (Ym a o).1).1 (n.with_ (Ym a o).2 (Ym b (Ym a o).1).2)):=Qgl B.wf (fun h=>by
   simp only [Nd.with_,h1,cond_true]
   omega) (fun h=>by
   have:=B.lt;simp only [Nd.with_,h2,cond_true]
   omega)
  refine⟨hw,(A.pre.trans B.pre).trans (Xt _ _),Nj _ _,?_⟩;show tr (Zi (Ym b (Ym a o).1).1 (n.with_ (Ym a o).2 (Ym b (Ym a o).1).2)) ((Ym b (Ym a o).1).1.idxOf (n.with_ (Ym a o).2 (Ym b (Ym a o).1).2))=_;rw [Xg hw (Qvv _ _)];unfold Yh;rw [Qgm,h2,Qje,h3];have e:(n.with_ (Ym a o).2 (Ym b (Ym a o).1).2).x.toNat=(Ym a o).2:=by simp [Nd.with_,h1]
  have e':(n.with_ (Ym a o).2 (Ym b (Ym a o).1).2).y.toNat=(Ym b (Ym a o).1).2:=by simp [Nd.with_,h2]
  rw [e,e',By A.wf hw (B.pre.trans (Xt _ _)) _ A.lt,A.tree,By B.wf hw (Xt _ _) _ B.lt,B.tree];rfl
def Below(N:Nat)(o:List Nd):Prop:=∀k,k < o.length->(tr o k).size < N
theorem It {N:Nat} {o:List Nd} {m:Nd}(ho:Wf o)(hw:Wf (Zi o m))(h:Below N o)(hm:(tr (Zi o m) (o.idxOf m)).size < N):Below N (Zi o m):=by
 intro k hk;by_cases hko:k < o.length
 ·rw [By ho hw (Xt _ _) _ hko];exact h k hko
 have zQ:m∉o:=fun oS=>by
  unfold Zi at hk;rw [if_pos oS]at hk;exact hko hk
 have:k=o.idxOf m:=by
  rw [List.idxOf_eq_length zQ];unfold Zi at hk;rw [if_neg zQ]at hk;simp at hk;omega
 rw [this];exact hm
theorem Lv:∀(t:Tr) (o:List Nd) (N:Nat),t.ok->Wf o->Below N o->t.size < N->Below N (Ym t o).1
 |.leaf n,o,N,ht,ho,hb,hs=>by
  have I:=Xl (.leaf n) o ht ho;exact It ho I.wf hb (Nat.lt_of_le_of_lt (Nat.le_of_eq (congrArg Tr.size I.tree)) hs)
 |.one n a,o,N,ht,ho,hb,hs=>by
  have I:=Xl (.one n a) o ht ho;have A:=Xl a o ht.2.2.2 ho;have XW:a.size+1 < N:=hs;exact It A.wf I.wf (Lv a o N ht.2.2.2 ho hb (by omega)) (Nat.lt_of_le_of_lt (Nat.le_of_eq (congrArg Tr.size I.tree)) hs)
 |.two n a b,o,N,ht,ho,hb,hs=>by
  have I:=Xl (.two n a b) o ht ho;have A:=Xl a o ht.2.2.2.1 ho;have B:=Xl b _ ht.2.2.2.2 A.wf;have XW:a.size+b.size+1 < N:=hs;exact It B.wf I.wf (Lv b _ N ht.2.2.2.2 A.wf (Lv a o N ht.2.2.2.1 ho hb (by omega)) (by omega)) (Nat.lt_of_le_of_lt (Nat.le_of_eq (congrArg Tr.size I.tree)) hs)
theorem Qzt(N:Nat):Below N []:=fun k h=>absurd h (by simp)
theorem Qz9 {o:List Nd} {m:Nd} {t:Tr}(hb:Below t.size o)(ht:tr (Zi o m) (o.idxOf m)=t):o.idxOf m+1=(Zi o m).length:=by
 have zQ:m∉o:=fun hm=>by
  have zI:=List.idxOf_lt_length_of_mem hm;have:=hb _ zI;have e:Zi o m=o:=by unfold Zi;rw [if_pos hm]
  rw [e]at ht;rw [ht]at this;omega
 rw [List.idxOf_eq_length zQ];unfold Zi;rw [if_neg zQ];simp
theorem Qde(t:Tr)(ht:t.ok):(Ym t []).2+1=(Qr t).length:=by
 have I:=Xl t [] ht Nk;cases t with
 |leaf n=>exact Qz9 (Qzt _) I.tree
 |one n a =>
  have A:=Xl a [] ht.2.2.2 Nk;exact Qz9 (t:=.one n a) (Lv a [] _ ht.2.2.2 Nk (Qzt _) (Nat.lt_succ_self _)) I.tree
 |two n a b =>
  have A:=Xl a [] ht.2.2.2.1 Nk;have B:=Xl b _ ht.2.2.2.2 A.wf;have e:(Tr.two n a b).size=a.size+b.size+1:=rfl;exact Qz9 (t:=.two n a b) (Lv b _ _ ht.2.2.2.2 A.wf (Lv a [] _ ht.2.2.2.1 Nk (Qzt _) (by omega)) (by omega)) I.tree
theorem Ih {t:Tr}(ht:t.ok):Wf (Qr t):=(Xl t [] ht Nk).wf
theorem Uj {t:Tr}(ht:t.ok):0 < (Qr t).length:=by have:=Qde t ht;omega
theorem Ks {t:Tr}(ht:t.ok):Qh (Qr t)=t:=by
 unfold Qh;have h:=Qde t ht;rw [show(Qr t).length - 1=(Ym t []).2 by omega];exact(Xl t [] ht Nk).tree
theorem Qm9 {s t:Tr}(hs:s.ok)(ht:t.ok)(h:Qr s=Qr t):s=t:=by
 rw [<-Ks hs,<-Ks ht,h]
theorem Qh3 {f:List Nd}(h:check f=0):(Qh f).ok:=Qbt (Yb h) _ (by have:=(Jf h).1;omega)
theorem Ug {f:List Nd}(h:check f=0):Qf f=Qr (Qh f):=by
 rw [Qyo h,Mf (Yb h) _ _ (by have:=(Jf h).1;omega)];rfl
theorem Sf {f:List Nd}(h:check f=0) {z:Nat}(hz:z < f.length):Jn f z=Qr (tr f z):=by
 unfold Jn;have e:(decide ((z:Int) < 0)||decide ((f.length:Int)<=(z:Int)))=false:=by simp;omega
 rw [h,e,Int.toNat_natCast,Mf (Yb h) _ _ hz];rfl
theorem Xz {f:List Nd}(h:check f=0):Qh (Qf f)=Qh f:=by
 rw [Ug h,Ks (Qh3 h)]
theorem Uf {f:List Nd}(h:check f=0):Qf (Qf f)=Qf f:=by
 rw [Ug (Gj h),Xz h,Ug h]
theorem Qwo {a b:List Nd}(ha:Wf a)(hb:Wf b):∀k,k < b.length->tr (a++b.map (Jp a.length)) (a.length+k)=tr b k:=by
 intro k
 induction k using Nat.strongRecOn with
 |_ k ih =>
  intro hk;obtain⟨n,hn⟩:∃n,b[k]?=some n:=⟨_,Qv hk⟩;obtain⟨hx,hy⟩:=hb k n hn;have RS:(a++b.map (Jp a.length))[a.length+k]?=some (Jp a.length n):=by
   rw [List.getElem?_append_right (by omega),Nat.add_sub_cancel_left,List.getElem?_map,hn];rfl
  rw [Xg (Qkv ha hb) RS,Xg hb hn];have e0:(Jp a.length n).op=n.op:=rfl;have ehead:(Jp a.length n).head=n.head:=by
   unfold Nd.head Nd.with_ Jp;cases Qi n.op <;> cases Qe n.op <;> rfl
  unfold Yh;rw [e0,ehead];cases h2:Qe n.op
  ·cases h1:Qi n.op
   ·simp only [cond_false]
    congr 1
    unfold Jp;rw [h1,h2];rfl
   have:=hx h1;have e1:(Jp a.length n).x.toNat=a.length+n.x.toNat:=by simp only [Jp,h1,cond_true];omega
   rw [e1,ih _ (by omega) (by omega)];rfl
  have h1:=Vf h2;have:=hx h1;have:=hy h2;have e1:(Jp a.length n).x.toNat=a.length+n.x.toNat:=by simp only [Jp,h1,cond_true];omega
  have e2:(Jp a.length n).y.toNat=a.length+n.y.toNat:=by simp only [Jp,h2,cond_true];omega
  rw [e1,e2,ih n.x.toNat (by omega) (by omega),ih n.y.toNat (by omega) (by omega)];rfl
def Tr.all(P:Nd->Prop):Tr->Prop
 |.leaf n=>P n
 |.one n a=>P n/\a.all P
 |.two n a b=>P n/\a.all P/\b.all P
theorem Ly {P:Nd->Prop}(hP:∀n k1 k2,P n->P (n.with_ k1 k2)):∀(t:Tr) (o:List Nd),t.all P->(∀n∈o,P n)->∀n∈(Ym t o).1,P n
 |.leaf n,o,ht,ho,m,hm=>by
  change m∈Zi o n at hm;unfold Zi at hm
  split at hm
  ·exact ho m hm
  rcases List.mem_append.1 hm with h|h
  ·exact ho m h
  simp at h;subst h;exact ht
 |.one n a,o,ht,ho,m,hm=>by
  change m∈Zi (Ym a o).1 _ at hm;have ha:=Ly hP a o ht.2 ho;unfold Zi at hm
  split at hm
  ·exact ha m hm
  rcases List.mem_append.1 hm with h|h
  ·exact ha m h
  simp at h;subst h;exact hP _ _ _ ht.1
 |.two n a b,o,ht,ho,m,hm=>by
  change m∈Zi (Ym b (Ym a o).1).1 _ at hm;have ha:=Ly hP b _ ht.2.2 (Ly hP a o ht.2.1 ho);unfold Zi at hm
  split at hm
  ·exact ha m hm
  rcases List.mem_append.1 hm with h|h
  ·exact ha m h
  simp at h;subst h;exact hP _ _ _ ht.1
theorem Ed {P:Nd->Prop}(hP:∀n k1 k2,P n->P (n.with_ k1 k2)) {f:List Nd}(hf:Wf f)(hn:∀n∈f,P n):∀i,i < f.length->(tr f i).all P:=by
 intro i
 induction i using Nat.strongRecOn with
 |_ i ih =>
  intro hi;obtain⟨n,DK⟩:∃n,f[i]?=some n:=⟨_,Qv hi⟩;obtain⟨hx,hy⟩:=hf i n DK;have hp:=hn n (List.mem_of_getElem? DK);rw [Xg hf DK];unfold Yh;cases h2:Qe n.op
  ·cases h1:Qi n.op
   ·exact hp
   have:=hx h1;exact⟨hP _ _ _ hp,ih _ (by omega) (by omega)⟩
  have h1:=Vf h2;have:=hx h1;have:=hy h2;exact⟨hP _ _ _ hp,ih _ (by omega) (by omega),ih _ (by omega) (by omega)⟩
theorem Qqo {t:Tr}(ht:t.ok) {k:Nat}(hk:k < (Qr t).length):(Qr (tr (Qr t) k)).length<=(Qr t).length:=by
 have hw:=Ih ht;have e:=Mf hw k [] hk;have h1:=Gr (Qr t) (Ze (Qr t) k []).1;have h2:=Qjd hw k [] hk;have h3:=Iz (Qr t);have:Qr (tr (Qr t) k)=(Ze (Qr t) k []).1:=by rw [e];rfl
 rw [this];omega
theorem Qjq {t:Tr}(ht:t.ok):∃n,(Qr t)[(Qr t).length - 1]?=some n/\t=Yh n (tr (Qr t) n.x.toNat) (tr (Qr t) n.y.toNat)/\(Qi n.op=true->0<=n.x/\n.x < ((Qr t).length - 1:Nat))/\(Qe n.op=true->0<=n.y/\n.y < ((Qr t).length - 1:Nat)):=by
 have hw:=Ih ht;have hp:=Uj ht;obtain⟨n,hn⟩:∃n,(Qr t)[(Qr t).length - 1]?=some n:=⟨_,List.getElem?_eq_getElem (by omega)⟩;have h1:=Xg hw hn;have h2:tr (Qr t) ((Qr t).length - 1)=t:=Ks ht;rw [h2]at h1;exact⟨n,hn,h1,hw _ n hn⟩
theorem Qsh {n:Nd} {a:Tr}(ht:(Tr.one n a).ok):(Qr a).length<=(Qr (.one n a)).length:=by
 obtain⟨m,_,h1,hx,_⟩:=Qjq ht;have hp:=Uj ht;unfold Yh at h1;cases h2:Qe m.op
 ·cases h3:Qi m.op
  ·rw [h2,h3]at h1;cases h1
  rw [h2,h3]at h1;injection h1 with _ h1;have:=hx h3;have e:=Qqo ht (k:=m.x.toNat) (by omega);rw [<-h1]at e;exact e
 rw [h2]at h1;cases h1
theorem Qgt {n:Nd} {a b:Tr}(ht:(Tr.two n a b).ok):(Qr a).length<=(Qr (.two n a b)).length/\(Qr b).length<=(Qr (.two n a b)).length:=by
 obtain⟨m,_,h1,hx,hy⟩:=Qjq ht;have hp:=Uj ht;unfold Yh at h1;cases h2:Qe m.op
 ·cases h3:Qi m.op
  ·rw [h2,h3]at h1;cases h1
  rw [h2,h3]at h1;cases h1
 rw [h2]at h1;injection h1 with _ h1 h3;have:=hx (Vf h2);have:=hy h2;refine⟨?_,?_⟩
 ·have e:=Qqo ht (k:=m.x.toNat) (by omega);rw [<-h1]at e;exact e
 have e:=Qqo ht (k:=m.y.toNat) (by omega);rw [<-h3]at e;exact e
theorem Qjz {f:List Nd}(h:check f=0):Qh f=Yh (Qw f) (tr f (Qw f).x.toNat) (tr f (Qw f).y.toNat):=
 Xg (Yb h) (Lx (Jf h).1)
theorem Qcp {m n:Nd} {a b c:Tr}(h:Yh m a b=.one n c):Qi m.op=true/\m.op=n.op/\m.i=n.i/\a=c:=by
 unfold Yh at h;cases h2:Qe m.op
 ·cases h1:Qi m.op
  ·rw [h2,h1]at h;cases h
  rw [h2,h1]at h;simp only [cond_false,cond_true,Tr.one.injEq]at h;exact⟨rfl,by rw [<-h.1];rfl,by rw [<-h.1];rfl,h.2⟩
 rw [h2]at h;cases h
theorem Qv2 {f:List Nd} {n:Nd} {c:Tr}(h:check f=0)(ht:Qh f=.one n c):
 (Qw f).op=n.op/\(Qw f).i=n.i/\tr f (Qw f).x.toNat=c/\Jn f (Qw f).x=Qr c/\(Qw f).x.toNat < f.length:=by
 have e:=Qjz h;rw [ht]at e;obtain⟨h1,h2,h3,h4⟩:=Qcp e.symm;have hw:=(Yb h _ _ (Lx (Jf h).1)).1 h1;have hx:(Qw f).x.toNat < f.length:=by omega
 refine⟨h2,h3,h4,?_,hx⟩;have e2:=Sf h hx;rw [show(((Qw f).x.toNat:Nat):Int)=(Qw f).x by omega]at e2;rw [e2,h4]
theorem Qcc {m n:Nd} {a b c d:Tr}(h:Yh m a b=.two n c d):Qe m.op=true/\m.head=n/\a=c/\b=d:=by
 unfold Yh at h;cases h2:Qe m.op
 ·cases h1:Qi m.op
  ·rw [h2,h1]at h;cases h
  rw [h2,h1]at h;cases h
 rw [h2]at h;simp only [cond_true,Tr.two.injEq]at h;exact⟨rfl,h⟩
theorem Tt {f:List Nd} {n:Nd} {c d:Tr}(h:check f=0)(ht:Qh f=.two n c d):
 (Qw f).op=n.op/\(Qw f).g=n.g/\Jn f (Qw f).x=Qr c/\Jn f (Qw f).y=Qr d:=by
 have e:=Qjz h;rw [ht]at e;obtain⟨h2,h3,h4,h5⟩:=Qcc e.symm;obtain⟨hx,hy⟩:=Yb h _ _ (Lx (Jf h).1);have hx:=hx (Vf h2);have hy:=hy h2;have e1:=Sf h (show(Qw f).x.toNat < f.length by omega);have e2:=Sf h (show(Qw f).y.toNat < f.length by omega);rw [show(((Qw f).x.toNat:Nat):Int)=(Qw f).x by omega,h4]at e1;rw [show(((Qw f).y.toNat:Nat):Int)=(Qw f).y by omega,h5]at e2;exact⟨by rw [<-h3];rfl,by rw [<-h3];rfl,e1,e2⟩
theorem Qii {f:List Nd}(h:check f=0):(Qw f).op=(Qh f).top.op:=by
 rw [Qjz h];unfold Yh;cases Qe (Qw f).op
 ·cases Qi (Qw f).op <;> rfl
 rfl
def Dst(o:List Nd):Prop:=∀i j,i < o.length->j < o.length->tr o i=tr o j->i=j
theorem Qcm {m n:Nd} {a b c d:Tr}(h:Yh m a b=Yh n c d):m.head=n.head/\(Qi m.op=true->a=c)/\(Qe m.op=true->b=d):=by
 unfold Yh at h;cases h2:Qe m.op
 ·cases h1:Qi m.op
  ·cases k2:Qe n.op
   ·cases k1:Qi n.op
    ·rw [h1,h2,k1,k2]at h;injection h with h;exact⟨by rw [h],(fun e=>by cases e),(fun e=>by cases e)⟩
    rw [h1,h2,k1,k2]at h;cases h
   rw [h1,h2,k2]at h;cases h
  cases k2:Qe n.op
  ·cases k1:Qi n.op
   ·rw [h1,h2,k1,k2]at h;cases h
   rw [h1,h2,k1,k2]at h;injection h with e1 e2;exact⟨e1,(fun _=>e2),(fun e=>by cases e)⟩
  rw [h1,h2,k2]at h;cases h
 cases k2:Qe n.op
 ·cases k1:Qi n.op
  ·rw [h2,k1,k2]at h;cases h
  rw [h2,k1,k2]at h;cases h
 rw [h2,k2]at h;injection h with e1 e2 e3;exact⟨e1,fun _=>e2,fun _=>e3⟩
theorem Qf4 {n:Nd}(hx:Qi n.op=true->0<=n.x)(hy:Qe n.op=true->0<=n.y):n.head.with_ n.x.toNat n.y.toNat=n:=by
 rw [Qz4];obtain⟨op,i,e,g,x,y⟩:=n;unfold Nd.with_;simp only at hx hy⊢
 congr 1
 ·cases h:Qi op
  ·rfl
  have:=hx h;simp only [cond_true];omega
 cases h:Qe op
 ·rfl
 have:=hy h;simp only [cond_true];omega
theorem Qvt {o:List Nd} {m:Nd}(ho:Wf o)(hw:Wf (Zi o m))(h:Dst o):Dst (Zi o m):=by
 by_cases hm:m∈o
 ·have e:Zi o m=o:=by unfold Zi;rw [if_pos hm]
  rw [e];exact h
 have e:Zi o m=o++ [m]:=by unfold Zi;rw [if_neg hm]
 rw [e]at hw⊢;have hp:∀k,k < o.length->tr (o++ [m]) k=tr o k:=fun k hk=>By ho hw (List.prefix_append _ _) k hk
 have hl:(o++ [m])[o.length]?=some m:=by simp
 have YD:=hw _ _ hl;have key:∀j,j < o.length->tr (o++ [m]) o.length≠tr o j:=fun j hj he=>by
  obtain⟨n,hn⟩:∃n,o[j]?=some n:=⟨_,Qv hj⟩;have rC:=ho j n hn;rw [Xg hw hl,Xg ho hn]at he;obtain⟨e1,e2,e3⟩:=Qcm he;have eo:m.op=n.op:=by have:=congrArg Nd.op e1;exact this
  have ex:Qi m.op=true->m.x.toNat=n.x.toNat:=fun hx=>by
   have a1:=YD.1 hx;have a2:=rC.1 (eo▸hx);have:=e2 hx;rw [hp _ (by omega)]at this;exact h _ _ (by omega) (by omega) this
  have ey:Qe m.op=true->m.y.toNat=n.y.toNat:=fun hy=>by
   have a1:=YD.2 hy;have a2:=rC.2 (eo▸hy);have:=e3 hy;rw [hp _ (by omega)]at this;exact h _ _ (by omega) (by omega) this
  have em:=Qf4 (n:=m) (fun hx=>(YD.1 hx).1) (fun hy=>(YD.2 hy).1);have en:=Qf4 (n:=n) (fun hx=>(rC.1 hx).1) (fun hy=>(rC.2 hy).1);have:m=n:=by
   rw [<-em,<-en,e1];unfold Nd.with_
   congr 1
   ·cases hx:Qi n.head.op
    ·rfl
    rw [ex (by rw [eo];exact hx)]
   cases hy:Qe n.head.op
   ·rfl
   rw [ey (by rw [eo];exact hy)]
  exact hm (this▸List.mem_of_getElem? hn)
 intro i j hi hj sU;rw [List.length_append,List.length_singleton]at hi hj;by_cases hio:i < o.length
 ·by_cases hjo:j < o.length
  ·rw [hp i hio,hp j hjo]at sU;exact h i j hio hjo sU
  have:j=o.length:=by omega
  subst this;rw [hp i hio]at sU;exact absurd sU.symm (key i hio)
 have:i=o.length:=by omega
 subst this;by_cases hjo:j < o.length
 ·rw [hp j hjo]at sU;exact absurd sU (key j hjo)
 omega
theorem Qyx:∀(t:Tr) (o:List Nd),t.ok->Wf o->Dst o->Dst (Ym t o).1
 |.leaf n,o,ht,ho,h=>Qvt ho (Xl (.leaf n) o ht ho).wf h
 |.one n a,o,ht,ho,h=>Qvt (Xl a o ht.2.2.2 ho).wf (Xl (.one n a) o ht ho).wf (Qyx a o ht.2.2.2 ho h)
 |.two n a b,o,ht,ho,h=>by
  have A:=Xl a o ht.2.2.2.1 ho;exact Qvt (Xl b _ ht.2.2.2.2 A.wf).wf (Xl (.two n a b) o ht ho).wf (Qyx b _ ht.2.2.2.2 A.wf (Qyx a o ht.2.2.2.1 ho h))
theorem Qm8 {t:Tr}(ht:t.ok):Dst (Qr t):=Qyx t [] ht Nk (fun i _ hi=>absurd hi (by simp))
theorem Ga {P:Program} {ops:Array Oper} {o:Oper} {a:Act} {w:World} {K:Act->World->Prop} {Q:Exit->Act->World->Prop} {E:Prop}
 (hgd:o.guard=none)(s x:Operand)(t:TypeId)(ho:o.op=.call { callee:=.builtin .append,args:=#[s,x],argTypes:=#[t,t] })
 (base:Nat)(e:TypeId)(i:TypeInfo)(z:Value)(size bytes:Nat)(ht:P.underlying t=some (.slice e))(hi:P.info? e=some i)(hz:i.zero=some z)
 (LS:i.size=size)(qQ:i.bytes=bytes)(hzs:z.cells.size=size)(lX:0 < size)
 (v:Value)(n:Nat)(xs:List Value)(hs:a.eval s=v)(xN:w.ownsRow base e size v n xs)
 (ad:Addr)(m c:Nat)(news:List Value)(hx:a.eval x=.slice (some ad) m c)(hl:news.length=m*size)(ME:∀j u,news[j]?=some u->w.cell? (ad.add j)=some u)(h1:∀u∈news,u.oneCell'=true)
 (F0:n+m<=maxLen)(UZ:(n+m)*bytes<=140737488355328)(tO:base<=w.heap.size)
 (h:∀v' w',w'.ownsRow base e size v' (n+m) (xs++news)->w.grownBy w' v.ownBlock->(v'.ownBlock=v.ownBlock\/v'.ownBlock=some w.heap.size)->K (a.put o.dst v') w'):
 if Region.wanted o (yielded ops a.tmps)=true then Oper.wp P o a w K Q else E:=by
 have hw:Region.wanted o (yielded ops a.tmps)=true:=by simp [Region.wanted,hgd]
 rw [if_pos hw];obtain⟨v',w',hr,h2,h3,_,h5⟩:=run_append_own_at (P:=P) w base t o.type e i z size bytes ht hi hz LS qQ hzs lX v n xs xN ad m c news hl ME h1 F0 UZ tO;unfold Oper.wp execOp;simp only [ho,resolve,invoke,builtin,Sem.run_bind,Sem.run_pure,Result.andThen_ok,List.map_toArray,List.map_cons,List.map_nil,hs,hx,hr];exact h v' w' h2 h3 h5
section
variable {P:Program} {md:Region.Mode} {ops:Array Oper} {Q:Exit->Act->World->Prop} {S:World->Prop}
theorem tk(i:Nat) {oi:Oper} {v:Value} {fuel:Nat} {listed:Array Bool} {a a':Act} {w:World}(hS:S w)
 (h:wpAnyH P md ops Q S fuel (listed.setIfInBounds i true) a' w)
 (hi:ops[i]?=some oi:=by exact rfl)(hs:Region.noSelect ops=true:=by kernel_rfl)(hf:Region.free md ops listed i=true:=by kernel_rfl)(hr:(Region.ready md ops listed).contains i=true:=by kernel_rfl)
 (hy:YieldsIf P ops S oi v a:=by refine Or.inl ⟨by rfl,?_⟩;intro w' ES;(try dsimp only at ES);go_simp;(try with_reducible rfl))
 (hQ:∀c a w,Q (.panic c) (a.put oi.dst v) w->Q (.panic c) a w:=by exact fun _ _ _ h=>h)
 (ha:a.put oi.dst v=a':=by(try simp only [Act.put,List.setIfInBounds_toArray,List.set_cons_zero,List.set_cons_succ,List.getElem_toArray,List.getElem_cons_succ,List.getElem_cons_zero]);exact rfl):wpAnyH P md ops Q S (fuel+1) listed a w :=
 wpAnyH_take hi hs hf hr hQ hy hS (by rw [ha];exact h)
end
section
variable {a b c:World} {p:Addr} {v:Value}
theorem xc(hb:p.block < a.heap.size)(f:a.cell? p=some v)(h:Qg a b:=by repeat(first|exact Qz|assumption|apply Qg.alloc|apply Qg.drew)):b.cell? p=some v:=(h.cell hb).trans f
theorem xw(e:Qg a b:=by repeat(first|exact Qz|assumption|apply Qg.alloc|apply Qg.drew)):Qg a b:=e
end
theorem Qd {P:Program} {md:Region.Mode} {ops:Array Oper} {Q:Exit->Act->World->Prop} {S:World->Prop} {fuel:Nat} {up:Array Bool} {a a':Act} {w:World}(h:wpAnyH P md ops Q S fuel up a' w)(e:a=a':=by(try simp only [Act.put,List.setIfInBounds_toArray,List.set_cons_zero,List.set_cons_succ,List.getElem_toArray,List.getElem_cons_succ,List.getElem_cons_zero]);exact rfl):wpAnyH P md ops Q S fuel up a w:=e▸h
theorem Eg {P:Program} {fn:Func} {t:Tmp} {ty:TypeId}(h:fn.results=#[.cell t ty])(tmps:Array Value)(w:World) {b o:Nat}(ht:tmps.getD t undef=.pointer (some ⟨b,o,none⟩)) {cs:List Value} {d:TypeDesc}(hc:w.rangeAt b o cs)
 (hu:P.underlying ty=some d)(hd:d.isRow=true)(hi:(P.info? ty).map (·.size)=some cs.length):(results fn tmps).run P w=.ok (.agg cs.toArray) w:=by
 have kS:tmps[t]?.getD undef=.pointer (some ⟨b,o,none⟩):=by rw [<-Array.getD_eq_getD_getElem?];exact ht
 simp [results,h,kS,asAddr,run_loadVar_mid w b o ty cs d hc hu hd hi]
end Go.Proofs.YtkmclcmnoicagaaGreatDoor
