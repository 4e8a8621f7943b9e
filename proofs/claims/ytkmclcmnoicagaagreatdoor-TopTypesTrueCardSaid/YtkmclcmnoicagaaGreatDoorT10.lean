/- Slices of words. -/
import Derived.Test.YtkmclcmnoicagaaGreatDoorT09
import Derived.RangeFuncFrom
import Derived.RangeFuncLeaves
import Derived.RangeFuncCalls
namespace Go.Proofs.YtkmclcmnoicagaaGreatDoor
set_option maxRecDepth 100000
set_option maxHeartbeats 128000000
open Go.RowKit
def Ji(w:World)(v:Value)(l:List Nat):Prop :=
 ∃A c,v=.slice A l.length c/\l.length<=c/\c<=maxLen/\(l≠ []->∃ad,A=some ad/\ad.block < w.heap.size/\∀(k z:Nat),l[k]?=some z->w.cell? (ad.add k)=some (.int .u64 (z:Int)))
theorem Ji.ext {w w':World} {v:Value} {l:List Nat}(h:Ji w v l)(he:Ext w w'):Ji w' v l:=by
 obtain⟨A,c,e,h1,h2,h3⟩:=h;refine⟨A,c,e,h1,h2,fun hn=> ?_⟩;obtain⟨ad,e,hlt,hc⟩:=h3 hn;exact⟨ad,e,Qy hlt he.size,fun k z hk=>(he.cell (Qj hlt)).trans (hc k z hk)⟩
theorem Qjc(w:World):Ji w (.slice none 0 0) []:=⟨none,0,rfl,Nat.le_refl _,by unfold maxLen;omega,fun h=>absurd rfl h⟩
theorem Gc {w:World} {v:Value} {l:List Nat}(h:Ji w v l):∃A c,v=.slice A l.length c/\l.length<=c/\c<=maxLen/\Hid (∀i,i < l.length->∃ad,A=some ad/\ad.block < w.heap.size/\w.cell? (ad.add i)=some (.int .u64 ((l.getD i 0:Nat):Int))):=by
 obtain⟨A,c,rfl,h1,h2,h3⟩:=h;refine⟨A,c,rfl,h1,h2,Qq fun i hi=> ?_⟩;obtain⟨ad,e,hl,hc⟩:=h3 (by intro e;rw [e]at hi;simp at hi);exact⟨ad,e,hl,hc i _ (by rw [Qk,Qv hi];rfl)⟩
def Lv(w:World)(v:Value)(l:List (List Nat)):Prop :=
 ∃A c,v=.slice A l.length c/\l.length<=c/\c<=maxLen/\(l≠ []->∃ad,A=some ad/\ad.block < w.heap.size/\∀(k:Nat) s,l[k]?=some s->∃u,w.cell? (ad.add k)=some u/\Ji w u s)
theorem Lv.ext {w w':World} {v:Value} {l:List (List Nat)}(h:Lv w v l)(he:Ext w w'):Lv w' v l:=by
 obtain⟨A,c,e,h1,h2,h3⟩:=h;refine⟨A,c,e,h1,h2,fun hn=> ?_⟩;obtain⟨ad,e,hlt,hc⟩:=h3 hn;refine⟨ad,e,Qy hlt he.size,fun k s hk=> ?_⟩;obtain⟨u,hu,hb⟩:=hc k s hk;exact⟨u,(he.cell (Qj hlt)).trans hu,hb.ext he⟩
theorem Dc {w:World} {v:Value} {l:List (List Nat)}(h:Lv w v l):∃A c,v=.slice A l.length c/\l.length<=c/\c<=maxLen/\Hid (∀i,i < l.length->∃ad u,A=some ad/\ad.block < w.heap.size/\w.cell? (ad.add i)=some u/\Ji w u (l.getD i [])):=by
 obtain⟨A,c,rfl,h1,h2,h3⟩:=h;refine⟨A,c,rfl,h1,h2,Qq fun i hi=> ?_⟩;obtain⟨ad,e,hl,hc⟩:=h3 (by intro e;rw [e]at hi;simp at hi);obtain⟨u,hu,hs⟩:=hc i (l.getD i []) (by rw [Qk,Qv hi];rfl);exact⟨ad,u,e,hl,hu,hs⟩
structure Md where
 n:Int
 val:List Nat
 rel:List (List Nat)
def Zj(s:Nat):Prop:=s < 18446744073709551616
structure Md.ok (md:Md):Prop where
 n:Yj md.n
 val:∀s∈md.val,Zj s
 rel:∀r∈md.rel,∀s∈r,Zj s
def MdV(w:World)(v:Value)(md:Md):Prop:=∃vv vr,v=.agg #[.int .i64 md.n,vv,vr]/\Ji w vv md.val/\Lv w vr md.rel
theorem MdV.ext {w w':World} {v:Value} {md:Md}(h:MdV w v md)(he:Ext w w'):MdV w' v md:=by
 obtain⟨vv,vr,e,h1,h2⟩:=h;exact⟨vv,vr,e,h1.ext he,h2.ext he⟩
theorem Fd {l:List Nat}(h:∀s∈l,Zj s)(i:Nat):Zj (l.getD i 0):=by
 rw [Qk];cases e:l[i]? with
 |none=>show(0:Nat) < _;omega
 |some s=>exact h s (List.mem_of_getElem? e)
theorem Qyx {l:List (List Nat)}(h:∀r∈l,∀s∈r,Zj s)(i:Nat):∀s∈l.getD i [],Zj s:=by
 rw [Qk];cases e:l[i]? with
 |none=>intro s hs;cases hs
 |some r=>exact h r (List.mem_of_getElem? e)
def Kk(n:Nat)(p:Nat->Bool):Nat:=(List.range n).foldl (fun o i=>if p i then o|||2^i else o) 0
theorem Th(n:Nat)(p:Nat->Bool):Kk (n+1) p=if p n then Kk n p|||2^n else Kk n p:=by
 unfold Kk;rw [List.range_succ,List.foldl_append];rfl
theorem Df(p:Nat->Bool):∀(n i:Nat),(Kk n p).testBit i=(decide (i < n)&&p i)
 |0,i=>by simp [Kk]
 |n+1,i=>by
  rw [Th];cases h:p n
  ·rw [if_neg (by simp),Df p n i];by_cases e:i=n
   ·subst e;simp [h]
   have:decide (i < n+1)=decide (i < n):=by rw [decide_eq_decide];omega
   rw [this]
  rw [if_pos rfl,Nat.testBit_or,Df p n i,Nat.testBit_two_pow];by_cases e:i=n
  ·subst e;simp [h]
  have h1:decide (n=i)=false:=decide_eq_false (fun q=>e q.symm);have h2:decide (i < n+1)=decide (i < n):=by rw [decide_eq_decide];omega
  rw [h1,h2,Bool.or_false]
theorem Bs(p:Nat->Bool):∀n:Nat,Kk n p < 2^n
 |0=>by simp [Kk]
 |n+1=>by
  rw [Th];have h1:=Bs p n;have h2:2^n < 2^(n+1):=Nat.pow_lt_pow_right (by decide) (Nat.lt_succ_self n)
  split
  ·exact Nat.or_lt_two_pow (by omega) h2
  omega
theorem Nr {n:Nat}(h:n<=64):2^n<=18446744073709551616:=by
 rw [show(18446744073709551616:Nat)=2^64 from rfl];exact Nat.pow_le_pow_right (by decide) h
theorem Pf {n:Nat}(h:n<=64)(p:Nat->Bool):Zj (Kk n p):=Qy (Bs p n) (Nr h)
theorem Vm {s n i:Nat}(h:s < 2^n)(hi:s.testBit i=true):i < n:=by
 by_cases e:i < n
 ·exact e
 rw [Nat.testBit_lt_two_pow (Qy h (Nat.pow_le_pow_right (by decide) (by omega)))]at hi;cases hi
def Yc(a b:Nat):Nat:=a^^^(a&&&b)
theorem Gz(a b i:Nat):(Yc a b).testBit i=(a.testBit i&& !b.testBit i):=by
 unfold Yc;rw [Nat.testBit_xor,Nat.testBit_and];cases a.testBit i <;> cases b.testBit i <;> rfl
theorem Hr {a b:Nat}(ha:Zj a):Zj (Yc a b):=by
 unfold Yc Zj at *;exact Nat.xor_lt_two_pow (n:=64) ha (Nat.lt_of_le_of_lt Nat.and_le_left ha)
theorem Vg {a b:Nat} :Yw a b=true↔∀i,a.testBit i=true->b.testBit i=true:=by
 unfold Yw;rw [beq_iff_eq];constructor
 ·intro h i hi;rw [<-h,Nat.testBit_and]at hi;exact(Bool.and_eq_true_iff.1 hi).2
 intro h;refine Nat.eq_of_testBit_eq fun i=> ?_
 rw [Nat.testBit_and];cases e:a.testBit i
 ·rfl
 rw [h i e];rfl
theorem Qgg {a b:Nat} :(Yc a b==0)=Yw a b:=by
 rw [Bool.eq_iff_iff,beq_iff_eq,Vg];constructor
 ·intro h i hi;have h1:=Gz a b i;rw [h,Nat.zero_testBit,hi,Bool.true_and]at h1;cases e:b.testBit i
  ·rw [e]at h1;cases h1
  rfl
 intro h;refine Nat.eq_of_testBit_eq fun i=> ?_
 rw [Gz,Nat.zero_testBit];cases e:a.testBit i
 ·rfl
 rw [h i e];rfl
section
theorem Rn(a:Nat)(ha:Zj a):(BitVec.ofInt 64 (a:Int)).toNat=a:=by
 rw [BitVec.ofInt_natCast,BitVec.toNat_ofNat];exact Nat.mod_eq_of_lt (by unfold Zj at ha;omega)
theorem Uc {a b:Nat}(ha:Zj a)(hb:Zj b):bits .andNot .u64 (a:Int) (b:Int)=((Yc a b:Nat):Int):=by
 show IntKind.u64.wrap ((BitVec.ofInt 64 (a:Int)&&& ~~~BitVec.ofInt 64 (b:Int)).toNat:Int)=_;have e:(BitVec.ofInt 64 (a:Int)&&& ~~~BitVec.ofInt 64 (b:Int)).toNat=Yc a b:=by
  have e2:(BitVec.ofInt 64 (a:Int)&&& ~~~BitVec.ofInt 64 (b:Int))=BitVec.ofInt 64 (a:Int)^^^(BitVec.ofInt 64 (a:Int)&&&BitVec.ofInt 64 (b:Int)):=by
   apply BitVec.eq_of_getLsbD_eq;intro i hi;simp only [BitVec.getLsbD_and,BitVec.getLsbD_not,BitVec.getLsbD_xor,hi,decide_true,Bool.true_and];cases(BitVec.ofInt 64 (a:Int)).getLsbD i <;> cases(BitVec.ofInt 64 (b:Int)).getLsbD i <;> rfl
  rw [e2,BitVec.toNat_xor,BitVec.toNat_and,Rn a ha,Rn b hb];rfl
 rw [e,IntKind.wrap_u64];have:=Hr (b:=b) ha;unfold Zj at this;omega
theorem Bd {a b:Nat}(ha:Zj a)(hb:Zj b):bits .or .u64 (a:Int) (b:Int)=((a|||b:Nat):Int):=by
 show IntKind.u64.wrap ((BitVec.ofInt 64 (a:Int)|||BitVec.ofInt 64 (b:Int)).toNat:Int)=_;rw [BitVec.toNat_or,Rn a ha,Rn b hb,IntKind.wrap_u64];have:a|||b < 2^64:=Nat.or_lt_two_pow ha hb;omega
theorem Qx7 {a b:Nat}(ha:Zj a)(hb:Zj b):bits .xor .u64 (a:Int) (b:Int)=((a^^^b:Nat):Int):=by
 show IntKind.u64.wrap ((BitVec.ofInt 64 (a:Int)^^^BitVec.ofInt 64 (b:Int)).toNat:Int)=_;rw [BitVec.toNat_xor,Rn a ha,Rn b hb,IntKind.wrap_u64];have:a^^^b < 2^64:=Nat.xor_lt_two_pow ha hb;omega
theorem Mg {a b:Nat}(ha:Zj a)(hb:Zj b):bits .and .u64 (a:Int) (b:Int)=((a&&&b:Nat):Int):=bits_and_u64_nat a b ha hb
theorem Qjh {n:Nat}(h:n < 64):IntKind.u64.wrap ((2:Int)^n)=((2^n:Nat):Int):=by
 have h1:2^n < 18446744073709551616:=by
  rw [show(18446744073709551616:Nat)=2^64 from rfl];exact Nat.pow_lt_pow_right (by decide) h
 rw [show((2:Int)^n)=((2^n:Nat):Int) by rw [Int.natCast_pow];rfl,IntKind.wrap_u64];generalize 2^n=m at *;omega
theorem Ec {n:Nat}(h:n < 64):IntKind.u64.wrap (IntKind.u64.wrap ((2:Int)^n) - 1)=((2^n - 1:Nat):Int):=by
 rw [Qjh h,IntKind.wrap_u64];have h1:0 < 2^n:=Nat.two_pow_pos n;have h2:2^n < 18446744073709551616:=by
  rw [show(18446744073709551616:Nat)=2^64 from rfl];exact Nat.pow_lt_pow_right (by decide) h
 generalize 2^n=m at *;omega
end
theorem Qad(n i:Nat):(2^n - 1).testBit i=decide (i < n):=by
 rw [Nat.testBit_two_pow_sub_one]
theorem Qpg {n:Nat}(h:n<=64):Zj (2^n - 1):=by
 have:=Nr h;unfold Zj;have:0 < 2^n:=Nat.two_pow_pos n;omega
theorem Qrw {s n:Nat} :Yw s (2^n - 1)=decide (s < 2^n):=by
 unfold Yw;rw [Nat.and_two_pow_sub_one_eq_mod,Bool.eq_iff_iff,beq_iff_eq,decide_eq_true_iff];constructor
 ·intro h;rw [<-h];exact Nat.mod_lt _ (Nat.two_pow_pos n)
 exact Nat.mod_eq_of_lt
def Zl(n:Nat):Nat:=2^n - 1
theorem Xy(n i:Nat):(Zl n).testBit i=decide (i < n):=Qad n i
theorem Fb {n:Nat}(h:n<=64):Zj (Zl n):=Qpg h
theorem Qqv {s n:Nat}(hs:Zj s)(hn:n<=64):(bits .andNot .u64 (s:Int) ((Zl n:Nat):Int) !=0)= !decide (s < 2^n):=by
 rw [Uc hs (Fb hn)];show(!(((Yc s (Zl n):Nat):Int)==0))=_;rw [show(((Yc s (Zl n):Nat):Int)==0)=(Yc s (Zl n)==0) by rw [Bool.eq_iff_iff,beq_iff_eq,beq_iff_eq];omega,Qgg];unfold Zl;rw [Qrw]
theorem Eo(s k:Nat):(((s:Int) / 2^k).tmod 2==1)=s.testBit k:=by
 rw [Si,Ng];generalize s / 2^k=r;rw [show((r:Nat):Int).tmod 2=((r % 2:Nat):Int)from rfl,Bool.eq_iff_iff,beq_iff_eq,beq_iff_eq];omega
def Zx(l:List Nat)(n:Nat):Bool:=l.any fun s=> !decide (s < 2^n)
theorem Hj {l:List Nat} {n k:Nat}(hk:k < l.length)(h:decide (l.getD k 0 < 2^n)=false):Zx l n=true:=by
 unfold Zx;rw [List.any_eq_true];exact⟨l[k],List.getElem_mem hk,by rw [Qk,Qv hk]at h;simpa using h⟩
theorem Pa {l:List Nat} {n:Nat}(h:∀k,k < l.length->decide (l.getD k 0 < 2^n)=true):Zx l n=false:=by
 unfold Zx;rw [List.any_eq_false];intro s hs;obtain⟨k,hk,e⟩:=List.getElem_of_mem hs;have:=h k hk;rw [Qk,Qv hk,e]at this
 simpa using this
theorem Be {P:Nat->Prop} {k:Nat}(h:∀j,j < k->P j)(hk:P k):∀j,j < k+1->P j:=fun j hj=>by
 by_cases e:j < k
 ·exact h j e
 have:j=k:=by omega
 rw [this];exact hk
def Yb(n:Int)(l:List Nat):Int:=if n < 0\/64 < n then 2 else if(l.length:Int)≠n then 3 else if Zx l n.toNat then 1 else 0
def Xb(l:List Nat):Bool:=Yb l.length l==0
theorem Ul {l:List Nat} :Xb l=true↔l.length<=64/\Zx l l.length=false:=by
 unfold Xb Yb;by_cases h:l.length<=64
 ·rw [if_neg (by omega),if_neg (by simp)];show((if Zx l l.length then(1:Int)else 0)==0)=true↔_;cases Zx l l.length <;> simp [h]
 rw [if_pos (by omega)];simp;omega
def atG(eu:Bool)(w u:Nat):Nat:=bif eu then u else w
def Ph(eu:Bool)(out:List Nat)(w u:Nat):Nat:=bif eu then out.getD w 0 else out.getD u 0
def Fp(eu:Bool)(out:List Nat)(w u:Nat):Prop:=(out.getD w 0).testBit u=true->Yw (Ph eu out w u) (out.getD (atG eu w u) 0)=true
def Fk(eu:Bool)(out:List Nat):Prop:=∀w u,w < out.length->u < out.length->Fp eu out w u
def Ff(n:Nat)(out:List Nat):Nat:=(List.range (n*n)).countP fun k=> !(out.getD (k / n) 0).testBit (k % n)
structure Ns (eu:Bool) (r out:List Nat) (n:Nat):Prop where
 len:out.length=n
 lt:∀i,i < n->out.getD i 0 < 2^n
 same:Fk eu r->out=r
theorem Ob {a b:Nat} :(a|||b)=a↔Yw b a=true:=by
 rw [Vg];constructor
 ·intro h i hi;rw [<-h,Nat.testBit_or,hi,Bool.or_true]
 intro h;refine Nat.eq_of_testBit_eq fun i=> ?_
 rw [Nat.testBit_or];cases e:b.testBit i
 ·rw [Bool.or_false]
 rw [h i e];rfl
theorem Hb {α:Type} {p q:α->Bool} :∀{l:List α},(∀x∈l,q x=true->p x=true)->(∃x∈l,p x=true/\q x=false)->l.countP q < l.countP p
 |[],_,h=>by obtain⟨x,hx,_⟩:=h;cases hx
 |a :: l,h,hx=>by
  have hle:l.countP q<=l.countP p:=List.countP_mono_left fun x hx=>h x (List.mem_cons_of_mem _ hx)
  rw [List.countP_cons,List.countP_cons];obtain⟨x,hm,h1,h2⟩:=hx;rcases List.mem_cons.1 hm with rfl|hm
  ·rw [h1,h2];simp;omega
  have ih:=Hb (l:=l) (fun x hx=>h x (List.mem_cons_of_mem _ hx)) ⟨x,hm,h1,h2⟩;have h3:=h a (List.mem_cons_self ..);cases e:q a
  ·cases p a <;> simp <;> omega
  rw [h3 e];simp;omega
section
variable {eu:Bool} {r out:List Nat} {n:Nat}
theorem Ho {l:List Nat} {i j x:Nat}(hi:i < l.length):(l.set i x).getD j 0=if i=j then x else l.getD j 0:=by
 rw [Qk,List.getElem?_set];by_cases e:i=j
 ·subst e;simp [hi]
 rw [if_neg e,if_neg e,<-Qk]
theorem Ns.start(hl:r.length=n)(hb:Zx r n=false):Ns eu r r n:=by
 refine⟨hl,fun i hi=> ?_,fun _=>rfl⟩;unfold Zx at hb;rw [List.any_eq_false]at hb;have h1:=hb (r.getD i 0) (by rw [Qk,List.getElem?_eq_getElem (by omega)];exact List.getElem_mem _)
 simpa using h1
theorem Ns.at_lt(_h:Ns eu r out n) {w u:Nat}(hw:w < n)(hu:u < n):atG eu w u < n:=by
 unfold atG;cases eu
 ·exact hw
 exact hu
theorem Ns.add_lt(h:Ns eu r out n) {w u:Nat}(hw:w < n)(hu:u < n):Ph eu out w u < 2^n:=by
 unfold Ph;cases eu
 ·exact h.lt u hu
 exact h.lt w hw
theorem Ns.step(h:Ns eu r out n) {w u:Nat}(hw:w < n)(hu:u < n)(hb:(out.getD w 0).testBit u=true)(hne:(out.getD (atG eu w u) 0|||Ph eu out w u)≠out.getD (atG eu w u) 0):
 Ns eu r (out.set (atG eu w u) (out.getD (atG eu w u) 0|||Ph eu out w u)) n/\Ff n (out.set (atG eu w u) (out.getD (atG eu w u) 0|||Ph eu out w u)) < Ff n out:=by
 have ha:=h.at_lt hw hu;have hal:atG eu w u < out.length:=by rw [h.len];exact ha
 refine⟨⟨by rw [List.length_set];exact h.len,fun i hi=> ?_,fun hc=> ?_⟩,?_⟩
 ·rw [Ho hal]
  split
  ·exact Nat.or_lt_two_pow (h.lt _ ha) (h.add_lt hw hu)
  exact h.lt i hi
 ·exfalso
  have e:=h.same hc;subst e;exact hne (Ob.2 (hc w u (by rw [h.len];exact hw) (by rw [h.len];exact hu) hb))
 have hnn:0 < n:=by omega
 obtain⟨j,hj1,hj2⟩:∃j,(Ph eu out w u).testBit j=true/\(out.getD (atG eu w u) 0).testBit j=false:=by
  apply Classical.byContradiction;intro hno;refine hne (Ob.2 (Vg.2 fun i hi=> ?_));cases e:(out.getD (atG eu w u) 0).testBit i
  ·exact absurd ⟨i,hi,e⟩ hno
  rfl
 have hjn:=Vm (h.add_lt hw hu) hj1;unfold Ff;refine Hb (fun k hk hq=> ?_) ⟨atG eu w u*n+j,?_,?_,?_⟩
 ·rw [Ho hal]at hq
  split at hq
  ·rename_i e;rw [<-e];rw [Nat.testBit_or]at hq
   revert hq
   cases(out.getD (atG eu w u) 0).testBit (k % n) <;> simp
  exact hq
 ·rw [List.mem_range]
  calc atG eu w u*n+j < atG eu w u*n+n:=by omega
   _=(atG eu w u+1)*n:=by rw [Nat.succ_mul]
   _<=n*n:=Nat.mul_le_mul_right n ha
 ·rw [Nat.mul_comm,Nat.mul_add_div hnn,Nat.div_eq_of_lt hjn,Nat.add_zero,Nat.mul_add_mod,Nat.mod_eq_of_lt hjn,hj2];rfl
 rw [Nat.mul_comm,Nat.mul_add_div hnn,Nat.div_eq_of_lt hjn,Nat.add_zero,Nat.mul_add_mod,Nat.mod_eq_of_lt hjn,Ho hal,if_pos rfl,Nat.testBit_or,hj1,Bool.or_true];rfl
theorem Qv1 {w u:Nat}(h:(out.getD (atG eu w u) 0|||Ph eu out w u)=out.getD (atG eu w u) 0):Fp eu out w u:=fun _=>Ob.1 h
theorem Qa5 {w u:Nat}(h:(out.getD w 0).testBit u=false):Fp eu out w u:=fun e=>by rw [h]at e;cases e
theorem Ns.done(h:Ns eu r out n)(hl:r.length=n)(hc:∀w,w < n->∀u,u < n->Fp eu out w u):out=r↔Fk eu r:=by
 constructor
 ·rintro rfl w u hw hu;rw [hl]at hw hu;exact hc w hw u hu
 exact h.same
end
def Sz(s:Nat):Nat:=((List.range 64).find? fun i=>s.testBit i).getD 64
def Kr(s:Nat):List Nat:=(List.range 64).filter fun i=>s.testBit i
theorem Qqk {s i:Nat} :i∈Kr s↔i < 64/\s.testBit i=true:=by
 unfold Kr;rw [List.mem_filter,List.mem_range]
theorem Qh4 {s i:Nat}(hs:Zj s)(h:s.testBit i=true):i < 64:=by
 rcases Nat.lt_or_ge i 64 with h1|h1
 ·exact h1
 rw [Nat.testBit_lt_two_pow (Qy hs (by rw [show(18446744073709551616:Nat)=2^64 from rfl];exact Nat.pow_le_pow_right (by decide) h1))]at h;cases h
theorem Hn {s:Nat}(hs:Zj s)(h0:s≠0):Sz s < 64/\s.testBit (Sz s)=true/\∀j,j < Sz s->s.testBit j=false:=by
 obtain⟨i,hi⟩:=Nat.exists_testBit_of_ne_zero h0;have hi64:=Qh4 hs hi;cases hf:(List.range 64).find? (fun i=>s.testBit i)with
 |none =>
  have:=List.find?_eq_none.1 hf i (List.mem_range.2 hi64);exact absurd hi this
 |some k =>
  have hk:Sz s=k:=by unfold Sz;rw [hf];rfl
  rw [hk];obtain⟨h1,la,lb,h2,h3⟩:=List.find?_eq_some_iff_append.1 hf;have hm:k < 64:=List.mem_range.1 (by rw [h2];simp);refine⟨hm,h1,fun j hj=> ?_⟩;have hjm:j∈la:=by
   have hl:la=(List.range 64).take la.length:=by rw [h2];simp
   have hk2:(List.range 64)[la.length]?=some k:=by rw [h2];simp
   rw [List.getElem?_range]at hk2
   ·have hk3:la.length=k:=by injection hk2
    rw [hl,hk3];rw [List.take_range];exact List.mem_range.2 (by omega)
   have:=congrArg List.length h2;simp at this;omega
  have:=h3 j hjm
  simpa using this
section
variable {s i:Nat}
theorem Qlh(h1:s.testBit i=true)(h2:∀j,j < i->s.testBit j=false):∃r,s=2^i*(2*r+1):=by
 have hm:s % 2^i=0:=by
  refine Nat.eq_of_testBit_eq fun j=> ?_
  rw [Nat.testBit_mod_two_pow,Nat.zero_testBit];by_cases hj:j < i
  ·rw [h2 j hj,Bool.and_false]
  simp [hj]
 have hq:(s / 2^i) % 2=1:=by
  have:=h1;rw [Nat.testBit_eq_decide_div_mod_eq]at this;exact of_decide_eq_true this
 refine⟨s / 2^i / 2,?_⟩;have h3:2*(s / 2^i / 2)+1=s / 2^i:=by omega
 rw [h3];have:=Nat.div_add_mod s (2^i);omega
theorem Qfd(h1:s.testBit i=true)(h2:∀j,j < i->s.testBit j=false)(j:Nat):(s - 1).testBit j=if j < i then true else if j=i then false else s.testBit j:=by
 obtain⟨r,hr⟩:=Qlh h1 h2;have hp:=Nat.two_pow_pos i;have e1:s - 1=2^i*(2*r)+(2^i - 1):=by
  rw [hr,Nat.mul_add,Nat.mul_one];omega
 have e2:s=2^i*(2*r+1)+0:=by rw [hr];rfl
 rw [e1,Nat.testBit_two_pow_mul_add _ (by omega)];by_cases hj:j < i
 ·rw [if_pos hj,if_pos hj,Nat.testBit_two_pow_sub_one];exact decide_eq_true hj
 rw [if_neg hj,if_neg hj];by_cases he:j=i
 ·rw [if_pos he,he,Nat.sub_self];rw [Nat.testBit_zero];exact decide_eq_false (by omega)
 rw [if_neg he,e2,Nat.testBit_two_pow_mul_add _ hp,if_neg hj];obtain⟨k,hk⟩:∃k,j - i=k+1:=⟨j - i - 1,by omega⟩;rw [hk,Nat.testBit_succ,Nat.testBit_succ];rw [show 2*r / 2=(2*r+1) / 2 by omega]
theorem Rc(h1:s.testBit i=true)(h2:∀j,j < i->s.testBit j=false)(j:Nat):(s&&&(s - 1)).testBit j=(s.testBit j&& !decide (j=i)):=by
 rw [Nat.testBit_and,Qfd h1 h2];by_cases hj:j < i
 ·rw [h2 j hj,Bool.false_and,Bool.false_and]
 rw [if_neg hj];by_cases he:j=i
 ·rw [if_pos he,decide_eq_true he,Bool.and_false,Bool.not_true,Bool.and_false]
 rw [if_neg he,decide_eq_false he,Bool.and_self,Bool.not_false,Bool.and_true]
end
theorem Qc7:Kr 0= []:=by
 unfold Kr;rw [List.filter_eq_nil_iff];intro i _;simp
theorem Qc6 {s:Nat}(hs:Zj s)(h0:s≠0):Kr s=Sz s :: Kr (s&&&(s - 1)):=by
 obtain⟨h64,h1,h2⟩:=Hn hs h0;obtain⟨i,hi⟩:∃i,i=Sz s:=⟨_,rfl⟩;rw [<-hi]at h64 h1 h2⊢;unfold Kr;have e:List.range 64=List.range i++i :: List.range' (i+1) (63 - i):=by
  rw [List.range_eq_range',List.range_eq_range',<-List.range'_succ,show 63 - i+1=64 - i by omega];have:=List.range'_append (s:=0) (m:=i) (n:=64 - i) (step:=1);rw [Nat.zero_add,Nat.one_mul,show i+(64 - i)=64 by omega]at this;exact this.symm
 rw [e,List.filter_append,List.filter_append];have z1:(List.range i).filter (fun j=>s.testBit j)= []:=by
  rw [List.filter_eq_nil_iff];intro j hj;rw [h2 j (List.mem_range.1 hj)];simp
 have z2:(List.range i).filter (fun j=>(s&&&(s - 1)).testBit j)= []:=by
  rw [List.filter_eq_nil_iff];intro j hj;rw [Rc h1 h2,h2 j (List.mem_range.1 hj)];simp
 rw [z1,z2,List.nil_append,List.nil_append,List.filter_cons_of_pos (by exact h1),List.filter_cons_of_neg (by rw [Rc h1 h2];simp)]
 congr 1
 refine List.filter_congr fun j hj=> ?_
 have hj1:=(List.mem_range'_1.1 hj).1;rw [Rc h1 h2,decide_eq_false (by omega),Bool.not_false,Bool.and_true]
theorem Qq2 {s:Nat}(h0:s≠0):(s&&&(s - 1)) < s:=by
 have:= @Nat.and_le_right s (s - 1);omega
theorem Qep {s:Nat}(hs:Zj s)(h0:s≠0):s&&&(18446744073709551616 - s)=2^Sz s:=by
 obtain⟨h64,h1,h2⟩:=Hn hs h0;obtain⟨i,hi⟩:∃i,i=Sz s:=⟨_,rfl⟩;rw [<-hi]at h64 h1 h2⊢;refine Nat.eq_of_testBit_eq fun j=> ?_
 have hs2:s - 1 < 2^64:=by unfold Zj at hs;omega
 rw [Nat.testBit_and,Nat.testBit_two_pow,show 18446744073709551616 - s=2^64 - (s - 1+1) by omega,Nat.testBit_two_pow_sub_succ hs2,Qfd h1 h2];by_cases hj:j < i
 ·rw [h2 j hj,Bool.false_and];exact(decide_eq_false (by omega)).symm
 rw [if_neg hj];by_cases he:j=i
 ·rw [if_pos he,he,h1,decide_eq_true h64,decide_eq_true rfl];rfl
 rw [if_neg he,show decide (i=j)=false from decide_eq_false (fun e=>he e.symm)];cases s.testBit j <;> simp
section
variable {P:Program} {n:Nat}
def AbB {α:Type}(B:Nat)(J:List α->World->Prop):Prop:=∀s W W',J s W->W.grownBy W' (some B)->J s W'
structure KpB (B:Nat) (W W':World):Prop where
 size:W.heap.size<=W'.heap.size
 blk:W'.heap[B]?=W.heap[B]?
 tab:W'.heap[0]?=W.heap[0]?
theorem KpB.trans {B:Nat} {a b c:World}(h:KpB B a b)(k:KpB B b c):KpB B a c:=⟨Qx h.size k.size,k.blk.trans h.blk,k.tab.trans h.tab⟩
theorem KpB.put {B:Nat} {W:World} {l:Nat} {o:Obj}(hB0:0 < B)(hl:B < l):KpB B W (W.putObj l o):=⟨by simp,World.putObj_heap_other (by omega),World.putObj_heap_other (by omega)⟩
def Qop {α:Type}(P:Program)(n g:Nat)(lb:Array Value)(encs:α->Array Value)(B:Nat)(xs:List α)(w:World):Prop :=
 ∀(l:Nat) (J Jx:List α->World->Prop) (W:World),Go.RowKit.Below w.heap.size w W->AbB B J->AbB B Jx->
  (∀pre x W1,J pre W1->pre++ [x] <+: xs->YieldAt Fence.wide (n - 1) P l (encs x) W1 fun e W' =>
   (e=.returned (.bool true)/\J (pre++ [x]) W'/\KpB B W1 W')\/(e=.returned (.bool false)/\Jx (pre++ [x]) W'))->
  J [] W->
  CallsIn Fence.wide n P g (#[.func (.yield l) #[] #[]]++lb) W fun e W'=>(∃v,e=.returned v)/\(J xs W'\/∃pre,Jx pre W')
def Qot {α:Type}(B z:Nat)(I:List α->World->Prop):Prop:=∀s W W' r,I s W->W.grownBy W' (some r)->r=B\/(z<=r/\∀o,W.heap[r]?=some o->o.isCells=false)->I s W'
def Zq4 {α:Type}(B z:Nat)(I Ix:List α->World->Prop)(xs:List α)(W:World):Exit->Act->World->Prop
 |.normal,_,W'=>(∀(k:Nat) (o:Obj),z<=k->W.heap[k]?=some o->o.isCells=false->W'.heap[k]?=some o)/\KpB B W W'/\I xs W'
 |.ret,_,W'=>(∀(k:Nat) (o:Obj),z<=k->W.heap[k]?=some o->o.isCells=false->W'.heap[k]?=some o)/\Ix xs W'
 |_,_,_=>False
theorem Qid {α:Type} {g:Operand} {ps:Array Tmp} {assign body:Code} {Q:Exit->Act->World->Prop} {a:Act} {w:World} {gf:Nat} {lb:Array Value} {encs:α->Array Value} {B:Nat} {xs:List α} {w0:World}
 (hg:a.eval g=.func (.func gf) #[] lb)(eg:∀args w,(callFunc gf args).run P w=.ok (.enter gf args) w)
 (hseq:Qop P (n - 1) gf lb encs B xs w0)(hb0:Go.RowKit.Below w0.heap.size w0 w)(hB0:0 < B)(hB:B < w.heap.size)(hps:∀x,(encs x).size=ps.size)
 (I Ix:List α->World->Prop)(hI:Qot B w.heap.size I)(hIx:Qot B w.heap.size Ix)(h0:∀W,Ext w W->I [] W)(a₁:α->Act)
 (hassign:∀(l:Nat) (x:α) (W:World) (K:Act->World->Prop),K (a₁ x) W->
  assign.wpIn (Fence.wide.inRound l) (n - 1 - 1) P (Exit.then K (fun _ _ _=>False)) { tmps:=(ps.zip (encs x)).foldl (fun t (p,v)=>t.setIfInBounds p v) a.tmps,defers:= [] } W)
 (hbody:∀(l:Nat) (pre:List α) (x:α) (W:World),I pre W->pre++ [x] <+: xs->body.wpIn (Fence.wide.inRound l) (n - 1 - 1) P (Zq4 B w.heap.size I Ix (pre++ [x]) W) (a₁ x) W)
 (hdone:∀(D:Nat) (W:World),w.heap.size<=D->I xs W->W.heap[D]?=some (.deferred (some []))->Q .normal { a with defers:= { target:=.collected D,args:=#[] } :: a.defers } W)
 (hstop:∀(D:Nat) (pre:List α) (W:World),w.heap.size<=D->Ix pre W->W.heap[D]?=some (.deferred (some []))->Q .ret { a with defers:= { target:=.collected D,args:=#[] } :: a.defers } W):
 (Code.rangeFunc g ps assign body).wpIn Fence.wide n P Q a w:=by
 refine wpIn_rangeFunc ?_;intro fn hfn;obtain⟨rec,hrec⟩:∃rec:LoopState->Option Code->Loop,rec=fun st pe=> { state:=st,pending:=pe,fn,tmps:=a.tmps,params:=ps,assign,body,defers:=w.heap.size } :=⟨_,rfl⟩
 obtain⟨W1,hW1⟩:∃W1,(w.alloc (.deferred (some []))).alloc (.loop (rec .ready none))=W1:=⟨_,rfl⟩;have hL1:W1.heap[w.heap.size+1]?=some (.loop (rec .ready none)):=by
  rw [<-hW1];have:=World.alloc_heap_new (w.alloc (.deferred (some []))) (.loop (rec .ready none));rwa [World.size_alloc]at this
 have hK1:W1.heap[w.heap.size]?=some (.deferred (some [])):=by
  rw [<-hW1];exact(Below.heap_alloc _ _ _ (by simp)).trans (World.alloc_heap_new w _)
 have hE1:Ext w W1:=by rw [<-hW1];exact((Ext.refl w).alloc _).alloc _
 have hb1:Go.RowKit.Below w0.heap.size w0 W1:=hb0.trans (hE1.mono hb0.size);have ne1:w.heap.size+1≠B:=by omega
 have ne2:w.heap.size≠B:=by omega
 refine⟨w.heap.size+1,[{ target:=.collected w.heap.size,args:=#[] }],W1,{ target:=.fn (.func gf) lb,args:=#[.func (.yield (w.heap.size+1)) #[] #[]] },W1,gf,
  #[.func (.yield (w.heap.size+1)) #[] #[]]++lb,W1,?_,?_,?_,?_,fun h=>(by cases h),?_⟩
 ·rw [<-hW1,hrec];exact run_enterLoop_outer _ _ _ _ _
 ·simp only [resolve,hg];simp [go_sem]
 ·intro f' _;trivial
 ·simp [invoke,go_sem,eg]
 refine(hseq (w.heap.size+1)
  (fun pre W=>I pre W/\W.heap[w.heap.size+1]?=some (.loop (rec .ready none))/\W.heap[w.heap.size]?=some (.deferred (some [])))
  (fun pre W=>Ix pre W/\W.heap[w.heap.size+1]?=some (.loop (rec .done (some .ret)))/\W.heap[w.heap.size]?=some (.deferred (some [])))
  W1 hb1
  (fun s A C hs hg'=>⟨hI s A C B hs.1 hg' (.inl rfl),(hg'.block _ (Array.getElem?_eq_some_iff.1 hs.2.1).1 (fun e=>ne1 (by injection e))).trans hs.2.1,(hg'.block _ (Array.getElem?_eq_some_iff.1 hs.2.2).1 (fun e=>ne2 (by injection e))).trans hs.2.2⟩)
  (fun s A C hs hg'=>⟨hIx s A C B hs.1 hg' (.inl rfl),(hg'.block _ (Array.getElem?_eq_some_iff.1 hs.2.1).1 (fun e=>ne1 (by injection e))).trans hs.2.1,(hg'.block _ (Array.getElem?_eq_some_iff.1 hs.2.2).1 (fun e=>ne2 (by injection e))).trans hs.2.2⟩)
  ?_ ⟨h0 _ hE1,hL1,hK1⟩).mono ?_
 ·rintro pre x W ⟨hi,hl,hk⟩ hlen;have hlt:w.heap.size+1 < W.heap.size:=(Array.getElem?_eq_some_iff.1 hl).1;have hy:=run_yield (P:=P) (args:=encs x) hl (by rw [hrec];exact hps x);rw [hrec]at hy;refine⟨fn,_,assign,body,hy,roundIn_of_wpIn hfn (hassign _ x W _ ⟨_,run_beginRound hl (by rw [hrec]),?_⟩)⟩;obtain⟨W2,hW2⟩:∃W2,W.putObj (w.heap.size+1) (.loop { rec .ready none with state:=.busy })=W2:=⟨_,rfl⟩;have hg2:W.grownBy W2 (some (w.heap.size+1)):=by rw [<-hW2];exact grownBy_putObj' _ _ _
  have hl2:W2.heap[w.heap.size+1]?=some (.loop { rec .ready none with state:=.busy }):=by rw [<-hW2];exact World.putObj_heap_same hlt
  have hk2:W2.heap[w.heap.size]?=some (.deferred (some [])):=by rw [<-hW2];exact(World.putObj_heap_other (by omega)).trans hk
  have hw2:KpB B W W2:=by rw [<-hW2];exact KpB.put hB0 (by omega)
  have hi2:I pre W2:=hI _ _ _ _ hi hg2 (.inr ⟨by omega,fun o ho=>by rw [hl]at ho;cases ho;rfl⟩);rw [hW2];refine wpIn_mono (hbody _ pre x _ hi2 hlen) ?_
  have fin:∀(jump:Option Code) (W3:World),(∀(k:Nat) (o:Obj),w.heap.size<=k->W2.heap[k]?=some o->o.isCells=false->W3.heap[k]?=some o)->
   (Instr.endRound (w.heap.size+1) jump).run P W3=.ok (.bool jump.isNone) (W3.putObj (w.heap.size+1) (.loop (rec (if jump.isNone then .ready else .done) jump)))/\
   W3.heap[w.heap.size+1]?=some (.loop { rec .ready none with state:=.busy })/\
   (W3.putObj (w.heap.size+1) (.loop (rec (if jump.isNone then .ready else .done) jump))).heap[w.heap.size+1]?=some (.loop (rec (if jump.isNone then .ready else .done) jump))/\
   (W3.putObj (w.heap.size+1) (.loop (rec (if jump.isNone then .ready else .done) jump))).heap[w.heap.size]?=some (.deferred (some [])):=fun jump W3 hk3=>by
   have hl3:=hk3 _ _ (by omega) hl2 rfl;have:=run_endRound (P:=P) jump hl3;rw [hrec]at this⊢;exact⟨this,by rw [hrec]at hl3;exact hl3,World.putObj_heap_same (Array.getElem?_eq_some_iff.1 hl3).1,(World.putObj_heap_other (by omega)).trans (hk3 _ _ (Nat.le_refl _) hk2 rfl)⟩
  rintro e a3 W3 hp;cases e with
  |normal =>
   obtain⟨hk3,hkp3,hi3⟩:=hp;obtain⟨hr,hl3,hl4,hk4⟩:=fin none W3 hk3;exact⟨_,_,hr,.inl ⟨rfl,⟨hI _ _ _ _ hi3 (grownBy_putObj' _ _ _) (.inr ⟨by omega,fun o ho=>by rw [hl3]at ho;cases ho;rfl⟩),hl4,hk4⟩,(hw2.trans hkp3).trans (KpB.put hB0 (by omega))⟩⟩
  |ret =>
   obtain⟨hk3,hi3⟩:=hp;obtain⟨hr,hl3,hl4,hk4⟩:=fin (some .ret) W3 hk3;exact⟨_,_,hr,.inr ⟨rfl,hIx _ _ _ _ hi3 (grownBy_putObj' _ _ _) (.inr ⟨by omega,fun o ho=>by rw [hl3]at ho;cases ho;rfl⟩),hl4,hk4⟩⟩
  |exit id=>exact hp.elim
  |goto t=>exact hp.elim
  |panic ch=>exact hp.elim
  |outgrown=>exact hp.elim
 rintro e W2 ⟨⟨v,rfl⟩,(⟨hi,hl,hk⟩|⟨pre,hi,hl,hk⟩)⟩
 ·refine⟨none,_,by have:=run_endLoop (P:=P) hl (by rw [hrec];simp);rw [hrec]at this;exact this,hdone _ _ (Nat.le_refl _) (hI _ _ _ _ hi (grownBy_putObj' _ _ _) (.inr ⟨by omega,fun o ho=>by rw [hl]at ho;cases ho;rfl⟩)) ((World.putObj_heap_other (by omega)).trans hk)⟩
 refine⟨some .ret,_,by have:=run_endLoop (P:=P) hl (by rw [hrec];simp);rw [hrec]at this;exact this,wpIn_ret ?_⟩;exact hstop _ pre _ (Nat.le_refl _) (hIx _ _ _ _ hi (grownBy_putObj' _ _ _) (.inr ⟨by omega,fun o ho=>by rw [hl]at ho;cases ho;rfl⟩)) ((World.putObj_heap_other (by omega)).trans hk)
def Zqy(z:Nat)(ds:List Deferred)(W:World):Prop:=ds.Pairwise (fun d d'=>d.target≠d'.target)/\∀d∈ds,∃D,z<=D/\d.target=.collected D/\W.heap[D]?=some (.deferred (some []))
end
end Go.Proofs.YtkmclcmnoicagaaGreatDoor
