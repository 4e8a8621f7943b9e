/- Slices of words. -/
import Derived.Test.YtkmclcmnoicagaaGreatDoorH05
import Derived.RangeFuncFrom
import Derived.RangeFuncLeaves
import Derived.RangeFuncCalls
namespace Go.Proofs.YtkmclcmnoicagaaGreatDoor
set_option maxRecDepth 100000
set_option maxHeartbeats 128000000
open Go.RowKit
def Jn(w:World)(v:Value)(l:List Nat):Prop :=
 ∃A c,v=.slice A l.length c/\l.length<=c/\c<=maxLen/\(l≠ []->∃ad,A=some ad/\ad.block < w.heap.size/\∀(k z:Nat),l[k]?=some z->w.cell? (ad.add k)=some (.int .u64 (z:Int)))
theorem Jn.ext {w w':World} {v:Value} {l:List Nat}(h:Jn w v l)(he:Qg w w'):Jn w' v l:=by
 obtain⟨A,c,e,h1,h2,h3⟩:=h;refine⟨A,c,e,h1,h2,fun hn=> ?_⟩;obtain⟨ad,e,zJ,hc⟩:=h3 hn;exact⟨ad,e,Qy zJ he.size,fun k z hk=>(he.cell (Qj zJ)).trans (hc k z hk)⟩
theorem Qko(w:World):Jn w (.slice none 0 0) []:=⟨none,0,rfl,Nat.le_refl _,by unfold maxLen;omega,fun h=>absurd rfl h⟩
theorem Vf {w:World} {v:Value} {l:List Nat}(h:Jn w v l):∃A c,v=.slice A l.length c/\l.length<=c/\c<=maxLen/\Hid (∀i,i < l.length->∃ad,A=some ad/\ad.block < w.heap.size/\w.cell? (ad.add i)=some (.int .u64 ((l.getD i 0:Nat):Int))):=by
 obtain⟨A,c,rfl,h1,h2,h3⟩:=h;refine⟨A,c,rfl,h1,h2,Qq fun i hi=> ?_⟩;obtain⟨ad,e,hl,hc⟩:=h3 (by intro e;rw [e]at hi;simp at hi);exact⟨ad,e,hl,hc i _ (by rw [Qk,Qv hi];rfl)⟩
def Px(w:World)(v:Value)(l:List (List Nat)):Prop :=
 ∃A c,v=.slice A l.length c/\l.length<=c/\c<=maxLen/\(l≠ []->∃ad,A=some ad/\ad.block < w.heap.size/\∀(k:Nat) s,l[k]?=some s->∃u,w.cell? (ad.add k)=some u/\Jn w u s)
theorem Px.ext {w w':World} {v:Value} {l:List (List Nat)}(h:Px w v l)(he:Qg w w'):Px w' v l:=by
 obtain⟨A,c,e,h1,h2,h3⟩:=h;refine⟨A,c,e,h1,h2,fun hn=> ?_⟩;obtain⟨ad,e,zJ,hc⟩:=h3 hn;refine⟨ad,e,Qy zJ he.size,fun k s hk=> ?_⟩;obtain⟨u,hu,hb⟩:=hc k s hk;exact⟨u,(he.cell (Qj zJ)).trans hu,hb.ext he⟩
theorem Gj {w:World} {v:Value} {l:List (List Nat)}(h:Px w v l):∃A c,v=.slice A l.length c/\l.length<=c/\c<=maxLen/\Hid (∀i,i < l.length->∃ad u,A=some ad/\ad.block < w.heap.size/\w.cell? (ad.add i)=some u/\Jn w u (l.getD i [])):=by
 obtain⟨A,c,rfl,h1,h2,h3⟩:=h;refine⟨A,c,rfl,h1,h2,Qq fun i hi=> ?_⟩;obtain⟨ad,e,hl,hc⟩:=h3 (by intro e;rw [e]at hi;simp at hi);obtain⟨u,hu,hs⟩:=hc i (l.getD i []) (by rw [Qk,Qv hi];rfl);exact⟨ad,u,e,hl,hu,hs⟩
structure Md where
 n:Int
 val:List Nat
 rel:List (List Nat)
def Qm(s:Nat):Prop:=s < 18446744073709551616
structure Md.ok (md:Md):Prop where
 n:Vp md.n
 val:∀s∈md.val,Qm s
 rel:∀r∈md.rel,∀s∈r,Qm s
def Jk(w:World)(v:Value)(md:Md):Prop:=∃vv vr,v=.agg #[.int .i64 md.n,vv,vr]/\Jn w vv md.val/\Px w vr md.rel
theorem Jk.ext {w w':World} {v:Value} {md:Md}(h:Jk w v md)(he:Qg w w'):Jk w' v md:=by
 obtain⟨vv,vr,e,h1,h2⟩:=h;exact⟨vv,vr,e,h1.ext he,h2.ext he⟩
theorem Yx {l:List Nat}(h:∀s∈l,Qm s)(i:Nat):Qm (l.getD i 0):=by
 rw [Qk];cases e:l[i]? with
 |none=>show(0:Nat) < _;omega
 |some s=>exact h s (List.mem_of_getElem? e)
theorem Ss {l:List (List Nat)}(h:∀r∈l,∀s∈r,Qm s)(i:Nat):∀s∈l.getD i [],Qm s:=by
 rw [Qk];cases e:l[i]? with
 |none=>intro s hs;cases hs
 |some r=>exact h r (List.mem_of_getElem? e)
def Yi(n:Nat)(p:Nat->Bool):Nat:=(List.range n).foldl (fun o i=>if p i then o|||2^i else o) 0
theorem Bk(n:Nat)(p:Nat->Bool):Yi (n+1) p=if p n then Yi n p|||2^n else Yi n p:=by
 unfold Yi;rw [List.range_succ,List.foldl_append];rfl
theorem Rw(p:Nat->Bool):∀(n i:Nat),(Yi n p).testBit i=(decide (i < n)&&p i)
 |0,i=>by simp [Yi]
 |n+1,i=>by
  rw [Bk];cases h:p n
  ·rw [if_neg (by simp),Rw p n i];by_cases e:i=n
   ·subst e;simp [h]
   have:decide (i < n+1)=decide (i < n):=by rw [decide_eq_decide];omega
   rw [this]
  rw [if_pos rfl,Nat.testBit_or,Rw p n i,Nat.testBit_two_pow];by_cases e:i=n
  ·subst e;simp [h]
  have h1:decide (n=i)=false:=decide_eq_false (fun q=>e q.symm);have h2:decide (i < n+1)=decide (i < n):=by rw [decide_eq_decide];omega
  rw [h1,h2,Bool.or_false]
theorem Nb(p:Nat->Bool):∀n:Nat,Yi n p < 2^n
 |0=>by simp [Yi]
 |n+1=>by
  rw [Bk];have h1:=Nb p n;have h2:2^n < 2^(n+1):=Nat.pow_lt_pow_right (by decide) (Nat.lt_succ_self n)
  split
  ·exact Nat.or_lt_two_pow (by omega) h2
  omega
theorem Nw {n:Nat}(h:n<=64):2^n<=18446744073709551616:=by
 rw [show(18446744073709551616:Nat)=2^64 from rfl];exact Nat.pow_le_pow_right (by decide) h
theorem Fk {n:Nat}(h:n<=64)(p:Nat->Bool):Qm (Yi n p):=Qy (Nb p n) (Nw h)
theorem Kf {s n i:Nat}(h:s < 2^n)(hi:s.testBit i=true):i < n:=by
 by_cases e:i < n
 ·exact e
 rw [Nat.testBit_lt_two_pow (Qy h (Nat.pow_le_pow_right (by decide) (by omega)))]at hi;cases hi
def Zl(a b:Nat):Nat:=a^^^(a&&&b)
theorem Gl(a b i:Nat):(Zl a b).testBit i=(a.testBit i&& !b.testBit i):=by
 unfold Zl;rw [Nat.testBit_xor,Nat.testBit_and];cases a.testBit i <;> cases b.testBit i <;> rfl
theorem Uy {a b:Nat}(ha:Qm a):Qm (Zl a b):=by
 unfold Zl Qm at *;exact Nat.xor_lt_two_pow (n:=64) ha (Nat.lt_of_le_of_lt Nat.and_le_left ha)
theorem Je {a b:Nat} :Jr a b=true↔∀i,a.testBit i=true->b.testBit i=true:=by
 unfold Jr;rw [beq_iff_eq];constructor
 ·intro h i hi;rw [<-h,Nat.testBit_and]at hi;exact(Bool.and_eq_true_iff.1 hi).2
 intro h;refine Nat.eq_of_testBit_eq fun i=> ?_
 rw [Nat.testBit_and];cases e:a.testBit i
 ·rfl
 rw [h i e];rfl
theorem Rr {a b:Nat} :(Zl a b==0)=Jr a b:=by
 rw [Bool.eq_iff_iff,beq_iff_eq,Je];constructor
 ·intro h i hi;have h1:=Gl a b i;rw [h,Nat.zero_testBit,hi,Bool.true_and]at h1;cases e:b.testBit i
  ·rw [e]at h1;cases h1
  rfl
 intro h;refine Nat.eq_of_testBit_eq fun i=> ?_
 rw [Gl,Nat.zero_testBit];cases e:a.testBit i
 ·rfl
 rw [h i e];rfl
section
theorem Lb(a:Nat)(ha:Qm a):(BitVec.ofInt 64 (a:Int)).toNat=a:=by
 rw [BitVec.ofInt_natCast,BitVec.toNat_ofNat];exact Nat.mod_eq_of_lt (by unfold Qm at ha;omega)
theorem Yg {a b:Nat}(ha:Qm a)(hb:Qm b):bits .andNot .u64 (a:Int) (b:Int)=((Zl a b:Nat):Int):=by
 show IntKind.u64.wrap ((BitVec.ofInt 64 (a:Int)&&& ~~~BitVec.ofInt 64 (b:Int)).toNat:Int)=_;have e:(BitVec.ofInt 64 (a:Int)&&& ~~~BitVec.ofInt 64 (b:Int)).toNat=Zl a b:=by
  have e2:(BitVec.ofInt 64 (a:Int)&&& ~~~BitVec.ofInt 64 (b:Int))=BitVec.ofInt 64 (a:Int)^^^(BitVec.ofInt 64 (a:Int)&&&BitVec.ofInt 64 (b:Int)):=by
   apply BitVec.eq_of_getLsbD_eq;intro i hi;simp only [BitVec.getLsbD_and,BitVec.getLsbD_not,BitVec.getLsbD_xor,hi,decide_true,Bool.true_and];cases(BitVec.ofInt 64 (a:Int)).getLsbD i <;> cases(BitVec.ofInt 64 (b:Int)).getLsbD i <;> rfl
  rw [e2,BitVec.toNat_xor,BitVec.toNat_and,Lb a ha,Lb b hb];rfl
 rw [e,IntKind.wrap_u64];have:=Uy (b:=b) ha;unfold Qm at this;omega
theorem Xq {a b:Nat}(ha:Qm a)(hb:Qm b):bits .or .u64 (a:Int) (b:Int)=((a|||b:Nat):Int):=by
 show IntKind.u64.wrap ((BitVec.ofInt 64 (a:Int)|||BitVec.ofInt 64 (b:Int)).toNat:Int)=_;rw [BitVec.toNat_or,Lb a ha,Lb b hb,IntKind.wrap_u64];have:a|||b < 2^64:=Nat.or_lt_two_pow ha hb;omega
theorem Qvo {a b:Nat}(ha:Qm a)(hb:Qm b):bits .xor .u64 (a:Int) (b:Int)=((a^^^b:Nat):Int):=by
 show IntKind.u64.wrap ((BitVec.ofInt 64 (a:Int)^^^BitVec.ofInt 64 (b:Int)).toNat:Int)=_;rw [BitVec.toNat_xor,Lb a ha,Lb b hb,IntKind.wrap_u64];have:a^^^b < 2^64:=Nat.xor_lt_two_pow ha hb;omega
theorem Xk {a b:Nat}(ha:Qm a)(hb:Qm b):bits .and .u64 (a:Int) (b:Int)=((a&&&b:Nat):Int):=bits_and_u64_nat a b ha hb
theorem Sg {n:Nat}(h:n < 64):IntKind.u64.wrap ((2:Int)^n)=((2^n:Nat):Int):=by
 have h1:2^n < 18446744073709551616:=by
  rw [show(18446744073709551616:Nat)=2^64 from rfl];exact Nat.pow_lt_pow_right (by decide) h
 rw [show((2:Int)^n)=((2^n:Nat):Int) by rw [Int.natCast_pow];rfl,IntKind.wrap_u64];generalize 2^n=m at *;omega
theorem Th {n:Nat}(h:n < 64):IntKind.u64.wrap (IntKind.u64.wrap ((2:Int)^n) - 1)=((2^n - 1:Nat):Int):=by
 rw [Sg h,IntKind.wrap_u64];have h1:0 < 2^n:=Nat.two_pow_pos n;have h2:2^n < 18446744073709551616:=by
  rw [show(18446744073709551616:Nat)=2^64 from rfl];exact Nat.pow_lt_pow_right (by decide) h
 generalize 2^n=m at *;omega
end
theorem Qin(n i:Nat):(2^n - 1).testBit i=decide (i < n):=by
 rw [Nat.testBit_two_pow_sub_one]
theorem Qa2 {n:Nat}(h:n<=64):Qm (2^n - 1):=by
 have:=Nw h;unfold Qm;have:0 < 2^n:=Nat.two_pow_pos n;omega
theorem Ql7 {s n:Nat} :Jr s (2^n - 1)=decide (s < 2^n):=by
 unfold Jr;rw [Nat.and_two_pow_sub_one_eq_mod,Bool.eq_iff_iff,beq_iff_eq,decide_eq_true_iff];constructor
 ·intro h;rw [<-h];exact Nat.mod_lt _ (Nat.two_pow_pos n)
 exact Nat.mod_eq_of_lt
def Zk(n:Nat):Nat:=2^n - 1
theorem Vz(n i:Nat):(Zk n).testBit i=decide (i < n):=Qin n i
theorem Yk {n:Nat}(h:n<=64):Qm (Zk n):=Qa2 h
theorem Qy1 {s n:Nat}(hs:Qm s)(hn:n<=64):(bits .andNot .u64 (s:Int) ((Zk n:Nat):Int) !=0)= !decide (s < 2^n):=by
 rw [Yg hs (Yk hn)];show(!(((Zl s (Zk n):Nat):Int)==0))=_;rw [show(((Zl s (Zk n):Nat):Int)==0)=(Zl s (Zk n)==0) by rw [Bool.eq_iff_iff,beq_iff_eq,beq_iff_eq];omega,Rr];unfold Zk;rw [Ql7]
theorem Ny(s k:Nat):(((s:Int) / 2^k).tmod 2==1)=s.testBit k:=by
 rw [Ld,Ty];generalize s / 2^k=r;rw [show((r:Nat):Int).tmod 2=((r % 2:Nat):Int)from rfl,Bool.eq_iff_iff,beq_iff_eq,beq_iff_eq];omega
def Zn(l:List Nat)(n:Nat):Bool:=l.any fun s=> !decide (s < 2^n)
theorem Qqy {l:List Nat} {n k:Nat}(hk:k < l.length)(h:decide (l.getD k 0 < 2^n)=false):Zn l n=true:=by
 unfold Zn;rw [List.any_eq_true];exact⟨l[k],List.getElem_mem hk,by rw [Qk,Qv hk]at h;simpa using h⟩
theorem Om {l:List Nat} {n:Nat}(h:∀k,k < l.length->decide (l.getD k 0 < 2^n)=true):Zn l n=false:=by
 unfold Zn;rw [List.any_eq_false];intro s hs;obtain⟨k,hk,e⟩:=List.getElem_of_mem hs;have:=h k hk;rw [Qk,Qv hk,e]at this
 simpa using this
theorem Do {P:Nat->Prop} {k:Nat}(h:∀j,j < k->P j)(hk:P k):∀j,j < k+1->P j:=fun j hj=>by
 by_cases e:j < k
 ·exact h j e
 have:j=k:=by omega
 rw [this];exact hk
def Jo(n:Int)(l:List Nat):Int:=if n < 0\/64 < n then 2 else if(l.length:Int)≠n then 3 else if Zn l n.toNat then 1 else 0
def Xv(l:List Nat):Bool:=Jo l.length l==0
theorem Fg {l:List Nat} :Xv l=true↔l.length<=64/\Zn l l.length=false:=by
 unfold Xv Jo;by_cases h:l.length<=64
 ·rw [if_neg (by omega),if_neg (by simp)];show((if Zn l l.length then(1:Int)else 0)==0)=true↔_;cases Zn l l.length <;> simp [h]
 rw [if_pos (by omega)];simp;omega
def Rg(eu:Bool)(w u:Nat):Nat:=bif eu then u else w
def On(eu:Bool)(out:List Nat)(w u:Nat):Nat:=bif eu then out.getD w 0 else out.getD u 0
def Ds(eu:Bool)(out:List Nat)(w u:Nat):Prop:=(out.getD w 0).testBit u=true->Jr (On eu out w u) (out.getD (Rg eu w u) 0)=true
def Gy(eu:Bool)(out:List Nat):Prop:=∀w u,w < out.length->u < out.length->Ds eu out w u
def Dg(n:Nat)(out:List Nat):Nat:=(List.range (n*n)).countP fun k=> !(out.getD (k / n) 0).testBit (k % n)
structure Tf (eu:Bool) (r out:List Nat) (n:Nat):Prop where
 len:out.length=n
 lt:∀i,i < n->out.getD i 0 < 2^n
 same:Gy eu r->out=r
theorem Qjh {a b:Nat} :(a|||b)=a↔Jr b a=true:=by
 rw [Je];constructor
 ·intro h i hi;rw [<-h,Nat.testBit_or,hi,Bool.or_true]
 intro h;refine Nat.eq_of_testBit_eq fun i=> ?_
 rw [Nat.testBit_or];cases e:b.testBit i
 ·rw [Bool.or_false]
 rw [h i e];rfl
theorem Qqf {α:Type} {p q:α->Bool} :∀{l:List α},(∀x∈l,q x=true->p x=true)->(∃x∈l,p x=true/\q x=false)->l.countP q < l.countP p
 |[],_,h=>by obtain⟨x,hx,_⟩:=h;cases hx
 |a :: l,h,hx=>by
  have iN:l.countP q<=l.countP p:=List.countP_mono_left fun x hx=>h x (List.mem_cons_of_mem _ hx)
  rw [List.countP_cons,List.countP_cons];obtain⟨x,hm,h1,h2⟩:=hx;rcases List.mem_cons.1 hm with rfl|hm
  ·rw [h1,h2];simp;omega
  have ih:=Qqf (l:=l) (fun x hx=>h x (List.mem_cons_of_mem _ hx)) ⟨x,hm,h1,h2⟩;have h3:=h a (List.mem_cons_self ..);cases e:q a
  ·cases p a <;> simp <;> omega
  rw [h3 e];simp;omega
section
variable {eu:Bool} {r out:List Nat} {n:Nat}
theorem Qqc {l:List Nat} {i j x:Nat}(hi:i < l.length):(l.set i x).getD j 0=if i=j then x else l.getD j 0:=by
 rw [Qk,List.getElem?_set];by_cases e:i=j
 ·subst e;simp [hi]
 rw [if_neg e,if_neg e,<-Qk]
theorem Tf.start(hl:r.length=n)(hb:Zn r n=false):Tf eu r r n:=by
 refine⟨hl,fun i hi=> ?_,fun _=>rfl⟩;unfold Zn at hb;rw [List.any_eq_false]at hb;have h1:=hb (r.getD i 0) (by rw [Qk,List.getElem?_eq_getElem (by omega)];exact List.getElem_mem _)
 simpa using h1
theorem Tf.at_lt(_h:Tf eu r out n) {w u:Nat}(hw:w < n)(hu:u < n):Rg eu w u < n:=by
 unfold Rg;cases eu
 ·exact hw
 exact hu
theorem Tf.add_lt(h:Tf eu r out n) {w u:Nat}(hw:w < n)(hu:u < n):On eu out w u < 2^n:=by
 unfold On;cases eu
 ·exact h.lt u hu
 exact h.lt w hw
theorem Tf.step(h:Tf eu r out n) {w u:Nat}(hw:w < n)(hu:u < n)(hb:(out.getD w 0).testBit u=true)(zQ:(out.getD (Rg eu w u) 0|||On eu out w u)≠out.getD (Rg eu w u) 0):
 Tf eu r (out.set (Rg eu w u) (out.getD (Rg eu w u) 0|||On eu out w u)) n/\Dg n (out.set (Rg eu w u) (out.getD (Rg eu w u) 0|||On eu out w u)) < Dg n out:=by
 have ha:=h.at_lt hw hu;have wJ:Rg eu w u < out.length:=by rw [h.len];exact ha
 refine⟨⟨by rw [List.length_set];exact h.len,fun i hi=> ?_,fun hc=> ?_⟩,?_⟩
 ·rw [Qqc wJ]
  split
  ·exact Nat.or_lt_two_pow (h.lt _ ha) (h.add_lt hw hu)
  exact h.lt i hi
 ·exfalso
  have e:=h.same hc;subst e;exact zQ (Qjh.2 (hc w u (by rw [h.len];exact hw) (by rw [h.len];exact hu) hb))
 have uD:0 < n:=by omega
 obtain⟨j,oM,lS⟩:∃j,(On eu out w u).testBit j=true/\(out.getD (Rg eu w u) 0).testBit j=false:=by
  apply Classical.byContradiction;intro oI;refine zQ (Qjh.2 (Je.2 fun i hi=> ?_));cases e:(out.getD (Rg eu w u) 0).testBit i
  ·exact absurd ⟨i,hi,e⟩ oI
  rfl
 have IR:=Kf (h.add_lt hw hu) oM;unfold Dg;refine Qqf (fun k hk hq=> ?_) ⟨Rg eu w u*n+j,?_,?_,?_⟩
 ·rw [Qqc wJ]at hq
  split at hq
  ·rename_i e;rw [<-e];rw [Nat.testBit_or]at hq
   revert hq
   cases(out.getD (Rg eu w u) 0).testBit (k % n) <;> simp
  exact hq
 ·rw [List.mem_range]
  calc Rg eu w u*n+j < Rg eu w u*n+n:=by omega
   _=(Rg eu w u+1)*n:=by rw [Nat.succ_mul]
   _<=n*n:=Nat.mul_le_mul_right n ha
 ·rw [Nat.mul_comm,Nat.mul_add_div uD,Nat.div_eq_of_lt IR,Nat.add_zero,Nat.mul_add_mod,Nat.mod_eq_of_lt IR,lS];rfl
 rw [Nat.mul_comm,Nat.mul_add_div uD,Nat.div_eq_of_lt IR,Nat.add_zero,Nat.mul_add_mod,Nat.mod_eq_of_lt IR,Qqc wJ,if_pos rfl,Nat.testBit_or,oM,Bool.or_true];rfl
theorem Qfj {w u:Nat}(h:(out.getD (Rg eu w u) 0|||On eu out w u)=out.getD (Rg eu w u) 0):Ds eu out w u:=fun _=>Qjh.1 h
theorem Qi7 {w u:Nat}(h:(out.getD w 0).testBit u=false):Ds eu out w u:=fun e=>by rw [h]at e;cases e
theorem Tf.done(h:Tf eu r out n)(hl:r.length=n)(hc:∀w,w < n->∀u,u < n->Ds eu out w u):out=r↔Gy eu r:=by
 constructor
 ·rintro rfl w u hw hu;rw [hl]at hw hu;exact hc w hw u hu
 exact h.same
end
def Dt(s:Nat):Nat:=((List.range 64).find? fun i=>s.testBit i).getD 64
def Za(s:Nat):List Nat:=(List.range 64).filter fun i=>s.testBit i
theorem Ff {s i:Nat} :i∈Za s↔i < 64/\s.testBit i=true:=by
 unfold Za;rw [List.mem_filter,List.mem_range]
theorem Qki {s i:Nat}(hs:Qm s)(h:s.testBit i=true):i < 64:=by
 rcases Nat.lt_or_ge i 64 with h1|h1
 ·exact h1
 rw [Nat.testBit_lt_two_pow (Qy hs (by rw [show(18446744073709551616:Nat)=2^64 from rfl];exact Nat.pow_le_pow_right (by decide) h1))]at h;cases h
theorem Eb {s:Nat}(hs:Qm s)(h0:s≠0):Dt s < 64/\s.testBit (Dt s)=true/\∀j,j < Dt s->s.testBit j=false:=by
 obtain⟨i,hi⟩:=Nat.exists_testBit_of_ne_zero h0;have YW:=Qki hs hi;cases hf:(List.range 64).find? (fun i=>s.testBit i)with
 |none =>
  have:=List.find?_eq_none.1 hf i (List.mem_range.2 YW);exact absurd hi this
 |some k =>
  have hk:Dt s=k:=by unfold Dt;rw [hf];rfl
  rw [hk];obtain⟨h1,la,lb,h2,h3⟩:=List.find?_eq_some_iff_append.1 hf;have hm:k < 64:=List.mem_range.1 (by rw [h2];simp);refine⟨hm,h1,fun j hj=> ?_⟩;have hjm:j∈la:=by
   have hl:la=(List.range 64).take la.length:=by rw [h2];simp
   have wV:(List.range 64)[la.length]?=some k:=by rw [h2];simp
   rw [List.getElem?_range]at wV
   ·have nM:la.length=k:=by injection wV
    rw [hl,nM];rw [List.take_range];exact List.mem_range.2 (by omega)
   have:=congrArg List.length h2;simp at this;omega
  have:=h3 j hjm
  simpa using this
section
variable {s i:Nat}
theorem Qc6(h1:s.testBit i=true)(h2:∀j,j < i->s.testBit j=false):∃r,s=2^i*(2*r+1):=by
 have hm:s % 2^i=0:=by
  refine Nat.eq_of_testBit_eq fun j=> ?_
  rw [Nat.testBit_mod_two_pow,Nat.zero_testBit];by_cases hj:j < i
  ·rw [h2 j hj,Bool.and_false]
  simp [hj]
 have hq:(s / 2^i) % 2=1:=by
  have:=h1;rw [Nat.testBit_eq_decide_div_mod_eq]at this;exact of_decide_eq_true this
 refine⟨s / 2^i / 2,?_⟩;have h3:2*(s / 2^i / 2)+1=s / 2^i:=by omega
 rw [h3];have:=Nat.div_add_mod s (2^i);omega
theorem Qnh(h1:s.testBit i=true)(h2:∀j,j < i->s.testBit j=false)(j:Nat):(s - 1).testBit j=if j < i then true else if j=i then false else s.testBit j:=by
 obtain⟨r,hr⟩:=Qc6 h1 h2;have hp:=Nat.two_pow_pos i;have e1:s - 1=2^i*(2*r)+(2^i - 1):=by
  rw [hr,Nat.mul_add,Nat.mul_one];omega
 have e2:s=2^i*(2*r+1)+0:=by rw [hr];rfl
 rw [e1,Nat.testBit_two_pow_mul_add _ (by omega)];by_cases hj:j < i
 ·rw [if_pos hj,if_pos hj,Nat.testBit_two_pow_sub_one];exact decide_eq_true hj
 rw [if_neg hj,if_neg hj];by_cases he:j=i
 ·rw [if_pos he,he,Nat.sub_self];rw [Nat.testBit_zero];exact decide_eq_false (by omega)
 rw [if_neg he,e2,Nat.testBit_two_pow_mul_add _ hp,if_neg hj];obtain⟨k,hk⟩:∃k,j - i=k+1:=⟨j - i - 1,by omega⟩;rw [hk,Nat.testBit_succ,Nat.testBit_succ];rw [show 2*r / 2=(2*r+1) / 2 by omega]
theorem Rv(h1:s.testBit i=true)(h2:∀j,j < i->s.testBit j=false)(j:Nat):(s&&&(s - 1)).testBit j=(s.testBit j&& !decide (j=i)):=by
 rw [Nat.testBit_and,Qnh h1 h2];by_cases hj:j < i
 ·rw [h2 j hj,Bool.false_and,Bool.false_and]
 rw [if_neg hj];by_cases he:j=i
 ·rw [if_pos he,decide_eq_true he,Bool.and_false,Bool.not_true,Bool.and_false]
 rw [if_neg he,decide_eq_false he,Bool.and_self,Bool.not_false,Bool.and_true]
end
theorem Qne:Za 0= []:=by
 unfold Za;rw [List.filter_eq_nil_iff];intro i _;simp
theorem Qna {s:Nat}(hs:Qm s)(h0:s≠0):Za s=Dt s :: Za (s&&&(s - 1)):=by
 obtain⟨uH,h1,h2⟩:=Eb hs h0;obtain⟨i,hi⟩:∃i,i=Dt s:=⟨_,rfl⟩;rw [<-hi]at uH h1 h2⊢;unfold Za;have e:List.range 64=List.range i++i :: List.range' (i+1) (63 - i):=by
  rw [List.range_eq_range',List.range_eq_range',<-List.range'_succ,show 63 - i+1=64 - i by omega];have:=List.range'_append (s:=0) (m:=i) (n:=64 - i) (step:=1);rw [Nat.zero_add,Nat.one_mul,show i+(64 - i)=64 by omega]at this;exact this.symm
 rw [e,List.filter_append,List.filter_append];have z1:(List.range i).filter (fun j=>s.testBit j)= []:=by
  rw [List.filter_eq_nil_iff];intro j hj;rw [h2 j (List.mem_range.1 hj)];simp
 have z2:(List.range i).filter (fun j=>(s&&&(s - 1)).testBit j)= []:=by
  rw [List.filter_eq_nil_iff];intro j hj;rw [Rv h1 h2,h2 j (List.mem_range.1 hj)];simp
 rw [z1,z2,List.nil_append,List.nil_append,List.filter_cons_of_pos (by exact h1),List.filter_cons_of_neg (by rw [Rv h1 h2];simp)]
 congr 1
 refine List.filter_congr fun j hj=> ?_
 have oM:=(List.mem_range'_1.1 hj).1;rw [Rv h1 h2,decide_eq_false (by omega),Bool.not_false,Bool.and_true]
theorem Qy9 {s:Nat}(h0:s≠0):(s&&&(s - 1)) < s:=by
 have:= @Nat.and_le_right s (s - 1);omega
theorem Zqi {s:Nat}(hs:Qm s)(h0:s≠0):s&&&(18446744073709551616 - s)=2^Dt s:=by
 obtain⟨uH,h1,h2⟩:=Eb hs h0;obtain⟨i,hi⟩:∃i,i=Dt s:=⟨_,rfl⟩;rw [<-hi]at uH h1 h2⊢;refine Nat.eq_of_testBit_eq fun j=> ?_
 have xN:s - 1 < 2^64:=by unfold Qm at hs;omega
 rw [Nat.testBit_and,Nat.testBit_two_pow,show 18446744073709551616 - s=2^64 - (s - 1+1) by omega,Nat.testBit_two_pow_sub_succ xN,Qnh h1 h2];by_cases hj:j < i
 ·rw [h2 j hj,Bool.false_and];exact(decide_eq_false (by omega)).symm
 rw [if_neg hj];by_cases he:j=i
 ·rw [if_pos he,he,h1,decide_eq_true uH,decide_eq_true rfl];rfl
 rw [if_neg he,show decide (i=j)=false from decide_eq_false (fun e=>he e.symm)];cases s.testBit j <;> simp
section
variable {P:Program} {n:Nat}
def AbB {α:Type}(B:Nat)(J:List α->World->Prop):Prop:=∀s W W',J s W->W.grownBy W' (some B)->J s W'
structure KpB (B:Nat) (W W':World):Prop where
 size:W.heap.size<=W'.heap.size
 blk:W'.heap[B]?=W.heap[B]?
 tab:W'.heap[0]?=W.heap[0]?
theorem KpB.trans {B:Nat} {a b c:World}(h:KpB B a b)(k:KpB B b c):KpB B a c:=⟨Qx h.size k.size,k.blk.trans h.blk,k.tab.trans h.tab⟩
theorem KpB.put {B:Nat} {W:World} {l:Nat} {o:Obj}(NC:0 < B)(hl:B < l):KpB B W (W.putObj l o):=⟨by simp,World.putObj_heap_other (by omega),World.putObj_heap_other (by omega)⟩
def Zje {α:Type}(P:Program)(n g:Nat)(lb:Array Value)(encs:α->Array Value)(B:Nat)(xs:List α)(w:World):Prop :=
 ∀(l:Nat) (J Jx:List α->World->Prop) (W:World),Go.RowKit.Below w.heap.size w W->AbB B J->AbB B Jx->
  (∀pre x W1,J pre W1->pre++ [x] <+: xs->YieldAt Fence.wide (n - 1) P l (encs x) W1 fun e W' =>
   (e=.returned (.bool true)/\J (pre++ [x]) W'/\KpB B W1 W')\/(e=.returned (.bool false)/\Jx (pre++ [x]) W'))->
  J [] W->
  CallsIn Fence.wide n P g (#[.func (.yield l) #[] #[]]++lb) W fun e W'=>(∃v,e=.returned v)/\(J xs W'\/∃pre,Jx pre W')
def Qti {α:Type}(B z:Nat)(I:List α->World->Prop):Prop:=∀s W W' r,I s W->W.grownBy W' (some r)->r=B\/(z<=r/\∀o,W.heap[r]?=some o->o.isCells=false)->I s W'
def Zkx {α:Type}(B z:Nat)(I Ix:List α->World->Prop)(xs:List α)(W:World):Exit->Act->World->Prop
 |.normal,_,W'=>(∀(k:Nat) (o:Obj),z<=k->W.heap[k]?=some o->o.isCells=false->W'.heap[k]?=some o)/\KpB B W W'/\I xs W'
 |.ret,_,W'=>(∀(k:Nat) (o:Obj),z<=k->W.heap[k]?=some o->o.isCells=false->W'.heap[k]?=some o)/\Ix xs W'
 |_,_,_=>False
theorem Qpd {n₀ z:Nat} {W:World} {l:Nat} {o:Obj}(hz:n₀<=z)(hl:z<=l)(hs:n₀<=W.heap.size):Go.RowKit.Below n₀ W (W.putObj l o):=
 (Below.refl n₀ W).grown (grownBy_putObj' W l o) hs (fun k e=>by cases e;omega)
theorem Qaq {α:Type} {g:Operand} {ps:Array Tmp} {assign body:Code} {Q:Exit->Act->World->Prop} {a:Act} {w:World} {gf:Nat} {lb:Array Value} {encs:α->Array Value} {B:Nat} {xs:List α} {w0:World}
 (hg:a.eval g=.func (.func gf) #[] lb)(eg:∀args w,(callFunc gf args).run P w=.ok (.enter gf args) w)
 (AN:Zje P (n - 1) gf lb encs B xs w0)(Q3:Go.RowKit.Below w0.heap.size w0 w)(NC:0 < B)(hB:B < w.heap.size)(vF:∀x,(encs x).size=ps.size)
 (I Ix:List α->World->Prop)(hI:Qti B w.heap.size I)(DN:Qti B w.heap.size Ix)(h0:∀W,Qg w W->I [] W)(a₁:α->Act)
 (ZH:∀(l:Nat) (x:α) (W:World) (K:Act->World->Prop),K (a₁ x) W->
  assign.wpIn (Fence.wide.inRound l) (n - 1 - 1) P (Exit.then K (fun _ _ _=>False)) { tmps:=(ps.zip (encs x)).foldl (fun t (p,v)=>t.setIfInBounds p v) a.tmps,defers:= [] } W)
 (MU:∀(l:Nat) (pre:List α) (x:α) (W:World),I pre W->pre++ [x] <+: xs->body.wpIn (Fence.wide.inRound l) (n - 1 - 1) P (Zkx B w.heap.size I Ix (pre++ [x]) W) (a₁ x) W)
 (ML:∀(D:Nat) (W:World),w.heap.size<=D->I xs W->W.heap[D]?=some (.deferred (some []))->Q .normal { a with defers:= { target:=.collected D,args:=#[] } :: a.defers } W)
 (KF:∀(D:Nat) (pre:List α) (W:World),w.heap.size<=D->Ix pre W->W.heap[D]?=some (.deferred (some []))->Q .ret { a with defers:= { target:=.collected D,args:=#[] } :: a.defers } W):
 (Code.rangeFunc g ps assign body).wpIn Fence.wide n P Q a w:=by
 refine wpIn_rangeFunc ?_;intro fn CJ;obtain⟨rec,oV⟩:∃rec:LoopState->Option Code->Loop,rec=fun st pe=> { state:=st,pending:=pe,fn,tmps:=a.tmps,params:=ps,assign,body,defers:=w.heap.size } :=⟨_,rfl⟩
 obtain⟨W1,tL⟩:∃W1,(w.alloc (.deferred (some []))).alloc (.loop (rec .ready none))=W1:=⟨_,rfl⟩;have hL1:W1.heap[w.heap.size+1]?=some (.loop (rec .ready none)):=by
  rw [<-tL];have:=World.alloc_heap_new (w.alloc (.deferred (some []))) (.loop (rec .ready none));rwa [World.size_alloc]at this
 have hK1:W1.heap[w.heap.size]?=some (.deferred (some [])):=by
  rw [<-tL];exact(Below.heap_alloc _ _ _ (by simp)).trans (World.alloc_heap_new w _)
 have Q8:Qg w W1:=by rw [<-tL];exact((Qg.refl w).alloc _).alloc _
 have yS:Go.RowKit.Below w0.heap.size w0 W1:=Q3.trans (Q8.mono Q3.size);have ne1:w.heap.size+1≠B:=by omega
 have ne2:w.heap.size≠B:=by omega
 refine⟨w.heap.size+1,[{ target:=.collected w.heap.size,args:=#[] }],W1,{ target:=.fn (.func gf) lb,args:=#[.func (.yield (w.heap.size+1)) #[] #[]] },W1,gf,
  #[.func (.yield (w.heap.size+1)) #[] #[]]++lb,W1,?_,?_,?_,?_,fun h=>(by cases h),?_⟩
 ·rw [<-tL,oV];exact run_enterLoop_outer _ _ _ _ _
 ·simp only [resolve,hg];simp [go_sem]
 ·intro f' _;trivial
 ·simp [invoke,go_sem,eg]
 refine(AN (w.heap.size+1)
  (fun pre W=>I pre W/\W.heap[w.heap.size+1]?=some (.loop (rec .ready none))/\W.heap[w.heap.size]?=some (.deferred (some [])))
  (fun pre W=>Ix pre W/\W.heap[w.heap.size+1]?=some (.loop (rec .done (some .ret)))/\W.heap[w.heap.size]?=some (.deferred (some [])))
  W1 yS
  (fun s A C hs vM=>⟨hI s A C B hs.1 vM (.inl rfl),(vM.block _ (Array.getElem?_eq_some_iff.1 hs.2.1).1 (fun e=>ne1 (by injection e))).trans hs.2.1,(vM.block _ (Array.getElem?_eq_some_iff.1 hs.2.2).1 (fun e=>ne2 (by injection e))).trans hs.2.2⟩)
  (fun s A C hs vM=>⟨DN s A C B hs.1 vM (.inl rfl),(vM.block _ (Array.getElem?_eq_some_iff.1 hs.2.1).1 (fun e=>ne1 (by injection e))).trans hs.2.1,(vM.block _ (Array.getElem?_eq_some_iff.1 hs.2.2).1 (fun e=>ne2 (by injection e))).trans hs.2.2⟩)
  ?_ ⟨h0 _ Q8,hL1,hK1⟩).mono ?_
 ·rintro pre x W ⟨hi,hl,hk⟩ zG;have zJ:w.heap.size+1 < W.heap.size:=(Array.getElem?_eq_some_iff.1 hl).1;have hy:=run_yield (P:=P) (args:=encs x) hl (by rw [oV];exact vF x);rw [oV]at hy;refine⟨fn,_,assign,body,hy,roundIn_of_wpIn CJ (ZH _ x W _ ⟨_,run_beginRound hl (by rw [oV]),?_⟩)⟩;obtain⟨W2,fS⟩:∃W2,W.putObj (w.heap.size+1) (.loop { rec .ready none with state:=.busy })=W2:=⟨_,rfl⟩;have uF:W.grownBy W2 (some (w.heap.size+1)):=by rw [<-fS];exact grownBy_putObj' _ _ _
  have qN:W2.heap[w.heap.size+1]?=some (.loop { rec .ready none with state:=.busy }):=by rw [<-fS];exact World.putObj_heap_same zJ
  have wV:W2.heap[w.heap.size]?=some (.deferred (some [])):=by rw [<-fS];exact(World.putObj_heap_other (by omega)).trans hk
  have mN:KpB B W W2:=by rw [<-fS];exact KpB.put NC (by omega)
  have dG:I pre W2:=hI _ _ _ _ hi uF (.inr ⟨by omega,fun o ho=>by rw [hl]at ho;cases ho;rfl⟩);rw [fS];refine wpIn_mono (MU _ pre x _ dG zG) ?_
  have Lw:∀(jump:Option Code) (W3:World),(∀(k:Nat) (o:Obj),w.heap.size<=k->W2.heap[k]?=some o->o.isCells=false->W3.heap[k]?=some o)->
   (Instr.endRound (w.heap.size+1) jump).run P W3=.ok (.bool jump.isNone) (W3.putObj (w.heap.size+1) (.loop (rec (if jump.isNone then .ready else .done) jump)))/\
   W3.heap[w.heap.size+1]?=some (.loop { rec .ready none with state:=.busy })/\
   (W3.putObj (w.heap.size+1) (.loop (rec (if jump.isNone then .ready else .done) jump))).heap[w.heap.size+1]?=some (.loop (rec (if jump.isNone then .ready else .done) jump))/\
   (W3.putObj (w.heap.size+1) (.loop (rec (if jump.isNone then .ready else .done) jump))).heap[w.heap.size]?=some (.deferred (some [])):=fun jump W3 nM=>by
   have oK:=nM _ _ (by omega) qN rfl;have:=run_endRound (P:=P) jump oK;rw [oV]at this⊢;exact⟨this,by rw [oV]at oK;exact oK,World.putObj_heap_same (Array.getElem?_eq_some_iff.1 oK).1,(World.putObj_heap_other (by omega)).trans (nM _ _ (Nat.le_refl _) wV rfl)⟩
  rintro e a3 W3 hp;cases e with
  |normal =>
   obtain⟨nM,BK,QH⟩:=hp;obtain⟨hr,oK,aY,QG⟩:=Lw none W3 nM;exact⟨_,_,hr,.inl ⟨rfl,⟨hI _ _ _ _ QH (grownBy_putObj' _ _ _) (.inr ⟨by omega,fun o ho=>by rw [oK]at ho;cases ho;rfl⟩),aY,QG⟩,(mN.trans BK).trans (KpB.put NC (by omega))⟩⟩
  |ret =>
   obtain⟨nM,QH⟩:=hp;obtain⟨hr,oK,aY,QG⟩:=Lw (some .ret) W3 nM;exact⟨_,_,hr,.inr ⟨rfl,DN _ _ _ _ QH (grownBy_putObj' _ _ _) (.inr ⟨by omega,fun o ho=>by rw [oK]at ho;cases ho;rfl⟩),aY,QG⟩⟩
  |exit id=>exact hp.elim
  |goto t=>exact hp.elim
  |panic ch=>exact hp.elim
  |outgrown=>exact hp.elim
 rintro e W2 ⟨⟨v,rfl⟩,(⟨hi,hl,hk⟩|⟨pre,hi,hl,hk⟩)⟩
 ·refine⟨none,_,by have:=run_endLoop (P:=P) hl (by rw [oV];simp);rw [oV]at this;exact this,ML _ _ (Nat.le_refl _) (hI _ _ _ _ hi (grownBy_putObj' _ _ _) (.inr ⟨by omega,fun o ho=>by rw [hl]at ho;cases ho;rfl⟩)) ((World.putObj_heap_other (by omega)).trans hk)⟩
 refine⟨some .ret,_,by have:=run_endLoop (P:=P) hl (by rw [oV];simp);rw [oV]at this;exact this,wpIn_ret ?_⟩;exact KF _ pre _ (Nat.le_refl _) (DN _ _ _ _ hi (grownBy_putObj' _ _ _) (.inr ⟨by omega,fun o ho=>by rw [hl]at ho;cases ho;rfl⟩)) ((World.putObj_heap_other (by omega)).trans hk)
def Wd(z:Nat)(ds:List Deferred)(W:World):Prop:=ds.Pairwise (fun d d'=>d.target≠d'.target)/\∀d∈ds,∃D,z<=D/\d.target=.collected D/\W.heap[D]?=some (.deferred (some []))
theorem Oe {fn:Func} {tmps:Array Value} {R:Ending->World->Prop} {z:Nat} :∀(ds:List Deferred) (W:World),Wd z ds W->
 (∀W',Go.RowKit.Below z W W'->∃v,(results fn tmps).run P W'=.ok v W'/\R (.returned v) W')->z<=W.heap.size->LeavesInM Fence.wide n P fn tmps R ds .returning W
 |[],W,_,h,hz=>h W (Below.refl _ _)
 |d :: ds,W,hm,h,hz=>by
  obtain⟨hp,hd⟩:=hm;obtain⟨D,hzD,ht,hD⟩:=hd d (List.mem_cons_self ..);refine⟨by simp,.inl ⟨D,_,ht,run_takeDeferred hD,?_⟩⟩;have hb:Go.RowKit.Below z W (W.putObj D (.deferred none)):=Qpd (Nat.le_refl _) hzD hz;refine Oe ds _ ⟨(List.pairwise_cons.1 hp).2,fun d' IU=> ?_⟩ (fun W' dS=>h W' (hb.trans dS)) (by rw [show(W.putObj D (.deferred none)).heap.size=W.heap.size by simp];exact hz);obtain⟨D',hz',lO,DQ⟩:=hd d' (List.mem_cons_of_mem _ IU);refine⟨D',hz',lO,(World.putObj_heap_other (fun e=> ?_)).trans DQ⟩;have:=(List.pairwise_cons.1 hp).1 d' IU;rw [ht,lO,e]at this;exact this rfl
end
end Go.Proofs.YtkmclcmnoicagaaGreatDoor
