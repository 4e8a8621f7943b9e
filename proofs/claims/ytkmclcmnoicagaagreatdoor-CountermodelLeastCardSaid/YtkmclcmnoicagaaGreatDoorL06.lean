/- Slices of words. -/
import Derived.Test.YtkmclcmnoicagaaGreatDoorL05
import Derived.RangeFuncFrom
import Derived.RangeFuncLeaves
import Derived.RangeFuncCalls
namespace Go.Proofs.YtkmclcmnoicagaaGreatDoor
set_option maxRecDepth 100000
set_option maxHeartbeats 128000000
open Go.RowKit
def Jb(w:World)(v:Value)(l:List Nat):Prop :=
 ∃A c,v=.slice A l.length c/\l.length<=c/\c<=maxLen/\(l≠ []->∃ad,A=some ad/\ad.block < w.heap.size/\∀(k z:Nat),l[k]?=some z->w.cell? (ad.add k)=some (.int .u64 (z:Int)))
theorem Jb.ext {w w':World} {v:Value} {l:List Nat}(h:Jb w v l)(he:Qg w w'):Jb w' v l:=by
 obtain⟨A,c,e,h1,h2,h3⟩:=h;refine⟨A,c,e,h1,h2,fun hn=> ?_⟩;obtain⟨ad,e,zI,hc⟩:=h3 hn;exact⟨ad,e,Qy zI he.size,fun k z hk=>(he.cell (Qj zI)).trans (hc k z hk)⟩
theorem Qn2(w:World):Jb w (.slice none 0 0) []:=⟨none,0,rfl,Nat.le_refl _,by unfold maxLen;omega,fun h=>absurd rfl h⟩
theorem Vl {w:World} {v:Value} {l:List Nat}(h:Jb w v l):∃A c,v=.slice A l.length c/\l.length<=c/\c<=maxLen/\Hid (∀i,i < l.length->∃ad,A=some ad/\ad.block < w.heap.size/\w.cell? (ad.add i)=some (.int .u64 ((l.getD i 0:Nat):Int))):=by
 obtain⟨A,c,rfl,h1,h2,h3⟩:=h;refine⟨A,c,rfl,h1,h2,Qq fun i hi=> ?_⟩;obtain⟨ad,e,hl,hc⟩:=h3 (by intro e;rw [e]at hi;simp at hi);exact⟨ad,e,hl,hc i _ (by rw [Qk,Qv hi];rfl)⟩
def Ct(w:World)(v:Value)(l:List (List Nat)):Prop :=
 ∃A c,v=.slice A l.length c/\l.length<=c/\c<=maxLen/\(l≠ []->∃ad,A=some ad/\ad.block < w.heap.size/\∀(k:Nat) s,l[k]?=some s->∃u,w.cell? (ad.add k)=some u/\Jb w u s)
theorem Ct.ext {w w':World} {v:Value} {l:List (List Nat)}(h:Ct w v l)(he:Qg w w'):Ct w' v l:=by
 obtain⟨A,c,e,h1,h2,h3⟩:=h;refine⟨A,c,e,h1,h2,fun hn=> ?_⟩;obtain⟨ad,e,zI,hc⟩:=h3 hn;refine⟨ad,e,Qy zI he.size,fun k s hk=> ?_⟩;obtain⟨u,hu,hb⟩:=hc k s hk;exact⟨u,(he.cell (Qj zI)).trans hu,hb.ext he⟩
theorem Ut {w:World} {v:Value} {l:List (List Nat)}(h:Ct w v l):∃A c,v=.slice A l.length c/\l.length<=c/\c<=maxLen/\Hid (∀i,i < l.length->∃ad u,A=some ad/\ad.block < w.heap.size/\w.cell? (ad.add i)=some u/\Jb w u (l.getD i [])):=by
 obtain⟨A,c,rfl,h1,h2,h3⟩:=h;refine⟨A,c,rfl,h1,h2,Qq fun i hi=> ?_⟩;obtain⟨ad,e,hl,hc⟩:=h3 (by intro e;rw [e]at hi;simp at hi);obtain⟨u,hu,hs⟩:=hc i (l.getD i []) (by rw [Qk,Qv hi];rfl);exact⟨ad,u,e,hl,hu,hs⟩
structure Md where
 n:Int
 val:List Nat
 rel:List (List Nat)
def Qp(s:Nat):Prop:=s < 18446744073709551616
structure Md.ok (md:Md):Prop where
 n:Vm md.n
 val:∀s∈md.val,Qp s
 rel:∀r∈md.rel,∀s∈r,Qp s
def Yz(w:World)(v:Value)(md:Md):Prop:=∃vv vr,v=.agg #[.int .i64 md.n,vv,vr]/\Jb w vv md.val/\Ct w vr md.rel
theorem Yz.ext {w w':World} {v:Value} {md:Md}(h:Yz w v md)(he:Qg w w'):Yz w' v md:=by
 obtain⟨vv,vr,e,h1,h2⟩:=h;exact⟨vv,vr,e,h1.ext he,h2.ext he⟩
theorem Yg {l:List Nat}(h:∀s∈l,Qp s)(i:Nat):Qp (l.getD i 0):=by
 rw [Qk];cases e:l[i]? with
 |none=>show(0:Nat) < _;omega
 |some s=>exact h s (List.mem_of_getElem? e)
theorem Sm {l:List (List Nat)}(h:∀r∈l,∀s∈r,Qp s)(i:Nat):∀s∈l.getD i [],Qp s:=by
 rw [Qk];cases e:l[i]? with
 |none=>intro s hs;cases hs
 |some r=>exact h r (List.mem_of_getElem? e)
def Vd(n:Nat)(p:Nat->Bool):Nat:=(List.range n).foldl (fun o i=>if p i then o|||2^i else o) 0
theorem Dk(n:Nat)(p:Nat->Bool):Vd (n+1) p=if p n then Vd n p|||2^n else Vd n p:=by
 unfold Vd;rw [List.range_succ,List.foldl_append];rfl
theorem Ri(p:Nat->Bool):∀(n i:Nat),(Vd n p).testBit i=(decide (i < n)&&p i)
 |0,i=>by simp [Vd]
 |n+1,i=>by
  rw [Dk];cases h:p n
  ·rw [if_neg (by simp),Ri p n i];by_cases e:i=n
   ·subst e;simp [h]
   have:decide (i < n+1)=decide (i < n):=by rw [decide_eq_decide];omega
   rw [this]
  rw [if_pos rfl,Nat.testBit_or,Ri p n i,Nat.testBit_two_pow];by_cases e:i=n
  ·subst e;simp [h]
  have h1:decide (n=i)=false:=decide_eq_false (fun q=>e q.symm);have h2:decide (i < n+1)=decide (i < n):=by rw [decide_eq_decide];omega
  rw [h1,h2,Bool.or_false]
theorem Ns(p:Nat->Bool):∀n:Nat,Vd n p < 2^n
 |0=>by simp [Vd]
 |n+1=>by
  rw [Dk];have h1:=Ns p n;have h2:2^n < 2^(n+1):=Nat.pow_lt_pow_right (by decide) (Nat.lt_succ_self n)
  split
  ·exact Nat.or_lt_two_pow (by omega) h2
  omega
theorem Rv {n:Nat}(h:n<=64):2^n<=18446744073709551616:=by
 rw [show(18446744073709551616:Nat)=2^64 from rfl];exact Nat.pow_le_pow_right (by decide) h
theorem Fi {n:Nat}(h:n<=64)(p:Nat->Bool):Qp (Vd n p):=Qy (Ns p n) (Rv h)
theorem Kw {s n i:Nat}(h:s < 2^n)(hi:s.testBit i=true):i < n:=by
 by_cases e:i < n
 ·exact e
 rw [Nat.testBit_lt_two_pow (Qy h (Nat.pow_le_pow_right (by decide) (by omega)))]at hi;cases hi
def Jk(a b:Nat):Nat:=a^^^(a&&&b)
theorem Gd(a b i:Nat):(Jk a b).testBit i=(a.testBit i&& !b.testBit i):=by
 unfold Jk;rw [Nat.testBit_xor,Nat.testBit_and];cases a.testBit i <;> cases b.testBit i <;> rfl
theorem Ub {a b:Nat}(ha:Qp a):Qp (Jk a b):=by
 unfold Jk Qp at *;exact Nat.xor_lt_two_pow (n:=64) ha (Nat.lt_of_le_of_lt Nat.and_le_left ha)
theorem Yy {a b:Nat} :Jr a b=true↔∀i,a.testBit i=true->b.testBit i=true:=by
 unfold Jr;rw [beq_iff_eq];constructor
 ·intro h i hi;rw [<-h,Nat.testBit_and]at hi;exact(Bool.and_eq_true_iff.1 hi).2
 intro h;refine Nat.eq_of_testBit_eq fun i=> ?_
 rw [Nat.testBit_and];cases e:a.testBit i
 ·rfl
 rw [h i e];rfl
theorem Mk {a b:Nat} :(Jk a b==0)=Jr a b:=by
 rw [Bool.eq_iff_iff,beq_iff_eq,Yy];constructor
 ·intro h i hi;have h1:=Gd a b i;rw [h,Nat.zero_testBit,hi,Bool.true_and]at h1;cases e:b.testBit i
  ·rw [e]at h1;cases h1
  rfl
 intro h;refine Nat.eq_of_testBit_eq fun i=> ?_
 rw [Gd,Nat.zero_testBit];cases e:a.testBit i
 ·rfl
 rw [h i e];rfl
section
theorem Lb(a:Nat)(ha:Qp a):(BitVec.ofInt 64 (a:Int)).toNat=a:=by
 rw [BitVec.ofInt_natCast,BitVec.toNat_ofNat];exact Nat.mod_eq_of_lt (by unfold Qp at ha;omega)
theorem Vy {a b:Nat}(ha:Qp a)(hb:Qp b):bits .andNot .u64 (a:Int) (b:Int)=((Jk a b:Nat):Int):=by
 show IntKind.u64.wrap ((BitVec.ofInt 64 (a:Int)&&& ~~~BitVec.ofInt 64 (b:Int)).toNat:Int)=_;have e:(BitVec.ofInt 64 (a:Int)&&& ~~~BitVec.ofInt 64 (b:Int)).toNat=Jk a b:=by
  have e2:(BitVec.ofInt 64 (a:Int)&&& ~~~BitVec.ofInt 64 (b:Int))=BitVec.ofInt 64 (a:Int)^^^(BitVec.ofInt 64 (a:Int)&&&BitVec.ofInt 64 (b:Int)):=by
   apply BitVec.eq_of_getLsbD_eq;intro i hi;simp only [BitVec.getLsbD_and,BitVec.getLsbD_not,BitVec.getLsbD_xor,hi,decide_true,Bool.true_and];cases(BitVec.ofInt 64 (a:Int)).getLsbD i <;> cases(BitVec.ofInt 64 (b:Int)).getLsbD i <;> rfl
  rw [e2,BitVec.toNat_xor,BitVec.toNat_and,Lb a ha,Lb b hb];rfl
 rw [e,IntKind.wrap_u64];have:=Ub (b:=b) ha;unfold Qp at this;omega
theorem Gq {a b:Nat}(ha:Qp a)(hb:Qp b):bits .or .u64 (a:Int) (b:Int)=((a|||b:Nat):Int):=by
 show IntKind.u64.wrap ((BitVec.ofInt 64 (a:Int)|||BitVec.ofInt 64 (b:Int)).toNat:Int)=_;rw [BitVec.toNat_or,Lb a ha,Lb b hb,IntKind.wrap_u64];have:a|||b < 2^64:=Nat.or_lt_two_pow ha hb;omega
theorem Qvf {a b:Nat}(ha:Qp a)(hb:Qp b):bits .xor .u64 (a:Int) (b:Int)=((a^^^b:Nat):Int):=by
 show IntKind.u64.wrap ((BitVec.ofInt 64 (a:Int)^^^BitVec.ofInt 64 (b:Int)).toNat:Int)=_;rw [BitVec.toNat_xor,Lb a ha,Lb b hb,IntKind.wrap_u64];have:a^^^b < 2^64:=Nat.xor_lt_two_pow ha hb;omega
theorem Xy {a b:Nat}(ha:Qp a)(hb:Qp b):bits .and .u64 (a:Int) (b:Int)=((a&&&b:Nat):Int):=bits_and_u64_nat a b ha hb
theorem Mo {n:Nat}(h:n < 64):IntKind.u64.wrap ((2:Int)^n)=((2^n:Nat):Int):=by
 have h1:2^n < 18446744073709551616:=by
  rw [show(18446744073709551616:Nat)=2^64 from rfl];exact Nat.pow_lt_pow_right (by decide) h
 rw [show((2:Int)^n)=((2^n:Nat):Int) by rw [Int.natCast_pow];rfl,IntKind.wrap_u64];generalize 2^n=m at *;omega
theorem Th {n:Nat}(h:n < 64):IntKind.u64.wrap (IntKind.u64.wrap ((2:Int)^n) - 1)=((2^n - 1:Nat):Int):=by
 rw [Mo h,IntKind.wrap_u64];have h1:0 < 2^n:=Nat.two_pow_pos n;have h2:2^n < 18446744073709551616:=by
  rw [show(18446744073709551616:Nat)=2^64 from rfl];exact Nat.pow_lt_pow_right (by decide) h
 generalize 2^n=m at *;omega
end
theorem Qop(n i:Nat):(2^n - 1).testBit i=decide (i < n):=by
 rw [Nat.testBit_two_pow_sub_one]
theorem Qav {n:Nat}(h:n<=64):Qp (2^n - 1):=by
 have:=Rv h;unfold Qp;have:0 < 2^n:=Nat.two_pow_pos n;omega
theorem Qlp {s n:Nat} :Jr s (2^n - 1)=decide (s < 2^n):=by
 unfold Jr;rw [Nat.and_two_pow_sub_one_eq_mod,Bool.eq_iff_iff,beq_iff_eq,decide_eq_true_iff];constructor
 ·intro h;rw [<-h];exact Nat.mod_lt _ (Nat.two_pow_pos n)
 exact Nat.mod_eq_of_lt
def Zn(n:Nat):Nat:=2^n - 1
theorem Kb(n i:Nat):(Zn n).testBit i=decide (i < n):=Qop n i
theorem Vn {n:Nat}(h:n<=64):Qp (Zn n):=Qav h
theorem Qyr {s n:Nat}(hs:Qp s)(hn:n<=64):(bits .andNot .u64 (s:Int) ((Zn n:Nat):Int) !=0)= !decide (s < 2^n):=by
 rw [Vy hs (Vn hn)];show(!(((Jk s (Zn n):Nat):Int)==0))=_;rw [show(((Jk s (Zn n):Nat):Int)==0)=(Jk s (Zn n)==0) by rw [Bool.eq_iff_iff,beq_iff_eq,beq_iff_eq];omega,Mk];unfold Zn;rw [Qlp]
theorem Ny(s k:Nat):(((s:Int) / 2^k).tmod 2==1)=s.testBit k:=by
 rw [Dq,Tv];generalize s / 2^k=r;rw [show((r:Nat):Int).tmod 2=((r % 2:Nat):Int)from rfl,Bool.eq_iff_iff,beq_iff_eq,beq_iff_eq];omega
def Zf(l:List Nat)(n:Nat):Bool:=l.any fun s=> !decide (s < 2^n)
theorem Il {l:List Nat} {n k:Nat}(hk:k < l.length)(h:decide (l.getD k 0 < 2^n)=false):Zf l n=true:=by
 unfold Zf;rw [List.any_eq_true];exact⟨l[k],List.getElem_mem hk,by rw [Qk,Qv hk]at h;simpa using h⟩
theorem Oq {l:List Nat} {n:Nat}(h:∀k,k < l.length->decide (l.getD k 0 < 2^n)=true):Zf l n=false:=by
 unfold Zf;rw [List.any_eq_false];intro s hs;obtain⟨k,hk,e⟩:=List.getElem_of_mem hs;have:=h k hk;rw [Qk,Qv hk,e]at this
 simpa using this
theorem Do {P:Nat->Prop} {k:Nat}(h:∀j,j < k->P j)(hk:P k):∀j,j < k+1->P j:=fun j hj=>by
 by_cases e:j < k
 ·exact h j e
 have:j=k:=by omega
 rw [this];exact hk
def Jh(n:Int)(l:List Nat):Int:=if n < 0\/64 < n then 2 else if(l.length:Int)≠n then 3 else if Zf l n.toNat then 1 else 0
def Xj(l:List Nat):Bool:=Jh l.length l==0
theorem Fz {l:List Nat} :Xj l=true↔l.length<=64/\Zf l l.length=false:=by
 unfold Xj Jh;by_cases h:l.length<=64
 ·rw [if_neg (by omega),if_neg (by simp)];show((if Zf l l.length then(1:Int)else 0)==0)=true↔_;cases Zf l l.length <;> simp [h]
 rw [if_pos (by omega)];simp;omega
def Rn(eu:Bool)(w u:Nat):Nat:=bif eu then u else w
def Wo(eu:Bool)(out:List Nat)(w u:Nat):Nat:=bif eu then out.getD w 0 else out.getD u 0
def Ds(eu:Bool)(out:List Nat)(w u:Nat):Prop:=(out.getD w 0).testBit u=true->Jr (Wo eu out w u) (out.getD (Rn eu w u) 0)=true
def Gz(eu:Bool)(out:List Nat):Prop:=∀w u,w < out.length->u < out.length->Ds eu out w u
def Dj(n:Nat)(out:List Nat):Nat:=(List.range (n*n)).countP fun k=> !(out.getD (k / n) 0).testBit (k % n)
structure Tb (eu:Bool) (r out:List Nat) (n:Nat):Prop where
 len:out.length=n
 lt:∀i,i < n->out.getD i 0 < 2^n
 same:Gz eu r->out=r
theorem Qjg {a b:Nat} :(a|||b)=a↔Jr b a=true:=by
 rw [Yy];constructor
 ·intro h i hi;rw [<-h,Nat.testBit_or,hi,Bool.or_true]
 intro h;refine Nat.eq_of_testBit_eq fun i=> ?_
 rw [Nat.testBit_or];cases e:b.testBit i
 ·rw [Bool.or_false]
 rw [h i e];rfl
theorem Iw {α:Type} {p q:α->Bool} :∀{l:List α},(∀x∈l,q x=true->p x=true)->(∃x∈l,p x=true/\q x=false)->l.countP q < l.countP p
 |[],_,h=>by obtain⟨x,hx,_⟩:=h;cases hx
 |a :: l,h,hx=>by
  have gK:l.countP q<=l.countP p:=List.countP_mono_left fun x hx=>h x (List.mem_cons_of_mem _ hx)
  rw [List.countP_cons,List.countP_cons];obtain⟨x,hm,h1,h2⟩:=hx;rcases List.mem_cons.1 hm with rfl|hm
  ·rw [h1,h2];simp;omega
  have ih:=Iw (l:=l) (fun x hx=>h x (List.mem_cons_of_mem _ hx)) ⟨x,hm,h1,h2⟩;have h3:=h a (List.mem_cons_self ..);cases e:q a
  ·cases p a <;> simp <;> omega
  rw [h3 e];simp;omega
section
variable {eu:Bool} {r out:List Nat} {n:Nat}
theorem Qqf {l:List Nat} {i j x:Nat}(hi:i < l.length):(l.set i x).getD j 0=if i=j then x else l.getD j 0:=by
 rw [Qk,List.getElem?_set];by_cases e:i=j
 ·subst e;simp [hi]
 rw [if_neg e,if_neg e,<-Qk]
theorem Tb.start(hl:r.length=n)(hb:Zf r n=false):Tb eu r r n:=by
 refine⟨hl,fun i hi=> ?_,fun _=>rfl⟩;unfold Zf at hb;rw [List.any_eq_false]at hb;have h1:=hb (r.getD i 0) (by rw [Qk,List.getElem?_eq_getElem (by omega)];exact List.getElem_mem _)
 simpa using h1
theorem Tb.at_lt(_h:Tb eu r out n) {w u:Nat}(hw:w < n)(hu:u < n):Rn eu w u < n:=by
 unfold Rn;cases eu
 ·exact hw
 exact hu
theorem Tb.add_lt(h:Tb eu r out n) {w u:Nat}(hw:w < n)(hu:u < n):Wo eu out w u < 2^n:=by
 unfold Wo;cases eu
 ·exact h.lt u hu
 exact h.lt w hw
theorem Tb.step(h:Tb eu r out n) {w u:Nat}(hw:w < n)(hu:u < n)(hb:(out.getD w 0).testBit u=true)(zQ:(out.getD (Rn eu w u) 0|||Wo eu out w u)≠out.getD (Rn eu w u) 0):
 Tb eu r (out.set (Rn eu w u) (out.getD (Rn eu w u) 0|||Wo eu out w u)) n/\Dj n (out.set (Rn eu w u) (out.getD (Rn eu w u) 0|||Wo eu out w u)) < Dj n out:=by
 have ha:=h.at_lt hw hu;have vS:Rn eu w u < out.length:=by rw [h.len];exact ha
 refine⟨⟨by rw [List.length_set];exact h.len,fun i hi=> ?_,fun hc=> ?_⟩,?_⟩
 ·rw [Qqf vS]
  split
  ·exact Nat.or_lt_two_pow (h.lt _ ha) (h.add_lt hw hu)
  exact h.lt i hi
 ·exfalso
  have e:=h.same hc;subst e;exact zQ (Qjg.2 (hc w u (by rw [h.len];exact hw) (by rw [h.len];exact hu) hb))
 have uN:0 < n:=by omega
 obtain⟨j,lD,iF⟩:∃j,(Wo eu out w u).testBit j=true/\(out.getD (Rn eu w u) 0).testBit j=false:=by
  apply Classical.byContradiction;intro nH;refine zQ (Qjg.2 (Yy.2 fun i hi=> ?_));cases e:(out.getD (Rn eu w u) 0).testBit i
  ·exact absurd ⟨i,hi,e⟩ nH
  rfl
 have KA:=Kw (h.add_lt hw hu) lD;unfold Dj;refine Iw (fun k hk hq=> ?_) ⟨Rn eu w u*n+j,?_,?_,?_⟩
 ·rw [Qqf vS]at hq
  split at hq
  ·rename_i e;rw [<-e];rw [Nat.testBit_or]at hq
   revert hq
   cases(out.getD (Rn eu w u) 0).testBit (k % n) <;> simp
  exact hq
 ·rw [List.mem_range]
  calc Rn eu w u*n+j < Rn eu w u*n+n:=by omega
   _=(Rn eu w u+1)*n:=by rw [Nat.succ_mul]
   _<=n*n:=Nat.mul_le_mul_right n ha
 ·rw [Nat.mul_comm,Nat.mul_add_div uN,Nat.div_eq_of_lt KA,Nat.add_zero,Nat.mul_add_mod,Nat.mod_eq_of_lt KA,iF];rfl
 rw [Nat.mul_comm,Nat.mul_add_div uN,Nat.div_eq_of_lt KA,Nat.add_zero,Nat.mul_add_mod,Nat.mod_eq_of_lt KA,Qqf vS,if_pos rfl,Nat.testBit_or,lD,Bool.or_true];rfl
theorem Qgw {w u:Nat}(h:(out.getD (Rn eu w u) 0|||Wo eu out w u)=out.getD (Rn eu w u) 0):Ds eu out w u:=fun _=>Qjg.1 h
theorem Qiy {w u:Nat}(h:(out.getD w 0).testBit u=false):Ds eu out w u:=fun e=>by rw [h]at e;cases e
theorem Tb.done(h:Tb eu r out n)(hl:r.length=n)(hc:∀w,w < n->∀u,u < n->Ds eu out w u):out=r↔Gz eu r:=by
 constructor
 ·rintro rfl w u hw hu;rw [hl]at hw hu;exact hc w hw u hu
 exact h.same
end
def Dt(s:Nat):Nat:=((List.range 64).find? fun i=>s.testBit i).getD 64
def Yq(s:Nat):List Nat:=(List.range 64).filter fun i=>s.testBit i
theorem Nl {s i:Nat} :i∈Yq s↔i < 64/\s.testBit i=true:=by
 unfold Yq;rw [List.mem_filter,List.mem_range]
theorem Qkd {s i:Nat}(hs:Qp s)(h:s.testBit i=true):i < 64:=by
 rcases Nat.lt_or_ge i 64 with h1|h1
 ·exact h1
 rw [Nat.testBit_lt_two_pow (Qy hs (by rw [show(18446744073709551616:Nat)=2^64 from rfl];exact Nat.pow_le_pow_right (by decide) h1))]at h;cases h
theorem Aj {s:Nat}(hs:Qp s)(h0:s≠0):Dt s < 64/\s.testBit (Dt s)=true/\∀j,j < Dt s->s.testBit j=false:=by
 obtain⟨i,hi⟩:=Nat.exists_testBit_of_ne_zero h0;have DI:=Qkd hs hi;cases hf:(List.range 64).find? (fun i=>s.testBit i)with
 |none =>
  have:=List.find?_eq_none.1 hf i (List.mem_range.2 DI);exact absurd hi this
 |some k =>
  have hk:Dt s=k:=by unfold Dt;rw [hf];rfl
  rw [hk];obtain⟨h1,la,lb,h2,h3⟩:=List.find?_eq_some_iff_append.1 hf;have hm:k < 64:=List.mem_range.1 (by rw [h2];simp);refine⟨hm,h1,fun j hj=> ?_⟩;have hjm:j∈la:=by
   have hl:la=(List.range 64).take la.length:=by rw [h2];simp
   have wW:(List.range 64)[la.length]?=some k:=by rw [h2];simp
   rw [List.getElem?_range]at wW
   ·have nJ:la.length=k:=by injection wW
    rw [hl,nJ];rw [List.take_range];exact List.mem_range.2 (by omega)
   have:=congrArg List.length h2;simp at this;omega
  have:=h3 j hjm
  simpa using this
section
variable {s i:Nat}
theorem Qcr(h1:s.testBit i=true)(h2:∀j,j < i->s.testBit j=false):∃r,s=2^i*(2*r+1):=by
 have hm:s % 2^i=0:=by
  refine Nat.eq_of_testBit_eq fun j=> ?_
  rw [Nat.testBit_mod_two_pow,Nat.zero_testBit];by_cases hj:j < i
  ·rw [h2 j hj,Bool.and_false]
  simp [hj]
 have hq:(s / 2^i) % 2=1:=by
  have:=h1;rw [Nat.testBit_eq_decide_div_mod_eq]at this;exact of_decide_eq_true this
 refine⟨s / 2^i / 2,?_⟩;have h3:2*(s / 2^i / 2)+1=s / 2^i:=by omega
 rw [h3];have:=Nat.div_add_mod s (2^i);omega
theorem Qny(h1:s.testBit i=true)(h2:∀j,j < i->s.testBit j=false)(j:Nat):(s - 1).testBit j=if j < i then true else if j=i then false else s.testBit j:=by
 obtain⟨r,hr⟩:=Qcr h1 h2;have hp:=Nat.two_pow_pos i;have e1:s - 1=2^i*(2*r)+(2^i - 1):=by
  rw [hr,Nat.mul_add,Nat.mul_one];omega
 have e2:s=2^i*(2*r+1)+0:=by rw [hr];rfl
 rw [e1,Nat.testBit_two_pow_mul_add _ (by omega)];by_cases hj:j < i
 ·rw [if_pos hj,if_pos hj,Nat.testBit_two_pow_sub_one];exact decide_eq_true hj
 rw [if_neg hj,if_neg hj];by_cases he:j=i
 ·rw [if_pos he,he,Nat.sub_self];rw [Nat.testBit_zero];exact decide_eq_false (by omega)
 rw [if_neg he,e2,Nat.testBit_two_pow_mul_add _ hp,if_neg hj];obtain⟨k,hk⟩:∃k,j - i=k+1:=⟨j - i - 1,by omega⟩;rw [hk,Nat.testBit_succ,Nat.testBit_succ];rw [show 2*r / 2=(2*r+1) / 2 by omega]
theorem Rg(h1:s.testBit i=true)(h2:∀j,j < i->s.testBit j=false)(j:Nat):(s&&&(s - 1)).testBit j=(s.testBit j&& !decide (j=i)):=by
 rw [Nat.testBit_and,Qny h1 h2];by_cases hj:j < i
 ·rw [h2 j hj,Bool.false_and,Bool.false_and]
 rw [if_neg hj];by_cases he:j=i
 ·rw [if_pos he,decide_eq_true he,Bool.and_false,Bool.not_true,Bool.and_false]
 rw [if_neg he,decide_eq_false he,Bool.and_self,Bool.not_false,Bool.and_true]
end
theorem Qnx:Yq 0= []:=by
 unfold Yq;rw [List.filter_eq_nil_iff];intro i _;simp
theorem Qnk {s:Nat}(hs:Qp s)(h0:s≠0):Yq s=Dt s :: Yq (s&&&(s - 1)):=by
 obtain⟨uG,h1,h2⟩:=Aj hs h0;obtain⟨i,hi⟩:∃i,i=Dt s:=⟨_,rfl⟩;rw [<-hi]at uG h1 h2⊢;unfold Yq;have e:List.range 64=List.range i++i :: List.range' (i+1) (63 - i):=by
  rw [List.range_eq_range',List.range_eq_range',<-List.range'_succ,show 63 - i+1=64 - i by omega];have:=List.range'_append (s:=0) (m:=i) (n:=64 - i) (step:=1);rw [Nat.zero_add,Nat.one_mul,show i+(64 - i)=64 by omega]at this;exact this.symm
 rw [e,List.filter_append,List.filter_append];have z1:(List.range i).filter (fun j=>s.testBit j)= []:=by
  rw [List.filter_eq_nil_iff];intro j hj;rw [h2 j (List.mem_range.1 hj)];simp
 have z2:(List.range i).filter (fun j=>(s&&&(s - 1)).testBit j)= []:=by
  rw [List.filter_eq_nil_iff];intro j hj;rw [Rg h1 h2,h2 j (List.mem_range.1 hj)];simp
 rw [z1,z2,List.nil_append,List.nil_append,List.filter_cons_of_pos (by exact h1),List.filter_cons_of_neg (by rw [Rg h1 h2];simp)]
 congr 1
 refine List.filter_congr fun j hj=> ?_
 have lD:=(List.mem_range'_1.1 hj).1;rw [Rg h1 h2,decide_eq_false (by omega),Bool.not_false,Bool.and_true]
theorem Qya {s:Nat}(h0:s≠0):(s&&&(s - 1)) < s:=by
 have:= @Nat.and_le_right s (s - 1);omega
theorem Qi4 {s:Nat}(hs:Qp s)(h0:s≠0):s&&&(18446744073709551616 - s)=2^Dt s:=by
 obtain⟨uG,h1,h2⟩:=Aj hs h0;obtain⟨i,hi⟩:∃i,i=Dt s:=⟨_,rfl⟩;rw [<-hi]at uG h1 h2⊢;refine Nat.eq_of_testBit_eq fun j=> ?_
 have yD:s - 1 < 2^64:=by unfold Qp at hs;omega
 rw [Nat.testBit_and,Nat.testBit_two_pow,show 18446744073709551616 - s=2^64 - (s - 1+1) by omega,Nat.testBit_two_pow_sub_succ yD,Qny h1 h2];by_cases hj:j < i
 ·rw [h2 j hj,Bool.false_and];exact(decide_eq_false (by omega)).symm
 rw [if_neg hj];by_cases he:j=i
 ·rw [if_pos he,he,h1,decide_eq_true uG,decide_eq_true rfl];rfl
 rw [if_neg he,show decide (i=j)=false from decide_eq_false (fun e=>he e.symm)];cases s.testBit j <;> simp
section
variable {P:Program} {n:Nat}
def AbB {α:Type}(B:Nat)(J:List α->World->Prop):Prop:=∀s W W',J s W->W.grownBy W' (some B)->J s W'
structure KpB (B:Nat) (W W':World):Prop where
 size:W.heap.size<=W'.heap.size
 blk:W'.heap[B]?=W.heap[B]?
 tab:W'.heap[0]?=W.heap[0]?
theorem KpB.trans {B:Nat} {a b c:World}(h:KpB B a b)(k:KpB B b c):KpB B a c:=⟨Qx h.size k.size,k.blk.trans h.blk,k.tab.trans h.tab⟩
theorem KpB.put {B:Nat} {W:World} {l:Nat} {o:Obj}(OK:0 < B)(hl:B < l):KpB B W (W.putObj l o):=⟨by simp,World.putObj_heap_other (by omega),World.putObj_heap_other (by omega)⟩
def Zz2 {α:Type}(P:Program)(n g:Nat)(lb:Array Value)(encs:α->Array Value)(B:Nat)(xs:List α)(w:World):Prop :=
 ∀(l:Nat) (J Jx:List α->World->Prop) (W:World),Go.RowKit.Below w.heap.size w W->AbB B J->AbB B Jx->
  (∀pre x W1,J pre W1->pre++ [x] <+: xs->YieldAt Fence.wide (n - 1) P l (encs x) W1 fun e W' =>
   (e=.returned (.bool true)/\J (pre++ [x]) W'/\KpB B W1 W')\/(e=.returned (.bool false)/\Jx (pre++ [x]) W'))->
  J [] W->
  CallsIn Fence.wide n P g (#[.func (.yield l) #[] #[]]++lb) W fun e W'=>(∃v,e=.returned v)/\(J xs W'\/∃pre,Jx pre W')
def Qtf {α:Type}(B z:Nat)(I:List α->World->Prop):Prop:=∀s W W' r,I s W->W.grownBy W' (some r)->r=B\/(z<=r/\∀o,W.heap[r]?=some o->o.isCells=false)->I s W'
def Zvb {α:Type}(B z:Nat)(I Ix:List α->World->Prop)(xs:List α)(W:World):Exit->Act->World->Prop
 |.normal,_,W'=>(∀(k:Nat) (o:Obj),z<=k->W.heap[k]?=some o->o.isCells=false->W'.heap[k]?=some o)/\KpB B W W'/\I xs W'
 |.ret,_,W'=>(∀(k:Nat) (o:Obj),z<=k->W.heap[k]?=some o->o.isCells=false->W'.heap[k]?=some o)/\Ix xs W'
 |_,_,_=>False
theorem Qm2 {n₀ z:Nat} {W:World} {l:Nat} {o:Obj}(hz:n₀<=z)(hl:z<=l)(hs:n₀<=W.heap.size):Go.RowKit.Below n₀ W (W.putObj l o):=
 (Below.refl n₀ W).grown (grownBy_putObj' W l o) hs (fun k e=>by cases e;omega)
theorem Qhl {α:Type} {g:Operand} {ps:Array Tmp} {assign body:Code} {Q:Exit->Act->World->Prop} {a:Act} {w:World} {gf:Nat} {lb:Array Value} {encs:α->Array Value} {B:Nat} {xs:List α} {w0:World}
 (hg:a.eval g=.func (.func gf) #[] lb)(eg:∀args w,(callFunc gf args).run P w=.ok (.enter gf args) w)
 (BW:Zz2 P (n - 1) gf lb encs B xs w0)(T8:Go.RowKit.Below w0.heap.size w0 w)(OK:0 < B)(hB:B < w.heap.size)(vP:∀x,(encs x).size=ps.size)
 (I Ix:List α->World->Prop)(hI:Qtf B w.heap.size I)(EV:Qtf B w.heap.size Ix)(h0:∀W,Qg w W->I [] W)(a₁:α->Act)
 (aK:∀(l:Nat) (x:α) (W:World) (K:Act->World->Prop),K (a₁ x) W->
  assign.wpIn (Fence.wide.inRound l) (n - 1 - 1) P (Exit.then K (fun _ _ _=>False)) { tmps:=(ps.zip (encs x)).foldl (fun t (p,v)=>t.setIfInBounds p v) a.tmps,defers:= [] } W)
 (OD:∀(l:Nat) (pre:List α) (x:α) (W:World),I pre W->pre++ [x] <+: xs->body.wpIn (Fence.wide.inRound l) (n - 1 - 1) P (Zvb B w.heap.size I Ix (pre++ [x]) W) (a₁ x) W)
 (NU:∀(D:Nat) (W:World),w.heap.size<=D->I xs W->W.heap[D]?=some (.deferred (some []))->Q .normal { a with defers:= { target:=.collected D,args:=#[] } :: a.defers } W)
 (LO:∀(D:Nat) (pre:List α) (W:World),w.heap.size<=D->Ix pre W->W.heap[D]?=some (.deferred (some []))->Q .ret { a with defers:= { target:=.collected D,args:=#[] } :: a.defers } W):
 (Code.rangeFunc g ps assign body).wpIn Fence.wide n P Q a w:=by
 refine wpIn_rangeFunc ?_;intro fn DQ;obtain⟨rec,pJ⟩:∃rec:LoopState->Option Code->Loop,rec=fun st pe=> { state:=st,pending:=pe,fn,tmps:=a.tmps,params:=ps,assign,body,defers:=w.heap.size } :=⟨_,rfl⟩
 obtain⟨W1,tT⟩:∃W1,(w.alloc (.deferred (some []))).alloc (.loop (rec .ready none))=W1:=⟨_,rfl⟩;have D8:W1.heap[w.heap.size+1]?=some (.loop (rec .ready none)):=by
  rw [<-tT];have:=World.alloc_heap_new (w.alloc (.deferred (some []))) (.loop (rec .ready none));rwa [World.size_alloc]at this
 have E2:W1.heap[w.heap.size]?=some (.deferred (some [])):=by
  rw [<-tT];exact(Below.heap_alloc _ _ _ (by simp)).trans (World.alloc_heap_new w _)
 have U5:Qg w W1:=by rw [<-tT];exact((Qg.refl w).alloc _).alloc _
 have yV:Go.RowKit.Below w0.heap.size w0 W1:=T8.trans (U5.mono T8.size);have ne1:w.heap.size+1≠B:=by omega
 have ne2:w.heap.size≠B:=by omega
 refine⟨w.heap.size+1,[{ target:=.collected w.heap.size,args:=#[] }],W1,{ target:=.fn (.func gf) lb,args:=#[.func (.yield (w.heap.size+1)) #[] #[]] },W1,gf,
  #[.func (.yield (w.heap.size+1)) #[] #[]]++lb,W1,?_,?_,?_,?_,fun h=>(by cases h),?_⟩
 ·rw [<-tT,pJ];exact run_enterLoop_outer _ _ _ _ _
 ·simp only [resolve,hg];simp [go_sem]
 ·intro f' _;trivial
 ·simp [invoke,go_sem,eg]
 refine(BW (w.heap.size+1)
  (fun pre W=>I pre W/\W.heap[w.heap.size+1]?=some (.loop (rec .ready none))/\W.heap[w.heap.size]?=some (.deferred (some [])))
  (fun pre W=>Ix pre W/\W.heap[w.heap.size+1]?=some (.loop (rec .done (some .ret)))/\W.heap[w.heap.size]?=some (.deferred (some [])))
  W1 yV
  (fun s A C hs wD=>⟨hI s A C B hs.1 wD (.inl rfl),(wD.block _ (Array.getElem?_eq_some_iff.1 hs.2.1).1 (fun e=>ne1 (by injection e))).trans hs.2.1,(wD.block _ (Array.getElem?_eq_some_iff.1 hs.2.2).1 (fun e=>ne2 (by injection e))).trans hs.2.2⟩)
  (fun s A C hs wD=>⟨EV s A C B hs.1 wD (.inl rfl),(wD.block _ (Array.getElem?_eq_some_iff.1 hs.2.1).1 (fun e=>ne1 (by injection e))).trans hs.2.1,(wD.block _ (Array.getElem?_eq_some_iff.1 hs.2.2).1 (fun e=>ne2 (by injection e))).trans hs.2.2⟩)
  ?_ ⟨h0 _ U5,D8,E2⟩).mono ?_
 ·rintro pre x W ⟨hi,hl,hk⟩ zG;have zI:w.heap.size+1 < W.heap.size:=(Array.getElem?_eq_some_iff.1 hl).1;have hy:=run_yield (P:=P) (args:=encs x) hl (by rw [pJ];exact vP x);rw [pJ]at hy;refine⟨fn,_,assign,body,hy,roundIn_of_wpIn DQ (aK _ x W _ ⟨_,run_beginRound hl (by rw [pJ]),?_⟩)⟩;obtain⟨W2,gQ⟩:∃W2,W.putObj (w.heap.size+1) (.loop { rec .ready none with state:=.busy })=W2:=⟨_,rfl⟩;have uP:W.grownBy W2 (some (w.heap.size+1)):=by rw [<-gQ];exact grownBy_putObj' _ _ _
  have pM:W2.heap[w.heap.size+1]?=some (.loop { rec .ready none with state:=.busy }):=by rw [<-gQ];exact World.putObj_heap_same zI
  have wW:W2.heap[w.heap.size]?=some (.deferred (some [])):=by rw [<-gQ];exact(World.putObj_heap_other (by omega)).trans hk
  have jC:KpB B W W2:=by rw [<-gQ];exact KpB.put OK (by omega)
  have eF:I pre W2:=hI _ _ _ _ hi uP (.inr ⟨by omega,fun o ho=>by rw [hl]at ho;cases ho;rfl⟩);rw [gQ];refine wpIn_mono (OD _ pre x _ eF zG) ?_
  have La:∀(jump:Option Code) (W3:World),(∀(k:Nat) (o:Obj),w.heap.size<=k->W2.heap[k]?=some o->o.isCells=false->W3.heap[k]?=some o)->
   (Instr.endRound (w.heap.size+1) jump).run P W3=.ok (.bool jump.isNone) (W3.putObj (w.heap.size+1) (.loop (rec (if jump.isNone then .ready else .done) jump)))/\
   W3.heap[w.heap.size+1]?=some (.loop { rec .ready none with state:=.busy })/\
   (W3.putObj (w.heap.size+1) (.loop (rec (if jump.isNone then .ready else .done) jump))).heap[w.heap.size+1]?=some (.loop (rec (if jump.isNone then .ready else .done) jump))/\
   (W3.putObj (w.heap.size+1) (.loop (rec (if jump.isNone then .ready else .done) jump))).heap[w.heap.size]?=some (.deferred (some [])):=fun jump W3 nJ=>by
   have mN:=nJ _ _ (by omega) pM rfl;have:=run_endRound (P:=P) jump mN;rw [pJ]at this⊢;exact⟨this,by rw [pJ]at mN;exact mN,World.putObj_heap_same (Array.getElem?_eq_some_iff.1 mN).1,(World.putObj_heap_other (by omega)).trans (nJ _ _ (Nat.le_refl _) wW rfl)⟩
  rintro e a3 W3 hp;cases e with
  |normal =>
   obtain⟨nJ,CW,RV⟩:=hp;obtain⟨hr,mN,cD,RU⟩:=La none W3 nJ;exact⟨_,_,hr,.inl ⟨rfl,⟨hI _ _ _ _ RV (grownBy_putObj' _ _ _) (.inr ⟨by omega,fun o ho=>by rw [mN]at ho;cases ho;rfl⟩),cD,RU⟩,(jC.trans CW).trans (KpB.put OK (by omega))⟩⟩
  |ret =>
   obtain⟨nJ,RV⟩:=hp;obtain⟨hr,mN,cD,RU⟩:=La (some .ret) W3 nJ;exact⟨_,_,hr,.inr ⟨rfl,EV _ _ _ _ RV (grownBy_putObj' _ _ _) (.inr ⟨by omega,fun o ho=>by rw [mN]at ho;cases ho;rfl⟩),cD,RU⟩⟩
  |exit id=>exact hp.elim
  |goto t=>exact hp.elim
  |panic ch=>exact hp.elim
  |outgrown=>exact hp.elim
 rintro e W2 ⟨⟨v,rfl⟩,(⟨hi,hl,hk⟩|⟨pre,hi,hl,hk⟩)⟩
 ·refine⟨none,_,by have:=run_endLoop (P:=P) hl (by rw [pJ];simp);rw [pJ]at this;exact this,NU _ _ (Nat.le_refl _) (hI _ _ _ _ hi (grownBy_putObj' _ _ _) (.inr ⟨by omega,fun o ho=>by rw [hl]at ho;cases ho;rfl⟩)) ((World.putObj_heap_other (by omega)).trans hk)⟩
 refine⟨some .ret,_,by have:=run_endLoop (P:=P) hl (by rw [pJ];simp);rw [pJ]at this;exact this,wpIn_ret ?_⟩;exact LO _ pre _ (Nat.le_refl _) (EV _ _ _ _ hi (grownBy_putObj' _ _ _) (.inr ⟨by omega,fun o ho=>by rw [hl]at ho;cases ho;rfl⟩)) ((World.putObj_heap_other (by omega)).trans hk)
def Ee(z:Nat)(ds:List Deferred)(W:World):Prop:=ds.Pairwise (fun d d'=>d.target≠d'.target)/\∀d∈ds,∃D,z<=D/\d.target=.collected D/\W.heap[D]?=some (.deferred (some []))
theorem Ok {fn:Func} {tmps:Array Value} {R:Ending->World->Prop} {z:Nat} :∀(ds:List Deferred) (W:World),Ee z ds W->
 (∀W',Go.RowKit.Below z W W'->∃v,(results fn tmps).run P W'=.ok v W'/\R (.returned v) W')->z<=W.heap.size->LeavesInM Fence.wide n P fn tmps R ds .returning W
 |[],W,_,h,hz=>h W (Below.refl _ _)
 |d :: ds,W,hm,h,hz=>by
  obtain⟨hp,hd⟩:=hm;obtain⟨D,hzD,ht,hD⟩:=hd d (List.mem_cons_self ..);refine⟨by simp,.inl ⟨D,_,ht,run_takeDeferred hD,?_⟩⟩;have hb:Go.RowKit.Below z W (W.putObj D (.deferred none)):=Qm2 (Nat.le_refl _) hzD hz;refine Ok ds _ ⟨(List.pairwise_cons.1 hp).2,fun d' KD=> ?_⟩ (fun W' eR=>h W' (hb.trans eR)) (by rw [show(W.putObj D (.deferred none)).heap.size=W.heap.size by simp];exact hz);obtain⟨D',hz',kS,EY⟩:=hd d' (List.mem_cons_of_mem _ KD);refine⟨D',hz',kS,(World.putObj_heap_other (fun e=> ?_)).trans EY⟩;have:=(List.pairwise_cons.1 hp).1 d' KD;rw [ht,kS,e]at this;exact this rfl
end
end Go.Proofs.YtkmclcmnoicagaaGreatDoor
