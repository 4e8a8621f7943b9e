/- Further constructors of formulas: Or, Iff. -/
import Derived.Test.YtbfeodammikajaaGreatM01
import Derived.Test.YtbfeodammikajaaGreatM07
namespace Go.Proofs.YtbfeodammikajaaGreat
set_option maxRecDepth 100000
set_option maxHeartbeats 128000000
open Go.RowKit
def orN(f g:List Nd):List Nd:=buildN ⟨6,0,0,0,0,0⟩ [f,g]
theorem or_any(v1 v2:Value)(f g:List Nd)(w:World)(h1:Fml w v1 f)(h2:Fml w v2 g):
 Calls Tryz.prog 120 #[v1,v2] w fun e w'=>∃u,e=.returned u/\Made w w' u (orN f g):=by
 have H1:=Qq h1;have H2:=Qq h2;obtain⟨A1,c1,rfl,_⟩:=fml_slice h1;obtain⟨A2,c2,rfl,_⟩:=fml_slice h2;clear h1 h2;go_enter Tryz.func120,Tryz.ntmps120;go_wp2_with fail;refine(build_any ⟨6,0,0,0,0,0⟩ _ [f,g] _ (small_ok (i64_small (by omega) (by omega)) (i64_small (by omega) (by omega)) (i64_small (by omega) (by omega)) (i64_small (by omega) (by omega)) (i64_small (by omega) (by omega)) (i64_small (by omega) (by omega))) (fmls_two H1.out H2.out) (by simp)).mono ?_;rintro e w1 ⟨u,rfl,hm⟩;have HM:=Qq hm;clear hm;go_wp2_with fail;go_ret;exact⟨_,rfl,(HM.out.before (Qz.alloc _))⟩
def iffN(f g:List Nd):List Nd:=buildN ⟨8,0,0,0,0,0⟩ [f,g]
theorem iff_any(v1 v2:Value)(f g:List Nd)(w:World)(h1:Fml w v1 f)(h2:Fml w v2 g):
 Calls Tryz.prog 122 #[v1,v2] w fun e w'=>∃u,e=.returned u/\Made w w' u (iffN f g):=by
 have H1:=Qq h1;have H2:=Qq h2;obtain⟨A1,c1,rfl,_⟩:=fml_slice h1;obtain⟨A2,c2,rfl,_⟩:=fml_slice h2;clear h1 h2;go_enter Tryz.func122,Tryz.ntmps122;go_wp2_with fail;refine(build_any ⟨8,0,0,0,0,0⟩ _ [f,g] _ (small_ok (i64_small (by omega) (by omega)) (i64_small (by omega) (by omega)) (i64_small (by omega) (by omega)) (i64_small (by omega) (by omega)) (i64_small (by omega) (by omega)) (i64_small (by omega) (by omega))) (fmls_two H1.out H2.out) (by simp)).mono ?_;rintro e w1 ⟨u,rfl,hm⟩;have HM:=Qq hm;clear hm;go_wp2_with fail;go_ret;exact⟨_,rfl,(HM.out.before (Qz.alloc _))⟩
def commonN(g:Int)(a b:List Nd):List Nd:=buildN ⟨13,0,0,g,0,0⟩ [a,b]
theorem common_any(k:Int)(hk:i64ok k)(v1 v2:Value)(f g:List Nd)(w:World)(h1:Fml w v1 f)(h2:Fml w v2 g):
 Calls Tryz.prog 123 #[.int .i64 k,v1,v2] w fun e w'=>∃u,e=.returned u/\Made w w' u (commonN k f g):=by
 have H1:=Qq h1;have H2:=Qq h2;obtain⟨A1,c1,rfl,_⟩:=fml_slice h1;obtain⟨A2,c2,rfl,_⟩:=fml_slice h2;clear h1 h2;go_enter Tryz.func123,Tryz.ntmps123;go_wp2_with fail;refine(build_any ⟨13,0,0,k,0,0⟩ _ [f,g] _ (small_ok (i64_small (by omega) (by omega)) (i64_small (by omega) (by omega)) (i64_small (by omega) (by omega)) hk (i64_small (by omega) (by omega)) (i64_small (by omega) (by omega))) (fmls_two H1.out H2.out) (by simp)).mono ?_;rintro e w1 ⟨u,rfl,hm⟩;have HM:=Qq hm;clear hm;go_wp2_with fail;go_ret;exact⟨_,rfl,(HM.out.before (Qz.alloc _))⟩
inductive Tr where
 |leaf (n:Nd)
 |one (n:Nd) (a:Tr)
 |two (n:Nd) (a b:Tr)
def Nd.head(n:Nd):Nd:=n.with_ 0 0
def Tr.ok:Tr->Prop
 |.leaf n=>hasX n.op=false/\hasY n.op=false
 |.one n a=>hasX n.op=true/\hasY n.op=false/\n.head=n/\a.ok
 |.two n a b=>hasX n.op=true/\hasY n.op=true/\n.head=n/\a.ok/\b.ok
def Tr.size:Tr->Nat
 |.leaf _=>1
 |.one _ a=>a.size+1
 |.two _ a b=>a.size+b.size+1
def Tr.top:Tr->Nd
 |.leaf n=>n
 |.one n _=>n
 |.two n _ _=>n
def trF(f:List Nd):Nat->Nat->Tr
 |0,_=> .leaf Nd.zero
 |k+1,i=>bif hasY (f.getD i Nd.zero).op then .two (f.getD i Nd.zero).head (trF f k (f.getD i Nd.zero).x.toNat) (trF f k (f.getD i Nd.zero).y.toNat)
  else bif hasX (f.getD i Nd.zero).op then .one (f.getD i Nd.zero).head (trF f k (f.getD i Nd.zero).x.toNat)else .leaf (f.getD i Nd.zero)
def tr(f:List Nd)(i:Nat):Tr:=trF f (i+1) i
def treeOf(f:List Nd):Tr:=tr f (f.length - 1)
def mkTr(n:Nd)(a b:Tr):Tr:=bif hasY n.op then .two n.head a b else bif hasX n.op then .one n.head a else .leaf n
theorem trF_fuel {f:List Nd}(hf:Wf f):∀(k i:Nat),i < k->i < f.length->trF f k i=tr f i:=by
 intro k
 induction k using Nat.strongRecOn with
 |_ k ih =>
  intro i h hi;cases k with
  |zero=>omega
  |succ k =>
   obtain⟨n,hn⟩:∃n,f[i]?=some n:=⟨_,Qv hi⟩;obtain⟨hx,hy⟩:=hf i n hn;have e:∀(b:Nat),b < i->trF f k b=trF f i b:=fun b hb=>by
    rw [ih k (by omega) b (by omega) (by omega)];by_cases hik:i=k
    ·subst hik;exact(ih i (by omega) b hb (by omega)).symm
    exact(ih i (by omega) b hb (by omega)).symm
   unfold tr;simp only [trF,getD_of hn];cases h2:hasY n.op
   ·cases h1:hasX n.op
    ·rfl
    have:=hx h1;simp only [cond_true,cond_false];rw [e _ (by omega)]
   have h1:=hasX_of_hasY h2;have:=hx h1;have:=hy h2;simp only [cond_true];rw [e _ (by omega),e _ (by omega)]
theorem tr_eq {f:List Nd}(hf:Wf f) {i:Nat} {n:Nd}(hn:f[i]?=some n):tr f i=mkTr n (tr f n.x.toNat) (tr f n.y.toNat):=by
 have hi:i < f.length:=(List.getElem?_eq_some_iff.1 hn).1;obtain⟨hx,hy⟩:=hf i n hn
 conv=>lhs;unfold tr trF
 simp only [getD_of hn,mkTr];cases h2:hasY n.op
 ·cases h1:hasX n.op
  ·rfl
  have:=hx h1;simp only [cond_true,cond_false];rw [trF_fuel hf _ _ (by omega) (by omega)]
 have h1:=hasX_of_hasY h2;have:=hx h1;have:=hy h2;simp only [cond_true];rw [trF_fuel hf _ _ (by omega) (by omega),trF_fuel hf _ _ (by omega) (by omega)]
theorem mkTr_congr {n:Nd} {a a' b b':Tr}(hx:hasX n.op=true->a=a')(hy:hasY n.op=true->b=b'):mkTr n a b=mkTr n a' b':=by
 unfold mkTr;cases h2:hasY n.op
 ·cases h1:hasX n.op
  ·rfl
  rw [hx h1];rfl
 rw [hx (hasX_of_hasY h2),hy h2]
theorem tr_prefix {f g:List Nd}(hf:Wf f)(hg:Wf g)(hp:f <+: g):∀i,i < f.length->tr g i=tr f i:=by
 intro i
 induction i using Nat.strongRecOn with
 |_ i ih =>
  intro hi;obtain⟨n,hn⟩:∃n,f[i]?=some n:=⟨_,Qv hi⟩;obtain⟨hx,hy⟩:=hf i n hn;have hn':g[i]?=some n:=by
   obtain⟨t,rfl⟩:=hp;rw [List.getElem?_append_left hi];exact hn
  rw [tr_eq hf hn,tr_eq hg hn'];exact mkTr_congr (fun h=>by have:=hx h;exact ih _ (by omega) (by omega)) (fun h=>by have:=hy h;exact ih _ (by omega) (by omega))
theorem head_head(n:Nd):n.head.head=n.head:=by
 unfold Nd.head Nd.with_;cases hasX n.op <;> cases hasY n.op <;> rfl
theorem with_head(n:Nd)(a b:Nat):(n.with_ a b).head=n.head:=by
 unfold Nd.head Nd.with_;cases hasX n.op <;> cases hasY n.op <;> rfl
theorem head_with(n:Nd)(a b:Nat):n.head.with_ a b=n.with_ a b:=by
 unfold Nd.head Nd.with_;cases hasX n.op <;> cases hasY n.op <;> rfl
theorem with_op(n:Nd)(a b:Nat):(n.with_ a b).op=n.op:=rfl
theorem head_op(n:Nd):n.head.op=n.op:=rfl
theorem mkTr_ok {n:Nd} {a b:Tr}(ha:hasX n.op=true->a.ok)(hb:hasY n.op=true->b.ok):(mkTr n a b).ok:=by
 unfold mkTr;cases h2:hasY n.op
 ·cases h1:hasX n.op
  ·exact⟨h1,h2⟩
  exact⟨h1,h2,head_head n,ha h1⟩
 have h1:=hasX_of_hasY h2;exact⟨h1,h2,head_head n,ha h1,hb h2⟩
theorem tr_ok {f:List Nd}(hf:Wf f):∀i,i < f.length->(tr f i).ok:=by
 intro i
 induction i using Nat.strongRecOn with
 |_ i ih =>
  intro hi;obtain⟨n,hn⟩:∃n,f[i]?=some n:=⟨_,Qv hi⟩;obtain⟨hx,hy⟩:=hf i n hn;rw [tr_eq hf hn];exact mkTr_ok (fun h=>by have:=hx h;exact ih _ (by omega) (by omega)) (fun h=>by have:=hy h;exact ih _ (by omega) (by omega))
def ins:Tr->List Nd->List Nd×Nat
 |.leaf n,o=>(addN o n,o.idxOf n)
 |.one n a,o=>(addN (ins a o).1 (n.with_ (ins a o).2 0),(ins a o).1.idxOf (n.with_ (ins a o).2 0))
 |.two n a b,o=>(addN (ins b (ins a o).1).1 (n.with_ (ins a o).2 (ins b (ins a o).1).2),(ins b (ins a o).1).1.idxOf (n.with_ (ins a o).2 (ins b (ins a o).1).2))
def canon(t:Tr):List Nd:=(ins t []).1
theorem with_leaf {n:Nd}(h1:hasX n.op=false)(h2:hasY n.op=false)(a b:Nat):n.with_ a b=n:=by
 unfold Nd.with_;rw [h1,h2];rfl
theorem with_one {n:Nd}(h2:hasY n.op=false)(a b c:Nat):n.with_ a b=n.with_ a c:=by
 unfold Nd.with_;rw [h2];rfl
theorem finN_ins {f:List Nd}(hf:Wf f):∀(i:Nat) (o:List Nd),i < f.length->finN f i o=ins (tr f i) o:=by
 intro i
 induction i using Nat.strongRecOn with
 |_ i ih =>
  intro o hi;obtain⟨n,hn⟩:∃n,f[i]?=some n:=⟨_,Qv hi⟩;obtain⟨hx,hy⟩:=hf i n hn;rw [finN_eq hf hn,tr_eq hf hn];unfold mkTr opX opY;cases h2:hasY n.op
  ·cases h1:hasX n.op
   ·simp only [cond_false,ins,Bool.false_eq_true,if_false,with_leaf h1 h2]
   have:=hx h1;simp only [cond_false,cond_true,ins,Bool.false_eq_true,if_false,if_true,head_with];rw [ih _ (by omega) _ (by omega),with_one h2 _ _ 0]
  have h1:=hasX_of_hasY h2;have:=hx h1;have:=hy h2;simp only [h1,cond_true,ins,if_true,head_with];rw [ih n.x.toNat (by omega) o (by omega),ih n.y.toNat (by omega) _ (by omega)]
theorem wf_addN {o:List Nd} {m:Nd}(ho:Wf o)(hx:hasX m.op=true->0<=m.x/\m.x < o.length)(hy:hasY m.op=true->0<=m.y/\m.y < o.length):Wf (addN o m):=by
 unfold addN
 split
 ·exact ho
 exact wf_snoc ho hx hy
theorem addN_get(o:List Nd)(m:Nd):(addN o m)[o.idxOf m]?=some m:=by
 rw [<-idxOf_addN];rw [List.getElem?_eq_getElem (List.idxOf_lt_length_of_mem (mem_addN o m))];rw [List.getElem_idxOf]
structure InsOk (t:Tr) (o:List Nd):Prop where
 wf:Wf (ins t o).1
 pre:o <+:(ins t o).1
 lt:(ins t o).2 < (ins t o).1.length
 tree:tr (ins t o).1 (ins t o).2=t
theorem ins_ok:∀(t:Tr) (o:List Nd),t.ok->Wf o->InsOk t o
 |.leaf n,o,⟨h1,h2⟩,ho=>by
  have hw:Wf (addN o n):=wf_addN ho (fun h=>by rw [h1]at h;cases h) (fun h=>by rw [h2]at h;cases h);refine⟨hw,addN_prefix _ _,idxOf_lt_addN _ _,?_⟩;show tr (addN o n) (o.idxOf n)=_;rw [tr_eq hw (addN_get o n)];unfold mkTr;rw [h1,h2];rfl
 |.one n a,o,⟨h1,h2,h3,ha⟩,ho=>by
  have A:=ins_ok a o ha ho;have hw:Wf (addN (ins a o).1 (n.with_ (ins a o).2 0)):=wf_addN A.wf (fun h=>by
   have:=A.lt;simp only [Nd.with_,h1,cond_true]
   omega) (fun h=>by rw [with_op,h2]at h;cases h)
  refine⟨hw,A.pre.trans (addN_prefix _ _),idxOf_lt_addN _ _,?_⟩;show tr (addN (ins a o).1 (n.with_ (ins a o).2 0)) ((ins a o).1.idxOf (n.with_ (ins a o).2 0))=_;rw [tr_eq hw (addN_get _ _)];unfold mkTr;rw [with_op,h1,h2,with_head,h3];have e:(n.with_ (ins a o).2 0).x.toNat=(ins a o).2:=by simp [Nd.with_,h1]
  rw [e,tr_prefix A.wf hw (addN_prefix _ _) _ A.lt,A.tree];rfl
 |.two n a b,o,⟨h1,h2,h3,ha,hb⟩,ho=>by
  have A:=ins_ok a o ha ho;have B:=ins_ok b _ hb A.wf;have hlt:(ins a o).2 < (ins b (ins a o).1).1.length:=Qy A.lt B.pre.length_le;have hw:Wf (addN (ins b (ins a o).1).1 (n.with_ (ins a o).2 (ins b (ins a o).1).2)):=wf_addN B.wf (fun h=>by
   simp only [Nd.with_,h1,cond_true]
   omega) (fun h=>by
   have:=B.lt;simp only [Nd.with_,h2,cond_true]
   omega)
  refine⟨hw,(A.pre.trans B.pre).trans (addN_prefix _ _),idxOf_lt_addN _ _,?_⟩;show tr (addN (ins b (ins a o).1).1 (n.with_ (ins a o).2 (ins b (ins a o).1).2)) ((ins b (ins a o).1).1.idxOf (n.with_ (ins a o).2 (ins b (ins a o).1).2))=_;rw [tr_eq hw (addN_get _ _)];unfold mkTr;rw [with_op,h2,with_head,h3];have e:(n.with_ (ins a o).2 (ins b (ins a o).1).2).x.toNat=(ins a o).2:=by simp [Nd.with_,h1]
  have e':(n.with_ (ins a o).2 (ins b (ins a o).1).2).y.toNat=(ins b (ins a o).1).2:=by simp [Nd.with_,h2]
  rw [e,e',tr_prefix A.wf hw (B.pre.trans (addN_prefix _ _)) _ A.lt,A.tree,tr_prefix B.wf hw (addN_prefix _ _) _ B.lt,B.tree];rfl
def Below(N:Nat)(o:List Nd):Prop:=∀k,k < o.length->(tr o k).size < N
theorem below_addN {N:Nat} {o:List Nd} {m:Nd}(ho:Wf o)(hw:Wf (addN o m))(h:Below N o)(hm:(tr (addN o m) (o.idxOf m)).size < N):Below N (addN o m):=by
 intro k hk;by_cases hko:k < o.length
 ·rw [tr_prefix ho hw (addN_prefix _ _) _ hko];exact h k hko
 have hne:m∉o:=fun hm'=>by
  unfold addN at hk;rw [if_pos hm']at hk;exact hko hk
 have:k=o.idxOf m:=by
  rw [List.idxOf_eq_length hne];unfold addN at hk;rw [if_neg hne]at hk;simp at hk;omega
 rw [this];exact hm
theorem ins_below:∀(t:Tr) (o:List Nd) (N:Nat),t.ok->Wf o->Below N o->t.size < N->Below N (ins t o).1
 |.leaf n,o,N,ht,ho,hb,hs=>by
  have I:=ins_ok (.leaf n) o ht ho;exact below_addN ho I.wf hb (Nat.lt_of_le_of_lt (Nat.le_of_eq (congrArg Tr.size I.tree)) hs)
 |.one n a,o,N,ht,ho,hb,hs=>by
  have I:=ins_ok (.one n a) o ht ho;have A:=ins_ok a o ht.2.2.2 ho;have hs':a.size+1 < N:=hs;exact below_addN A.wf I.wf (ins_below a o N ht.2.2.2 ho hb (by omega)) (Nat.lt_of_le_of_lt (Nat.le_of_eq (congrArg Tr.size I.tree)) hs)
 |.two n a b,o,N,ht,ho,hb,hs=>by
  have I:=ins_ok (.two n a b) o ht ho;have A:=ins_ok a o ht.2.2.2.1 ho;have B:=ins_ok b _ ht.2.2.2.2 A.wf;have hs':a.size+b.size+1 < N:=hs;exact below_addN B.wf I.wf (ins_below b _ N ht.2.2.2.2 A.wf (ins_below a o N ht.2.2.2.1 ho hb (by omega)) (by omega)) (Nat.lt_of_le_of_lt (Nat.le_of_eq (congrArg Tr.size I.tree)) hs)
theorem below_nil(N:Nat):Below N []:=fun k h=>absurd h (by simp)
theorem last_addN {o:List Nd} {m:Nd} {t:Tr}(hb:Below t.size o)(ht:tr (addN o m) (o.idxOf m)=t):o.idxOf m+1=(addN o m).length:=by
 have hne:m∉o:=fun hm=>by
  have hlt:=List.idxOf_lt_length_of_mem hm;have:=hb _ hlt;have e:addN o m=o:=by unfold addN;rw [if_pos hm]
  rw [e]at ht;rw [ht]at this;omega
 rw [List.idxOf_eq_length hne];unfold addN;rw [if_neg hne];simp
theorem ins_last(t:Tr)(ht:t.ok):(ins t []).2+1=(canon t).length:=by
 have I:=ins_ok t [] ht wf_nil;cases t with
 |leaf n=>exact last_addN (below_nil _) I.tree
 |one n a =>
  have A:=ins_ok a [] ht.2.2.2 wf_nil;exact last_addN (t:=.one n a) (ins_below a [] _ ht.2.2.2 wf_nil (below_nil _) (Nat.lt_succ_self _)) I.tree
 |two n a b =>
  have A:=ins_ok a [] ht.2.2.2.1 wf_nil;have B:=ins_ok b _ ht.2.2.2.2 A.wf;have e:(Tr.two n a b).size=a.size+b.size+1:=rfl;exact last_addN (t:=.two n a b) (ins_below b _ _ ht.2.2.2.2 A.wf (ins_below a [] _ ht.2.2.2.1 wf_nil (below_nil _) (by omega)) (by omega)) I.tree
theorem canon_wf {t:Tr}(ht:t.ok):Wf (canon t):=(ins_ok t [] ht wf_nil).wf
theorem canon_pos {t:Tr}(ht:t.ok):0 < (canon t).length:=by have:=ins_last t ht;omega
theorem treeOf_canon {t:Tr}(ht:t.ok):treeOf (canon t)=t:=by
 unfold treeOf;have h:=ins_last t ht;rw [show(canon t).length - 1=(ins t []).2 by omega];exact(ins_ok t [] ht wf_nil).tree
theorem canon_inj {s t:Tr}(hs:s.ok)(ht:t.ok)(h:canon s=canon t):s=t:=by
 rw [<-treeOf_canon hs,<-treeOf_canon ht,h]
theorem treeOf_ok {f:List Nd}(h:check f=0):(treeOf f).ok:=tr_ok (check_wf h) _ (by have:=(check_parts h).1;omega)
theorem compactN_tree {f:List Nd}(h:check f=0):compactN f=canon (treeOf f):=by
 rw [compactN_eq h,finN_ins (check_wf h) _ _ (by have:=(check_parts h).1;omega)];rfl
theorem subN_tree {f:List Nd}(h:check f=0) {z:Nat}(hz:z < f.length):subN f z=canon (tr f z):=by
 unfold subN;have e:(decide ((z:Int) < 0)||decide ((f.length:Int)<=(z:Int)))=false:=by simp;omega
 rw [h,e,Int.toNat_natCast,finN_ins (check_wf h) _ _ hz];rfl
theorem treeOf_compact {f:List Nd}(h:check f=0):treeOf (compactN f)=treeOf f:=by
 rw [compactN_tree h,treeOf_canon (treeOf_ok h)]
theorem compact_twice {f:List Nd}(h:check f=0):compactN (compactN f)=compactN f:=by
 rw [compactN_tree (compactN_check h),treeOf_compact h,compactN_tree h]
theorem tr_shift {a b:List Nd}(ha:Wf a)(hb:Wf b):∀k,k < b.length->tr (a++b.map (shiftN a.length)) (a.length+k)=tr b k:=by
 intro k
 induction k using Nat.strongRecOn with
 |_ k ih =>
  intro hk;obtain⟨n,hn⟩:∃n,b[k]?=some n:=⟨_,Qv hk⟩;obtain⟨hx,hy⟩:=hb k n hn;have hn':(a++b.map (shiftN a.length))[a.length+k]?=some (shiftN a.length n):=by
   rw [List.getElem?_append_right (by omega),Nat.add_sub_cancel_left,List.getElem?_map,hn];rfl
  rw [tr_eq (shift_wf ha hb) hn',tr_eq hb hn];have e0:(shiftN a.length n).op=n.op:=rfl;have ehead:(shiftN a.length n).head=n.head:=by
   unfold Nd.head Nd.with_ shiftN;cases hasX n.op <;> cases hasY n.op <;> rfl
  unfold mkTr;rw [e0,ehead];cases h2:hasY n.op
  ·cases h1:hasX n.op
   ·simp only [cond_false]
    congr 1
    unfold shiftN;rw [h1,h2];rfl
   have:=hx h1;have e1:(shiftN a.length n).x.toNat=a.length+n.x.toNat:=by simp only [shiftN,h1,cond_true];omega
   rw [e1,ih _ (by omega) (by omega)];rfl
  have h1:=hasX_of_hasY h2;have:=hx h1;have:=hy h2;have e1:(shiftN a.length n).x.toNat=a.length+n.x.toNat:=by simp only [shiftN,h1,cond_true];omega
  have e2:(shiftN a.length n).y.toNat=a.length+n.y.toNat:=by simp only [shiftN,h2,cond_true];omega
  rw [e1,e2,ih n.x.toNat (by omega) (by omega),ih n.y.toNat (by omega) (by omega)];rfl
inductive Rch {α:Type} (r:α->α->Prop):α->α->Prop
 |one {a b:α} :r a b->Rch r a b
 |cons {a b c:α} :r a b->Rch r b c->Rch r a c
theorem Rch.snoc {α:Type} {r:α->α->Prop} {a b c:α}(h:Rch r a b)(k:r b c):Rch r a c:=by
 induction h with
 |one h=>exact .cons h (.one k)
 |cons h _ ih=>exact .cons h (ih k)
theorem Rch.map {α β:Type} {r:α->α->Prop} {s:β->β->Prop}(f:α->β)(hf:∀a b,r a b->s (f a) (f b)) {a b:α}(h:Rch r a b):Rch s (f a) (f b):=by
 induction h with
 |one h=>exact .one (hf _ _ h)
 |cons h _ ih=>exact .cons (hf _ _ h) ih
theorem Rch.mono {α:Type} {r s:α->α->Prop}(hf:∀a b,r a b->s a b) {a b:α}(h:Rch r a b):Rch s a b:=by
 induction h with
 |one h=>exact .one (hf _ _ h)
 |cons h _ ih=>exact .cons (hf _ _ h) ih
structure KM where
 W:Type
 R:Int->W->W->Prop
 V:Int->W->Prop
def gbit(g:Int)(i:Nat):Bool:=g.toNat.testBit i
def KM.step(M:KM)(g:Int)(c:M.W->Prop)(u v:M.W):Prop:=(∃i:Nat,i < 4/\gbit g i=true/\M.R (i:Int) u v)/\c v
def KM.sat(M:KM):Tr->M.W->Prop
 |.leaf n,w=>n.op=1\/(n.op=3/\M.V n.i w)
 |.one n a,w =>
  if n.op=4 then ¬M.sat a w
  else if n.op=9 then ∀v,M.R n.i w v->M.sat a v
  else if n.op=10 then ∃v,M.R n.i w v/\M.sat a v
  else if n.op=11 then ∀i:Nat,i < 4->gbit n.g i=true->∀v,M.R (i:Int) w v->M.sat a v
  else False
 |.two n a b,w =>
  if n.op=5 then M.sat a w/\M.sat b w
  else if n.op=6 then M.sat a w\/M.sat b w
  else if n.op=7 then M.sat a w->M.sat b w
  else if n.op=8 then(M.sat a w↔M.sat b w)
  else if n.op=13 then ∀v,Rch (M.step n.g (M.sat a)) w v->M.sat b v
  else False
structure Frm (lg:Int) {W:Type} (R:W->W->Prop):Prop where
 ser:lg=1\/lg=5->∀w,∃v,R w v
 refl:lg=2\/lg=4\/lg=6->∀w,R w w
 trans:3<=lg/\lg<=6->∀u v w,R u v->R v w->R u w
 eucl:lg=5\/lg=6->∀u v w,R u v->R u w->R v w
def KM.In(M:KM)(lg:Int):Prop:=∀i:Int,Frm lg (M.R i)
def ev(th:Tr->Bool):Tr->Bool
 |.leaf n=>if n.op=3 then th (.leaf n)else n.op==1
 |.one n a=>if n.op=4 then !ev th a else if n.op=9 then th (.one n a)else false
 |.two n a b =>
  if n.op=5 then ev th a&&ev th b
  else if n.op=6 then ev th a||ev th b
  else if n.op=7 then !ev th a||ev th b
  else if n.op=8 then ev th a==ev th b
  else if n.op=13 then th (.two n a b)else false
def cov(B:List Tr):Tr->Prop
 |.leaf n=>n.op=3->.leaf n∈B
 |.one n a=>if n.op=9 then .one n a∈B else cov B a
 |.two n a b=>if n.op=13 then .two n a b∈B else cov B a/\cov B b
def lang:Tr->Prop
 |.leaf _=>True
 |.one n a=>(n.op=4\/n.op=9)/\lang a
 |.two n a b=>((5<=n.op/\n.op<=8)\/n.op=13)/\lang a/\lang b
def unfT(i:Nat)(n:Nd)(a b:Tr):Tr:=.one ⟨9,i,0,0,0,0⟩ (.two ⟨7,0,0,0,0,0⟩ a (.two ⟨5,0,0,0,0,0⟩ b (.two n a b)))
structure Closed (B:List Tr):Prop where
 know:∀n a,.one n a∈B->n.op=9/\cov B a/\lang a/\0<=n.i/\n.i < 4
 com:∀n a b,.two n a b∈B->n.op=13/\cov B a/\cov B b/\lang a/\lang b/\∀i:Nat,i < 4->gbit n.g i=true->unfT i n a b∈B
def condL(lg:Int)(here hold there:Bool):Bool :=
 if lg<=2 then !here||hold
 else if lg=3 then !here||(hold&&there)
 else if lg=4 then !here||there
 else if lg=6 then here==there
 else(here==there)&&(!here||hold)
def refl3(lg:Int):Prop:=lg=2\/lg=4\/lg=6
structure Coh (lg:Int) (B:List Tr) (th:Tr->Bool):Prop where
 com:∀n a b,.two n a b∈B->(th (.two n a b)=true↔∀i:Nat,i < 4->gbit n.g i=true->th (unfT i n a b)=true)
 know:refl3 lg->∀n a,.one n a∈B->th (.one n a)=true->ev th a=true
def Poss(lg:Int)(B:List Tr)(i:Int)(th th':Tr->Bool):Prop :=
 ∀n a,.one n a∈B->n.i=i->condL lg (th (.one n a)) (ev th' a) (th' (.one n a))=true
section
variable {T:Type} (lg:Int) (B:List Tr) (S:T->Prop) (th:T->Tr->Bool)
def stepT(g:Int)(a:Tr)(t u:T):Prop:=S u/\ev (th u) a=true/\∃i:Nat,i < 4/\gbit g i=true/\Poss lg B (i:Int) (th t) (th u)
structure Full:Prop where
 coh:∀t,S t->Coh lg B (th t)
 ser:lg=1\/lg=5->∀t,S t->∀i:Int,(∃n a,.one n a∈B/\n.i=i)->∃u,S u/\Poss lg B i (th t) (th u)
 know:∀t,S t->∀n a,.one n a∈B->th t (.one n a)=false->∃u,S u/\ev (th u) a=false/\Poss lg B n.i (th t) (th u)
 com:∀t,S t->∀n a b,.two n a b∈B->th t (.two n a b)=false->∃u,Rch (stepT lg B S th n.g a) t u/\ev (th u) b=false
end
theorem sat_imp {M:KM} {a b:Tr} {w:M.W} :M.sat (.two ⟨7,0,0,0,0,0⟩ a b) w↔(M.sat a w->M.sat b w):=by simp [KM.sat]
theorem sat_and {M:KM} {a b:Tr} {w:M.W} :M.sat (.two ⟨5,0,0,0,0,0⟩ a b) w↔(M.sat a w/\M.sat b w):=by simp [KM.sat]
theorem sat_know {M:KM} {n:Nd} {a:Tr} {w:M.W}(h:n.op=9):M.sat (.one n a) w↔∀v,M.R n.i w v->M.sat a v:=by simp [KM.sat,h]
theorem sat_com {M:KM} {n:Nd} {a b:Tr} {w:M.W}(h:n.op=13):M.sat (.two n a b) w↔∀v,Rch (M.step n.g (M.sat a)) w v->M.sat b v:=by simp [KM.sat,h]
theorem sat_unf {M:KM} {i:Nat} {n:Nd} {a b:Tr} {w:M.W} :M.sat (unfT i n a b) w↔∀v,M.R (i:Int) w v->M.sat a v->M.sat b v/\M.sat (.two n a b) v:=by
 unfold unfT;rw [sat_know rfl];constructor
 ·intro h v hv ha;exact sat_and.1 (sat_imp.1 (h v hv) ha)
 intro h v hv;exact sat_imp.2 fun ha=>sat_and.2 (h v hv ha)
theorem com_unf {M:KM} {n:Nd} {a b:Tr} {w:M.W}(h:n.op=13):M.sat (.two n a b) w↔∀i:Nat,i < 4->gbit n.g i=true->M.sat (unfT i n a b) w:=by
 constructor
 ·intro hc i hi hb;rw [sat_unf];intro v hv ha;rw [sat_com h]at hc;refine⟨hc v (.one ⟨⟨i,hi,hb,hv⟩,ha⟩),?_⟩;rw [sat_com h];exact fun u hu=>hc u (.cons ⟨⟨i,hi,hb,hv⟩,ha⟩ hu)
 intro hu;rw [sat_com h];intro v hv;cases hv with
 |one hs =>
  obtain⟨⟨i,hi,hb,hr⟩,ha⟩:=hs;exact((sat_unf.1 (hu i hi hb)) v hr ha).1
 |cons hs hr =>
  obtain⟨⟨i,hi,hb,hr'⟩,ha⟩:=hs;exact((sat_com h).1 ((sat_unf.1 (hu i hi hb)) _ hr' ha).2) v hr
theorem ev_sat {M:KM} {B:List Tr} {w:M.W} {th:Tr->Bool}(hth:∀f∈B,th f=true↔M.sat f w):∀f,cov B f->lang f->(ev th f=true↔M.sat f w)
 |.leaf n,hc,_=>by
  by_cases h3:n.op=3
  ·have:=hth _ (hc h3);simp only [ev,h3,if_true];exact this
  simp only [ev,h3,if_false,KM.sat,beq_iff_eq,false_and,or_false]
 |.one n a,hc,hl=>by
  by_cases h9:n.op=9
  ·have hc':.one n a∈B:=by simpa [cov,h9]using hc
   have:=hth _ hc';rw [<-this];simp [ev,h9]
  have h4:n.op=4:=hl.1.resolve_right h9;have hc':cov B a:=by simpa [cov,h4]using hc
  have:=ev_sat hth a hc' hl.2;simp only [ev,KM.sat,h4,if_true,Bool.not_eq_true'];rw [<-this];simp
 |.two n a b,hc,hl=>by
  by_cases h13:n.op=13
  ·have hc':.two n a b∈B:=by simpa [cov,h13]using hc
   have:=hth _ hc';rw [<-this];simp [ev,h13]
  have hc':cov B a/\cov B b:=by simpa [cov,h13]using hc
  have ha:=ev_sat hth a hc'.1 hl.2.1;have hb:=ev_sat hth b hc'.2 hl.2.2;have ho:n.op=5\/n.op=6\/n.op=7\/n.op=8:=by
   have:=hl.1.resolve_right h13;omega
  rcases ho with ho|ho|ho|ho
  ·simp [ev,KM.sat,ho,ha,hb]
  ·simp [ev,KM.sat,ho,ha,hb]
  ·simp only [ev,KM.sat,ho];simp only [show ¬(7:Int)=5 by decide,show ¬(7:Int)=6 by decide,if_false,if_true,Bool.or_eq_true,Bool.not_eq_true'];rw [<-ha,<-hb];cases ev th a <;> cases ev th b <;> simp
  simp only [ev,KM.sat,ho];simp only [show ¬(8:Int)=5 by decide,show ¬(8:Int)=6 by decide,show ¬(8:Int)=7 by decide,if_false,if_true,beq_iff_eq];rw [<-ha,<-hb];cases ev th a <;> cases ev th b <;> simp
open Classical in
noncomputable def thW (M:KM) (w:M.W) (f:Tr):Bool:=decide (M.sat f w)
theorem thW_iff {M:KM} {w:M.W} {f:Tr} :thW M w f=true↔M.sat f w:=by simp [thW]
section
variable {lg:Int} {B:List Tr} {M:KM}
theorem evW(w:M.W) {f:Tr}(hc:cov B f)(hl:lang f):ev (thW M w) f=true↔M.sat f w:=ev_sat (B:=B) (fun _ _=>thW_iff) f hc hl
theorem world_coh(hB:Closed B)(hM:M.In lg)(w:M.W):Coh lg B (thW M w) where
 com n a b h:=by
  rw [thW_iff,com_unf (hB.com n a b h).1];exact⟨fun k i hi hb=>thW_iff.2 (k i hi hb),fun k i hi hb=>thW_iff.1 (k i hi hb)⟩
 know hl n a h ht:=by
  obtain⟨h9,hc,hla,_⟩:=hB.know n a h;rw [evW w hc hla];exact(sat_know h9).1 (thW_iff.1 ht) w ((hM n.i).refl hl w)
theorem cond_of {lg:Int} {here hold there:Bool}(h1:here=true->hold=true)(h2:3<=lg/\lg<=6->here=true->there=true)(h3:lg=5\/lg=6->there=true->here=true)(hlg:lg<=6):condL lg here hold there=true:=by
 unfold condL;by_cases a:lg<=2
 ·rw [if_pos a];cases here <;> simp_all
 rw [if_neg a];have h2:=h2 ⟨by omega,hlg⟩;by_cases b:lg=3
 ·rw [if_pos b];cases here <;> simp_all
 rw [if_neg b];by_cases c:lg=4
 ·rw [if_pos c];cases here <;> simp_all
 rw [if_neg c];have h3:=h3 (by omega);by_cases d:lg=6
 ·rw [if_pos d];cases here <;> cases there <;> simp_all
 rw [if_neg d];cases here <;> cases there <;> simp_all
theorem world_poss(hB:Closed B)(hM:M.In lg)(hlg:lg<=6) {i:Int} {w v:M.W}(hr:M.R i w v):Poss lg B i (thW M w) (thW M v):=by
 intro n a h hi;subst hi;obtain⟨h9,hc,hla,_⟩:=hB.know n a h;refine cond_of (fun e=> ?_) (fun hl e=> ?_) (fun hl e=> ?_) hlg
 ·rw [evW v hc hla];exact(sat_know h9).1 (thW_iff.1 e) v hr
 ·rw [thW_iff,sat_know h9];exact fun u hu=>(sat_know h9).1 (thW_iff.1 e) u ((hM n.i).trans hl w v u hr hu)
 rw [thW_iff,sat_know h9];exact fun u hu=>(sat_know h9).1 (thW_iff.1 e) u ((hM n.i).eucl hl w v u hr hu)
theorem world_full(hB:Closed B)(hM:M.In lg)(hlg:lg<=6):Full lg B (fun _:M.W=>True) (thW M) where
 coh w _:=world_coh hB hM w
 ser hl w _ i _:=by
  obtain⟨v,hv⟩:=(hM i).ser hl w;exact⟨v,trivial,world_poss hB hM hlg hv⟩
 know w _ n a h hf:=by
  obtain⟨h9,hc,hla,_⟩:=hB.know n a h;have hn:¬M.sat (.one n a) w:=fun hs=>by rw [thW_iff.2 hs]at hf;cases hf
  rw [sat_know h9]at hn;obtain⟨v,hv⟩:=Classical.not_forall.1 hn;obtain⟨hr,ha⟩:=Classical.not_imp.1 hv;refine⟨v,trivial,?_,world_poss hB hM hlg hr⟩;cases e:ev (thW M v) a
  ·rfl
  exact absurd ((evW v hc hla).1 e) ha
 com w _ n a b h hf:=by
  obtain⟨h13,hca,hcb,hla,hlb,_⟩:=hB.com n a b h;have hn:¬M.sat (.two n a b) w:=fun hs=>by rw [thW_iff.2 hs]at hf;cases hf
  rw [sat_com h13]at hn;obtain⟨v,hv⟩:=Classical.not_forall.1 hn;obtain⟨hr,hb⟩:=Classical.not_imp.1 hv;refine⟨v,hr.mono fun x y hxy=> ?_,?_⟩
  ·obtain⟨⟨i,hi,hg,hR⟩,ha⟩:=hxy;exact⟨trivial,(evW y hca hla).2 ha,i,hi,hg,world_poss hB hM hlg hR⟩
  cases e:ev (thW M v) b
  ·rfl
  exact absurd ((evW v hcb hlb).1 e) hb
end
section
variable {T:Type} (lg:Int) (B:List Tr) (S:T->Prop) (th:T->Tr->Bool)
def modT:KM:=⟨{t:T // S t},fun i t u=>Poss lg B i (th t.1) (th u.1),fun p t=>th t.1 (.leaf ⟨3,p,0,0,0,0⟩)=true⟩
end
section
variable {T:Type} {lg:Int} {B:List Tr} {S:T->Prop} {th:T->Tr->Bool}
theorem cond_hold {lg:Int} {here hold there:Bool}(h:condL lg here hold there=true)(hh:here=true)(hr:refl3 lg->there=true->hold=true):hold=true:=by
 subst hh;unfold condL at h;by_cases a:lg<=2
 ·rw [if_pos a]at h;simpa using h
 rw [if_neg a]at h;by_cases b:lg=3
 ·rw [if_pos b]at h;simp at h;exact h.1
 rw [if_neg b]at h;by_cases c:lg=4
 ·rw [if_pos c]at h;simp at h;exact hr (.inr (.inl c)) h
 rw [if_neg c]at h;by_cases d:lg=6
 ·rw [if_pos d]at h;simp at h;exact hr (.inr (.inr d)) h
 rw [if_neg d]at h;simp at h;exact h.2
theorem cond_there {lg:Int} {here hold there:Bool}(h:condL lg here hold there=true)(hl:3<=lg)(hh:here=true):there=true:=by
 subst hh;unfold condL at h;rw [if_neg (by omega)]at h;by_cases b:lg=3
 ·rw [if_pos b]at h;simp at h;exact h.2
 rw [if_neg b]at h;by_cases c:lg=4
 ·rw [if_pos c]at h;simp at h;exact h
 rw [if_neg c]at h;by_cases d:lg=6
 ·rw [if_pos d]at h;simp at h;exact h
 rw [if_neg d]at h;simp at h;exact h.1
theorem cond_here {lg:Int} {here hold there:Bool}(h:condL lg here hold there=true)(hl:5<=lg)(ht:there=true):here=true:=by
 subst ht;unfold condL at h;rw [if_neg (by omega),if_neg (by omega),if_neg (by omega)]at h;by_cases d:lg=6
 ·rw [if_pos d]at h;simpa using h
 rw [if_neg d]at h;simp at h;exact h.1
theorem poss_hold(hF:Full lg B S th) {i:Int} {t u:T}(hu:S u)(hp:Poss lg B i (th t) (th u)) {n:Nd} {a:Tr}(h:.one n a∈B)(hi:n.i=i)(ht:th t (.one n a)=true):ev (th u) a=true :=
 cond_hold (hp n a h hi) ht (fun hr e=>(hF.coh u hu).know hr n a h e)
theorem modT_in(hF:Full lg B S th)(hlg:lg<=6):(modT lg B S th).In lg:=fun i=> {
 ser:=fun hl w=>by
  by_cases ho:∃n a,Tr.one n a∈B/\n.i=i
  ·obtain⟨u,hu,hp⟩:=hF.ser hl w.1 w.2 i ho;exact⟨⟨u,hu⟩,hp⟩
  exact⟨w,fun n a h hi=>absurd ⟨n,a,h,hi⟩ ho⟩
 refl:=fun hl w n a h hi=>cond_of (fun e=>(hF.coh w.1 w.2).know hl n a h e) (fun _ e=>e) (fun _ e=>e) hlg
 trans:=fun hl u v w huv hvw n a h hi=>by
  have h1:=huv n a h hi;have h2:=hvw n a h hi;exact cond_of (fun e=>poss_hold hF w.2 hvw h hi (cond_there h1 hl.1 e)) (fun _ e=>cond_there h2 hl.1 (cond_there h1 hl.1 e)) (fun k e=>cond_here h1 (by omega) (cond_here h2 (by omega) e)) hlg
 eucl:=fun hl u v w huv huw n a h hi=>by
  have h1:=huv n a h hi;have h2:=huw n a h hi;exact cond_of (fun e=>poss_hold hF w.2 huw h hi (cond_here h1 (by omega) e)) (fun _ e=>cond_there h2 (by omega) (cond_here h1 (by omega) e)) (fun k e=>cond_there h1 (by omega) (cond_here h2 (by omega) e)) hlg }
def factOk:Tr->Prop
 |.leaf n=>n.op=3->n=⟨3,n.i,0,0,0,0⟩
 |.one _ a=>factOk a
 |.two _ a b=>factOk a/\factOk b
theorem truth(hB:Closed B)(hF:Full lg B S th):∀f,cov B f->lang f->factOk f->∀t:(modT lg B S th).W,(ev (th t.1) f=true↔(modT lg B S th).sat f t)
 |.leaf n,_,_,hk,t=>by
  by_cases h3:n.op=3
  ·have e:=hk h3;simp only [ev,h3,if_true,KM.sat,modT,true_and,show ¬(3:Int)=1 by decide,false_or];rw [<-e]
  simp only [ev,h3,if_false,KM.sat,beq_iff_eq,false_and,or_false]
 |.one n a,hc,hl,hk,t=>by
  by_cases h9:n.op=9
  ·have hm:.one n a∈B:=by simpa [cov,h9]using hc
   obtain⟨_,hca,hla,_⟩:=hB.know n a hm;have ih:=truth hB hF a hca hla hk;rw [sat_know h9];have e:ev (th t.1) (.one n a)=th t.1 (.one n a):=by simp [ev,h9]
   rw [e];constructor
   ·intro ht v hr;rw [<-ih v];exact poss_hold hF v.2 hr hm rfl ht
   intro hs;cases ht:th t.1 (.one n a)
   ·obtain⟨u,hu,he,hp⟩:=hF.know t.1 t.2 n a hm ht;have:=(ih ⟨u,hu⟩).2 (hs ⟨u,hu⟩ hp);rw [he]at this;cases this
   rfl
  have h4:n.op=4:=hl.1.resolve_right h9;have hca:cov B a:=by simpa [cov,h4]using hc
  have ih:=truth hB hF a hca hl.2 hk t;simp only [ev,KM.sat,h4,if_true,Bool.not_eq_true'];rw [<-ih];simp
 |.two n a b,hc,hl,hk,t=>by
  by_cases h13:n.op=13
  ·have hm:.two n a b∈B:=by simpa [cov,h13]using hc
   obtain⟨_,hca,hcb,hla,hlb,hun⟩:=hB.com n a b hm;have iha:=truth hB hF a hca hla hk.1;have ihb:=truth hB hF b hcb hlb hk.2;rw [sat_com h13];have e:ev (th t.1) (.two n a b)=th t.1 (.two n a b):=by simp [ev,h13]
   rw [e];constructor
   ·intro ht v hr;have key:∀(s v:(modT lg B S th).W),Rch ((modT lg B S th).step n.g ((modT lg B S th).sat a)) s v->th s.1 (.two n a b)=true->ev (th v.1) b=true:=by
     intro s v hr;have hstep:∀s v:(modT lg B S th).W,(modT lg B S th).step n.g ((modT lg B S th).sat a) s v->th s.1 (.two n a b)=true->ev (th v.1) b=true/\th v.1 (.two n a b)=true:=by
      rintro s v ⟨⟨i,hi,hg,hp⟩,ha⟩ hs;have hsu:=((hF.coh s.1 s.2).com n a b hm).1 hs i hi hg;have hev:=poss_hold hF v.2 hp (hun i hi hg) rfl hsu;have hx:=(iha v).2 ha;simp only [ev,show ¬(7:Int)=5 by decide,show ¬(7:Int)=6 by decide,if_false,if_true,hx,Bool.not_true,Bool.false_or,Bool.and_eq_true,h13,show ¬(13:Int)=5 by decide,show ¬(13:Int)=6 by decide,show ¬(13:Int)=7 by decide,show ¬(13:Int)=8 by decide]at hev;exact hev
     induction hr with
     |one h=>intro hs;exact(hstep _ _ h hs).1
     |cons h _ ih=>intro hs;exact ih (hstep _ _ h hs).2
    rw [<-ihb v];exact key t v hr ht
   intro hs;cases ht:th t.1 (.two n a b)
   ·obtain⟨u,hp,he⟩:=hF.com t.1 t.2 n a b hm ht;have lift:∀(s u:T) (hs:S s),Rch (stepT lg B S th n.g a) s u->∃hu:S u,Rch ((modT lg B S th).step n.g ((modT lg B S th).sat a)) ⟨s,hs⟩ ⟨u,hu⟩:=by
     intro s u hs hr
     induction hr with
     |one h =>
      obtain⟨hu,hx,i,hi,hg,hp⟩:=h;exact⟨hu,.one (b:=(⟨_,hu⟩:(modT lg B S th).W)) ⟨⟨i,hi,hg,hp⟩,(iha ⟨_,hu⟩).1 hx⟩⟩
     |cons h _ ih =>
      obtain⟨hu,hx,i,hi,hg,hp⟩:=h;obtain⟨hu2,h2⟩:=ih hu;exact⟨hu2,.cons (b:=(⟨_,hu⟩:(modT lg B S th).W)) ⟨⟨i,hi,hg,hp⟩,(iha ⟨_,hu⟩).1 hx⟩ h2⟩
    obtain⟨hu,hr⟩:=lift t.1 u t.2 hp;have:=(ihb ⟨u,hu⟩).2 (hs ⟨u,hu⟩ hr);rw [he]at this;cases this
   rfl
  have hc':cov B a/\cov B b:=by simpa [cov,h13]using hc
  have ha:=truth hB hF a hc'.1 hl.2.1 hk.1 t;have hb:=truth hB hF b hc'.2 hl.2.2 hk.2 t;have ho:n.op=5\/n.op=6\/n.op=7\/n.op=8:=by
   have:=hl.1.resolve_right h13;omega
  rcases ho with ho|ho|ho|ho
  ·simp [ev,KM.sat,ho,ha,hb]
  ·simp [ev,KM.sat,ho,ha,hb]
  ·simp only [ev,KM.sat,ho];simp only [show ¬(7:Int)=5 by decide,show ¬(7:Int)=6 by decide,if_false,if_true,Bool.or_eq_true,Bool.not_eq_true'];rw [<-ha,<-hb];cases ev (th t.1) a <;> cases ev (th t.1) b <;> simp
  simp only [ev,KM.sat,ho];simp only [show ¬(8:Int)=5 by decide,show ¬(8:Int)=6 by decide,show ¬(8:Int)=7 by decide,if_false,if_true,beq_iff_eq];rw [<-ha,<-hb];cases ev (th t.1) a <;> cases ev (th t.1) b <;> simp
end
def posS(x:Nd)(p:Bool->Int->List Nd):List Nd :=
 bif x.op==4 then p true x.x
 else bif x.op==7 then orN (p true x.x) (p false x.y)
 else bif x.op==8 then andN (orN (p true x.x) (p false x.y)) (orN (p false x.x) (p true x.y))
 else bif x.op==2 then falseN
 else bif x.op==3 then factN x.i
 else bif x.op==5 then andN (p false x.x) (p false x.y)
 else bif x.op==6 then orN (p false x.x) (p false x.y)
 else bif x.op==9 then knowN x.i (p false x.x)
 else bif x.op==10 then possN x.i (p false x.x)
 else trueN
def negS(x:Nd)(p:Bool->Int->List Nd):List Nd :=
 bif x.op==1 then falseN
 else bif x.op==2 then trueN
 else bif x.op==4 then p false x.x
 else bif x.op==5 then orN (p true x.x) (p true x.y)
 else bif x.op==6 then andN (p true x.x) (p true x.y)
 else bif x.op==7 then andN (p false x.x) (p true x.y)
 else bif x.op==8 then orN (andN (p false x.x) (p true x.y)) (andN (p true x.x) (p false x.y))
 else bif x.op==9 then possN x.i (p true x.x)
 else bif x.op==10 then knowN x.i (p true x.x)
 else notN (posS x p)
def nnfF(c:List Nd):Nat->Bool->Nat->List Nd
 |0,_,_=> []
 |k+1,no,i=>bif no then negS (c.getD i Nd.zero) (fun b j=>nnfF c k b j.toNat)else posS (c.getD i Nd.zero) (fun b j=>nnfF c k b j.toNat)
def nnfN(c:List Nd)(no:Bool)(i:Nat):List Nd:=nnfF c (i+1) no i
def Few10(c:List Nd):Prop:=∀n∈c,1<=n.op/\n.op<=10
def nnfAll(f:List Nd):List Nd:=bif check f !=0 then []else nnfN (compactN f) false ((compactN f).length - 1)
def nnfErr(f:List Nd):Int:=bif check f !=0 then check f else bif decide ((nnfAll f).length=0)then 8 else 0
def oppN(f:List Nd):List Nd:=nnfAll (notN f)
structure Stp where
 set:Nat
 rule:Int
 on:Int
 e:Int
 from_:List Int
def Stp.zero:Stp:=⟨0,0,0,0,[]⟩
def normalN(base:List Nd)(n:Nd):Bool :=
 bif n.op==4 then(base.getD n.x.toNat Nd.zero).op==3 else n.op==1||(n.op==2||(n.op==3||(n.op==5||(n.op==6||(n.op==9||n.op==10)))))
def baseErr(base:List Nd):Int :=
 bif check base !=0 then check base else bif decide (64 < base.length)then 8 else bif base.all (normalN base)then 0 else 10
def inS(set:Nat)(node:Int):Bool:=decide (0<=node)&&(decide (node < 64)&&set.testBit node.toNat)
def subS(a b:Nat):Bool:=(a&&&b)==a
def insideS(base:List Nd)(set:Nat):Bool:=decide (set < 2^base.length)
def formulasN(base:List Nd):List (List Nd):=(List.range base.length).map fun(i:Nat)=>subN base i
def placeN(l:List (List Nd))(g:List Nd):Int:=match l.findIdx? (fun f=>decide (f=g))with|none=> -1|some j=>j
def negationN(base:List Nd)(node:Int):Int:=placeN (formulasN base) (oppN (subN base node))
def NegationN(base:List Nd)(node:Int):Int:=bif baseErr base !=0||(decide (node < 0)||decide ((base.length:Int)<=node))then -1 else negationN base node
def oppsN(base:List Nd):List Int:=(formulasN base).map fun f=>placeN (formulasN base) (oppN f)
def transN(lg:Int):Bool:=lg==3||(lg==4||(lg==5||lg==6))
def euclN(lg:Int):Bool:=lg==5||lg==6
def carry1(lg:Int)(set:Nat)(agent:Int)(i:Nat)(n:Nd)(out:Nat):Nat :=
 bif !inS set i||n.i !=agent then out
 else bif n.op==9&&transN lg then out|||(2^n.x.toNat|||2^i)
 else bif n.op==9 then out|||2^n.x.toNat
 else bif n.op==10&&euclN lg then out|||2^i
 else out
def carryGo(lg:Int)(set:Nat)(agent:Int):List Nd->Nat->Nat->Nat
 |[],_,out=>out
 |n :: r,i,out=>carryGo lg set agent r (i+1) (carry1 lg set agent i n out)
def carryN(lg:Int)(base:List Nd)(set:Nat)(agent:Int):Nat:=carryGo lg set agent base 0 0
def knownN(lg:Int):Bool:=decide (0<=lg)&&decide (lg<=6)
def CarryN(lg:Int)(base:List Nd)(set:Nat)(agent:Int):Nat :=
 bif !knownN lg||(baseErr base !=0||(!insideS base set||(decide (agent < 0)||decide (4<=agent))))then 0 else carryN lg base set agent
def opposedN(opps:List Int)(node other:Int):Bool:=decide (0<=node)&&(decide (node < opps.length)&&(decide (0<=other)&&opps.getD node.toNat 0==other))
def onN(base:List Nd)(x:Stp)(op:Int):Bool:= !(decide ((base.length:Int)<=x.on)||(!inS x.set x.on||(base.getD x.on.toNat Nd.zero).op !=op))
def nodeOn(base:List Nd)(x:Stp):Nd:=base.getD x.on.toNat Nd.zero
def premGo(steps:List Stp)(at_:Nat):List Int->List Nat->Bool
 |[],[]=>true
 |j :: r,s :: t=>bif decide (j < 0)||(decide ((at_:Int)<=j)|| !subS (steps.getD j.toNat Stp.zero).set s)then false else premGo steps at_ r t
 |_,_=>false
def premN(steps:List Stp)(at_:Nat)(sets:List Nat):Bool:=(steps.getD at_ Stp.zero).from_.length==sets.length&&premGo steps at_ (steps.getD at_ Stp.zero).from_ sets
def closedN(base:List Nd)(opps:List Int)(steps:List Stp)(at_:Nat):Bool :=
 let x:=steps.getD at_ Stp.zero
 bif onN base x 2&&x.e==0 then premN steps at_ []
 else inS x.set x.on&&(inS x.set x.e&&(opposedN opps x.on x.e&&premN steps at_ []))
def correctN(lg:Int)(base:List Nd)(opps:List Int)(steps:List Stp)(at_:Nat):Bool :=
 let x:=steps.getD at_ Stp.zero
 let n:=nodeOn base x
 bif !insideS base x.set then false
 else bif x.rule==1 then closedN base opps steps at_
 else bif x.rule==4 then decide (0<=x.e)&&(opposedN opps x.on x.e&&premN steps at_ [x.set|||2^x.on.toNat,x.set|||2^x.e.toNat])
 else bif x.e !=0 then false
 else bif x.rule==2 then onN base x 5&&premN steps at_ [x.set|||2^n.x.toNat|||2^n.y.toNat]
 else bif x.rule==3 then onN base x 6&&premN steps at_ [x.set|||2^n.x.toNat,x.set|||2^n.y.toNat]
 else bif x.rule==5 then onN base x 9&&((lg==2||(lg==4||lg==6))&&premN steps at_ [x.set|||2^n.x.toNat])
 else bif x.rule==6 then onN base x 10&&premN steps at_ [2^n.x.toNat|||carryN lg base x.set n.i]
 else bif x.rule==7 then(lg==1||lg==5)&&(decide (0<=x.on)&&(decide (x.on < 4)&&premN steps at_ [carryN lg base x.set x.on]))
 else false
def formS(lg:Int)(base:List Nd)(steps:List Stp):Int :=
 bif !knownN lg then 2 else bif baseErr base !=0 then baseErr base else bif decide (steps.length=0)||decide (4096 < steps.length)then 3 else 0
def brokenGo(lg:Int)(base:List Nd)(opps:List Int)(steps:List Stp):Nat->Nat->Int
 |0,_=> -1
 |k+1,i=>bif correctN lg base opps steps i then brokenGo lg base opps steps k (i+1)else i
def brokenS(lg:Int)(base:List Nd)(steps:List Stp):Int :=
 bif formS lg base steps !=0 then -1 else brokenGo lg base (oppsN base) steps steps.length 0
def checkS(lg:Int)(base:List Nd)(steps:List Stp):Int :=
 bif formS lg base steps !=0 then formS lg base steps else bif decide (0<=brokenS lg base steps)then 13 else 0
def refutedS(lg:Int)(base:List Nd)(steps:List Stp):List (List Nd)×Int :=
 bif checkS lg base steps !=0 then([],checkS lg base steps)
 else(((List.range base.length).filter fun(i:Nat)=>inS (steps.getLastD Stp.zero).set i).map fun(i:Nat)=>subN base i,0)
def provesS(lg:Int)(base:List Nd)(steps:List Stp)(f:List Nd):Int :=
 bif (refutedS lg base steps).2 !=0 then(refutedS lg base steps).2
 else bif check f !=0 then check f
 else bif decide (2<=fragsN f)then 10
 else bif !decide ((refutedS lg base steps).1= [oppN f])then 13 else 0
def everyL(g:Int)(a:List Nd):List (List Nd):=((List.range 4).filter fun i=>gbit g i).map fun(i:Nat)=>knowN (i:Int) a
def conjN(e:List Nd):List (List Nd)->List Nd
 |[]=>e
 |f :: r=>r.foldl andN (compactN f)
def allN(l:List (List Nd)):List Nd:=conjN trueN l
def expS(x:Nd)(a b:List Nd):List Nd :=
 bif x.op==1 then trueN else bif x.op==2 then falseN else bif x.op==3 then factN x.i else bif x.op==4 then notN a
 else bif x.op==9 then knowN x.i a else bif x.op==10 then notN (knowN x.i (notN a))
 else bif x.op==11 then allN (everyL x.g a)
 else bif x.op==5 then andN a b else bif x.op==6 then orN a b else bif x.op==7 then impN a b else bif x.op==8 then iffN a b else commonN x.g a b
def expGo:List Nd->List (List Nd)->Option (List (List Nd))
 |[],d=>some d
 |x :: r,d=>bif decide ((expS x (d.getD x.x.toNat []) (d.getD x.y.toNat [])).length=0)then none else expGo r (d++ [expS x (d.getD x.x.toNat []) (d.getD x.y.toNat [])])
def expandN(f:List Nd):List Nd:=match expGo (compactN f) []with|none=> []|some d=>d.getLastD []
def isBase(n:Nd):Bool:=n.op==3||(n.op==9||n.op==13)
def unfN(i:Nat)(c:List Nd):List Nd:=knowN (i:Int) (impN (subN c (lastN c).x) (andN (subN c (lastN c).y) c))
def subsN(f:List Nd):List (List Nd):=formulasN (compactN f)
def base0(g:List Nd):List (List Nd):=(subsN g).filter fun s=>isBase (lastN s)
def unfsN(c:List Nd):List (List Nd):=bif (lastN c).op==13 then((List.range 4).filter fun i=>gbit (lastN c).g i).map fun i=>unfN i c else []
def addF(l:List (List Nd))(g:List Nd):List (List Nd):=bif decide (placeN l g < 0)then l++ [g]else l
def baseOfN(g:List Nd):List (List Nd)×Int :=
 bif ((base0 g).flatMap unfsN).any (fun u=>decide (u.length=0))||decide (12 < (((base0 g).flatMap unfsN).foldl addF (base0 g)).length)then([],8)
 else(((base0 g).flatMap unfsN).foldl addF (base0 g),0)
def langBad(f:List Nd):Bool:=(fragsN f&&&500) !=0
def baseN(f:List Nd):List (List Nd)×Int :=
 bif check f !=0 then([],check f)else bif langBad f then([],10)else bif decide ((expandN f).length=0)then([],8)else baseOfN (expandN f)
def placesN(base:List (List Nd))(f:List Nd):List Int:=(List.range f.length).map fun(i:Nat)=>bif isBase (f.getD i Nd.zero)then placeN base (subN f (i:Int))else -1
def atStep(n:Nd)(k:Int)(t:Nat)(v:List Bool):Bool :=
 bif decide (0<=k)then t.testBit k.toNat
 else bif n.op==1 then true
 else bif n.op==4 then !v.getD n.x.toNat false
 else bif n.op==5 then v.getD n.x.toNat false&&v.getD n.y.toNat false
 else bif n.op==6 then v.getD n.x.toNat false||v.getD n.y.toNat false
 else bif n.op==7 then !v.getD n.x.toNat false||v.getD n.y.toNat false
 else bif n.op==8 then v.getD n.x.toNat false==v.getD n.y.toNat false
 else false
def atGo(t:Nat):List Nd->List Int->List Bool->List Bool
 |n :: r,k :: s,v=>atGo t r s (v++ [atStep n k t v])
 |_,_,v=>v
def atN(f:List Nd)(ps:List Int)(t:Nat):Bool:=(atGo t f ps []).getLastD false
def tabN(base:List (List Nd))(f:List Nd):List Bool:=(List.range (2^base.length)).map fun t=>atN f (placesN base f) t
structure Kn where
 agent:Int
 place:Nat
 holds:List Bool
structure Cm where
 place:Nat
 group:Int
 x:List Bool
 y:List Bool
 parts:Nat
def partsN(base:List (List Nd))(g:List Nd):Nat:=((List.range 4).filter fun i=>gbit (lastN g).g i).foldl (fun p i=>p|||2^(placeN base (unfN i g)).toNat) 0
def knOf(base:List (List Nd))(g:List Nd)(i:Nat):List Kn:=bif (lastN g).op==9 then [⟨(lastN g).i,i,tabN base (subN g (lastN g).x)⟩]else []
def cmOf(base:List (List Nd))(g:List Nd)(i:Nat):List Cm:=bif (lastN g).op==13 then [⟨i,(lastN g).g,tabN base (subN g (lastN g).x),tabN base (subN g (lastN g).y),partsN base g⟩]else []
def knowsN(base:List (List Nd)):List Kn:=(List.range base.length).flatMap fun i=>knOf base (base.getD i []) i
def commsN(base:List (List Nd)):List Cm:=(List.range base.length).flatMap fun i=>cmOf base (base.getD i []) i
def reflN(lg:Int):Bool:=lg==2||(lg==4||lg==6)
def coherentN(lg:Int)(ks:List Kn)(cs:List Cm)(t:Nat):Bool :=
 cs.all (fun c=>t.testBit c.place==((t&&&c.parts)==c.parts))&&ks.all (fun k=> !(reflN lg&&(t.testBit k.place&& !k.holds.getD t false)))
def possibleN(lg:Int)(ks:List Kn)(a:Int)(t u:Nat):Bool:=ks.all fun k=>k.agent !=a||condL lg (t.testBit k.place) (k.holds.getD u false) (u.testBit k.place)
def nextP(lg:Int)(ks:List Kn)(alive:List Bool)(a:Int)(t:Nat)(wanted:Nat->Bool)(u:Nat):Bool:=alive.getD u false&&(wanted u&&possibleN lg ks a t u)
def nextN(lg:Int)(ks:List Kn)(alive:List Bool)(a:Int)(t:Nat)(wanted:Nat->Bool):Int:=match (List.range alive.length).find? (nextP lg ks alive a t wanted)with|none=> -1|some u=>u
def stepB(lg:Int)(ks:List Kn)(alive:List Bool)(c:Cm)(t u:Nat):Bool:=alive.getD u false&&(c.x.getD u false&&(List.range 4).any fun(a:Nat)=>gbit c.group a&&possibleN lg ks (a:Int) t u)
open Classical in
noncomputable def pathN (lg:Int) (ks:List Kn) (alive:List Bool) (c:Cm) (t:Nat):Bool:=decide (∃u,Rch (fun a b=>stepB lg ks alive c a b=true) t u/\c.y.getD u false=false)
noncomputable def lacksN (lg:Int) (ks:List Kn) (cs:List Cm) (alive:List Bool) (t:Nat) (num:Int):Bool :=
 bif decide (num < 0)then(lg==1||lg==5)&&(ks.any (fun k=>k.agent== -1 - num)&&decide (nextN lg ks alive (-1 - num) t (fun _=>true) < 0))
 else match ks.find? (fun k=>(k.place:Int)==num)with
  |some k=> !t.testBit num.toNat&&decide (nextN lg ks alive k.agent t (fun u=> !k.holds.getD u false) < 0)
  |none=>match cs.find? (fun c=>(c.place:Int)==num)with
   |some c=> !t.testBit num.toNat&& !pathN lg ks alive c t
   |none=>false
def satisfiedN(alive root:List Bool):Bool:=(List.range alive.length).any fun t=>alive.getD t false&&root.getD t false
noncomputable def whyN (lg:Int) (ks:List Kn) (cs:List Cm) (m:Nat) (alive:List Bool) (t:Nat):Option Int :=
 ((List.range (m+4)).map fun(j:Nat)=>(j:Int) - 4).find? fun i=>lacksN lg ks cs alive t i
def passG(why:List Bool->Nat->Option Int):List Nat->List Bool×List (Nat×Int)->List Bool×List (Nat×Int)
 |[],s=>s
 |t :: r,s=>passG why r (bif s.1.getD t false then(match why s.1 t with|none=>s|some i=>(s.1.set t false,s.2++ [(t,i)]))else s)
def elimG(why:List Bool->Nat->Option Int):Nat->List Bool×List (Nat×Int)->List Bool×List (Nat×Int)
 |0,s=>s
 |k+1,s=>bif (passG why (List.range s.1.length) s).2.length==s.2.length then s else elimG why k (passG why (List.range s.1.length) s)
noncomputable def elimN (lg:Int) (ks:List Kn) (cs:List Cm) (m:Nat) (alive:List Bool):List Bool×List (Nat×Int):=elimG (whyN lg ks cs m) (alive.length+1) (alive,[])
def aliveN(lg:Int)(base:List (List Nd)):List Bool:=(List.range (2^base.length)).map fun t=>coherentN lg (knowsN base) (commsN base) t
def engErr(lg:Int)(f:List Nd):Int:=bif decide (lg < 0)||decide (6 < lg)then 1 else(baseN f).2
noncomputable def endN (lg:Int) (f:List Nd):List Bool×List (Nat×Int):=elimN lg (knowsN (baseN f).1) (commsN (baseN f).1) (baseN f).1.length (aliveN lg (baseN f).1)
def rootN(f:List Nd):List Bool:=tabN (baseN f).1 (expandN f)
noncomputable def leftN (lg:Int) (f:List Nd):Bool:=satisfiedN (endN lg f).1 (rootN f)
noncomputable def refErr (lg:Int) (f:List Nd):Int:=bif engErr lg f !=0 then engErr lg f else bif leftN lg f then 15 else 0
noncomputable def satN (lg:Int) (f:List Nd):Bool×Int:=bif engErr lg f !=0 then(false,engErr lg f)else(leftN lg f,0)
def checkG(lk:List Bool->Nat->Int->Bool):List Nat->List Int->List Bool->Option (List Bool)
 |t :: r,i :: s,al=>bif decide (t < al.length)&&(al.getD t false&&lk al t i)then checkG lk r s (al.set t false)else none
 |_,_,al=>some al
noncomputable def checkT (lg:Int) (f:List Nd) (ts:List Nat) (ws:List Int):Int :=
 bif engErr lg f !=0 then engErr lg f else bif ts.length !=ws.length then 3
 else match checkG (lacksN lg (knowsN (baseN f).1) (commsN (baseN f).1)) ts ws (aliveN lg (baseN f).1)with
  |none=>13
  |some al=>bif satisfiedN al (rootN f)then 13 else 0
def Tr.all(P:Nd->Prop):Tr->Prop
 |.leaf n=>P n
 |.one n a=>P n/\a.all P
 |.two n a b=>P n/\a.all P/\b.all P
theorem ins_all {P:Nd->Prop}(hP:∀n k1 k2,P n->P (n.with_ k1 k2)):∀(t:Tr) (o:List Nd),t.all P->(∀n∈o,P n)->∀n∈(ins t o).1,P n
 |.leaf n,o,ht,ho,m,hm=>by
  change m∈addN o n at hm;unfold addN at hm
  split at hm
  ·exact ho m hm
  rcases List.mem_append.1 hm with h|h
  ·exact ho m h
  simp at h;subst h;exact ht
 |.one n a,o,ht,ho,m,hm=>by
  change m∈addN (ins a o).1 _ at hm;have ha:=ins_all hP a o ht.2 ho;unfold addN at hm
  split at hm
  ·exact ha m hm
  rcases List.mem_append.1 hm with h|h
  ·exact ha m h
  simp at h;subst h;exact hP _ _ _ ht.1
 |.two n a b,o,ht,ho,m,hm=>by
  change m∈addN (ins b (ins a o).1).1 _ at hm;have ha:=ins_all hP b _ ht.2.2 (ins_all hP a o ht.2.1 ho);unfold addN at hm
  split at hm
  ·exact ha m hm
  rcases List.mem_append.1 hm with h|h
  ·exact ha m h
  simp at h;subst h;exact hP _ _ _ ht.1
theorem tr_all {P:Nd->Prop}(hP:∀n k1 k2,P n->P (n.with_ k1 k2)) {f:List Nd}(hf:Wf f)(hn:∀n∈f,P n):∀i,i < f.length->(tr f i).all P:=by
 intro i
 induction i using Nat.strongRecOn with
 |_ i ih =>
  intro hi;obtain⟨n,hi'⟩:∃n,f[i]?=some n:=⟨_,Qv hi⟩;obtain⟨hx,hy⟩:=hf i n hi';have hp:=hn n (List.mem_of_getElem? hi');rw [tr_eq hf hi'];unfold mkTr;cases h2:hasY n.op
  ·cases h1:hasX n.op
   ·exact hp
   have:=hx h1;exact⟨hP _ _ _ hp,ih _ (by omega) (by omega)⟩
  have h1:=hasX_of_hasY h2;have:=hx h1;have:=hy h2;exact⟨hP _ _ _ hp,ih _ (by omega) (by omega),ih _ (by omega) (by omega)⟩
theorem ins_len {b:Tr}(hb:b.ok)(o:List Nd):(ins b o).1.length<=o.length+(canon b).length:=by
 have hw:=canon_wf hb;have hp:=canon_pos hb;have e:tr (canon b) ((canon b).length - 1)=b:=treeOf_canon hb;have h:=finN_ins hw ((canon b).length - 1) o (by omega);rw [e]at h;rw [<-h];have h1:=length_le_pot (canon b) (finN (canon b) ((canon b).length - 1) o).1;have h2:=pot_le hw ((canon b).length - 1) o (by omega);have h3:pot (canon b) o<=o.length+(canon b).length:=by
  unfold pot;have:=List.countP_le_length (p:=fun j=>(finN (canon b) j o).1.length !=o.length) (l:=List.range (canon b).length);rw [List.length_range]at this;omega
 omega
theorem part_len {t:Tr}(ht:t.ok) {k:Nat}(hk:k < (canon t).length):(canon (tr (canon t) k)).length<=(canon t).length:=by
 have hw:=canon_wf ht;have e:=finN_ins hw k [] hk;have h1:=length_le_pot (canon t) (finN (canon t) k []).1;have h2:=pot_le hw k [] hk;have h3:=pot_nil (canon t);have:canon (tr (canon t) k)=(finN (canon t) k []).1:=by rw [e];rfl
 rw [this];omega
theorem last_node {t:Tr}(ht:t.ok):∃n,(canon t)[(canon t).length - 1]?=some n/\t=mkTr n (tr (canon t) n.x.toNat) (tr (canon t) n.y.toNat)/\(hasX n.op=true->0<=n.x/\n.x < ((canon t).length - 1:Nat))/\(hasY n.op=true->0<=n.y/\n.y < ((canon t).length - 1:Nat)):=by
 have hw:=canon_wf ht;have hp:=canon_pos ht;obtain⟨n,hn⟩:∃n,(canon t)[(canon t).length - 1]?=some n:=⟨_,List.getElem?_eq_getElem (by omega)⟩;have h1:=tr_eq hw hn;have h2:tr (canon t) ((canon t).length - 1)=t:=treeOf_canon ht;rw [h2]at h1;exact⟨n,hn,h1,hw _ n hn⟩
theorem one_len {n:Nd} {a:Tr}(ht:(Tr.one n a).ok):(canon a).length<=(canon (.one n a)).length:=by
 obtain⟨m,_,h1,hx,_⟩:=last_node ht;have hp:=canon_pos ht;unfold mkTr at h1;cases h2:hasY m.op
 ·cases h3:hasX m.op
  ·rw [h2,h3]at h1;cases h1
  rw [h2,h3]at h1;injection h1 with _ h1;have:=hx h3;have e:=part_len ht (k:=m.x.toNat) (by omega);rw [<-h1]at e;exact e
 rw [h2]at h1;cases h1
theorem two_len {n:Nd} {a b:Tr}(ht:(Tr.two n a b).ok):(canon a).length<=(canon (.two n a b)).length/\(canon b).length<=(canon (.two n a b)).length:=by
 obtain⟨m,_,h1,hx,hy⟩:=last_node ht;have hp:=canon_pos ht;unfold mkTr at h1;cases h2:hasY m.op
 ·cases h3:hasX m.op
  ·rw [h2,h3]at h1;cases h1
  rw [h2,h3]at h1;cases h1
 rw [h2]at h1;injection h1 with _ h1 h3;have:=hx (hasX_of_hasY h2);have:=hy h2;refine⟨?_,?_⟩
 ·have e:=part_len ht (k:=m.x.toNat) (by omega);rw [<-h1]at e;exact e
 have e:=part_len ht (k:=m.y.toNat) (by omega);rw [<-h3]at e;exact e
theorem last_tree {f:List Nd}(h:check f=0):treeOf f=mkTr (lastN f) (tr f (lastN f).x.toNat) (tr f (lastN f).y.toNat):=
 tr_eq (check_wf h) (lastN_get (check_parts h).1)
theorem mk_one {m n:Nd} {a b c:Tr}(h:mkTr m a b=.one n c):hasX m.op=true/\m.op=n.op/\m.i=n.i/\a=c:=by
 unfold mkTr at h;cases h2:hasY m.op
 ·cases h1:hasX m.op
  ·rw [h2,h1]at h;cases h
  rw [h2,h1]at h;simp only [cond_false,cond_true,Tr.one.injEq]at h;exact⟨rfl,by rw [<-h.1];rfl,by rw [<-h.1];rfl,h.2⟩
 rw [h2]at h;cases h
theorem last_one {f:List Nd} {n:Nd} {c:Tr}(h:check f=0)(ht:treeOf f=.one n c):
 (lastN f).op=n.op/\(lastN f).i=n.i/\tr f (lastN f).x.toNat=c/\subN f (lastN f).x=canon c/\(lastN f).x.toNat < f.length:=by
 have e:=last_tree h;rw [ht]at e;obtain⟨h1,h2,h3,h4⟩:=mk_one e.symm;have hw:=(check_wf h _ _ (lastN_get (check_parts h).1)).1 h1;have hx:(lastN f).x.toNat < f.length:=by omega
 refine⟨h2,h3,h4,?_,hx⟩;have e2:=subN_tree h hx;rw [show(((lastN f).x.toNat:Nat):Int)=(lastN f).x by omega]at e2;rw [e2,h4]
theorem mk_two {m n:Nd} {a b c d:Tr}(h:mkTr m a b=.two n c d):hasY m.op=true/\m.head=n/\a=c/\b=d:=by
 unfold mkTr at h;cases h2:hasY m.op
 ·cases h1:hasX m.op
  ·rw [h2,h1]at h;cases h
  rw [h2,h1]at h;cases h
 rw [h2]at h;simp only [cond_true,Tr.two.injEq]at h;exact⟨rfl,h⟩
theorem last_two {f:List Nd} {n:Nd} {c d:Tr}(h:check f=0)(ht:treeOf f=.two n c d):
 (lastN f).op=n.op/\(lastN f).g=n.g/\subN f (lastN f).x=canon c/\subN f (lastN f).y=canon d:=by
 have e:=last_tree h;rw [ht]at e;obtain⟨h2,h3,h4,h5⟩:=mk_two e.symm;obtain⟨hx,hy⟩:=check_wf h _ _ (lastN_get (check_parts h).1);have hx:=hx (hasX_of_hasY h2);have hy:=hy h2;have e1:=subN_tree h (show(lastN f).x.toNat < f.length by omega);have e2:=subN_tree h (show(lastN f).y.toNat < f.length by omega);rw [show(((lastN f).x.toNat:Nat):Int)=(lastN f).x by omega,h4]at e1;rw [show(((lastN f).y.toNat:Nat):Int)=(lastN f).y by omega,h5]at e2;exact⟨by rw [<-h3];rfl,by rw [<-h3];rfl,e1,e2⟩
theorem last_op {f:List Nd}(h:check f=0):(lastN f).op=(treeOf f).top.op:=by
 rw [last_tree h];unfold mkTr;cases hasY (lastN f).op
 ·cases hasX (lastN f).op <;> rfl
 rfl
def Dst(o:List Nd):Prop:=∀i j,i < o.length->j < o.length->tr o i=tr o j->i=j
theorem mk_inj {m n:Nd} {a b c d:Tr}(h:mkTr m a b=mkTr n c d):m.head=n.head/\(hasX m.op=true->a=c)/\(hasY m.op=true->b=d):=by
 unfold mkTr at h;cases h2:hasY m.op
 ·cases h1:hasX m.op
  ·cases k2:hasY n.op
   ·cases k1:hasX n.op
    ·rw [h1,h2,k1,k2]at h;injection h with h;exact⟨by rw [h],(fun e=>by cases e),(fun e=>by cases e)⟩
    rw [h1,h2,k1,k2]at h;cases h
   rw [h1,h2,k2]at h;cases h
  cases k2:hasY n.op
  ·cases k1:hasX n.op
   ·rw [h1,h2,k1,k2]at h;cases h
   rw [h1,h2,k1,k2]at h;injection h with e1 e2;exact⟨e1,(fun _=>e2),(fun e=>by cases e)⟩
  rw [h1,h2,k2]at h;cases h
 cases k2:hasY n.op
 ·cases k1:hasX n.op
  ·rw [h2,k1,k2]at h;cases h
  rw [h2,k1,k2]at h;cases h
 rw [h2,k2]at h;injection h with e1 e2 e3;exact⟨e1,fun _=>e2,fun _=>e3⟩
theorem with_self {n:Nd}(hx:hasX n.op=true->0<=n.x)(hy:hasY n.op=true->0<=n.y):n.head.with_ n.x.toNat n.y.toNat=n:=by
 rw [head_with];obtain⟨op,i,e,g,x,y⟩:=n;unfold Nd.with_;simp only at hx hy⊢
 congr 1
 ·cases h:hasX op
  ·rfl
  have:=hx h;simp only [cond_true];omega
 cases h:hasY op
 ·rfl
 have:=hy h;simp only [cond_true];omega
theorem dst_addN {o:List Nd} {m:Nd}(ho:Wf o)(hw:Wf (addN o m))(h:Dst o):Dst (addN o m):=by
 by_cases hm:m∈o
 ·have e:addN o m=o:=by unfold addN;rw [if_pos hm]
  rw [e];exact h
 have e:addN o m=o++ [m]:=by unfold addN;rw [if_neg hm]
 rw [e]at hw⊢;have hp:∀k,k < o.length->tr (o++ [m]) k=tr o k:=fun k hk=>tr_prefix ho hw (List.prefix_append _ _) k hk
 have hl:(o++ [m])[o.length]?=some m:=by simp
 have hmx:=hw _ _ hl;have key:∀j,j < o.length->tr (o++ [m]) o.length≠tr o j:=fun j hj he=>by
  obtain⟨n,hn⟩:∃n,o[j]?=some n:=⟨_,Qv hj⟩;have hnx:=ho j n hn;rw [tr_eq hw hl,tr_eq ho hn]at he;obtain⟨e1,e2,e3⟩:=mk_inj he;have eo:m.op=n.op:=by have:=congrArg Nd.op e1;exact this
  have ex:hasX m.op=true->m.x.toNat=n.x.toNat:=fun hx=>by
   have a1:=hmx.1 hx;have a2:=hnx.1 (eo▸hx);have:=e2 hx;rw [hp _ (by omega)]at this;exact h _ _ (by omega) (by omega) this
  have ey:hasY m.op=true->m.y.toNat=n.y.toNat:=fun hy=>by
   have a1:=hmx.2 hy;have a2:=hnx.2 (eo▸hy);have:=e3 hy;rw [hp _ (by omega)]at this;exact h _ _ (by omega) (by omega) this
  have em:=with_self (n:=m) (fun hx=>(hmx.1 hx).1) (fun hy=>(hmx.2 hy).1);have en:=with_self (n:=n) (fun hx=>(hnx.1 hx).1) (fun hy=>(hnx.2 hy).1);have:m=n:=by
   rw [<-em,<-en,e1];unfold Nd.with_
   congr 1
   ·cases hx:hasX n.head.op
    ·rfl
    rw [ex (by rw [eo];exact hx)]
   cases hy:hasY n.head.op
   ·rfl
   rw [ey (by rw [eo];exact hy)]
  exact hm (this▸List.mem_of_getElem? hn)
 intro i j hi hj hij;rw [List.length_append,List.length_singleton]at hi hj;by_cases hio:i < o.length
 ·by_cases hjo:j < o.length
  ·rw [hp i hio,hp j hjo]at hij;exact h i j hio hjo hij
  have:j=o.length:=by omega
  subst this;rw [hp i hio]at hij;exact absurd hij.symm (key i hio)
 have:i=o.length:=by omega
 subst this;by_cases hjo:j < o.length
 ·rw [hp j hjo]at hij;exact absurd hij (key j hjo)
 omega
theorem ins_dst:∀(t:Tr) (o:List Nd),t.ok->Wf o->Dst o->Dst (ins t o).1
 |.leaf n,o,ht,ho,h=>dst_addN ho (ins_ok (.leaf n) o ht ho).wf h
 |.one n a,o,ht,ho,h=>dst_addN (ins_ok a o ht.2.2.2 ho).wf (ins_ok (.one n a) o ht ho).wf (ins_dst a o ht.2.2.2 ho h)
 |.two n a b,o,ht,ho,h=>by
  have A:=ins_ok a o ht.2.2.2.1 ho;exact dst_addN (ins_ok b _ ht.2.2.2.2 A.wf).wf (ins_ok (.two n a b) o ht ho).wf (ins_dst b _ ht.2.2.2.2 A.wf (ins_dst a o ht.2.2.2.1 ho h))
theorem canon_dst {t:Tr}(ht:t.ok):Dst (canon t):=ins_dst t [] ht wf_nil (fun i _ hi=>absurd hi (by simp))
def shortT(t:Tr):List Nd:=bif decide (200 < (canon t).length)then []else canon t
theorem short_fit {t:Tr}(h:(canon t).length<=200):shortT t=canon t:=by
 unfold shortT;rw [decide_eq_false (by omega)];rfl
theorem short_long {t:Tr}(h:200 < (canon t).length):shortT t= []:=by
 unfold shortT;rw [decide_eq_true h];rfl
theorem check_nil':check []≠0:=by decide
def shortN(l:List Nd):List Nd:=bif decide (200 < (finN l (l.length - 1) []).1.length)then []else(finN l (l.length - 1) []).1
theorem shortN_tree {l:List Nd}(hw:Wf l)(h0:0 < l.length):shortN l=shortT (treeOf l):=by
 unfold shortN shortT;rw [finN_ins hw _ _ (by omega)];rfl
theorem map_shift0(f:List Nd):f.map (shiftN 0)=f:=by
 rw [show shiftN 0=id from by funext m;unfold shiftN;cases hasX m.op <;> cases hasY m.op <;> simp];simp
theorem build_oneS {n:Nd} {f:List Nd}(hf:check f=0)(h1:hasX n.op=true)(h2:hasY n.op=false)(hh:headOk n):buildN n [f]=shortT (.one n.head (treeOf f)):=by
 obtain⟨cw,cl,cp,_⟩:=compactN_props hf;unfold buildN;have e0: [f].any (fun o=>check o !=0)=false:=by simp [hf]
 rw [e0,cond_false];have eL:layout [f] 0 [] n=(compactN f,{ n with x:=((compactN f).length:Int) - 1 }):=by
  simp only [layout,setOp,List.nil_append,List.length_nil,map_shift0];rfl
 rw [eL];generalize hm:({ n with x:=((compactN f).length:Int) - 1 } :Nd)=m;have mo:m.op=n.op:=by rw [<-hm]
 have mx:m.x=((compactN f).length:Int) - 1:=by rw [<-hm]
 have mh:m.head=n.head:=by
  rw [<-hm];unfold Nd.head Nd.with_;simp [h1,h2]
 have hmh:headOk m:=by
  rw [<-hm];exact⟨hh.1,hh.2.1,hh.2.2.1,fun h=>by(rw [h1]at h;cases h),hh.2.2.2.2⟩
 have herr:nodeErr m (compactN f).length=0:=hmh.err (fun _=>by omega) (fun h=>by rw [mo,h2]at h;cases h);have hw:Wf (compactN f++ [m]):=wf_snoc cw (fun _=>by omega) (fun h=>by rw [mo,h2]at h;cases h);have htr:tr (compactN f++ [m]) (compactN f).length=.one n.head (treeOf f):=by
  rw [tr_eq hw (n:=m) (by simp)];unfold mkTr;rw [mo,h1,h2,mh,mx];rw [show(((compactN f).length:Int) - 1).toNat=(compactN f).length - 1 by omega,tr_prefix cw hw (List.prefix_append _ _) _ (by omega)];rw [show tr (compactN f) ((compactN f).length - 1)=treeOf (compactN f)from rfl,treeOf_compact hf];rfl
 unfold joinN;have hfin:(finN (compactN f++ [m]) (compactN f).length []).1=canon (.one n.head (treeOf f)):=by
  rw [finN_ins hw _ _ (by simp),htr];rfl
 simp only [herr,hfin];rfl
theorem un_short {n:Nd} {f:List Nd}(hf:check f=0)(h1:hasX n.op=true)(h2:hasY n.op=false)(hh:headOk n) {m:Nd}(hm:m= { n with x:=(f.length:Int) - 1 }):nodeErr m f.length=0/\Wf (f++ [m])/\shortN (f++ [m])=buildN n [f]:=by
 have fw:=check_wf hf;have fp:=(check_parts hf).1;have mo:m.op=n.op:=by rw [hm]
 have mx:m.x=(f.length:Int) - 1:=by rw [hm]
 have mh:m.head=n.head:=by
  rw [hm];unfold Nd.head Nd.with_;simp [h1,h2]
 have hmh:headOk m:=by
  rw [hm];exact⟨hh.1,hh.2.1,hh.2.2.1,fun h=>by(rw [h1]at h;cases h),hh.2.2.2.2⟩
 have hw:Wf (f++ [m]):=wf_snoc fw (fun _=>by omega) (fun h=>by rw [mo,h2]at h;cases h);refine⟨hmh.err (fun _=>by omega) (fun h=>by rw [mo,h2]at h;cases h),hw,?_⟩;rw [shortN_tree hw (by simp),build_oneS hf h1 h2 hh]
 congr 1
 unfold treeOf;rw [List.length_append,List.length_singleton,Nat.add_sub_cancel,tr_eq hw (n:=m) (by simp)];unfold mkTr;rw [mo,h1,h2,mh,mx];rw [show((f.length:Int) - 1).toNat=f.length - 1 by omega,tr_prefix fw hw (List.prefix_append _ _) _ (by omega)];rfl
theorem build_twoS {n:Nd} {f g:List Nd}(hf:check f=0)(hg:check g=0)(h1:hasX n.op=true)(h2:hasY n.op=true)(hh:headOk n):buildN n [f,g]=shortT (.two n.head (treeOf f) (treeOf g)):=by
 obtain⟨cw,cl,cp,_⟩:=compactN_props hf;obtain⟨dw,dl,dp,_⟩:=compactN_props hg;unfold buildN;have e0: [f,g].any (fun o=>check o !=0)=false:=by simp [hf,hg]
 rw [e0,cond_false];have eL:layout [f,g] 0 [] n=(compactN f++(compactN g).map (shiftN (compactN f).length),{ n with x:=((compactN f).length:Int) - 1,y:=((compactN f).length:Int)+(compactN g).length - 1 }):=by
  simp only [layout,setOp,List.nil_append,List.length_nil,map_shift0];simp
 rw [eL];have hFw:=shift_wf cw dw;have hFl:(compactN f++(compactN g).map (shiftN (compactN f).length)).length=(compactN f).length+(compactN g).length:=by simp
 have hF1:tr (compactN f++(compactN g).map (shiftN (compactN f).length)) ((compactN f).length - 1)=treeOf f:=by
  rw [tr_prefix cw hFw (List.prefix_append _ _) _ (by omega),show tr (compactN f) ((compactN f).length - 1)=treeOf (compactN f)from rfl,treeOf_compact hf]
 have hF2:tr (compactN f++(compactN g).map (shiftN (compactN f).length)) ((compactN f).length+(compactN g).length - 1)=treeOf g:=by
  rw [show(compactN f).length+(compactN g).length - 1=(compactN f).length+((compactN g).length - 1) by omega,tr_shift cw dw _ (by omega),show tr (compactN g) ((compactN g).length - 1)=treeOf (compactN g)from rfl,treeOf_compact hg]
 generalize compactN f++(compactN g).map (shiftN (compactN f).length)=F at *;generalize hm:({ n with x:=((compactN f).length:Int) - 1,y:=((compactN f).length:Int)+(compactN g).length - 1 } :Nd)=m;have mo:m.op=n.op:=by rw [<-hm]
 have mx:m.x=((compactN f).length:Int) - 1:=by rw [<-hm]
 have my:m.y=((compactN f).length:Int)+(compactN g).length - 1:=by rw [<-hm]
 have mh:m.head=n.head:=by
  rw [<-hm];unfold Nd.head Nd.with_;simp [h1,h2]
 have hmh:headOk m:=by
  rw [<-hm];exact⟨hh.1,hh.2.1,hh.2.2.1,fun h=>by(rw [h1]at h;cases h),fun h=>by(rw [h2]at h;cases h)⟩
 have herr:nodeErr m F.length=0:=hmh.err (fun _=>by omega) (fun _=>by omega);have hw:Wf (F++ [m]):=wf_snoc hFw (fun _=>by omega) (fun _=>by omega);have htr:tr (F++ [m]) F.length=.two n.head (treeOf f) (treeOf g):=by
  rw [tr_eq hw (n:=m) (by simp)];unfold mkTr;rw [mo,h2,mh,mx,my];rw [show(((compactN f).length:Int) - 1).toNat=(compactN f).length - 1 by omega,tr_prefix hFw hw (List.prefix_append _ _) _ (by omega),hF1];rw [show(((compactN f).length:Int)+(compactN g).length - 1).toNat=(compactN f).length+(compactN g).length - 1 by omega,tr_prefix hFw hw (List.prefix_append _ _) _ (by omega),hF2];rfl
 unfold joinN;have hfin:(finN (F++ [m]) F.length []).1=canon (.two n.head (treeOf f) (treeOf g)):=by
  rw [finN_ins hw _ _ (by simp),htr];rfl
 simp only [herr,hfin];rfl
theorem bin_short {n:Nd} {f g:List Nd}(hf:check f=0)(hg:check g=0)(h1:hasX n.op=true)(h2:hasY n.op=true)(hh:headOk n) {m:Nd}(hm:m= { n with x:=(f.length:Int) - 1,y:=(f.length:Int)+g.length - 1 }):
 nodeErr m ((f.length:Int)+g.length)=0/\Wf (f++g.map (shiftN f.length)++ [m])/\shortN (f++g.map (shiftN f.length)++ [m])=buildN n [f,g]:=by
 have fw:=check_wf hf;have gw:=check_wf hg;have fp:=(check_parts hf).1;have gp:=(check_parts hg).1;rw [build_twoS hf hg h1 h2 hh];have hFw:=shift_wf fw gw;have hFl:(f++g.map (shiftN f.length)).length=f.length+g.length:=by simp
 have hF1:tr (f++g.map (shiftN f.length)) (f.length - 1)=treeOf f:=by
  rw [tr_prefix fw hFw (List.prefix_append _ _) _ (by omega)];rfl
 have hF2:tr (f++g.map (shiftN f.length)) (f.length+g.length - 1)=treeOf g:=by
  rw [show f.length+g.length - 1=f.length+(g.length - 1) by omega,tr_shift fw gw _ (by omega)];rfl
 generalize f++g.map (shiftN f.length)=F at *;have mo:m.op=n.op:=by rw [hm]
 have mx:m.x=(f.length:Int) - 1:=by rw [hm]
 have my:m.y=(f.length:Int)+g.length - 1:=by rw [hm]
 have mh:m.head=n.head:=by
  rw [hm];unfold Nd.head Nd.with_;simp [h1,h2]
 have hmh:headOk m:=by
  rw [hm];exact⟨hh.1,hh.2.1,hh.2.2.1,fun h=>by(rw [h1]at h;cases h),fun h=>by(rw [h2]at h;cases h)⟩
 have hw:Wf (F++ [m]):=wf_snoc hFw (fun _=>by omega) (fun _=>by omega);refine⟨by have:=hmh.err (a:=f.length+g.length) (fun _=>by omega) (fun _=>by omega);rw [<-this];congr 1,hw,?_⟩;rw [shortN_tree hw (by simp)]
 congr 1
 unfold treeOf;rw [List.length_append,List.length_singleton,Nat.add_sub_cancel,tr_eq hw (n:=m) (by simp)];unfold mkTr;rw [mo,h2,mh,mx,my];rw [show((f.length:Int) - 1).toNat=f.length - 1 by omega,tr_prefix hFw hw (List.prefix_append _ _) _ (by omega),hF1];rw [show((f.length:Int)+g.length - 1).toNat=f.length+g.length - 1 by omega,tr_prefix hFw hw (List.prefix_append _ _) _ (by omega),hF2];rfl
theorem build_bad1 {n:Nd} {f:List Nd}(hf:check f≠0):buildN n [f]= []:=by
 unfold buildN;have e0: [f].any (fun o=>check o !=0)=true:=by simpa using hf
 rw [e0,cond_true]
theorem build_bad2 {n:Nd} {f g:List Nd}(hf:check f≠0\/check g≠0):buildN n [f,g]= []:=by
 unfold buildN;have e0: [f,g].any (fun o=>check o !=0)=true:=by simp;exact hf
 rw [e0,cond_true]
def Can(l:List Nd):Prop:=l= []\/∃t:Tr,t.ok/\l=canon t
theorem canon_leaf(n:Nd):canon (.leaf n)= [n]:=by simp [canon,ins,addN]
theorem build_zero {n:Nd}(h1:hasX n.op=false)(h2:hasY n.op=false)(hh:headOk n):nodeErr n 0=0/\buildN n []= [n]:=by
 have herr:nodeErr n 0=0:=hh.err (a:=0) (fun h=>by rw [h1]at h;cases h) (fun h=>by rw [h2]at h;cases h);refine⟨herr,?_⟩;have hw:Wf ([]++ [n]):=wf_snoc wf_nil (fun h=>by rw [h1]at h;cases h) (fun h=>by rw [h2]at h;cases h);have hfin:(finN ([]++ [n]) ([]:List Nd).length []).1= [n]:=by
  rw [finN_ins hw _ _ (by simp),tr_eq hw (n:=n) (by simp)];unfold mkTr;rw [h1,h2];exact canon_leaf n
 unfold buildN;show joinN [] n= [n];unfold joinN;have e:nodeErr n (([]:List Nd).length:Int)=0:=herr;simp only [hfin,e];rfl
theorem head0(k:Int)(h:k=1\/k=2\/k=4\/k=5\/k=6):headOk ⟨k,0,0,0,0,0⟩:=by
 rcases h with rfl|rfl|rfl|rfl|rfl <;> exact⟨by decide,by decide,by decide,fun _=>rfl,fun _=>rfl⟩
theorem head3 {n:Nd}(h:headOk n)(ho:n.op=3):headOk ⟨3,n.i,0,0,0,0⟩:=by
 obtain⟨_,_,h3,_,_⟩:=h;refine⟨rfl,by simp [formBad,hasFact,hasAgent,hasEvent,hasGroup],?_,fun _=>rfl,fun _=>rfl⟩;unfold rangeBad at h3⊢;rw [ho]at h3
 simpa [outsideB,hasFact,hasAgent,hasEvent,hasGroup]using h3
theorem head9 {n:Nd}(h:headOk n)(k:Int)(hk:k=9\/k=10)(ho:n.op=9\/n.op=10):headOk ⟨k,n.i,0,0,0,0⟩:=by
 obtain⟨_,_,h3,_,_⟩:=h;have hr:outsideB true n.i 0 3=false:=by
  unfold rangeBad at h3;rcases ho with ho|ho <;>(rw [ho]at h3;simpa [outsideB,hasFact,hasAgent,hasEvent,hasGroup]using h3)
 rcases hk with rfl|rfl
 ·refine⟨rfl,by simp [formBad,hasFact,hasAgent,hasEvent,hasGroup],?_,fun _=>rfl,fun _=>rfl⟩
  simpa [rangeBad,outsideB,hasFact,hasAgent,hasEvent,hasGroup]using hr
 refine⟨rfl,by simp [formBad,hasFact,hasAgent,hasEvent,hasGroup],?_,fun _=>rfl,fun _=>rfl⟩
 simpa [rangeBad,outsideB,hasFact,hasAgent,hasEvent,hasGroup]using hr
theorem true_list:trueN= [⟨1,0,0,0,0,0⟩]:=(build_zero rfl rfl (head0 1 (by omega))).2
theorem false_list:falseN= [⟨2,0,0,0,0,0⟩]:=(build_zero rfl rfl (head0 2 (by omega))).2
def rebuildN(x:Nd)(a b:List Nd):List Nd :=
 bif hasY x.op then buildN { x with x:=0,y:=0 } [a,b]else bif hasX x.op then buildN { x with x:=0,y:=0 } [a]else [{ x with x:=0,y:=0 }]
theorem head_zero {n:Nd}(h:headOk n):headOk { n with x:=0,y:=0 } :=⟨h.1,h.2.1,h.2.2.1,fun _=>rfl,fun _=>rfl⟩
end Go.Proofs.YtbfeodammikajaaGreat
