/- Trees: all nodes, lengths of the lists of parts. -/
import Derived.Test.YtkmclcmnoicagaaGreatDoorT15
import Derived.OrdersHeld
import Derived.Deep.RegionHeld
import Derived.Deep.MidRow
namespace Go.Proofs.YtkmclcmnoicagaaGreatDoor
set_option maxRecDepth 100000
set_option maxHeartbeats 128000000
def Tr.all(P:Nd->Prop):Tr->Prop
 |.leaf n=>P n
 |.one n a=>P n/\a.all P
 |.two n a b=>P n/\a.all P/\b.all P
theorem Di {P:Nd->Prop}(hP:∀n k1 k2,P n->P (n.with_ k1 k2)):∀(t:Tr) (o:List Nd),t.all P->(∀n∈o,P n)->∀n∈(ins t o).1,P n
 |.leaf n,o,ht,ho,m,hm=>by
  change m∈Zh o n at hm;unfold Zh at hm
  split at hm
  ·exact ho m hm
  rcases List.mem_append.1 hm with h|h
  ·exact ho m h
  simp at h;subst h;exact ht
 |.one n a,o,ht,ho,m,hm=>by
  change m∈Zh (ins a o).1 _ at hm;have ha:=Di hP a o ht.2 ho;unfold Zh at hm
  split at hm
  ·exact ha m hm
  rcases List.mem_append.1 hm with h|h
  ·exact ha m h
  simp at h;subst h;exact hP _ _ _ ht.1
 |.two n a b,o,ht,ho,m,hm=>by
  change m∈Zh (ins b (ins a o).1).1 _ at hm;have ha:=Di hP b _ ht.2.2 (Di hP a o ht.2.1 ho);unfold Zh at hm
  split at hm
  ·exact ha m hm
  rcases List.mem_append.1 hm with h|h
  ·exact ha m h
  simp at h;subst h;exact hP _ _ _ ht.1
theorem To {P:Nd->Prop}(hP:∀n k1 k2,P n->P (n.with_ k1 k2)) {f:List Nd}(hf:Wf f)(hn:∀n∈f,P n):∀i,i < f.length->(tr f i).all P:=by
 intro i
 induction i using Nat.strongRecOn with
 |_ i ih =>
  intro hi;obtain⟨n,hi'⟩:∃n,f[i]?=some n:=⟨_,Qv hi⟩;obtain⟨hx,hy⟩:=hf i n hi';have hp:=hn n (List.mem_of_getElem? hi');rw [Vo hf hi'];unfold Yv;cases h2:Qc n.op
  ·cases h1:Qh n.op
   ·exact hp
   have:=hx h1;exact⟨hP _ _ _ hp,ih _ (by omega) (by omega)⟩
  have h1:=Vz h2;have:=hx h1;have:=hy h2;exact⟨hP _ _ _ hp,ih _ (by omega) (by omega),ih _ (by omega) (by omega)⟩
theorem Ev {t:Tr}(ht:t.ok) {k:Nat}(hk:k < (Qf t).length):(Qf (tr (Qf t) k)).length<=(Qf t).length:=by
 have hw:=Hk ht;have e:=Nl hw k [] hk;have h1:=Xh (Qf t) (Zt (Qf t) k []).1;have h2:=Oc hw k [] hk;have h3:=Mz (Qf t);have:Qf (tr (Qf t) k)=(Zt (Qf t) k []).1:=by rw [e];rfl
 rw [this];omega
theorem Oq {t:Tr}(ht:t.ok):∃n,(Qf t)[(Qf t).length - 1]?=some n/\t=Yv n (tr (Qf t) n.x.toNat) (tr (Qf t) n.y.toNat)/\(Qh n.op=true->0<=n.x/\n.x < ((Qf t).length - 1:Nat))/\(Qc n.op=true->0<=n.y/\n.y < ((Qf t).length - 1:Nat)):=by
 have hw:=Hk ht;have hp:=Gv ht;obtain⟨n,hn⟩:∃n,(Qf t)[(Qf t).length - 1]?=some n:=⟨_,List.getElem?_eq_getElem (by omega)⟩;have h1:=Vo hw hn;have h2:tr (Qf t) ((Qf t).length - 1)=t:=Vf ht;rw [h2]at h1;exact⟨n,hn,h1,hw _ n hn⟩
theorem Qd0 {n:Nd} {a:Tr}(ht:(Tr.one n a).ok):(Qf a).length<=(Qf (.one n a)).length:=by
 obtain⟨m,_,h1,hx,_⟩:=Oq ht;have hp:=Gv ht;unfold Yv at h1;cases h2:Qc m.op
 ·cases h3:Qh m.op
  ·rw [h2,h3]at h1;cases h1
  rw [h2,h3]at h1;injection h1 with _ h1;have:=hx h3;have e:=Ev ht (k:=m.x.toNat) (by omega);rw [<-h1]at e;exact e
 rw [h2]at h1;cases h1
theorem Qvc {n:Nd} {a b:Tr}(ht:(Tr.two n a b).ok):(Qf a).length<=(Qf (.two n a b)).length/\(Qf b).length<=(Qf (.two n a b)).length:=by
 obtain⟨m,_,h1,hx,hy⟩:=Oq ht;have hp:=Gv ht;unfold Yv at h1;cases h2:Qc m.op
 ·cases h3:Qh m.op
  ·rw [h2,h3]at h1;cases h1
  rw [h2,h3]at h1;cases h1
 rw [h2]at h1;injection h1 with _ h1 h3;have:=hx (Vz h2);have:=hy h2;refine⟨?_,?_⟩
 ·have e:=Ev ht (k:=m.x.toNat) (by omega);rw [<-h1]at e;exact e
 have e:=Ev ht (k:=m.y.toNat) (by omega);rw [<-h3]at e;exact e
theorem Oz {f:List Nd}(h:check f=0):Ql f=Yv (Qi f) (tr f (Qi f).x.toNat) (tr f (Qi f).y.toNat):=
 Vo (Ja h) (Rb (Zm h).1)
theorem Ql0 {m n:Nd} {a b c:Tr}(h:Yv m a b=.one n c):Qh m.op=true/\m.op=n.op/\m.i=n.i/\a=c:=by
 unfold Yv at h;cases h2:Qc m.op
 ·cases h1:Qh m.op
  ·rw [h2,h1]at h;cases h
  rw [h2,h1]at h;simp only [cond_false,cond_true,Tr.one.injEq]at h;exact⟨rfl,by rw [<-h.1];rfl,by rw [<-h.1];rfl,h.2⟩
 rw [h2]at h;cases h
theorem Qz6 {f:List Nd} {n:Nd} {c:Tr}(h:check f=0)(ht:Ql f=.one n c):
 (Qi f).op=n.op/\(Qi f).i=n.i/\tr f (Qi f).x.toNat=c/\Jb f (Qi f).x=Qf c/\(Qi f).x.toNat < f.length:=by
 have e:=Oz h;rw [ht]at e;obtain⟨h1,h2,h3,h4⟩:=Ql0 e.symm;have hw:=(Ja h _ _ (Rb (Zm h).1)).1 h1;have hx:(Qi f).x.toNat < f.length:=by omega
 refine⟨h2,h3,h4,?_,hx⟩;have e2:=Fs h hx;rw [show(((Qi f).x.toNat:Nat):Int)=(Qi f).x by omega]at e2;rw [e2,h4]
theorem Ql1 {m n:Nd} {a b c d:Tr}(h:Yv m a b=.two n c d):Qc m.op=true/\m.head=n/\a=c/\b=d:=by
 unfold Yv at h;cases h2:Qc m.op
 ·cases h1:Qh m.op
  ·rw [h2,h1]at h;cases h
  rw [h2,h1]at h;cases h
 rw [h2]at h;simp only [cond_true,Tr.two.injEq]at h;exact⟨rfl,h⟩
theorem Nh {f:List Nd} {n:Nd} {c d:Tr}(h:check f=0)(ht:Ql f=.two n c d):
 (Qi f).op=n.op/\(Qi f).g=n.g/\Jb f (Qi f).x=Qf c/\Jb f (Qi f).y=Qf d:=by
 have e:=Oz h;rw [ht]at e;obtain⟨h2,h3,h4,h5⟩:=Ql1 e.symm;obtain⟨hx,hy⟩:=Ja h _ _ (Rb (Zm h).1);have hx:=hx (Vz h2);have hy:=hy h2;have e1:=Fs h (show(Qi f).x.toNat < f.length by omega);have e2:=Fs h (show(Qi f).y.toNat < f.length by omega);rw [show(((Qi f).x.toNat:Nat):Int)=(Qi f).x by omega,h4]at e1;rw [show(((Qi f).y.toNat:Nat):Int)=(Qi f).y by omega,h5]at e2;exact⟨by rw [<-h3];rfl,by rw [<-h3];rfl,e1,e2⟩
theorem Qer {f:List Nd}(h:check f=0):(Qi f).op=(Ql f).top.op:=by
 rw [Oz h];unfold Yv;cases Qc (Qi f).op
 ·cases Qh (Qi f).op <;> rfl
 rfl
def Dst(o:List Nd):Prop:=∀i j,i < o.length->j < o.length->tr o i=tr o j->i=j
theorem Qli {m n:Nd} {a b c d:Tr}(h:Yv m a b=Yv n c d):m.head=n.head/\(Qh m.op=true->a=c)/\(Qc m.op=true->b=d):=by
 unfold Yv at h;cases h2:Qc m.op
 ·cases h1:Qh m.op
  ·cases k2:Qc n.op
   ·cases k1:Qh n.op
    ·rw [h1,h2,k1,k2]at h;injection h with h;exact⟨by rw [h],(fun e=>by cases e),(fun e=>by cases e)⟩
    rw [h1,h2,k1,k2]at h;cases h
   rw [h1,h2,k2]at h;cases h
  cases k2:Qc n.op
  ·cases k1:Qh n.op
   ·rw [h1,h2,k1,k2]at h;cases h
   rw [h1,h2,k1,k2]at h;injection h with e1 e2;exact⟨e1,(fun _=>e2),(fun e=>by cases e)⟩
  rw [h1,h2,k2]at h;cases h
 cases k2:Qc n.op
 ·cases k1:Qh n.op
  ·rw [h2,k1,k2]at h;cases h
  rw [h2,k1,k2]at h;cases h
 rw [h2,k2]at h;injection h with e1 e2 e3;exact⟨e1,fun _=>e2,fun _=>e3⟩
theorem Qk4 {n:Nd}(hx:Qh n.op=true->0<=n.x)(hy:Qc n.op=true->0<=n.y):n.head.with_ n.x.toNat n.y.toNat=n:=by
 rw [Wa];obtain⟨op,i,e,g,x,y⟩:=n;unfold Nd.with_;simp only at hx hy⊢
 congr 1
 ·cases h:Qh op
  ·rfl
  have:=hx h;simp only [cond_true];omega
 cases h:Qc op
 ·rfl
 have:=hy h;simp only [cond_true];omega
theorem Qze {o:List Nd} {m:Nd}(ho:Wf o)(hw:Wf (Zh o m))(h:Dst o):Dst (Zh o m):=by
 by_cases hm:m∈o
 ·have e:Zh o m=o:=by unfold Zh;rw [if_pos hm]
  rw [e];exact h
 have e:Zh o m=o++ [m]:=by unfold Zh;rw [if_neg hm]
 rw [e]at hw⊢;have hp:∀k,k < o.length->tr (o++ [m]) k=tr o k:=fun k hk=>Xg ho hw (List.prefix_append _ _) k hk
 have hl:(o++ [m])[o.length]?=some m:=by simp
 have hmx:=hw _ _ hl;have key:∀j,j < o.length->tr (o++ [m]) o.length≠tr o j:=fun j hj he=>by
  obtain⟨n,hn⟩:∃n,o[j]?=some n:=⟨_,Qv hj⟩;have hnx:=ho j n hn;rw [Vo hw hl,Vo ho hn]at he;obtain⟨e1,e2,e3⟩:=Qli he;have eo:m.op=n.op:=by have:=congrArg Nd.op e1;exact this
  have ex:Qh m.op=true->m.x.toNat=n.x.toNat:=fun hx=>by
   have a1:=hmx.1 hx;have a2:=hnx.1 (eo▸hx);have:=e2 hx;rw [hp _ (by omega)]at this;exact h _ _ (by omega) (by omega) this
  have ey:Qc m.op=true->m.y.toNat=n.y.toNat:=fun hy=>by
   have a1:=hmx.2 hy;have a2:=hnx.2 (eo▸hy);have:=e3 hy;rw [hp _ (by omega)]at this;exact h _ _ (by omega) (by omega) this
  have em:=Qk4 (n:=m) (fun hx=>(hmx.1 hx).1) (fun hy=>(hmx.2 hy).1);have en:=Qk4 (n:=n) (fun hx=>(hnx.1 hx).1) (fun hy=>(hnx.2 hy).1);have:m=n:=by
   rw [<-em,<-en,e1];unfold Nd.with_
   congr 1
   ·cases hx:Qh n.head.op
    ·rfl
    rw [ex (by rw [eo];exact hx)]
   cases hy:Qc n.head.op
   ·rfl
   rw [ey (by rw [eo];exact hy)]
  exact hm (this▸List.mem_of_getElem? hn)
 intro i j hi hj hij;rw [List.length_append,List.length_singleton]at hi hj;by_cases hio:i < o.length
 ·by_cases hjo:j < o.length
  ·rw [hp i hio,hp j hjo]at hij;exact h i j hio hjo hij
  have:j=o.length:=by omega
  subst this;rw [hp i hio]at hij;exact absurd hij.symm (key i hio)
 have:i=o.length:=by omega
 subst this;by_cases hjo:j < o.length
 ·rw [hp j hjo]at hij;exact absurd hij (key j hjo)
 omega
theorem Qqz:∀(t:Tr) (o:List Nd),t.ok->Wf o->Dst o->Dst (ins t o).1
 |.leaf n,o,ht,ho,h=>Qze ho (Ke (.leaf n) o ht ho).wf h
 |.one n a,o,ht,ho,h=>Qze (Ke a o ht.2.2.2 ho).wf (Ke (.one n a) o ht ho).wf (Qqz a o ht.2.2.2 ho h)
 |.two n a b,o,ht,ho,h=>by
  have A:=Ke a o ht.2.2.2.1 ho;exact Qze (Ke b _ ht.2.2.2.2 A.wf).wf (Ke (.two n a b) o ht ho).wf (Qqz b _ ht.2.2.2.2 A.wf (Qqz a o ht.2.2.2.1 ho h))
theorem Qtg {t:Tr}(ht:t.ok):Dst (Qf t):=Qqz t [] ht Bb (fun i _ hi=>absurd hi (by simp))
open Go.RowKit
section
variable {P:Program} {md:Region.Mode} {ops:Array Oper} {Q:Exit->Act->World->Prop} {S:World->Prop}
theorem tk(i:Nat) {oi:Oper} {v:Value} {fuel:Nat} {listed:Array Bool} {a a':Act} {w:World}(hS:S w)
 (h:wpAnyH P md ops Q S fuel (listed.setIfInBounds i true) a' w)
 (hi:ops[i]?=some oi:=by exact rfl)(hs:Region.noSelect ops=true:=by kernel_rfl)(hf:Region.free md ops listed i=true:=by kernel_rfl)(hr:(Region.ready md ops listed).contains i=true:=by kernel_rfl)
 (hy:YieldsIf P ops S oi v a:=by refine Or.inl ⟨by rfl,?_⟩;intro w' hSw;(try dsimp only at hSw);go_simp;(try with_reducible rfl))
 (hQ:∀c a w,Q (.panic c) (a.put oi.dst v) w->Q (.panic c) a w:=by exact fun _ _ _ h=>h)
 (ha:a.put oi.dst v=a':=by(try simp only [Act.put,List.setIfInBounds_toArray,List.set_cons_zero,List.set_cons_succ,List.getElem_toArray,List.getElem_cons_succ,List.getElem_cons_zero]);exact rfl):wpAnyH P md ops Q S (fuel+1) listed a w :=
 wpAnyH_take hi hs hf hr hQ hy hS (by rw [ha];exact h)
end
section
variable {a b c:World} {p:Addr} {v:Value}
theorem xc(hb:p.block < a.heap.size)(f:a.cell? p=some v)(h:Ext a b:=by repeat(first|exact Qz|assumption|apply Ext.alloc|apply Ext.drew)):b.cell? p=some v:=(h.cell hb).trans f
theorem xw(e:Ext a b:=by repeat(first|exact Qz|assumption|apply Ext.alloc|apply Ext.drew)):Ext a b:=e
end
theorem Qd {P:Program} {md:Region.Mode} {ops:Array Oper} {Q:Exit->Act->World->Prop} {S:World->Prop} {fuel:Nat} {up:Array Bool} {a a':Act} {w:World}(h:wpAnyH P md ops Q S fuel up a' w)(e:a=a':=by(try simp only [Act.put,List.setIfInBounds_toArray,List.set_cons_zero,List.set_cons_succ,List.getElem_toArray,List.getElem_cons_succ,List.getElem_cons_zero]);exact rfl):wpAnyH P md ops Q S fuel up a w:=e▸h
theorem Oa {P:Program} {fn:Func} {t:Tmp} {ty:TypeId}(h:fn.results=#[.cell t ty])(tmps:Array Value)(w:World) {b o:Nat}(ht:tmps.getD t undef=.pointer (some ⟨b,o,none⟩)) {cs:List Value} {d:TypeDesc}(hc:w.rangeAt b o cs)
 (hu:P.underlying ty=some d)(hd:d.isRow=true)(hi:(P.info? ty).map (·.size)=some cs.length):(results fn tmps).run P w=.ok (.agg cs.toArray) w:=by
 have ht':tmps[t]?.getD undef=.pointer (some ⟨b,o,none⟩):=by rw [<-Array.getD_eq_getD_getElem?];exact ht
 simp [results,h,ht',asAddr,run_loadVar_mid w b o ty cs d hc hu hd hi]
end Go.Proofs.YtkmclcmnoicagaaGreatDoor
