/- natural.Check as a Lean function; what holds of its lists at each line. -/
import Derived.Test.YtmidgcldljfkcaaGreatDoorM01
import Derived.Test.YtmidgcldljfkcaaGreatDoorM19
import Derived.Test.YtmidgcldljfkcaaGreatDoorM11
namespace Go.Proofs.YtmidgcldljfkcaaGreatDoor
set_option maxRecDepth 100000
set_option maxHeartbeats 128000000
open Go.RowKit
def Fi(lg:Int)(ls:List Ln):List Ln->List (List Nd)->List (List Int)->Nat->Int×Int
 |[],_,_,_=>(0,0)
 |n :: r,fs,st,i =>
  bif Qs n.f !=0 then(i,Qs n.f)
  else bif decide (2<=Jh n.f)then(i,10)
  else match Bv st n with
   |none=>(i,3)
   |some s =>
    bif decide (n.agent < 0)||decide (4<=n.agent)then(i,3)
    else bif Mv lg ls (fs++ [Qf n.f]) (st++ [s]) i n (Qf n.f)then Fi lg ls r (fs++ [Qf n.f]) (st++ [s]) (i+1)else(i,13)
def Za(lg:Int)(ls:List Ln):Int×Int :=
 bif decide (lg < 0)||decide (6 < lg)then(0,1)else bif decide (400 < ls.length)then(0,8)else bif decide (ls.length=0)then(0,3)else Fi lg ls ls [] [] 0
structure Ta (ls:List Ln) (fs:List (List Nd)) (st:List (List Int)) (i:Nat):Prop where
 fl:fs.length=i
 sl:st.length=i
 st_ok:∀s∈st,s.length<=i/\∀o∈s,0<=o/\o < i
 fs_ok:∀f∈fs,0 < f.length/\Wf f
 ag:∀(k:Nat) (m:Ln),k < i->ls[k]?=some m->0<=m.agent/\m.agent < 4
 op:∀(k:Nat) (m:Ln) (s:List Int),ls[k]?=some m->st[k]?=some s->Kk m=true->0 < s.length
theorem Qn6(ls:List Ln):Ta ls [] [] 0 :=
 ⟨rfl,rfl,fun s h=>by simp at h,fun f h=>by simp at h,fun k m h=>absurd h (Nat.not_lt_zero _),fun k m s _ h=>by simp at h⟩
theorem Qnk {st:List (List Int)}(h:st≠ []):Yx st∈st:=by
 unfold Yx;cases st with
 |nil=>exact absurd rfl h
 |cons a t=>rw [List.getLastD_cons];exact List.getLastD_mem_cons
theorem Ta.last {ls:List Ln} {fs:List (List Nd)} {st:List (List Int)} {i:Nat}(h:Ta ls fs st i):(Yx st).length<=i/\∀o∈Yx st,0<=o/\o < i:=by
 by_cases e:st= []
 ·subst e;exact⟨Nat.zero_le _,fun o ho=>by simp [Yx]at ho⟩
 exact h.st_ok _ (Qnk e)
theorem Iy {st:List (List Int)} {n:Ln} {s:List Int}(h:Bv st n=some s):(Kk n=true/\∃d,s=(Yx st).take d++ [(st.length:Int)])\/(Kk n=false/\∃d,s=(Yx st).take d):=by
 unfold Bv at h;cases ho:Kk n
 ·rw [ho,cond_false]at h;cases hb:(decide (n.depth < 0)||decide (((Yx st).length:Int) < n.depth))
  ·rw [hb,cond_false]at h;exact .inr ⟨rfl,_,(Option.some.inj h).symm⟩
  rw [hb]at h;cases h
 rw [ho,cond_true]at h;cases hb:(decide (n.depth < 1)||decide (((Yx st).length:Int)+1 < n.depth))
 ·rw [hb,cond_false]at h;exact .inl ⟨rfl,_,(Option.some.inj h).symm⟩
 rw [hb]at h;cases h
theorem Ta.next {ls:List Ln} {fs:List (List Nd)} {st:List (List Int)} {i:Nat}(h:Ta ls fs st i) {n:Ln}(hn:ls[i]?=some n)(hc:Qs n.f=0) {s:List Int}(hp:Bv st n=some s)(ha:0<=n.agent/\n.agent < 4):Ta ls (fs++ [Qf n.f]) (st++ [s]) (i+1):=by
 obtain⟨l1,l2⟩:=h.last;obtain⟨c1,c2,c3,_⟩:=Vz hc;have hs:s.length<=i+1/\∀o∈s,0<=o/\o < (i:Int)+1:=by
  rcases Iy hp with⟨_,d,rfl⟩|⟨_,d,rfl⟩
  ·refine⟨by have:=List.length_take_le' d (Yx st);simp;omega,fun o ho=> ?_⟩;rcases List.mem_append.1 ho with ho|ho
   ·have:=l2 o (List.mem_of_mem_take ho);omega
   have e:=List.mem_singleton.1 ho;have:=h.sl;omega
  refine⟨by have:=List.length_take_le' d (Yx st);omega,fun o ho=> ?_⟩;have:=l2 o (List.mem_of_mem_take ho);omega
 refine⟨by simp [h.fl],by simp [h.sl],fun t ht=> ?_,fun f hf=> ?_,fun k m hk hm=> ?_,fun k m t hm ht ho=> ?_⟩
 ·rcases List.mem_append.1 ht with ht|ht
  ·obtain⟨a,b⟩:=h.st_ok t ht;exact⟨by omega,fun o ho=>by have:=b o ho;omega⟩
  rw [List.mem_singleton.1 ht];exact⟨hs.1,fun o ho=>by have:=hs.2 o ho;omega⟩
 ·rcases List.mem_append.1 hf with hf|hf
  ·exact h.fs_ok f hf
  rw [List.mem_singleton.1 hf];exact⟨c3,c1⟩
 ·by_cases e:k < i
  ·exact h.ag k m e hm
  obtain rfl:k=i:=by omega
  rw [hn]at hm;injection hm with hm;subst hm;exact ha
 by_cases e:k < st.length
 ·rw [List.getElem?_append_left e]at ht;exact h.op k m t hm ht ho
 rw [List.getElem?_append_right (by omega)]at ht;have hk0:k=st.length:=by
  by_cases e2:k - st.length=0
  ·omega
  rw [List.getElem?_eq_none (by simp;omega)]at ht;cases ht
 subst hk0;simp at ht;subst ht;have:m=n:=by
  have e3:=h.sl;rw [e3,hn]at hm;exact(Option.some.inj hm).symm
 subst this;rcases Iy hp with⟨_,d,rfl⟩|⟨ho',_⟩
 ·simp
 rw [ho]at ho';cases ho'
theorem Ta.ok {ls:List Ln} {fs:List (List Nd)} {st:List (List Int)} {i:Nat}(h:Ta ls fs st (i+1)) {n:Ln} {fi:List Nd}(hn:ls[i]?=some n)(hf:fs[i]?=some fi)(hl:ls.length<=400):Vb ls fs st i n fi:=by
 have hi:i < ls.length:=(List.getElem?_eq_some_iff.1 hn).1;refine⟨fun s hs=> ?_,hn,hf,by have:=h.sl;omega,h.fs_ok,fun k m hk hm=> ?_,h.op⟩
 ·obtain⟨a,b⟩:=h.st_ok s hs;exact⟨by omega,fun o ho=>by have:=b o ho;omega⟩
 have hkl:=h.fl;obtain⟨a,b⟩:=h.ag k m (by omega) hm;exact⟨by omega,by omega⟩
theorem Qkq(m:Nat)(h:m < 512):(bits .andNot .i64 (m:Int) 1 !=0)=decide (2<=m):=by
 have key:∀m:Fin 512,(bits .andNot .i64 ((m:Nat):Int) 1 !=0)=decide (2<=(m:Nat)):=by decide+kernel
 exact key ⟨m,h⟩
theorem Qnv {lg:Int} {ls:List Ln} {i:Nat} {n:Ln} {fs:List (List Nd)} {st:List (List Int)}(h:ls[i]?=some n):
 Fi lg ls (ls.drop i) fs st i=Fi lg ls (n :: ls.drop (i+1)) fs st i:=by
 obtain⟨hk,rfl⟩:=List.getElem?_eq_some_iff.1 h;rw [List.drop_eq_getElem_cons hk]
end Go.Proofs.YtmidgcldljfkcaaGreatDoor
