/- What the program reckons at a node; plain. -/
import Derived.Test.YtkmclcmnoicagaaGreatDoorT17
namespace Go.Proofs.YtkmclcmnoicagaaGreatDoor
set_option maxRecDepth 100000
set_option maxHeartbeats 128000000
open Go.RowKit
theorem Qan {N:Nat}(h:N<=64):(18446744073709551615:Int) / 2^(64 - N)=((Zl N:Nat):Int):=by
 have e:∀k:Fin 65,(18446744073709551615:Int) / 2^(64 - k.val)=((Zl k.val:Nat):Int):=by decide+kernel
 exact e ⟨N,by omega⟩
def Zw(md:Md)(n:Nd):Bool :=
 if n.op=3 then decide (n.i < md.val.length)else if n.op<=8 then true else if n.op<=10 then decide (n.i < md.rel.length)
 else if n.op<=13 then decide (n.g < ((2^md.rel.length:Nat):Int))else false
def Yp(md:Md)(n:Nd)(x y:Nat):Nat:=if Zw md n=true then Qjf md n x y else 0
theorem Qex {rl:List (List Nat)} {n:Nat}(hw:∀r∈rl,∀s∈r,s < 2^n) {gn i s a:Nat} {meet:Bool}(hs:s < 2^n):Fa rl gn meet i s a < 2^n:=by
 unfold Fa
 split
 ·split
  ·exact Nat.lt_of_le_of_lt Nat.and_le_left hs
  refine Nat.or_lt_two_pow hs ?_;by_cases ha:a < rl.length
  ·have hm:rl.getD a []∈rl:=by rw [Qk,Qv ha];exact List.getElem_mem ha
   by_cases hi:i < (rl.getD a []).length
   ·refine hw _ hm _ ?_;rw [Qk (l:=rl.getD a []),Qv hi];exact List.getElem_mem hi
   rw [Qk (l:=rl.getD a []),List.getElem?_eq_none (by omega)];exact Nat.two_pow_pos n
  rw [Qk (l:=rl),List.getElem?_eq_none (by omega)];exact Nat.two_pow_pos n
 exact hs
theorem Qaf(n:Nat):Zl n < 2^n:=by
 unfold Zl;have:=Nat.two_pow_pos n;omega
theorem Qek {rl:List (List Nat)} {n:Nat}(hw:∀r∈rl,∀s∈r,s < 2^n) {gn i:Nat} {meet:Bool} :Vt rl gn meet n i < 2^n:=by
 unfold Vt;have:∀k,(List.range k).foldl (Fa rl gn meet i) (if meet then Zl n else 0) < 2^n:=fun k=>by
  induction k with
  |zero =>
   cases meet
   ·exact Nat.two_pow_pos n
   exact Qaf n
  |succ k ih=>rw [Vi];exact Qex hw ih
 exact this _
theorem Hx {r:List Nat} {N:Nat}(hl:r.length=N)(hN:N<=64)(h:∀s∈r,s < 2^N):Yb r.length r=0:=by
 have hb:Zx r r.length=false:=List.any_eq_false.2 fun s hs=>by rw [hl];simpa using h s hs
 have:=Ul.2 ⟨by omega,hb⟩;unfold Xb at this
 simpa using this
theorem Qe8 {md:Md}(h:Zy md=0):∀r∈md.rel,∀s∈r,s < 2^md.n.toNat:=fun r hr s hs=>by
 obtain⟨_,_,_,_,_,_,hlow⟩:=Jv h;have:=List.any_eq_false.1 (hlow r hr) s hs
 simpa using this
theorem Qtx {r:List Nat} {n x:Nat}(hn:n<=64)(hb:∀u v,(r.getD u 0).testBit v=true->u < n/\v < n):Kj r n (Zl 64^^^x)=Kj r n (Yc (Zl n) x):=by
 refine Nat.eq_of_testBit_eq fun i=> ?_
 rw [Bool.eq_iff_iff,Rq,Rq];refine and_congr_right fun _=>forall_congr' fun v=>imp_congr_right fun hv=> ?_
 have hv2:=(hb i v hv).2;rw [Nat.testBit_xor,Xy,Gz,Xy,decide_eq_true (show v < 64 by omega),decide_eq_true hv2];cases x.testBit v <;> simp
theorem Dt {md:Md}(h:Zy md=0)(a:Nat):∀u v,((md.rel.getD a []).getD u 0).testBit v=true->u < md.n.toNat/\v < md.n.toNat:=by
 intro u v hb;by_cases ha:a < md.rel.length
 ·have hm:md.rel.getD a []∈md.rel:=by
   rw [Qk,Qv ha];exact List.getElem_mem _
  obtain⟨hv,_⟩:=Oh h hm;have hl:=(Jv h).2.2.2.2.1 _ hm;have hl2:(md.rel.getD a []).length=md.n.toNat:=by omega
  by_cases hu:u < md.n.toNat
  ·have:=(Ns.start (eu:=true) hl2 (by rw [<-hl2];exact(Ul.1 hv).2)).lt u hu;exact⟨hu,Vm this hb⟩
  rw [Qk,List.getElem?_eq_none (by omega)]at hb;simp at hb
 have e:md.rel.getD a []= []:=by rw [Qk,List.getElem?_eq_none (by omega)];rfl
 rw [e]at hb;simp at hb
theorem Sm {md:Md}(h:Zy md=0)(gn:Nat):∀u v,(((List.range md.n.toNat).map (Vt md.rel gn false md.n.toNat)).getD u 0).testBit v=true->u < md.n.toNat/\v < md.n.toNat:=by
 intro u v hb;by_cases hu:u < md.n.toNat
 ·rw [Ii _ _ _ _ _ hu,Io]at hb;obtain⟨a,_,_,h3⟩:=hb;exact⟨hu,(Dt h a u v h3).2⟩
 rw [Qk,List.getElem?_eq_none (by simp;omega)]at hb;simp at hb
def IsW(md:Md)(s:Nat)(t:Tr):Prop:=∀w:Fin md.n.toNat,s.testBit w.1=true↔(Kd md).sat t w
theorem Qah {md:Md}(h:Zy md=0) {n:Nd} {s:Nat} {t:Tr}(hi:0<=n.i/\n.i < md.rel.length)(hs:IsW md s t)(h9:n.op=9):IsW md (Kj (md.rel.getD n.i.toNat []) md.n.toNat s) (.one n t):=by
 intro w;rw [Rq];show _↔(if n.op=4 then _ else if n.op=9 then _ else _);rw [if_neg (by omega),if_pos h9];constructor
 ·rintro⟨_,hb⟩ v hv;refine(hs v).1 (hb v.1 ?_);have hv':(if 0<=n.i/\n.i < md.rel.length then Pe (md.rel.getD n.i.toNat []) md.n.toNat w v else w=v):=hv;rw [if_pos hi]at hv';exact hv'
 intro hf;refine⟨w.2,fun v hv=> ?_⟩;have hvn:=(Dt h n.i.toNat w.1 v hv).2;refine(hs ⟨v,hvn⟩).2 (hf ⟨v,hvn⟩ ?_);show(if 0<=n.i/\n.i < md.rel.length then Pe (md.rel.getD n.i.toNat []) md.n.toNat w ⟨v,hvn⟩else _);rw [if_pos hi];exact hv
theorem Qa7 {md:Md}(h:Zy md=0) {n:Nd} {s:Nat} {t:Tr}(hi:0<=n.i/\n.i < md.rel.length)(hs:IsW md s t)(h9:n.op=10):
 IsW md (Yc (Zl md.n.toNat) (Kj (md.rel.getD n.i.toNat []) md.n.toNat (Yc (Zl md.n.toNat) s))) (.one n t):=by
 intro w;rw [Qa6 _ _ _ _ (fun v hv=>(Dt h _ _ v hv).2)];show _↔(if n.op=4 then _ else if n.op=9 then _ else if n.op=10 then _ else _);rw [if_neg (by omega),if_neg (by omega),if_pos h9];constructor
 ·rintro⟨_,v,hv,hb⟩;have hvn:=(Dt h n.i.toNat w.1 v hv).2;refine⟨⟨v,hvn⟩,?_,(hs ⟨v,hvn⟩).1 hb⟩;show(if 0<=n.i/\n.i < md.rel.length then Pe (md.rel.getD n.i.toNat []) md.n.toNat w ⟨v,hvn⟩else _);rw [if_pos hi];exact hv
 rintro⟨v,hv,hb⟩;have hv':(if 0<=n.i/\n.i < md.rel.length then Pe (md.rel.getD n.i.toNat []) md.n.toNat w v else w=v):=hv;rw [if_pos hi]at hv';exact⟨w.2,v.1,hv',(hs v).2 hb⟩
theorem Rk {md:Md} {g:Int}(hg:g.toNat < 2^md.rel.length) {i:Nat}(hi:Yl g i=true):i < md.rel.length:=Vm hg hi
theorem kmR {md:Md} {i:Nat}(hi:i < md.rel.length)(u v:Fin md.n.toNat):(Kd md).R (i:Int) u v↔((md.rel.getD i []).getD u.1 0).testBit v.1=true:=by
 show(if 0<=(i:Int)/\(i:Int) < md.rel.length then Pe (md.rel.getD (i:Int).toNat []) md.n.toNat u v else u=v)↔_;rw [if_pos (by omega),Int.toNat_natCast];rfl
theorem Qeg {md:Md}(h:Zy md=0) {n:Nd} {s:Nat} {t:Tr}(hg:n.g.toNat < 2^md.rel.length)(hs:IsW md s t)(h9:n.op=11):
 IsW md (Kj ((List.range md.n.toNat).map (Vt md.rel n.g.toNat false md.n.toNat)) md.n.toNat s) (.one n t):=by
 intro w;rw [Rq];show _↔(if n.op=4 then _ else if n.op=9 then _ else if n.op=10 then _ else if n.op=11 then _ else _);rw [if_neg (by omega),if_neg (by omega),if_neg (by omega),if_pos h9,Ii _ _ _ _ _ w.2];have h4:=(Jv h).2.2.1;constructor
 ·rintro⟨_,hb⟩ i hi hgi v hv;exact(hs v).1 (hb v.1 ((Io ..).2 ⟨i,Rk hg hgi,hgi,(kmR (Rk hg hgi) w v).1 hv⟩))
 intro hf;refine⟨w.2,fun v hv=> ?_⟩;obtain⟨i,hi,hgi,hr⟩:=(Io ..).1 hv;have hvn:=(Dt h i w.1 v hr).2;exact(hs ⟨v,hvn⟩).2 (hf i (by omega) hgi ⟨v,hvn⟩ ((kmR hi w ⟨v,hvn⟩).2 hr))
theorem Lh {md:Md}(h:Zy md=0) {g:Int} {c:Nat} {t:Tr}(hg:g.toNat < 2^md.rel.length)(hc:IsW md c t)(u v:Fin md.n.toNat):
 Uw ((List.range md.n.toNat).map (Vt md.rel g.toNat false md.n.toNat)) c u.1 v.1↔(Kd md).step g ((Kd md).sat t) u v:=by
 unfold Uw KM.step;rw [Ii _ _ _ _ _ u.2,Io,hc v];have h4:=(Jv h).2.2.1;refine and_congr ⟨?_,?_⟩ Iff.rfl
 ·rintro⟨a,ha,hga,hr⟩;exact⟨a,by omega,hga,(kmR ha u v).2 hr⟩
 rintro⟨a,_,hga,hr⟩;exact⟨a,Rk hg hga,hga,(kmR (Rk hg hga) u v).1 hr⟩
theorem Qir {md:Md}(h:Zy md=0) {g:Int} {c:Nat} {t:Tr}(hg:g.toNat < 2^md.rel.length)(hc:IsW md c t) {a b:Nat}(hr:Rch (Uw ((List.range md.n.toNat).map (Vt md.rel g.toNat false md.n.toNat)) c) a b):
 ∀(ha:a < md.n.toNat),∃hb:b < md.n.toNat,Rch ((Kd md).step g ((Kd md).sat t)) (⟨a,ha⟩:Fin md.n.toNat) (⟨b,hb⟩:Fin md.n.toNat):=by
 induction hr with
 |one hs=>exact fun ha=>⟨(Sm h _ _ _ hs.1).2,.one ((Lh h hg hc ⟨_,ha⟩ ⟨_,(Sm h _ _ _ hs.1).2⟩).1 hs)⟩
 |cons hs _ ih =>
  intro ha;obtain⟨hb,hr2⟩:=ih (Sm h _ _ _ hs.1).2;exact⟨hb,.cons ((Lh h hg hc ⟨_,ha⟩ ⟨_,(Sm h _ _ _ hs.1).2⟩).1 hs) hr2⟩
theorem Qhz {md:Md}(h:Zy md=0) {g:Int} {c:Nat} {t:Tr}(hg:g.toNat < 2^md.rel.length)(hc:IsW md c t) {a b:Fin md.n.toNat}(hr:Rch ((Kd md).step g ((Kd md).sat t)) a b):
 Rch (Uw ((List.range md.n.toNat).map (Vt md.rel g.toNat false md.n.toNat)) c) a.1 b.1:=by
 induction hr with
 |one hs=>exact .one ((Lh h hg hc _ _).2 hs)
 |cons hs _ ih=>exact .cons ((Lh h hg hc _ _).2 hs) ih
theorem Qn4 {md:Md}(h:Zy md=0) {n:Nd} {c s:Nat} {t1 t2:Tr}(hg:n.g.toNat < 2^md.rel.length)(hc:IsW md c t1)(hs:IsW md s t2)(h9:n.op=13):
 IsW md (Gb ((List.range md.n.toNat).map (Vt md.rel n.g.toNat false md.n.toNat)) md.n.toNat c s) (.two n t1 t2):=by
 intro w;unfold Gb;rw [Df,Bool.and_eq_true,decide_eq_true_iff,Vg];show _↔(if n.op=5 then _ else if n.op=6 then _ else if n.op=7 then _ else if n.op=8 then _ else if n.op=13 then _ else _);rw [if_neg (by omega),if_neg (by omega),if_neg (by omega),if_neg (by omega),if_pos h9];constructor
 ·rintro⟨_,hb⟩ v hv;exact(hs v).1 (hb v.1 ((Om (Sm h _)).2 (Qhz h hg hc hv)))
 intro hf;refine⟨w.2,fun v hv=> ?_⟩;obtain⟨hvn,hr⟩:=Qir h hg hc ((Om (Sm h _)).1 hv) w.2;exact(hs ⟨v,hvn⟩).2 (hf ⟨v,hvn⟩ hr)
theorem Qwa {md:Md} {n:Nd}(h:n.op=1)(x y:Nat):IsW md (Re n.op x y (Zl md.n.toNat)) (.leaf n):=by
 intro w;show _↔(n.op=1\/_);unfold Re;rw [if_pos h,Xy];exact⟨fun _=>Or.inl h,fun _=>decide_eq_true w.2⟩
theorem Qac {md:Md} {n:Nd}(h:n.op=2)(x y:Nat):IsW md (Re n.op x y (Zl md.n.toNat)) (.leaf n):=by
 intro w;show _↔(n.op=1\/(n.op=3/\_));rw [h];show(Re 2 x y (Zl md.n.toNat)).testBit w.1=true↔_;rw [show Re 2 x y (Zl md.n.toNat)=0 from rfl,Nat.zero_testBit];simp
theorem Qp3 {md:Md} {n:Nd}(h:n.op=3):IsW md (md.val.getD n.i.toNat 0) (.leaf n):=by
 intro w;show _↔(n.op=1\/(n.op=3/\(md.val.getD n.i.toNat 0).testBit w.1=true));rw [h];simp
theorem Qeo {md:Md} {n:Nd} {x y:Nat} {t:Tr}(h:n.op=4)(hx:IsW md x t):IsW md (Re n.op x y (Zl md.n.toNat)) (.one n t):=by
 intro w;show _↔(if n.op=4 then ¬(Kd md).sat t w else _);rw [if_pos h,<-hx w,h];show(Yc (Zl md.n.toNat) x).testBit w.1=true↔_;rw [Gz,Xy,decide_eq_true w.2];simp
theorem Qqn {md:Md} {n:Nd} {x y:Nat} {t1 t2:Tr}(h:n.op=5\/n.op=6\/n.op=7\/n.op=8)(hx:IsW md x t1)(hy:IsW md y t2):IsW md (Re n.op x y (Zl md.n.toNat)) (.two n t1 t2):=by
 intro w;have h1:=hx w;have h2:=hy w;show _↔(if n.op=5 then(Kd md).sat t1 w/\(Kd md).sat t2 w else if n.op=6 then(Kd md).sat t1 w\/(Kd md).sat t2 w else if n.op=7 then(Kd md).sat t1 w->(Kd md).sat t2 w else if n.op=8 then((Kd md).sat t1 w↔(Kd md).sat t2 w)else _);rw [<-h1,<-h2];rcases h with h|h|h|h <;> rw [h]
 ·show(x&&&y).testBit w.1=true↔_;rw [Nat.testBit_and];cases x.testBit w.1 <;> cases y.testBit w.1 <;> simp
 ·show(x|||y).testBit w.1=true↔_;rw [Nat.testBit_or];cases x.testBit w.1 <;> cases y.testBit w.1 <;> simp
 ·show(Yc (Zl md.n.toNat) x|||y).testBit w.1=true↔_;rw [Nat.testBit_or,Gz,Xy,decide_eq_true w.2];cases x.testBit w.1 <;> cases y.testBit w.1 <;> simp
 show(Yc (Zl md.n.toNat) (x^^^y)).testBit w.1=true↔_;rw [Gz,Xy,decide_eq_true w.2,Nat.testBit_xor];cases x.testBit w.1 <;> cases y.testBit w.1 <;> simp
theorem Qkk(rl:List (List Nat))(gn i v:Nat):∀(k s:Nat),(((List.range k).foldl (Fa rl gn true i) s).testBit v=true↔s.testBit v=true/\∀a,a < k->gn.testBit a=true->((rl.getD a []).getD i 0).testBit v=true)
 |0,s=>by simp
 |k+1,s=>by
  rw [Vi];have ih:=Qkk rl gn i v k s;obtain⟨t,ht⟩:∃t,t=(List.range k).foldl (Fa rl gn true i) s:=⟨_,rfl⟩;rw [<-ht]at ih⊢;unfold Fa;cases hg:gn.testBit k
  ·rw [if_neg (by simp),ih];refine and_congr Iff.rfl ⟨fun h a h1 h2=> ?_,fun h a h1 h2=>h a (by omega) h2⟩;by_cases e:a=k
   ·rw [e,hg]at h2;cases h2
   exact h a (by omega) h2
  rw [if_pos rfl,if_pos rfl,Nat.testBit_and,Bool.and_eq_true,ih];constructor
  ·rintro⟨⟨h1,h2⟩,h3⟩;refine⟨h1,fun a ha hb=> ?_⟩;by_cases e:a=k
   ·rw [e];exact h3
   exact h2 a (by omega) hb
  rintro⟨h1,h2⟩;exact⟨⟨h1,fun a ha hb=>h2 a (by omega) hb⟩,h2 k (by omega) hg⟩
theorem Qg8(rl:List (List Nat))(gn n i v:Nat):(Vt rl gn true n i).testBit v=true↔v < n/\∀a,a < rl.length->gn.testBit a=true->((rl.getD a []).getD i 0).testBit v=true:=by
 unfold Vt;rw [Qkk,if_pos rfl,Xy,decide_eq_true_iff]
theorem Qpp {md:Md}(h:Zy md=0) {n:Nd} {s:Nat} {t:Tr}(hg:n.g.toNat < 2^md.rel.length)(hs:IsW md s t)(h9:n.op=12):
 IsW md (Kj ((List.range md.n.toNat).map (Vt md.rel n.g.toNat true md.n.toNat)) md.n.toNat s) (.one n t):=by
 intro w;rw [Rq];show _↔(if n.op=4 then _ else if n.op=9 then _ else if n.op=10 then _ else if n.op=11 then _ else if n.op=12 then _ else _);rw [if_neg (by omega),if_neg (by omega),if_neg (by omega),if_neg (by omega),if_pos h9,Ii _ _ _ _ _ w.2];have h4:=(Jv h).2.2.1;constructor
 ·rintro⟨_,hb⟩ v hv;exact(hs v).1 (hb v.1 ((Qg8 ..).2 ⟨v.2,fun a ha hga=>(kmR ha w v).1 (hv a (by omega) hga)⟩))
 intro hf;refine⟨w.2,fun v hv=> ?_⟩;obtain⟨hvn,hv⟩:=(Qg8 ..).1 hv;exact(hs ⟨v,hvn⟩).2 (hf ⟨v,hvn⟩ fun i _ hgi=>(kmR (Rk hg hgi) w ⟨v,hvn⟩).2 (hv i (Rk hg hgi) hgi))
theorem Qmq {md:Md}(h:Zy md=0) {n:Nd} {x y:Nat} {a b:Tr}(hf:Qxd md n)(hx:Qh n.op=true->IsW md x a)(hy:Qc n.op=true->IsW md y b):
 IsW md (Qjf md n x y) (Yv n a b):=by
 have ho:1<=n.op:=by
  have:=hf.head.1;unfold Jk at this;simp at this;omega
 have h13:=hf.op;obtain⟨op,i,e,g,p,q⟩:=n;have hc:op=1\/op=2\/op=3\/op=4\/(op=5\/op=6\/op=7\/op=8)\/op=9\/op=10\/op=11\/op=12\/op=13:=by
  simp at ho h13;omega
 rcases hc with rfl|rfl|rfl|rfl|hc|rfl|rfl|rfl|rfl|rfl
 ·exact Qwa (n:=⟨1,i,e,g,p,q⟩) rfl x y
 ·exact Qac (n:=⟨2,i,e,g,p,q⟩) rfl x y
 ·exact Qp3 (n:=⟨3,i,e,g,p,q⟩) rfl
 ·exact Qeo (n:=Nd.head ⟨4,i,e,g,p,q⟩) (y:=y) rfl (hx rfl)
 ·rcases hc with rfl|rfl|rfl|rfl
  ·exact Qqn (n:=Nd.head ⟨5,i,e,g,p,q⟩) (Or.inl rfl) (hx rfl) (hy rfl)
  ·exact Qqn (n:=Nd.head ⟨6,i,e,g,p,q⟩) (Or.inr (Or.inl rfl)) (hx rfl) (hy rfl)
  ·exact Qqn (n:=Nd.head ⟨7,i,e,g,p,q⟩) (Or.inr (Or.inr (Or.inl rfl))) (hx rfl) (hy rfl)
  exact Qqn (n:=Nd.head ⟨8,i,e,g,p,q⟩) (Or.inr (Or.inr (Or.inr rfl))) (hx rfl) (hy rfl)
 ·exact Qah h (n:=Nd.head ⟨9,i,e,g,p,q⟩) ⟨(Xr hf.head rfl).1,hf.agent (Or.inl rfl)⟩ (hx rfl) rfl
 ·exact Qa7 h (n:=Nd.head ⟨10,i,e,g,p,q⟩) ⟨(Xr hf.head rfl).1,hf.agent (Or.inr rfl)⟩ (hx rfl) rfl
 ·exact Qeg h (n:=Nd.head ⟨11,i,e,g,p,q⟩) (hf.group (show(11:Int)<=11 by decide)).2 (hx rfl) rfl
 ·exact Qpp h (n:=Nd.head ⟨12,i,e,g,p,q⟩) (hf.group (show(11:Int)<=12 by decide)).2 (hx rfl) rfl
 exact Qn4 h (n:=Nd.head ⟨13,i,e,g,p,q⟩) (hf.group (show(11:Int)<=13 by decide)).2 (hx rfl) (hy rfl) rfl
def okP(n:Nd)(fi:List Bool):Bool :=
 (!decide (4<=n.op)||fi.getD n.x.toNat false)&&(!((decide (5<=n.op)&&decide (n.op<=8))||n.op==13)||fi.getD n.y.toNat false)
def atP(md:Md)(f:List Nd)(out:List Nat)(fi:List Bool)(k:Nat):Nat×Bool :=
 if okP (f.getD k Nd.zero) fi=true then(Yp md (f.getD k Nd.zero) (out.getD (f.getD k Nd.zero).x.toNat 0) (out.getD (f.getD k Nd.zero).y.toNat 0),Zw md (f.getD k Nd.zero))else(0,false)
def Jy(md:Md)(f:List Nd):Nat->List Nat×List Bool
 |0=>([],[])
 |k+1=>((Jy md f k).1++ [(atP md f (Jy md f k).1 (Jy md f k).2 k).1],(Jy md f k).2++ [(atP md f (Jy md f k).1 (Jy md f k).2 k).2])
theorem Gw(md:Md)(f:List Nd):∀k,(Jy md f k).1.length=k/\(Jy md f k).2.length=k
 |0=>⟨rfl,rfl⟩
 |k+1=>by
  obtain⟨h1,h2⟩:=Gw md f k;unfold Jy;exact⟨by simp [h1],by simp [h2]⟩
theorem Dm(md:Md)(f:List Nd):∀(m k:Nat),k < m->(Jy md f m).1.getD k 0=(atP md f (Jy md f k).1 (Jy md f k).2 k).1/\(Jy md f m).2.getD k false=(atP md f (Jy md f k).1 (Jy md f k).2 k).2
 |0,k,h=>absurd h (Nat.not_lt_zero _)
 |m+1,k,h=>by
  obtain⟨h1,h2⟩:=Gw md f m;by_cases hk:k < m
  ·have:=Dm md f m k hk;rw [<-this.1,<-this.2];constructor
   ·show((Jy md f m).1++_).getD k 0=_;rw [Qk,Qk,List.getElem?_append_left (by omega)]
   show((Jy md f m).2++_).getD k false=_;rw [Qk,Qk,List.getElem?_append_left (by omega)]
  obtain rfl:k=m:=by omega
  constructor
  ·show((Jy md f k).1++_).getD k 0=_;rw [Qk,List.getElem?_append_right (by omega),h1,Nat.sub_self];rfl
  show((Jy md f k).2++_).getD k false=_;rw [Qk,List.getElem?_append_right (by omega),h2,Nat.sub_self];rfl
theorem Qp6 {md:Md} {n:Nd}(hh:Zn n)(h:Zw md n=true)(hg:11<=n.op->n.op<=13->1<=n.g):Qxd md n:=by
 have hop:=(Sh n.op).1 hh.1;unfold Zw at h;refine⟨hh,?_,fun ho=> ?_,fun ho=> ?_,fun ho=> ?_⟩
 ·by_cases h3:n.op=3
  ·omega
  rw [if_neg h3]at h;by_cases h8:n.op<=8
  ·omega
  rw [if_neg h8]at h;by_cases h10:n.op<=10
  ·omega
  rw [if_neg h10]at h;by_cases h13:n.op<=13
  ·exact h13
  rw [if_neg h13]at h;cases h
 ·rw [if_pos ho]at h;exact of_decide_eq_true h
 ·rw [if_neg (by omega),if_neg (by omega),if_pos (by omega)]at h;exact of_decide_eq_true h
 rw [if_neg (by omega),if_neg (by omega),if_neg (by omega)]at h;by_cases h13:n.op<=13
 ·rw [if_pos h13]at h;have h2:=of_decide_eq_true h;have hg1:=hg ho h13;exact⟨hg1,by omega⟩
 rw [if_neg h13]at h;cases h
theorem Qz2 {f:List Nd} {k:Nat} {n:Nd}(h:f[k]?=some n):f.getD k Nd.zero=n:=by rw [Qk,h];rfl
theorem He:∀(l:List Nd) (s i:Nat),(l.foldl (fun s n=>s|||(Yd n.op).toNat) s).testBit i=true->s.testBit i=true\/∃n∈l,(Yd n.op).toNat.testBit i=true
 |[],_,_,h=>Or.inl h
 |a :: l,s,i,h=>by
  rcases He l (s|||(Yd a.op).toNat) i h with h1|⟨n,hn,h2⟩
  ·rw [Nat.testBit_or,Bool.or_eq_true]at h1;rcases h1 with h1|h1
   ·exact Or.inl h1
   exact Or.inr ⟨a,List.mem_cons_self ..,h1⟩
  exact Or.inr ⟨n,List.mem_cons_of_mem _ hn,h2⟩
theorem Qs4:∀(l:List Nd) (s i:Nat),(l.foldl agS s).testBit i=true->s.testBit i=true\/∃n∈l,(Qe n.op=true/\i=n.i.toNat)\/n.g.toNat.testBit i=true
 |[],_,_,h=>Or.inl h
 |a :: l,s,i,h=>by
  rcases Qs4 l (agS s a) i h with h1|⟨n,hn,h2⟩
  ·unfold agS at h1;rw [Nat.testBit_or,Nat.testBit_or,Bool.or_eq_true,Bool.or_eq_true]at h1;rcases h1 with(h1|h1)|h1
   ·exact Or.inl h1
   ·refine Or.inr ⟨a,List.mem_cons_self ..,Or.inl ?_⟩;cases ha:Qe a.op
    ·rw [ha,if_neg (by simp),Nat.zero_testBit]at h1;cases h1
    rw [ha,if_pos rfl,Nat.testBit_two_pow,decide_eq_true_iff]at h1;exact⟨rfl,h1.symm⟩
   exact Or.inr ⟨a,List.mem_cons_self ..,Or.inr h1⟩
  exact Or.inr ⟨n,List.mem_cons_of_mem _ hn,h2⟩
theorem Qte:∀(l:List Nd) (s i:Nat),(l.foldl faS s).testBit i=true->s.testBit i=true\/∃n∈l,n.op=3/\i=n.i.toNat
 |[],_,_,h=>Or.inl h
 |a :: l,s,i,h=>by
  rcases Qte l (faS s a) i h with h1|⟨n,hn,h2⟩
  ·unfold faS at h1;by_cases ho:a.op=3
   ·rw [if_pos ho,Nat.testBit_or,Bool.or_eq_true,Nat.testBit_two_pow,decide_eq_true_iff]at h1;rcases h1 with h1|h1
    ·exact Or.inl h1
    exact Or.inr ⟨a,List.mem_cons_self ..,ho,h1.symm⟩
   rw [if_neg ho]at h1;exact Or.inl h1
  exact Or.inr ⟨n,List.mem_cons_of_mem _ hn,h2⟩
theorem Qsy {c:List Nd}(hc:check c=0) {k:Nat}(hk:k < c.length):∀n∈Qf (tr c k),∃m∈c,m.head=n.head:=by
 have hP:∀(n:Nd) (k1 k2:Nat),(∃m∈c,m.head=n.head)->∃m∈c,m.head=(n.with_ k1 k2).head:=fun n k1 k2 ⟨m,hm,h⟩=>⟨m,hm,by rw [Ig];exact h⟩
 exact Di (P:=fun n=>∃m∈c,m.head=n.head) hP (tr c k) [] (To (P:=fun n=>∃m∈c,m.head=n.head) hP (Ja hc) (fun n hn=>⟨n,hn,rfl⟩) k hk) (fun n hn=>by cases hn)
theorem Qzi {md:Md} {c:List Nd}(hc:check c=0)(hcc:Qg c=c)(hs:Yw (Jh c) 15=true)(hf:Yg c md.rel.length md.val.length=true) {k:Nat}(hk:k < c.length):Iw md c (k:Int)=true:=by
 have hg:=(Qke hc hk).2.1;have htk:(tr c k).ok:=Qxp (Ja hc) k hk;have hce:Qg (Jb c (k:Int))=Qf (tr c k):=by
  rw [Ko hg,Fs hc hk,Vf htk]
 have hh:=Qsy hc hk;unfold Yg at hf;rw [Bool.and_eq_true,Bool.and_eq_true,List.all_eq_true,List.all_eq_true,hcc]at hf;unfold Iw;rw [Bool.and_eq_true];refine⟨?_,?_⟩
 ·rw [Vg]at hs⊢;intro i hi;unfold Jh Kq at hi;rw [hce]at hi;rcases He _ _ _ hi with h|⟨n,hn,h⟩
  ·rw [Nat.zero_testBit]at h;cases h
  obtain⟨m,hm,e⟩:=hh n hn;refine hs i ?_;unfold Jh Kq;rw [hcc];exact(Ha c 0).2 m hm i (by rw [(Np e).1];exact h)
 unfold Yg;rw [Bool.and_eq_true,Bool.and_eq_true,List.all_eq_true,List.all_eq_true,hce];refine⟨by rw [hg];rfl,fun i hi=> ?_,fun i hi=> ?_⟩
 ·have h1:=hf.2.1 i hi;unfold Kb at h1⊢;rw [Bool.or_eq_true]at h1⊢;rcases h1 with h1|h1
  ·refine Or.inl ?_;cases hb:(Jn (Qf (tr c k))).testBit i
   ·rfl
   exfalso
   rcases Qs4 _ _ _ hb with h|⟨n,hn,h⟩
   ·rw [Nat.zero_testBit]at h;cases h
   obtain⟨m,hm,e⟩:=hh n hn;have:=(Qj0 c 0).2 m hm i (by rw [(Np e).1,(Np e).2.1,(Np e).2.2];exact h);unfold Jn at h1;rw [this]at h1;cases h1
  exact Or.inr h1
 have h1:=hf.2.2 i hi;unfold Kb at h1⊢;rw [Bool.or_eq_true]at h1⊢;rcases h1 with h1|h1
 ·refine Or.inl ?_;cases hb:(Je (Qf (tr c k))).testBit i
  ·rfl
  exfalso
  rcases Qte _ _ _ hb with h|⟨n,hn,h⟩
  ·rw [Nat.zero_testBit]at h;cases h
  obtain⟨m,hm,e⟩:=hh n hn;have:=(Qj9 c 0).2 m hm i (by rw [(Np e).1,(Np e).2.1];exact h);unfold Je at h1;rw [this]at h1;cases h1
 exact Or.inr h1
def Fq(md:Md):Tr->Bool
 |.leaf n=>Zw md n
 |.one n a=>Zw md n&&Fq md a
 |.two n a b=>Zw md n&&(Fq md a&&Fq md b)
theorem Qyy(md:Md)(n:Nd):Zw md n.head=Zw md n:=rfl
theorem Qp5(md:Md)(n:Nd)(a b:Tr):Fq md (Yv n a b)=(Zw md n&&((!Qh n.op||Fq md a)&&(!Qc n.op||Fq md b))):=by
 unfold Yv;cases hy:Qc n.op
 ·cases hx:Qh n.op
  ·simp [Fq]
  simp [Fq,Qyy]
 have hx:Qh n.op=true:=Vz hy;simp [Fq,Qyy,hx]
theorem Qgm {md:Md} {n:Nd}(h:Zw md n=true):n.op<=13:=by
 unfold Zw at h;by_cases h3:n.op=3
 ·omega
 rw [if_neg h3]at h;by_cases h8:n.op<=8
 ·omega
 rw [if_neg h8]at h;by_cases h10:n.op<=10
 ·omega
 rw [if_neg h10]at h;by_cases h13:n.op<=13
 ·exact h13
 rw [if_neg h13]at h;cases h
theorem Qt6 {md:Md} {f:List Nd}(hc:check f=0):∀k,k < f.length->(atP md f (Jy md f k).1 (Jy md f k).2 k).2=Fq md (tr f k):=by
 intro k
 induction k using Nat.strongRecOn with
 |_ k ih =>
  intro hk;obtain⟨n,hn⟩:∃n,f[k]?=some n:=⟨_,Qv hk⟩;obtain⟨hx,hy⟩:=Ja hc k n hn;rw [Vo (Ja hc) hn,Qp5];unfold atP;rw [Qz2 hn];cases hf:Zw md n
  ·rw [Bool.false_and]
   split
   ·rfl
   rfl
  have h13:=Qgm hf;have e:okP n (Jy md f k).2=((!Qh n.op||Fq md (tr f n.x.toNat))&&(!Qc n.op||Fq md (tr f n.y.toNat))):=by
   unfold okP
   congr 1
   ·have e1:decide (4<=n.op)=Qh n.op:=by unfold Qh;rw [decide_eq_true (show n.op<=21 by omega),Bool.and_true]
    rw [e1];cases h:Qh n.op
    ·rfl
    have hb:=hx h;rw [(Dm md f k _ (by omega)).2,ih _ (by omega) (by omega)]
   have e1:((decide (5<=n.op)&&decide (n.op<=8))||n.op==13)=Qc n.op:=by
    unfold Qc;rw [show(n.op==14)=false by simp;omega,show(n.op==16)=false by simp;omega,show(n.op==19)=false by simp;omega,show(n.op==21)=false by simp;omega];simp
   rw [e1];cases h:Qc n.op
   ·rfl
   have hb:=hy h;rw [(Dm md f k _ (by omega)).2,ih _ (by omega) (by omega)]
  rw [<-e,Bool.true_and];cases ho:okP n (Jy md f k).2
  ·rfl
  rfl
theorem Qp8 {md:Md} {n:Nd}(h:Qxd md n):Zw md n=true:=by
 unfold Zw;by_cases h3:n.op=3
 ·rw [if_pos h3];exact decide_eq_true (h.fact h3)
 rw [if_neg h3];by_cases h8:n.op<=8
 ·rw [if_pos h8]
 rw [if_neg h8];by_cases h10:n.op<=10
 ·rw [if_pos h10];exact decide_eq_true (h.agent (by omega))
 rw [if_neg h10,if_pos h.op];have:=h.group (by omega);exact decide_eq_true (by omega)
theorem Pv {md:Md} :∀{t:Tr},t.all (fun n=>Zw md n=true)->Fq md t=true
 |.leaf n,h=>h
 |.one n a,h=>by unfold Fq;rw [h.1,Pv h.2];rfl
 |.two n a b,h=>by unfold Fq;rw [h.1,Pv h.2.1,Pv h.2.2];rfl
theorem Qps {md:Md} {f:List Nd}(h:Jr md f=0):Fq md (Ql f)=true:=by
 obtain⟨hck,hc,hs,hf⟩:=Ya h;have h2:=Gd hc;have hcc:=Ky hc;have hs2:Yw (Jh (Qg f)) 15=true:=by unfold Jh at hs⊢;rw [h2];exact hs
 have hf2:Yg (Qg f) md.rel.length md.val.length=true:=by
  unfold Yg at hf⊢;rw [h2,hcc];rw [hc]at hf;exact hf
 rw [<-Vc hc];refine Pv (To (P:=fun n=>Zw md n=true) (fun n k1 k2 h=>h) (Ja hcc) (fun n hn=> ?_) _ (by have:=(Zm hcc).1;omega));obtain⟨k,hk⟩:=List.mem_iff_getElem?.1 hn;have hkl:=(List.getElem?_eq_some_iff.1 hk).1;exact Qp8 (Qt8 hcc hk (Qzi hcc h2 hs2 hf2 hkl) (Jv hck).2.2.1)
def Fe(md:Md)(f:List Nd):Nat:=(Jy md f f.length).1.getD (f.length - 1) 0
theorem Qlb {n:Nd}(h:Zn n)(h1:11<=n.op)(h2:n.op<=13):1<=n.g:=by
 obtain⟨_,_,h3,_,_⟩:=h;unfold Jg at h3;rcases(show n.op=11\/n.op=12\/n.op=13 by omega)with ho|ho|ho <;>(rw [ho]at h3;simp [Qr,Zk,Qe,Qw,Zz]at h3;omega)
theorem Qp7 {md:Md} {f:List Nd}(hck:Zy md=0)(hc:check f=0):∀k,k < f.length->
 (atP md f (Jy md f k).1 (Jy md f k).2 k).2=true->IsW md (atP md f (Jy md f k).1 (Jy md f k).2 k).1 (tr f k):=by
 intro k
 induction k using Nat.strongRecOn with
 |_ k ih =>
  intro hk hfi;obtain⟨n,hn⟩:∃n,f[k]?=some n:=⟨_,Qv hk⟩;have hm:=List.mem_of_getElem? hn;have hh:=Dx hc n hm;obtain⟨hx,hy⟩:=Ja hc k n hn;unfold atP at hfi⊢;rw [Qz2 hn]at hfi⊢;by_cases ho:okP n (Jy md f k).2=true
  ·rw [if_pos ho]at hfi⊢;have hfi2:Zw md n=true:=hfi;have h13:=Qgm hfi2;rw [Vo (Ja hc) hn];show IsW md (Yp md n _ _) _;unfold Yp;rw [if_pos hfi2];unfold okP at ho;rw [Bool.and_eq_true]at ho;refine Qmq hck (Qp6 hh hfi2 (fun h h'=>Qlb hh h h')) (fun h=> ?_) (fun h=> ?_)
   ·have hb:=hx h;have h4:4<=n.op:=by unfold Qh at h;rw [Bool.and_eq_true]at h;exact of_decide_eq_true h.1
    have h5:=ho.1;rw [decide_eq_true h4,Bool.not_true,Bool.false_or]at h5;rw [(Dm md f k _ (by omega)).1];rw [(Dm md f k _ (by omega)).2]at h5;exact ih _ (by omega) (by omega) h5
   have hb:=hy h;have h58:((decide (5<=n.op)&&decide (n.op<=8))||n.op==13)=true:=by
    unfold Qc at h;simp only [Bool.or_eq_true,Bool.and_eq_true,decide_eq_true_eq,beq_iff_eq]at h⊢;omega
   have h5:=ho.2;rw [h58,Bool.not_true,Bool.false_or]at h5;rw [(Dm md f k _ (by omega)).1];rw [(Dm md f k _ (by omega)).2]at h5;exact ih _ (by omega) (by omega) h5
  rw [if_neg ho]at hfi;cases hfi
theorem Pg {md:Md} {f:List Nd}(h:Jr md f=0):IsW md (Fe md f) (Ql f):=by
 obtain⟨hck,hc,_,_⟩:=Ya h;have hp:=(Zm hc).1;unfold Fe;rw [(Dm md f f.length (f.length - 1) (by omega)).1];refine Qp7 hck hc (f.length - 1) (by omega) ?_;rw [Qt6 hc _ (by omega)];exact Qps h
def Tg {α:Type}(p:α->Bool)(l:List α):Int:=match l.findIdx? p with|none=> -1|some j=>j
theorem Qv5 {α:Type} {p:α->Bool} {l:List α} {k:Nat} {s:α}(h:l[k]?=some s)(hp:p s=true)(hn:∀t∈l.take k,p t=false):Tg p l=(k:Int):=by
 have:l.findIdx? p=some k:=by
  induction l generalizing k with
  |nil=>simp at h
  |cons a r ih =>
   cases k with
   |zero =>
    simp only [List.getElem?_cons_zero,Option.some.injEq]at h;subst h;rw [List.findIdx?_cons,hp];rfl
   |succ k =>
    have ha:p a=false:=hn a (by simp);rw [List.findIdx?_cons,ha,ih (k:=k) (by simpa using h) (fun t ht=>hn t (by simp [ht]))];rfl
 unfold Tg;rw [this]
theorem Hp {α:Type} {p:α->Bool} {l:List α}(hn:∀t∈l,p t=false):Tg p l= -1:=by
 have:l.findIdx? p=none:=by
  induction l with
  |nil=>simp
  |cons a r ih=>rw [List.findIdx?_cons,hn a (by simp),ih (fun t ht=>hn t (by simp [ht]))];rfl
 unfold Tg;rw [this]
theorem Qv4 {α:Type}(p:α->Bool)(l:List α):decide (0<=Tg p l)=l.any p:=by
 by_cases h:∃t∈l,p t=true
 ·obtain⟨t,ht,hp⟩:=h;have e:∃j,l.findIdx? p=some j:=by
   cases hj:l.findIdx? p with
   |some j=>exact⟨j,rfl⟩
   |none=>exact absurd hp (by rw [List.findIdx?_eq_none_iff.1 hj t ht];simp)
  obtain⟨j,hj⟩:=e;rw [show l.any p=true from List.any_eq_true.2 ⟨t,ht,hp⟩];unfold Tg;rw [hj];exact decide_eq_true (Int.natCast_nonneg j)
 have hn:∀t∈l,p t=false:=fun t ht=>by
  cases e:p t
  ·rfl
  exact absurd ⟨t,ht,e⟩ h
 rw [Hp hn,show l.any p=false from List.any_eq_false.2 (fun t ht=>by rw [hn t ht];simp)];rfl
theorem Qy3 {α:Type} {l:List α} {k:Nat} {s:α}(h:l[k]?=some s):l.take (k+1)=l.take k++ [s]:=by
 rw [List.take_add_one,h];rfl
theorem Qr8 {α:Type} {l:List α} {k:Nat} {s:α}(h:l[k]?=some s):s∈l:=List.mem_of_getElem? h
theorem Lb(n:Nat)(h:n<=64)(w:World):Calls Tryz.prog 115 #[.int .i64 (n:Int)] w fun e w'=>e=.returned (.int .u64 ((Zl n:Nat):Int))/\w=w':=by
 by_cases h64:n=64
 ·subst h64;go_enter Tryz.func115,Tryz.ntmps115;go_wp2_with fail;go_ret;exact⟨rfl,rfl⟩
 have hn:n < 64:=by omega
 have hn1:¬(64:Int)<=(n:Int):=by omega
 have hmin:min n 64=n:=by omega
 have HW:=Qq (Ec hn);clear h64 h;go_enter Tryz.func115,Tryz.ntmps115;go_wp2_with fail;go_ret;exact⟨by rw [<-show((2^n - 1:Nat):Int)=((Zl n:Nat):Int)from rfl,<-HW.out] <;> rfl,rfl⟩
theorem Qsz(n:Nat)(h:n<=64)(w:World):Calls Tryz.prog 94 #[.int .i64 (n:Int)] w fun e w'=>e=.returned (.int .u64 ((Zl n:Nat):Int))/\w=w':=by
 by_cases h64:n=64
 ·subst h64;go_enter Tryz.func94,Tryz.ntmps94;go_wp2_with fail;go_ret;exact⟨rfl,rfl⟩
 have hn:n < 64:=by omega
 have hn1:¬(64:Int)<=(n:Int):=by omega
 have hmin:min n 64=n:=by omega
 have HW:=Qq (Ec hn);clear h64 h;go_enter Tryz.func94,Tryz.ntmps94;go_wp2_with fail;go_ret;exact⟨by rw [<-show((2^n - 1:Nat):Int)=((Zl n:Nat):Int)from rfl,<-HW.out] <;> rfl,rfl⟩
theorem Dr(v:Value)(l:List Nat)(w:World)(h:Ji w v l)(hw:∀s∈l,Zj s):
 Calls Tryz.prog 113 #[.int .i64 (l.length:Int),v] w fun e w'=>e=.returned (.int .i64 (Yb l.length l))/\Ext w w':=by
 obtain⟨A,c,rfl,hlc,hcm,HL⟩:=Gc h;have HWD:=Qq hw;unfold maxLen at hcm;clear h hw;by_cases hn:l.length<=64
 ·have hn1:¬(64:Int) < (l.length:Int):=by omega
  have HC:=Qq (show Yb l.length l=if Zx l l.length then 1 else 0 by unfold Yb;rw [if_neg (by omega),if_neg (by simp)];rfl);obtain⟨n,hne⟩:∃n,n=l.length:=⟨_,rfl⟩;have HN:=Qq hne;rw [<-hne]at HC hn;rw [<-hne];have hn2:¬(64:Int) < (n:Int):=by omega
  have hne2:((n:Int) !=(n:Int))=false:=by simp
  have hlen:l.length=n:=hne.symm;clear hne hn1;go_enter Tryz.func113,Tryz.ntmps113;go_wp2_with fail;go_loopw [19] (fun v wr=>∃k:Nat,v=.int .i64 (k:Int)/\k<=n/\Hid (Ext w wr/\∀j,j < k->decide (l.getD j 0 < 2^n)=true)) (fun v _=>n - (intOf v).toNat)
  case atStart=>exact⟨0,rfl,Nat.zero_le _,Qq ⟨Qz,fun j hj=>absurd hj (by omega)⟩⟩
  case round =>
   obtain⟨k,rfl,hk,HREL⟩:=hrel;have HX:=Qq HREL.out.1;have HJ:=Qq HREL.out.2;clear HREL;by_cases hlt2:k < n
   ·have hk1:(k:Int) < (n:Int):=by omega
    obtain⟨ad,rfl,hadl,hc⟩:=HL.out k (by omega);have a0:=(HX.out.cell (p:=ad.add k) (Qj hadl)).trans hc;have al:(ad.add k).block < wr.heap.size:=by rw [Qp];exact Qy hadl HX.out.size
    have HNX:=Qq (show decide (l.getD k 0 < 2^n)=true->∀j,j < k+1->decide (l.getD j 0 < 2^n)=true from fun h=>Be (P:=fun j=>decide (l.getD j 0 < 2^n)=true) HJ.out h);have HHT:=Qq (show decide (l.getD k 0 < 2^n)=false->Zx l n=true from Hj (by omega));have hout:=Qqv (n:=n) (Fd HWD.out k) hn;obtain⟨sx,hsx⟩:∃s,s=l.getD k 0:=⟨_,rfl⟩;rw [<-hsx]at a0 hout HNX HHT;clear hc hsx;cases hd:decide (sx < 2^n)
    ·rw [hd]at hout;have HD:=Qq hd;clear hd;have HE:=Qq (HHT.out HD.out);go_wp2_with(go_at_call 115;refine(Lb n hn _).mono ?_;rintro e w3 ⟨rfl,rfl⟩);go_ret;exact⟨by rw [HC.out,HE.out] <;> rfl,HX.out⟩
    rw [hd]at hout;have HD:=Qq hd;clear hd;have HP:=Qq (HNX.out HD.out);go_wp2_with(go_at_call 115;refine(Lb n hn _).mono ?_;rintro e w3 ⟨rfl,rfl⟩);go_roundw
    case rel=>exact⟨k+1,by go_num,by omega,Qq ⟨HX.out,HP.out⟩⟩
    case measure=>simp [intOf];omega
   obtain rfl:n=k:=by omega
   have HE:=Qq (show Zx l n=false from Pa (by rw [hlen];exact HJ.out));go_wp2_with fail;go_ret;exact⟨by rw [HC.out,HE.out] <;> rfl,HX.out⟩
 have hn1:(64:Int) < (l.length:Int):=by omega
 have HC:=Qq (show Yb l.length l=2 by unfold Yb;rw [if_pos (by omega)]);go_enter Tryz.func113,Tryz.ntmps113;go_wp2_with fail;go_ret;exact⟨by rw [HC.out] <;> rfl,Qz⟩
theorem Qre(g:Nat)(lb:Array Value)(eg:∀args w,(callFunc g args).run Tryz.prog w=.ok (.enter g args) w)(p:Nat->Bool)(v:Value)(l:List (Nat))(w:World)(h:Ji w v l)
 (hp:∀(W:World) (s:Nat),s∈l->Ext w W->Calls Tryz.prog g (#[.int .u64 (s:Int)]++lb) W fun e w'=>e=.returned (.bool (p s))/\Ext W w'):
 Calls Tryz.prog 217 #[v,.func (.func g) #[] lb] w fun e w'=>e=.returned (.int .i64 (Tg p l))/\Ext w w':=by
 obtain⟨A,c,rfl,hcap,hmax,HR⟩:=Gc h;unfold maxLen at hmax;have HP:=Qq hp;clear h hp;go_enter Tryz.func217,Tryz.ntmps217;go_wp2_with fail;go_loopw [5,8] (fun _ i wr=>∃k:Nat,k<=l.length/\i=.int .i64 (k:Int)/\Hid (∀t∈l.take k,p t=false)/\Hid (Ext w wr)) (fun _ i _=>l.length - (intOf i).toNat)
 case atStart=>exact⟨0,Nat.zero_le _,rfl,Qq (by simp),Qq Qz⟩
 case round =>
  obtain⟨k,hk,rfl,HNI,HX⟩:=hrel;by_cases hlt2:k < l.length
  ·obtain⟨s,hs⟩:∃s,l[k]?=some s:=⟨_,Qv hlt2⟩;obtain⟨ad,rfl,hb1,hc1⟩:=HR.out k hlt2;rw [Qk,hs,Option.getD_some]at hc1;have a0:wr.cell? (ad.add k)=some (.int .u64 (s:Int)):=(HX.out.cell (p:=ad.add k) (Qj hb1)).trans hc1;clear hc1;have HA:=Qq hs;have hk1:(k:Int) < (l.length:Int):=by omega
   clear hs;cases hps:p s
   ·have HT:Hid (∀t∈l.take (k+1),p t=false):=Qq (by
     rw [Qy3 HA.out];intro t ht;rcases List.mem_append.1 ht with ht|ht
     ·exact HNI.out t ht
     rw [List.mem_singleton.1 ht];exact hps)
    go_wp2_with(refine(HP.out _ s (Qr8 HA.out) HX.out).mono ?_;rintro e w1 ⟨rfl,hx⟩;rw [hps]);go_roundw
    case rel=>exact⟨k+1,by omega,by go_num,HT,Qq (HX.out.trans hx)⟩
    case measure=>simp [intOf];omega
   have HE:=Qq (Qv5 (p:=p) HA.out hps HNI.out);go_wp2_with(refine(HP.out _ s (Qr8 HA.out) HX.out).mono ?_;rintro e w1 ⟨rfl,hx⟩;rw [hps]);go_ret;exact⟨by rw [HE.out] <;> rfl,HX.out.trans hx⟩
  obtain rfl:l.length=k:=by omega
  have HE:=Qq (Hp (p:=p) (l:=l) (fun t ht=>HNI.out t (by rw [List.take_of_length_le (Nat.le_refl _)];exact ht)));go_wp2_with fail;go_ret;exact⟨by rw [HE.out] <;> rfl,HX.out⟩
theorem Qxq(g:Nat)(lb:Array Value)(eg:∀args w,(callFunc g args).run Tryz.prog w=.ok (.enter g args) w)(p:Nat->Bool)(v:Value)(l:List (Nat))(w:World)(h:Ji w v l)
 (hp:∀(W:World) (s:Nat),s∈l->Ext w W->Calls Tryz.prog g (#[.int .u64 (s:Int)]++lb) W fun e w'=>e=.returned (.bool (p s))/\Ext W w'):
 Calls Tryz.prog 195 #[v,.func (.func g) #[] lb] w fun e w'=>e=.returned (.bool (l.any p))/\Ext w w':=by
 have HI:=Qq (Qre g lb eg p v l w h hp);have HE:=Qq (Qv4 p l);clear hp h;obtain⟨z,hz⟩:∃z,z=Tg p l:=⟨_,rfl⟩;rw [<-hz]at HI HE;clear hz;go_enter Tryz.func195,Tryz.ntmps195;go_wp2_with(refine HI.out.mono ?_;rintro e w1 ⟨rfl,hx⟩);go_ret;exact⟨by rw [<-HE.out] <;> rfl,hx⟩
theorem Qra(g:Nat)(lb:Array Value)(eg:∀args w,(callFunc g args).run Tryz.prog w=.ok (.enter g args) w)(p:List Nat->Bool)(v:Value)(l:List (List Nat))(w:World)(h:Lv w v l)
 (hp:∀(W:World) (u:Value) (s:List Nat),s∈l->Ext w W->Ji W u s->Calls Tryz.prog g (#[u]++lb) W fun e w'=>e=.returned (.bool (p s))/\Ext W w'):
 Calls Tryz.prog 163 #[v,.func (.func g) #[] lb] w fun e w'=>e=.returned (.int .i64 (Tg p l))/\Ext w w':=by
 obtain⟨A,c,rfl,hcap,hmax,HR⟩:=Dc h;unfold maxLen at hmax;have HP:=Qq hp;clear h hp;go_enter Tryz.func163,Tryz.ntmps163;go_wp2_with fail;go_loopw [5,8] (fun _ i wr=>∃k:Nat,k<=l.length/\i=.int .i64 (k:Int)/\Hid (∀t∈l.take k,p t=false)/\Hid (Ext w wr)) (fun _ i _=>l.length - (intOf i).toNat)
 case atStart=>exact⟨0,Nat.zero_le _,rfl,Qq (by simp),Qq Qz⟩
 case round =>
  obtain⟨k,hk,rfl,HNI,HX⟩:=hrel;by_cases hlt2:k < l.length
  ·obtain⟨s,hs⟩:∃s,l[k]?=some s:=⟨_,Qv hlt2⟩;obtain⟨ad,u,rfl,hb1,hu,hc1⟩:=HR.out k hlt2;rw [Qk,hs,Option.getD_some]at hc1;have a0:wr.cell? (ad.add k)=some u:=(HX.out.cell (p:=ad.add k) (Qj hb1)).trans hu;have HF:=Qq (show Ji w u s from hc1);clear hc1 hu;have HA:=Qq hs;have hk1:(k:Int) < (l.length:Int):=by omega
   clear hs;cases hps:p s
   ·have HT:Hid (∀t∈l.take (k+1),p t=false):=Qq (by
     rw [Qy3 HA.out];intro t ht;rcases List.mem_append.1 ht with ht|ht
     ·exact HNI.out t ht
     rw [List.mem_singleton.1 ht];exact hps)
    go_wp2_with(refine(HP.out _ u s (Qr8 HA.out) HX.out (HF.out.ext HX.out)).mono ?_;rintro e w1 ⟨rfl,hx⟩;rw [hps]);go_roundw
    case rel=>exact⟨k+1,by omega,by go_num,HT,Qq (HX.out.trans hx)⟩
    case measure=>simp [intOf];omega
   have HE:=Qq (Qv5 (p:=p) HA.out hps HNI.out);go_wp2_with(refine(HP.out _ u s (Qr8 HA.out) HX.out (HF.out.ext HX.out)).mono ?_;rintro e w1 ⟨rfl,hx⟩;rw [hps]);go_ret;exact⟨by rw [HE.out] <;> rfl,HX.out.trans hx⟩
  obtain rfl:l.length=k:=by omega
  have HE:=Qq (Hp (p:=p) (l:=l) (fun t ht=>HNI.out t (by rw [List.take_of_length_le (Nat.le_refl _)];exact ht)));go_wp2_with fail;go_ret;exact⟨by rw [HE.out] <;> rfl,HX.out⟩
theorem Qk9(g:Nat)(lb:Array Value)(eg:∀args w,(callFunc g args).run Tryz.prog w=.ok (.enter g args) w)(p:List Nat->Bool)(v:Value)(l:List (List Nat))(w:World)(h:Lv w v l)
 (hp:∀(W:World) (u:Value) (s:List Nat),s∈l->Ext w W->Ji W u s->Calls Tryz.prog g (#[u]++lb) W fun e w'=>e=.returned (.bool (p s))/\Ext W w'):
 Calls Tryz.prog 99 #[v,.func (.func g) #[] lb] w fun e w'=>e=.returned (.bool (l.any p))/\Ext w w':=by
 have HI:=Qq (Qra g lb eg p v l w h hp);have HE:=Qq (Qv4 p l);clear hp h;obtain⟨z,hz⟩:∃z,z=Tg p l:=⟨_,rfl⟩;rw [<-hz]at HI HE;clear hz;go_enter Tryz.func99,Tryz.ntmps99;go_wp2_with(refine HI.out.mono ?_;rintro e w1 ⟨rfl,hx⟩);go_ret;exact⟨by rw [<-HE.out] <;> rfl,hx⟩
end Go.Proofs.YtkmclcmnoicagaaGreatDoor
