/- Bit by bit: the diamond, the group and the common knowledge on words (plain; under way). -/
import Derived.Test.YtkmclcmnoicagaaGreatDoorM01
import Derived.Test.YtkmclcmnoicagaaGreatDoorM13
import Derived.Test.YtkmclcmnoicagaaGreatDoorM09
import Derived.Test.YtkmclcmnoicagaaGreatDoorM07
namespace Go.Proofs.YtkmclcmnoicagaaGreatDoor
set_option maxRecDepth 100000
set_option maxHeartbeats 128000000
theorem Qej {md:Md}(h:Zj md=0) {n:Nd} {s:Nat} {t:Tr}(hi:0<=n.i/\n.i < md.rel.length)(hs:IsW md s t)(h9:n.op=10):
 IsW md (Jz (Zx md.n.toNat) (Kr (md.rel.getD n.i.toNat []) md.n.toNat (Jz (Zx md.n.toNat) s))) (.one n t):=by
 intro w;rw [Qez _ _ _ _ (fun v hv=>(Fo h _ _ v hv).2)];show _↔(if n.op=4 then _ else if n.op=9 then _ else if n.op=10 then _ else _);rw [if_neg (by omega),if_neg (by omega),if_pos h9];constructor
 ·rintro⟨_,v,hv,hb⟩;have hvn:=(Fo h n.i.toNat w.1 v hv).2;refine⟨⟨v,hvn⟩,?_,(hs ⟨v,hvn⟩).1 hb⟩;show(if 0<=n.i/\n.i < md.rel.length then Hf (md.rel.getD n.i.toNat []) md.n.toNat w ⟨v,hvn⟩else _);rw [if_pos hi];exact hv
 rintro⟨v,hv,hb⟩;have hv':(if 0<=n.i/\n.i < md.rel.length then Hf (md.rel.getD n.i.toNat []) md.n.toNat w v else w=v):=hv;rw [if_pos hi]at hv';exact⟨w.2,v.1,hv',(hs v).2 hb⟩
theorem Rf {md:Md} {g:Int}(hg:g.toNat < 2^md.rel.length) {i:Nat}(hi:Yi g i=true):i < md.rel.length:=Ky hg hi
theorem kmR {md:Md} {i:Nat}(hi:i < md.rel.length)(u v:Fin md.n.toNat):(Ko md).R (i:Int) u v↔((md.rel.getD i []).getD u.1 0).testBit v.1=true:=by
 show(if 0<=(i:Int)/\(i:Int) < md.rel.length then Hf (md.rel.getD (i:Int).toNat []) md.n.toNat u v else u=v)↔_;rw [if_pos (by omega),Int.toNat_natCast];rfl
theorem Qel {md:Md}(h:Zj md=0) {n:Nd} {s:Nat} {t:Tr}(hg:n.g.toNat < 2^md.rel.length)(hs:IsW md s t)(h9:n.op=11):
 IsW md (Kr ((List.range md.n.toNat).map (Vw md.rel n.g.toNat false md.n.toNat)) md.n.toNat s) (.one n t):=by
 intro w;rw [Rj];show _↔(if n.op=4 then _ else if n.op=9 then _ else if n.op=10 then _ else if n.op=11 then _ else _);rw [if_neg (by omega),if_neg (by omega),if_neg (by omega),if_pos h9,Qq1 _ _ _ _ _ w.2];have h4:=(Zv h).2.2.1;constructor
 ·rintro⟨_,hb⟩ i hi hgi v hv;exact(hs v).1 (hb v.1 ((Qq0 ..).2 ⟨i,Rf hg hgi,hgi,(kmR (Rf hg hgi) w v).1 hv⟩))
 intro hf;refine⟨w.2,fun v hv=> ?_⟩;obtain⟨i,hi,hgi,hr⟩:=(Qq0 ..).1 hv;have hvn:=(Fo h i w.1 v hr).2;exact(hs ⟨v,hvn⟩).2 (hf i (by omega) hgi ⟨v,hvn⟩ ((kmR hi w ⟨v,hvn⟩).2 hr))
theorem Mc {md:Md}(h:Zj md=0) {g:Int} {c:Nat} {t:Tr}(hg:g.toNat < 2^md.rel.length)(hc:IsW md c t)(u v:Fin md.n.toNat):
 Fz ((List.range md.n.toNat).map (Vw md.rel g.toNat false md.n.toNat)) c u.1 v.1↔(Ko md).step g ((Ko md).sat t) u v:=by
 unfold Fz KM.step;rw [Qq1 _ _ _ _ _ u.2,Qq0,hc v];have h4:=(Zv h).2.2.1;refine and_congr ⟨?_,?_⟩ Iff.rfl
 ·rintro⟨a,ha,hga,hr⟩;exact⟨a,by omega,hga,(kmR ha u v).2 hr⟩
 rintro⟨a,_,hga,hr⟩;exact⟨a,Rf hg hga,hga,(kmR (Rf hg hga) u v).1 hr⟩
theorem Qi9 {md:Md}(h:Zj md=0) {g:Int} {c:Nat} {t:Tr}(hg:g.toNat < 2^md.rel.length)(hc:IsW md c t) {a b:Nat}(hr:Rch (Fz ((List.range md.n.toNat).map (Vw md.rel g.toNat false md.n.toNat)) c) a b):
 ∀(ha:a < md.n.toNat),∃hb:b < md.n.toNat,Rch ((Ko md).step g ((Ko md).sat t)) (⟨a,ha⟩:Fin md.n.toNat) (⟨b,hb⟩:Fin md.n.toNat):=by
 induction hr with
 |one hs=>exact fun ha=>⟨(Tx h _ _ _ hs.1).2,.one ((Mc h hg hc ⟨_,ha⟩ ⟨_,(Tx h _ _ _ hs.1).2⟩).1 hs)⟩
 |cons hs _ ih =>
  intro ha;obtain⟨hb,hr2⟩:=ih (Tx h _ _ _ hs.1).2;exact⟨hb,.cons ((Mc h hg hc ⟨_,ha⟩ ⟨_,(Tx h _ _ _ hs.1).2⟩).1 hs) hr2⟩
theorem Qhf {md:Md}(h:Zj md=0) {g:Int} {c:Nat} {t:Tr}(hg:g.toNat < 2^md.rel.length)(hc:IsW md c t) {a b:Fin md.n.toNat}(hr:Rch ((Ko md).step g ((Ko md).sat t)) a b):
 Rch (Fz ((List.range md.n.toNat).map (Vw md.rel g.toNat false md.n.toNat)) c) a.1 b.1:=by
 induction hr with
 |one hs=>exact .one ((Mc h hg hc _ _).2 hs)
 |cons hs _ ih=>exact .cons ((Mc h hg hc _ _).2 hs) ih
theorem Qrh {md:Md}(h:Zj md=0) {n:Nd} {c s:Nat} {t1 t2:Tr}(hg:n.g.toNat < 2^md.rel.length)(hc:IsW md c t1)(hs:IsW md s t2)(h9:n.op=13):
 IsW md (Gm ((List.range md.n.toNat).map (Vw md.rel n.g.toNat false md.n.toNat)) md.n.toNat c s) (.two n t1 t2):=by
 intro w;unfold Gm;rw [Db,Bool.and_eq_true,decide_eq_true_iff,Yd];show _↔(if n.op=5 then _ else if n.op=6 then _ else if n.op=7 then _ else if n.op=8 then _ else if n.op=13 then _ else _);rw [if_neg (by omega),if_neg (by omega),if_neg (by omega),if_neg (by omega),if_pos h9];constructor
 ·rintro⟨_,hb⟩ v hv;exact(hs v).1 (hb v.1 ((Ii (Tx h _)).2 (Qhf h hg hc hv)))
 intro hf;refine⟨w.2,fun v hv=> ?_⟩;obtain⟨hvn,hr⟩:=Qi9 h hg hc ((Ii (Tx h _)).1 hv) w.2;exact(hs ⟨v,hvn⟩).2 (hf ⟨v,hvn⟩ hr)
theorem Qw5 {md:Md} {n:Nd}(h:n.op=1)(x y:Nat):IsW md (Sf n.op x y (Zx md.n.toNat)) (.leaf n):=by
 intro w;show _↔(n.op=1\/_);unfold Sf;rw [if_pos h,Vl];exact⟨fun _=>Or.inl h,fun _=>decide_eq_true w.2⟩
theorem Qai {md:Md} {n:Nd}(h:n.op=2)(x y:Nat):IsW md (Sf n.op x y (Zx md.n.toNat)) (.leaf n):=by
 intro w;show _↔(n.op=1\/(n.op=3/\_));rw [h];show(Sf 2 x y (Zx md.n.toNat)).testBit w.1=true↔_;rw [show Sf 2 x y (Zx md.n.toNat)=0 from rfl,Nat.zero_testBit];simp
theorem Qcj {md:Md} {n:Nd}(h:n.op=3):IsW md (md.val.getD n.i.toNat 0) (.leaf n):=by
 intro w;show _↔(n.op=1\/(n.op=3/\(md.val.getD n.i.toNat 0).testBit w.1=true));rw [h];simp
theorem Qe5 {md:Md} {n:Nd} {x y:Nat} {t:Tr}(h:n.op=4)(hx:IsW md x t):IsW md (Sf n.op x y (Zx md.n.toNat)) (.one n t):=by
 intro w;show _↔(if n.op=4 then ¬(Ko md).sat t w else _);rw [if_pos h,<-hx w,h];show(Jz (Zx md.n.toNat) x).testBit w.1=true↔_;rw [Xe,Vl,decide_eq_true w.2];simp
theorem Qzx {md:Md} {n:Nd} {x y:Nat} {t1 t2:Tr}(h:n.op=5\/n.op=6\/n.op=7\/n.op=8)(hx:IsW md x t1)(hy:IsW md y t2):IsW md (Sf n.op x y (Zx md.n.toNat)) (.two n t1 t2):=by
 intro w;have h1:=hx w;have h2:=hy w;show _↔(if n.op=5 then(Ko md).sat t1 w/\(Ko md).sat t2 w else if n.op=6 then(Ko md).sat t1 w\/(Ko md).sat t2 w else if n.op=7 then(Ko md).sat t1 w->(Ko md).sat t2 w else if n.op=8 then((Ko md).sat t1 w↔(Ko md).sat t2 w)else _);rw [<-h1,<-h2];rcases h with h|h|h|h <;> rw [h]
 ·show(x&&&y).testBit w.1=true↔_;rw [Nat.testBit_and];cases x.testBit w.1 <;> cases y.testBit w.1 <;> simp
 ·show(x|||y).testBit w.1=true↔_;rw [Nat.testBit_or];cases x.testBit w.1 <;> cases y.testBit w.1 <;> simp
 ·show(Jz (Zx md.n.toNat) x|||y).testBit w.1=true↔_;rw [Nat.testBit_or,Xe,Vl,decide_eq_true w.2];cases x.testBit w.1 <;> cases y.testBit w.1 <;> simp
 show(Jz (Zx md.n.toNat) (x^^^y)).testBit w.1=true↔_;rw [Xe,Vl,decide_eq_true w.2,Nat.testBit_xor];cases x.testBit w.1 <;> cases y.testBit w.1 <;> simp
theorem Qxq(rl:List (List Nat))(gn i v:Nat):∀(k s:Nat),(((List.range k).foldl (Fa rl gn true i) s).testBit v=true↔s.testBit v=true/\∀a,a < k->gn.testBit a=true->((rl.getD a []).getD i 0).testBit v=true)
 |0,s=>by simp
 |k+1,s=>by
  rw [Kb];have ih:=Qxq rl gn i v k s;obtain⟨t,ht⟩:∃t,t=(List.range k).foldl (Fa rl gn true i) s:=⟨_,rfl⟩;rw [<-ht]at ih⊢;unfold Fa;cases hg:gn.testBit k
  ·rw [if_neg (by simp),ih];refine and_congr Iff.rfl ⟨fun h a h1 h2=> ?_,fun h a h1 h2=>h a (by omega) h2⟩;by_cases e:a=k
   ·rw [e,hg]at h2;cases h2
   exact h a (by omega) h2
  rw [if_pos rfl,if_pos rfl,Nat.testBit_and,Bool.and_eq_true,ih];constructor
  ·rintro⟨⟨h1,h2⟩,h3⟩;refine⟨h1,fun a ha hb=> ?_⟩;by_cases e:a=k
   ·rw [e];exact h3
   exact h2 a (by omega) hb
  rintro⟨h1,h2⟩;exact⟨⟨h1,fun a ha hb=>h2 a (by omega) hb⟩,h2 k (by omega) hg⟩
theorem Qf1(rl:List (List Nat))(gn n i v:Nat):(Vw rl gn true n i).testBit v=true↔v < n/\∀a,a < rl.length->gn.testBit a=true->((rl.getD a []).getD i 0).testBit v=true:=by
 unfold Vw;rw [Qxq,if_pos rfl,Vl,decide_eq_true_iff]
theorem Qp5 {md:Md}(h:Zj md=0) {n:Nd} {s:Nat} {t:Tr}(hg:n.g.toNat < 2^md.rel.length)(hs:IsW md s t)(h9:n.op=12):
 IsW md (Kr ((List.range md.n.toNat).map (Vw md.rel n.g.toNat true md.n.toNat)) md.n.toNat s) (.one n t):=by
 intro w;rw [Rj];show _↔(if n.op=4 then _ else if n.op=9 then _ else if n.op=10 then _ else if n.op=11 then _ else if n.op=12 then _ else _);rw [if_neg (by omega),if_neg (by omega),if_neg (by omega),if_neg (by omega),if_pos h9,Qq1 _ _ _ _ _ w.2];have h4:=(Zv h).2.2.1;constructor
 ·rintro⟨_,hb⟩ v hv;exact(hs v).1 (hb v.1 ((Qf1 ..).2 ⟨v.2,fun a ha hga=>(kmR ha w v).1 (hv a (by omega) hga)⟩))
 intro hf;refine⟨w.2,fun v hv=> ?_⟩;obtain⟨hvn,hv⟩:=(Qf1 ..).1 hv;exact(hs ⟨v,hvn⟩).2 (hf ⟨v,hvn⟩ fun i _ hgi=>(kmR (Rf hg hgi) w ⟨v,hvn⟩).2 (hv i (Rf hg hgi) hgi))
theorem Qmn {md:Md}(h:Zj md=0) {n:Nd} {x y:Nat} {a b:Tr}(hf:Qgb md n)(hx:Qe n.op=true->IsW md x a)(hy:Qh n.op=true->IsW md y b):
 IsW md (Qyq md n x y) (Yh n a b):=by
 have ho:1<=n.op:=by
  have:=hf.head.1;unfold Yq at this;simp at this;omega
 have h13:=hf.op;obtain⟨op,i,e,g,p,q⟩:=n;have hc:op=1\/op=2\/op=3\/op=4\/(op=5\/op=6\/op=7\/op=8)\/op=9\/op=10\/op=11\/op=12\/op=13:=by
  simp at ho h13;omega
 rcases hc with rfl|rfl|rfl|rfl|hc|rfl|rfl|rfl|rfl|rfl
 ·exact Qw5 (n:=⟨1,i,e,g,p,q⟩) rfl x y
 ·exact Qai (n:=⟨2,i,e,g,p,q⟩) rfl x y
 ·exact Qcj (n:=⟨3,i,e,g,p,q⟩) rfl
 ·exact Qe5 (n:=Nd.head ⟨4,i,e,g,p,q⟩) (y:=y) rfl (hx rfl)
 ·rcases hc with rfl|rfl|rfl|rfl
  ·exact Qzx (n:=Nd.head ⟨5,i,e,g,p,q⟩) (Or.inl rfl) (hx rfl) (hy rfl)
  ·exact Qzx (n:=Nd.head ⟨6,i,e,g,p,q⟩) (Or.inr (Or.inl rfl)) (hx rfl) (hy rfl)
  ·exact Qzx (n:=Nd.head ⟨7,i,e,g,p,q⟩) (Or.inr (Or.inr (Or.inl rfl))) (hx rfl) (hy rfl)
  exact Qzx (n:=Nd.head ⟨8,i,e,g,p,q⟩) (Or.inr (Or.inr (Or.inr rfl))) (hx rfl) (hy rfl)
 ·exact Qa0 h (n:=Nd.head ⟨9,i,e,g,p,q⟩) ⟨(Gg hf.head rfl).1,hf.agent (Or.inl rfl)⟩ (hx rfl) rfl
 ·exact Qej h (n:=Nd.head ⟨10,i,e,g,p,q⟩) ⟨(Gg hf.head rfl).1,hf.agent (Or.inr rfl)⟩ (hx rfl) rfl
 ·exact Qel h (n:=Nd.head ⟨11,i,e,g,p,q⟩) (hf.group (show(11:Int)<=11 by decide)).2 (hx rfl) rfl
 ·exact Qp5 h (n:=Nd.head ⟨12,i,e,g,p,q⟩) (hf.group (show(11:Int)<=12 by decide)).2 (hx rfl) rfl
 exact Qrh h (n:=Nd.head ⟨13,i,e,g,p,q⟩) (hf.group (show(11:Int)<=13 by decide)).2 (hx rfl) (hy rfl) rfl
open Go.RowKit
def okP(n:Nd)(fi:List Bool):Bool :=
 (!decide (4<=n.op)||fi.getD n.x.toNat false)&&(!((decide (5<=n.op)&&decide (n.op<=8))||n.op==13)||fi.getD n.y.toNat false)
def atP(md:Md)(f:List Nd)(out:List Nat)(fi:List Bool)(k:Nat):Nat×Bool :=
 if okP (f.getD k Nd.zero) fi=true then(Vq md (f.getD k Nd.zero) (out.getD (f.getD k Nd.zero).x.toNat 0) (out.getD (f.getD k Nd.zero).y.toNat 0),Zw md (f.getD k Nd.zero))else(0,false)
def Jq(md:Md)(f:List Nd):Nat->List Nat×List Bool
 |0=>([],[])
 |k+1=>((Jq md f k).1++ [(atP md f (Jq md f k).1 (Jq md f k).2 k).1],(Jq md f k).2++ [(atP md f (Jq md f k).1 (Jq md f k).2 k).2])
theorem Uk(md:Md)(f:List Nd):∀k,(Jq md f k).1.length=k/\(Jq md f k).2.length=k
 |0=>⟨rfl,rfl⟩
 |k+1=>by
  obtain⟨h1,h2⟩:=Uk md f k;unfold Jq;exact⟨by simp [h1],by simp [h2]⟩
theorem Dl(md:Md)(f:List Nd):∀(m k:Nat),k < m->(Jq md f m).1.getD k 0=(atP md f (Jq md f k).1 (Jq md f k).2 k).1/\(Jq md f m).2.getD k false=(atP md f (Jq md f k).1 (Jq md f k).2 k).2
 |0,k,h=>absurd h (Nat.not_lt_zero _)
 |m+1,k,h=>by
  obtain⟨h1,h2⟩:=Uk md f m;by_cases hk:k < m
  ·have:=Dl md f m k hk;rw [<-this.1,<-this.2];constructor
   ·show((Jq md f m).1++_).getD k 0=_;rw [Qk,Qk,List.getElem?_append_left (by omega)]
   show((Jq md f m).2++_).getD k false=_;rw [Qk,Qk,List.getElem?_append_left (by omega)]
  obtain rfl:k=m:=by omega
  constructor
  ·show((Jq md f k).1++_).getD k 0=_;rw [Qk,List.getElem?_append_right (by omega),h1,Nat.sub_self];rfl
  show((Jq md f k).2++_).getD k false=_;rw [Qk,List.getElem?_append_right (by omega),h2,Nat.sub_self];rfl
theorem Qck {md:Md} {n:Nd}(hh:Zp n)(h:Zw md n=true)(hg:11<=n.op->n.op<=13->1<=n.g):Qgb md n:=by
 have hop:=(Tf n.op).1 hh.1;unfold Zw at h;refine⟨hh,?_,fun ho=> ?_,fun ho=> ?_,fun ho=> ?_⟩
 ·by_cases h3:n.op=3
  ·omega
  rw [if_neg h3]at h;by_cases h8:n.op<=8
  ·omega
  rw [if_neg h8]at h;by_cases h10:n.op<=10
  ·omega
  rw [if_neg h10]at h;by_cases h13:n.op<=13
  ·exact h13
  rw [if_neg h13]at h;cases h
 ·rw [if_pos ho]at h;exact of_decide_eq_true h
 ·rw [if_neg (by omega),if_neg (by omega),if_pos (by omega)]at h;exact of_decide_eq_true h
 rw [if_neg (by omega),if_neg (by omega),if_neg (by omega)]at h;by_cases h13:n.op<=13
 ·rw [if_pos h13]at h;have h2:=of_decide_eq_true h;have hg1:=hg ho h13;exact⟨hg1,by omega⟩
 rw [if_neg h13]at h;cases h
theorem Qjp {f:List Nd} {k:Nat} {n:Nd}(h:f[k]?=some n):f.getD k Nd.zero=n:=by rw [Qk,h];rfl
theorem Qjl:∀(l:List Nd) (s i:Nat),(l.foldl (fun s n=>s|||(Vr n.op).toNat) s).testBit i=true->s.testBit i=true\/∃n∈l,(Vr n.op).toNat.testBit i=true
 |[],_,_,h=>Or.inl h
 |a :: l,s,i,h=>by
  rcases Qjl l (s|||(Vr a.op).toNat) i h with h1|⟨n,hn,h2⟩
  ·rw [Nat.testBit_or,Bool.or_eq_true]at h1;rcases h1 with h1|h1
   ·exact Or.inl h1
   exact Or.inr ⟨a,List.mem_cons_self ..,h1⟩
  exact Or.inr ⟨n,List.mem_cons_of_mem _ hn,h2⟩
theorem Qtf:∀(l:List Nd) (s i:Nat),(l.foldl agS s).testBit i=true->s.testBit i=true\/∃n∈l,(Zz n.op=true/\i=n.i.toNat)\/n.g.toNat.testBit i=true
 |[],_,_,h=>Or.inl h
 |a :: l,s,i,h=>by
  rcases Qtf l (agS s a) i h with h1|⟨n,hn,h2⟩
  ·unfold agS at h1;rw [Nat.testBit_or,Nat.testBit_or,Bool.or_eq_true,Bool.or_eq_true]at h1;rcases h1 with(h1|h1)|h1
   ·exact Or.inl h1
   ·refine Or.inr ⟨a,List.mem_cons_self ..,Or.inl ?_⟩;cases ha:Zz a.op
    ·rw [ha,if_neg (by simp),Nat.zero_testBit]at h1;cases h1
    rw [ha,if_pos rfl,Nat.testBit_two_pow,decide_eq_true_iff]at h1;exact⟨rfl,h1.symm⟩
   exact Or.inr ⟨a,List.mem_cons_self ..,Or.inr h1⟩
  exact Or.inr ⟨n,List.mem_cons_of_mem _ hn,h2⟩
theorem Qt8:∀(l:List Nd) (s i:Nat),(l.foldl faS s).testBit i=true->s.testBit i=true\/∃n∈l,n.op=3/\i=n.i.toNat
 |[],_,_,h=>Or.inl h
 |a :: l,s,i,h=>by
  rcases Qt8 l (faS s a) i h with h1|⟨n,hn,h2⟩
  ·unfold faS at h1;by_cases ho:a.op=3
   ·rw [if_pos ho,Nat.testBit_or,Bool.or_eq_true,Nat.testBit_two_pow,decide_eq_true_iff]at h1;rcases h1 with h1|h1
    ·exact Or.inl h1
    exact Or.inr ⟨a,List.mem_cons_self ..,ho,h1.symm⟩
   rw [if_neg ho]at h1;exact Or.inl h1
  exact Or.inr ⟨n,List.mem_cons_of_mem _ hn,h2⟩
theorem Qs1 {c:List Nd}(hc:check c=0) {k:Nat}(hk:k < c.length):∀n∈Qn (tr c k),∃m∈c,m.head=n.head:=by
 have hP:∀(n:Nd) (k1 k2:Nat),(∃m∈c,m.head=n.head)->∃m∈c,m.head=(n.with_ k1 k2).head:=fun n k1 k2 ⟨m,hm,h⟩=>⟨m,hm,by rw [Qqd];exact h⟩
 exact Rs (P:=fun n=>∃m∈c,m.head=n.head) hP (tr c k) [] (Pw (P:=fun n=>∃m∈c,m.head=n.head) hP (Vy hc) (fun n hn=>⟨n,hn,rfl⟩) k hk) (fun n hn=>by cases hn)
theorem Qfd {md:Md} {c:List Nd}(hc:check c=0)(hcc:Qg c=c)(hs:Ym (Yn c) 15=true)(hf:Kf c md.rel.length md.val.length=true) {k:Nat}(hk:k < c.length):Qy9 md c (k:Int)=true:=by
 have hg:=(Qxp hc hk).2.1;have htk:(tr c k).ok:=Qgl (Vy hc) k hk;have hce:Qg (Yz c (k:Int))=Qn (tr c k):=by
  rw [Gc hg,Dm hc hk,Vc htk]
 have hh:=Qs1 hc hk;unfold Kf at hf;rw [Bool.and_eq_true,Bool.and_eq_true,List.all_eq_true,List.all_eq_true,hcc]at hf;unfold Qy9;rw [Bool.and_eq_true];refine⟨?_,?_⟩
 ·rw [Yd]at hs⊢;intro i hi;unfold Yn Xg at hi;rw [hce]at hi;rcases Qjl _ _ _ hi with h|⟨n,hn,h⟩
  ·rw [Nat.zero_testBit]at h;cases h
  obtain⟨m,hm,e⟩:=hh n hn;refine hs i ?_;unfold Yn Xg;rw [hcc];exact(Ei c 0).2 m hm i (by rw [(Nc e).1];exact h)
 unfold Kf;rw [Bool.and_eq_true,Bool.and_eq_true,List.all_eq_true,List.all_eq_true,hce];refine⟨by rw [hg];rfl,fun i hi=> ?_,fun i hi=> ?_⟩
 ·have h1:=hf.2.1 i hi;unfold Nm at h1⊢;rw [Bool.or_eq_true]at h1⊢;rcases h1 with h1|h1
  ·refine Or.inl ?_;cases hb:(Je (Qn (tr c k))).testBit i
   ·rfl
   exfalso
   rcases Qtf _ _ _ hb with h|⟨n,hn,h⟩
   ·rw [Nat.zero_testBit]at h;cases h
   obtain⟨m,hm,e⟩:=hh n hn;have:=(Qyc c 0).2 m hm i (by rw [(Nc e).1,(Nc e).2.1,(Nc e).2.2];exact h);unfold Je at h1;rw [this]at h1;cases h1
  exact Or.inr h1
 have h1:=hf.2.2 i hi;unfold Nm at h1⊢;rw [Bool.or_eq_true]at h1⊢;rcases h1 with h1|h1
 ·refine Or.inl ?_;cases hb:(Yl (Qn (tr c k))).testBit i
  ·rfl
  exfalso
  rcases Qt8 _ _ _ hb with h|⟨n,hn,h⟩
  ·rw [Nat.zero_testBit]at h;cases h
  obtain⟨m,hm,e⟩:=hh n hn;have:=(Qy5 c 0).2 m hm i (by rw [(Nc e).1,(Nc e).2.1];exact h);unfold Yl at h1;rw [this]at h1;cases h1
 exact Or.inr h1
def Fv(md:Md):Tr->Bool
 |.leaf n=>Zw md n
 |.one n a=>Zw md n&&Fv md a
 |.two n a b=>Zw md n&&(Fv md a&&Fv md b)
theorem Qy8(md:Md)(n:Nd):Zw md n.head=Zw md n:=rfl
theorem Qcv(md:Md)(n:Nd)(a b:Tr):Fv md (Yh n a b)=(Zw md n&&((!Qe n.op||Fv md a)&&(!Qh n.op||Fv md b))):=by
 unfold Yh;cases hy:Qh n.op
 ·cases hx:Qe n.op
  ·simp [Fv]
  simp [Fv,Qy8]
 have hx:Qe n.op=true:=Vs hy;simp [Fv,Qy8,hx]
theorem Qfb {md:Md} {n:Nd}(h:Zw md n=true):n.op<=13:=by
 unfold Zw at h;by_cases h3:n.op=3
 ·omega
 rw [if_neg h3]at h;by_cases h8:n.op<=8
 ·omega
 rw [if_neg h8]at h;by_cases h10:n.op<=10
 ·omega
 rw [if_neg h10]at h;by_cases h13:n.op<=13
 ·exact h13
 rw [if_neg h13]at h;cases h
theorem Qlg {md:Md} {f:List Nd}(hc:check f=0):∀k,k < f.length->(atP md f (Jq md f k).1 (Jq md f k).2 k).2=Fv md (tr f k):=by
 intro k
 induction k using Nat.strongRecOn with
 |_ k ih =>
  intro hk;obtain⟨n,hn⟩:∃n,f[k]?=some n:=⟨_,Qv hk⟩;obtain⟨hx,hy⟩:=Vy hc k n hn;rw [Xv (Vy hc) hn,Qcv];unfold atP;rw [Qjp hn];cases hf:Zw md n
  ·rw [Bool.false_and]
   split
   ·rfl
   rfl
  have h13:=Qfb hf;have e:okP n (Jq md f k).2=((!Qe n.op||Fv md (tr f n.x.toNat))&&(!Qh n.op||Fv md (tr f n.y.toNat))):=by
   unfold okP
   congr 1
   ·have e1:decide (4<=n.op)=Qe n.op:=by unfold Qe;rw [decide_eq_true (show n.op<=21 by omega),Bool.and_true]
    rw [e1];cases h:Qe n.op
    ·rfl
    have hb:=hx h;rw [(Dl md f k _ (by omega)).2,ih _ (by omega) (by omega)]
   have e1:((decide (5<=n.op)&&decide (n.op<=8))||n.op==13)=Qh n.op:=by
    unfold Qh;rw [show(n.op==14)=false by simp;omega,show(n.op==16)=false by simp;omega,show(n.op==19)=false by simp;omega,show(n.op==21)=false by simp;omega];simp
   rw [e1];cases h:Qh n.op
   ·rfl
   have hb:=hy h;rw [(Dl md f k _ (by omega)).2,ih _ (by omega) (by omega)]
  rw [<-e,Bool.true_and];cases ho:okP n (Jq md f k).2
  ·rfl
  rfl
theorem Qcg {md:Md} {n:Nd}(h:Qgb md n):Zw md n=true:=by
 unfold Zw;by_cases h3:n.op=3
 ·rw [if_pos h3];exact decide_eq_true (h.fact h3)
 rw [if_neg h3];by_cases h8:n.op<=8
 ·rw [if_pos h8]
 rw [if_neg h8];by_cases h10:n.op<=10
 ·rw [if_pos h10];exact decide_eq_true (h.agent (by omega))
 rw [if_neg h10,if_pos h.op];have:=h.group (by omega);exact decide_eq_true (by omega)
theorem Ct {md:Md} :∀{t:Tr},t.all (fun n=>Zw md n=true)->Fv md t=true
 |.leaf n,h=>h
 |.one n a,h=>by unfold Fv;rw [h.1,Ct h.2];rfl
 |.two n a b,h=>by unfold Fv;rw [h.1,Ct h.2.1,Ct h.2.2];rfl
theorem Qp0 {md:Md} {f:List Nd}(h:Yy md f=0):Fv md (Qp f)=true:=by
 obtain⟨hck,hc,hs,hf⟩:=Ks h;have h2:=Ng hc;have hcc:=Ux hc;have hs2:Ym (Yn (Qg f)) 15=true:=by unfold Yn at hs⊢;rw [h2];exact hs
 have hf2:Kf (Qg f) md.rel.length md.val.length=true:=by
  unfold Kf at hf⊢;rw [h2,hcc];rw [hc]at hf;exact hf
 rw [<-Xr hc];refine Ct (Pw (P:=fun n=>Zw md n=true) (fun n k1 k2 h=>h) (Vy hcc) (fun n hn=> ?_) _ (by have:=(Jr hcc).1;omega));obtain⟨k,hk⟩:=List.mem_iff_getElem?.1 hn;have hkl:=(List.getElem?_eq_some_iff.1 hk).1;exact Qcg (Qlb hcc hk (Qfd hcc h2 hs2 hf2 hkl) (Zv hck).2.2.1)
def Gp(md:Md)(f:List Nd):Nat:=(Jq md f f.length).1.getD (f.length - 1) 0
theorem Qlh {n:Nd}(h:Zp n)(h1:11<=n.op)(h2:n.op<=13):1<=n.g:=by
 obtain⟨_,_,h3,_,_⟩:=h;unfold Yb at h3;rcases(show n.op=11\/n.op=12\/n.op=13 by omega)with ho|ho|ho <;>(rw [ho]at h3;simp [Jy,Zm,Zz,Zn,Zg]at h3;omega)
theorem Qcx {md:Md} {f:List Nd}(hck:Zj md=0)(hc:check f=0):∀k,k < f.length->
 (atP md f (Jq md f k).1 (Jq md f k).2 k).2=true->IsW md (atP md f (Jq md f k).1 (Jq md f k).2 k).1 (tr f k):=by
 intro k
 induction k using Nat.strongRecOn with
 |_ k ih =>
  intro hk hfi;obtain⟨n,hn⟩:∃n,f[k]?=some n:=⟨_,Qv hk⟩;have hm:=List.mem_of_getElem? hn;have hh:=Dg hc n hm;obtain⟨hx,hy⟩:=Vy hc k n hn;unfold atP at hfi⊢;rw [Qjp hn]at hfi⊢;by_cases ho:okP n (Jq md f k).2=true
  ·rw [if_pos ho]at hfi⊢;have hfi2:Zw md n=true:=hfi;have h13:=Qfb hfi2;rw [Xv (Vy hc) hn];show IsW md (Vq md n _ _) _;unfold Vq;rw [if_pos hfi2];unfold okP at ho;rw [Bool.and_eq_true]at ho;refine Qmn hck (Qck hh hfi2 (fun h h'=>Qlh hh h h')) (fun h=> ?_) (fun h=> ?_)
   ·have hb:=hx h;have h4:4<=n.op:=by unfold Qe at h;rw [Bool.and_eq_true]at h;exact of_decide_eq_true h.1
    have h5:=ho.1;rw [decide_eq_true h4,Bool.not_true,Bool.false_or]at h5;rw [(Dl md f k _ (by omega)).1];rw [(Dl md f k _ (by omega)).2]at h5;exact ih _ (by omega) (by omega) h5
   have hb:=hy h;have h58:((decide (5<=n.op)&&decide (n.op<=8))||n.op==13)=true:=by
    unfold Qh at h;simp only [Bool.or_eq_true,Bool.and_eq_true,decide_eq_true_eq,beq_iff_eq]at h⊢;omega
   have h5:=ho.2;rw [h58,Bool.not_true,Bool.false_or]at h5;rw [(Dl md f k _ (by omega)).1];rw [(Dl md f k _ (by omega)).2]at h5;exact ih _ (by omega) (by omega) h5
  rw [if_neg ho]at hfi;cases hfi
theorem Cc {md:Md} {f:List Nd}(h:Yy md f=0):IsW md (Gp md f) (Qp f):=by
 obtain⟨hck,hc,_,_⟩:=Ks h;have hp:=(Jr hc).1;unfold Gp;rw [(Dl md f f.length (f.length - 1) (by omega)).1];refine Qcx hck hc (f.length - 1) (by omega) ?_;rw [Qlg hc _ (by omega)];exact Qp0 h
def Bh {α:Type}(p:α->Bool)(l:List α):Int:=match l.findIdx? p with|none=> -1|some j=>j
theorem Cs {α:Type} {p:α->Bool} {l:List α} {k:Nat} {s:α}(h:l[k]?=some s)(hp:p s=true)(hn:∀t∈l.take k,p t=false):Bh p l=(k:Int):=by
 have:l.findIdx? p=some k:=by
  induction l generalizing k with
  |nil=>simp at h
  |cons a r ih =>
   cases k with
   |zero =>
    simp only [List.getElem?_cons_zero,Option.some.injEq]at h;subst h;rw [List.findIdx?_cons,hp];rfl
   |succ k =>
    have ha:p a=false:=hn a (by simp);rw [List.findIdx?_cons,ha,ih (k:=k) (by simpa using h) (fun t ht=>hn t (by simp [ht]))];rfl
 unfold Bh;rw [this]
theorem Sn {α:Type} {p:α->Bool} {l:List α}(hn:∀t∈l,p t=false):Bh p l= -1:=by
 have:l.findIdx? p=none:=by
  induction l with
  |nil=>simp
  |cons a r ih=>rw [List.findIdx?_cons,hn a (by simp),ih (fun t ht=>hn t (by simp [ht]))];rfl
 unfold Bh;rw [this]
theorem Cn {α:Type}(p:α->Bool)(l:List α):decide (0<=Bh p l)=l.any p:=by
 by_cases h:∃t∈l,p t=true
 ·obtain⟨t,ht,hp⟩:=h;have e:∃j,l.findIdx? p=some j:=by
   cases hj:l.findIdx? p with
   |some j=>exact⟨j,rfl⟩
   |none=>exact absurd hp (by rw [List.findIdx?_eq_none_iff.1 hj t ht];simp)
  obtain⟨j,hj⟩:=e;rw [show l.any p=true from List.any_eq_true.2 ⟨t,ht,hp⟩];unfold Bh;rw [hj];exact decide_eq_true (Int.natCast_nonneg j)
 have hn:∀t∈l,p t=false:=fun t ht=>by
  cases e:p t
  ·rfl
  exact absurd ⟨t,ht,e⟩ h
 rw [Sn hn,show l.any p=false from List.any_eq_false.2 (fun t ht=>by rw [hn t ht];simp)];rfl
theorem Mh {α:Type} {l:List α} {k:Nat} {s:α}(h:l[k]?=some s):l.take (k+1)=l.take k++ [s]:=by
 rw [List.take_add_one,h];rfl
theorem Qkf {α:Type} {l:List α} {k:Nat} {s:α}(h:l[k]?=some s):s∈l:=List.mem_of_getElem? h
theorem Qdf(g:Nat)(lb:Array Value)(eg:∀args w,(callFunc g args).run Tryz.prog w=.ok (.enter g args) w)(p:Int->Bool)(v:Value)(l:List (Int))(w:World)(h:Bs w v l)
 (hp:∀(W:World) (s:Int),s∈l->Ext w W->Calls Tryz.prog g (#[.int .i64 s]++lb) W fun e w'=>e=.returned (.bool (p s))/\Ext W w'):
 Calls Tryz.prog 198 #[v,.func (.func g) #[] lb] w fun e w'=>e=.returned (.int .i64 (Bh p l))/\Ext w w':=by
 obtain⟨A,c,rfl,hcap,hmax,hr⟩:=h;have HR:=Qq hr;clear hr;unfold maxLen at hmax;have HP:=Qq hp;clear hp;go_enter Tryz.func198,Tryz.ntmps198;go_wp2_with fail;go_loopw [5,8] (fun _ i wr=>∃k:Nat,k<=l.length/\i=.int .i64 (k:Int)/\Hid (∀t∈l.take k,p t=false)/\Hid (Ext w wr)) (fun _ i _=>l.length - (intOf i).toNat)
 case atStart=>exact⟨0,Nat.zero_le _,rfl,Qq (by simp),Qq Qz⟩
 case round =>
  obtain⟨k,hk,rfl,HNI,HX⟩:=hrel;by_cases hlt2:k < l.length
  ·obtain⟨s,hs⟩:∃s,l[k]?=some s:=⟨_,Qv hlt2⟩;obtain⟨ad,rfl,hb1,hcz⟩:=HR.out (by intro e;rw [e]at hlt2;simp at hlt2);have a0:wr.cell? (ad.add k)=some (.int .i64 s):=(HX.out.cell (p:=ad.add k) (Qj hb1)).trans (hcz k s hs);clear hcz;have HA:=Qq hs;have hk1:(k:Int) < (l.length:Int):=by omega
   clear hs;cases hps:p s
   ·have HT:Hid (∀t∈l.take (k+1),p t=false):=Qq (by
     rw [Mh HA.out];intro t ht;rcases List.mem_append.1 ht with ht|ht
     ·exact HNI.out t ht
     rw [List.mem_singleton.1 ht];exact hps)
    go_wp2_with(refine(HP.out _ s (Qkf HA.out) HX.out).mono ?_;rintro e w1 ⟨rfl,hx⟩;rw [hps]);go_roundw
    case rel=>exact⟨k+1,by omega,by go_num,HT,Qq (HX.out.trans hx)⟩
    case measure=>simp [intOf];omega
   have HE:=Qq (Cs (p:=p) HA.out hps HNI.out);go_wp2_with(refine(HP.out _ s (Qkf HA.out) HX.out).mono ?_;rintro e w1 ⟨rfl,hx⟩;rw [hps]);go_ret;exact⟨by rw [HE.out] <;> rfl,HX.out.trans hx⟩
  obtain rfl:l.length=k:=by omega
  have HE:=Qq (Sn (p:=p) (l:=l) (fun t ht=>HNI.out t (by rw [List.take_of_length_le (Nat.le_refl _)];exact ht)));go_wp2_with fail;go_ret;exact⟨by rw [HE.out] <;> rfl,HX.out⟩
theorem Qv7(g:Nat)(lb:Array Value)(eg:∀args w,(callFunc g args).run Tryz.prog w=.ok (.enter g args) w)(p:Int->Bool)(v:Value)(l:List (Int))(w:World)(h:Bs w v l)
 (hp:∀(W:World) (s:Int),s∈l->Ext w W->Calls Tryz.prog g (#[.int .i64 s]++lb) W fun e w'=>e=.returned (.bool (p s))/\Ext W w'):
 Calls Tryz.prog 164 #[v,.func (.func g) #[] lb] w fun e w'=>e=.returned (.bool (l.any p))/\Ext w w':=by
 have HI:=Qq (Qdf g lb eg p v l w h hp);have HE:=Qq (Cn p l);clear hp h;obtain⟨z,hz⟩:∃z,z=Bh p l:=⟨_,rfl⟩;rw [<-hz]at HI HE;clear hz;go_enter Tryz.func164,Tryz.ntmps164;go_wp2_with(refine HI.out.mono ?_;rintro e w1 ⟨rfl,hx⟩);go_ret;exact⟨by rw [<-HE.out] <;> rfl,hx⟩
theorem Rl(w:World)(l:List Int)(t:TypeId)(hl:l.length<=10):Bs (w.alloc (.cells (l.map (Value.int .i64)).toArray t)) (.slice (some ⟨w.heap.size,0,none⟩) l.length l.length) l:=by
 refine⟨_,_,rfl,Nat.le_refl _,by unfold maxLen;omega,fun _=>⟨_,rfl,by simp,fun k z hk=> ?_⟩⟩;have h1:=heap_alloc_new w (.cells (l.map (Value.int .i64)).toArray t);rw [Fs];have h2:(w.alloc (.cells (l.map (Value.int .i64)).toArray t)).heap[w.heap.size]?=some (Obj.cells (l.map (Value.int .i64)).toArray t (0,0)):=h1;simp only [World.cell?,h2];rw [List.getElem?_toArray,List.getElem?_map,hk];rfl
theorem Mr(lg:Int)(w:World):
 Calls Tryz.prog 98 #[.int .i64 lg] w fun e w'=>∃v,e=.returned (.tuple #[v,.int .i64 (p15 lg)])/\Ext w w'/\Hid (p15 lg=0->Bs w' v (Uh lg)):=by
 by_cases hc:0<=lg/\lg<=6
 ·have hcl:lg=0\/lg=1\/lg=2\/lg=3\/lg=4\/lg=5\/lg=6:=by omega
  clear hc;rcases hcl with rfl|rfl|rfl|rfl|rfl|rfl|rfl
  all_goals
   go_enter Tryz.func98,Tryz.ntmps98;go_wp2_with fail;go_ret2
   first
   |exact⟨_,rfl,Qz,Qq fun _=>Bs.none_ _⟩
   |exact⟨_,rfl,Qz.alloc _,Qq fun _=>Rl w [1] _ (by decide)⟩
   |exact⟨_,rfl,Qz.alloc _,Qq fun _=>Rl w [2] _ (by decide)⟩
   |exact⟨_,rfl,Qz.alloc _,Qq fun _=>Rl w [4] _ (by decide)⟩
   |exact⟨_,rfl,Qz.alloc _,Qq fun _=>Rl w [2,4] _ (by decide)⟩
   |exact⟨_,rfl,Qz.alloc _,Qq fun _=>Rl w [1,4,5] _ (by decide)⟩
   |exact⟨_,rfl,Qz.alloc _,Qq fun _=>Rl w [2,4,5] _ (by decide)⟩
 have h0:(lg==0)=false:=by rw [beq_eq_false_iff_ne];omega
 have h1:(lg==1)=false:=by rw [beq_eq_false_iff_ne];omega
 have h2:(lg==2)=false:=by rw [beq_eq_false_iff_ne];omega
 have h3:(lg==3)=false:=by rw [beq_eq_false_iff_ne];omega
 have h4:(lg==4)=false:=by rw [beq_eq_false_iff_ne];omega
 have h5:(lg==5)=false:=by rw [beq_eq_false_iff_ne];omega
 have h6:(lg==6)=false:=by rw [beq_eq_false_iff_ne];omega
 have HC:=Qq (show p15 lg=1 from if_neg hc);clear hc;go_enter Tryz.func98,Tryz.ntmps98;go_wp2_with fail;go_ret2;exact⟨_,by rw [HC.out] <;> rfl,Qz,Qq fun e=>by rw [HC.out]at e;cases e⟩
theorem Wt(n:Nat)(h:n<=64)(w:World):Calls Tryz.prog 115 #[.int .i64 (n:Int)] w fun e w'=>e=.returned (.int .u64 ((Zx n:Nat):Int))/\w=w':=by
 by_cases h64:n=64
 ·subst h64;go_enter Tryz.func115,Tryz.ntmps115;go_wp2_with fail;go_ret;exact⟨rfl,rfl⟩
 have hn:n < 64:=by omega
 have hn1:¬(64:Int)<=(n:Int):=by omega
 have hmin:min n 64=n:=by omega
 have HW:=Qq (Cj hn);clear h64 h;go_enter Tryz.func115,Tryz.ntmps115;go_wp2_with fail;go_ret;exact⟨by rw [<-show((2^n - 1:Nat):Int)=((Zx n:Nat):Int)from rfl,<-HW.out] <;> rfl,rfl⟩
theorem Wl(n:Nat)(h:n<=64)(w:World):Calls Tryz.prog 94 #[.int .i64 (n:Int)] w fun e w'=>e=.returned (.int .u64 ((Zx n:Nat):Int))/\w=w':=by
 by_cases h64:n=64
 ·subst h64;go_enter Tryz.func94,Tryz.ntmps94;go_wp2_with fail;go_ret;exact⟨rfl,rfl⟩
 have hn:n < 64:=by omega
 have hn1:¬(64:Int)<=(n:Int):=by omega
 have hmin:min n 64=n:=by omega
 have HW:=Qq (Cj hn);clear h64 h;go_enter Tryz.func94,Tryz.ntmps94;go_wp2_with fail;go_ret;exact⟨by rw [<-show((2^n - 1:Nat):Int)=((Zx n:Nat):Int)from rfl,<-HW.out] <;> rfl,rfl⟩
theorem Xm(v:Value)(l:List Nat)(w:World)(h:Jv w v l)(hw:∀s∈l,Qw s):
 Calls Tryz.prog 113 #[.int .i64 (l.length:Int),v] w fun e w'=>e=.returned (.int .i64 (Vz l.length l))/\Ext w w':=by
 obtain⟨A,c,rfl,hlc,hcm,HL⟩:=Gy h;have HWD:=Qq hw;unfold maxLen at hcm;clear h hw;by_cases hn:l.length<=64
 ·have hn1:¬(64:Int) < (l.length:Int):=by omega
  have HC:=Qq (show Vz l.length l=if Zi l l.length then 1 else 0 by unfold Vz;rw [if_neg (by omega),if_neg (by simp)];rfl);obtain⟨n,hne⟩:∃n,n=l.length:=⟨_,rfl⟩;have HN:=Qq hne;rw [<-hne]at HC hn;rw [<-hne];have hn2:¬(64:Int) < (n:Int):=by omega
  have hne2:((n:Int) !=(n:Int))=false:=by simp
  have hlen:l.length=n:=hne.symm;clear hne hn1;go_enter Tryz.func113,Tryz.ntmps113;go_wp2_with fail;go_loopw [19] (fun v wr=>∃k:Nat,v=.int .i64 (k:Int)/\k<=n/\Hid (Ext w wr/\∀j,j < k->decide (l.getD j 0 < 2^n)=true)) (fun v _=>n - (intOf v).toNat)
  case atStart=>exact⟨0,rfl,Nat.zero_le _,Qq ⟨Qz,fun j hj=>absurd hj (by omega)⟩⟩
  case round =>
   obtain⟨k,rfl,hk,HREL⟩:=hrel;have HX:=Qq HREL.out.1;have HJ:=Qq HREL.out.2;clear HREL;by_cases hlt2:k < n
   ·have hk1:(k:Int) < (n:Int):=by omega
    obtain⟨ad,rfl,hadl,hc⟩:=HL.out k (by omega);have a0:=(HX.out.cell (p:=ad.add k) (Qj hadl)).trans hc;have al:(ad.add k).block < wr.heap.size:=by rw [Qc];exact Qy hadl HX.out.size
    have HNX:=Qq (show decide (l.getD k 0 < 2^n)=true->∀j,j < k+1->decide (l.getD j 0 < 2^n)=true from fun h=>Qty (P:=fun j=>decide (l.getD j 0 < 2^n)=true) HJ.out h);have HHT:=Qq (show decide (l.getD k 0 < 2^n)=false->Zi l n=true from Qrf (by omega));have hout:=Qn1 (n:=n) (Rg HWD.out k) hn;obtain⟨sx,hsx⟩:∃s,s=l.getD k 0:=⟨_,rfl⟩;rw [<-hsx]at a0 hout HNX HHT;clear hc hsx;cases hd:decide (sx < 2^n)
    ·rw [hd]at hout;have HD:=Qq hd;clear hd;have HE:=Qq (HHT.out HD.out);go_wp2_with(go_at_call 115;refine(Wt n hn _).mono ?_;rintro e w3 ⟨rfl,rfl⟩);go_ret;exact⟨by rw [HC.out,HE.out] <;> rfl,HX.out⟩
    rw [hd]at hout;have HD:=Qq hd;clear hd;have HP:=Qq (HNX.out HD.out);go_wp2_with(go_at_call 115;refine(Wt n hn _).mono ?_;rintro e w3 ⟨rfl,rfl⟩);go_roundw
    case rel=>exact⟨k+1,by go_num,by omega,Qq ⟨HX.out,HP.out⟩⟩
    case measure=>simp [intOf];omega
   obtain rfl:n=k:=by omega
   have HE:=Qq (show Zi l n=false from Qb7 (by rw [hlen];exact HJ.out));go_wp2_with fail;go_ret;exact⟨by rw [HC.out,HE.out] <;> rfl,HX.out⟩
 have hn1:(64:Int) < (l.length:Int):=by omega
 have HC:=Qq (show Vz l.length l=2 by unfold Vz;rw [if_pos (by omega)]);go_enter Tryz.func113,Tryz.ntmps113;go_wp2_with fail;go_ret;exact⟨by rw [HC.out] <;> rfl,Qz⟩
theorem Qsd(g:Nat)(lb:Array Value)(eg:∀args w,(callFunc g args).run Tryz.prog w=.ok (.enter g args) w)(p:Nat->Bool)(v:Value)(l:List (Nat))(w:World)(h:Jv w v l)
 (hp:∀(W:World) (s:Nat),s∈l->Ext w W->Calls Tryz.prog g (#[.int .u64 (s:Int)]++lb) W fun e w'=>e=.returned (.bool (p s))/\Ext W w'):
 Calls Tryz.prog 217 #[v,.func (.func g) #[] lb] w fun e w'=>e=.returned (.int .i64 (Bh p l))/\Ext w w':=by
 obtain⟨A,c,rfl,hcap,hmax,HR⟩:=Gy h;unfold maxLen at hmax;have HP:=Qq hp;clear h hp;go_enter Tryz.func217,Tryz.ntmps217;go_wp2_with fail;go_loopw [5,8] (fun _ i wr=>∃k:Nat,k<=l.length/\i=.int .i64 (k:Int)/\Hid (∀t∈l.take k,p t=false)/\Hid (Ext w wr)) (fun _ i _=>l.length - (intOf i).toNat)
 case atStart=>exact⟨0,Nat.zero_le _,rfl,Qq (by simp),Qq Qz⟩
 case round =>
  obtain⟨k,hk,rfl,HNI,HX⟩:=hrel;by_cases hlt2:k < l.length
  ·obtain⟨s,hs⟩:∃s,l[k]?=some s:=⟨_,Qv hlt2⟩;obtain⟨ad,rfl,hb1,hc1⟩:=HR.out k hlt2;rw [Qk,hs,Option.getD_some]at hc1;have a0:wr.cell? (ad.add k)=some (.int .u64 (s:Int)):=(HX.out.cell (p:=ad.add k) (Qj hb1)).trans hc1;clear hc1;have HA:=Qq hs;have hk1:(k:Int) < (l.length:Int):=by omega
   clear hs;cases hps:p s
   ·have HT:Hid (∀t∈l.take (k+1),p t=false):=Qq (by
     rw [Mh HA.out];intro t ht;rcases List.mem_append.1 ht with ht|ht
     ·exact HNI.out t ht
     rw [List.mem_singleton.1 ht];exact hps)
    go_wp2_with(refine(HP.out _ s (Qkf HA.out) HX.out).mono ?_;rintro e w1 ⟨rfl,hx⟩;rw [hps]);go_roundw
    case rel=>exact⟨k+1,by omega,by go_num,HT,Qq (HX.out.trans hx)⟩
    case measure=>simp [intOf];omega
   have HE:=Qq (Cs (p:=p) HA.out hps HNI.out);go_wp2_with(refine(HP.out _ s (Qkf HA.out) HX.out).mono ?_;rintro e w1 ⟨rfl,hx⟩;rw [hps]);go_ret;exact⟨by rw [HE.out] <;> rfl,HX.out.trans hx⟩
  obtain rfl:l.length=k:=by omega
  have HE:=Qq (Sn (p:=p) (l:=l) (fun t ht=>HNI.out t (by rw [List.take_of_length_le (Nat.le_refl _)];exact ht)));go_wp2_with fail;go_ret;exact⟨by rw [HE.out] <;> rfl,HX.out⟩
theorem Qx5(g:Nat)(lb:Array Value)(eg:∀args w,(callFunc g args).run Tryz.prog w=.ok (.enter g args) w)(p:Nat->Bool)(v:Value)(l:List (Nat))(w:World)(h:Jv w v l)
 (hp:∀(W:World) (s:Nat),s∈l->Ext w W->Calls Tryz.prog g (#[.int .u64 (s:Int)]++lb) W fun e w'=>e=.returned (.bool (p s))/\Ext W w'):
 Calls Tryz.prog 195 #[v,.func (.func g) #[] lb] w fun e w'=>e=.returned (.bool (l.any p))/\Ext w w':=by
 have HI:=Qq (Qsd g lb eg p v l w h hp);have HE:=Qq (Cn p l);clear hp h;obtain⟨z,hz⟩:∃z,z=Bh p l:=⟨_,rfl⟩;rw [<-hz]at HI HE;clear hz;go_enter Tryz.func195,Tryz.ntmps195;go_wp2_with(refine HI.out.mono ?_;rintro e w1 ⟨rfl,hx⟩);go_ret;exact⟨by rw [<-HE.out] <;> rfl,hx⟩
theorem Qsb(g:Nat)(lb:Array Value)(eg:∀args w,(callFunc g args).run Tryz.prog w=.ok (.enter g args) w)(p:List Nat->Bool)(v:Value)(l:List (List Nat))(w:World)(h:To w v l)
 (hp:∀(W:World) (u:Value) (s:List Nat),s∈l->Ext w W->Jv W u s->Calls Tryz.prog g (#[u]++lb) W fun e w'=>e=.returned (.bool (p s))/\Ext W w'):
 Calls Tryz.prog 163 #[v,.func (.func g) #[] lb] w fun e w'=>e=.returned (.int .i64 (Bh p l))/\Ext w w':=by
 obtain⟨A,c,rfl,hcap,hmax,HR⟩:=Bq h;unfold maxLen at hmax;have HP:=Qq hp;clear h hp;go_enter Tryz.func163,Tryz.ntmps163;go_wp2_with fail;go_loopw [5,8] (fun _ i wr=>∃k:Nat,k<=l.length/\i=.int .i64 (k:Int)/\Hid (∀t∈l.take k,p t=false)/\Hid (Ext w wr)) (fun _ i _=>l.length - (intOf i).toNat)
 case atStart=>exact⟨0,Nat.zero_le _,rfl,Qq (by simp),Qq Qz⟩
 case round =>
  obtain⟨k,hk,rfl,HNI,HX⟩:=hrel;by_cases hlt2:k < l.length
  ·obtain⟨s,hs⟩:∃s,l[k]?=some s:=⟨_,Qv hlt2⟩;obtain⟨ad,u,rfl,hb1,hu,hc1⟩:=HR.out k hlt2;rw [Qk,hs,Option.getD_some]at hc1;have a0:wr.cell? (ad.add k)=some u:=(HX.out.cell (p:=ad.add k) (Qj hb1)).trans hu;have HF:=Qq (show Jv w u s from hc1);clear hc1 hu;have HA:=Qq hs;have hk1:(k:Int) < (l.length:Int):=by omega
   clear hs;cases hps:p s
   ·have HT:Hid (∀t∈l.take (k+1),p t=false):=Qq (by
     rw [Mh HA.out];intro t ht;rcases List.mem_append.1 ht with ht|ht
     ·exact HNI.out t ht
     rw [List.mem_singleton.1 ht];exact hps)
    go_wp2_with(refine(HP.out _ u s (Qkf HA.out) HX.out (HF.out.ext HX.out)).mono ?_;rintro e w1 ⟨rfl,hx⟩;rw [hps]);go_roundw
    case rel=>exact⟨k+1,by omega,by go_num,HT,Qq (HX.out.trans hx)⟩
    case measure=>simp [intOf];omega
   have HE:=Qq (Cs (p:=p) HA.out hps HNI.out);go_wp2_with(refine(HP.out _ u s (Qkf HA.out) HX.out (HF.out.ext HX.out)).mono ?_;rintro e w1 ⟨rfl,hx⟩;rw [hps]);go_ret;exact⟨by rw [HE.out] <;> rfl,HX.out.trans hx⟩
  obtain rfl:l.length=k:=by omega
  have HE:=Qq (Sn (p:=p) (l:=l) (fun t ht=>HNI.out t (by rw [List.take_of_length_le (Nat.le_refl _)];exact ht)));go_wp2_with fail;go_ret;exact⟨by rw [HE.out] <;> rfl,HX.out⟩
theorem Ox(g:Nat)(lb:Array Value)(eg:∀args w,(callFunc g args).run Tryz.prog w=.ok (.enter g args) w)(p:List Nat->Bool)(v:Value)(l:List (List Nat))(w:World)(h:To w v l)
 (hp:∀(W:World) (u:Value) (s:List Nat),s∈l->Ext w W->Jv W u s->Calls Tryz.prog g (#[u]++lb) W fun e w'=>e=.returned (.bool (p s))/\Ext W w'):
 Calls Tryz.prog 99 #[v,.func (.func g) #[] lb] w fun e w'=>e=.returned (.bool (l.any p))/\Ext w w':=by
 have HI:=Qq (Qsb g lb eg p v l w h hp);have HE:=Qq (Cn p l);clear hp h;obtain⟨z,hz⟩:∃z,z=Bh p l:=⟨_,rfl⟩;rw [<-hz]at HI HE;clear hz;go_enter Tryz.func99,Tryz.ntmps99;go_wp2_with(refine HI.out.mono ?_;rintro e w1 ⟨rfl,hx⟩);go_ret;exact⟨by rw [<-HE.out] <;> rfl,hx⟩
theorem Qmc(B:Nat)(s n:Nat)(w:World)(hn:n<=64)(hs:Qw s)(hb:w.cell? ⟨B,0,none⟩=some (.int .i64 (n:Int))):
 Calls Tryz.prog 196 #[.int .u64 (s:Int),.pointer (some ⟨B,0,none⟩)] w fun e w'=>e=.returned (.bool (!decide (s < 2^n)))/\Ext w w':=by
 have HO:=Qq (Qn1 (n:=n) hs hn);clear hs;go_enter Tryz.func196,Tryz.ntmps196;go_wp2_with(go_at_call 94;refine(Wl n hn _).mono ?_;rintro e w3 ⟨rfl,rfl⟩);go_ret;exact⟨by rw [<-HO.out] <;> rfl,Qz⟩
theorem Qmh(B:Nat)(v:Value)(l:List Nat)(n:Nat)(w:World)(h:Jv w v l)(hw:∀s∈l,Qw s)(hn:n<=64)(hB:B < w.heap.size)(hb:w.cell? ⟨B,0,none⟩=some (.int .i64 (n:Int))):
 Calls Tryz.prog 195 #[v,.func (.func 196) #[] #[.pointer (some ⟨B,0,none⟩)]] w fun e w'=>e=.returned (.bool (Zi l n))/\Ext w w':=by
 have eg:∀args w,(callFunc 196 args).run Tryz.prog w=.ok (.enter 196 args) w:=fun _ _=>rfl
 refine(Qx5 196 #[.pointer (some ⟨B,0,none⟩)] eg (fun s=> !decide (s < 2^n)) v l w h ?_).mono ?_
 ·intro W s hs hx;exact Qmc B s n W hn (hw s hs) ((hx.cell (p:=⟨B,0,none⟩) hB).trans hb)
 rintro e w1 ⟨rfl,hx⟩;exact⟨rfl,hx⟩
theorem Wm(v:Value)(l:List Nat)(n:Nat)(w:World)(h:Jv w v l)(hw:∀s∈l,Qw s)(hn:n<=64):
 Calls Tryz.prog 158 #[v,.int .i64 (n:Int)] w fun e w'=>e=.returned (.bool (Zi l n))/\Ext w w':=by
 have HL:=Qq h;have HW:=Qq hw;clear h hw;go_enter Tryz.func158,Tryz.ntmps158;go_wp2_with(go_at_call 195;refine(Qmh w.heap.size _ l n _ (HL.out.ext (by repeat(first|exact Qz|assumption|apply Ext.alloc|apply Ext.drew))) HW.out hn (by simp) (by simp)).mono ?_;rintro e w1 ⟨rfl,hx⟩;have HX:=Qq (((Ext.refl w).alloc _).trans hx);clear hx);go_ret;exact⟨rfl,HX.out⟩
theorem Qdh(B:Nat)(v:Value)(l:List Nat)(n:Nat)(w:World)(h:Jv w v l)(hw:∀s∈l,Qw s)(hn:n<=64)(_hB:B < w.heap.size)(hb:w.cell? ⟨B,0,none⟩=some (.int .i64 (n:Int))):
 Calls Tryz.prog 159 #[v,.pointer (some ⟨B,0,none⟩)] w fun e w'=>e=.returned (.bool (Zi l n))/\Ext w w':=by
 have HL:=Qq h;have HW:=Qq hw;clear h hw;go_enter Tryz.func159,Tryz.ntmps159;go_wp2_with(go_at_call 158;refine(Wm _ l n _ (HL.out.ext (by repeat(first|exact Qz|assumption|apply Ext.alloc|apply Ext.drew))) HW.out hn).mono ?_;rintro e w1 ⟨rfl,hx⟩;have HX:=Qq hx;clear hx);go_ret;exact⟨rfl,HX.out⟩
theorem Qz2(B:Nat)(v:Value)(rl:List (List Nat))(n:Nat)(w:World)(h:To w v rl)(hw:∀r∈rl,∀s∈r,Qw s)(hn:n<=64)(hB:B < w.heap.size)(hb:w.cell? ⟨B,0,none⟩=some (.int .i64 (n:Int))):
 Calls Tryz.prog 99 #[v,.func (.func 159) #[] #[.pointer (some ⟨B,0,none⟩)]] w fun e w'=>e=.returned (.bool (rl.any fun r=>Zi r n))/\Ext w w':=by
 have eg:∀args w,(callFunc 159 args).run Tryz.prog w=.ok (.enter 159 args) w:=fun _ _=>rfl
 refine(Ox 159 #[.pointer (some ⟨B,0,none⟩)] eg (fun r=>Zi r n) v rl w h ?_).mono ?_
 ·intro W u s hs hx hu;exact Qdh B u s n W hu (hw s hs) hn (Qy hB hx.size) ((hx.cell (p:=⟨B,0,none⟩) hB).trans hb)
 rintro e w1 ⟨rfl,hx⟩;exact⟨rfl,hx⟩
theorem Ki(v:Value)(md:Md)(w:World)(h:MdV w v md)(hok:md.ok):
 Calls Tryz.prog 93 #[v] w fun e w'=>e=.returned (.int .i64 (Zj md))/\Ext w w':=by
 obtain⟨vv,vr,rfl,hv,hr⟩:=h;have HV:=Qq hv;have HRS:=Qq hr;have HOK:=Qq hok;obtain⟨Av,cv,rfl,_⟩:=hv;obtain⟨Ar,cr,rfl,_,_,HR⟩:=Bq hr;obtain⟨z,hz⟩:∃z,z=md.n:=⟨_,rfl⟩;have HZ:=Qq hz;rw [<-hz];clear hr hok hz;by_cases h1:z < 1
 ·have HE:=Qq (show Zj md=2 by unfold Zj;rw [<-HZ.out,if_pos (.inl h1)]);go_enter Tryz.func93,Tryz.ntmps93;go_wp2_with fail;go_ret;exact⟨by rw [HE.out] <;> rfl,(by repeat(first|exact Qz|assumption|apply Ext.alloc|apply Ext.drew))⟩
 by_cases h2:64 < z
 ·have HE:=Qq (show Zj md=2 by unfold Zj;rw [<-HZ.out,if_pos (.inr h2)]);go_enter Tryz.func93,Tryz.ntmps93;go_wp2_with fail;go_ret;exact⟨by rw [HE.out] <;> rfl,(by repeat(first|exact Qz|assumption|apply Ext.alloc|apply Ext.drew))⟩
 by_cases h3:4 < md.rel.length
 ·have HE:=Qq (show Zj md=8 by unfold Zj;rw [<-HZ.out,if_neg (by omega),if_pos (.inl h3)]);have h3':(4:Int) < (md.rel.length:Int):=by omega
  clear h3;go_enter Tryz.func93,Tryz.ntmps93;go_wp2_with fail;go_ret;exact⟨by rw [HE.out] <;> rfl,(by repeat(first|exact Qz|assumption|apply Ext.alloc|apply Ext.drew))⟩
 by_cases h4:8 < md.val.length
 ·have HE:=Qq (show Zj md=8 by unfold Zj;rw [<-HZ.out,if_neg (by omega),if_pos (.inr h4)]);have h4':(8:Int) < (md.val.length:Int):=by omega
  have h3':¬(4:Int) < (md.rel.length:Int):=by omega
  clear h3 h4;go_enter Tryz.func93,Tryz.ntmps93;go_wp2_with fail;go_ret;exact⟨by rw [HE.out] <;> rfl,(by repeat(first|exact Qz|assumption|apply Ext.alloc|apply Ext.drew))⟩
 have h4':¬(8:Int) < (md.val.length:Int):=by omega
 have h3':¬(4:Int) < (md.rel.length:Int):=by omega
 obtain⟨n,hnz⟩:∃n:Nat,(n:Int)=z:=⟨z.toNat,by omega⟩;subst hnz;have hn64:n<=64:=by omega
 have hn1:0 < n:=by omega
 have HC:=Qq (show Zj md=if md.rel.any (fun r=> !decide (r.length=n))then 3 else if Zi md.val n then 2 else if md.rel.any (fun r=>Zi r n)then 2 else 0 by
  unfold Zj;rw [<-HZ.out,if_neg (by omega),if_neg (by omega),Int.toNat_natCast];simp only [Int.natCast_inj])
 obtain⟨rl,hrl⟩:∃l,l=md.rel:=⟨_,rfl⟩;have HRE:=Qq hrl;rw [<-hrl]at HR HRS h3' h3 HC;rw [<-hrl];clear h1 h2 h4 hrl;go_enter Tryz.func93,Tryz.ntmps93;go_wp2_with fail;go_loopw [26] (fun v wr=>∃k:Nat,v=.int .i64 (k:Int)/\k<=rl.length/\wr=w.alloc (.cells #[.int .i64 (n:Int),.slice Av md.val.length cv,.slice Ar rl.length cr] 26)/\Hid (∀j,j < k->decide ((rl.getD j []).length=n)=true)) (fun v _=>rl.length - (intOf v).toNat)
 case atStart=>exact⟨0,rfl,Nat.zero_le _,rfl,Qq fun j hj=>absurd hj (by omega)⟩
 case round =>
  obtain⟨k,rfl,hk,rfl,HJ⟩:=hrel;by_cases hlt2:k < rl.length
  ·have hk1:(k:Int) < (rl.length:Int):=by omega
   obtain⟨ad,u,rfl,hb1,hu,hc1⟩:=HR.out k hlt2;obtain⟨Au,cu,rfl,_⟩:=hc1;have a0:=(((Ext.refl w).alloc (.cells #[.int .i64 (n:Int),.slice Av md.val.length cv,.slice (some ad) rl.length cr] 26)).cell (p:=ad.add k) (Qj hb1)).trans hu;clear hu;obtain⟨q,hq⟩:∃q,q=(rl.getD k []).length:=⟨_,rfl⟩;have HNX:=Qq (show decide (q=n)=true->∀j,j < k+1->decide ((rl.getD j []).length=n)=true from fun h=>Qty (P:=fun j=>decide ((rl.getD j []).length=n)=true) HJ.out (by rw [<-hq];exact h));have HHT:=Qq (show decide (q=n)=false->rl.any (fun r=> !decide (r.length=n))=true from fun h=>Qph hlt2 (by rw [<-hq,h];rfl));rw [<-hq]at a0
   clear hq;by_cases hd:q=n
   ·have HP:=Qq (HNX.out (decide_eq_true hd));subst hd;have hne:((q:Int) !=(q:Int))=false:=by simp
    go_wp2_with fail;go_roundw
    case rel=>exact⟨k+1,by go_num,by omega,by first|trivial|rfl,HP⟩
    case measure=>simp [intOf];omega
   have HE:=Qq (show Zj md=3 by rw [HC.out,if_pos (HHT.out (decide_eq_false hd))]);have hne:((q:Int) !=(n:Int))=true:=by simp only [bne_iff_ne,ne_eq,Int.natCast_inj];exact hd
   go_wp2_with fail;go_ret;exact⟨by rw [HE.out] <;> rfl,(by repeat(first|exact Qz|assumption|apply Ext.alloc|apply Ext.drew))⟩
  obtain rfl:rl.length=k:=by omega
  have HC2:=Qq (show Zj md=if Zi md.val n then 2 else if rl.any (fun r=>Zi r n)then 2 else 0 by
   rw [HC.out,if_neg (by rw [Qts (P:=fun r=> !decide (r.length=n)) (fun j hj=>by rw [HJ.out j hj];rfl)];simp)])
  clear HC HJ;have hcb:(w.alloc (.cells #[.int .i64 (n:Int),.slice Av md.val.length cv,.slice Ar rl.length cr] 26)).cell? ⟨w.heap.size,0,none⟩=some (.int .i64 (n:Int)):=by simp
  have HCB:=Qq hcb;clear hcb;go_upto_region 11 with(fail);cases hb:Zi md.val n
  ·have HB:=Qq hb;cases ha:rl.any (fun r=>Zi r n)
   ·have HE:=Qq (show Zj md=0 by rw [HC2.out,HB.out,ha];rfl);have HA:=Qq ha;clear ha hb;go_wp2_with(first|(go_at_call 158;refine(Wm _ md.val n _ (HV.out.ext (by repeat(first|exact Qz|assumption|apply Ext.alloc|apply Ext.drew))) HOK.out.val hn64).mono ?_;rintro e w1 ⟨rfl,hx⟩;rw [HB.out];have HX:=Qq (((Ext.refl w).alloc _).trans hx);have HX1:=Qq hx;have hc2:w1.cell? ⟨w.heap.size,2,none⟩=some (.slice Ar rl.length cr):=(hx.cell (p:=⟨w.heap.size,2,none⟩) (by simp)).trans (by simp);clear hx)|(go_at_call 99;refine(Qz2 w.heap.size _ rl n _ (HRS.out.ext HX.out) (by rw [HRE.out];exact HOK.out.rel) hn64 (Qy (by simp) HX1.out.size) ((HX1.out.cell (p:=⟨w.heap.size,0,none⟩) (by simp)).trans HCB.out)).mono ?_;rintro e w2 ⟨rfl,hx⟩;rw [HA.out];have HX2:=Qq hx;clear hx))
    go_ret;exact⟨by rw [HE.out] <;> rfl,HX.out.trans HX2.out⟩
   have HE:=Qq (show Zj md=2 by rw [HC2.out,HB.out,ha];rfl);have HA:=Qq ha;clear ha hb;go_wp2_with(first|(go_at_call 158;refine(Wm _ md.val n _ (HV.out.ext (by repeat(first|exact Qz|assumption|apply Ext.alloc|apply Ext.drew))) HOK.out.val hn64).mono ?_;rintro e w1 ⟨rfl,hx⟩;rw [HB.out];have HX:=Qq (((Ext.refl w).alloc _).trans hx);have HX1:=Qq hx;have hc2:w1.cell? ⟨w.heap.size,2,none⟩=some (.slice Ar rl.length cr):=(hx.cell (p:=⟨w.heap.size,2,none⟩) (by simp)).trans (by simp);clear hx)|(go_at_call 99;refine(Qz2 w.heap.size _ rl n _ (HRS.out.ext HX.out) (by rw [HRE.out];exact HOK.out.rel) hn64 (Qy (by simp) HX1.out.size) ((HX1.out.cell (p:=⟨w.heap.size,0,none⟩) (by simp)).trans HCB.out)).mono ?_;rintro e w2 ⟨rfl,hx⟩;rw [HA.out];have HX2:=Qq hx;clear hx))
   go_ret;exact⟨by rw [HE.out] <;> rfl,HX.out.trans HX2.out⟩
  have HE:=Qq (show Zj md=2 by rw [HC2.out,hb];rfl);have HB:=Qq hb;clear hb;go_wp2_with(go_at_call 158;refine(Wm _ md.val n _ (HV.out.ext (by repeat(first|exact Qz|assumption|apply Ext.alloc|apply Ext.drew))) HOK.out.val hn64).mono ?_;rintro e w1 ⟨rfl,hx⟩;rw [HB.out];have HX:=Qq (((Ext.refl w).alloc _).trans hx);clear hx);go_ret;exact⟨by rw [HE.out] <;> rfl,HX.out⟩
end Go.Proofs.YtkmclcmnoicagaaGreatDoor
