/- Bit by bit: common knowledge on words (plain; under way). -/
import Derived.Test.YtmidgcldljfkcaaGreatDoorM01
import Derived.Test.YtmidgcldljfkcaaGreatDoorM16
import Derived.Test.YtmidgcldljfkcaaGreatDoorM21
import Derived.Test.YtmidgcldljfkcaaGreatDoorM12
namespace Go.Proofs.YtmidgcldljfkcaaGreatDoor
set_option maxRecDepth 100000
set_option maxHeartbeats 128000000
theorem Lv {md:Md}(h:Zd md=0) {g:Int} {c:Nat} {t:Tr}(hg:g.toNat < 2^md.rel.length)(hc:IsW md c t)(u v:Fin md.n.toNat):
 Ui ((List.range md.n.toNat).map (Vh md.rel g.toNat false md.n.toNat)) c u.1 v.1↔(Bz md).step g ((Bz md).sat t) u v:=by
 unfold Ui KM.step;rw [Qjr _ _ _ _ _ u.2,Oj,hc v];have h4:=(Vk h).2.2.1;refine and_congr ⟨?_,?_⟩ Iff.rfl
 ·rintro⟨a,ha,hga,hr⟩;exact⟨a,by omega,hga,(kmR ha u v).2 hr⟩
 rintro⟨a,_,hga,hr⟩;exact⟨a,Px hg hga,hga,(kmR (Px hg hga) u v).1 hr⟩
theorem Qan {md:Md}(h:Zd md=0) {g:Int} {c:Nat} {t:Tr}(hg:g.toNat < 2^md.rel.length)(hc:IsW md c t) {a b:Nat}(hr:Rch (Ui ((List.range md.n.toNat).map (Vh md.rel g.toNat false md.n.toNat)) c) a b):
 ∀(ha:a < md.n.toNat),∃hb:b < md.n.toNat,Rch ((Bz md).step g ((Bz md).sat t)) (⟨a,ha⟩:Fin md.n.toNat) (⟨b,hb⟩:Fin md.n.toNat):=by
 induction hr with
 |one hs=>exact fun ha=>⟨(Sj h _ _ _ hs.1).2,.one ((Lv h hg hc ⟨_,ha⟩ ⟨_,(Sj h _ _ _ hs.1).2⟩).1 hs)⟩
 |cons hs _ ih =>
  intro ha;obtain⟨hb,hr2⟩:=ih (Sj h _ _ _ hs.1).2;exact⟨hb,.cons ((Lv h hg hc ⟨_,ha⟩ ⟨_,(Sj h _ _ _ hs.1).2⟩).1 hs) hr2⟩
theorem Qlf {md:Md}(h:Zd md=0) {g:Int} {c:Nat} {t:Tr}(hg:g.toNat < 2^md.rel.length)(hc:IsW md c t) {a b:Fin md.n.toNat}(hr:Rch ((Bz md).step g ((Bz md).sat t)) a b):
 Rch (Ui ((List.range md.n.toNat).map (Vh md.rel g.toNat false md.n.toNat)) c) a.1 b.1:=by
 induction hr with
 |one hs=>exact .one ((Lv h hg hc _ _).2 hs)
 |cons hs _ ih=>exact .cons ((Lv h hg hc _ _).2 hs) ih
theorem Qdx {md:Md}(h:Zd md=0) {n:Nd} {c s:Nat} {t1 t2:Tr}(hg:n.g.toNat < 2^md.rel.length)(hc:IsW md c t1)(hs:IsW md s t2)(h9:n.op=13):
 IsW md (Gx ((List.range md.n.toNat).map (Vh md.rel n.g.toNat false md.n.toNat)) md.n.toNat c s) (.two n t1 t2):=by
 intro w;unfold Gx;rw [Mj,Bool.and_eq_true,decide_eq_true_iff,Kb];show _↔(if n.op=5 then _ else if n.op=6 then _ else if n.op=7 then _ else if n.op=8 then _ else if n.op=13 then _ else _);rw [if_neg (by omega),if_neg (by omega),if_neg (by omega),if_neg (by omega),if_pos h9];constructor
 ·rintro⟨_,hb⟩ v hv;exact(hs v).1 (hb v.1 ((Et (Sj h _)).2 (Qlf h hg hc hv)))
 intro hf;refine⟨w.2,fun v hv=> ?_⟩;obtain⟨hvn,hr⟩:=Qan h hg hc ((Et (Sj h _)).1 hv) w.2;exact(hs ⟨v,hvn⟩).2 (hf ⟨v,hvn⟩ hr)
theorem Qm9 {md:Md} {n:Nd}(h:n.op=1)(x y:Nat):IsW md (Rk n.op x y (Zo md.n.toNat)) (.leaf n):=by
 intro w;show _↔(n.op=1\/_);unfold Rk;rw [if_pos h,Xm];exact⟨fun _=>Or.inl h,fun _=>decide_eq_true w.2⟩
theorem Qpk {md:Md} {n:Nd}(h:n.op=2)(x y:Nat):IsW md (Rk n.op x y (Zo md.n.toNat)) (.leaf n):=by
 intro w;show _↔(n.op=1\/(n.op=3/\_));rw [h];show(Rk 2 x y (Zo md.n.toNat)).testBit w.1=true↔_;rw [show Rk 2 x y (Zo md.n.toNat)=0 from rfl,Nat.zero_testBit];simp
theorem Qtf {md:Md} {n:Nd}(h:n.op=3):IsW md (md.val.getD n.i.toNat 0) (.leaf n):=by
 intro w;show _↔(n.op=1\/(n.op=3/\(md.val.getD n.i.toNat 0).testBit w.1=true));rw [h];simp
theorem Qhf {md:Md} {n:Nd} {x y:Nat} {t:Tr}(h:n.op=4)(hx:IsW md x t):IsW md (Rk n.op x y (Zo md.n.toNat)) (.one n t):=by
 intro w;show _↔(if n.op=4 then ¬(Bz md).sat t w else _);rw [if_pos h,<-hx w,h];show(Yq (Zo md.n.toNat) x).testBit w.1=true↔_;rw [Ur,Xm,decide_eq_true w.2];simp
theorem Wk {md:Md} {n:Nd} {x y:Nat} {t1 t2:Tr}(h:n.op=5\/n.op=6\/n.op=7\/n.op=8)(hx:IsW md x t1)(hy:IsW md y t2):IsW md (Rk n.op x y (Zo md.n.toNat)) (.two n t1 t2):=by
 intro w;have h1:=hx w;have h2:=hy w;show _↔(if n.op=5 then(Bz md).sat t1 w/\(Bz md).sat t2 w else if n.op=6 then(Bz md).sat t1 w\/(Bz md).sat t2 w else if n.op=7 then(Bz md).sat t1 w->(Bz md).sat t2 w else if n.op=8 then((Bz md).sat t1 w↔(Bz md).sat t2 w)else _);rw [<-h1,<-h2];rcases h with h|h|h|h <;> rw [h]
 ·show(x&&&y).testBit w.1=true↔_;rw [Nat.testBit_and];cases x.testBit w.1 <;> cases y.testBit w.1 <;> simp
 ·show(x|||y).testBit w.1=true↔_;rw [Nat.testBit_or];cases x.testBit w.1 <;> cases y.testBit w.1 <;> simp
 ·show(Yq (Zo md.n.toNat) x|||y).testBit w.1=true↔_;rw [Nat.testBit_or,Ur,Xm,decide_eq_true w.2];cases x.testBit w.1 <;> cases y.testBit w.1 <;> simp
 show(Yq (Zo md.n.toNat) (x^^^y)).testBit w.1=true↔_;rw [Ur,Xm,decide_eq_true w.2,Nat.testBit_xor];cases x.testBit w.1 <;> cases y.testBit w.1 <;> simp
theorem Qtz {md:Md}(h:Zd md=0) {n:Nd} {x y:Nat} {a b:Tr}(hf:Qvk md n)(h12:n.op≠12)(hx:Qw n.op=true->IsW md x a)(hy:Qa n.op=true->IsW md y b):
 IsW md (Qqf md n x y) (Ve n a b):=by
 have ho:1<=n.op:=by
  have:=hf.head.1;unfold Jl at this;simp at this;omega
 have h13:=hf.op;obtain⟨op,i,e,g,p,q⟩:=n;have hc:op=1\/op=2\/op=3\/op=4\/(op=5\/op=6\/op=7\/op=8)\/op=9\/op=10\/op=11\/op=13:=by
  simp at h12 ho h13;omega
 rcases hc with rfl|rfl|rfl|rfl|hc|rfl|rfl|rfl|rfl
 ·exact Qm9 (n:=⟨1,i,e,g,p,q⟩) rfl x y
 ·exact Qpk (n:=⟨2,i,e,g,p,q⟩) rfl x y
 ·exact Qtf (n:=⟨3,i,e,g,p,q⟩) rfl
 ·exact Qhf (n:=Nd.head ⟨4,i,e,g,p,q⟩) (y:=y) rfl (hx rfl)
 ·rcases hc with rfl|rfl|rfl|rfl
  ·exact Wk (n:=Nd.head ⟨5,i,e,g,p,q⟩) (Or.inl rfl) (hx rfl) (hy rfl)
  ·exact Wk (n:=Nd.head ⟨6,i,e,g,p,q⟩) (Or.inr (Or.inl rfl)) (hx rfl) (hy rfl)
  ·exact Wk (n:=Nd.head ⟨7,i,e,g,p,q⟩) (Or.inr (Or.inr (Or.inl rfl))) (hx rfl) (hy rfl)
  exact Wk (n:=Nd.head ⟨8,i,e,g,p,q⟩) (Or.inr (Or.inr (Or.inr rfl))) (hx rfl) (hy rfl)
 ·exact Qcw h (n:=Nd.head ⟨9,i,e,g,p,q⟩) ⟨(Uc hf.head rfl).1,hf.agent (Or.inl rfl)⟩ (hx rfl) rfl
 ·exact Qpq h (n:=Nd.head ⟨10,i,e,g,p,q⟩) ⟨(Uc hf.head rfl).1,hf.agent (Or.inr rfl)⟩ (hx rfl) rfl
 ·exact Qm0 h (n:=Nd.head ⟨11,i,e,g,p,q⟩) (hf.group (show(11:Int)<=11 by decide)).2 (hx rfl) rfl
 exact Qdx h (n:=Nd.head ⟨13,i,e,g,p,q⟩) (hf.group (show(11:Int)<=13 by decide)).2 (hx rfl) (hy rfl) rfl
open Go.RowKit
def okP(n:Nd)(fi:List Bool):Bool :=
 (!decide (4<=n.op)||fi.getD n.x.toNat false)&&(!((decide (5<=n.op)&&decide (n.op<=8))||n.op==13)||fi.getD n.y.toNat false)
def atP(md:Md)(f:List Nd)(out:List Nat)(fi:List Bool)(k:Nat):Nat×Bool :=
 if okP (f.getD k Nd.zero) fi=true then(Yz md (f.getD k Nd.zero) (out.getD (f.getD k Nd.zero).x.toNat 0) (out.getD (f.getD k Nd.zero).y.toNat 0),Zc md (f.getD k Nd.zero))else(0,false)
def Ze(md:Md)(f:List Nd):Nat->List Nat×List Bool
 |0=>([],[])
 |k+1=>((Ze md f k).1++ [(atP md f (Ze md f k).1 (Ze md f k).2 k).1],(Ze md f k).2++ [(atP md f (Ze md f k).1 (Ze md f k).2 k).2])
theorem Gw(md:Md)(f:List Nd):∀k,(Ze md f k).1.length=k/\(Ze md f k).2.length=k
 |0=>⟨rfl,rfl⟩
 |k+1=>by
  obtain⟨h1,h2⟩:=Gw md f k;unfold Ze;exact⟨by simp [h1],by simp [h2]⟩
theorem Dy(md:Md)(f:List Nd):∀(m k:Nat),k < m->(Ze md f m).1.getD k 0=(atP md f (Ze md f k).1 (Ze md f k).2 k).1/\(Ze md f m).2.getD k false=(atP md f (Ze md f k).1 (Ze md f k).2 k).2
 |0,k,h=>absurd h (Nat.not_lt_zero _)
 |m+1,k,h=>by
  obtain⟨h1,h2⟩:=Gw md f m;by_cases hk:k < m
  ·have:=Dy md f m k hk;rw [<-this.1,<-this.2];constructor
   ·show((Ze md f m).1++_).getD k 0=_;rw [Qk,Qk,List.getElem?_append_left (by omega)]
   show((Ze md f m).2++_).getD k false=_;rw [Qk,Qk,List.getElem?_append_left (by omega)]
  obtain rfl:k=m:=by omega
  constructor
  ·show((Ze md f k).1++_).getD k 0=_;rw [Qk,List.getElem?_append_right (by omega),h1,Nat.sub_self];rfl
  show((Ze md f k).2++_).getD k false=_;rw [Qk,List.getElem?_append_right (by omega),h2,Nat.sub_self];rfl
theorem Qmd {md:Md} {n:Nd}(hh:Jm n)(h:Zc md n=true)(hg:11<=n.op->n.op<=13->1<=n.g):Qvk md n:=by
 have hop:=(Mx n.op).1 hh.1;unfold Zc at h;refine⟨hh,?_,fun ho=> ?_,fun ho=> ?_,fun ho=> ?_⟩
 ·by_cases h3:n.op=3
  ·omega
  rw [if_neg h3]at h;by_cases h8:n.op<=8
  ·omega
  rw [if_neg h8]at h;by_cases h10:n.op<=10
  ·omega
  rw [if_neg h10]at h;by_cases h13:n.op<=13
  ·exact h13
  rw [if_neg h13]at h;cases h
 ·rw [if_pos ho]at h;exact of_decide_eq_true h
 ·rw [if_neg (by omega),if_neg (by omega),if_pos (by omega)]at h;exact of_decide_eq_true h
 rw [if_neg (by omega),if_neg (by omega),if_neg (by omega)]at h;by_cases h13:n.op<=13
 ·rw [if_pos h13]at h;have h2:=of_decide_eq_true h;have hg1:=hg ho h13;exact⟨hg1,by omega⟩
 rw [if_neg h13]at h;cases h
theorem Is {f:List Nd} {k:Nat} {n:Nd}(h:f[k]?=some n):f.getD k Nd.zero=n:=by rw [Qk,h];rfl
def szU(md:Md)(f:List Nd)(k:Nat):List Nat:=(Ze md f k).1++List.replicate (f.length - k) 0
def szF(md:Md)(f:List Nd)(k:Nat):List Bool:=(Ze md f k).2++List.replicate (f.length - k) false
section
variable {md:Md} {f:List Nd} {k:Nat}
theorem Qce(h:k<=f.length):(szU md f k).length=f.length:=by
 unfold szU;rw [List.length_append,List.length_replicate,(Gw md f k).1];omega
theorem Qcg(h:k<=f.length):(szF md f k).length=f.length:=by
 unfold szF;rw [List.length_append,List.length_replicate,(Gw md f k).2];omega
theorem Qjd(i:Nat):(szU md f k).getD i 0=(Ze md f k).1.getD i 0:=by
 unfold szU;rw [Qk,Qk];rcases Nat.lt_or_ge i (Ze md f k).1.length with h|h
 ·rw [List.getElem?_append_left h]
 rw [List.getElem?_append_right h,List.getElem?_replicate,List.getElem?_eq_none h]
 split <;> rfl
theorem Qfy(i:Nat):(szF md f k).getD i false=(Ze md f k).2.getD i false:=by
 unfold szF;rw [Qk,Qk];rcases Nat.lt_or_ge i (Ze md f k).2.length with h|h
 ·rw [List.getElem?_append_left h]
 rw [List.getElem?_append_right h,List.getElem?_replicate,List.getElem?_eq_none h]
 split <;> rfl
theorem Qz3 {b:Bool} {x:Int}(h:k < f.length)(h1:b=true->0<=x/\x < k)(h2:b=false->x=0):∃ix:Nat,x=(ix:Int)/\ix < f.length:=by
 cases b
 ·exact⟨0,h2 rfl,by omega⟩
 obtain⟨h3,h4⟩:=h1 rfl;exact⟨x.toNat,by omega,by omega⟩
theorem Qla:szU md f 0=List.replicate f.length 0:=rfl
theorem Qlo:szF md f 0=List.replicate f.length false:=rfl
theorem Qp0:szU md f f.length=(Ze md f f.length).1:=by
 unfold szU;rw [Nat.sub_self];simp
theorem Qfl {α:Type}(l:List α)(n:Nat)(z v:α):(l++List.replicate (n+1) z).set l.length v=l++ [v]++List.replicate n z:=by
 rw [List.set_append_right _ _ (Nat.le_refl _),Nat.sub_self,List.replicate_succ,List.set_cons_zero];simp
theorem Qkf(h:k < f.length):szU md f (k+1)=(szU md f k).set k (atP md f (Ze md f k).1 (Ze md f k).2 k).1:=by
 have h1:=(Gw md f k).1;have h2:=Qfl (Ze md f k).1 (f.length - (k+1)) 0 (atP md f (Ze md f k).1 (Ze md f k).2 k).1;rw [h1,show f.length - (k+1)+1=f.length - k by omega]at h2;exact h2.symm
theorem Qvg(h:k < f.length):szF md f (k+1)=(szF md f k).set k (atP md f (Ze md f k).1 (Ze md f k).2 k).2:=by
 have h1:=(Gw md f k).2;have h2:=Qfl (Ze md f k).2 (f.length - (k+1)) false (atP md f (Ze md f k).1 (Ze md f k).2 k).2;rw [h1,show f.length - (k+1)+1=f.length - k by omega]at h2;exact h2.symm
theorem Qxg {α:Type} {l:List α} {i:Nat} {z:α}(h:l[i]?=some z):l.set i z=l:=by
 refine List.ext_getElem? fun j=> ?_
 rw [List.getElem?_set];by_cases e:i=j
 ·subst e;rw [if_pos rfl,h];simp [(List.getElem?_eq_some_iff.1 h).1]
 rw [if_neg e]
theorem Qpi(h:k < f.length)(ho:okP (f.getD k Nd.zero) (Ze md f k).2=false):szU md f (k+1)=szU md f k/\szF md f (k+1)=szF md f k:=by
 have e:atP md f (Ze md f k).1 (Ze md f k).2 k=(0,false):=by unfold atP;rw [ho];rfl
 refine⟨?_,?_⟩
 ·rw [Qkf h,e];refine Qxg ?_;unfold szU;have h1:=(Gw md f k).1;rw [List.getElem?_append_right (by omega),List.getElem?_replicate,if_pos (by omega)]
 rw [Qvg h,e];refine Qxg ?_;unfold szF;have h1:=(Gw md f k).2;rw [List.getElem?_append_right (by omega),List.getElem?_replicate,if_pos (by omega)]
theorem Qed(h:k < f.length) {n:Nd}(hn:f.getD k Nd.zero=n)(ho:okP n (Ze md f k).2=true):
 szU md f (k+1)=(szU md f k).set k (Yz md n ((szU md f k).getD n.x.toNat 0) ((szU md f k).getD n.y.toNat 0))/\szF md f (k+1)=(szF md f k).set k (Zc md n):=by
 have e:atP md f (Ze md f k).1 (Ze md f k).2 k=(Yz md n ((Ze md f k).1.getD n.x.toNat 0) ((Ze md f k).1.getD n.y.toNat 0),Zc md n):=by unfold atP;rw [hn,ho];rfl
 rw [Qkf h,Qvg h,e,Qjd,Qjd];exact⟨rfl,rfl⟩
end
theorem unT {n:Nd} {f:List Nd}(h1:Qw n.op=true)(h2:Qa n.op=false)(hh:Jm n)(hn:n.head=n)(h:Qs (Yp n [f])=0):Qs f=0/\Qp (Yp n [f])=.one n (Qp f):=by
 by_cases hf:Qs f=0
 ·refine⟨hf,?_⟩;have e:=Qbp hf h1 h2 hh;rw [hn]at e;have hd:(Tr.one n (Qp f)).ok:=⟨h1,h2,hn,Rz hf⟩;by_cases hl:(Ys (.one n (Qp f))).length<=200
  ·rw [e,Qyn hl];exact Xq hd
  rw [e,Qzl (by omega)]at h;exact absurd h Rx
 rw [Qbm hf]at h;exact absurd h Rx
theorem Qtn {n:Nd} {f g:List Nd}(h1:Qw n.op=true)(h2:Qa n.op=true)(hh:Jm n)(hn:n.head=n)(h:Qs (Yp n [f,g])=0):Qs f=0/\Qs g=0/\Qp (Yp n [f,g])=.two n (Qp f) (Qp g):=by
 by_cases hf:Qs f=0
 ·by_cases hg:Qs g=0
  ·refine⟨hf,hg,?_⟩;have e:=Qdz hf hg h1 h2 hh;rw [hn]at e;have hd:(Tr.two n (Qp f) (Qp g)).ok:=⟨h1,h2,hn,Rz hf,Rz hg⟩;by_cases hl:(Ys (.two n (Qp f) (Qp g))).length<=200
   ·rw [e,Qyn hl];exact Xq hd
   rw [e,Qzl (by omega)]at h;exact absurd h Rx
  rw [Qz1 (.inr hg)]at h;exact absurd h Rx
 rw [Qz1 (.inl hf)]at h;exact absurd h Rx
theorem Qgi {n:Nd}(h:Jm n)(ho:Zy n.op=true):0<=n.i/\n.i < 4:=by
 obtain⟨_,_,hr,_,_⟩:=h;unfold Yk at hr;simp only [Jz,ho,Bool.or_eq_false_iff]at hr;simp at hr;omega
section
variable {M:KM} {w:M.W} {f g:List Nd}
theorem Qjc(h:Qs (Vi f g)=0):Qs f=0/\Qs g=0/\(M.sat (Qp (Vi f g)) w↔M.sat (Qp f) w/\M.sat (Qp g) w):=by
 obtain⟨h1,h2,e⟩:=Qtn (n:=⟨5,0,0,0,0,0⟩) rfl rfl ⟨rfl,rfl,rfl,fun _=>rfl,fun _=>rfl⟩ rfl h;exact⟨h1,h2,by rw [show Qp (Vi f g)=_ from e];simp [KM.sat]⟩
theorem St(h:Qs (Vt f)=0):Qs f=0/\(M.sat (Qp (Vt f)) w↔¬M.sat (Qp f) w):=by
 obtain⟨h1,e⟩:=unT (n:=⟨4,0,0,0,0,0⟩) rfl rfl ⟨rfl,rfl,rfl,fun _=>rfl,fun _=>rfl⟩ rfl h;exact⟨h1,by rw [show Qp (Vt f)=_ from e];simp [KM.sat]⟩
theorem Qdo {k a:Int}(hk:k=9\/k=10)(h0:0<=a)(h4:a < 4):Jm ⟨k,a,0,0,0,0⟩:=by
 have ha:a=0\/a=1\/a=2\/a=3:=by omega
 rcases hk with rfl|rfl <;> rcases ha with rfl|rfl|rfl|rfl <;> exact⟨rfl,rfl,rfl,fun _=>rfl,fun _=>rfl⟩
theorem Fh {a:Int}(h0:0<=a)(h4:a < 4)(h:Qs (Yy a f)=0):Qs f=0/\(M.sat (Qp (Yy a f)) w↔∀v,M.R a w v->M.sat (Qp f) v):=by
 obtain⟨h1,e⟩:=unT (n:=⟨9,a,0,0,0,0⟩) rfl rfl (Qdo (.inl rfl) h0 h4) rfl h;exact⟨h1,by rw [show Qp (Yy a f)=_ from e];simp [KM.sat]⟩
theorem Qlh:M.sat (Qp Db) w:=by
 rw [show Qp Db=.leaf ⟨1,0,0,0,0,0⟩from rfl];exact .inl rfl
end
def Qwi(M:KM)(base:List Nd)(s:Nat)(w:M.W):Prop:=∀i,i < base.length->s.testBit i=true->M.sat (tr base i) w
section
variable {M:KM} {base:List Nd} {w:M.W} {k:Nat} {n:Nd}
theorem Qcm(hc:Qs base=0)(hk:base[k]?=some n)(ho:n.op=9):M.sat (tr base k) w↔∀v,M.R n.i w v->M.sat (tr base n.x.toNat) v:=by
 rw [Xb (Jq hc) hk];obtain⟨op,a,e,g,x,y⟩:=n;obtain rfl:op=9:=ho;simp [Ve,Qw,Qa,KM.sat,Nd.head,Nd.with_]
theorem Qln(hc:Qs base=0)(hk:base[k]?=some n)(ho:n.op=10):M.sat (tr base k) w↔∃v,M.R n.i w v/\M.sat (tr base n.x.toNat) v:=by
 rw [Xb (Jq hc) hk];obtain⟨op,a,e,g,x,y⟩:=n;obtain rfl:op=10:=ho;simp [Ve,Qw,Qa,KM.sat,Nd.head,Nd.with_]
end
theorem Qvn:∀(l:List Nd) (s i:Nat),(l.foldl (fun s n=>s|||(Kv n.op).toNat) s).testBit i=true->s.testBit i=true\/∃n∈l,(Kv n.op).toNat.testBit i=true
 |[],_,_,h=>Or.inl h
 |a :: l,s,i,h=>by
  rcases Qvn l (s|||(Kv a.op).toNat) i h with h1|⟨n,hn,h2⟩
  ·rw [Nat.testBit_or,Bool.or_eq_true]at h1;rcases h1 with h1|h1
   ·exact Or.inl h1
   exact Or.inr ⟨a,List.mem_cons_self ..,h1⟩
  exact Or.inr ⟨n,List.mem_cons_of_mem _ hn,h2⟩
theorem Qso:∀(l:List Nd) (s i:Nat),(l.foldl agS s).testBit i=true->s.testBit i=true\/∃n∈l,(Zy n.op=true/\i=n.i.toNat)\/n.g.toNat.testBit i=true
 |[],_,_,h=>Or.inl h
 |a :: l,s,i,h=>by
  rcases Qso l (agS s a) i h with h1|⟨n,hn,h2⟩
  ·unfold agS at h1;rw [Nat.testBit_or,Nat.testBit_or,Bool.or_eq_true,Bool.or_eq_true]at h1;rcases h1 with(h1|h1)|h1
   ·exact Or.inl h1
   ·refine Or.inr ⟨a,List.mem_cons_self ..,Or.inl ?_⟩;cases ha:Zy a.op
    ·rw [ha,if_neg (by simp),Nat.zero_testBit]at h1;cases h1
    rw [ha,if_pos rfl,Nat.testBit_two_pow,decide_eq_true_iff]at h1;exact⟨rfl,h1.symm⟩
   exact Or.inr ⟨a,List.mem_cons_self ..,Or.inr h1⟩
  exact Or.inr ⟨n,List.mem_cons_of_mem _ hn,h2⟩
theorem Qsf:∀(l:List Nd) (s i:Nat),(l.foldl faS s).testBit i=true->s.testBit i=true\/∃n∈l,n.op=3/\i=n.i.toNat
 |[],_,_,h=>Or.inl h
 |a :: l,s,i,h=>by
  rcases Qsf l (faS s a) i h with h1|⟨n,hn,h2⟩
  ·unfold faS at h1;by_cases ho:a.op=3
   ·rw [if_pos ho,Nat.testBit_or,Bool.or_eq_true,Nat.testBit_two_pow,decide_eq_true_iff]at h1;rcases h1 with h1|h1
    ·exact Or.inl h1
    exact Or.inr ⟨a,List.mem_cons_self ..,ho,h1.symm⟩
   rw [if_neg ho]at h1;exact Or.inl h1
  exact Or.inr ⟨n,List.mem_cons_of_mem _ hn,h2⟩
theorem Qdp {c:List Nd}(hc:Qs c=0) {k:Nat}(hk:k < c.length):∀n∈Ys (tr c k),∃m∈c,m.head=n.head:=by
 have hP:∀(n:Nd) (k1 k2:Nat),(∃m∈c,m.head=n.head)->∃m∈c,m.head=(n.with_ k1 k2).head:=fun n k1 k2 ⟨m,hm,h⟩=>⟨m,hm,by rw [Aq];exact h⟩
 exact We (P:=fun n=>∃m∈c,m.head=n.head) hP (tr c k) [] (Qv5 (P:=fun n=>∃m∈c,m.head=n.head) hP (Jq hc) (fun n hn=>⟨n,hn,rfl⟩) k hk) (fun n hn=>by cases hn)
theorem Qtd {md:Md} {c:List Nd}(hc:Qs c=0)(hcc:Qf c=c)(hs:Yd (Jh c) 15=true)(hf:Uf c md.rel.length md.val.length=true) {k:Nat}(hk:k < c.length):Qq4 md c (k:Int)=true:=by
 have hg:=(Py hc hk).2.1;have htk:(tr c k).ok:=Qvy (Jq hc) k hk;have hce:Qf (Zh c (k:Int))=Ys (tr c k):=by
  rw [Kt hg,Eh hc hk,Xq htk]
 have hh:=Qdp hc hk;unfold Uf at hf;rw [Bool.and_eq_true,Bool.and_eq_true,List.all_eq_true,List.all_eq_true,hcc]at hf;unfold Qq4;rw [Bool.and_eq_true];refine⟨?_,?_⟩
 ·rw [Kb]at hs⊢;intro i hi;unfold Jh Kp at hi;rw [hce]at hi;rcases Qvn _ _ _ hi with h|⟨n,hn,h⟩
  ·rw [Nat.zero_testBit]at h;cases h
  obtain⟨m,hm,e⟩:=hh n hn;refine hs i ?_;unfold Jh Kp;rw [hcc];exact(Hv c 0).2 m hm i (by rw [(Nr e).1];exact h)
 unfold Uf;rw [Bool.and_eq_true,Bool.and_eq_true,List.all_eq_true,List.all_eq_true,hce];refine⟨by rw [hg];rfl,fun i hi=> ?_,fun i hi=> ?_⟩
 ·have h1:=hf.2.1 i hi;unfold Hg at h1⊢;rw [Bool.or_eq_true]at h1⊢;rcases h1 with h1|h1
  ·refine Or.inl ?_;cases hb:(Dr (Ys (tr c k))).testBit i
   ·rfl
   exfalso
   rcases Qso _ _ _ hb with h|⟨n,hn,h⟩
   ·rw [Nat.zero_testBit]at h;cases h
   obtain⟨m,hm,e⟩:=hh n hn;have:=(Qvh c 0).2 m hm i (by rw [(Nr e).1,(Nr e).2.1,(Nr e).2.2];exact h);unfold Dr at h1;rw [this]at h1;cases h1
  exact Or.inr h1
 have h1:=hf.2.2 i hi;unfold Hg at h1⊢;rw [Bool.or_eq_true]at h1⊢;rcases h1 with h1|h1
 ·refine Or.inl ?_;cases hb:(Rn (Ys (tr c k))).testBit i
  ·rfl
  exfalso
  rcases Qsf _ _ _ hb with h|⟨n,hn,h⟩
  ·rw [Nat.zero_testBit]at h;cases h
  obtain⟨m,hm,e⟩:=hh n hn;have:=(Qxz c 0).2 m hm i (by rw [(Nr e).1,(Nr e).2.1];exact h);unfold Rn at h1;rw [this]at h1;cases h1
 exact Or.inr h1
def Ff(md:Md):Tr->Bool
 |.leaf n=>Zc md n
 |.one n a=>Zc md n&&Ff md a
 |.two n a b=>Zc md n&&(Ff md a&&Ff md b)
theorem Qzi(md:Md)(n:Nd):Zc md n.head=Zc md n:=rfl
theorem Qmg(md:Md)(n:Nd)(a b:Tr):Ff md (Ve n a b)=(Zc md n&&((!Qw n.op||Ff md a)&&(!Qa n.op||Ff md b))):=by
 unfold Ve;cases hy:Qa n.op
 ·cases hx:Qw n.op
  ·simp [Ff]
  simp [Ff,Qzi]
 have hx:Qw n.op=true:=Xd hy;simp [Ff,Qzi,hx]
theorem Qvd {md:Md} {n:Nd}(h:Zc md n=true):n.op<=13:=by
 unfold Zc at h;by_cases h3:n.op=3
 ·omega
 rw [if_neg h3]at h;by_cases h8:n.op<=8
 ·omega
 rw [if_neg h8]at h;by_cases h10:n.op<=10
 ·omega
 rw [if_neg h10]at h;by_cases h13:n.op<=13
 ·exact h13
 rw [if_neg h13]at h;cases h
theorem Qr9 {md:Md} {f:List Nd}(hc:Qs f=0):∀k,k < f.length->(atP md f (Ze md f k).1 (Ze md f k).2 k).2=Ff md (tr f k):=by
 intro k
 induction k using Nat.strongRecOn with
 |_ k ih =>
  intro hk;obtain⟨n,hn⟩:∃n,f[k]?=some n:=⟨_,Qv hk⟩;obtain⟨hx,hy⟩:=Jq hc k n hn;rw [Xb (Jq hc) hn,Qmg];unfold atP;rw [Is hn];cases hf:Zc md n
  ·rw [Bool.false_and]
   split
   ·rfl
   rfl
  have h13:=Qvd hf;have e:okP n (Ze md f k).2=((!Qw n.op||Ff md (tr f n.x.toNat))&&(!Qa n.op||Ff md (tr f n.y.toNat))):=by
   unfold okP
   congr 1
   ·have e1:decide (4<=n.op)=Qw n.op:=by unfold Qw;rw [decide_eq_true (show n.op<=21 by omega),Bool.and_true]
    rw [e1];cases h:Qw n.op
    ·rfl
    have hb:=hx h;rw [(Dy md f k _ (by omega)).2,ih _ (by omega) (by omega)]
   have e1:((decide (5<=n.op)&&decide (n.op<=8))||n.op==13)=Qa n.op:=by
    unfold Qa;rw [show(n.op==14)=false by simp;omega,show(n.op==16)=false by simp;omega,show(n.op==19)=false by simp;omega,show(n.op==21)=false by simp;omega];simp
   rw [e1];cases h:Qa n.op
   ·rfl
   have hb:=hy h;rw [(Dy md f k _ (by omega)).2,ih _ (by omega) (by omega)]
  rw [<-e,Bool.true_and];cases ho:okP n (Ze md f k).2
  ·rfl
  rfl
theorem Qtt {md:Md} {n:Nd}(h:Qvk md n):Zc md n=true:=by
 unfold Zc;by_cases h3:n.op=3
 ·rw [if_pos h3];exact decide_eq_true (h.fact h3)
 rw [if_neg h3];by_cases h8:n.op<=8
 ·rw [if_pos h8]
 rw [if_neg h8];by_cases h10:n.op<=10
 ·rw [if_pos h10];exact decide_eq_true (h.agent (by omega))
 rw [if_neg h10,if_pos h.op];have:=h.group (by omega);exact decide_eq_true (by omega)
theorem Pk {md:Md} :∀{t:Tr},t.all (fun n=>Zc md n=true)->Ff md t=true
 |.leaf n,h=>h
 |.one n a,h=>by unfold Ff;rw [h.1,Pk h.2];rfl
 |.two n a b,h=>by unfold Ff;rw [h.1,Pk h.2.1,Pk h.2.2];rfl
theorem Qll {md:Md} {f:List Nd}(h:Yh md f=0):Ff md (Qp f)=true:=by
 obtain⟨hck,hc,hs,hf⟩:=Dn h;have h2:=Qy3 hc;have hcc:=Ke hc;have hs2:Yd (Jh (Qf f)) 15=true:=by unfold Jh at hs⊢;rw [h2];exact hs
 have hf2:Uf (Qf f) md.rel.length md.val.length=true:=by
  unfold Uf at hf⊢;rw [h2,hcc];rw [hc]at hf;exact hf
 rw [<-Ky hc];refine Pk (Qv5 (P:=fun n=>Zc md n=true) (fun n k1 k2 h=>h) (Jq hcc) (fun n hn=> ?_) _ (by have:=(Zk hcc).1;omega));obtain⟨k,hk⟩:=List.mem_iff_getElem?.1 hn;have hkl:=(List.getElem?_eq_some_iff.1 hk).1;exact Qtt (Qaj hcc hk (Qtd hcc h2 hs2 hf2 hkl) (Vk hck).2.2.1)
def Df(md:Md)(f:List Nd):Nat:=(Ze md f f.length).1.getD (f.length - 1) 0
end Go.Proofs.YtmidgcldljfkcaaGreatDoor
