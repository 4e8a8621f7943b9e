/- Negation normal forms as Lean functions. -/
import Derived.Test.YtmidgcldljfkcaaGreatDoorM01
import Derived.Test.YtmidgcldljfkcaaGreatDoorM04
import Derived.Test.YtmidgcldljfkcaaGreatDoorM02
namespace Go.Proofs.YtmidgcldljfkcaaGreatDoor
set_option maxRecDepth 100000
set_option maxHeartbeats 128000000
def Fy(x:Nd)(p:Bool->Int->List Nd):List Nd :=
 bif x.op==4 then p true x.x
 else bif x.op==7 then orN (p true x.x) (p false x.y)
 else bif x.op==8 then Vi (orN (p true x.x) (p false x.y)) (orN (p false x.x) (p true x.y))
 else bif x.op==2 then Dv
 else bif x.op==3 then Qy9 x.i
 else bif x.op==5 then Vi (p false x.x) (p false x.y)
 else bif x.op==6 then orN (p false x.x) (p false x.y)
 else bif x.op==9 then Yy x.i (p false x.x)
 else bif x.op==10 then Cr x.i (p false x.x)
 else Db
def Gl(x:Nd)(p:Bool->Int->List Nd):List Nd :=
 bif x.op==1 then Dv
 else bif x.op==2 then Db
 else bif x.op==4 then p false x.x
 else bif x.op==5 then orN (p true x.x) (p true x.y)
 else bif x.op==6 then Vi (p true x.x) (p true x.y)
 else bif x.op==7 then Vi (p false x.x) (p true x.y)
 else bif x.op==8 then orN (Vi (p false x.x) (p true x.y)) (Vi (p true x.x) (p false x.y))
 else bif x.op==9 then Cr x.i (p true x.x)
 else bif x.op==10 then Yy x.i (p true x.x)
 else Vt (Fy x p)
def Nt(c:List Nd):Nat->Bool->Nat->List Nd
 |0,_,_=> []
 |k+1,no,i=>bif no then Gl (c.getD i Nd.zero) (fun b j=>Nt c k b j.toNat)else Fy (c.getD i Nd.zero) (fun b j=>Nt c k b j.toNat)
def Zv(c:List Nd)(no:Bool)(i:Nat):List Nd:=Nt c (i+1) no i
def Tc(c:List Nd):Prop:=∀n∈c,1<=n.op/\n.op<=10
theorem Hr {x:Nd} {p q:Bool->Int->List Nd}(hx:Qw x.op=true->∀b,p b x.x=q b x.x)(hy:Qa x.op=true->∀b,p b x.y=q b x.y):Fy x p=Fy x q:=by
 unfold Fy;have X:∀{k:Int},(x.op==k)=true->Qw k=true->∀b,p b x.x=q b x.x:=fun h h2=>hx (by rw [beq_iff_eq]at h;rw [h];exact h2)
 have Y:∀{k:Int},(x.op==k)=true->Qa k=true->∀b,p b x.y=q b x.y:=fun h h2=>hy (by rw [beq_iff_eq]at h;rw [h];exact h2)
 cases h4:x.op==4
 ·cases h7:x.op==7
  ·cases h8:x.op==8
   ·cases x.op==2
    ·cases x.op==3
     ·cases h5:x.op==5
      ·cases h6:x.op==6
       ·cases h9:x.op==9
        ·cases h10:x.op==10
         ·rfl
         simp only [cond_true,cond_false,X h10 rfl]
        simp only [cond_true,cond_false,X h9 rfl]
       simp only [cond_true,cond_false,X h6 rfl,Y h6 rfl]
      simp only [cond_true,cond_false,X h5 rfl,Y h5 rfl]
     rfl
    rfl
   simp only [cond_true,cond_false,X h8 rfl,Y h8 rfl]
  simp only [cond_true,cond_false,X h7 rfl,Y h7 rfl]
 simp only [cond_true,X h4 rfl]
theorem Qq1 {x:Nd} {p q:Bool->Int->List Nd}(hx:Qw x.op=true->∀b,p b x.x=q b x.x)(hy:Qa x.op=true->∀b,p b x.y=q b x.y):Gl x p=Gl x q:=by
 unfold Gl;have X:∀{k:Int},(x.op==k)=true->Qw k=true->∀b,p b x.x=q b x.x:=fun h h2=>hx (by rw [beq_iff_eq]at h;rw [h];exact h2)
 have Y:∀{k:Int},(x.op==k)=true->Qa k=true->∀b,p b x.y=q b x.y:=fun h h2=>hy (by rw [beq_iff_eq]at h;rw [h];exact h2)
 cases x.op==1
 ·cases x.op==2
  ·cases h4:x.op==4
   ·cases h5:x.op==5
    ·cases h6:x.op==6
     ·cases h7:x.op==7
      ·cases h8:x.op==8
       ·cases h9:x.op==9
        ·cases h10:x.op==10
         ·simp only [cond_false,Hr hx hy]
         simp only [cond_true,cond_false,X h10 rfl]
        simp only [cond_true,cond_false,X h9 rfl]
       simp only [cond_true,cond_false,X h8 rfl,Y h8 rfl]
      simp only [cond_true,cond_false,X h7 rfl,Y h7 rfl]
     simp only [cond_true,cond_false,X h6 rfl,Y h6 rfl]
    simp only [cond_true,cond_false,X h5 rfl,Y h5 rfl]
   simp only [cond_true,cond_false,X h4 rfl]
  rfl
 rfl
theorem Qnm {c:List Nd}(hc:Wf c):∀(k:Nat) (no:Bool) (i:Nat),i < k->i < c.length->Nt c k no i=Zv c no i:=by
 intro k
 induction k using Nat.strongRecOn with
 |_ k ih =>
  intro no i h hi;cases k with
  |zero=>omega
  |succ k =>
   obtain⟨n,hn⟩:∃n,c[i]?=some n:=⟨_,Qv hi⟩;obtain⟨hx,hy⟩:=hc i n hn;have e:∀(j:Int),0<=j->j < i->∀b,Nt c k b j.toNat=Nt c i b j.toNat:=fun j h0 h1 b=>by
    rw [ih k (by omega) b j.toNat (by omega) (by omega)];by_cases hik:i=k
    ·subst hik;exact(ih i (by omega) b j.toNat (by omega) (by omega)).symm
    exact(ih i (by omega) b j.toNat (by omega) (by omega)).symm
   unfold Zv;simp only [Nt,Nm hn];cases no
   ·exact Hr (p:=fun b j=>Nt c k b j.toNat) (q:=fun b j=>Nt c i b j.toNat) (fun h=>e n.x (hx h).1 (hx h).2) (fun h=>e n.y (hy h).1 (hy h).2)
   exact Qq1 (p:=fun b j=>Nt c k b j.toNat) (q:=fun b j=>Nt c i b j.toNat) (fun h=>e n.x (hx h).1 (hx h).2) (fun h=>e n.y (hy h).1 (hy h).2)
theorem Qfj {c:List Nd}(hc:Wf c) {i:Nat} {n:Nd}(hn:c[i]?=some n)(no:Bool):
 Zv c no i=bif no then Gl n (fun b j=>Zv c b j.toNat)else Fy n (fun b j=>Zv c b j.toNat):=by
 have hi:=(List.getElem?_eq_some_iff.1 hn).1;obtain⟨hx,hy⟩:=hc i n hn;have e:∀(j:Int),0<=j->j < i->∀b,Nt c i b j.toNat=Zv c b j.toNat:=fun j h0 h1 b=>Qnm hc i b j.toNat (by omega) (by omega)
 conv=>lhs;unfold Zv
 simp only [Nt,Nm hn];cases no
 ·exact Hr (p:=fun b j=>Nt c i b j.toNat) (q:=fun b j=>Zv c b j.toNat) (fun h=>e n.x (hx h).1 (hx h).2) (fun h=>e n.y (hy h).1 (hy h).2)
 exact Qq1 (p:=fun b j=>Nt c i b j.toNat) (q:=fun b j=>Zv c b j.toNat) (fun h=>e n.x (hx h).1 (hx h).2) (fun h=>e n.y (hy h).1 (hy h).2)
def Tn(f:List Nd):List Nd:=bif Qs f !=0 then []else Zv (Qf f) false ((Qf f).length - 1)
def Eo(f:List Nd):Int:=bif Qs f !=0 then Qs f else bif decide ((Tn f).length=0)then 8 else 0
def Ns(f:List Nd):List Nd:=Tn (Vt f)
structure Stp where
 set:Nat
 rule:Int
 on:Int
 e:Int
 from_:List Int
def Stp.zero:Stp:=⟨0,0,0,0,[]⟩
def Vj(base:List Nd)(n:Nd):Bool :=
 bif n.op==4 then(base.getD n.x.toNat Nd.zero).op==3 else n.op==1||(n.op==2||(n.op==3||(n.op==5||(n.op==6||(n.op==9||n.op==10)))))
def Zt(base:List Nd):Int :=
 bif Qs base !=0 then Qs base else bif decide (64 < base.length)then 8 else bif base.all (Vj base)then 0 else 10
def inS(set:Nat)(node:Int):Bool:=decide (0<=node)&&(decide (node < 64)&&set.testBit node.toNat)
def Yd(a b:Nat):Bool:=(a&&&b)==a
def Kw(base:List Nd)(set:Nat):Bool:=decide (set < 2^base.length)
def Kn(base:List Nd):List (List Nd):=(List.range base.length).map fun(i:Nat)=>Zh base i
def Pw(l:List (List Nd))(g:List Nd):Int:=match l.findIdx? (fun f=>decide (f=g))with|none=> -1|some j=>j
def Qre(base:List Nd)(node:Int):Int:=Pw (Kn base) (Ns (Zh base node))
def Qws(base:List Nd)(node:Int):Int:=bif Zt base !=0||(decide (node < 0)||decide ((base.length:Int)<=node))then -1 else Qre base node
def Gc(base:List Nd):List Int:=(Kn base).map fun f=>Pw (Kn base) (Ns f)
def Bk(lg:Int):Bool:=lg==3||(lg==4||(lg==5||lg==6))
def Nj(lg:Int):Bool:=lg==5||lg==6
def Ym(lg:Int)(set:Nat)(agent:Int)(i:Nat)(n:Nd)(out:Nat):Nat :=
 bif !inS set i||n.i !=agent then out
 else bif n.op==9&&Bk lg then out|||(2^n.x.toNat|||2^i)
 else bif n.op==9 then out|||2^n.x.toNat
 else bif n.op==10&&Nj lg then out|||2^i
 else out
def Zm(lg:Int)(set:Nat)(agent:Int):List Nd->Nat->Nat->Nat
 |[],_,out=>out
 |n :: r,i,out=>Zm lg set agent r (i+1) (Ym lg set agent i n out)
def Yn(lg:Int)(base:List Nd)(set:Nat)(agent:Int):Nat:=Zm lg set agent base 0 0
def Bf(lg:Int):Bool:=decide (0<=lg)&&decide (lg<=6)
def Qwe(lg:Int)(base:List Nd)(set:Nat)(agent:Int):Nat :=
 bif !Bf lg||(Zt base !=0||(!Kw base set||(decide (agent < 0)||decide (4<=agent))))then 0 else Yn lg base set agent
def Vc(opps:List Int)(node other:Int):Bool:=decide (0<=node)&&(decide (node < opps.length)&&(decide (0<=other)&&opps.getD node.toNat 0==other))
def onN(base:List Nd)(x:Stp)(op:Int):Bool:= !(decide ((base.length:Int)<=x.on)||(!inS x.set x.on||(base.getD x.on.toNat Nd.zero).op !=op))
def Kh(base:List Nd)(x:Stp):Nd:=base.getD x.on.toNat Nd.zero
def Nq(steps:List Stp)(at_:Nat):List Int->List Nat->Bool
 |[],[]=>true
 |j :: r,s :: t=>bif decide (j < 0)||(decide ((at_:Int)<=j)|| !Yd (steps.getD j.toNat Stp.zero).set s)then false else Nq steps at_ r t
 |_,_=>false
def Ja(steps:List Stp)(at_:Nat)(sets:List Nat):Bool:=(steps.getD at_ Stp.zero).from_.length==sets.length&&Nq steps at_ (steps.getD at_ Stp.zero).from_ sets
def Gf(base:List Nd)(opps:List Int)(steps:List Stp)(at_:Nat):Bool :=
 let x:=steps.getD at_ Stp.zero
 bif onN base x 2&&x.e==0 then Ja steps at_ []
 else inS x.set x.on&&(inS x.set x.e&&(Vc opps x.on x.e&&Ja steps at_ []))
def Qo(lg:Int)(base:List Nd)(opps:List Int)(steps:List Stp)(at_:Nat):Bool :=
 let x:=steps.getD at_ Stp.zero
 let n:=Kh base x
 bif !Kw base x.set then false
 else bif x.rule==1 then Gf base opps steps at_
 else bif x.rule==4 then decide (0<=x.e)&&(Vc opps x.on x.e&&Ja steps at_ [x.set|||2^x.on.toNat,x.set|||2^x.e.toNat])
 else bif x.e !=0 then false
 else bif x.rule==2 then onN base x 5&&Ja steps at_ [x.set|||2^n.x.toNat|||2^n.y.toNat]
 else bif x.rule==3 then onN base x 6&&Ja steps at_ [x.set|||2^n.x.toNat,x.set|||2^n.y.toNat]
 else bif x.rule==5 then onN base x 9&&((lg==2||(lg==4||lg==6))&&Ja steps at_ [x.set|||2^n.x.toNat])
 else bif x.rule==6 then onN base x 10&&Ja steps at_ [2^n.x.toNat|||Yn lg base x.set n.i]
 else bif x.rule==7 then(lg==1||lg==5)&&(decide (0<=x.on)&&(decide (x.on < 4)&&Ja steps at_ [Yn lg base x.set x.on]))
 else false
def Xh(lg:Int)(base:List Nd)(steps:List Stp):Int :=
 bif !Bf lg then 2 else bif Zt base !=0 then Zt base else bif decide (steps.length=0)||decide (4096 < steps.length)then 3 else 0
def Ng(lg:Int)(base:List Nd)(opps:List Int)(steps:List Stp):Nat->Nat->Int
 |0,_=> -1
 |k+1,i=>bif Qo lg base opps steps i then Ng lg base opps steps k (i+1)else i
def Gi(lg:Int)(base:List Nd)(steps:List Stp):Int :=
 bif Xh lg base steps !=0 then -1 else Ng lg base (Gc base) steps steps.length 0
def Do(lg:Int)(base:List Nd)(steps:List Stp):Int :=
 bif Xh lg base steps !=0 then Xh lg base steps else bif decide (0<=Gi lg base steps)then 13 else 0
def Qqr(lg:Int)(base:List Nd)(steps:List Stp):List (List Nd)×Int :=
 bif Do lg base steps !=0 then([],Do lg base steps)
 else(((List.range base.length).filter fun(i:Nat)=>inS (steps.getLastD Stp.zero).set i).map fun(i:Nat)=>Zh base i,0)
def Qwa(lg:Int)(base:List Nd)(steps:List Stp)(f:List Nd):Int :=
 bif (Qqr lg base steps).2 !=0 then(Qqr lg base steps).2
 else bif Qs f !=0 then Qs f
 else bif decide (2<=Jh f)then 10
 else bif !decide ((Qqr lg base steps).1= [Ns f])then 13 else 0
def It(n:Nd):Prop:=1<=n.op/\n.op<=10
theorem Qja {f:List Nd}(hf:Wf f)(h:∀n∈f,It n) {i:Nat}(hi:i < f.length):∀n∈(Jj f i []).1,It n:=by
 intro m hm;rcases Qje hf i [] hi m hm with h1|⟨n,hn,k1,k2,rfl⟩
 ·cases h1
 exact h n hn
theorem Iv {g:List Nd}(hc:Qs g=0)(h:Tc g):Tc (Qf g):=by
 rw [Pt hc];exact Qja (Jq hc) h (by have:=(Zk hc).1;omega)
theorem Qph(f:List Nd): [f].any (fun o=>Qs o !=0)=(Qs f !=0):=by simp
theorem Qpx {f:List Nd}(h:Qs f=0->Tc (Qf f))(hn:Qs (Vt f)=0):Tc (Qf (Vt f)):=by
 refine Iv hn ?_;unfold Vt Yp at hn⊢;rw [Qph]at hn⊢;cases hc:Qs f !=0
 ·have hc0:Qs f=0:=by simpa using hc
  rw [hc,cond_false]at hn;rw [cond_false];have hcw:=(Vz hc0).1;have hsw:=Hd Dg hcw;have hops:∀n∈([]++(Qf f).map (Jk ([]:List Nd).length)),It n:=by
   intro n hn;rw [List.nil_append,List.mem_map]at hn;obtain⟨m,hm,rfl⟩:=hn;exact h hc0 m hm
  simp only [Up]at hn⊢;unfold Rt at hn⊢;generalize []++(Qf f).map (Jk ([]:List Nd).length)=l at hn hsw hops⊢;cases he:Zz (Bw 0 ⟨4,0,0,0,0,0⟩ l.length) l.length !=0
  ·rw [he,cond_false]at hn;rw [cond_false];have he0:Zz (Bw 0 ⟨4,0,0,0,0,0⟩ l.length) l.length=0:=by simpa using he
   obtain⟨hx,hy⟩:=Rs he0;have hl0:0 < l.length:=by
    have:Qh true ((l.length:Int) - 1) l.length=true:=hx;unfold Qh at this;simp at this;omega
   have hw:Wf (l++ [Bw 0 ⟨4,0,0,0,0,0⟩ l.length]):=Lm hsw (fun _=>by
    show 0<=(l.length:Int) - 1/\(l.length:Int) - 1 < l.length
    omega) (fun h=>by cases h)
   have key:∀n∈(Jj (l++ [Bw 0 ⟨4,0,0,0,0,0⟩ l.length]) l.length []).1,It n:=Qja hw (fun n hn=>by
    rcases List.mem_append.1 hn with h1|h1
    ·exact hops n h1
    rw [List.mem_singleton.1 h1];exact⟨by show(1:Int)<=4;decide,by show(4:Int)<=10;decide⟩) (by simp)
   cases hb:decide (200 < (Jj (l++ [Bw 0 ⟨4,0,0,0,0,0⟩ l.length]) l.length []).1.length)
   ·exact key
   exact fun n hn=>by cases hn
  exact fun n hn=>by cases hn
 exact fun n hn=>by cases hn
theorem Py {base:List Nd}(hc:Qs base=0) {k:Nat}(hk:k < base.length):Zh base k=(Jj base k []).1/\Qs (Zh base k)=0/\(Zh base k).length<=base.length:=by
 have e:Zh base k=(Jj base k []).1:=by
  unfold Zh;have e2:(decide ((k:Int) < 0)||decide ((base.length:Int)<=(k:Int)))=false:=by simp;omega
  rw [hc,e2,Int.toNat_natCast];rfl
 have hw:=Jq hc;have h1:=Us base (Jj base k []).1;have h2:=Qzq hw k [] hk;have h3:=Qjg base;have hl:(Jj base k []).1.length<=base.length:=by omega
 have h4:=Lr hw k [] hk;refine⟨e,?_,by rw [e];exact hl⟩;rw [e];refine Qkc (by intro e;rw [e]at h4;simp at h4) (by have:=(Zk hc).2.1;omega) (Qra hw k [] hk Dg) (fun n hn=> ?_);rcases Qje hw k [] hk n hn with h|⟨m,hm,k1,k2,rfl⟩
 ·cases h
 exact(Fz hc m hm).with_ k1 k2
theorem Qdj {base:List Nd} {n:Nd}(h:Vj base n=true):It n:=by
 unfold Vj at h;unfold It;cases h4:n.op==4
 ·rw [h4]at h;simp only [cond_false,Bool.or_eq_true,beq_iff_eq]at h;omega
 have:n.op=4:=by simpa using h4
 omega
theorem Qlq {base:List Nd}(ha:base.all (Vj base)=true):∀n∈base,It n:=fun n hn=>Qdj (List.all_eq_true.1 ha n hn)
theorem Qpl {base:List Nd}(hc:Qs base=0)(ha:base.all (Vj base)=true) {k:Nat}(hk:k < base.length):Tc (Zh base k):=by
 rw [(Py hc hk).1];exact Qja (Jq hc) (Qlq ha) hk
theorem Qcq {base:List Nd}(hc:Qs base=0)(ha:base.all (Vj base)=true) {k:Nat}(hk:k < base.length):Qs (Vt (Zh base k))=0->Tc (Qf (Vt (Zh base k))):=
 Qpx fun h=>Iv h (Qpl hc ha hk)
def Sb(a b:Nat):Prop:=∀i,a.testBit i=true->b.testBit i=true
theorem Sb.refl(a:Nat):Sb a a:=fun _ h=>h
theorem Sb.trans {a b c:Nat}(h:Sb a b)(g:Sb b c):Sb a c:=fun i hi=>g i (h i hi)
theorem Sb.or {a b c d:Nat}(h:Sb a b)(g:Sb c d):Sb (a|||c) (b|||d):=fun i hi=>by
 rw [Nat.testBit_or,Bool.or_eq_true]at hi⊢;rcases hi with hi|hi
 ·exact Or.inl (h i hi)
 exact Or.inr (g i hi)
theorem Sb.left(a b:Nat):Sb a (a|||b):=fun i hi=>by rw [Nat.testBit_or,hi];rfl
structure Qaf (lg lg':Int):Prop where
 tr:Bk lg=true->Bk lg'=true
 eu:Nj lg=true->Nj lg'=true
 rt:(lg==2||(lg==4||lg==6))=true->(lg'==2||(lg'==4||lg'==6))=true
 rd:(lg==1||lg==5)=true->(lg'==1||lg'==5)=true
theorem Qaf.refl(lg:Int):Qaf lg lg:=⟨id,id,id,id⟩
def SbL:List Nat->List Nat->Prop
 |[],[]=>True
 |a :: r,b :: t=>Sb a b/\SbL r t
 |_,_=>False
theorem SbL.length:∀{a b:List Nat},SbL a b->a.length=b.length
 |[],[],_=>rfl
 |[],_ :: _,h=>h.elim
 |_ :: _,[],h=>h.elim
 |_ :: r,_ :: t,h=>by rw [List.length_cons,List.length_cons,SbL.length (a:=r) (b:=t) h.2]
theorem Qmq {lg:Int} {base:List Nd} {steps:List Stp} :Xh lg base steps=0↔Bf lg=true/\Zt base=0/\0 < steps.length/\steps.length<=4096:=by
 unfold Xh;cases hk:Bf lg
 ·simp
 cases hb:Zt base !=0
 ·have h0:Zt base=0:=by simpa using hb
  simp only [Bool.not_true,cond_false,h0,true_and];by_cases h1:steps.length=0
  ·rw [decide_eq_true h1];simp;omega
  rw [decide_eq_false h1];by_cases h2:4096 < steps.length
  ·rw [decide_eq_true h2];simp;omega
  rw [decide_eq_false h2];simp;omega
 have h0:Zt base≠0:=by simpa using hb
 simp [h0]
open Go.RowKit
open Go.Maps (Keyed IsMap Tidy has has_put_same has_put_other atKey_put_same atKey_put_other)
abbrev DV:=DataW Value
def Vg(v:Value):Option (DV×List MemPlace):=some (.held v,[])
theorem El {v:Value} {d:DV} {ps:List MemPlace}(h:Vg v=some (d,ps)):d=.held v:=by
 unfold Vg at h;injection h with h;injection h with h _;exact h.symm
def Qzy(D:DV)(w:World)(c:List Nd)(no:Bool):Prop:=∀i:Nat,has D (.int .i64 i)=true->i < c.length/\∃v,(∀z,D.atKey (.int .i64 i) z=.held v)/\Fml w v (Zv c no i)
def Nl(D:DV)(c:List Nd):Nat:=(List.range c.length).countP fun i:Nat=>has D (.int .i64 i)
def Xp(w:World)(b:Nat)(c:List Nd)(no:Bool):Prop :=
 ∃(D:DV) (m:Nat),w.ownsMap Tryz.prog 3 Vg b m D/\m<=Nl D c/\Qzy D w c no
theorem Ev(D:DV)(c:List Nd):Nl D c<=c.length:=by
 have:=List.countP_le_length (p:=fun i:Nat=>has D (.int .i64 i)) (l:=List.range c.length)
 simpa [Nl]using this
theorem Dc {w w':World} {P:Program} {k:TypeId} {R:Value->Option (DV×List MemPlace)} {b n:Nat} {D:DV}(h:w.ownsMap P k R b n D)(hb:w'.heap[b]?=w.heap[b]?):w'.ownsMap P k R b n D:=by
 obtain⟨es,clock,h1,h2⟩:=h;exact⟨es,clock,hb.trans h1,h2⟩
theorem Qjp {w:World} {k:TypeId} {R:Value->Option (DV×List MemPlace)} {b n:Nat} {D:DV}(h:w.ownsMap Tryz.prog k R b n D):w.ownsMap Tryz.prog k R b (Go.Maps.size D) D:=by
 obtain⟨es,clock,hb,F,hs,rfl⟩:=h;exact⟨es,clock,hb,F,by simp [Go.Maps.size,length_sorted],rfl⟩
theorem Xp.map {w:World} {b:Nat} {c:List Nd} {no:Bool}(h:Xp w b c no):∃es clock,w.heap[b]?=some (.map es clock):=by
 obtain⟨D,m,⟨es,clock,h1,_⟩,_⟩:=h;exact⟨es,clock,h1⟩
theorem Xp.lt {w:World} {b:Nat} {c:List Nd} {no:Bool}(h:Xp w b c no):b < w.heap.size:=by
 obtain⟨es,clock,h⟩:=h.map;exact Qm h
structure Qc (m0 m1:Nat) (w w':World):Prop where
 os:w'.os=w.os
 tape:w'.tape=w.tape
 output:w'.output=w.output
 size:w.heap.size<=w'.heap.size
 block:∀k,k < w.heap.size->k≠m0->k≠m1->w'.heap[k]?=w.heap[k]?
section
variable {m0 m1:Nat} {a b c' w w' W0:World} {c:List Nd} {no:Bool} {v:Value} {l:List Nd}
theorem Qc.refl:Qc m0 m1 w w:=⟨rfl,rfl,rfl,Nat.le_refl _,fun _ _ _ _=>rfl⟩
theorem Qc.trans(h:Qc m0 m1 a b)(k:Qc m0 m1 b c'):Qc m0 m1 a c' :=
 ⟨k.os.trans h.os,k.tape.trans h.tape,k.output.trans h.output,Qx h.size k.size,fun i hi h1 h2=>(k.block i (Qy hi h.size) h1 h2).trans (h.block i hi h1 h2)⟩
theorem Qc.of_ext(h:Ext a b):Qc m0 m1 a b:=⟨h.os,h.tape,h.output,h.size,fun _ hk _ _=>h.block hk⟩
theorem Fml.nstep(h:Fml w v l)(h0:∃es k,w.heap[m0]?=some (.map es k))(h1:∃es k,w.heap[m1]?=some (.map es k))(hs:Qc m0 m1 w w'):Fml w' v l:=by
 obtain⟨⟨A,cp,rfl,p1,p2,p3⟩,hok⟩:=h;refine⟨⟨A,cp,rfl,p1,p2,fun hn=> ?_⟩,hok⟩;obtain⟨ad,rfl,hlt,hc⟩:=p3 hn;have hne:∀m,(∃es k,w.heap[m]?=some (.map es k))->ad.block≠m:=fun m ⟨es,k,hm⟩ e=>by
  obtain⟨n,hn'⟩:∃n,l[0]?=some n:=by
   cases l with
   |nil=>exact absurd rfl hn
   |cons a t=>exact⟨a,rfl⟩
  have c0:=(hc 0 n hn').1;simp [World.cell?,Qn,e,hm]at c0
 have hb:=hs.block ad.block hlt (hne m0 h0) (hne m1 h1);exact⟨ad,rfl,Qy hlt hs.size,fun k n hk=>(hc k n hk).keep fun p hp=>World.cell?_of_block (by rw [hp,Qn];exact hb)⟩
theorem Xp.nstep {m:Nat}(h:Xp w m c no)(h0:∃es k,w.heap[m0]?=some (.map es k))(h1:∃es k,w.heap[m1]?=some (.map es k))(hs:Qc m0 m1 w w')(hb:w'.heap[m]?=w.heap[m]?):Xp w' m c no:=by
 obtain⟨D,k,a,b,d⟩:=h;refine⟨D,k,Dc a hb,b,fun i hi=> ?_⟩;obtain⟨x,v,y,z⟩:=d i hi;exact⟨x,v,y,z.nstep h0 h1 hs⟩
theorem Xp.put {m k i:Nat} {D:DV}(h:w.ownsMap Tryz.prog 3 Vg m k D)(hm:k<=Nl D c)(hD:Qzy D w' c no)(hi:i < c.length)(hv:Fml w' v (Zv c no i))
 (h':w'.ownsMap Tryz.prog 3 Vg m (k+1) (D.put (.int .i64 i) (.held v))):Xp w' m c no:=by
 have hkey:WideAt.IsKeyLit (.int .i64 (i:Int)):=trivial;have other:∀j:Nat,j≠i->(Lit.int .i64 (j:Int))≠.int .i64 (i:Int):=fun j e e'=>e (by injection e' with _ e';omega)
 have htidy:=h.tidy Uk;have hsz:=h.size_le;have mono:∀j:Nat,has D (.int .i64 j)=true->has (D.put (.int .i64 i) (.held v)) (.int .i64 j)=true:=by
  intro j hj;by_cases e:j=i
  ·subst e;exact has_put_same h.isMap hkey _
  rw [has_put_other (other j e)];exact hj
 refine⟨_,_,Qjp h',?_,fun j hj=> ?_⟩
 ·rw [Go.Maps.size_put htidy]
  split
  ·exact Qx (Qx hsz hm) (List.countP_mono_left fun j _=>mono j)
  rename_i hno;refine Nat.succ_le_of_lt (Nat.lt_of_le_of_lt (Qx hsz hm) ?_);exact Pg (fun j _=>mono j) ⟨i,List.mem_range.2 hi,by simpa using hno,has_put_same h.isMap hkey _⟩
 by_cases e:j=i
 ·subst e;exact⟨hi,v,fun z=>atKey_put_same h.isMap hkey _ z,hv⟩
 rw [has_put_other (other j e)]at hj;obtain⟨a,x,d,f⟩:=hD j hj;exact⟨a,x,fun z=>by rw [atKey_put_other (other j e)];exact d z,f⟩
end
structure Jg (W0 w:World) (bn m0 m1:Nat) (A:Option Addr) (cp:Nat) (c:List Nd):Prop where
 ext:Ext W0 w
 nds:Fml W0 (.slice A c.length cp) c
 blk:w.heap[bn]?=some (.cells #[.slice A c.length cp,.map (some m0),.map (some m1)] 155 (0,0))
 f0:Xp w m0 c false
 f1:Xp w m1 c true
 low:W0.heap.size<=m0/\W0.heap.size<=m1
 ne:m0≠m1
section
variable {W0 w w':World} {bn m0 m1 cp:Nat} {A:Option Addr} {c:List Nd} {v:Value} {l:List Nd}
theorem Jg.bne(h:Jg W0 w bn m0 m1 A cp c):bn≠m0/\bn≠m1:=by
 obtain⟨es,k,h0⟩:=h.f0.map;obtain⟨es',k',h1⟩:=h.f1.map;refine⟨fun e=> ?_,fun e=> ?_⟩
 ·rw [<-e,h.blk]at h0;cases h0
 rw [<-e,h.blk]at h1;cases h1
theorem Jg.keep(h:Jg W0 w bn m0 m1 A cp c)(he:Ext w w'):Jg W0 w' bn m0 m1 A cp c :=
 ⟨h.ext.trans he,h.nds,(he.block (Qm h.blk)).trans h.blk,h.f0.nstep h.f0.map h.f1.map (.of_ext he) (he.block h.f0.lt),h.f1.nstep h.f0.map h.f1.map (.of_ext he) (he.block h.f1.lt),h.low,h.ne⟩
theorem Jg.fml(h:Jg W0 w bn m0 m1 A cp c)(hf:Fml w v l)(hs:Qc m0 m1 w w'):Fml w' v l:=hf.nstep h.f0.map h.f1.map hs
theorem Qc.ext0(hs:Qc m0 m1 w w')(h:Ext W0 w)(l0:W0.heap.size<=m0)(l1:W0.heap.size<=m1):Ext W0 w':=by
 exact Below.trans h ⟨hs.os,hs.tape,hs.output,hs.size,fun k hk=>hs.block k (Qy hk h.size) (by omega) (by omega)⟩
end
end Go.Proofs.YtmidgcldljfkcaaGreatDoor
