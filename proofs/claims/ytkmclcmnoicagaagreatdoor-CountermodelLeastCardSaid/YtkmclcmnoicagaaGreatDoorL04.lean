/- Negation normal forms as Lean functions. -/
import Derived.Test.YtkmclcmnoicagaaGreatDoorL03
namespace Go.Proofs.YtkmclcmnoicagaaGreatDoor
set_option maxRecDepth 100000
set_option maxHeartbeats 128000000
def Zje(x:Nd)(p:Bool->Int->List Nd):List Nd :=
 bif x.op==4 then p true x.x
 else bif x.op==7 then orN (p true x.x) (p false x.y)
 else bif x.op==8 then Bf (orN (p true x.x) (p false x.y)) (orN (p false x.x) (p true x.y))
 else bif x.op==2 then Oh
 else bif x.op==3 then Qk4 x.i
 else bif x.op==5 then Bf (p false x.x) (p false x.y)
 else bif x.op==6 then orN (p false x.x) (p false x.y)
 else bif x.op==9 then Gp x.i (p false x.x)
 else bif x.op==10 then Qor x.i (p false x.x)
 else Qq8
def Zvi(x:Nd)(p:Bool->Int->List Nd):List Nd :=
 bif x.op==1 then Oh
 else bif x.op==2 then Qq8
 else bif x.op==4 then p false x.x
 else bif x.op==5 then orN (p true x.x) (p true x.y)
 else bif x.op==6 then Bf (p true x.x) (p true x.y)
 else bif x.op==7 then Bf (p false x.x) (p true x.y)
 else bif x.op==8 then orN (Bf (p false x.x) (p true x.y)) (Bf (p true x.x) (p false x.y))
 else bif x.op==9 then Qor x.i (p true x.x)
 else bif x.op==10 then Gp x.i (p true x.x)
 else Kj (Zje x p)
def Qew(c:List Nd):Nat->Bool->Nat->List Nd
 |0,_,_=> []
 |k+1,no,i=>bif no then Zvi (c.getD i Nd.zero) (fun b j=>Qew c k b j.toNat)else Zje (c.getD i Nd.zero) (fun b j=>Qew c k b j.toNat)
def Zv0(c:List Nd)(no:Bool)(i:Nat):List Nd:=Qew c (i+1) no i
def Zkj(c:List Nd):Prop:=∀n∈c,1<=n.op/\n.op<=10
def Qco(f:List Nd):List Nd:=bif check f !=0 then []else Zv0 (Qf f) false ((Qf f).length - 1)
def Zv9(f:List Nd):Int:=bif check f !=0 then check f else bif decide ((Qco f).length=0)then 8 else 0
def Qe4(f:List Nd):List Nd:=Qco (Kj f)
structure Ta where
 set:Nat
 rule:Int
 on:Int
 e:Int
 from_:List Int
def Ta.zero:Ta:=⟨0,0,0,0,[]⟩
def Qi8(base:List Nd)(n:Nd):Bool :=
 bif n.op==4 then(base.getD n.x.toNat Nd.zero).op==3 else n.op==1||(n.op==2||(n.op==3||(n.op==5||(n.op==6||(n.op==9||n.op==10)))))
def Qj1(base:List Nd):Int :=
 bif check base !=0 then check base else bif decide (64 < base.length)then 8 else bif base.all (Qi8 base)then 0 else 10
def inS(set:Nat)(node:Int):Bool:=decide (0<=node)&&(decide (node < 64)&&set.testBit node.toNat)
def Jr(a b:Nat):Bool:=(a&&&b)==a
def Qsd(base:List Nd)(set:Nat):Bool:=decide (set < 2^base.length)
def Rc(base:List Nd):List (List Nd):=(List.range base.length).map fun(i:Nat)=>Jn base i
def Yx(l:List (List Nd))(g:List Nd):Int:=match l.findIdx? (fun f=>decide (f=g))with|none=> -1|some j=>j
def Qca(base:List Nd)(node:Int):Int:=Yx (Rc base) (Qe4 (Jn base node))
def Zvp(base:List Nd)(node:Int):Int:=bif Qj1 base !=0||(decide (node < 0)||decide ((base.length:Int)<=node))then -1 else Qca base node
def Zvk(base:List Nd):List Int:=(Rc base).map fun f=>Yx (Rc base) (Qe4 f)
def Zj7(lg:Int):Bool:=lg==3||(lg==4||(lg==5||lg==6))
def Zy5(lg:Int):Bool:=lg==5||lg==6
def Zz8(lg:Int)(set:Nat)(agent:Int)(i:Nat)(n:Nd)(out:Nat):Nat :=
 bif !inS set i||n.i !=agent then out
 else bif n.op==9&&Zj7 lg then out|||(2^n.x.toNat|||2^i)
 else bif n.op==9 then out|||2^n.x.toNat
 else bif n.op==10&&Zy5 lg then out|||2^i
 else out
def Qsz(lg:Int)(set:Nat)(agent:Int):List Nd->Nat->Nat->Nat
 |[],_,out=>out
 |n :: r,i,out=>Qsz lg set agent r (i+1) (Zz8 lg set agent i n out)
def Qb5(lg:Int)(base:List Nd)(set:Nat)(agent:Int):Nat:=Qsz lg set agent base 0 0
def Qcy(lg:Int):Bool:=decide (0<=lg)&&decide (lg<=6)
def Zv7(lg:Int)(base:List Nd)(set:Nat)(agent:Int):Nat :=
 bif !Qcy lg||(Qj1 base !=0||(!Qsd base set||(decide (agent < 0)||decide (4<=agent))))then 0 else Qb5 lg base set agent
def Qd7(opps:List Int)(node other:Int):Bool:=decide (0<=node)&&(decide (node < opps.length)&&(decide (0<=other)&&opps.getD node.toNat 0==other))
def onN(base:List Nd)(x:Ta)(op:Int):Bool:= !(decide ((base.length:Int)<=x.on)||(!inS x.set x.on||(base.getD x.on.toNat Nd.zero).op !=op))
def Zjm(base:List Nd)(x:Ta):Nd:=base.getD x.on.toNat Nd.zero
def Qhg(Yf:List Ta)(at_:Nat):List Int->List Nat->Bool
 |[],[]=>true
 |j :: r,s :: t=>bif decide (j < 0)||(decide ((at_:Int)<=j)|| !Jr (Yf.getD j.toNat Ta.zero).set s)then false else Qhg Yf at_ r t
 |_,_=>false
def Wl(Yf:List Ta)(at_:Nat)(sets:List Nat):Bool:=(Yf.getD at_ Ta.zero).from_.length==sets.length&&Qhg Yf at_ (Yf.getD at_ Ta.zero).from_ sets
def Qo7(base:List Nd)(opps:List Int)(Yf:List Ta)(at_:Nat):Bool :=
 let x:=Yf.getD at_ Ta.zero
 bif onN base x 2&&x.e==0 then Wl Yf at_ []
 else inS x.set x.on&&(inS x.set x.e&&(Qd7 opps x.on x.e&&Wl Yf at_ []))
def Qas(lg:Int)(base:List Nd)(opps:List Int)(Yf:List Ta)(at_:Nat):Bool :=
 let x:=Yf.getD at_ Ta.zero
 let n:=Zjm base x
 bif !Qsd base x.set then false
 else bif x.rule==1 then Qo7 base opps Yf at_
 else bif x.rule==4 then decide (0<=x.e)&&(Qd7 opps x.on x.e&&Wl Yf at_ [x.set|||2^x.on.toNat,x.set|||2^x.e.toNat])
 else bif x.e !=0 then false
 else bif x.rule==2 then onN base x 5&&Wl Yf at_ [x.set|||2^n.x.toNat|||2^n.y.toNat]
 else bif x.rule==3 then onN base x 6&&Wl Yf at_ [x.set|||2^n.x.toNat,x.set|||2^n.y.toNat]
 else bif x.rule==5 then onN base x 9&&((lg==2||(lg==4||lg==6))&&Wl Yf at_ [x.set|||2^n.x.toNat])
 else bif x.rule==6 then onN base x 10&&Wl Yf at_ [2^n.x.toNat|||Qb5 lg base x.set n.i]
 else bif x.rule==7 then(lg==1||lg==5)&&(decide (0<=x.on)&&(decide (x.on < 4)&&Wl Yf at_ [Qb5 lg base x.set x.on]))
 else false
def Qlf(lg:Int)(base:List Nd)(Yf:List Ta):Int :=
 bif !Qcy lg then 2 else bif Qj1 base !=0 then Qj1 base else bif decide (Yf.length=0)||decide (4096 < Yf.length)then 3 else 0
def Qb4(lg:Int)(base:List Nd)(opps:List Int)(Yf:List Ta):Nat->Nat->Int
 |0,_=> -1
 |k+1,i=>bif Qas lg base opps Yf i then Qb4 lg base opps Yf k (i+1)else i
def Qo3(lg:Int)(base:List Nd)(Yf:List Ta):Int :=
 bif Qlf lg base Yf !=0 then -1 else Qb4 lg base (Zvk base) Yf Yf.length 0
def Qpq(lg:Int)(base:List Nd)(Yf:List Ta):Int :=
 bif Qlf lg base Yf !=0 then Qlf lg base Yf else bif decide (0<=Qo3 lg base Yf)then 13 else 0
def Qkq(lg:Int)(base:List Nd)(Yf:List Ta):List (List Nd)×Int :=
 bif Qpq lg base Yf !=0 then([],Qpq lg base Yf)
 else(((List.range base.length).filter fun(i:Nat)=>inS (Yf.getLastD Ta.zero).set i).map fun(i:Nat)=>Jn base i,0)
def Zv6(lg:Int)(base:List Nd)(Yf:List Ta)(f:List Nd):Int :=
 bif (Qkq lg base Yf).2 !=0 then(Qkq lg base Yf).2
 else bif check f !=0 then check f
 else bif decide (2<=Js f)then 10
 else bif !decide ((Qkq lg base Yf).1= [Qe4 f])then 13 else 0
def Zkk(n:Nd):Prop:=1<=n.op/\n.op<=10
theorem Qpz:check []≠0:=by decide
theorem Qfe {base:List Nd}(hc:check base=0) {k:Nat}(hk:k < base.length):Jn base k=(Ze base k []).1/\check (Jn base k)=0/\(Jn base k).length<=base.length:=by
 have e:Jn base k=(Ze base k []).1:=by
  unfold Jn;have e2:(decide ((k:Int) < 0)||decide ((base.length:Int)<=(k:Int)))=false:=by simp;omega
  rw [hc,e2,Int.toNat_natCast];rfl
 have hw:=Yb hc;have h1:=Gr base (Ze base k []).1;have h2:=Qjd hw k [] hk;have h3:=Iz base;have hl:(Ze base k []).1.length<=base.length:=by omega
 have h4:=Hr hw k [] hk;refine⟨e,?_,by rw [e];exact hl⟩;rw [e];refine Qvb (by intro e;rw [e]at h4;simp at h4) (by have:=(Jf hc).2.1;omega) (Qpp hw k [] hk Nk) (fun n hn=> ?_);rcases Qsx hw k [] hk n hn with h|⟨m,hm,k1,k2,rfl⟩
 ·cases h
 exact(Rw hc m hm).with_ k1 k2
end Go.Proofs.YtkmclcmnoicagaaGreatDoor
