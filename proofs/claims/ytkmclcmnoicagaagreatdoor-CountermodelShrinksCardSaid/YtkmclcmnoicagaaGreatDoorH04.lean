/- Negation normal forms as Lean functions. -/
import Derived.Test.YtkmclcmnoicagaaGreatDoorH03
namespace Go.Proofs.YtkmclcmnoicagaaGreatDoor
set_option maxRecDepth 100000
set_option maxHeartbeats 128000000
def Zyp(x:Nd)(p:Bool->Int->List Nd):List Nd :=
 bif x.op==4 then p true x.x
 else bif x.op==7 then orN (p true x.x) (p false x.y)
 else bif x.op==8 then Bt (orN (p true x.x) (p false x.y)) (orN (p false x.x) (p true x.y))
 else bif x.op==2 then If
 else bif x.op==3 then Qxf x.i
 else bif x.op==5 then Bt (p false x.x) (p false x.y)
 else bif x.op==6 then orN (p false x.x) (p false x.y)
 else bif x.op==9 then Uq x.i (p false x.x)
 else bif x.op==10 then Qix x.i (p false x.x)
 else Qzn
def Zke(x:Nd)(p:Bool->Int->List Nd):List Nd :=
 bif x.op==1 then If
 else bif x.op==2 then Qzn
 else bif x.op==4 then p false x.x
 else bif x.op==5 then orN (p true x.x) (p true x.y)
 else bif x.op==6 then Bt (p true x.x) (p true x.y)
 else bif x.op==7 then Bt (p false x.x) (p true x.y)
 else bif x.op==8 then orN (Bt (p false x.x) (p true x.y)) (Bt (p true x.x) (p false x.y))
 else bif x.op==9 then Qix x.i (p true x.x)
 else bif x.op==10 then Uq x.i (p true x.x)
 else Kk (Zyp x p)
def Qwt(c:List Nd):Nat->Bool->Nat->List Nd
 |0,_,_=> []
 |k+1,no,i=>bif no then Zke (c.getD i Nd.zero) (fun b j=>Qwt c k b j.toNat)else Zyp (c.getD i Nd.zero) (fun b j=>Qwt c k b j.toNat)
def Zkw(c:List Nd)(no:Bool)(i:Nat):List Nd:=Qwt c (i+1) no i
def Zk9(c:List Nd):Prop:=∀n∈c,1<=n.op/\n.op<=10
def Qhg(f:List Nd):List Nd:=bif check f !=0 then []else Zkw (Qf f) false ((Qf f).length - 1)
def Zk6(f:List Nd):Int:=bif check f !=0 then check f else bif decide ((Qhg f).length=0)then 8 else 0
def Qww(f:List Nd):List Nd:=Qhg (Kk f)
structure Ta where
 set:Nat
 rule:Int
 on:Int
 e:Int
 from_:List Int
def Ta.zero:Ta:=⟨0,0,0,0,[]⟩
def Zq3(base:List Nd)(n:Nd):Bool :=
 bif n.op==4 then(base.getD n.x.toNat Nd.zero).op==3 else n.op==1||(n.op==2||(n.op==3||(n.op==5||(n.op==6||(n.op==9||n.op==10)))))
def Qyk(base:List Nd):Int :=
 bif check base !=0 then check base else bif decide (64 < base.length)then 8 else bif base.all (Zq3 base)then 0 else 10
def inS(set:Nat)(node:Int):Bool:=decide (0<=node)&&(decide (node < 64)&&set.testBit node.toNat)
def Jr(a b:Nat):Bool:=(a&&&b)==a
def Qs2(base:List Nd)(set:Nat):Bool:=decide (set < 2^base.length)
def Rm(base:List Nd):List (List Nd):=(List.range base.length).map fun(i:Nat)=>Js base i
def Yr(l:List (List Nd))(g:List Nd):Int:=match l.findIdx? (fun f=>decide (f=g))with|none=> -1|some j=>j
def Qhv(base:List Nd)(node:Int):Int:=Yr (Rm base) (Qww (Js base node))
def Zkt(base:List Nd)(node:Int):Int:=bif Qyk base !=0||(decide (node < 0)||decide ((base.length:Int)<=node))then -1 else Qhv base node
def Zkj(base:List Nd):List Int:=(Rm base).map fun f=>Yr (Rm base) (Qww f)
def Zy4(lg:Int):Bool:=lg==3||(lg==4||(lg==5||lg==6))
def Zv2(lg:Int):Bool:=lg==5||lg==6
def Zj3(lg:Int)(set:Nat)(agent:Int)(i:Nat)(n:Nd)(out:Nat):Nat :=
 bif !inS set i||n.i !=agent then out
 else bif n.op==9&&Zy4 lg then out|||(2^n.x.toNat|||2^i)
 else bif n.op==9 then out|||2^n.x.toNat
 else bif n.op==10&&Zv2 lg then out|||2^i
 else out
def Qsp(lg:Int)(set:Nat)(agent:Int):List Nd->Nat->Nat->Nat
 |[],_,out=>out
 |n :: r,i,out=>Qsp lg set agent r (i+1) (Zj3 lg set agent i n out)
def Qds(lg:Int)(base:List Nd)(set:Nat)(agent:Int):Nat:=Qsp lg set agent base 0 0
def Qcw(lg:Int):Bool:=decide (0<=lg)&&decide (lg<=6)
def Zk4(lg:Int)(base:List Nd)(set:Nat)(agent:Int):Nat :=
 bif !Qcw lg||(Qyk base !=0||(!Qs2 base set||(decide (agent < 0)||decide (4<=agent))))then 0 else Qds lg base set agent
def Qns(opps:List Int)(node other:Int):Bool:=decide (0<=node)&&(decide (node < opps.length)&&(decide (0<=other)&&opps.getD node.toNat 0==other))
def onN(base:List Nd)(x:Ta)(op:Int):Bool:= !(decide ((base.length:Int)<=x.on)||(!inS x.set x.on||(base.getD x.on.toNat Nd.zero).op !=op))
def Zyr(base:List Nd)(x:Ta):Nd:=base.getD x.on.toNat Nd.zero
def Qh2(Ys:List Ta)(at_:Nat):List Int->List Nat->Bool
 |[],[]=>true
 |j :: r,s :: t=>bif decide (j < 0)||(decide ((at_:Int)<=j)|| !Jr (Ys.getD j.toNat Ta.zero).set s)then false else Qh2 Ys at_ r t
 |_,_=>false
def Oy(Ys:List Ta)(at_:Nat)(sets:List Nat):Bool:=(Ys.getD at_ Ta.zero).from_.length==sets.length&&Qh2 Ys at_ (Ys.getD at_ Ta.zero).from_ sets
def Qi1(base:List Nd)(opps:List Int)(Ys:List Ta)(at_:Nat):Bool :=
 let x:=Ys.getD at_ Ta.zero
 bif onN base x 2&&x.e==0 then Oy Ys at_ []
 else inS x.set x.on&&(inS x.set x.e&&(Qns opps x.on x.e&&Oy Ys at_ []))
def Qez(lg:Int)(base:List Nd)(opps:List Int)(Ys:List Ta)(at_:Nat):Bool :=
 let x:=Ys.getD at_ Ta.zero
 let n:=Zyr base x
 bif !Qs2 base x.set then false
 else bif x.rule==1 then Qi1 base opps Ys at_
 else bif x.rule==4 then decide (0<=x.e)&&(Qns opps x.on x.e&&Oy Ys at_ [x.set|||2^x.on.toNat,x.set|||2^x.e.toNat])
 else bif x.e !=0 then false
 else bif x.rule==2 then onN base x 5&&Oy Ys at_ [x.set|||2^n.x.toNat|||2^n.y.toNat]
 else bif x.rule==3 then onN base x 6&&Oy Ys at_ [x.set|||2^n.x.toNat,x.set|||2^n.y.toNat]
 else bif x.rule==5 then onN base x 9&&((lg==2||(lg==4||lg==6))&&Oy Ys at_ [x.set|||2^n.x.toNat])
 else bif x.rule==6 then onN base x 10&&Oy Ys at_ [2^n.x.toNat|||Qds lg base x.set n.i]
 else bif x.rule==7 then(lg==1||lg==5)&&(decide (0<=x.on)&&(decide (x.on < 4)&&Oy Ys at_ [Qds lg base x.set x.on]))
 else false
def Qlo(lg:Int)(base:List Nd)(Ys:List Ta):Int :=
 bif !Qcw lg then 2 else bif Qyk base !=0 then Qyk base else bif decide (Ys.length=0)||decide (4096 < Ys.length)then 3 else 0
def Qdr(lg:Int)(base:List Nd)(opps:List Int)(Ys:List Ta):Nat->Nat->Int
 |0,_=> -1
 |k+1,i=>bif Qez lg base opps Ys i then Qdr lg base opps Ys k (i+1)else i
def Qiw(lg:Int)(base:List Nd)(Ys:List Ta):Int :=
 bif Qlo lg base Ys !=0 then -1 else Qdr lg base (Zkj base) Ys Ys.length 0
def Qpp(lg:Int)(base:List Nd)(Ys:List Ta):Int :=
 bif Qlo lg base Ys !=0 then Qlo lg base Ys else bif decide (0<=Qiw lg base Ys)then 13 else 0
def Qks(lg:Int)(base:List Nd)(Ys:List Ta):List (List Nd)×Int :=
 bif Qpp lg base Ys !=0 then([],Qpp lg base Ys)
 else(((List.range base.length).filter fun(i:Nat)=>inS (Ys.getLastD Ta.zero).set i).map fun(i:Nat)=>Js base i,0)
def Zk3(lg:Int)(base:List Nd)(Ys:List Ta)(f:List Nd):Int :=
 bif (Qks lg base Ys).2 !=0 then(Qks lg base Ys).2
 else bif check f !=0 then check f
 else bif decide (2<=Jp f)then 10
 else bif !decide ((Qks lg base Ys).1= [Qww f])then 13 else 0
def Zxj(n:Nd):Prop:=1<=n.op/\n.op<=10
theorem Qpc:check []≠0:=by decide
theorem Qbz {base:List Nd}(hc:check base=0) {k:Nat}(hk:k < base.length):Js base k=(Zw base k []).1/\check (Js base k)=0/\(Js base k).length<=base.length:=by
 have e:Js base k=(Zw base k []).1:=by
  unfold Js;have e2:(decide ((k:Int) < 0)||decide ((base.length:Int)<=(k:Int)))=false:=by simp;omega
  rw [hc,e2,Int.toNat_natCast];rfl
 have hw:=Yt hc;have h1:=Gp base (Zw base k []).1;have h2:=Qjw hw k [] hk;have h3:=It base;have hl:(Zw base k []).1.length<=base.length:=by omega
 have h4:=Hi hw k [] hk;refine⟨e,?_,by rw [e];exact hl⟩;rw [e];refine Qvi (by intro e;rw [e]at h4;simp at h4) (by have:=(Jf hc).2.1;omega) (Qcz hw k [] hk Nk) (fun n hn=> ?_);rcases Qso hw k [] hk n hn with h|⟨m,hm,k1,k2,rfl⟩
 ·cases h
 exact(Rh hc m hm).with_ k1 k2
end Go.Proofs.YtkmclcmnoicagaaGreatDoor
