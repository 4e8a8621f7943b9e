/- Negation normal forms as Lean functions. -/
import Derived.Test.YtkmclcmnoicagaaGreatDoorM01
import Derived.Test.YtkmclcmnoicagaaGreatDoorM07
namespace Go.Proofs.YtkmclcmnoicagaaGreatDoor
set_option maxRecDepth 100000
set_option maxHeartbeats 128000000
def Qi7(x:Nd)(p:Bool->Int->List Nd):List Nd :=
 bif x.op==4 then p true x.x
 else bif x.op==7 then orN (p true x.x) (p false x.y)
 else bif x.op==8 then Uo (orN (p true x.x) (p false x.y)) (orN (p false x.x) (p true x.y))
 else bif x.op==2 then Ag
 else bif x.op==3 then Qy6 x.i
 else bif x.op==5 then Uo (p false x.x) (p false x.y)
 else bif x.op==6 then orN (p false x.x) (p false x.y)
 else bif x.op==9 then Gj x.i (p false x.x)
 else bif x.op==10 then Qad x.i (p false x.x)
 else Oq
def Zjb(x:Nd)(p:Bool->Int->List Nd):List Nd :=
 bif x.op==1 then Ag
 else bif x.op==2 then Oq
 else bif x.op==4 then p false x.x
 else bif x.op==5 then orN (p true x.x) (p true x.y)
 else bif x.op==6 then Uo (p true x.x) (p true x.y)
 else bif x.op==7 then Uo (p false x.x) (p true x.y)
 else bif x.op==8 then orN (Uo (p false x.x) (p true x.y)) (Uo (p true x.x) (p false x.y))
 else bif x.op==9 then Qad x.i (p true x.x)
 else bif x.op==10 then Gj x.i (p true x.x)
 else Jj (Qi7 x p)
def Qc5(c:List Nd):Nat->Bool->Nat->List Nd
 |0,_,_=> []
 |k+1,no,i=>bif no then Zjb (c.getD i Nd.zero) (fun b j=>Qc5 c k b j.toNat)else Qi7 (c.getD i Nd.zero) (fun b j=>Qc5 c k b j.toNat)
def Zjd(c:List Nd)(no:Bool)(i:Nat):List Nd:=Qc5 c (i+1) no i
def Zjo(c:List Nd):Prop:=∀n∈c,1<=n.op/\n.op<=10
def Qmd(f:List Nd):List Nd:=bif check f !=0 then []else Zjd (Qg f) false ((Qg f).length - 1)
def Zja(f:List Nd):Int:=bif check f !=0 then check f else bif decide ((Qmd f).length=0)then 8 else 0
def Qhz(f:List Nd):List Nd:=Qmd (Jj f)
structure Stp where
 set:Nat
 rule:Int
 on:Int
 e:Int
 from_:List Int
def Stp.zero:Stp:=⟨0,0,0,0,[]⟩
def Qe3(base:List Nd)(n:Nd):Bool :=
 bif n.op==4 then(base.getD n.x.toNat Nd.zero).op==3 else n.op==1||(n.op==2||(n.op==3||(n.op==5||(n.op==6||(n.op==9||n.op==10)))))
def Qql(base:List Nd):Int :=
 bif check base !=0 then check base else bif decide (64 < base.length)then 8 else bif base.all (Qe3 base)then 0 else 10
def inS(set:Nat)(node:Int):Bool:=decide (0<=node)&&(decide (node < 64)&&set.testBit node.toNat)
def Ym(a b:Nat):Bool:=(a&&&b)==a
def Qnm(base:List Nd)(set:Nat):Bool:=decide (set < 2^base.length)
def Dj(base:List Nd):List (List Nd):=(List.range base.length).map fun(i:Nat)=>Yz base i
def Yx(l:List (List Nd))(g:List Nd):Int:=match l.findIdx? (fun f=>decide (f=g))with|none=> -1|some j=>j
def Qmg(base:List Nd)(node:Int):Int:=Yx (Dj base) (Qhz (Yz base node))
def Zjz(base:List Nd)(node:Int):Int:=bif Qql base !=0||(decide (node < 0)||decide ((base.length:Int)<=node))then -1 else Qmg base node
def Zzi(base:List Nd):List Int:=(Dj base).map fun f=>Yx (Dj base) (Qhz f)
def Zqd(lg:Int):Bool:=lg==3||(lg==4||(lg==5||lg==6))
def Zzn(lg:Int):Bool:=lg==5||lg==6
def Qiy(lg:Int)(set:Nat)(agent:Int)(i:Nat)(n:Nd)(out:Nat):Nat :=
 bif !inS set i||n.i !=agent then out
 else bif n.op==9&&Zqd lg then out|||(2^n.x.toNat|||2^i)
 else bif n.op==9 then out|||2^n.x.toNat
 else bif n.op==10&&Zzn lg then out|||2^i
 else out
def Qnz(lg:Int)(set:Nat)(agent:Int):List Nd->Nat->Nat->Nat
 |[],_,out=>out
 |n :: r,i,out=>Qnz lg set agent r (i+1) (Qiy lg set agent i n out)
def Qg5(lg:Int)(base:List Nd)(set:Nat)(agent:Int):Nat:=Qnz lg set agent base 0 0
def Ql0(lg:Int):Bool:=decide (0<=lg)&&decide (lg<=6)
def Zjc(lg:Int)(base:List Nd)(set:Nat)(agent:Int):Nat :=
 bif !Ql0 lg||(Qql base !=0||(!Qnm base set||(decide (agent < 0)||decide (4<=agent))))then 0 else Qg5 lg base set agent
def Qf6(opps:List Int)(node other:Int):Bool:=decide (0<=node)&&(decide (node < opps.length)&&(decide (0<=other)&&opps.getD node.toNat 0==other))
def onN(base:List Nd)(x:Stp)(op:Int):Bool:= !(decide ((base.length:Int)<=x.on)||(!inS x.set x.on||(base.getD x.on.toNat Nd.zero).op !=op))
def Qi0(base:List Nd)(x:Stp):Nd:=base.getD x.on.toNat Nd.zero
def Qmi(Yf:List Stp)(at_:Nat):List Int->List Nat->Bool
 |[],[]=>true
 |j :: r,s :: t=>bif decide (j < 0)||(decide ((at_:Int)<=j)|| !Ym (Yf.getD j.toNat Stp.zero).set s)then false else Qmi Yf at_ r t
 |_,_=>false
def Ci(Yf:List Stp)(at_:Nat)(sets:List Nat):Bool:=(Yf.getD at_ Stp.zero).from_.length==sets.length&&Qmi Yf at_ (Yf.getD at_ Stp.zero).from_ sets
def Qa5(base:List Nd)(opps:List Int)(Yf:List Stp)(at_:Nat):Bool :=
 let x:=Yf.getD at_ Stp.zero
 bif onN base x 2&&x.e==0 then Ci Yf at_ []
 else inS x.set x.on&&(inS x.set x.e&&(Qf6 opps x.on x.e&&Ci Yf at_ []))
def Qp2(lg:Int)(base:List Nd)(opps:List Int)(Yf:List Stp)(at_:Nat):Bool :=
 let x:=Yf.getD at_ Stp.zero
 let n:=Qi0 base x
 bif !Qnm base x.set then false
 else bif x.rule==1 then Qa5 base opps Yf at_
 else bif x.rule==4 then decide (0<=x.e)&&(Qf6 opps x.on x.e&&Ci Yf at_ [x.set|||2^x.on.toNat,x.set|||2^x.e.toNat])
 else bif x.e !=0 then false
 else bif x.rule==2 then onN base x 5&&Ci Yf at_ [x.set|||2^n.x.toNat|||2^n.y.toNat]
 else bif x.rule==3 then onN base x 6&&Ci Yf at_ [x.set|||2^n.x.toNat,x.set|||2^n.y.toNat]
 else bif x.rule==5 then onN base x 9&&((lg==2||(lg==4||lg==6))&&Ci Yf at_ [x.set|||2^n.x.toNat])
 else bif x.rule==6 then onN base x 10&&Ci Yf at_ [2^n.x.toNat|||Qg5 lg base x.set n.i]
 else bif x.rule==7 then(lg==1||lg==5)&&(decide (0<=x.on)&&(decide (x.on < 4)&&Ci Yf at_ [Qg5 lg base x.set x.on]))
 else false
def Qsq(lg:Int)(base:List Nd)(Yf:List Stp):Int :=
 bif !Ql0 lg then 2 else bif Qql base !=0 then Qql base else bif decide (Yf.length=0)||decide (4096 < Yf.length)then 3 else 0
def Qg4(lg:Int)(base:List Nd)(opps:List Int)(Yf:List Stp):Nat->Nat->Int
 |0,_=> -1
 |k+1,i=>bif Qp2 lg base opps Yf i then Qg4 lg base opps Yf k (i+1)else i
def Qa1(lg:Int)(base:List Nd)(Yf:List Stp):Int :=
 bif Qsq lg base Yf !=0 then -1 else Qg4 lg base (Zzi base) Yf Yf.length 0
def Qtw(lg:Int)(base:List Nd)(Yf:List Stp):Int :=
 bif Qsq lg base Yf !=0 then Qsq lg base Yf else bif decide (0<=Qa1 lg base Yf)then 13 else 0
def Qyy(lg:Int)(base:List Nd)(Yf:List Stp):List (List Nd)×Int :=
 bif Qtw lg base Yf !=0 then([],Qtw lg base Yf)
 else(((List.range base.length).filter fun(i:Nat)=>inS (Yf.getLastD Stp.zero).set i).map fun(i:Nat)=>Yz base i,0)
def Zjp(lg:Int)(base:List Nd)(Yf:List Stp)(f:List Nd):Int :=
 bif (Qyy lg base Yf).2 !=0 then(Qyy lg base Yf).2
 else bif check f !=0 then check f
 else bif decide (2<=Yn f)then 10
 else bif !decide ((Qyy lg base Yf).1= [Qhz f])then 13 else 0
def Zj4(n:Nd):Prop:=1<=n.op/\n.op<=10
theorem Qxp {base:List Nd}(hc:check base=0) {k:Nat}(hk:k < base.length):Yz base k=(Za base k []).1/\check (Yz base k)=0/\(Yz base k).length<=base.length:=by
 have e:Yz base k=(Za base k []).1:=by
  unfold Yz;have e2:(decide ((k:Int) < 0)||decide ((base.length:Int)<=(k:Int)))=false:=by simp;omega
  rw [hc,e2,Int.toNat_natCast];rfl
 have hw:=Vy hc;have h1:=Ga base (Za base k []).1;have h2:=Qqq hw k [] hk;have h3:=Qzq base;have hl:(Za base k []).1.length<=base.length:=by omega
 have h4:=Mw hw k [] hk;refine⟨e,?_,by rw [e];exact hl⟩;rw [e];refine Qjk (by intro e;rw [e]at h4;simp at h4) (by have:=(Jr hc).2.1;omega) (Qlv hw k [] hk By) (fun n hn=> ?_);rcases Qnd hw k [] hk n hn with h|⟨m,hm,k1,k2,rfl⟩
 ·cases h
 exact(Dg hc m hm).with_ k1 k2
end Go.Proofs.YtkmclcmnoicagaaGreatDoor
