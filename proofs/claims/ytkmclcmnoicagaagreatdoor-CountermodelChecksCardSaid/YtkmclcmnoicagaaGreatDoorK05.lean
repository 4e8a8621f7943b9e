/- Negation normal forms as Lean functions. -/
import Derived.Test.YtkmclcmnoicagaaGreatDoorK04
namespace Go.Proofs.YtkmclcmnoicagaaGreatDoor
set_option maxRecDepth 100000
set_option maxHeartbeats 128000000
def Zjz(x:Nd)(p:Bool->Int->List Nd):List Nd :=
 bif x.op==4 then p true x.x
 else bif x.op==7 then orN (p true x.x) (p false x.y)
 else bif x.op==8 then Fo (orN (p true x.x) (p false x.y)) (orN (p false x.x) (p true x.y))
 else bif x.op==2 then Wv
 else bif x.op==3 then Qkb x.i
 else bif x.op==5 then Fo (p false x.x) (p false x.y)
 else bif x.op==6 then orN (p false x.x) (p false x.y)
 else bif x.op==9 then Gc x.i (p false x.x)
 else bif x.op==10 then Qw0 x.i (p false x.x)
 else Im
def Zvk(x:Nd)(p:Bool->Int->List Nd):List Nd :=
 bif x.op==1 then Wv
 else bif x.op==2 then Im
 else bif x.op==4 then p false x.x
 else bif x.op==5 then orN (p true x.x) (p true x.y)
 else bif x.op==6 then Fo (p true x.x) (p true x.y)
 else bif x.op==7 then Fo (p false x.x) (p true x.y)
 else bif x.op==8 then orN (Fo (p false x.x) (p true x.y)) (Fo (p true x.x) (p false x.y))
 else bif x.op==9 then Qw0 x.i (p true x.x)
 else bif x.op==10 then Gc x.i (p true x.x)
 else Kq (Zjz x p)
def Qeq(c:List Nd):Nat->Bool->Nat->List Nd
 |0,_,_=> []
 |k+1,no,i=>bif no then Zvk (c.getD i Nd.zero) (fun b j=>Qeq c k b j.toNat)else Zjz (c.getD i Nd.zero) (fun b j=>Qeq c k b j.toNat)
def Zvx(c:List Nd)(no:Bool)(i:Nat):List Nd:=Qeq c (i+1) no i
def Zvc(c:List Nd):Prop:=∀n∈c,1<=n.op/\n.op<=10
def Qcj(f:List Nd):List Nd:=bif check f !=0 then []else Zvx (Qg f) false ((Qg f).length - 1)
def Zvl(f:List Nd):Int:=bif check f !=0 then check f else bif decide ((Qcj f).length=0)then 8 else 0
def Qeg(f:List Nd):List Nd:=Qcj (Kq f)
structure Stp where
 set:Nat
 rule:Int
 on:Int
 e:Int
 from_:List Int
def Stp.zero:Stp:=⟨0,0,0,0,[]⟩
def Qin(base:List Nd)(n:Nd):Bool :=
 bif n.op==4 then(base.getD n.x.toNat Nd.zero).op==3 else n.op==1||(n.op==2||(n.op==3||(n.op==5||(n.op==6||(n.op==9||n.op==10)))))
def Qzi(base:List Nd):Int :=
 bif check base !=0 then check base else bif decide (64 < base.length)then 8 else bif base.all (Qin base)then 0 else 10
def inS(set:Nat)(node:Int):Bool:=decide (0<=node)&&(decide (node < 64)&&set.testBit node.toNat)
def Js(a b:Nat):Bool:=(a&&&b)==a
def Qr0(base:List Nd)(set:Nat):Bool:=decide (set < 2^base.length)
def Nh(base:List Nd):List (List Nd):=(List.range base.length).map fun(i:Nat)=>Jn base i
def Yn(l:List (List Nd))(g:List Nd):Int:=match l.findIdx? (fun f=>decide (f=g))with|none=> -1|some j=>j
def Qp9(base:List Nd)(node:Int):Int:=Yn (Nh base) (Qeg (Jn base node))
def Zy8(base:List Nd)(node:Int):Int:=bif Qzi base !=0||(decide (node < 0)||decide ((base.length:Int)<=node))then -1 else Qp9 base node
def Zye(base:List Nd):List Int:=(Nh base).map fun f=>Yn (Nh base) (Qeg f)
def Zjr(lg:Int):Bool:=lg==3||(lg==4||(lg==5||lg==6))
def Zyd(lg:Int):Bool:=lg==5||lg==6
def Zzn(lg:Int)(set:Nat)(agent:Int)(i:Nat)(n:Nd)(out:Nat):Nat :=
 bif !inS set i||n.i !=agent then out
 else bif n.op==9&&Zjr lg then out|||(2^n.x.toNat|||2^i)
 else bif n.op==9 then out|||2^n.x.toNat
 else bif n.op==10&&Zyd lg then out|||2^i
 else out
def Qrl(lg:Int)(set:Nat)(agent:Int):List Nd->Nat->Nat->Nat
 |[],_,out=>out
 |n :: r,i,out=>Qrl lg set agent r (i+1) (Zzn lg set agent i n out)
def Qbb(lg:Int)(base:List Nd)(set:Nat)(agent:Int):Nat:=Qrl lg set agent base 0 0
def Qpm(lg:Int):Bool:=decide (0<=lg)&&decide (lg<=6)
def Zvs(lg:Int)(base:List Nd)(set:Nat)(agent:Int):Nat :=
 bif !Qpm lg||(Qzi base !=0||(!Qr0 base set||(decide (agent < 0)||decide (4<=agent))))then 0 else Qbb lg base set agent
def Qdd(opps:List Int)(node other:Int):Bool:=decide (0<=node)&&(decide (node < opps.length)&&(decide (0<=other)&&opps.getD node.toNat 0==other))
def onN(base:List Nd)(x:Stp)(op:Int):Bool:= !(decide ((base.length:Int)<=x.on)||(!inS x.set x.on||(base.getD x.on.toNat Nd.zero).op !=op))
def Zz6(base:List Nd)(x:Stp):Nd:=base.getD x.on.toNat Nd.zero
def Qce(Yl:List Stp)(at_:Nat):List Int->List Nat->Bool
 |[],[]=>true
 |j :: r,s :: t=>bif decide (j < 0)||(decide ((at_:Int)<=j)|| !Js (Yl.getD j.toNat Stp.zero).set s)then false else Qce Yl at_ r t
 |_,_=>false
def Am(Yl:List Stp)(at_:Nat)(sets:List Nat):Bool:=(Yl.getD at_ Stp.zero).from_.length==sets.length&&Qce Yl at_ (Yl.getD at_ Stp.zero).from_ sets
def Qod(base:List Nd)(opps:List Int)(Yl:List Stp)(at_:Nat):Bool :=
 let x:=Yl.getD at_ Stp.zero
 bif onN base x 2&&x.e==0 then Am Yl at_ []
 else inS x.set x.on&&(inS x.set x.e&&(Qdd opps x.on x.e&&Am Yl at_ []))
def Qh1(lg:Int)(base:List Nd)(opps:List Int)(Yl:List Stp)(at_:Nat):Bool :=
 let x:=Yl.getD at_ Stp.zero
 let n:=Zz6 base x
 bif !Qr0 base x.set then false
 else bif x.rule==1 then Qod base opps Yl at_
 else bif x.rule==4 then decide (0<=x.e)&&(Qdd opps x.on x.e&&Am Yl at_ [x.set|||2^x.on.toNat,x.set|||2^x.e.toNat])
 else bif x.e !=0 then false
 else bif x.rule==2 then onN base x 5&&Am Yl at_ [x.set|||2^n.x.toNat|||2^n.y.toNat]
 else bif x.rule==3 then onN base x 6&&Am Yl at_ [x.set|||2^n.x.toNat,x.set|||2^n.y.toNat]
 else bif x.rule==5 then onN base x 9&&((lg==2||(lg==4||lg==6))&&Am Yl at_ [x.set|||2^n.x.toNat])
 else bif x.rule==6 then onN base x 10&&Am Yl at_ [2^n.x.toNat|||Qbb lg base x.set n.i]
 else bif x.rule==7 then(lg==1||lg==5)&&(decide (0<=x.on)&&(decide (x.on < 4)&&Am Yl at_ [Qbb lg base x.set x.on]))
 else false
def Qta(lg:Int)(base:List Nd)(Yl:List Stp):Int :=
 bif !Qpm lg then 2 else bif Qzi base !=0 then Qzi base else bif decide (Yl.length=0)||decide (4096 < Yl.length)then 3 else 0
def Qbf(lg:Int)(base:List Nd)(opps:List Int)(Yl:List Stp):Nat->Nat->Int
 |0,_=> -1
 |k+1,i=>bif Qh1 lg base opps Yl i then Qbf lg base opps Yl k (i+1)else i
def Qox(lg:Int)(base:List Nd)(Yl:List Stp):Int :=
 bif Qta lg base Yl !=0 then -1 else Qbf lg base (Zye base) Yl Yl.length 0
def Qmr(lg:Int)(base:List Nd)(Yl:List Stp):Int :=
 bif Qta lg base Yl !=0 then Qta lg base Yl else bif decide (0<=Qox lg base Yl)then 13 else 0
def Qvt(lg:Int)(base:List Nd)(Yl:List Stp):List (List Nd)×Int :=
 bif Qmr lg base Yl !=0 then([],Qmr lg base Yl)
 else(((List.range base.length).filter fun(i:Nat)=>inS (Yl.getLastD Stp.zero).set i).map fun(i:Nat)=>Jn base i,0)
def Zvr(lg:Int)(base:List Nd)(Yl:List Stp)(f:List Nd):Int :=
 bif (Qvt lg base Yl).2 !=0 then(Qvt lg base Yl).2
 else bif check f !=0 then check f
 else bif decide (2<=Jm f)then 10
 else bif !decide ((Qvt lg base Yl).1= [Qeg f])then 13 else 0
def Zve(n:Nd):Prop:=1<=n.op/\n.op<=10
theorem Qms:check []≠0:=by decide
theorem Qg9 {base:List Nd}(hc:check base=0) {k:Nat}(hk:k < base.length):Jn base k=(Za base k []).1/\check (Jn base k)=0/\(Jn base k).length<=base.length:=by
 have e:Jn base k=(Za base k []).1:=by
  unfold Jn;have e2:(decide ((k:Int) < 0)||decide ((base.length:Int)<=(k:Int)))=false:=by simp;omega
  rw [hc,e2,Int.toNat_natCast];rfl
 have hw:=Ym hc;have h1:=Gs base (Za base k []).1;have h2:=Qzg hw k [] hk;have h3:=Wb base;have hl:(Za base k []).1.length<=base.length:=by omega
 have h4:=Pi hw k [] hk;refine⟨e,?_,by rw [e];exact hl⟩;rw [e];refine Qyp (by intro e;rw [e]at h4;simp at h4) (by have:=(Jg hc).2.1;omega) (Qm5 hw k [] hk Ds) (fun n hn=> ?_);rcases Qre hw k [] hk n hn with h|⟨m,hm,k1,k2,rfl⟩
 ·cases h
 exact(Ni hc m hm).with_ k1 k2
end Go.Proofs.YtkmclcmnoicagaaGreatDoor
