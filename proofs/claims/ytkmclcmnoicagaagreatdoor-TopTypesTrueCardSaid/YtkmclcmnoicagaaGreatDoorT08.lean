/- Negation normal forms as Lean functions. -/
import Derived.Test.YtkmclcmnoicagaaGreatDoorT07
namespace Go.Proofs.YtkmclcmnoicagaaGreatDoor
set_option maxRecDepth 100000
set_option maxHeartbeats 128000000
def Qib(x:Nd)(p:Bool->Int->List Nd):List Nd :=
 bif x.op==4 then p true x.x
 else bif x.op==7 then orN (p true x.x) (p false x.y)
 else bif x.op==8 then Xi (orN (p true x.x) (p false x.y)) (orN (p false x.x) (p true x.y))
 else bif x.op==2 then Tp
 else bif x.op==3 then Ur x.i
 else bif x.op==5 then Xi (p false x.x) (p false x.y)
 else bif x.op==6 then orN (p false x.x) (p false x.y)
 else bif x.op==9 then Ki x.i (p false x.x)
 else bif x.op==10 then Qak x.i (p false x.x)
 else Sf
def Zzx(x:Nd)(p:Bool->Int->List Nd):List Nd :=
 bif x.op==1 then Tp
 else bif x.op==2 then Sf
 else bif x.op==4 then p false x.x
 else bif x.op==5 then orN (p true x.x) (p true x.y)
 else bif x.op==6 then Xi (p true x.x) (p true x.y)
 else bif x.op==7 then Xi (p false x.x) (p true x.y)
 else bif x.op==8 then orN (Xi (p false x.x) (p true x.y)) (Xi (p true x.x) (p false x.y))
 else bif x.op==9 then Qak x.i (p true x.x)
 else bif x.op==10 then Ki x.i (p true x.x)
 else Jp (Qib x p)
def Qca(c:List Nd):Nat->Bool->Nat->List Nd
 |0,_,_=> []
 |k+1,no,i=>bif no then Zzx (c.getD i Nd.zero) (fun b j=>Qca c k b j.toNat)else Qib (c.getD i Nd.zero) (fun b j=>Qca c k b j.toNat)
def Zzg(c:List Nd)(no:Bool)(i:Nat):List Nd:=Qca c (i+1) no i
def Zzp(c:List Nd):Prop:=∀n∈c,1<=n.op/\n.op<=10
def Ql6(f:List Nd):List Nd:=bif check f !=0 then []else Zzg (Qg f) false ((Qg f).length - 1)
def Zzl(f:List Nd):Int:=bif check f !=0 then check f else bif decide ((Ql6 f).length=0)then 8 else 0
def Qci(f:List Nd):List Nd:=Ql6 (Jp f)
structure Stp where
 set:Nat
 rule:Int
 on:Int
 e:Int
 from_:List Int
def Stp.zero:Stp:=⟨0,0,0,0,[]⟩
def Qee(base:List Nd)(n:Nd):Bool :=
 bif n.op==4 then(base.getD n.x.toNat Nd.zero).op==3 else n.op==1||(n.op==2||(n.op==3||(n.op==5||(n.op==6||(n.op==9||n.op==10)))))
def Ir(base:List Nd):Int :=
 bif check base !=0 then check base else bif decide (64 < base.length)then 8 else bif base.all (Qee base)then 0 else 10
def inS(set:Nat)(node:Int):Bool:=decide (0<=node)&&(decide (node < 64)&&set.testBit node.toNat)
def Yw(a b:Nat):Bool:=(a&&&b)==a
def Qdp(base:List Nd)(set:Nat):Bool:=decide (set < 2^base.length)
def Dv(base:List Nd):List (List Nd):=(List.range base.length).map fun(i:Nat)=>Jb base i
def Yq(l:List (List Nd))(g:List Nd):Int:=match l.findIdx? (fun f=>decide (f=g))with|none=> -1|some j=>j
def Ql3(base:List Nd)(node:Int):Int:=Yq (Dv base) (Qci (Jb base node))
def Zzz(base:List Nd)(node:Int):Int:=bif Ir base !=0||(decide (node < 0)||decide ((base.length:Int)<=node))then -1 else Ql3 base node
def Zq1(base:List Nd):List Int:=(Dv base).map fun f=>Yq (Dv base) (Qci f)
def Qie(lg:Int):Bool:=lg==3||(lg==4||(lg==5||lg==6))
def Zqh(lg:Int):Bool:=lg==5||lg==6
def Qoi(lg:Int)(set:Nat)(agent:Int)(i:Nat)(n:Nd)(out:Nat):Nat :=
 bif !inS set i||n.i !=agent then out
 else bif n.op==9&&Qie lg then out|||(2^n.x.toNat|||2^i)
 else bif n.op==9 then out|||2^n.x.toNat
 else bif n.op==10&&Zqh lg then out|||2^i
 else out
def Qdj(lg:Int)(set:Nat)(agent:Int):List Nd->Nat->Nat->Nat
 |[],_,out=>out
 |n :: r,i,out=>Qdj lg set agent r (i+1) (Qoi lg set agent i n out)
def Qx9(lg:Int)(base:List Nd)(set:Nat)(agent:Int):Nat:=Qdj lg set agent base 0 0
def Qlt(lg:Int):Bool:=decide (0<=lg)&&decide (lg<=6)
def Zzt(lg:Int)(base:List Nd)(set:Nat)(agent:Int):Nat :=
 bif !Qlt lg||(Ir base !=0||(!Qdp base set||(decide (agent < 0)||decide (4<=agent))))then 0 else Qx9 lg base set agent
def Qfy(opps:List Int)(node other:Int):Bool:=decide (0<=node)&&(decide (node < opps.length)&&(decide (0<=other)&&opps.getD node.toNat 0==other))
def onN(base:List Nd)(x:Stp)(op:Int):Bool:= !(decide ((base.length:Int)<=x.on)||(!inS x.set x.on||(base.getD x.on.toNat Nd.zero).op !=op))
def Qix(base:List Nd)(x:Stp):Nd:=base.getD x.on.toNat Nd.zero
def Qmn(Yk:List Stp)(at_:Nat):List Int->List Nat->Bool
 |[],[]=>true
 |j :: r,s :: t=>bif decide (j < 0)||(decide ((at_:Int)<=j)|| !Yw (Yk.getD j.toNat Stp.zero).set s)then false else Qmn Yk at_ r t
 |_,_=>false
def Ps(Yk:List Stp)(at_:Nat)(sets:List Nat):Bool:=(Yk.getD at_ Stp.zero).from_.length==sets.length&&Qmn Yk at_ (Yk.getD at_ Stp.zero).from_ sets
def Qa0(base:List Nd)(opps:List Int)(Yk:List Stp)(at_:Nat):Bool :=
 let x:=Yk.getD at_ Stp.zero
 bif onN base x 2&&x.e==0 then Ps Yk at_ []
 else inS x.set x.on&&(inS x.set x.e&&(Qfy opps x.on x.e&&Ps Yk at_ []))
def Qpm(lg:Int)(base:List Nd)(opps:List Int)(Yk:List Stp)(at_:Nat):Bool :=
 let x:=Yk.getD at_ Stp.zero
 let n:=Qix base x
 bif !Qdp base x.set then false
 else bif x.rule==1 then Qa0 base opps Yk at_
 else bif x.rule==4 then decide (0<=x.e)&&(Qfy opps x.on x.e&&Ps Yk at_ [x.set|||2^x.on.toNat,x.set|||2^x.e.toNat])
 else bif x.e !=0 then false
 else bif x.rule==2 then onN base x 5&&Ps Yk at_ [x.set|||2^n.x.toNat|||2^n.y.toNat]
 else bif x.rule==3 then onN base x 6&&Ps Yk at_ [x.set|||2^n.x.toNat,x.set|||2^n.y.toNat]
 else bif x.rule==5 then onN base x 9&&((lg==2||(lg==4||lg==6))&&Ps Yk at_ [x.set|||2^n.x.toNat])
 else bif x.rule==6 then onN base x 10&&Ps Yk at_ [2^n.x.toNat|||Qx9 lg base x.set n.i]
 else bif x.rule==7 then(lg==1||lg==5)&&(decide (0<=x.on)&&(decide (x.on < 4)&&Ps Yk at_ [Qx9 lg base x.set x.on]))
 else false
def Qrn(lg:Int)(base:List Nd)(Yk:List Stp):Int :=
 bif !Qlt lg then 2 else bif Ir base !=0 then Ir base else bif decide (Yk.length=0)||decide (4096 < Yk.length)then 3 else 0
def Qx8(lg:Int)(base:List Nd)(opps:List Int)(Yk:List Stp):Nat->Nat->Int
 |0,_=> -1
 |k+1,i=>bif Qpm lg base opps Yk i then Qx8 lg base opps Yk k (i+1)else i
def Qaa(lg:Int)(base:List Nd)(Yk:List Stp):Int :=
 bif Qrn lg base Yk !=0 then -1 else Qx8 lg base (Zq1 base) Yk Yk.length 0
def Qtb(lg:Int)(base:List Nd)(Yk:List Stp):Int :=
 bif Qrn lg base Yk !=0 then Qrn lg base Yk else bif decide (0<=Qaa lg base Yk)then 13 else 0
def Qjd(lg:Int)(base:List Nd)(Yk:List Stp):List (List Nd)×Int :=
 bif Qtb lg base Yk !=0 then([],Qtb lg base Yk)
 else(((List.range base.length).filter fun(i:Nat)=>inS (Yk.getLastD Stp.zero).set i).map fun(i:Nat)=>Jb base i,0)
def Zzs(lg:Int)(base:List Nd)(Yk:List Stp)(f:List Nd):Int :=
 bif (Qjd lg base Yk).2 !=0 then(Qjd lg base Yk).2
 else bif check f !=0 then check f
 else bif decide (2<=Jh f)then 10
 else bif !decide ((Qjd lg base Yk).1= [Qci f])then 13 else 0
def Zzi(n:Nd):Prop:=1<=n.op/\n.op<=10
theorem Qtn:check []≠0:=by decide
theorem Qke {base:List Nd}(hc:check base=0) {k:Nat}(hk:k < base.length):Jb base k=(Zt base k []).1/\check (Jb base k)=0/\(Jb base k).length<=base.length:=by
 have e:Jb base k=(Zt base k []).1:=by
  unfold Jb;have e2:(decide ((k:Int) < 0)||decide ((base.length:Int)<=(k:Int)))=false:=by simp;omega
  rw [hc,e2,Int.toNat_natCast];rfl
 have hw:=Ja hc;have h1:=Xh base (Zt base k []).1;have h2:=Oc hw k [] hk;have h3:=Mz base;have hl:(Zt base k []).1.length<=base.length:=by omega
 have h4:=Lw hw k [] hk;refine⟨e,?_,by rw [e];exact hl⟩;rw [e];refine Qzm (by intro e;rw [e]at h4;simp at h4) (by have:=(Zm hc).2.1;omega) (Qt3 hw k [] hk Bb) (fun n hn=> ?_);rcases Qdn hw k [] hk n hn with h|⟨m,hm,k1,k2,rfl⟩
 ·cases h
 exact(Dx hc m hm).with_ k1 k2
end Go.Proofs.YtkmclcmnoicagaaGreatDoor
