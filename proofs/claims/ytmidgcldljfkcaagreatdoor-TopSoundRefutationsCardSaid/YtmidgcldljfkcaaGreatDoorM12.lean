/- Negation normal forms as Lean functions. -/
import Derived.Test.YtmidgcldljfkcaaGreatDoorM01
import Derived.Test.YtmidgcldljfkcaaGreatDoorM08
import Derived.Test.YtmidgcldljfkcaaGreatDoorM02
namespace Go.Proofs.YtmidgcldljfkcaaGreatDoor
set_option maxRecDepth 100000
set_option maxHeartbeats 128000000
def posS(x:Nd)(p:Bool->Int->List Nd):List Nd :=
 bif x.op==4 then p true x.x
 else bif x.op==7 then orN (p true x.x) (p false x.y)
 else bif x.op==8 then andN (orN (p true x.x) (p false x.y)) (orN (p false x.x) (p true x.y))
 else bif x.op==2 then falseN
 else bif x.op==3 then factN x.i
 else bif x.op==5 then andN (p false x.x) (p false x.y)
 else bif x.op==6 then orN (p false x.x) (p false x.y)
 else bif x.op==9 then knowN x.i (p false x.x)
 else bif x.op==10 then possN x.i (p false x.x)
 else trueN
def negS(x:Nd)(p:Bool->Int->List Nd):List Nd :=
 bif x.op==1 then falseN
 else bif x.op==2 then trueN
 else bif x.op==4 then p false x.x
 else bif x.op==5 then orN (p true x.x) (p true x.y)
 else bif x.op==6 then andN (p true x.x) (p true x.y)
 else bif x.op==7 then andN (p false x.x) (p true x.y)
 else bif x.op==8 then orN (andN (p false x.x) (p true x.y)) (andN (p true x.x) (p false x.y))
 else bif x.op==9 then possN x.i (p true x.x)
 else bif x.op==10 then knowN x.i (p true x.x)
 else notN (posS x p)
def nnfF(c:List Nd):Nat->Bool->Nat->List Nd
 |0,_,_=> []
 |k+1,no,i=>bif no then negS (c.getD i Nd.zero) (fun b j=>nnfF c k b j.toNat)else posS (c.getD i Nd.zero) (fun b j=>nnfF c k b j.toNat)
def nnfN(c:List Nd)(no:Bool)(i:Nat):List Nd:=nnfF c (i+1) no i
def Few10(c:List Nd):Prop:=∀n∈c,1<=n.op/\n.op<=10
theorem posS_congr {x:Nd} {p q:Bool->Int->List Nd}(hx:hasX x.op=true->∀b,p b x.x=q b x.x)(hy:hasY x.op=true->∀b,p b x.y=q b x.y):posS x p=posS x q:=by
 unfold posS;have X:∀{k:Int},(x.op==k)=true->hasX k=true->∀b,p b x.x=q b x.x:=fun h h2=>hx (by rw [beq_iff_eq]at h;rw [h];exact h2)
 have Y:∀{k:Int},(x.op==k)=true->hasY k=true->∀b,p b x.y=q b x.y:=fun h h2=>hy (by rw [beq_iff_eq]at h;rw [h];exact h2)
 cases h4:x.op==4
 ·cases h7:x.op==7
  ·cases h8:x.op==8
   ·cases x.op==2
    ·cases x.op==3
     ·cases h5:x.op==5
      ·cases h6:x.op==6
       ·cases h9:x.op==9
        ·cases h10:x.op==10
         ·rfl
         simp only [cond_true,cond_false,X h10 rfl]
        simp only [cond_true,cond_false,X h9 rfl]
       simp only [cond_true,cond_false,X h6 rfl,Y h6 rfl]
      simp only [cond_true,cond_false,X h5 rfl,Y h5 rfl]
     rfl
    rfl
   simp only [cond_true,cond_false,X h8 rfl,Y h8 rfl]
  simp only [cond_true,cond_false,X h7 rfl,Y h7 rfl]
 simp only [cond_true,X h4 rfl]
theorem negS_congr {x:Nd} {p q:Bool->Int->List Nd}(hx:hasX x.op=true->∀b,p b x.x=q b x.x)(hy:hasY x.op=true->∀b,p b x.y=q b x.y):negS x p=negS x q:=by
 unfold negS;have X:∀{k:Int},(x.op==k)=true->hasX k=true->∀b,p b x.x=q b x.x:=fun h h2=>hx (by rw [beq_iff_eq]at h;rw [h];exact h2)
 have Y:∀{k:Int},(x.op==k)=true->hasY k=true->∀b,p b x.y=q b x.y:=fun h h2=>hy (by rw [beq_iff_eq]at h;rw [h];exact h2)
 cases x.op==1
 ·cases x.op==2
  ·cases h4:x.op==4
   ·cases h5:x.op==5
    ·cases h6:x.op==6
     ·cases h7:x.op==7
      ·cases h8:x.op==8
       ·cases h9:x.op==9
        ·cases h10:x.op==10
         ·simp only [cond_false,posS_congr hx hy]
         simp only [cond_true,cond_false,X h10 rfl]
        simp only [cond_true,cond_false,X h9 rfl]
       simp only [cond_true,cond_false,X h8 rfl,Y h8 rfl]
      simp only [cond_true,cond_false,X h7 rfl,Y h7 rfl]
     simp only [cond_true,cond_false,X h6 rfl,Y h6 rfl]
    simp only [cond_true,cond_false,X h5 rfl,Y h5 rfl]
   simp only [cond_true,cond_false,X h4 rfl]
  rfl
 rfl
theorem nnfF_fuel {c:List Nd}(hc:Wf c):∀(k:Nat) (no:Bool) (i:Nat),i < k->i < c.length->nnfF c k no i=nnfN c no i:=by
 intro k
 induction k using Nat.strongRecOn with
 |_ k ih =>
  intro no i h hi;cases k with
  |zero=>omega
  |succ k =>
   obtain⟨n,hn⟩:∃n,c[i]?=some n:=⟨_,Qv hi⟩;obtain⟨hx,hy⟩:=hc i n hn;have e:∀(j:Int),0<=j->j < i->∀b,nnfF c k b j.toNat=nnfF c i b j.toNat:=fun j h0 h1 b=>by
    rw [ih k (by omega) b j.toNat (by omega) (by omega)];by_cases hik:i=k
    ·subst hik;exact(ih i (by omega) b j.toNat (by omega) (by omega)).symm
    exact(ih i (by omega) b j.toNat (by omega) (by omega)).symm
   unfold nnfN;simp only [nnfF,getD_of hn];cases no
   ·exact posS_congr (p:=fun b j=>nnfF c k b j.toNat) (q:=fun b j=>nnfF c i b j.toNat) (fun h=>e n.x (hx h).1 (hx h).2) (fun h=>e n.y (hy h).1 (hy h).2)
   exact negS_congr (p:=fun b j=>nnfF c k b j.toNat) (q:=fun b j=>nnfF c i b j.toNat) (fun h=>e n.x (hx h).1 (hx h).2) (fun h=>e n.y (hy h).1 (hy h).2)
theorem nnfN_eq {c:List Nd}(hc:Wf c) {i:Nat} {n:Nd}(hn:c[i]?=some n)(no:Bool):
 nnfN c no i=bif no then negS n (fun b j=>nnfN c b j.toNat)else posS n (fun b j=>nnfN c b j.toNat):=by
 have hi:=(List.getElem?_eq_some_iff.1 hn).1;obtain⟨hx,hy⟩:=hc i n hn;have e:∀(j:Int),0<=j->j < i->∀b,nnfF c i b j.toNat=nnfN c b j.toNat:=fun j h0 h1 b=>nnfF_fuel hc i b j.toNat (by omega) (by omega)
 conv=>lhs;unfold nnfN
 simp only [nnfF,getD_of hn];cases no
 ·exact posS_congr (p:=fun b j=>nnfF c i b j.toNat) (q:=fun b j=>nnfN c b j.toNat) (fun h=>e n.x (hx h).1 (hx h).2) (fun h=>e n.y (hy h).1 (hy h).2)
 exact negS_congr (p:=fun b j=>nnfF c i b j.toNat) (q:=fun b j=>nnfN c b j.toNat) (fun h=>e n.x (hx h).1 (hx h).2) (fun h=>e n.y (hy h).1 (hy h).2)
def nnfAll(f:List Nd):List Nd:=bif check f !=0 then []else nnfN (compactN f) false ((compactN f).length - 1)
def nnfErr(f:List Nd):Int:=bif check f !=0 then check f else bif decide ((nnfAll f).length=0)then 8 else 0
def oppN(f:List Nd):List Nd:=nnfAll (notN f)
structure Stp where
 set:Nat
 rule:Int
 on:Int
 e:Int
 from_:List Int
def Stp.zero:Stp:=⟨0,0,0,0,[]⟩
def normalN(base:List Nd)(n:Nd):Bool :=
 bif n.op==4 then(base.getD n.x.toNat Nd.zero).op==3 else n.op==1||(n.op==2||(n.op==3||(n.op==5||(n.op==6||(n.op==9||n.op==10)))))
def baseErr(base:List Nd):Int :=
 bif check base !=0 then check base else bif decide (64 < base.length)then 8 else bif base.all (normalN base)then 0 else 10
def inS(set:Nat)(node:Int):Bool:=decide (0<=node)&&(decide (node < 64)&&set.testBit node.toNat)
def subS(a b:Nat):Bool:=(a&&&b)==a
def insideS(base:List Nd)(set:Nat):Bool:=decide (set < 2^base.length)
def formulasN(base:List Nd):List (List Nd):=(List.range base.length).map fun(i:Nat)=>subN base i
def placeN(l:List (List Nd))(g:List Nd):Int:=match l.findIdx? (fun f=>decide (f=g))with|none=> -1|some j=>j
def negationN(base:List Nd)(node:Int):Int:=placeN (formulasN base) (oppN (subN base node))
def NegationN(base:List Nd)(node:Int):Int:=bif baseErr base !=0||(decide (node < 0)||decide ((base.length:Int)<=node))then -1 else negationN base node
def oppsN(base:List Nd):List Int:=(formulasN base).map fun f=>placeN (formulasN base) (oppN f)
def transN(lg:Int):Bool:=lg==3||(lg==4||(lg==5||lg==6))
def euclN(lg:Int):Bool:=lg==5||lg==6
def carry1(lg:Int)(set:Nat)(agent:Int)(i:Nat)(n:Nd)(out:Nat):Nat :=
 bif !inS set i||n.i !=agent then out
 else bif n.op==9&&transN lg then out|||(2^n.x.toNat|||2^i)
 else bif n.op==9 then out|||2^n.x.toNat
 else bif n.op==10&&euclN lg then out|||2^i
 else out
def carryGo(lg:Int)(set:Nat)(agent:Int):List Nd->Nat->Nat->Nat
 |[],_,out=>out
 |n :: r,i,out=>carryGo lg set agent r (i+1) (carry1 lg set agent i n out)
def carryN(lg:Int)(base:List Nd)(set:Nat)(agent:Int):Nat:=carryGo lg set agent base 0 0
def knownN(lg:Int):Bool:=decide (0<=lg)&&decide (lg<=6)
def CarryN(lg:Int)(base:List Nd)(set:Nat)(agent:Int):Nat :=
 bif !knownN lg||(baseErr base !=0||(!insideS base set||(decide (agent < 0)||decide (4<=agent))))then 0 else carryN lg base set agent
def opposedN(opps:List Int)(node other:Int):Bool:=decide (0<=node)&&(decide (node < opps.length)&&(decide (0<=other)&&opps.getD node.toNat 0==other))
def onN(base:List Nd)(x:Stp)(op:Int):Bool:= !(decide ((base.length:Int)<=x.on)||(!inS x.set x.on||(base.getD x.on.toNat Nd.zero).op !=op))
def nodeOn(base:List Nd)(x:Stp):Nd:=base.getD x.on.toNat Nd.zero
def premGo(steps:List Stp)(at_:Nat):List Int->List Nat->Bool
 |[],[]=>true
 |j :: r,s :: t=>bif decide (j < 0)||(decide ((at_:Int)<=j)|| !subS (steps.getD j.toNat Stp.zero).set s)then false else premGo steps at_ r t
 |_,_=>false
def premN(steps:List Stp)(at_:Nat)(sets:List Nat):Bool:=(steps.getD at_ Stp.zero).from_.length==sets.length&&premGo steps at_ (steps.getD at_ Stp.zero).from_ sets
def closedN(base:List Nd)(opps:List Int)(steps:List Stp)(at_:Nat):Bool :=
 let x:=steps.getD at_ Stp.zero
 bif onN base x 2&&x.e==0 then premN steps at_ []
 else inS x.set x.on&&(inS x.set x.e&&(opposedN opps x.on x.e&&premN steps at_ []))
def correctN(lg:Int)(base:List Nd)(opps:List Int)(steps:List Stp)(at_:Nat):Bool :=
 let x:=steps.getD at_ Stp.zero
 let n:=nodeOn base x
 bif !insideS base x.set then false
 else bif x.rule==1 then closedN base opps steps at_
 else bif x.rule==4 then decide (0<=x.e)&&(opposedN opps x.on x.e&&premN steps at_ [x.set|||2^x.on.toNat,x.set|||2^x.e.toNat])
 else bif x.e !=0 then false
 else bif x.rule==2 then onN base x 5&&premN steps at_ [x.set|||2^n.x.toNat|||2^n.y.toNat]
 else bif x.rule==3 then onN base x 6&&premN steps at_ [x.set|||2^n.x.toNat,x.set|||2^n.y.toNat]
 else bif x.rule==5 then onN base x 9&&((lg==2||(lg==4||lg==6))&&premN steps at_ [x.set|||2^n.x.toNat])
 else bif x.rule==6 then onN base x 10&&premN steps at_ [2^n.x.toNat|||carryN lg base x.set n.i]
 else bif x.rule==7 then(lg==1||lg==5)&&(decide (0<=x.on)&&(decide (x.on < 4)&&premN steps at_ [carryN lg base x.set x.on]))
 else false
def formS(lg:Int)(base:List Nd)(steps:List Stp):Int :=
 bif !knownN lg then 2 else bif baseErr base !=0 then baseErr base else bif decide (steps.length=0)||decide (4096 < steps.length)then 3 else 0
def brokenGo(lg:Int)(base:List Nd)(opps:List Int)(steps:List Stp):Nat->Nat->Int
 |0,_=> -1
 |k+1,i=>bif correctN lg base opps steps i then brokenGo lg base opps steps k (i+1)else i
def brokenS(lg:Int)(base:List Nd)(steps:List Stp):Int :=
 bif formS lg base steps !=0 then -1 else brokenGo lg base (oppsN base) steps steps.length 0
def checkS(lg:Int)(base:List Nd)(steps:List Stp):Int :=
 bif formS lg base steps !=0 then formS lg base steps else bif decide (0<=brokenS lg base steps)then 13 else 0
def refutedS(lg:Int)(base:List Nd)(steps:List Stp):List (List Nd)×Int :=
 bif checkS lg base steps !=0 then([],checkS lg base steps)
 else(((List.range base.length).filter fun(i:Nat)=>inS (steps.getLastD Stp.zero).set i).map fun(i:Nat)=>subN base i,0)
def provesS(lg:Int)(base:List Nd)(steps:List Stp)(f:List Nd):Int :=
 bif (refutedS lg base steps).2 !=0 then(refutedS lg base steps).2
 else bif check f !=0 then check f
 else bif decide (2<=fragsN f)then 10
 else bif !decide ((refutedS lg base steps).1= [oppN f])then 13 else 0
def OpOk(n:Nd):Prop:=1<=n.op/\n.op<=10
theorem fin_ops {f:List Nd}(hf:Wf f)(h:∀n∈f,OpOk n) {i:Nat}(hi:i < f.length):∀n∈(finN f i []).1,OpOk n:=by
 intro m hm;rcases fin_mem hf i [] hi m hm with h1|⟨n,hn,k1,k2,rfl⟩
 ·cases h1
 exact h n hn
theorem few_compact {g:List Nd}(hc:check g=0)(h:Few10 g):Few10 (compactN g):=by
 rw [compactN_eq hc];exact fin_ops (check_wf hc) h (by have:=(check_parts hc).1;omega)
theorem any_one(f:List Nd): [f].any (fun o=>check o !=0)=(check f !=0):=by simp
theorem few_not {f:List Nd}(h:check f=0->Few10 (compactN f))(hn:check (notN f)=0):Few10 (compactN (notN f)):=by
 refine few_compact hn ?_;unfold notN buildN at hn⊢;rw [any_one]at hn⊢;cases hc:check f !=0
 ·have hc0:check f=0:=by simpa using hc
  rw [hc,cond_false]at hn;rw [cond_false];have hcw:=(compactN_props hc0).1;have hsw:=shift_wf wf_nil hcw;have hops:∀n∈([]++(compactN f).map (shiftN ([]:List Nd).length)),OpOk n:=by
   intro n hn;rw [List.nil_append,List.mem_map]at hn;obtain⟨m,hm,rfl⟩:=hn;exact h hc0 m hm
  simp only [layout]at hn⊢;unfold joinN at hn⊢;generalize []++(compactN f).map (shiftN ([]:List Nd).length)=l at hn hsw hops⊢;cases he:nodeErr (setOp 0 ⟨4,0,0,0,0,0⟩ l.length) l.length !=0
  ·rw [he,cond_false]at hn;rw [cond_false];have he0:nodeErr (setOp 0 ⟨4,0,0,0,0,0⟩ l.length) l.length=0:=by simpa using he
   obtain⟨hx,hy⟩:=nodeErr_xy he0;have hl0:0 < l.length:=by
    have:operandOk true ((l.length:Int) - 1) l.length=true:=hx;unfold operandOk at this;simp at this;omega
   have hw:Wf (l++ [setOp 0 ⟨4,0,0,0,0,0⟩ l.length]):=wf_snoc hsw (fun _=>by
    show 0<=(l.length:Int) - 1/\(l.length:Int) - 1 < l.length
    omega) (fun h=>by cases h)
   have key:∀n∈(finN (l++ [setOp 0 ⟨4,0,0,0,0,0⟩ l.length]) l.length []).1,OpOk n:=fin_ops hw (fun n hn=>by
    rcases List.mem_append.1 hn with h1|h1
    ·exact hops n h1
    rw [List.mem_singleton.1 h1];exact⟨by show(1:Int)<=4;decide,by show(4:Int)<=10;decide⟩) (by simp)
   cases hb:decide (200 < (finN (l++ [setOp 0 ⟨4,0,0,0,0,0⟩ l.length]) l.length []).1.length)
   ·exact key
   exact fun n hn=>by cases hn
  exact fun n hn=>by cases hn
 exact fun n hn=>by cases hn
theorem sub_props {base:List Nd}(hc:check base=0) {k:Nat}(hk:k < base.length):subN base k=(finN base k []).1/\check (subN base k)=0/\(subN base k).length<=base.length:=by
 have e:subN base k=(finN base k []).1:=by
  unfold subN;have e2:(decide ((k:Int) < 0)||decide ((base.length:Int)<=(k:Int)))=false:=by simp;omega
  rw [hc,e2,Int.toNat_natCast];rfl
 have hw:=check_wf hc;have h1:=length_le_pot base (finN base k []).1;have h2:=pot_le hw k [] hk;have h3:=pot_nil base;have hl:(finN base k []).1.length<=base.length:=by omega
 have h4:=finN_lt hw k [] hk;refine⟨e,?_,by rw [e];exact hl⟩;rw [e];refine check_of (by intro e;rw [e]at h4;simp at h4) (by have:=(check_parts hc).2.1;omega) (fin_wf hw k [] hk wf_nil) (fun n hn=> ?_);rcases fin_mem hw k [] hk n hn with h|⟨m,hm,k1,k2,rfl⟩
 ·cases h
 exact(heads_of hc m hm).with_ k1 k2
theorem normal_ops {base:List Nd} {n:Nd}(h:normalN base n=true):OpOk n:=by
 unfold normalN at h;unfold OpOk;cases h4:n.op==4
 ·rw [h4]at h;simp only [cond_false,Bool.or_eq_true,beq_iff_eq]at h;omega
 have:n.op=4:=by simpa using h4
 omega
theorem base_few {base:List Nd}(ha:base.all (normalN base)=true):∀n∈base,OpOk n:=fun n hn=>normal_ops (List.all_eq_true.1 ha n hn)
theorem sub_few {base:List Nd}(hc:check base=0)(ha:base.all (normalN base)=true) {k:Nat}(hk:k < base.length):Few10 (subN base k):=by
 rw [(sub_props hc hk).1];exact fin_ops (check_wf hc) (base_few ha) hk
theorem opp_few {base:List Nd}(hc:check base=0)(ha:base.all (normalN base)=true) {k:Nat}(hk:k < base.length):check (notN (subN base k))=0->Few10 (compactN (notN (subN base k))):=
 few_not fun h=>few_compact h (sub_few hc ha hk)
def Sb(a b:Nat):Prop:=∀i,a.testBit i=true->b.testBit i=true
theorem Sb.refl(a:Nat):Sb a a:=fun _ h=>h
theorem Sb.trans {a b c:Nat}(h:Sb a b)(g:Sb b c):Sb a c:=fun i hi=>g i (h i hi)
theorem Sb.or {a b c d:Nat}(h:Sb a b)(g:Sb c d):Sb (a|||c) (b|||d):=fun i hi=>by
 rw [Nat.testBit_or,Bool.or_eq_true]at hi⊢;rcases hi with hi|hi
 ·exact Or.inl (h i hi)
 exact Or.inr (g i hi)
theorem Sb.left(a b:Nat):Sb a (a|||b):=fun i hi=>by rw [Nat.testBit_or,hi];rfl
structure Weak (lg lg':Int):Prop where
 tr:transN lg=true->transN lg'=true
 eu:euclN lg=true->euclN lg'=true
 rt:(lg==2||(lg==4||lg==6))=true->(lg'==2||(lg'==4||lg'==6))=true
 rd:(lg==1||lg==5)=true->(lg'==1||lg'==5)=true
theorem Weak.refl(lg:Int):Weak lg lg:=⟨id,id,id,id⟩
def SbL:List Nat->List Nat->Prop
 |[],[]=>True
 |a :: r,b :: t=>Sb a b/\SbL r t
 |_,_=>False
theorem SbL.length:∀{a b:List Nat},SbL a b->a.length=b.length
 |[],[],_=>rfl
 |[],_ :: _,h=>h.elim
 |_ :: _,[],h=>h.elim
 |_ :: r,_ :: t,h=>by rw [List.length_cons,List.length_cons,SbL.length (a:=r) (b:=t) h.2]
theorem formS_ok {lg:Int} {base:List Nd} {steps:List Stp} :formS lg base steps=0↔knownN lg=true/\baseErr base=0/\0 < steps.length/\steps.length<=4096:=by
 unfold formS;cases hk:knownN lg
 ·simp
 cases hb:baseErr base !=0
 ·have h0:baseErr base=0:=by simpa using hb
  simp only [Bool.not_true,cond_false,h0,true_and];by_cases h1:steps.length=0
  ·rw [decide_eq_true h1];simp;omega
  rw [decide_eq_false h1];by_cases h2:4096 < steps.length
  ·rw [decide_eq_true h2];simp;omega
  rw [decide_eq_false h2];simp;omega
 have h0:baseErr base≠0:=by simpa using hb
 simp [h0]
open Go.RowKit
open Go.Maps (Keyed IsMap Tidy has has_put_same has_put_other atKey_put_same atKey_put_other)
abbrev DV:=DataW Value
def heldElem(v:Value):Option (DV×List MemPlace):=some (.held v,[])
theorem heldElem_inv {v:Value} {d:DV} {ps:List MemPlace}(h:heldElem v=some (d,ps)):d=.held v:=by
 unfold heldElem at h;injection h with h;injection h with h _;exact h.symm
def FormIs(D:DV)(w:World)(c:List Nd)(no:Bool):Prop:=∀i:Nat,has D (.int .i64 i)=true->i < c.length/\∃v,(∀z,D.atKey (.int .i64 i) z=.held v)/\Fml w v (nnfN c no i)
def formCount(D:DV)(c:List Nd):Nat:=(List.range c.length).countP fun i:Nat=>has D (.int .i64 i)
def FormMap(w:World)(b:Nat)(c:List Nd)(no:Bool):Prop :=
 ∃(D:DV) (m:Nat),w.ownsMap Tryz.prog 3 heldElem b m D/\m<=formCount D c/\FormIs D w c no
theorem formCount_le(D:DV)(c:List Nd):formCount D c<=c.length:=by
 have:=List.countP_le_length (p:=fun i:Nat=>has D (.int .i64 i)) (l:=List.range c.length)
 simpa [formCount]using this
theorem FormMap.made(w:World)(c:List Nd)(no:Bool):FormMap (w.alloc (.map #[] 0)) w.heap.size c no :=
 ⟨.map [],0,World.ownsMap_made w _ _ _,Nat.zero_le _,fun i h=>by simp [has]at h⟩
theorem ownsMapV_of_block {w w':World} {P:Program} {k:TypeId} {R:Value->Option (DV×List MemPlace)} {b n:Nat} {D:DV}(h:w.ownsMap P k R b n D)(hb:w'.heap[b]?=w.heap[b]?):w'.ownsMap P k R b n D:=by
 obtain⟨es,clock,h1,h2⟩:=h;exact⟨es,clock,hb.trans h1,h2⟩
theorem ownsMapV_tight {w:World} {k:TypeId} {R:Value->Option (DV×List MemPlace)} {b n:Nat} {D:DV}(h:w.ownsMap Tryz.prog k R b n D):w.ownsMap Tryz.prog k R b (Go.Maps.size D) D:=by
 obtain⟨es,clock,hb,F,hs,rfl⟩:=h;exact⟨es,clock,hb,F,by simp [Go.Maps.size,length_sorted],rfl⟩
theorem FormMap.map {w:World} {b:Nat} {c:List Nd} {no:Bool}(h:FormMap w b c no):∃es clock,w.heap[b]?=some (.map es clock):=by
 obtain⟨D,m,⟨es,clock,h1,_⟩,_⟩:=h;exact⟨es,clock,h1⟩
theorem FormMap.lt {w:World} {b:Nat} {c:List Nd} {no:Bool}(h:FormMap w b c no):b < w.heap.size:=by
 obtain⟨es,clock,h⟩:=h.map;exact lt_heap h
structure NStep (m0 m1:Nat) (w w':World):Prop where
 os:w'.os=w.os
 tape:w'.tape=w.tape
 output:w'.output=w.output
 size:w.heap.size<=w'.heap.size
 block:∀k,k < w.heap.size->k≠m0->k≠m1->w'.heap[k]?=w.heap[k]?
section
variable {m0 m1:Nat} {a b c' w w' W0:World} {c:List Nd} {no:Bool} {v:Value} {l:List Nd}
theorem NStep.refl:NStep m0 m1 w w:=⟨rfl,rfl,rfl,Nat.le_refl _,fun _ _ _ _=>rfl⟩
theorem NStep.trans(h:NStep m0 m1 a b)(k:NStep m0 m1 b c'):NStep m0 m1 a c' :=
 ⟨k.os.trans h.os,k.tape.trans h.tape,k.output.trans h.output,Qx h.size k.size,fun i hi h1 h2=>(k.block i (Qy hi h.size) h1 h2).trans (h.block i hi h1 h2)⟩
theorem NStep.of_ext(h:Ext a b):NStep m0 m1 a b:=⟨h.os,h.tape,h.output,h.size,fun _ hk _ _=>h.block hk⟩
theorem Fml.nstep(h:Fml w v l)(h0:∃es k,w.heap[m0]?=some (.map es k))(h1:∃es k,w.heap[m1]?=some (.map es k))(hs:NStep m0 m1 w w'):Fml w' v l:=by
 obtain⟨⟨A,cp,rfl,p1,p2,p3⟩,hok⟩:=h;refine⟨⟨A,cp,rfl,p1,p2,fun hn=> ?_⟩,hok⟩;obtain⟨ad,rfl,hlt,hc⟩:=p3 hn;have hne:∀m,(∃es k,w.heap[m]?=some (.map es k))->ad.block≠m:=fun m ⟨es,k,hm⟩ e=>by
  obtain⟨n,hn'⟩:∃n,l[0]?=some n:=by
   cases l with
   |nil=>exact absurd rfl hn
   |cons a t=>exact⟨a,rfl⟩
  have c0:=(hc 0 n hn').1;simp [World.cell?,block_of_add,e,hm]at c0
 have hb:=hs.block ad.block hlt (hne m0 h0) (hne m1 h1);exact⟨ad,rfl,Qy hlt hs.size,fun k n hk=>(hc k n hk).keep fun p hp=>World.cell?_of_block (by rw [hp,block_of_add];exact hb)⟩
theorem FormMap.nstep {m:Nat}(h:FormMap w m c no)(h0:∃es k,w.heap[m0]?=some (.map es k))(h1:∃es k,w.heap[m1]?=some (.map es k))(hs:NStep m0 m1 w w')(hb:w'.heap[m]?=w.heap[m]?):FormMap w' m c no:=by
 obtain⟨D,k,a,b,d⟩:=h;refine⟨D,k,ownsMapV_of_block a hb,b,fun i hi=> ?_⟩;obtain⟨x,v,y,z⟩:=d i hi;exact⟨x,v,y,z.nstep h0 h1 hs⟩
theorem FormMap.put {m k i:Nat} {D:DV}(h:w.ownsMap Tryz.prog 3 heldElem m k D)(hm:k<=formCount D c)(hD:FormIs D w' c no)(hi:i < c.length)(hv:Fml w' v (nnfN c no i))
 (h':w'.ownsMap Tryz.prog 3 heldElem m (k+1) (D.put (.int .i64 i) (.held v))):FormMap w' m c no:=by
 have hkey:WideAt.IsKeyLit (.int .i64 (i:Int)):=trivial;have other:∀j:Nat,j≠i->(Lit.int .i64 (j:Int))≠.int .i64 (i:Int):=fun j e e'=>e (by injection e' with _ e';omega)
 have htidy:=h.tidy intKeyed;have hsz:=h.size_le;have mono:∀j:Nat,has D (.int .i64 j)=true->has (D.put (.int .i64 i) (.held v)) (.int .i64 j)=true:=by
  intro j hj;by_cases e:j=i
  ·subst e;exact has_put_same h.isMap hkey _
  rw [has_put_other (other j e)];exact hj
 refine⟨_,_,ownsMapV_tight h',?_,fun j hj=> ?_⟩
 ·rw [Go.Maps.size_put htidy]
  split
  ·exact Qx (Qx hsz hm) (List.countP_mono_left fun j _=>mono j)
  rename_i hno;refine Nat.succ_le_of_lt (Nat.lt_of_le_of_lt (Qx hsz hm) ?_);exact countP_lt (fun j _=>mono j) ⟨i,List.mem_range.2 hi,by simpa using hno,has_put_same h.isMap hkey _⟩
 by_cases e:j=i
 ·subst e;exact⟨hi,v,fun z=>atKey_put_same h.isMap hkey _ z,hv⟩
 rw [has_put_other (other j e)]at hj;obtain⟨a,x,d,f⟩:=hD j hj;exact⟨a,x,fun z=>by rw [atKey_put_other (other j e)];exact d z,f⟩
end
structure NEnv (W0 w:World) (bn m0 m1:Nat) (A:Option Addr) (cp:Nat) (c:List Nd):Prop where
 ext:Ext W0 w
 nds:Fml W0 (.slice A c.length cp) c
 blk:w.heap[bn]?=some (.cells #[.slice A c.length cp,.map (some m0),.map (some m1)] 155 (0,0))
 f0:FormMap w m0 c false
 f1:FormMap w m1 c true
 low:W0.heap.size<=m0/\W0.heap.size<=m1
 ne:m0≠m1
section
variable {W0 w w':World} {bn m0 m1 cp:Nat} {A:Option Addr} {c:List Nd} {v:Value} {l:List Nd}
theorem NEnv.bne(h:NEnv W0 w bn m0 m1 A cp c):bn≠m0/\bn≠m1:=by
 obtain⟨es,k,h0⟩:=h.f0.map;obtain⟨es',k',h1⟩:=h.f1.map;refine⟨fun e=> ?_,fun e=> ?_⟩
 ·rw [<-e,h.blk]at h0;cases h0
 rw [<-e,h.blk]at h1;cases h1
theorem NEnv.keep(h:NEnv W0 w bn m0 m1 A cp c)(he:Ext w w'):NEnv W0 w' bn m0 m1 A cp c :=
 ⟨h.ext.trans he,h.nds,(he.block (lt_heap h.blk)).trans h.blk,h.f0.nstep h.f0.map h.f1.map (.of_ext he) (he.block h.f0.lt),h.f1.nstep h.f0.map h.f1.map (.of_ext he) (he.block h.f1.lt),h.low,h.ne⟩
theorem NEnv.fml(h:NEnv W0 w bn m0 m1 A cp c)(hf:Fml w v l)(hs:NStep m0 m1 w w'):Fml w' v l:=hf.nstep h.f0.map h.f1.map hs
theorem NStep.ext0(hs:NStep m0 m1 w w')(h:Ext W0 w)(l0:W0.heap.size<=m0)(l1:W0.heap.size<=m1):Ext W0 w':=by
 exact Below.trans h ⟨hs.os,hs.tape,hs.output,hs.size,fun k hk=>hs.block k (Qy hk h.size) (by omega) (by omega)⟩
end
end Go.Proofs.YtmidgcldljfkcaaGreatDoor
