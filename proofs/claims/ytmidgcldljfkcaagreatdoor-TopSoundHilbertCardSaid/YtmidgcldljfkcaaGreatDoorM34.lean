/- The table of hilbert's axioms, read from what the row lays. -/
import Derived.Test.YtmidgcldljfkcaaGreatDoorM01
import Derived.Test.YtmidgcldljfkcaaGreatDoorM23
import Derived.Test.YtmidgcldljfkcaaGreatDoorM27
import Derived.Test.YtmidgcldljfkcaaGreatDoorM24
import Derived.Test.YtmidgcldljfkcaaGreatDoorM29
import Derived.Test.YtmidgcldljfkcaaGreatDoorM12
import Derived.Test.YtmidgcldljfkcaaGreatDoorM22
import Derived.Test.YtmidgcldljfkcaaGreatDoorM33
namespace Go.Proofs.YtmidgcldljfkcaaGreatDoor
set_option maxRecDepth 100000
set_option maxHeartbeats 128000000
open Go.ChangeShapes Go.WideShapes Go.ChangeAt Go.RowKit Go.Deep Go.Joins
theorem Qwb:Tryz.prog.globalNamed "witting/hilbert.axioms" =some 0:=by kernel_rfl
theorem Qee:(Tryz.prog.globals[0]?).map (·.type)=some 89:=by kernel_rfl
theorem cFH:Tryz.prog.cellsOf 88=1:=by kernel_rfl
theorem cAH:Tryz.prog.cellsOf 89=10:=by kernel_rfl
theorem Fe {l:List Value} {a:Nat} {x:Value}(h:(l.drop a).take 1= [x]):l[a]?=some x:=by
 have h0:=congrArg (fun q=>q[0]?) h;simp only [List.getElem?_take,List.getElem?_drop]at h0
 simpa using h0
theorem Ul {W:World} {fuel:Nat} {cs:List Value} {b:UInt8} {r:List UInt8} {q:List MemPlace} {f0:FuncId}(hl:cs.length=1)(h:DataW.trod (funcToken Tryz.prog) Tryz.prog W 0 (fun _=>true) true fuel 88 cs=some (.held (b :: r),q))
 (hone:((List.range Tryz.prog.funcs.size).filter fun f=>(Tryz.prog.funcs[f]?).any (·.name.toUTF8.data.toList==b :: r))= [f0]):cs= [.func (.func f0) #[] #[]]:=by
 match cs,hl with
 |[c],_=>rw [func_of_trod (f0:=f0) Tryz.underlying88 hone h]
theorem Qve {W:World} {L:List (String×DataW Unit)}(h:laidMetH Tryz.prog L W)(hx:("witting/hilbert.axioms",Rows.laid_witting_hilbert_axioms)∈L):Pn W:=by
 obtain⟨g,t,cs,fuel,p,hg,ht,hv,hd⟩:=h.funcs hx;obtain rfl:=Option.some.inj (Qwb.symm.trans hg);obtain rfl:=Option.some.inj (Qee.symm.trans ht);have hd':DataW.trod (funcToken Tryz.prog) Tryz.prog W 0 (fun _=>true) true fuel 89 cs.toList=some (.agg [.nil,.held [119,105,116,116,105,110,103,47,104,105,108,98,101,114,116,46,116,97,117,116,111,108,111,103,121],.held [119,105,116,116,105,110,103,47,104,105,108,98,101,114,116,46,100,105,115,116,114,105,98,117,116,101,115],.held [119,105,116,116,105,110,103,47,104,105,108,98,101,114,116,46,97,120,105,111,109,115,36,49],.held [119,105,116,116,105,110,103,47,104,105,108,98,101,114,116,46,97,120,105,111,109,115,36,50],.held [119,105,116,116,105,110,103,47,104,105,108,98,101,114,116,46,105,110,116,114,111,115,112,101,99,116,115],.held [119,105,116,116,105,110,103,47,104,105,108,98,101,114,116,46,97,120,105,111,109,115,36,51],.held [119,105,116,116,105,110,103,47,104,105,108,98,101,114,116,46,100,117,97,108],.held [119,105,116,116,105,110,103,47,104,105,108,98,101,114,116,46,101,118,101,114,121,98,111,100,121],.held [119,105,116,116,105,110,103,47,104,105,108,98,101,114,116,46,102,105,120,101,100]],p):=hd
 obtain⟨xs,m,rfl,hx,hlen,hxl,hi⟩:=DataW.trod_array Tryz.underlying89 hd';simp only [Prod.mk.injEq,DataW.agg.injEq]at hx;obtain⟨hx1,_⟩:=hx;have hcell:=fun j=>World.var?_cell hg hv j
 have key:∀(k:Nat) (d:DataW (List UInt8)),k < 10->(xs.map (·.1))[k]?=some d->∃q,DataW.trod (funcToken Tryz.prog) Tryz.prog W 0 (fun _=>true) true m 88 ((cs.toList.drop (k*1)).take 1)=some (d,q):=fun k d hk hd=>by
  rw [List.getElem?_map]at hd;obtain⟨x,hx,rfl⟩:=Option.map_eq_some_iff.1 hd;have:=hi k hk;rw [cFH]at this;exact⟨x.2,by rw [this,hx]⟩
 rw [<-hx1]at key;have hln:cs.toList.length=10:=hlen.trans cAH;have one:∀k,k < 10->((cs.toList.drop (k*1)).take 1).length=1:=fun k hk=>by rw [List.length_take,List.length_drop,hln];omega
 obtain⟨q0,h0⟩:=key 1 _ (by decide) rfl;have a0:=Fe (Ul (f0:=153) (one 1 (by decide)) h0 (by kernel_rfl));obtain⟨q1,h1⟩:=key 2 _ (by decide) rfl;have a1:=Fe (Ul (f0:=154) (one 2 (by decide)) h1 (by kernel_rfl));obtain⟨q2,h2⟩:=key 3 _ (by decide) rfl;have a2:=Fe (Ul (f0:=155) (one 3 (by decide)) h2 (by kernel_rfl));obtain⟨q3,h3⟩:=key 4 _ (by decide) rfl;have a3:=Fe (Ul (f0:=158) (one 4 (by decide)) h3 (by kernel_rfl));obtain⟨q4,h4⟩:=key 5 _ (by decide) rfl;have a4:=Fe (Ul (f0:=160) (one 5 (by decide)) h4 (by kernel_rfl));obtain⟨q5,h5⟩:=key 6 _ (by decide) rfl
 have a5:=Fe (Ul (f0:=161) (one 6 (by decide)) h5 (by kernel_rfl));obtain⟨q6,h6⟩:=key 7 _ (by decide) rfl;have a6:=Fe (Ul (f0:=163) (one 7 (by decide)) h6 (by kernel_rfl));obtain⟨q7,h7⟩:=key 8 _ (by decide) rfl;have a7:=Fe (Ul (f0:=164) (one 8 (by decide)) h7 (by kernel_rfl));obtain⟨q8,h8⟩:=key 9 _ (by decide) rfl;have a8:=Fe (Ul (f0:=165) (one 9 (by decide)) h8 (by kernel_rfl));refine⟨fun j v hj=> ?_⟩;rw [hcell (j+1),<-Array.getElem?_toList]
 match j,hj with
 |0,hj=>rw [<-hj];exact a0
 |1,hj=>rw [<-hj];exact a1
 |2,hj=>rw [<-hj];exact a2
 |3,hj=>rw [<-hj];exact a3
 |4,hj=>rw [<-hj];exact a4
 |5,hj=>rw [<-hj];exact a5
 |6,hj=>rw [<-hj];exact a6
 |7,hj=>rw [<-hj];exact a7
 |8,hj=>rw [<-hj];exact a8
 |j+9,hj=>simp [Qh1]at hj
def tpP:List Nd:=Qy9 0
def tpK:List Nd:=Yy 0 tpP
def tpX:List Nd:=Ya tpK tpP
def tpM:Md:=⟨2,[1],[[1,3]]⟩
def tpL:List Ln:= [⟨1,1,tpK,0,[]⟩,⟨1,18,tpP,0,[0]⟩,⟨0,8,tpX,0,[0]⟩]
def tpB:List Nd:= [⟨3,0,0,0,0,0⟩,⟨4,0,0,0,0,0⟩,⟨9,0,0,0,0,0⟩]
def tpS:List Stp:= [⟨7,1,1,0,[]⟩,⟨6,5,2,0,[0]⟩]
theorem Qwx:Rv 2 tpX=(3,0):=by decide+kernel
theorem Qnr:(Kl 2 tpL).2=0/\Yb (Kl 2 tpL).1 tpX=true:=by decide+kernel
theorem Qai:Do 2 tpB tpS=0:=by decide+kernel
theorem Qsv:Yh tpM tpX=0/\Df tpM tpX=3:=by decide+kernel
theorem Qc0:Qml [1,3]:=fun i hi=>by
 have h2:i=0\/i=1:=by simp at hi;omega
 rcases h2 with rfl|rfl <;> decide
theorem Qei:inG tpM 2=true:=by
 have h:Ds 2 [1,3]=true:=Qj1.2 fun q hq=>by
  obtain rfl:q=2:=by simpa [Dk]using hq
  exact Qc0
 unfold inG Wx inB;rw [decide_eq_true (show Zd tpM=0 by decide+kernel),decide_eq_true (show(0:Int)<=2/\(2:Int)<=6 by decide),Bool.true_and,Bool.true_and];show(!((!Ds 2 [1,3])||false))=true;rw [h];rfl
end Go.Proofs.YtmidgcldljfkcaaGreatDoor
