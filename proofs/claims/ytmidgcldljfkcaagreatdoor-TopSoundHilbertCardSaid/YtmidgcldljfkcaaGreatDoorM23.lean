/- What a law's call leaves as it was. -/
import Derived.Test.YtmidgcldljfkcaaGreatDoorM01
import Derived.Test.YtmidgcldljfkcaaGreatDoorRows
import Derived.Deep.Slices
import Derived.Deep.Fields
import Derived.ChangeSame
import Derived.ProofKit
import Derived.OpenShut
import Derived.Lib.SmallJoins
import Derived.SevenTiedAt
import Derived.Stop.Joined
import Derived.Below
import Derived.Test.YtmidgcldljfkcaaGreatDoorM11
import Derived.LaidMore
import Derived.Test.YtmidgcldljfkcaaGreatDoorM14
import Derived.Test.YtmidgcldljfkcaaGreatDoorM15
import Derived.Test.YtmidgcldljfkcaaGreatDoorCards
import Derived.Test.YtmidgcldljfkcaaGreatDoorTie
import Derived.MakeChecks
import Derived.Test.YtmidgcldljfkcaaGreatDoorM20
import Derived.Test.YtmidgcldljfkcaaGreatDoorM13
import Derived.Test.YtmidgcldljfkcaaGreatDoorM16
import Derived.Test.YtmidgcldljfkcaaGreatDoorM22
namespace Go.Proofs.YtmidgcldljfkcaaGreatDoor
set_option maxRecDepth 100000
set_option maxHeartbeats 128000000
open Go.ChangeShapes Go.WideShapes Go.ChangeAt Go.RowKit Go.Joins
section
variable {H:Type} {enc:TypeId×Value->H} {P:Program}
theorem Qya {f:Func} {s:ChangeSpec} {apart fresh handsOn again:Bool} {W W':World} {args:Array Value} {v:Value} {ds gs:List (DataW H)} {before pa pv:List MemPlace}
 (hW:DataW.Whole enc P f.params.toList s.vars apart W args.toList ds gs before)
 (hres:∀(b:Nat) (sp:Nat->Bool) (hd:Bool),DataW.TrodAll enc P W' b sp hd f.resultTypes.toList (v.resultList f.resultTypes.size) (s.fn H (ds++gs)).results [])
 (hargs:∀sp:Nat->Bool,(∀p∈before,sp p.block=true)->DataW.TrodAll enc P W' 0 sp true f.params.toList args.toList (s.fn H (ds++gs)).args pa)
 (hvars:∀sp:Nat->Bool,(∀p∈before,sp p.block=true)->DataW.TrodVars enc P W' sp s.vars (s.fn H (ds++gs)).vars pv)
 (hps:before=pa++pv)(hb:Go.RowKit.Below W.heap.size W W')
 (hok:∀(j:Nat) (t:TypeId) (r:Value),f.resultTypes[j]?=some t->(v.resultList f.resultTypes.size)[j]?=some r->Value.okWide P W' .any 0 t r):
 s.post enc P f apart fresh handsOn again W args v W':=by
 have hlt:∀p∈before,p.block < W.heap.size:=fun p hp=>hW.lt p hp
 have hold:∀p∈before,(fun b=>decide (b < W.heap.size)) p.block=true:=fun p hp=>by simpa using hlt p hp
 refine⟨ds,gs,before,[],pa,pv,hW,hres _ _ _,hargs _ hold,hvars _ hold,World.keptBut_mono (fun p hp=>⟨hp,?_⟩) (hb.frame (·∈before)),fun _=> ?_⟩
 ·rw [hps,List.mem_append]at hp;exact Or.inr hp
 obtain⟨_,_,_,_,_,hz,hn⟩:=hW;refine⟨hok,_,_,([]++pa)++pv,⟨[]++pa,pv,trodAll_append (hargs _ (fun _ _=>rfl)) (hres _ _ _),hvars _ (fun _ _=>rfl),rfl,?_,?_⟩,?_⟩
 ·intro b off hp;have hin:MemPlace.cell b off∈before:=by rw [hps];simpa using hp
  rw [hb.frozen (hlt _ hin)];exact hz b off hin
 ·intro ha;have:=hn ha;rw [hps]at this
  simpa using this
 intro p hp _;rw [hps]
 simpa using hp
end
open Go.Deep
theorem Wa {α:Type} {P:Nat->α->Prop} :∀len:Nat,(∀i,i < len->∃a,P i a)->∃l:List α,l.length=len/\∀k a,l[k]?=some a->P k a
 |0,_=>⟨[],rfl,fun k a h=>by simp at h⟩
 |len+1,h=>by
  obtain⟨l,hl,hp⟩:=Wa len (fun i hi=>h i (by omega));obtain⟨a,ha⟩:=h len (by omega);refine⟨l++ [a],by simp [hl],fun k b hk=> ?_⟩;by_cases e:k < l.length
  ·rw [List.getElem?_append_left e]at hk;exact hp k b hk
  rw [List.getElem?_append_right (by omega)]at hk;have e0:k - l.length=0:=by
   by_cases e2:k - l.length=0
   ·exact e2
   rw [List.getElem?_eq_none (by simp;omega)]at hk;cases hk
  rw [e0]at hk;simp at hk;subst hk;have:k=len:=by omega
  rw [this];exact ha
section
variable {H:Type} {enc:TypeId×Value->H} {P:Program} {w:World} {base:Nat} {spare:Nat->Bool} {held:Bool}
theorem Tp {t e:TypeId} {fs:Array Field} {fuel:Nat} {cs:List Value} {x:DataW H×List MemPlace}(ht:P.underlying t=some (.slice e))(he:P.underlying e=some (.struct fs))
 (hone:oneCellFields P fs=true)(hC:P.cellsOf e=fs.size)(h:DataW.trod enc P w base spare held fuel t cs=some x):
 (cs= [.slice none 0 0]/\x=(.nil,[]))\/
 ∃(a:Addr) (len cap:Nat),cs= [.slice (some a) len cap]/\len<=cap/\cap<=maxLen/\
  ∀i,i < len->∀(j:Nat) (f:Field),fs[j]?=some f->∃(v:Value) (y:DataW H×List MemPlace) (n:Nat),w.cell? (a.add (i*fs.size+j))=some v/\DataW.trod enc P w base spare held n f.type [v]=some y:=by
 rcases open_slice ht h with h0|⟨a,len,cap,m,n,D,Pl,hcs,hb,hl,hm,hmm,hx,hi⟩
 ·exact .inl h0
 refine .inr ⟨a,len,cap,hcs,hl,hm,fun i hil j f hj=> ?_⟩;have him:i < m:=by rw [hmm];split <;> omega
 obtain⟨cs',hc,ht'⟩:=hi i him;rw [hC]at hc;obtain⟨ys,n',hn',hy,hlen,hyl,hf⟩:=DataW.trod_struct he ht';obtain⟨_,hcl,hat⟩:=World.cells?_some hc;obtain⟨ho,hk⟩:=hone_of hone j f hj;have hjl:j < fs.size:=(Array.getElem?_eq_some_iff.1 hj).1;have hcell:=hat j hjl;have hv:cs'[j]?=some (cs'[j]'(by omega)):=List.getElem?_eq_getElem (by omega);have h1:=hf j f hj;rw [ho,hk]at h1;have hone':(cs'.drop j).take 1= [cs'[j]'(by omega)]:=by
  rw [List.drop_eq_getElem_cons (by omega)];rfl
 rw [hone']at h1;have hys:ys[j]?=some (ys[j]'(by omega)):=List.getElem?_eq_getElem (by omega);refine⟨_,_,_,?_,h1.trans hys⟩;rw [<-Go.Deep.add_add,hcell,hv]
end
section
variable {H:Type} {enc:TypeId×Value->H} {w:World} {spare:Nat->Bool} {held:Bool}
theorem Qq2 {w:World} {a:Addr} {k j:Nat} {u:Value}(hj:0 < j)(hc:w.cell? (a.add (k+j))=some u):w.cell? ⟨(a.add k).block,(a.add k).off+j,none⟩=some u:=by
 have e:a.add (k+j)=⟨(a.add k).block,(a.add k).off+j,none⟩:=by
  rw [<-Qq9];unfold Addr.add;rw [if_neg (by omega)]
 rw [<-e];exact hc
theorem Qsr {z:Int}(h:(Lit.int .i64 z).wf=true):Jc z:=by
 unfold Lit.wf at h;rw [Bool.and_eq_true,decide_eq_true_iff,decide_eq_true_iff]at h;have h1:IntKind.i64.min= -9223372036854775808:=by decide+kernel
 have h2:IntKind.i64.max=9223372036854775807:=by decide+kernel
 rw [h1,h2]at h;exact h
theorem Qyk {z:Int}(h:(Lit.int .u64 z).wf=true):0<=z/\z < 18446744073709551616:=by
 unfold Lit.wf at h;rw [Bool.and_eq_true,decide_eq_true_iff,decide_eq_true_iff]at h;have h1:IntKind.u64.min=0:=by decide+kernel
 have h2:IntKind.u64.max=18446744073709551615:=by decide+kernel
 rw [h1,h2]at h;omega
theorem Ks {fuel:Nat} {v:Value} {y:DataW H×List MemPlace}(h:DataW.trod enc Tryz.prog w 0 spare held fuel 3 [v]=some y):∃z,v=.int .i64 z/\Jc z:=by
 obtain⟨n,hc,_,hw⟩:=DataW.trod_int Tryz.underlying3 h;injection hc with hc _;exact⟨n,hc,Qsr hw⟩
theorem Qgv {fuel:Nat} {v:Value} {y:DataW H×List MemPlace}(h:DataW.trod enc Tryz.prog w 0 spare held fuel 31 [v]=some y):∃l,Fml w v l:=by
 rcases Tp Tryz.underlying31 Tryz.underlying64 (by kernel_rfl) (by kernel_rfl) h with⟨hc,_⟩|⟨a,len,cap,hc,hl,hm,hf⟩
 ·injection hc with hc _;subst hc;exact⟨[],⟨none,0,rfl,Nat.le_refl _,by unfold maxLen;omega,fun h=>absurd rfl h⟩,by simp⟩
 injection hc with hc _;subst hc;obtain⟨l,hlen,hp⟩:=Wa (P:=fun i n=>Qkt w (a.add (i*6)) n/\n.ok/\a.block < w.heap.size) len (fun i hi=>by
  obtain⟨v0,_,_,c0,t0⟩:=hf i hi 0 _ rfl;obtain⟨v1,_,_,c1,t1⟩:=hf i hi 1 _ rfl;obtain⟨v2,_,_,c2,t2⟩:=hf i hi 2 _ rfl;obtain⟨v3,_,_,c3,t3⟩:=hf i hi 3 _ rfl;obtain⟨v4,_,_,c4,t4⟩:=hf i hi 4 _ rfl;obtain⟨v5,_,_,c5,t5⟩:=hf i hi 5 _ rfl;obtain⟨z0,rfl,o0⟩:=Ks t0;obtain⟨z1,rfl,o1⟩:=Ks t1;obtain⟨z2,rfl,o2⟩:=Ks t2;obtain⟨z3,rfl,o3⟩:=Ks t3;obtain⟨z4,rfl,o4⟩:=Ks t4;obtain⟨z5,rfl,o5⟩:=Ks t5;have hs:∀(j:Nat) u,0 < j->w.cell? (a.add (i*6+j))=some u->w.cell? ⟨(a.add (i*6)).block,(a.add (i*6)).off+j,none⟩=some u:=fun j u hj hc=>Qq2 hj hc
  exact⟨⟨z0,z1,z2,z3,z4,z5⟩,⟨by simpa using c0,hs 1 _ (by omega) c1,hs 2 _ (by omega) c2,hs 3 _ (by omega) c3,hs 4 _ (by omega) c4,hs 5 _ (by omega) c5⟩,⟨o0,o1,o2,o3,o4,o5⟩,by have:=World.block_lt_of_cell? w _ c0;rwa [Qn]at this⟩)
 refine⟨l,⟨some a,cap,by rw [hlen],by rw [hlen];exact hl,hm,fun hne=>⟨a,rfl,?_,fun k n hk=>(hp k n hk).1⟩⟩,fun n hn=> ?_⟩
 ·obtain⟨n,hn⟩:∃n,l[0]?=some n:=by
   cases l with
   |nil=>exact absurd rfl hne
   |cons x t=>exact⟨x,rfl⟩
  exact(hp 0 n hn).2.2
 obtain⟨k,hk⟩:=List.getElem?_of_mem hn;exact(hp k n hk).2.1
end
theorem c3:Tryz.prog.cellsOf 3=1:=by kernel_rfl
theorem c73:Tryz.prog.cellsOf 119=2:=by kernel_rfl
theorem Qwm:Tryz.prog.globalNamed "witting/natural.table" =some 1:=by kernel_rfl
theorem Qwl:(Tryz.prog.globals[1]?).map (·.type)=some 120:=by kernel_rfl
theorem Xl {W:World} {fuel:Nat} {cs:List Value} {z:Int} {b:UInt8} {r:List UInt8} {q:List MemPlace} {f0:FuncId}(h:DataW.trod (funcToken Tryz.prog) Tryz.prog W 0 (fun _=>true) true fuel 119 cs=some (.agg [.lit (.int .i64 z),.held (b :: r)],q))
 (hone:((List.range Tryz.prog.funcs.size).filter fun f=>(Tryz.prog.funcs[f]?).any (·.name.toUTF8.data.toList==b :: r))= [f0]):cs= [.int .i64 z,.func (.func f0) #[] #[]]:=by
 obtain⟨ys,n,rfl,hx,hl,hyl,hf⟩:=DataW.trod_struct Tryz.underlying119 h;rw [c73]at hl
 match cs,hl with
 |[c0,c1],_ =>
  match ys,hyl with
  |[y0,y1],_ =>
   have h0:=hf 0 _ rfl;have h1:=hf 1 _ rfl;simp only [Prod.mk.injEq,DataW.agg.injEq,List.map_cons,List.map_nil,List.cons.injEq,and_true]at hx;obtain⟨⟨e0,e1⟩,_⟩:=hx;have h0':DataW.trod (funcToken Tryz.prog) Tryz.prog W 0 (fun _=>true) true n 3 [c0]=some y0:=h0;have h1':DataW.trod (funcToken Tryz.prog) Tryz.prog W 0 (fun _=>true) true n 117 [c1]=some y1:=h1;obtain⟨z',hc,hy,_⟩:=DataW.trod_int Tryz.underlying3 h0';injection hc with hc _;rw [hy]at e0;simp only [DataW.lit.injEq,Lit.int.injEq,true_and]at e0;have ey:y1=(.held (b :: r),y1.2):=by rw [e1]
   rw [ey]at h1';have:=func_of_trod (f0:=f0) Tryz.underlying117 hone h1';rw [hc,e0,this]
theorem Vm {l:List Value} {a:Nat} {x y:Value}(h:(l.drop a).take 2= [x,y]):l[a]?=some x/\l[a+1]?=some y:=by
 have h0:=congrArg (fun q=>q[0]?) h;have h1:=congrArg (fun q=>q[1]?) h;simp only [List.getElem?_take,List.getElem?_drop]at h0 h1;exact⟨by simpa using h0,by simpa using h1⟩
theorem Qg4 {W:World} {L:List (String×DataW Unit)}(h:laidMetH Tryz.prog L W)(hx:("witting/natural.table",Rows.laid_witting_natural_table)∈L):Tab W:=by
 obtain⟨g,t,cs,fuel,p,hg,ht,hv,hd⟩:=h.funcs hx;obtain rfl:=Option.some.inj (Qwm.symm.trans hg);obtain rfl:=Option.some.inj (Qwl.symm.trans ht);have hd':DataW.trod (funcToken Tryz.prog) Tryz.prog W 0 (fun _=>true) true fuel 120 cs.toList=some (.agg [.agg [.lit (.int .i64 3),.held [40,42,119,105,116,116,105,110,103,47,110,97,116,117,114,97,108,46,99,104,101,99,107,101,114,41,46,99,111,112,105,101,100]],.agg [.lit (.int .i64 4),.held [40,42,119,105,116,116,105,110,103,47,110,97,116,117,114,97,108,46,99,104,101,99,107,101,114,41,46,97,110,100,73,110]],.agg [.lit (.int .i64 5),.held [40,42,119,105,116,116,105,110,103,47,110,97,116,117,114,97,108,46,99,104,101,99,107,101,114,41,46,97,110,100,79,117,116]],.agg [.lit (.int .i64 6),.held [40,42,119,105,116,116,105,110,103,47,110,97,116,117,114,97,108,46,99,104,101,99,107,101,114,41,46,111,114,73,110]],.agg [.lit (.int .i64 7),.held [40,42,119,105,116,116,105,110,103,47,110,97,116,117,114,97,108,46,99,104,101,99,107,101,114,41,46,111,114,79,117,116]],.agg [.lit (.int .i64 8),.held [40,42,119,105,116,116,105,110,103,47,110,97,116,117,114,97,108,46,99,104,101,99,107,101,114,41,46,105,109,112,73,110]],.agg [.lit (.int .i64 9),.held [40,42,119,105,116,116,105,110,103,47,110,97,116,117,114,97,108,46,99,104,101,99,107,101,114,41,46,105,109,112,79,117,116]],.agg [.lit (.int .i64 10),.held [40,42,119,105,116,116,105,110,103,47,110,97,116,117,114,97,108,46,99,104,101,99,107,101,114,41,46,110,111,116,73,110]],.agg [.lit (.int .i64 11),.held [40,42,119,105,116,116,105,110,103,47,110,97,116,117,114,97,108,46,99,104,101,99,107,101,114,41,46,110,111,116,79,117,116]],.agg [.lit (.int .i64 12),.held [40,42,119,105,116,116,105,110,103,47,110,97,116,117,114,97,108,46,99,104,101,99,107,101,114,41,46,97,98,115,117,114,100]],.agg [.lit (.int .i64 13),.held [40,42,119,105,116,116,105,110,103,47,110,97,116,117,114,97,108,46,99,104,101,99,107,101,114,41,46,102,114,111,109,70,97,108,115,101]],.agg [.lit (.int .i64 14),.held [40,42,119,105,116,116,105,110,103,47,110,97,116,117,114,97,108,46,99,104,101,99,107,101,114,41,46,105,115,84,114,117,101]],.agg [.lit (.int .i64 15),.held [40,42,119,105,116,116,105,110,103,47,110,97,116,117,114,97,108,46,99,104,101,99,107,101,114,41,46,105,102,102]],.agg [.lit (.int .i64 16),.held [40,42,119,105,116,116,105,110,103,47,110,97,116,117,114,97,108,46,99,104,101,99,107,101,114,41,46,107,110,111,119,73,110]],.agg [.lit (.int .i64 17),.held [40,42,119,105,116,116,105,110,103,47,110,97,116,117,114,97,108,46,99,104,101,99,107,101,114,41,46,105,109,112,111,114,116,101,100]],.agg [.lit (.int .i64 18),.held [40,42,119,105,116,116,105,110,103,47,110,97,116,117,114,97,108,46,99,104,101,99,107,101,114,41,46,107,110,111,119,84]],.agg [.lit (.int .i64 19),.held [40,42,119,105,116,116,105,110,103,47,110,97,116,117,114,97,108,46,99,104,101,99,107,101,114,41,46,100,117,97,108]],.agg [.lit (.int .i64 20),.held [40,42,119,105,116,116,105,110,103,47,110,97,116,117,114,97,108,46,99,104,101,99,107,101,114,41,46,115,101,114,105,97,108]]],p):=hd
 obtain⟨xs,m,rfl,hx,hlen,hxl,hi⟩:=DataW.trod_array Tryz.underlying120 hd';simp only [Prod.mk.injEq,DataW.agg.injEq]at hx;obtain⟨hx1,_⟩:=hx;have key:∀(k:Nat) (d:DataW (List UInt8)),k < 18->(xs.map (·.1))[k]?=some d->∃q,DataW.trod (funcToken Tryz.prog) Tryz.prog W 0 (fun _=>true) true m 119 ((cs.toList.drop (k*2)).take 2)=some (d,q):=fun k d hk hd=>by
  rw [List.getElem?_map]at hd;obtain⟨x,hx,rfl⟩:=Option.map_eq_some_iff.1 hd;have:=hi k hk;rw [c73]at this;exact⟨x.2,by rw [this,hx]⟩
 rw [<-hx1]at key;have hcell:=fun j=>World.var?_cell hg hv j
 obtain⟨q0,h0⟩:=key 0 _ (by decide) rfl;obtain⟨a0,b0⟩:=Vm (Xl (f0:=175) h0 (by kernel_rfl));obtain⟨q1,h1⟩:=key 1 _ (by decide) rfl;obtain⟨a1,b1⟩:=Vm (Xl (f0:=176) h1 (by kernel_rfl));obtain⟨q2,h2⟩:=key 2 _ (by decide) rfl;obtain⟨a2,b2⟩:=Vm (Xl (f0:=177) h2 (by kernel_rfl));obtain⟨q3,h3⟩:=key 3 _ (by decide) rfl;obtain⟨a3,b3⟩:=Vm (Xl (f0:=178) h3 (by kernel_rfl));obtain⟨q4,h4⟩:=key 4 _ (by decide) rfl;obtain⟨a4,b4⟩:=Vm (Xl (f0:=179) h4 (by kernel_rfl));obtain⟨q5,h5⟩:=key 5 _ (by decide) rfl;obtain⟨a5,b5⟩:=Vm (Xl (f0:=180) h5 (by kernel_rfl))
 obtain⟨q6,h6⟩:=key 6 _ (by decide) rfl;obtain⟨a6,b6⟩:=Vm (Xl (f0:=181) h6 (by kernel_rfl));obtain⟨q7,h7⟩:=key 7 _ (by decide) rfl;obtain⟨a7,b7⟩:=Vm (Xl (f0:=182) h7 (by kernel_rfl));obtain⟨q8,h8⟩:=key 8 _ (by decide) rfl;obtain⟨a8,b8⟩:=Vm (Xl (f0:=183) h8 (by kernel_rfl));obtain⟨q9,h9⟩:=key 9 _ (by decide) rfl;obtain⟨a9,b9⟩:=Vm (Xl (f0:=184) h9 (by kernel_rfl));obtain⟨q10,h10⟩:=key 10 _ (by decide) rfl;obtain⟨a10,b10⟩:=Vm (Xl (f0:=185) h10 (by kernel_rfl));obtain⟨q11,h11⟩:=key 11 _ (by decide) rfl;obtain⟨a11,b11⟩:=Vm (Xl (f0:=186) h11 (by kernel_rfl))
 obtain⟨q12,h12⟩:=key 12 _ (by decide) rfl;obtain⟨a12,b12⟩:=Vm (Xl (f0:=187) h12 (by kernel_rfl));obtain⟨q13,h13⟩:=key 13 _ (by decide) rfl;obtain⟨a13,b13⟩:=Vm (Xl (f0:=188) h13 (by kernel_rfl));obtain⟨q14,h14⟩:=key 14 _ (by decide) rfl;obtain⟨a14,b14⟩:=Vm (Xl (f0:=189) h14 (by kernel_rfl));obtain⟨q15,h15⟩:=key 15 _ (by decide) rfl;obtain⟨a15,b15⟩:=Vm (Xl (f0:=190) h15 (by kernel_rfl));obtain⟨q16,h16⟩:=key 16 _ (by decide) rfl;obtain⟨a16,b16⟩:=Vm (Xl (f0:=191) h16 (by kernel_rfl));obtain⟨q17,h17⟩:=key 17 _ (by decide) rfl;obtain⟨a17,b17⟩:=Vm (Xl (f0:=192) h17 (by kernel_rfl))
 refine⟨fun j v hj=> ?_,?_⟩
 ·rw [Nat.zero_add,hcell j,<-Array.getElem?_toList]
  match j,hj with
  |0,hj=>rw [<-hj];exact a0
  |1,hj=>rw [<-hj];exact b0
  |2,hj=>rw [<-hj];exact a1
  |3,hj=>rw [<-hj];exact b1
  |4,hj=>rw [<-hj];exact a2
  |5,hj=>rw [<-hj];exact b2
  |6,hj=>rw [<-hj];exact a3
  |7,hj=>rw [<-hj];exact b3
  |8,hj=>rw [<-hj];exact a4
  |9,hj=>rw [<-hj];exact b4
  |10,hj=>rw [<-hj];exact a5
  |11,hj=>rw [<-hj];exact b5
  |12,hj=>rw [<-hj];exact a6
  |13,hj=>rw [<-hj];exact b6
  |14,hj=>rw [<-hj];exact a7
  |15,hj=>rw [<-hj];exact b7
  |16,hj=>rw [<-hj];exact a8
  |17,hj=>rw [<-hj];exact b8
  |18,hj=>rw [<-hj];exact a9
  |19,hj=>rw [<-hj];exact b9
  |20,hj=>rw [<-hj];exact a10
  |21,hj=>rw [<-hj];exact b10
  |22,hj=>rw [<-hj];exact a11
  |23,hj=>rw [<-hj];exact b11
  |24,hj=>rw [<-hj];exact a12
  |25,hj=>rw [<-hj];exact b12
  |26,hj=>rw [<-hj];exact a13
  |27,hj=>rw [<-hj];exact b13
  |28,hj=>rw [<-hj];exact a14
  |29,hj=>rw [<-hj];exact b14
  |30,hj=>rw [<-hj];exact a15
  |31,hj=>rw [<-hj];exact b15
  |32,hj=>rw [<-hj];exact a16
  |33,hj=>rw [<-hj];exact b16
  |34,hj=>rw [<-hj];exact a17
  |35,hj=>rw [<-hj];exact b17
  |j+36,hj=>simp [Yw]at hj
 have h0:=hcell 0;rw [<-Array.getElem?_toList,a0]at h0;exact World.block_lt_of_cell? W _ h0
section
variable {H:Type} {enc:TypeId×Value->H} {w:World} {spare:Nat->Bool} {held:Bool}
theorem Wz {fuel:Nat} {v:Value} {y:DataW H×List MemPlace}(h:DataW.trod enc Tryz.prog w 0 spare held fuel 25 [v]=some y):∃l,Yi w v l/\∀s∈l,Qi s:=by
 rcases open_ints Tryz.underlying25 Tryz.underlying43 (by kernel_rfl) h with⟨hc,_⟩|⟨a,len,cap,zs,hc,_,hl,hm,hz,_,hcell,hwf⟩
 ·injection hc with hc _;subst hc;exact⟨[],Qkw w,fun s hs=>by cases hs⟩
 injection hc with hc _;subst hc;have hzl:len<=zs.length:=by rw [hz];split <;> omega
 have el:((zs.take len).map Int.toNat).length=len:=by simp;omega
 have hcl:∀(k z:Nat),((zs.take len).map Int.toNat)[k]?=some z->w.cell? (a.add k)=some (.int .u64 (z:Int)):=fun k z hk=>by
  rw [List.getElem?_map,List.getElem?_take]at hk
  split at hk
  ·cases hq:zs[k]? with
   |none=>rw [hq]at hk;cases hk
   |some q =>
    rw [hq]at hk;obtain rfl:q.toNat=z:=by simpa using hk
    have hk':=(List.getElem?_eq_some_iff.1 hq).1;have hq0:=(Qyk (hwf q (List.mem_of_getElem? hq))).1;rw [hcell k hk',Qk,hq,Int.toNat_of_nonneg hq0];rfl
  cases hk
 refine⟨_,⟨some a,cap,by rw [el],by rw [el];exact hl,hm,fun hne=>⟨a,rfl,?_,hcl⟩⟩,fun s hs=> ?_⟩
 ·obtain⟨z,hz0⟩:∃z,((zs.take len).map Int.toNat)[0]?=some z:=by
   cases hq:(zs.take len).map Int.toNat with
   |nil=>exact absurd hq hne
   |cons x t=>exact⟨x,rfl⟩
  have:=World.block_lt_of_cell? w _ (hcl 0 z hz0)
  rwa [Qn]at this
 obtain⟨q,hq,rfl⟩:=List.mem_map.1 hs;have:=Qyk (hwf q (List.mem_of_mem_take hq));show q.toNat < 18446744073709551616;omega
theorem Qy6 {fuel:Nat} {v:Value} {y:DataW H×List MemPlace}(h:DataW.trod enc Tryz.prog w 0 spare held fuel 26 [v]=some y):∃l,Tz w v l/\∀r∈l,∀s∈r,Qi s:=by
 rcases open_slice Tryz.underlying26 h with⟨hc,_⟩|⟨a,len,cap,m,n,D,Pl,hc,_,hl,hm,hmm,_,hi⟩
 ·injection hc with hc _;subst hc;exact⟨[],⟨none,0,rfl,Nat.le_refl _,by unfold maxLen;omega,fun h=>absurd rfl h⟩,fun r hr=>by cases hr⟩
 injection hc with hc _;subst hc;have hC:Tryz.prog.cellsOf 25=1:=by kernel_rfl
 obtain⟨l,hlen,hp⟩:=Wa (P:=fun i (r:List Nat)=>∃u,w.cell? (a.add i)=some u/\Yi w u r/\(∀s∈r,Qi s)/\a.block < w.heap.size) len (fun i hil=>by
  obtain⟨cs',hcs,ht'⟩:=hi i (by rw [hmm];split <;> omega);rw [hC]at hcs;obtain⟨_,hcl,hat⟩:=World.cells?_some hcs;obtain⟨u,rfl⟩:∃u,cs'= [u]:=by
   cases cs' with
   |nil=>simp at hcl
   |cons x t=>cases t with
    |nil=>exact⟨x,rfl⟩
    |cons z t=>simp at hcl
  have h0:=hat 0 (by omega);obtain⟨r,hr,hw⟩:=Wz ht';have hc0:w.cell? (a.add i)=some u:=by
   have:(a.add (i*1)).add 0=a.add i:=by rw [Nat.mul_one];unfold Addr.add;rfl
   rw [this]at h0
   simpa using h0
  refine⟨r,u,hc0,hr,hw,?_⟩;have:=World.block_lt_of_cell? w _ hc0
  rwa [Qn]at this)
 refine⟨l,⟨some a,cap,by rw [hlen],by rw [hlen];exact hl,hm,fun hne=>⟨a,rfl,?_,fun k s hk=> ?_⟩⟩,fun r hr=> ?_⟩
 ·obtain⟨z,hz0⟩:∃z,l[0]?=some z:=by
   cases hq:l with
   |nil=>exact absurd hq hne
   |cons x t=>exact⟨x,rfl⟩
  obtain⟨_,_,_,_,hb⟩:=hp 0 z hz0;exact hb
 ·obtain⟨u,h1,h2,_⟩:=hp k s hk;exact⟨u,h1,h2⟩
 obtain⟨k,hk⟩:=List.getElem?_of_mem hr;obtain⟨_,_,_,hw,_⟩:=hp k r hk;exact hw
theorem Qsh {r:Reach} {b0:Nat} {v:Value} {d:DataW H} {p:List MemPlace}(hv:Value.okWide Tryz.prog w r b0 28 v)(h:DataW.Trod enc Tryz.prog w 0 spare held 28 v d p):∃md,MdV w v md/\md.ok:=by
 obtain⟨v0,v1,v2,y0,y1,y2,n,rfl,_,_,t0,t1,t2⟩:=open_agg3 Tryz.underlying28 (by kernel_rfl) (by kernel_rfl) hv h;obtain⟨z,rfl,hz⟩:=Ks t0;obtain⟨vs,hvs,hw1⟩:=Wz t1;obtain⟨rs,hrs,hw2⟩:=Qy6 t2;exact⟨⟨z,vs,rs⟩,⟨_,_,rfl,hvs,hrs⟩,⟨hz,hw1,hw2⟩⟩
end
theorem Qel:Tryz.prog.globalNamed "math/bits.deBruijn64tab" =some 2:=by kernel_rfl
theorem Qe0:(Tryz.prog.globals[2]?).map (·.type)=some 161:=by kernel_rfl
theorem c5Z:Tryz.prog.cellsOf 5=1:=by kernel_rfl
theorem Qxe {W:World}(h:laidMet Tryz.prog [("math/bits.deBruijn64tab",Rows.laid_math_bits_deBruijn64tab)] W):Kx W:=by
 obtain⟨_,⟨g,t,cs,fuel,p,_,hg,ht,hv,hd,_,_⟩,_,_⟩:=h;obtain rfl:=Option.some.inj (Qel.symm.trans hg);obtain rfl:=Option.some.inj (Qe0.symm.trans ht);have hd':DataW.trod (fun _=>()) Tryz.prog W 0 (fun _=>true) false fuel 161 cs.toList=some (.agg (Ws.map fun(z:Nat)=> .lit (.int .u8 (z:Int))),p):=hd;obtain⟨xs,m,rfl,hx,hlen,hxl,hi⟩:=DataW.trod_array Tryz.underlying161 hd';simp only [Prod.mk.injEq,DataW.agg.injEq]at hx;obtain⟨hx1,_⟩:=hx;have hcell:=fun j=>World.var?_cell hg hv j
 have key:∀k,k < 64->W.cell? ⟨2,k,none⟩=some (.int .u8 ((Ws.getD k 0:Nat):Int)):=fun k hk=>by
  have h1:=hi k hk;rw [c5Z,Nat.mul_one]at h1;have hxk:(xs.map (·.1))[k]?=some (.lit (.int .u8 ((Ws.getD k 0:Nat):Int))):=by
   rw [<-hx1,List.getElem?_map,Qk];have:k < Ws.length:=hk;rw [Qv this];rfl
  rw [List.getElem?_map]at hxk;obtain⟨x,hx2,hx3⟩:=Option.map_eq_some_iff.1 hxk;rw [hx2]at h1;obtain⟨z,hc,hy,_⟩:=DataW.trod_int Tryz.underlying5 h1;rw [hy]at hx3;simp only [DataW.lit.injEq,Lit.int.injEq,true_and]at hx3;have h0:=congrArg (fun q=>q[0]?) hc;simp only [List.getElem?_take,List.getElem?_drop]at h0;rw [hcell k,<-Array.getElem?_toList,<-hx3]
  simpa using h0
 exact⟨key,World.block_lt_of_cell? W _ (key 0 (by decide))⟩
theorem Qxn {W:World}(h:laidMetH Tryz.prog [("math/bits.deBruijn64tab",Rows.laid_math_bits_deBruijn64tab)] W):Kx W:=by
 rw [Go.MakeChecks.laidMetH_plain _ _ _ rfl]at h;exact Qxe h
section
variable (M:KM) (ls:List Ln) (fs:List (List Nd))
def Qen(o:Int)(v w:M.W):Prop:=(Mh ls o=true/\M.R (Js ls o).agent v w)\/(Mh ls o=false/\v=w/\M.sat (Qp (fs.getD o.toNat [])) w)
def Qli:List Int->M.W->M.W->Prop
 |[],v,w=>v=w
 |o :: s,v,w=>∃u,Qen M ls fs o v u/\Qli s u w
end
section
variable {M:KM} {ls:List Ln} {fs:List (List Nd)}
end
structure Qa2 (ls:List Ln) (st:List (List Int)) (i:Nat):Prop where
 pos:∀k,k < i->∀p,p < (st.getD k []).length->∃o:Nat,(st.getD k [])[p]?=some (o:Int)/\o<=k/\st.getD o []=(st.getD k []).take (p+1)
 opn:∀k:Nat,k < i->Kk (Js ls k)=true->∃X,st.getD k []=X++ [(k:Int)]
structure Qw8 (M:KM) (ls:List Ln) (FS:List (List Nd)) (ST:List (List Int)) (i:Nat) (fi:List Nd):Prop where
 shp:Qa2 ls ST (i+1)
 fl:FS.length=i+1
 ck:∀f∈FS,Qs f=0
 at_:FS.getD i []=fi
 snd:∀k,k < i->∀v w,Qli M ls FS (ST.getD k []) v w->M.sat (Qp (FS.getD k [])) w
 ag:∀k:Nat,k < i+1->0<=(Js ls k).agent/\(Js ls k).agent < 4
section
variable {M:KM} {ls:List Ln} {FS:List (List Nd)} {ST:List (List Int)} {i:Nat} {fi:List Nd} {v w:M.W}
end
section
variable {M:KM} {base:List Nd} {w:M.W} {k:Nat} {n:Nd}
end
section
variable {M:KM} {w:M.W} {f g fi:List Nd}
theorem Fm(h:Qs (Ya f g)=0):Qs f=0/\Qs g=0/\(M.sat (Qp (Ya f g)) w↔(M.sat (Qp f) w->M.sat (Qp g) w)):=by
 obtain⟨h1,h2,e⟩:=Qtn (n:=⟨7,0,0,0,0,0⟩) rfl rfl ⟨rfl,rfl,rfl,fun _=>rfl,fun _=>rfl⟩ rfl h;exact⟨h1,h2,by rw [show Qp (Ya f g)=_ from e];simp [KM.sat]⟩
theorem Bp(hc:Qs f=0):f[f.length - 1]?=some (Qt f):=Xi (by have:=(Zk hc).1;omega)
theorem opx(hc:Qs f=0)(ho:Qw (Qt f).op=true):∃k:Nat,(Qt f).x=(k:Int)/\k < f.length/\(Qt f).x.toNat=k:=by
 obtain⟨hx,_⟩:=Jq hc _ _ (Bp hc);obtain⟨h0,h1⟩:=hx ho;exact⟨(Qt f).x.toNat,by omega,by omega,rfl⟩
theorem opy(hc:Qs f=0)(ho:Qa (Qt f).op=true):∃k:Nat,(Qt f).y=(k:Int)/\k < f.length/\(Qt f).y.toNat=k:=by
 obtain⟨_,hy⟩:=Jq hc _ _ (Bp hc);obtain⟨h0,h1⟩:=hy ho;exact⟨(Qt f).y.toNat,by omega,by omega,rfl⟩
theorem Qvb(hc:Qs f=0) {k:Nat}(hk:k < f.length):Qs (Zh f k)=0/\Qp (Zh f k)=tr f k:=by
 refine⟨(Py hc hk).2.1,?_⟩;rw [Eh hc hk];exact Xq (Qvy (Jq hc) k hk)
theorem Qh5(hc:Qs f=0)(ho:Qw (Qt f).op=true):Qs (Zh f (Qt f).x)=0/\Qp (Zh f (Qt f).x)=tr f (Qt f).x.toNat:=by
 obtain⟨k,h1,h2,h3⟩:=opx hc ho;rw [h3,h1];exact Qvb hc h2
theorem Qaz(hc:Qs f=0)(ho:Qa (Qt f).op=true):Qs (Zh f (Qt f).y)=0/\Qp (Zh f (Qt f).y)=tr f (Qt f).y.toNat:=by
 obtain⟨k,h1,h2,h3⟩:=opy hc ho;rw [h3,h1];exact Qvb hc h2
theorem Qkd(hc:Qs f=0)(ho:(Qt f).op=9\/(Qt f).op=10):0<=(Qt f).i/\(Qt f).i < 4 :=
 Qgi (Fz hc _ (List.mem_of_getElem? (Bp hc))) (by rcases ho with h|h <;> rw [h] <;> rfl)
end
section
variable {M:KM} {ls:List Ln} {FS:List (List Nd)} {ST:List (List Int)} {i:Nat} {fi:List Nd} {v w:M.W} {n:Ln} {lg:Int}
end
end Go.Proofs.YtmidgcldljfkcaaGreatDoor
