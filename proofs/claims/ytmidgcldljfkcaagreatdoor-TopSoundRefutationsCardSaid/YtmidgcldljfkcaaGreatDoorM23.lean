/- What a law's call leaves as it was. -/
import Derived.Test.YtmidgcldljfkcaaGreatDoorM01
import Derived.Test.YtmidgcldljfkcaaGreatDoorRows
import Derived.Deep.Slices
import Derived.Deep.Fields
import Derived.ChangeSame
import Derived.ProofKit
import Derived.OpenShut
import Derived.Lib.SmallJoins
import Derived.SevenTiedAt
import Derived.Stop.Joined
import Derived.Below
import Derived.Test.YtmidgcldljfkcaaGreatDoorM11
import Derived.LaidMore
import Derived.Test.YtmidgcldljfkcaaGreatDoorM14
import Derived.Test.YtmidgcldljfkcaaGreatDoorM15
import Derived.Test.YtmidgcldljfkcaaGreatDoorCards
import Derived.Test.YtmidgcldljfkcaaGreatDoorTie
import Derived.MakeChecks
import Derived.Test.YtmidgcldljfkcaaGreatDoorM20
import Derived.Test.YtmidgcldljfkcaaGreatDoorM13
import Derived.Test.YtmidgcldljfkcaaGreatDoorM16
import Derived.Test.YtmidgcldljfkcaaGreatDoorM22
namespace Go.Proofs.YtmidgcldljfkcaaGreatDoor
set_option maxRecDepth 100000
set_option maxHeartbeats 128000000
open Go.ChangeShapes Go.WideShapes Go.ChangeAt Go.RowKit Go.Joins
section
variable {H:Type} {enc:TypeId×Value->H} {P:Program}
theorem post_of_below {f:Func} {s:ChangeSpec} {apart fresh handsOn again:Bool} {W W':World} {args:Array Value} {v:Value} {ds gs:List (DataW H)} {before pa pv:List MemPlace}
 (hW:DataW.Whole enc P f.params.toList s.vars apart W args.toList ds gs before)
 (hres:∀(b:Nat) (sp:Nat->Bool) (hd:Bool),DataW.TrodAll enc P W' b sp hd f.resultTypes.toList (v.resultList f.resultTypes.size) (s.fn H (ds++gs)).results [])
 (hargs:∀sp:Nat->Bool,(∀p∈before,sp p.block=true)->DataW.TrodAll enc P W' 0 sp true f.params.toList args.toList (s.fn H (ds++gs)).args pa)
 (hvars:∀sp:Nat->Bool,(∀p∈before,sp p.block=true)->DataW.TrodVars enc P W' sp s.vars (s.fn H (ds++gs)).vars pv)
 (hps:before=pa++pv)(hb:Go.RowKit.Below W.heap.size W W')
 (hok:∀(j:Nat) (t:TypeId) (r:Value),f.resultTypes[j]?=some t->(v.resultList f.resultTypes.size)[j]?=some r->Value.okWide P W' .any 0 t r):
 s.post enc P f apart fresh handsOn again W args v W':=by
 have hlt:∀p∈before,p.block < W.heap.size:=fun p hp=>hW.lt p hp
 have hold:∀p∈before,(fun b=>decide (b < W.heap.size)) p.block=true:=fun p hp=>by simpa using hlt p hp
 refine⟨ds,gs,before,[],pa,pv,hW,hres _ _ _,hargs _ hold,hvars _ hold,World.keptBut_mono (fun p hp=>⟨hp,?_⟩) (hb.frame (·∈before)),fun _=> ?_⟩
 ·rw [hps,List.mem_append]at hp;exact Or.inr hp
 obtain⟨_,_,_,_,_,hz,hn⟩:=hW;refine⟨hok,_,_,([]++pa)++pv,⟨[]++pa,pv,trodAll_append (hargs _ (fun _ _=>rfl)) (hres _ _ _),hvars _ (fun _ _=>rfl),rfl,?_,?_⟩,?_⟩
 ·intro b off hp;have hin:MemPlace.cell b off∈before:=by rw [hps];simpa using hp
  rw [hb.frozen (hlt _ hin)];exact hz b off hin
 ·intro ha;have:=hn ha;rw [hps]at this
  simpa using this
 intro p hp _;rw [hps]
 simpa using hp
end
open Go.Deep
theorem list_of {α:Type} {P:Nat->α->Prop} :∀len:Nat,(∀i,i < len->∃a,P i a)->∃l:List α,l.length=len/\∀k a,l[k]?=some a->P k a
 |0,_=>⟨[],rfl,fun k a h=>by simp at h⟩
 |len+1,h=>by
  obtain⟨l,hl,hp⟩:=list_of len (fun i hi=>h i (by omega));obtain⟨a,ha⟩:=h len (by omega);refine⟨l++ [a],by simp [hl],fun k b hk=> ?_⟩;by_cases e:k < l.length
  ·rw [List.getElem?_append_left e]at hk;exact hp k b hk
  rw [List.getElem?_append_right (by omega)]at hk;have e0:k - l.length=0:=by
   by_cases e2:k - l.length=0
   ·exact e2
   rw [List.getElem?_eq_none (by simp;omega)]at hk;cases hk
  rw [e0]at hk;simp at hk;subst hk;have:k=len:=by omega
  rw [this];exact ha
section
variable {H:Type} {enc:TypeId×Value->H} {P:Program} {w:World} {base:Nat} {spare:Nat->Bool} {held:Bool}
theorem open_slice_fields {t e:TypeId} {fs:Array Field} {fuel:Nat} {cs:List Value} {x:DataW H×List MemPlace}(ht:P.underlying t=some (.slice e))(he:P.underlying e=some (.struct fs))
 (hone:oneCellFields P fs=true)(hC:P.cellsOf e=fs.size)(h:DataW.trod enc P w base spare held fuel t cs=some x):
 (cs= [.slice none 0 0]/\x=(.nil,[]))\/
 ∃(a:Addr) (len cap:Nat),cs= [.slice (some a) len cap]/\len<=cap/\cap<=maxLen/\
  ∀i,i < len->∀(j:Nat) (f:Field),fs[j]?=some f->∃(v:Value) (y:DataW H×List MemPlace) (n:Nat),w.cell? (a.add (i*fs.size+j))=some v/\DataW.trod enc P w base spare held n f.type [v]=some y:=by
 rcases open_slice ht h with h0|⟨a,len,cap,m,n,D,Pl,hcs,hb,hl,hm,hmm,hx,hi⟩
 ·exact .inl h0
 refine .inr ⟨a,len,cap,hcs,hl,hm,fun i hil j f hj=> ?_⟩;have him:i < m:=by rw [hmm];split <;> omega
 obtain⟨cs',hc,ht'⟩:=hi i him;rw [hC]at hc;obtain⟨ys,n',hn',hy,hlen,hyl,hf⟩:=DataW.trod_struct he ht';obtain⟨_,hcl,hat⟩:=World.cells?_some hc;obtain⟨ho,hk⟩:=hone_of hone j f hj;have hjl:j < fs.size:=(Array.getElem?_eq_some_iff.1 hj).1;have hcell:=hat j hjl;have hv:cs'[j]?=some (cs'[j]'(by omega)):=List.getElem?_eq_getElem (by omega);have h1:=hf j f hj;rw [ho,hk]at h1;have hone':(cs'.drop j).take 1= [cs'[j]'(by omega)]:=by
  rw [List.drop_eq_getElem_cons (by omega)];rfl
 rw [hone']at h1;have hys:ys[j]?=some (ys[j]'(by omega)):=List.getElem?_eq_getElem (by omega);refine⟨_,_,_,?_,h1.trans hys⟩;rw [<-Go.Deep.add_add,hcell,hv]
end
section
variable {H:Type} {enc:TypeId×Value->H} {w:World} {spare:Nat->Bool} {held:Bool}
theorem cell_field {w:World} {a:Addr} {k j:Nat} {u:Value}(hj:0 < j)(hc:w.cell? (a.add (k+j))=some u):w.cell? ⟨(a.add k).block,(a.add k).off+j,none⟩=some u:=by
 have e:a.add (k+j)=⟨(a.add k).block,(a.add k).off+j,none⟩:=by
  rw [<-add_of_add];unfold Addr.add;rw [if_neg (by omega)]
 rw [<-e];exact hc
theorem i64_of_wf {z:Int}(h:(Lit.int .i64 z).wf=true):i64ok z:=by
 unfold Lit.wf at h;rw [Bool.and_eq_true,decide_eq_true_iff,decide_eq_true_iff]at h;have h1:IntKind.i64.min= -9223372036854775808:=by decide+kernel
 have h2:IntKind.i64.max=9223372036854775807:=by decide+kernel
 rw [h1,h2]at h;exact h
theorem u64_of_wf {z:Int}(h:(Lit.int .u64 z).wf=true):0<=z/\z < 18446744073709551616:=by
 unfold Lit.wf at h;rw [Bool.and_eq_true,decide_eq_true_iff,decide_eq_true_iff]at h;have h1:IntKind.u64.min=0:=by decide+kernel
 have h2:IntKind.u64.max=18446744073709551615:=by decide+kernel
 rw [h1,h2]at h;omega
theorem int_of_trod {fuel:Nat} {v:Value} {y:DataW H×List MemPlace}(h:DataW.trod enc Tryz.prog w 0 spare held fuel 3 [v]=some y):∃z,v=.int .i64 z/\i64ok z:=by
 obtain⟨n,hc,_,hw⟩:=DataW.trod_int Tryz.underlying3 h;injection hc with hc _;exact⟨n,hc,i64_of_wf hw⟩
theorem fml_of_trod {fuel:Nat} {v:Value} {y:DataW H×List MemPlace}(h:DataW.trod enc Tryz.prog w 0 spare held fuel 31 [v]=some y):∃l,Fml w v l:=by
 rcases open_slice_fields Tryz.underlying31 Tryz.underlying64 (by kernel_rfl) (by kernel_rfl) h with⟨hc,_⟩|⟨a,len,cap,hc,hl,hm,hf⟩
 ·injection hc with hc _;subst hc;exact⟨[],⟨none,0,rfl,Nat.le_refl _,by unfold maxLen;omega,fun h=>absurd rfl h⟩,by simp⟩
 injection hc with hc _;subst hc;obtain⟨l,hlen,hp⟩:=list_of (P:=fun i n=>NdAt w (a.add (i*6)) n/\n.ok/\a.block < w.heap.size) len (fun i hi=>by
  obtain⟨v0,_,_,c0,t0⟩:=hf i hi 0 _ rfl;obtain⟨v1,_,_,c1,t1⟩:=hf i hi 1 _ rfl;obtain⟨v2,_,_,c2,t2⟩:=hf i hi 2 _ rfl;obtain⟨v3,_,_,c3,t3⟩:=hf i hi 3 _ rfl;obtain⟨v4,_,_,c4,t4⟩:=hf i hi 4 _ rfl;obtain⟨v5,_,_,c5,t5⟩:=hf i hi 5 _ rfl;obtain⟨z0,rfl,o0⟩:=int_of_trod t0;obtain⟨z1,rfl,o1⟩:=int_of_trod t1;obtain⟨z2,rfl,o2⟩:=int_of_trod t2;obtain⟨z3,rfl,o3⟩:=int_of_trod t3;obtain⟨z4,rfl,o4⟩:=int_of_trod t4;obtain⟨z5,rfl,o5⟩:=int_of_trod t5;have hs:∀(j:Nat) u,0 < j->w.cell? (a.add (i*6+j))=some u->w.cell? ⟨(a.add (i*6)).block,(a.add (i*6)).off+j,none⟩=some u:=fun j u hj hc=>cell_field hj hc
  exact⟨⟨z0,z1,z2,z3,z4,z5⟩,⟨by simpa using c0,hs 1 _ (by omega) c1,hs 2 _ (by omega) c2,hs 3 _ (by omega) c3,hs 4 _ (by omega) c4,hs 5 _ (by omega) c5⟩,⟨o0,o1,o2,o3,o4,o5⟩,by have:=World.block_lt_of_cell? w _ c0;rwa [block_of_add]at this⟩)
 refine⟨l,⟨some a,cap,by rw [hlen],by rw [hlen];exact hl,hm,fun hne=>⟨a,rfl,?_,fun k n hk=>(hp k n hk).1⟩⟩,fun n hn=> ?_⟩
 ·obtain⟨n,hn⟩:∃n,l[0]?=some n:=by
   cases l with
   |nil=>exact absurd rfl hne
   |cons x t=>exact⟨x,rfl⟩
  exact(hp 0 n hn).2.2
 obtain⟨k,hk⟩:=List.getElem?_of_mem hn;exact(hp k n hk).2.1
theorem ints_of_trod {fuel:Nat} {v:Value} {y:DataW H×List MemPlace}(h:DataW.trod enc Tryz.prog w 0 spare held fuel 60 [v]=some y):∃l,Ints w v l:=by
 rcases open_ints Tryz.underlying60 Tryz.underlying3 (by kernel_rfl) h with⟨hc,_⟩|⟨a,len,cap,zs,hc,_,hl,hm,hz,_,hcell,_⟩
 ·injection hc with hc _;subst hc;exact⟨[],Ints.none_ w⟩
 injection hc with hc _;subst hc;have hzl:len<=zs.length:=by rw [hz];split <;> omega
 have el:(zs.take len).length=len:=by simp;omega
 have hcl:∀k z,(zs.take len)[k]?=some z->w.cell? (a.add k)=some (.int .i64 z):=fun k z hk=>by
  rw [List.getElem?_take]at hk
  split at hk
  ·have hk':=(List.getElem?_eq_some_iff.1 hk).1;rw [hcell k hk',Qk,hk];rfl
  cases hk
 refine⟨zs.take len,some a,cap,by rw [el],by rw [el];exact hl,hm,fun hne=>⟨a,rfl,?_,hcl⟩⟩;obtain⟨z,hz0⟩:∃z,(zs.take len)[0]?=some z:=by
  cases hq:zs.take len with
  |nil=>exact absurd hq hne
  |cons x t=>exact⟨x,rfl⟩
 have:=World.block_lt_of_cell? w _ (hcl 0 z hz0)
 rwa [block_of_add]at this
theorem lns_of_trod {fuel:Nat} {v:Value} {y:DataW H×List MemPlace}(h:DataW.trod enc Tryz.prog w 0 spare held fuel 22 [v]=some y):∃l,Lns w v l:=by
 rcases open_slice_fields Tryz.underlying22 Tryz.underlying62 (by kernel_rfl) (by kernel_rfl) h with⟨hc,_⟩|⟨a,len,cap,hc,hl,hm,hf⟩
 ·injection hc with hc _;subst hc;exact⟨[],none,0,rfl,Nat.le_refl _,by unfold maxLen;omega,fun h=>absurd rfl h⟩
 injection hc with hc _;subst hc;obtain⟨l,hlen,hp⟩:=list_of (P:=fun i n=>LnAt w (a.add (i*5)) n/\a.block < w.heap.size) len (fun i hi=>by
  obtain⟨v0,_,_,c0,t0⟩:=hf i hi 0 _ rfl;obtain⟨v1,_,_,c1,t1⟩:=hf i hi 1 _ rfl;obtain⟨v2,_,_,c2,t2⟩:=hf i hi 2 _ rfl;obtain⟨v3,_,_,c3,t3⟩:=hf i hi 3 _ rfl;obtain⟨v4,_,_,c4,t4⟩:=hf i hi 4 _ rfl;obtain⟨z0,rfl,_⟩:=int_of_trod t0;obtain⟨z1,rfl,_⟩:=int_of_trod t1;obtain⟨f,hff⟩:=fml_of_trod t2;obtain⟨z3,rfl,_⟩:=int_of_trod t3;obtain⟨r,hr⟩:=ints_of_trod t4;have hs:∀(j:Nat) u,0 < j->w.cell? (a.add (i*5+j))=some u->w.cell? ⟨(a.add (i*5)).block,(a.add (i*5)).off+j,none⟩=some u:=fun j u hj hc=>cell_field hj hc
  exact⟨⟨z0,z1,f,z3,r⟩,⟨v2,v4,by simpa using c0,hs 1 _ (by omega) c1,hs 2 _ (by omega) c2,hs 3 _ (by omega) c3,hs 4 _ (by omega) c4,hff,hr⟩,by have:=World.block_lt_of_cell? w _ c0;rwa [block_of_add]at this⟩)
 refine⟨l,some a,cap,by rw [hlen],by rw [hlen];exact hl,hm,fun hne=>⟨a,rfl,?_,fun k n hk=>(hp k n hk).1⟩⟩;obtain⟨n,hn⟩:∃n,l[0]?=some n:=by
  cases l with
  |nil=>exact absurd rfl hne
  |cons x t=>exact⟨x,rfl⟩
 exact(hp 0 n hn).2
end
theorem c3:Tryz.prog.cellsOf 3=1:=by kernel_rfl
theorem c73:Tryz.prog.cellsOf 119=2:=by kernel_rfl
theorem gTab:Tryz.prog.globalNamed "witting/natural.table" =some 1:=by kernel_rfl
theorem tTab:(Tryz.prog.globals[1]?).map (·.type)=some 120:=by kernel_rfl
theorem row_of {W:World} {fuel:Nat} {cs:List Value} {z:Int} {b:UInt8} {r:List UInt8} {q:List MemPlace} {f0:FuncId}(h:DataW.trod (funcToken Tryz.prog) Tryz.prog W 0 (fun _=>true) true fuel 119 cs=some (.agg [.lit (.int .i64 z),.held (b :: r)],q))
 (hone:((List.range Tryz.prog.funcs.size).filter fun f=>(Tryz.prog.funcs[f]?).any (·.name.toUTF8.data.toList==b :: r))= [f0]):cs= [.int .i64 z,.func (.func f0) #[] #[]]:=by
 obtain⟨ys,n,rfl,hx,hl,hyl,hf⟩:=DataW.trod_struct Tryz.underlying119 h;rw [c73]at hl
 match cs,hl with
 |[c0,c1],_ =>
  match ys,hyl with
  |[y0,y1],_ =>
   have h0:=hf 0 _ rfl;have h1:=hf 1 _ rfl;simp only [Prod.mk.injEq,DataW.agg.injEq,List.map_cons,List.map_nil,List.cons.injEq,and_true]at hx;obtain⟨⟨e0,e1⟩,_⟩:=hx;have h0':DataW.trod (funcToken Tryz.prog) Tryz.prog W 0 (fun _=>true) true n 3 [c0]=some y0:=h0;have h1':DataW.trod (funcToken Tryz.prog) Tryz.prog W 0 (fun _=>true) true n 117 [c1]=some y1:=h1;obtain⟨z',hc,hy,_⟩:=DataW.trod_int Tryz.underlying3 h0';injection hc with hc _;rw [hy]at e0;simp only [DataW.lit.injEq,Lit.int.injEq,true_and]at e0;have ey:y1=(.held (b :: r),y1.2):=by rw [e1]
   rw [ey]at h1';have:=func_of_trod (f0:=f0) Tryz.underlying117 hone h1';rw [hc,e0,this]
theorem pair_get {l:List Value} {a:Nat} {x y:Value}(h:(l.drop a).take 2= [x,y]):l[a]?=some x/\l[a+1]?=some y:=by
 have h0:=congrArg (fun q=>q[0]?) h;have h1:=congrArg (fun q=>q[1]?) h;simp only [List.getElem?_take,List.getElem?_drop]at h0 h1;exact⟨by simpa using h0,by simpa using h1⟩
theorem tab_of_laid {W:World} {L:List (String×DataW Unit)}(h:laidMetH Tryz.prog L W)(hx:("witting/natural.table",Rows.laid_witting_natural_table)∈L):Tab W:=by
 obtain⟨g,t,cs,fuel,p,hg,ht,hv,hd⟩:=h.funcs hx;obtain rfl:=Option.some.inj (gTab.symm.trans hg);obtain rfl:=Option.some.inj (tTab.symm.trans ht);have hd':DataW.trod (funcToken Tryz.prog) Tryz.prog W 0 (fun _=>true) true fuel 120 cs.toList=some (.agg [.agg [.lit (.int .i64 3),.held [40,42,119,105,116,116,105,110,103,47,110,97,116,117,114,97,108,46,99,104,101,99,107,101,114,41,46,99,111,112,105,101,100]],.agg [.lit (.int .i64 4),.held [40,42,119,105,116,116,105,110,103,47,110,97,116,117,114,97,108,46,99,104,101,99,107,101,114,41,46,97,110,100,73,110]],.agg [.lit (.int .i64 5),.held [40,42,119,105,116,116,105,110,103,47,110,97,116,117,114,97,108,46,99,104,101,99,107,101,114,41,46,97,110,100,79,117,116]],.agg [.lit (.int .i64 6),.held [40,42,119,105,116,116,105,110,103,47,110,97,116,117,114,97,108,46,99,104,101,99,107,101,114,41,46,111,114,73,110]],.agg [.lit (.int .i64 7),.held [40,42,119,105,116,116,105,110,103,47,110,97,116,117,114,97,108,46,99,104,101,99,107,101,114,41,46,111,114,79,117,116]],.agg [.lit (.int .i64 8),.held [40,42,119,105,116,116,105,110,103,47,110,97,116,117,114,97,108,46,99,104,101,99,107,101,114,41,46,105,109,112,73,110]],.agg [.lit (.int .i64 9),.held [40,42,119,105,116,116,105,110,103,47,110,97,116,117,114,97,108,46,99,104,101,99,107,101,114,41,46,105,109,112,79,117,116]],.agg [.lit (.int .i64 10),.held [40,42,119,105,116,116,105,110,103,47,110,97,116,117,114,97,108,46,99,104,101,99,107,101,114,41,46,110,111,116,73,110]],.agg [.lit (.int .i64 11),.held [40,42,119,105,116,116,105,110,103,47,110,97,116,117,114,97,108,46,99,104,101,99,107,101,114,41,46,110,111,116,79,117,116]],.agg [.lit (.int .i64 12),.held [40,42,119,105,116,116,105,110,103,47,110,97,116,117,114,97,108,46,99,104,101,99,107,101,114,41,46,97,98,115,117,114,100]],.agg [.lit (.int .i64 13),.held [40,42,119,105,116,116,105,110,103,47,110,97,116,117,114,97,108,46,99,104,101,99,107,101,114,41,46,102,114,111,109,70,97,108,115,101]],.agg [.lit (.int .i64 14),.held [40,42,119,105,116,116,105,110,103,47,110,97,116,117,114,97,108,46,99,104,101,99,107,101,114,41,46,105,115,84,114,117,101]],.agg [.lit (.int .i64 15),.held [40,42,119,105,116,116,105,110,103,47,110,97,116,117,114,97,108,46,99,104,101,99,107,101,114,41,46,105,102,102]],.agg [.lit (.int .i64 16),.held [40,42,119,105,116,116,105,110,103,47,110,97,116,117,114,97,108,46,99,104,101,99,107,101,114,41,46,107,110,111,119,73,110]],.agg [.lit (.int .i64 17),.held [40,42,119,105,116,116,105,110,103,47,110,97,116,117,114,97,108,46,99,104,101,99,107,101,114,41,46,105,109,112,111,114,116,101,100]],.agg [.lit (.int .i64 18),.held [40,42,119,105,116,116,105,110,103,47,110,97,116,117,114,97,108,46,99,104,101,99,107,101,114,41,46,107,110,111,119,84]],.agg [.lit (.int .i64 19),.held [40,42,119,105,116,116,105,110,103,47,110,97,116,117,114,97,108,46,99,104,101,99,107,101,114,41,46,100,117,97,108]],.agg [.lit (.int .i64 20),.held [40,42,119,105,116,116,105,110,103,47,110,97,116,117,114,97,108,46,99,104,101,99,107,101,114,41,46,115,101,114,105,97,108]]],p):=hd
 obtain⟨xs,m,rfl,hx,hlen,hxl,hi⟩:=DataW.trod_array Tryz.underlying120 hd';simp only [Prod.mk.injEq,DataW.agg.injEq]at hx;obtain⟨hx1,_⟩:=hx;have key:∀(k:Nat) (d:DataW (List UInt8)),k < 18->(xs.map (·.1))[k]?=some d->∃q,DataW.trod (funcToken Tryz.prog) Tryz.prog W 0 (fun _=>true) true m 119 ((cs.toList.drop (k*2)).take 2)=some (d,q):=fun k d hk hd=>by
  rw [List.getElem?_map]at hd;obtain⟨x,hx,rfl⟩:=Option.map_eq_some_iff.1 hd;have:=hi k hk;rw [c73]at this;exact⟨x.2,by rw [this,hx]⟩
 rw [<-hx1]at key;have hcell:=fun j=>World.var?_cell hg hv j
 obtain⟨q0,h0⟩:=key 0 _ (by decide) rfl;obtain⟨a0,b0⟩:=pair_get (row_of (f0:=175) h0 (by kernel_rfl));obtain⟨q1,h1⟩:=key 1 _ (by decide) rfl;obtain⟨a1,b1⟩:=pair_get (row_of (f0:=176) h1 (by kernel_rfl));obtain⟨q2,h2⟩:=key 2 _ (by decide) rfl;obtain⟨a2,b2⟩:=pair_get (row_of (f0:=177) h2 (by kernel_rfl));obtain⟨q3,h3⟩:=key 3 _ (by decide) rfl;obtain⟨a3,b3⟩:=pair_get (row_of (f0:=178) h3 (by kernel_rfl));obtain⟨q4,h4⟩:=key 4 _ (by decide) rfl;obtain⟨a4,b4⟩:=pair_get (row_of (f0:=179) h4 (by kernel_rfl));obtain⟨q5,h5⟩:=key 5 _ (by decide) rfl;obtain⟨a5,b5⟩:=pair_get (row_of (f0:=180) h5 (by kernel_rfl))
 obtain⟨q6,h6⟩:=key 6 _ (by decide) rfl;obtain⟨a6,b6⟩:=pair_get (row_of (f0:=181) h6 (by kernel_rfl));obtain⟨q7,h7⟩:=key 7 _ (by decide) rfl;obtain⟨a7,b7⟩:=pair_get (row_of (f0:=182) h7 (by kernel_rfl));obtain⟨q8,h8⟩:=key 8 _ (by decide) rfl;obtain⟨a8,b8⟩:=pair_get (row_of (f0:=183) h8 (by kernel_rfl));obtain⟨q9,h9⟩:=key 9 _ (by decide) rfl;obtain⟨a9,b9⟩:=pair_get (row_of (f0:=184) h9 (by kernel_rfl));obtain⟨q10,h10⟩:=key 10 _ (by decide) rfl;obtain⟨a10,b10⟩:=pair_get (row_of (f0:=185) h10 (by kernel_rfl));obtain⟨q11,h11⟩:=key 11 _ (by decide) rfl;obtain⟨a11,b11⟩:=pair_get (row_of (f0:=186) h11 (by kernel_rfl))
 obtain⟨q12,h12⟩:=key 12 _ (by decide) rfl;obtain⟨a12,b12⟩:=pair_get (row_of (f0:=187) h12 (by kernel_rfl));obtain⟨q13,h13⟩:=key 13 _ (by decide) rfl;obtain⟨a13,b13⟩:=pair_get (row_of (f0:=188) h13 (by kernel_rfl));obtain⟨q14,h14⟩:=key 14 _ (by decide) rfl;obtain⟨a14,b14⟩:=pair_get (row_of (f0:=189) h14 (by kernel_rfl));obtain⟨q15,h15⟩:=key 15 _ (by decide) rfl;obtain⟨a15,b15⟩:=pair_get (row_of (f0:=190) h15 (by kernel_rfl));obtain⟨q16,h16⟩:=key 16 _ (by decide) rfl;obtain⟨a16,b16⟩:=pair_get (row_of (f0:=191) h16 (by kernel_rfl));obtain⟨q17,h17⟩:=key 17 _ (by decide) rfl;obtain⟨a17,b17⟩:=pair_get (row_of (f0:=192) h17 (by kernel_rfl))
 refine⟨fun j v hj=> ?_,?_⟩
 ·rw [Nat.zero_add,hcell j,<-Array.getElem?_toList]
  match j,hj with
  |0,hj=>rw [<-hj];exact a0
  |1,hj=>rw [<-hj];exact b0
  |2,hj=>rw [<-hj];exact a1
  |3,hj=>rw [<-hj];exact b1
  |4,hj=>rw [<-hj];exact a2
  |5,hj=>rw [<-hj];exact b2
  |6,hj=>rw [<-hj];exact a3
  |7,hj=>rw [<-hj];exact b3
  |8,hj=>rw [<-hj];exact a4
  |9,hj=>rw [<-hj];exact b4
  |10,hj=>rw [<-hj];exact a5
  |11,hj=>rw [<-hj];exact b5
  |12,hj=>rw [<-hj];exact a6
  |13,hj=>rw [<-hj];exact b6
  |14,hj=>rw [<-hj];exact a7
  |15,hj=>rw [<-hj];exact b7
  |16,hj=>rw [<-hj];exact a8
  |17,hj=>rw [<-hj];exact b8
  |18,hj=>rw [<-hj];exact a9
  |19,hj=>rw [<-hj];exact b9
  |20,hj=>rw [<-hj];exact a10
  |21,hj=>rw [<-hj];exact b10
  |22,hj=>rw [<-hj];exact a11
  |23,hj=>rw [<-hj];exact b11
  |24,hj=>rw [<-hj];exact a12
  |25,hj=>rw [<-hj];exact b12
  |26,hj=>rw [<-hj];exact a13
  |27,hj=>rw [<-hj];exact b13
  |28,hj=>rw [<-hj];exact a14
  |29,hj=>rw [<-hj];exact b14
  |30,hj=>rw [<-hj];exact a15
  |31,hj=>rw [<-hj];exact b15
  |32,hj=>rw [<-hj];exact a16
  |33,hj=>rw [<-hj];exact b16
  |34,hj=>rw [<-hj];exact a17
  |35,hj=>rw [<-hj];exact b17
  |j+36,hj=>simp [tabCells]at hj
 have h0:=hcell 0;rw [<-Array.getElem?_toList,a0]at h0;exact World.block_lt_of_cell? W _ h0
section
variable {H:Type} {enc:TypeId×Value->H} {w:World} {spare:Nat->Bool} {held:Bool}
theorem u64w_of_trod {fuel:Nat} {v:Value} {y:DataW H×List MemPlace}(h:DataW.trod enc Tryz.prog w 0 spare held fuel 25 [v]=some y):∃l,U64s w v l/\∀s∈l,word s:=by
 rcases open_ints Tryz.underlying25 Tryz.underlying43 (by kernel_rfl) h with⟨hc,_⟩|⟨a,len,cap,zs,hc,_,hl,hm,hz,_,hcell,hwf⟩
 ·injection hc with hc _;subst hc;exact⟨[],u64s_nil w,fun s hs=>by cases hs⟩
 injection hc with hc _;subst hc;have hzl:len<=zs.length:=by rw [hz];split <;> omega
 have el:((zs.take len).map Int.toNat).length=len:=by simp;omega
 have hcl:∀(k z:Nat),((zs.take len).map Int.toNat)[k]?=some z->w.cell? (a.add k)=some (.int .u64 (z:Int)):=fun k z hk=>by
  rw [List.getElem?_map,List.getElem?_take]at hk
  split at hk
  ·cases hq:zs[k]? with
   |none=>rw [hq]at hk;cases hk
   |some q =>
    rw [hq]at hk;obtain rfl:q.toNat=z:=by simpa using hk
    have hk':=(List.getElem?_eq_some_iff.1 hq).1;have hq0:=(u64_of_wf (hwf q (List.mem_of_getElem? hq))).1;rw [hcell k hk',Qk,hq,Int.toNat_of_nonneg hq0];rfl
  cases hk
 refine⟨_,⟨some a,cap,by rw [el],by rw [el];exact hl,hm,fun hne=>⟨a,rfl,?_,hcl⟩⟩,fun s hs=> ?_⟩
 ·obtain⟨z,hz0⟩:∃z,((zs.take len).map Int.toNat)[0]?=some z:=by
   cases hq:(zs.take len).map Int.toNat with
   |nil=>exact absurd hq hne
   |cons x t=>exact⟨x,rfl⟩
  have:=World.block_lt_of_cell? w _ (hcl 0 z hz0)
  rwa [block_of_add]at this
 obtain⟨q,hq,rfl⟩:=List.mem_map.1 hs;have:=u64_of_wf (hwf q (List.mem_of_mem_take hq));show q.toNat < 18446744073709551616;omega
theorem u64ss_of_trod {fuel:Nat} {v:Value} {y:DataW H×List MemPlace}(h:DataW.trod enc Tryz.prog w 0 spare held fuel 26 [v]=some y):∃l,U64ss w v l/\∀r∈l,∀s∈r,word s:=by
 rcases open_slice Tryz.underlying26 h with⟨hc,_⟩|⟨a,len,cap,m,n,D,Pl,hc,_,hl,hm,hmm,_,hi⟩
 ·injection hc with hc _;subst hc;exact⟨[],⟨none,0,rfl,Nat.le_refl _,by unfold maxLen;omega,fun h=>absurd rfl h⟩,fun r hr=>by cases hr⟩
 injection hc with hc _;subst hc;have hC:Tryz.prog.cellsOf 25=1:=by kernel_rfl
 obtain⟨l,hlen,hp⟩:=list_of (P:=fun i (r:List Nat)=>∃u,w.cell? (a.add i)=some u/\U64s w u r/\(∀s∈r,word s)/\a.block < w.heap.size) len (fun i hil=>by
  obtain⟨cs',hcs,ht'⟩:=hi i (by rw [hmm];split <;> omega);rw [hC]at hcs;obtain⟨_,hcl,hat⟩:=World.cells?_some hcs;obtain⟨u,rfl⟩:∃u,cs'= [u]:=by
   cases cs' with
   |nil=>simp at hcl
   |cons x t=>cases t with
    |nil=>exact⟨x,rfl⟩
    |cons z t=>simp at hcl
  have h0:=hat 0 (by omega);obtain⟨r,hr,hw⟩:=u64w_of_trod ht';have hc0:w.cell? (a.add i)=some u:=by
   have:(a.add (i*1)).add 0=a.add i:=by rw [Nat.mul_one];unfold Addr.add;rfl
   rw [this]at h0
   simpa using h0
  refine⟨r,u,hc0,hr,hw,?_⟩;have:=World.block_lt_of_cell? w _ hc0
  rwa [block_of_add]at this)
 refine⟨l,⟨some a,cap,by rw [hlen],by rw [hlen];exact hl,hm,fun hne=>⟨a,rfl,?_,fun k s hk=> ?_⟩⟩,fun r hr=> ?_⟩
 ·obtain⟨z,hz0⟩:∃z,l[0]?=some z:=by
   cases hq:l with
   |nil=>exact absurd hq hne
   |cons x t=>exact⟨x,rfl⟩
  obtain⟨_,_,_,_,hb⟩:=hp 0 z hz0;exact hb
 ·obtain⟨u,h1,h2,_⟩:=hp k s hk;exact⟨u,h1,h2⟩
 obtain⟨k,hk⟩:=List.getElem?_of_mem hr;obtain⟨_,_,_,hw,_⟩:=hp k r hk;exact hw
theorem md_of_arg {r:Reach} {b0:Nat} {v:Value} {d:DataW H} {p:List MemPlace}(hv:Value.okWide Tryz.prog w r b0 28 v)(h:DataW.Trod enc Tryz.prog w 0 spare held 28 v d p):∃md,MdV w v md/\md.ok:=by
 obtain⟨v0,v1,v2,y0,y1,y2,n,rfl,_,_,t0,t1,t2⟩:=open_agg3 Tryz.underlying28 (by kernel_rfl) (by kernel_rfl) hv h;obtain⟨z,rfl,hz⟩:=int_of_trod t0;obtain⟨vs,hvs,hw1⟩:=u64w_of_trod t1;obtain⟨rs,hrs,hw2⟩:=u64ss_of_trod t2;exact⟨⟨z,vs,rs⟩,⟨_,_,rfl,hvs,hrs⟩,⟨hz,hw1,hw2⟩⟩
end
theorem gTabZ:Tryz.prog.globalNamed "math/bits.deBruijn64tab" =some 2:=by kernel_rfl
theorem tTabZ:(Tryz.prog.globals[2]?).map (·.type)=some 161:=by kernel_rfl
theorem c5Z:Tryz.prog.cellsOf 5=1:=by kernel_rfl
theorem tabz_of_met {W:World}(h:laidMet Tryz.prog [("math/bits.deBruijn64tab",Rows.laid_math_bits_deBruijn64tab)] W):TabZ W:=by
 obtain⟨_,⟨g,t,cs,fuel,p,_,hg,ht,hv,hd,_,_⟩,_,_⟩:=h;obtain rfl:=Option.some.inj (gTabZ.symm.trans hg);obtain rfl:=Option.some.inj (tTabZ.symm.trans ht);have hd':DataW.trod (fun _=>()) Tryz.prog W 0 (fun _=>true) false fuel 161 cs.toList=some (.agg (dbTab.map fun(z:Nat)=> .lit (.int .u8 (z:Int))),p):=hd;obtain⟨xs,m,rfl,hx,hlen,hxl,hi⟩:=DataW.trod_array Tryz.underlying161 hd';simp only [Prod.mk.injEq,DataW.agg.injEq]at hx;obtain⟨hx1,_⟩:=hx;have hcell:=fun j=>World.var?_cell hg hv j
 have key:∀k,k < 64->W.cell? ⟨2,k,none⟩=some (.int .u8 ((dbTab.getD k 0:Nat):Int)):=fun k hk=>by
  have h1:=hi k hk;rw [c5Z,Nat.mul_one]at h1;have hxk:(xs.map (·.1))[k]?=some (.lit (.int .u8 ((dbTab.getD k 0:Nat):Int))):=by
   rw [<-hx1,List.getElem?_map,Qk];have:k < dbTab.length:=hk;rw [Qv this];rfl
  rw [List.getElem?_map]at hxk;obtain⟨x,hx2,hx3⟩:=Option.map_eq_some_iff.1 hxk;rw [hx2]at h1;obtain⟨z,hc,hy,_⟩:=DataW.trod_int Tryz.underlying5 h1;rw [hy]at hx3;simp only [DataW.lit.injEq,Lit.int.injEq,true_and]at hx3;have h0:=congrArg (fun q=>q[0]?) hc;simp only [List.getElem?_take,List.getElem?_drop]at h0;rw [hcell k,<-Array.getElem?_toList,<-hx3]
  simpa using h0
 exact⟨key,World.block_lt_of_cell? W _ (key 0 (by decide))⟩
theorem tabz_of_laid {W:World}(h:laidMetH Tryz.prog [("math/bits.deBruijn64tab",Rows.laid_math_bits_deBruijn64tab)] W):TabZ W:=by
 rw [Go.MakeChecks.laidMetH_plain _ _ _ rfl]at h;exact tabz_of_met h
section
variable (M:KM) (ls:List Ln) (fs:List (List Nd))
def stepC(o:Int)(v w:M.W):Prop:=(isBox ls o=true/\M.R (lineAt ls o).agent v w)\/(isBox ls o=false/\v=w/\M.sat (treeOf (fs.getD o.toNat [])) w)
def ctxC:List Int->M.W->M.W->Prop
 |[],v,w=>v=w
 |o :: s,v,w=>∃u,stepC M ls fs o v u/\ctxC s u w
end
section
variable {M:KM} {ls:List Ln} {fs:List (List Nd)}
theorem ctx_append:∀(s t:List Int) (v w:M.W),ctxC M ls fs (s++t) v w↔∃u,ctxC M ls fs s v u/\ctxC M ls fs t u w
 |[],t,v,w=>⟨fun h=>⟨v,rfl,h⟩,fun⟨u,h,k⟩=>by have e:v=u:=h;subst e;exact k⟩
 |o :: s,t,v,w=>by
  constructor
  ·rintro⟨u,h,k⟩;obtain⟨x,k1,k2⟩:=(ctx_append s t u w).1 k;exact⟨x,⟨u,h,k1⟩,k2⟩
  rintro⟨x,⟨u,h,k1⟩,k2⟩;exact⟨u,h,(ctx_append s t u w).2 ⟨x,k1,k2⟩⟩
theorem ctx_still:∀(s:List Int) (v w:M.W),boxesL ls s= []->ctxC M ls fs s v w->v=w
 |[],_,_,_,h=>h
 |o :: s,v,w,hb,⟨u,h,k⟩=>by
  unfold boxesL at hb;cases hx:isBox ls o
  ·rw [List.filter_cons_of_neg (by simp [hx])]at hb;have e:=ctx_still s u w hb k;rcases h with⟨h1,_⟩|⟨_,h2,_⟩
   ·rw [hx]at h1;cases h1
   rw [h2,e]
  rw [List.filter_cons_of_pos (by simp [hx])]at hb;cases hb
theorem ctx_one:∀(s:List Int) (o:Int) (v w:M.W),boxesL ls s= [o]->ctxC M ls fs s v w->M.R (lineAt ls o).agent v w
 |[],_,_,_,hb,_=>by cases hb
 |q :: s,o,v,w,hb,⟨u,h,k⟩=>by
  unfold boxesL at hb;cases hx:isBox ls q
  ·rw [List.filter_cons_of_neg (by simp [hx])]at hb;have e:=ctx_one s o u w hb k;rcases h with⟨h1,_⟩|⟨_,h2,_⟩
   ·rw [hx]at h1;cases h1
   rw [h2];exact e
  rw [List.filter_cons_of_pos (by simp [hx])]at hb;injection hb with h1 h2;have e:=ctx_still s u w h2 k;rcases h with⟨_,h3⟩|⟨h3,_⟩
  ·rw [<-h1,<-e];exact h3
  rw [hx]at h3;cases h3
theorem ctx_congr {gs:List (List Nd)} :∀(s:List Int) (v w:M.W),(∀o∈s,fs.getD o.toNat []=gs.getD o.toNat [])->(ctxC M ls fs s v w↔ctxC M ls gs s v w)
 |[],_,_,_=>Iff.rfl
 |o :: s,v,w,h=>by
  have h1:=h o (List.mem_cons_self ..);have ih:=fun u=>ctx_congr s u w (fun q hq=>h q (List.mem_cons_of_mem _ hq))
  unfold ctxC stepC;rw [h1];exact exists_congr fun u=>and_congr Iff.rfl (ih u)
end
structure ShpS (ls:List Ln) (st:List (List Int)) (i:Nat):Prop where
 pos:∀k,k < i->∀p,p < (st.getD k []).length->∃o:Nat,(st.getD k [])[p]?=some (o:Int)/\o<=k/\st.getD o []=(st.getD k []).take (p+1)
 opn:∀k:Nat,k < i->opensL (lineAt ls k)=true->∃X,st.getD k []=X++ [(k:Int)]
theorem getD_appL {α:Type} {l t:List α} {k:Nat} {d:α}(h:k < l.length):(l++t).getD k d=l.getD k d:=by
 rw [Qk,Qk,List.getElem?_append_left h]
theorem getD_appR {α:Type} {l:List α} {x d:α} :(l++ [x]).getD l.length d=x:=by
 rw [Qk,List.getElem?_append_right (Nat.le_refl _),Nat.sub_self];rfl
theorem lastSt_getD {st:List (List Int)}(_h:0 < st.length):lastSt st=st.getD (st.length - 1) []:=by
 unfold lastSt;rw [Qk,List.getLastD_eq_getLast?,List.getLast?_eq_getElem?]
theorem shp_next {ls:List Ln} {st:List (List Int)} {i:Nat}(hl:st.length=i)(h:ShpS ls st i) {n:Ln}(hn:lineAt ls i=n) {s:List Int}(hp:pushL st n=some s):ShpS ls (st++ [s]) (i+1):=by
 have hlast:∀p,p < (lastSt st).length->∃o:Nat,(lastSt st)[p]?=some (o:Int)/\o < i/\st.getD o []=(lastSt st).take (p+1):=by
  intro p hpl;by_cases h0:0 < st.length
  ·rw [lastSt_getD h0]at hpl⊢;obtain⟨o,h1,h2,h3⟩:=h.pos (st.length - 1) (by omega) p hpl;exact⟨o,h1,by omega,h3⟩
  have:st= []:=List.length_eq_zero_iff.1 (by omega);subst this;simp [lastSt]at hpl
 have hnew:(st++ [s]).getD i []=s:=by rw [<-hl];exact getD_appR
 have hold:∀k,k < i->(st++ [s]).getD k []=st.getD k []:=fun k hk=>getD_appL (by omega)
 refine⟨fun k hk p hpk=> ?_,fun k hk ho=> ?_⟩
 ·by_cases e:k < i
  ·rw [hold k e]at hpk⊢;obtain⟨o,h1,h2,h3⟩:=h.pos k e p hpk;exact⟨o,h1,h2,by rw [hold o (by omega)];exact h3⟩
  obtain rfl:k=i:=by omega
  rw [hnew]at hpk⊢;rcases pushL_cases hp with⟨_,d,rfl⟩|⟨_,d,rfl⟩
  ·by_cases hpd:p < ((lastSt st).take d).length
   ·obtain⟨o,h1,h2,h3⟩:=hlast p (by simp at hpd;omega);refine⟨o,?_,by omega,?_⟩
    ·rw [List.getElem?_append_left hpd,List.getElem?_take,if_pos (by simp at hpd;omega)];exact h1
    rw [hold o h2,h3,List.take_append_of_le_length (by omega),List.take_take,Nat.min_eq_left (by simp at hpd;omega)]
   have hpe:p=((lastSt st).take d).length:=by simp at hpk hpd⊢;omega
   refine⟨k,?_,Nat.le_refl _,?_⟩
   ·rw [hpe,List.getElem?_append_right (Nat.le_refl _),Nat.sub_self,hl];rfl
   rw [hnew];exact(List.take_of_length_le (by rw [List.length_append];exact Nat.le_of_eq (by rw [<-hpe];rfl))).symm
  obtain⟨o,h1,h2,h3⟩:=hlast p (by simp at hpk;omega);refine⟨o,?_,by omega,?_⟩
  ·rw [List.getElem?_take,if_pos (by simp at hpk;omega)];exact h1
  rw [hold o h2,h3,List.take_take,Nat.min_eq_left (by simp at hpk;omega)]
 by_cases e:k < i
 ·rw [hold k e];exact h.opn k e ho
 obtain rfl:k=i:=by omega
 rw [hnew];rcases pushL_cases hp with⟨_,d,rfl⟩|⟨ho',_⟩
 ·exact⟨_,by rw [hl]⟩
 rw [hn]at ho;rw [ho]at ho';cases ho'
structure NCtx (M:KM) (ls:List Ln) (FS:List (List Nd)) (ST:List (List Int)) (i:Nat) (fi:List Nd):Prop where
 shp:ShpS ls ST (i+1)
 fl:FS.length=i+1
 ck:∀f∈FS,check f=0
 at_:FS.getD i []=fi
 snd:∀k,k < i->∀v w,ctxC M ls FS (ST.getD k []) v w->M.sat (treeOf (FS.getD k [])) w
 ag:∀k:Nat,k < i+1->0<=(lineAt ls k).agent/\(lineAt ls k).agent < 4
theorem take_split {s t:List Int}(h:s.take t.length=t):s=t++s.drop t.length:=by
 conv=>lhs;rw [<-List.take_append_drop t.length s,h]
theorem eqN_eq {a b:List Nd}(h:eqN a b=true):a=b:=by
 unfold eqN at h;rw [Bool.and_eq_true]at h;exact of_decide_eq_true h.2
theorem getD_memF {FS:List (List Nd)} {k:Nat}(h:k < FS.length):FS.getD k []∈FS:=by
 rw [Qk,Qv h];exact List.getElem_mem _
section
variable {M:KM} {ls:List Ln} {FS:List (List Nd)} {ST:List (List Int)} {i:Nat} {fi:List Nd} {v w:M.W}
theorem line_sem(h:NCtx M ls FS ST i fi) {j:Int} {f:List Nd}(hl:lineL ls FS ST i j=some f)(hc:ctxC M ls FS (ST.getD i []) v w):check f=0/\M.sat (treeOf f) w:=by
 unfold lineL at hl
 split at hl
 ·cases hl
 rename_i r hr;unfold withinL at hr;by_cases hj:j < 0\/(i:Int)<=j
 ·rw [if_pos hj]at hr;cases hr
 rw [if_neg hj]at hr;by_cases ht:(ST.getD i []).take (ST.getD j.toNat []).length=ST.getD j.toNat []
 ·rw [if_pos ht]at hr;injection hr with hr;cases hb:(boxesL ls r).isEmpty
  ·rw [hb]at hl;cases hl
  rw [hb]at hl;injection hl with hl;have hb2:boxesL ls r= []:=List.isEmpty_iff.1 hb;rw [take_split ht,hr]at hc;obtain⟨u,h1,h2⟩:=(ctx_append _ _ _ _).1 hc;have e:=ctx_still r u w hb2 h2;subst e;refine⟨by rw [<-hl];exact h.ck _ (getD_memF (by have:=h.fl;omega)),?_⟩;rw [<-hl];exact h.snd j.toNat (by omega) v u h1
 rw [if_neg ht]at hr;cases hr
theorem one_sem(h:NCtx M ls FS ST i fi) {n:Ln} {f:List Nd}(hl:oneL ls FS ST i n=some f)(hc:ctxC M ls FS (ST.getD i []) v w):check f=0/\M.sat (treeOf f) w:=by
 unfold oneL at hl;cases hd:decide (n.from_.length=1)
 ·rw [hd]at hl;cases hl
 rw [hd]at hl;exact line_sem h hl hc
theorem two_sem(h:NCtx M ls FS ST i fi) {n:Ln} {r:List Nd×List Nd}(hl:twoL ls FS ST i n=some r)(hc:ctxC M ls FS (ST.getD i []) v w):(check r.1=0/\M.sat (treeOf r.1) w)/\check r.2=0/\M.sat (treeOf r.2) w:=by
 unfold twoL at hl;cases hd:decide (n.from_.length=2)
 ·rw [hd]at hl;cases hl
 rw [hd]at hl;cases hx:lineL ls FS ST i (n.from_.getD 0 0)with
 |none=>rw [hx]at hl;cases hl
 |some x =>
  cases hy:lineL ls FS ST i (n.from_.getD 1 0)with
  |none=>rw [hx,hy]at hl;cases hl
  |some y =>
   rw [hx,hy]at hl;injection hl with hl;rw [<-hl];exact⟨line_sem h hx hc,line_sem h hy hc⟩
theorem lastF_in(st:List (List Int))(o:Nat)(i:Nat):∀k l:Nat,l < i->(l=o\/(o:Int)∈st.getD l [])->o<=l->lastF st o i k l < i/\(lastF st o i k l=o\/(o:Int)∈st.getD (lastF st o i k l) [])
 |0,l,h1,h2,_=>⟨h1,h2⟩
 |k+1,l,h1,h2,h3=>by
  unfold lastF;cases hc:(decide (l+1 < i)&&decide ((o:Int)∈st.getD (l+1) []))
  ·rw [cond_false];exact⟨h1,h2⟩
  rw [cond_true];rw [Bool.and_eq_true]at hc;exact lastF_in st o i k (l+1) (of_decide_eq_true hc.1) (.inr (of_decide_eq_true hc.2)) (by omega)
theorem sub_sem(h:NCtx M ls FS ST i fi) {o:Int} {r:Int×List Nd}(hl:subprL ls FS ST i o=some r)(hc:ctxC M ls FS (ST.getD i []) v w):
 r.1=o/\0<=o/\o < i/\check r.2=0/\∀u,stepC M ls FS o w u->M.sat (treeOf r.2) u:=by
 unfold subprL at hl;by_cases ho:o < 0\/(i:Int)<=o
 ·rw [if_pos ho]at hl;cases hl
 rw [if_neg ho]at hl;obtain⟨q,rfl⟩:=Int.eq_ofNat_of_zero_le (show 0<=o by omega);rw [Int.toNat_natCast]at hl;cases hb:opensL (lineAt ls q)&&subOk ls ST i q
 ·rw [hb]at hl;cases hl
 rw [hb,cond_true]at hl;injection hl with hl;subst hl;rw [Bool.and_eq_true]at hb;obtain⟨hop,hsub⟩:=hb;unfold subOk at hsub;simp only [Bool.and_eq_true]at hsub;obtain⟨h1,_,h3,h4⟩:=hsub;have h1:=of_decide_eq_true h1;have h3:=List.isEmpty_iff.1 h3;have h4:=of_decide_eq_true h4;have hqi:q < i:=by omega
 obtain⟨X,hX⟩:=h.shp.opn q (by omega) hop;have hL:(ST.getD q []).length - 1=X.length:=by rw [hX];simp
 rw [hL]at h1 h3;rw [hX,List.take_append_of_le_length (Nat.le_refl _),List.take_length]at h1;obtain⟨l1,l2⟩:=lastF_in ST q i i q hqi (.inl rfl) (Nat.le_refl _);have hst:ST.getD (lastL ST q i) []=X++ [(q:Int)]:=by
  rcases l2 with l2|l2
  ·rw [show lastL ST q i=q from l2];exact hX
  obtain⟨p,hp,hpe⟩:=List.getElem_of_mem l2;obtain⟨o',a1,_,a3⟩:=h.shp.pos (lastL ST q i) (Nat.lt_succ_of_lt l1) p hp;have a2:(o':Int)=q:=by
   have:=a1;rw [show(ST.getD (lastL ST q i) [])[p]?=some (q:Int)from by rw [<-hpe];exact Qv hp]at this;injection this with this;exact this.symm
  have a4:o'=q:=by omega
  rw [a4]at a3;have hlen:(ST.getD q []).length=p+1:=by
   rw [a3,List.length_take];have:p < (ST.getD (lastL ST q i) []).length:=hp;omega
  rw [<-hX,a3,List.take_of_length_le (by omega)]
 refine⟨rfl,by omega,by omega,h.ck _ (getD_memF (by have:=h.fl;have:lastL ST q i < i:=l1;omega)),fun u hu=> ?_⟩;have hs:=take_split h1;rw [hs]at hc;obtain⟨x,c1,c2⟩:=(ctx_append _ _ _ _).1 hc;have e:=ctx_still _ x w h3 c2;subst e;exact h.snd _ l1 v u (by rw [show ST.getD (lastF ST (q:Int) i i q) []=X++ [(q:Int)]from hst];exact(ctx_append _ _ _ _).2 ⟨x,c1,u,hu,rfl⟩)
theorem asm_sem(h:NCtx M ls FS ST i fi) {o:Int} {r:List Nd×List Nd}(hl:assumedL ls FS ST i o=some r)(hc:ctxC M ls FS (ST.getD i []) v w):
 check r.1=0/\check r.2=0/\(M.sat (treeOf r.1) w->M.sat (treeOf r.2) w):=by
 unfold assumedL at hl;cases hs:subprL ls FS ST i o with
 |none=>rw [hs]at hl;cases hl
 |some q =>
  rw [hs]at hl;obtain⟨e1,h0,h1,h2,h3⟩:=sub_sem h hs hc;simp only at hl;cases hr:(lineAt ls q.1).rule==1
  ·rw [hr]at hl;cases hl
  rw [hr,cond_true]at hl;injection hl with hl;subst hl;rw [e1]at hr⊢;refine⟨h.ck _ (getD_memF (by have:=h.fl;omega)),h2,fun hsat=>h3 w (.inr ⟨?_,rfl,hsat⟩)⟩;unfold isBox;rw [beq_iff_eq]at hr;rw [hr];rfl
end
end Go.Proofs.YtmidgcldljfkcaaGreatDoor
