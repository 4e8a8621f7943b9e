/- Arguments read: formulas, integers; what a law's call leaves as it was. -/
import Derived.Test.YtkmclcmnoicagaaGreatDoorRows
import Derived.Deep.Slices
import Derived.Deep.Fields
import Derived.ChangeSame
import Derived.ProofKit
import Derived.OpenShut
import Derived.Lib.SmallJoins
import Derived.SevenTiedAt
import Derived.Stop.Joined
import Derived.Below
import Derived.Test.YtkmclcmnoicagaaGreatDoorL07
import Derived.Test.YtkmclcmnoicagaaGreatDoorCards
import Derived.Test.YtkmclcmnoicagaaGreatDoorTie
import Derived.MakeChecks
import Derived.LaidMore
namespace Go.Proofs.YtkmclcmnoicagaaGreatDoor
set_option maxRecDepth 100000
set_option maxHeartbeats 128000000
open Go.ChangeShapes Go.WideShapes Go.ChangeAt Go.RowKit Go.Deep Go.Joins
theorem Qsl {α:Type} {P:Nat->α->Prop} :∀len:Nat,(∀i,i < len->∃a,P i a)->∃l:List α,l.length=len/\∀k a,l[k]?=some a->P k a
 |0,_=>⟨[],rfl,fun k a h=>by simp at h⟩
 |len+1,h=>by
  obtain⟨l,hl,hp⟩:=Qsl len (fun i hi=>h i (by omega));obtain⟨a,ha⟩:=h len (by omega);refine⟨l++ [a],by simp [hl],fun k b hk=> ?_⟩;by_cases e:k < l.length
  ·rw [List.getElem?_append_left e]at hk;exact hp k b hk
  rw [List.getElem?_append_right (by omega)]at hk;have e0:k - l.length=0:=by
   by_cases e2:k - l.length=0
   ·exact e2
   rw [List.getElem?_eq_none (by simp;omega)]at hk;cases hk
  rw [e0]at hk;simp at hk;subst hk;have:k=len:=by omega
  rw [this];exact ha
section
variable {H:Type} {enc:TypeId×Value->H} {P:Program} {w:World} {base:Nat} {spare:Nat->Bool} {held:Bool}
theorem Qyc {t e:TypeId} {fs:Array Field} {fuel:Nat} {cs:List Value} {x:DataW H×List MemPlace}(ht:P.underlying t=some (.slice e))(he:P.underlying e=some (.struct fs))
 (CL:oneCellFields P fs=true)(hC:P.cellsOf e=fs.size)(h:DataW.trod enc P w base spare held fuel t cs=some x):
 (cs= [.slice none 0 0]/\x=(.nil,[]))\/
 ∃(a:Addr) (len cap:Nat),cs= [.slice (some a) len cap]/\len<=cap/\cap<=maxLen/\
  ∀i,i < len->∀(j:Nat) (f:Field),fs[j]?=some f->∃(v:Value) (y:DataW H×List MemPlace) (n:Nat),w.cell? (a.add (i*fs.size+j))=some v/\DataW.trod enc P w base spare held n f.type [v]=some y:=by
 rcases open_slice ht h with h0|⟨a,len,cap,m,n,D,Pl,oU,hb,hl,hm,rD,hx,hi⟩
 ·exact .inl h0
 refine .inr ⟨a,len,cap,oU,hl,hm,fun i jK j f hj=> ?_⟩;have him:i < m:=by rw [rD];split <;> omega
 obtain⟨cs',hc,kS⟩:=hi i him;rw [hC]at hc;obtain⟨ys,n',RS,hy,zG,kN,hf⟩:=DataW.trod_struct he kS;obtain⟨_,yR,yL⟩:=World.cells?_some hc;obtain⟨ho,hk⟩:=hone_of CL j f hj;have mC:j < fs.size:=(Array.getElem?_eq_some_iff.1 hj).1;have yO:=yL j mC;have hv:cs'[j]?=some (cs'[j]'(by omega)):=List.getElem?_eq_getElem (by omega);have h1:=hf j f hj;rw [ho,hk]at h1;have MA:(cs'.drop j).take 1= [cs'[j]'(by omega)]:=by
  rw [List.drop_eq_getElem_cons (by omega)];rfl
 rw [MA]at h1;have hys:ys[j]?=some (ys[j]'(by omega)):=List.getElem?_eq_getElem (by omega);refine⟨_,_,_,?_,h1.trans hys⟩;rw [<-Go.Deep.add_add,yO,hv]
end
section
variable {H:Type} {enc:TypeId×Value->H} {w:World} {spare:Nat->Bool} {held:Bool}
theorem Qta {w:World} {a:Addr} {k j:Nat} {u:Value}(hj:0 < j)(hc:w.cell? (a.add (k+j))=some u):w.cell? ⟨(a.add k).block,(a.add k).off+j,none⟩=some u:=by
 have e:a.add (k+j)=⟨(a.add k).block,(a.add k).off+j,none⟩:=by
  rw [<-Qtn];unfold Addr.add;rw [if_neg (by omega)]
 rw [<-e];exact hc
theorem Qp9 {z:Int}(h:(Lit.int .i64 z).wf=true):Vm z:=by
 unfold Lit.wf at h;rw [Bool.and_eq_true,decide_eq_true_iff,decide_eq_true_iff]at h;have h1:IntKind.i64.min= -9223372036854775808:=by decide+kernel
 have h2:IntKind.i64.max=9223372036854775807:=by decide+kernel
 rw [h1,h2]at h;exact h
theorem Nn {fuel:Nat} {v:Value} {y:DataW H×List MemPlace}(h:DataW.trod enc Tryz.prog w 0 spare held fuel 3 [v]=some y):∃z,v=.int .i64 z/\Vm z:=by
 obtain⟨n,hc,_,hw⟩:=DataW.trod_int Tryz.underlying3 h;injection hc with hc _;exact⟨n,hc,Qp9 hw⟩
theorem Qrx {fuel:Nat} {v:Value} {y:DataW H×List MemPlace}(h:DataW.trod enc Tryz.prog w 0 spare held fuel 22 [v]=some y):∃l,Jo w v l:=by
 rcases Qyc Tryz.underlying22 Tryz.underlying71 (by kernel_rfl) (by kernel_rfl) h with⟨hc,_⟩|⟨a,len,cap,hc,hl,hm,hf⟩
 ·injection hc with hc _;subst hc;exact⟨[],⟨none,0,rfl,Nat.le_refl _,by unfold maxLen;omega,fun h=>absurd rfl h⟩,by simp⟩
 injection hc with hc _;subst hc;obtain⟨l,zG,hp⟩:=Qsl (P:=fun i n=>Qbc w (a.add (i*6)) n/\n.ok/\a.block < w.heap.size) len (fun i hi=>by
  obtain⟨v0,_,_,c0,t0⟩:=hf i hi 0 _ rfl;obtain⟨v1,_,_,c1,t1⟩:=hf i hi 1 _ rfl;obtain⟨v2,_,_,c2,t2⟩:=hf i hi 2 _ rfl;obtain⟨v3,_,_,c3,t3⟩:=hf i hi 3 _ rfl;obtain⟨v4,_,_,c4,t4⟩:=hf i hi 4 _ rfl;obtain⟨v5,_,_,c5,t5⟩:=hf i hi 5 _ rfl;obtain⟨z0,rfl,o0⟩:=Nn t0;obtain⟨z1,rfl,o1⟩:=Nn t1;obtain⟨z2,rfl,o2⟩:=Nn t2;obtain⟨z3,rfl,o3⟩:=Nn t3;obtain⟨z4,rfl,o4⟩:=Nn t4;obtain⟨z5,rfl,o5⟩:=Nn t5;have hs:∀(j:Nat) u,0 < j->w.cell? (a.add (i*6+j))=some u->w.cell? ⟨(a.add (i*6)).block,(a.add (i*6)).off+j,none⟩=some u:=fun j u hj hc=>Qta hj hc
  exact⟨⟨z0,z1,z2,z3,z4,z5⟩,⟨by simpa using c0,hs 1 _ (by omega) c1,hs 2 _ (by omega) c2,hs 3 _ (by omega) c3,hs 4 _ (by omega) c4,hs 5 _ (by omega) c5⟩,⟨o0,o1,o2,o3,o4,o5⟩,by have:=World.block_lt_of_cell? w _ c0;rwa [Qt]at this⟩)
 refine⟨l,⟨some a,cap,by rw [zG],by rw [zG];exact hl,hm,fun zQ=>⟨a,rfl,?_,fun k n hk=>(hp k n hk).1⟩⟩,fun n hn=> ?_⟩
 ·obtain⟨n,hn⟩:∃n,l[0]?=some n:=by
   cases l with
   |nil=>exact absurd rfl zQ
   |cons x t=>exact⟨x,rfl⟩
  exact(hp 0 n hn).2.2
 obtain⟨k,hk⟩:=List.getElem?_of_mem hn;exact(hp k n hk).2.1
end
section
variable {H:Type} {enc:TypeId×Value->H} {P:Program}
theorem Qbf {f:Func} {s:ChangeSpec} {apart fresh handsOn again:Bool} {W W':World} {args:Array Value} {v:Value} {ds gs:List (DataW H)} {before pa pv:List MemPlace}
 (hW:DataW.Whole enc P f.params.toList s.vars apart W args.toList ds gs before)
 (pI:∀(b:Nat) (sp:Nat->Bool) (hd:Bool),DataW.TrodAll enc P W' b sp hd f.resultTypes.toList (v.resultList f.resultTypes.size) (s.fn H (ds++gs)).results [])
 (eO:∀sp:Nat->Bool,(∀p∈before,sp p.block=true)->DataW.TrodAll enc P W' 0 sp true f.params.toList args.toList (s.fn H (ds++gs)).args pa)
 (XP:∀sp:Nat->Bool,(∀p∈before,sp p.block=true)->DataW.TrodVars enc P W' sp s.vars (s.fn H (ds++gs)).vars pv)
 (vP:before=pa++pv)(hb:Go.RowKit.Below W.heap.size W W')
 (zO:∀(j:Nat) (t:TypeId) (r:Value),f.resultTypes[j]?=some t->(v.resultList f.resultTypes.size)[j]?=some r->Value.okWide P W' .any 0 t r):
 s.post enc P f apart fresh handsOn again W args v W':=by
 have zI:∀p∈before,p.block < W.heap.size:=fun p hp=>hW.lt p hp
 have vF:∀p∈before,(fun b=>decide (b < W.heap.size)) p.block=true:=fun p hp=>by simpa using zI p hp
 refine⟨ds,gs,before,[],pa,pv,hW,pI _ _ _,eO _ vF,XP _ vF,World.keptBut_mono (fun p hp=>⟨hp,?_⟩) (hb.frame (·∈before)),fun _=> ?_⟩
 ·rw [vP,List.mem_append]at hp;exact Or.inr hp
 obtain⟨_,_,_,_,_,hz,hn⟩:=hW;refine⟨zO,_,_,([]++pa)++pv,⟨[]++pa,pv,trodAll_append (eO _ (fun _ _=>rfl)) (pI _ _ _),XP _ (fun _ _=>rfl),rfl,?_,?_⟩,?_⟩
 ·intro b off hp;have sB:MemPlace.cell b off∈before:=by rw [vP];simpa using hp
  rw [hb.frozen (zI _ sB)];exact hz b off sB
 ·intro ha;have:=hn ha;rw [vP]at this
  simpa using this
 intro p hp _;rw [vP]
 simpa using hp
end
theorem Zy8:Tryz.prog.globalNamed "math/bits.deBruijn64tab" =some 0:=by kernel_rfl
theorem Zvt:(Tryz.prog.globals[0]?).map (·.type)=some 182:=by kernel_rfl
theorem c5Z:Tryz.prog.cellsOf 5=1:=by kernel_rfl
theorem Qr2 {W:World}(h:laidMet Tryz.prog [("math/bits.deBruijn64tab",Rows.laid_math_bits_deBruijn64tab)] W):Kk W:=by
 obtain⟨_,⟨g,t,cs,fuel,p,_,hg,ht,hv,hd,_,_⟩,_,_⟩:=h;obtain rfl:=Option.some.inj (Zy8.symm.trans hg);obtain rfl:=Option.some.inj (Zvt.symm.trans ht);have KD:DataW.trod (fun _=>()) Tryz.prog W 0 (fun _=>true) false fuel 182 cs.toList=some (.agg (Qj9.map fun(z:Nat)=> .lit (.int .u8 (z:Int))),p):=hd;obtain⟨xs,m,rfl,hx,zG,vD,hi⟩:=DataW.trod_array Tryz.underlying182 KD;simp only [Prod.mk.injEq,DataW.agg.injEq]at hx;obtain⟨zP,_⟩:=hx;have yO:=fun j=>World.var?_cell hg hv j
 have key:∀k,k < 64->W.cell? ⟨0,k,none⟩=some (.int .u8 ((Qj9.getD k 0:Nat):Int)):=fun k hk=>by
  have h1:=hi k hk;rw [c5Z,Nat.mul_one]at h1;have RK:(xs.map (·.1))[k]?=some (.lit (.int .u8 ((Qj9.getD k 0:Nat):Int))):=by
   rw [<-zP,List.getElem?_map,Qk];have:k < Qj9.length:=hk;rw [Qv this];rfl
  rw [List.getElem?_map]at RK;obtain⟨x,zT,zF⟩:=Option.map_eq_some_iff.1 RK;rw [zT]at h1;obtain⟨z,hc,hy,_⟩:=DataW.trod_int Tryz.underlying5 h1;rw [hy]at zF;simp only [DataW.lit.injEq,Lit.int.injEq,true_and]at zF;have h0:=congrArg (fun q=>q[0]?) hc;simp only [List.getElem?_take,List.getElem?_drop]at h0;rw [yO k,<-Array.getElem?_toList,<-zF]
  simpa using h0
 exact⟨key,World.block_lt_of_cell? W _ (key 0 (by decide))⟩
theorem Qno {W:World}(h:laidMetH Tryz.prog [("math/bits.deBruijn64tab",Rows.laid_math_bits_deBruijn64tab)] W):Kk W:=by
 rw [Go.MakeChecks.laidMetH_plain _ _ _ rfl]at h;exact Qr2 h
end Go.Proofs.YtkmclcmnoicagaaGreatDoor
