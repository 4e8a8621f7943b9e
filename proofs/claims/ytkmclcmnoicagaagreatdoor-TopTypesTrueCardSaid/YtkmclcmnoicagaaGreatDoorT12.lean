/- Arguments read: formulas, integers; what a law's call leaves as it was. -/
import Derived.Test.YtkmclcmnoicagaaGreatDoorRows
import Derived.Deep.Slices
import Derived.Deep.Fields
import Derived.ChangeSame
import Derived.ProofKit
import Derived.OpenShut
import Derived.Lib.SmallJoins
import Derived.SevenTiedAt
import Derived.Stop.Joined
import Derived.Below
import Derived.Test.YtkmclcmnoicagaaGreatDoorT11
import Derived.Test.YtkmclcmnoicagaaGreatDoorCards
import Derived.Test.YtkmclcmnoicagaaGreatDoorTie
import Derived.MakeChecks
import Derived.LaidMore
namespace Go.Proofs.YtkmclcmnoicagaaGreatDoor
set_option maxRecDepth 100000
set_option maxHeartbeats 128000000
open Go.ChangeShapes Go.WideShapes Go.ChangeAt Go.RowKit Go.Deep Go.Joins
theorem Qvn {α:Type} {P:Nat->α->Prop} :∀len:Nat,(∀i,i < len->∃a,P i a)->∃l:List α,l.length=len/\∀k a,l[k]?=some a->P k a
 |0,_=>⟨[],rfl,fun k a h=>by simp at h⟩
 |len+1,h=>by
  obtain⟨l,hl,hp⟩:=Qvn len (fun i hi=>h i (by omega));obtain⟨a,ha⟩:=h len (by omega);refine⟨l++ [a],by simp [hl],fun k b hk=> ?_⟩;by_cases e:k < l.length
  ·rw [List.getElem?_append_left e]at hk;exact hp k b hk
  rw [List.getElem?_append_right (by omega)]at hk;have e0:k - l.length=0:=by
   by_cases e2:k - l.length=0
   ·exact e2
   rw [List.getElem?_eq_none (by simp;omega)]at hk;cases hk
  rw [e0]at hk;simp at hk;subst hk;have:k=len:=by omega
  rw [this];exact ha
section
variable {H:Type} {enc:TypeId×Value->H} {P:Program} {w:World} {base:Nat} {spare:Nat->Bool} {held:Bool}
theorem Qqo {t e:TypeId} {fs:Array Field} {fuel:Nat} {cs:List Value} {x:DataW H×List MemPlace}(ht:P.underlying t=some (.slice e))(he:P.underlying e=some (.struct fs))
 (hone:oneCellFields P fs=true)(hC:P.cellsOf e=fs.size)(h:DataW.trod enc P w base spare held fuel t cs=some x):
 (cs= [.slice none 0 0]/\x=(.nil,[]))\/
 ∃(a:Addr) (len cap:Nat),cs= [.slice (some a) len cap]/\len<=cap/\cap<=maxLen/\
  ∀i,i < len->∀(j:Nat) (f:Field),fs[j]?=some f->∃(v:Value) (y:DataW H×List MemPlace) (n:Nat),w.cell? (a.add (i*fs.size+j))=some v/\DataW.trod enc P w base spare held n f.type [v]=some y:=by
 rcases open_slice ht h with h0|⟨a,len,cap,m,n,D,Pl,hcs,hb,hl,hm,hmm,hx,hi⟩
 ·exact .inl h0
 refine .inr ⟨a,len,cap,hcs,hl,hm,fun i hil j f hj=> ?_⟩;have him:i < m:=by rw [hmm];split <;> omega
 obtain⟨cs',hc,ht'⟩:=hi i him;rw [hC]at hc;obtain⟨ys,n',hn',hy,hlen,hyl,hf⟩:=DataW.trod_struct he ht';obtain⟨_,hcl,hat⟩:=World.cells?_some hc;obtain⟨ho,hk⟩:=hone_of hone j f hj;have hjl:j < fs.size:=(Array.getElem?_eq_some_iff.1 hj).1;have hcell:=hat j hjl;have hv:cs'[j]?=some (cs'[j]'(by omega)):=List.getElem?_eq_getElem (by omega);have h1:=hf j f hj;rw [ho,hk]at h1;have hone':(cs'.drop j).take 1= [cs'[j]'(by omega)]:=by
  rw [List.drop_eq_getElem_cons (by omega)];rfl
 rw [hone']at h1;have hys:ys[j]?=some (ys[j]'(by omega)):=List.getElem?_eq_getElem (by omega);refine⟨_,_,_,?_,h1.trans hys⟩;rw [<-Go.Deep.add_add,hcell,hv]
end
section
variable {H:Type} {enc:TypeId×Value->H} {w:World} {spare:Nat->Bool} {held:Bool}
theorem Qna {w:World} {a:Addr} {k j:Nat} {u:Value}(hj:0 < j)(hc:w.cell? (a.add (k+j))=some u):w.cell? ⟨(a.add k).block,(a.add k).off+j,none⟩=some u:=by
 have e:a.add (k+j)=⟨(a.add k).block,(a.add k).off+j,none⟩:=by
  rw [<-Qnt];unfold Addr.add;rw [if_neg (by omega)]
 rw [<-e];exact hc
theorem Qln {z:Int}(h:(Lit.int .i64 z).wf=true):Yj z:=by
 unfold Lit.wf at h;rw [Bool.and_eq_true,decide_eq_true_iff,decide_eq_true_iff]at h;have h1:IntKind.i64.min= -9223372036854775808:=by decide+kernel
 have h2:IntKind.i64.max=9223372036854775807:=by decide+kernel
 rw [h1,h2]at h;exact h
theorem Uh {fuel:Nat} {v:Value} {y:DataW H×List MemPlace}(h:DataW.trod enc Tryz.prog w 0 spare held fuel 3 [v]=some y):∃z,v=.int .i64 z/\Yj z:=by
 obtain⟨n,hc,_,hw⟩:=DataW.trod_int Tryz.underlying3 h;injection hc with hc _;exact⟨n,hc,Qln hw⟩
theorem Qbs {fuel:Nat} {v:Value} {y:DataW H×List MemPlace}(h:DataW.trod enc Tryz.prog w 0 spare held fuel 22 [v]=some y):∃l,Fml w v l:=by
 rcases Qqo Tryz.underlying22 Tryz.underlying71 (by kernel_rfl) (by kernel_rfl) h with⟨hc,_⟩|⟨a,len,cap,hc,hl,hm,hf⟩
 ·injection hc with hc _;subst hc;exact⟨[],⟨none,0,rfl,Nat.le_refl _,by unfold maxLen;omega,fun h=>absurd rfl h⟩,by simp⟩
 injection hc with hc _;subst hc;obtain⟨l,hlen,hp⟩:=Qvn (P:=fun i n=>Qxw w (a.add (i*6)) n/\n.ok/\a.block < w.heap.size) len (fun i hi=>by
  obtain⟨v0,_,_,c0,t0⟩:=hf i hi 0 _ rfl;obtain⟨v1,_,_,c1,t1⟩:=hf i hi 1 _ rfl;obtain⟨v2,_,_,c2,t2⟩:=hf i hi 2 _ rfl;obtain⟨v3,_,_,c3,t3⟩:=hf i hi 3 _ rfl;obtain⟨v4,_,_,c4,t4⟩:=hf i hi 4 _ rfl;obtain⟨v5,_,_,c5,t5⟩:=hf i hi 5 _ rfl;obtain⟨z0,rfl,o0⟩:=Uh t0;obtain⟨z1,rfl,o1⟩:=Uh t1;obtain⟨z2,rfl,o2⟩:=Uh t2;obtain⟨z3,rfl,o3⟩:=Uh t3;obtain⟨z4,rfl,o4⟩:=Uh t4;obtain⟨z5,rfl,o5⟩:=Uh t5;have hs:∀(j:Nat) u,0 < j->w.cell? (a.add (i*6+j))=some u->w.cell? ⟨(a.add (i*6)).block,(a.add (i*6)).off+j,none⟩=some u:=fun j u hj hc=>Qna hj hc
  exact⟨⟨z0,z1,z2,z3,z4,z5⟩,⟨by simpa using c0,hs 1 _ (by omega) c1,hs 2 _ (by omega) c2,hs 3 _ (by omega) c3,hs 4 _ (by omega) c4,hs 5 _ (by omega) c5⟩,⟨o0,o1,o2,o3,o4,o5⟩,by have:=World.block_lt_of_cell? w _ c0;rwa [Qp]at this⟩)
 refine⟨l,⟨some a,cap,by rw [hlen],by rw [hlen];exact hl,hm,fun hne=>⟨a,rfl,?_,fun k n hk=>(hp k n hk).1⟩⟩,fun n hn=> ?_⟩
 ·obtain⟨n,hn⟩:∃n,l[0]?=some n:=by
   cases l with
   |nil=>exact absurd rfl hne
   |cons x t=>exact⟨x,rfl⟩
  exact(hp 0 n hn).2.2
 obtain⟨k,hk⟩:=List.getElem?_of_mem hn;exact(hp k n hk).2.1
theorem Qko {z:Int}(h:(Lit.int .u64 z).wf=true):0<=z/\z < 18446744073709551616:=by
 unfold Lit.wf at h;rw [Bool.and_eq_true,decide_eq_true_iff,decide_eq_true_iff]at h;have h1:IntKind.u64.min=0:=by decide+kernel
 have h2:IntKind.u64.max=18446744073709551615:=by decide+kernel
 rw [h1,h2]at h;omega
end
section
variable {H:Type} {enc:TypeId×Value->H} {P:Program}
theorem Qxg {f:Func} {s:ChangeSpec} {apart fresh handsOn again:Bool} {W W':World} {args:Array Value} {v:Value} {ds gs:List (DataW H)} {before pa pv:List MemPlace}
 (hW:DataW.Whole enc P f.params.toList s.vars apart W args.toList ds gs before)
 (hres:∀(b:Nat) (sp:Nat->Bool) (hd:Bool),DataW.TrodAll enc P W' b sp hd f.resultTypes.toList (v.resultList f.resultTypes.size) (s.fn H (ds++gs)).results [])
 (hargs:∀sp:Nat->Bool,(∀p∈before,sp p.block=true)->DataW.TrodAll enc P W' 0 sp true f.params.toList args.toList (s.fn H (ds++gs)).args pa)
 (hvars:∀sp:Nat->Bool,(∀p∈before,sp p.block=true)->DataW.TrodVars enc P W' sp s.vars (s.fn H (ds++gs)).vars pv)
 (hps:before=pa++pv)(hb:Go.RowKit.Below W.heap.size W W')
 (hok:∀(j:Nat) (t:TypeId) (r:Value),f.resultTypes[j]?=some t->(v.resultList f.resultTypes.size)[j]?=some r->Value.okWide P W' .any 0 t r):
 s.post enc P f apart fresh handsOn again W args v W':=by
 have hlt:∀p∈before,p.block < W.heap.size:=fun p hp=>hW.lt p hp
 have hold:∀p∈before,(fun b=>decide (b < W.heap.size)) p.block=true:=fun p hp=>by simpa using hlt p hp
 refine⟨ds,gs,before,[],pa,pv,hW,hres _ _ _,hargs _ hold,hvars _ hold,World.keptBut_mono (fun p hp=>⟨hp,?_⟩) (hb.frame (·∈before)),fun _=> ?_⟩
 ·rw [hps,List.mem_append]at hp;exact Or.inr hp
 obtain⟨_,_,_,_,_,hz,hn⟩:=hW;refine⟨hok,_,_,([]++pa)++pv,⟨[]++pa,pv,trodAll_append (hargs _ (fun _ _=>rfl)) (hres _ _ _),hvars _ (fun _ _=>rfl),rfl,?_,?_⟩,?_⟩
 ·intro b off hp;have hin:MemPlace.cell b off∈before:=by rw [hps];simpa using hp
  rw [hb.frozen (hlt _ hin)];exact hz b off hin
 ·intro ha;have:=hn ha;rw [hps]at this
  simpa using this
 intro p hp _;rw [hps]
 simpa using hp
end
section
variable {H:Type} {enc:TypeId×Value->H} {w:World} {spare:Nat->Bool} {held:Bool}
theorem Iy {fuel:Nat} {v:Value} {y:DataW H×List MemPlace}(h:DataW.trod enc Tryz.prog w 0 spare held fuel 23 [v]=some y):∃l,Ji w v l/\∀s∈l,Zj s:=by
 rcases open_ints Tryz.underlying23 Tryz.underlying41 (by kernel_rfl) h with⟨hc,_⟩|⟨a,len,cap,zs,hc,_,hl,hm,hz,_,hcell,hwf⟩
 ·injection hc with hc _;subst hc;exact⟨[],Qjc w,fun s hs=>by cases hs⟩
 injection hc with hc _;subst hc;have hzl:len<=zs.length:=by rw [hz];split <;> omega
 have el:((zs.take len).map Int.toNat).length=len:=by simp;omega
 have hcl:∀(k z:Nat),((zs.take len).map Int.toNat)[k]?=some z->w.cell? (a.add k)=some (.int .u64 (z:Int)):=fun k z hk=>by
  rw [List.getElem?_map,List.getElem?_take]at hk
  split at hk
  ·cases hq:zs[k]? with
   |none=>rw [hq]at hk;cases hk
   |some q =>
    rw [hq]at hk;obtain rfl:q.toNat=z:=by simpa using hk
    have hk':=(List.getElem?_eq_some_iff.1 hq).1;have hq0:=(Qko (hwf q (List.mem_of_getElem? hq))).1;rw [hcell k hk',Qk,hq,Int.toNat_of_nonneg hq0];rfl
  cases hk
 refine⟨_,⟨some a,cap,by rw [el],by rw [el];exact hl,hm,fun hne=>⟨a,rfl,?_,hcl⟩⟩,fun s hs=> ?_⟩
 ·obtain⟨z,hz0⟩:∃z,((zs.take len).map Int.toNat)[0]?=some z:=by
   cases hq:(zs.take len).map Int.toNat with
   |nil=>exact absurd hq hne
   |cons x t=>exact⟨x,rfl⟩
  have:=World.block_lt_of_cell? w _ (hcl 0 z hz0)
  rwa [Qp]at this
 obtain⟨q,hq,rfl⟩:=List.mem_map.1 hs;have:=Qko (hwf q (List.mem_of_mem_take hq));show q.toNat < 18446744073709551616;omega
theorem Qxb {fuel:Nat} {v:Value} {y:DataW H×List MemPlace}(h:DataW.trod enc Tryz.prog w 0 spare held fuel 24 [v]=some y):∃l,Lv w v l/\∀r∈l,∀s∈r,Zj s:=by
 rcases open_slice Tryz.underlying24 h with⟨hc,_⟩|⟨a,len,cap,m,n,D,Pl,hc,_,hl,hm,hmm,_,hi⟩
 ·injection hc with hc _;subst hc;exact⟨[],⟨none,0,rfl,Nat.le_refl _,by unfold maxLen;omega,fun h=>absurd rfl h⟩,fun r hr=>by cases hr⟩
 injection hc with hc _;subst hc;have hC:Tryz.prog.cellsOf 23=1:=by kernel_rfl
 obtain⟨l,hlen,hp⟩:=Qvn (P:=fun i (r:List Nat)=>∃u,w.cell? (a.add i)=some u/\Ji w u r/\(∀s∈r,Zj s)/\a.block < w.heap.size) len (fun i hil=>by
  obtain⟨cs',hcs,ht'⟩:=hi i (by rw [hmm];split <;> omega);rw [hC]at hcs;obtain⟨_,hcl,hat⟩:=World.cells?_some hcs;obtain⟨u,rfl⟩:∃u,cs'= [u]:=by
   cases cs' with
   |nil=>simp at hcl
   |cons x t=>cases t with
    |nil=>exact⟨x,rfl⟩
    |cons z t=>simp at hcl
  have h0:=hat 0 (by omega);obtain⟨r,hr,hw⟩:=Iy ht';have hc0:w.cell? (a.add i)=some u:=by
   have:(a.add (i*1)).add 0=a.add i:=by rw [Nat.mul_one];unfold Addr.add;rfl
   rw [this]at h0
   simpa using h0
  refine⟨r,u,hc0,hr,hw,?_⟩;have:=World.block_lt_of_cell? w _ hc0
  rwa [Qp]at this)
 refine⟨l,⟨some a,cap,by rw [hlen],by rw [hlen];exact hl,hm,fun hne=>⟨a,rfl,?_,fun k s hk=> ?_⟩⟩,fun r hr=> ?_⟩
 ·obtain⟨z,hz0⟩:∃z,l[0]?=some z:=by
   cases hq:l with
   |nil=>exact absurd hq hne
   |cons x t=>exact⟨x,rfl⟩
  obtain⟨_,_,_,_,hb⟩:=hp 0 z hz0;exact hb
 ·obtain⟨u,h1,h2,_⟩:=hp k s hk;exact⟨u,h1,h2⟩
 obtain⟨k,hk⟩:=List.getElem?_of_mem hr;obtain⟨_,_,_,hw,_⟩:=hp k r hk;exact hw
theorem Qle {r:Reach} {b0:Nat} {v:Value} {d:DataW H} {p:List MemPlace}(hv:Value.okWide Tryz.prog w r b0 26 v)(h:DataW.Trod enc Tryz.prog w 0 spare held 26 v d p):∃md,MdV w v md/\md.ok:=by
 obtain⟨v0,v1,v2,y0,y1,y2,n,rfl,_,_,t0,t1,t2⟩:=open_agg3 Tryz.underlying26 (by kernel_rfl) (by kernel_rfl) hv h;obtain⟨z,rfl,hz⟩:=Uh t0;obtain⟨vs,hvs,hw1⟩:=Iy t1;obtain⟨rs,hrs,hw2⟩:=Qxb t2;exact⟨⟨z,vs,rs⟩,⟨_,_,rfl,hvs,hrs⟩,⟨hz,hw1,hw2⟩⟩
end
theorem Zqw:Tryz.prog.globalNamed "math/bits.deBruijn64tab" =some 0:=by kernel_rfl
theorem Zq9:(Tryz.prog.globals[0]?).map (·.type)=some 182:=by kernel_rfl
theorem c5Z:Tryz.prog.cellsOf 5=1:=by kernel_rfl
theorem Qb3 {W:World}(h:laidMet Tryz.prog [("math/bits.deBruijn64tab",Rows.laid_math_bits_deBruijn64tab)] W):Uj W:=by
 obtain⟨_,⟨g,t,cs,fuel,p,_,hg,ht,hv,hd,_,_⟩,_,_⟩:=h;obtain rfl:=Option.some.inj (Zqw.symm.trans hg);obtain rfl:=Option.some.inj (Zq9.symm.trans ht);have hd':DataW.trod (fun _=>()) Tryz.prog W 0 (fun _=>true) false fuel 182 cs.toList=some (.agg (Ic.map fun(z:Nat)=> .lit (.int .u8 (z:Int))),p):=hd;obtain⟨xs,m,rfl,hx,hlen,hxl,hi⟩:=DataW.trod_array Tryz.underlying182 hd';simp only [Prod.mk.injEq,DataW.agg.injEq]at hx;obtain⟨hx1,_⟩:=hx;have hcell:=fun j=>World.var?_cell hg hv j
 have key:∀k,k < 64->W.cell? ⟨0,k,none⟩=some (.int .u8 ((Ic.getD k 0:Nat):Int)):=fun k hk=>by
  have h1:=hi k hk;rw [c5Z,Nat.mul_one]at h1;have hxk:(xs.map (·.1))[k]?=some (.lit (.int .u8 ((Ic.getD k 0:Nat):Int))):=by
   rw [<-hx1,List.getElem?_map,Qk];have:k < Ic.length:=hk;rw [Qv this];rfl
  rw [List.getElem?_map]at hxk;obtain⟨x,hx2,hx3⟩:=Option.map_eq_some_iff.1 hxk;rw [hx2]at h1;obtain⟨z,hc,hy,_⟩:=DataW.trod_int Tryz.underlying5 h1;rw [hy]at hx3;simp only [DataW.lit.injEq,Lit.int.injEq,true_and]at hx3;have h0:=congrArg (fun q=>q[0]?) hc;simp only [List.getElem?_take,List.getElem?_drop]at h0;rw [hcell k,<-Array.getElem?_toList,<-hx3]
  simpa using h0
 exact⟨key,World.block_lt_of_cell? W _ (key 0 (by decide))⟩
theorem Qf0 {W:World}(h:laidMetH Tryz.prog [("math/bits.deBruijn64tab",Rows.laid_math_bits_deBruijn64tab)] W):Uj W:=by
 rw [Go.MakeChecks.laidMetH_plain _ _ _ rfl]at h;exact Qb3 h
end Go.Proofs.YtkmclcmnoicagaaGreatDoor
