/- Arguments read: formulas, integers; what a law's call leaves as it was. -/
import Derived.Test.YtkmclcmnoicagaaGreatDoorRows
import Derived.Deep.Slices
import Derived.Deep.Fields
import Derived.ChangeSame
import Derived.ProofKit
import Derived.OpenShut
import Derived.Lib.SmallJoins
import Derived.SevenTiedAt
import Derived.Stop.Joined
import Derived.Below
import Derived.Test.YtkmclcmnoicagaaGreatDoorH07
import Derived.Test.YtkmclcmnoicagaaGreatDoorCards
import Derived.Test.YtkmclcmnoicagaaGreatDoorTie
import Derived.MakeChecks
import Derived.LaidMore
namespace Go.Proofs.YtkmclcmnoicagaaGreatDoor
set_option maxRecDepth 100000
set_option maxHeartbeats 128000000
open Go.ChangeShapes Go.WideShapes Go.ChangeAt Go.RowKit Go.Deep Go.Joins
theorem Qgh {α:Type} {P:Nat->α->Prop} :∀len:Nat,(∀i,i < len->∃a,P i a)->∃l:List α,l.length=len/\∀k a,l[k]?=some a->P k a
 |0,_=>⟨[],rfl,fun k a h=>by simp at h⟩
 |len+1,h=>by
  obtain⟨l,hl,hp⟩:=Qgh len (fun i hi=>h i (by omega));obtain⟨a,ha⟩:=h len (by omega);refine⟨l++ [a],by simp [hl],fun k b hk=> ?_⟩;by_cases e:k < l.length
  ·rw [List.getElem?_append_left e]at hk;exact hp k b hk
  rw [List.getElem?_append_right (by omega)]at hk;have e0:k - l.length=0:=by
   by_cases e2:k - l.length=0
   ·exact e2
   rw [List.getElem?_eq_none (by simp;omega)]at hk;cases hk
  rw [e0]at hk;simp at hk;subst hk;have:k=len:=by omega
  rw [this];exact ha
section
variable {H:Type} {enc:TypeId×Value->H} {P:Program} {w:World} {base:Nat} {spare:Nat->Bool} {held:Bool}
theorem Qy7 {t e:TypeId} {fs:Array Field} {fuel:Nat} {cs:List Value} {x:DataW H×List MemPlace}(ht:P.underlying t=some (.slice e))(he:P.underlying e=some (.struct fs))
 (AZ:oneCellFields P fs=true)(hC:P.cellsOf e=fs.size)(h:DataW.trod enc P w base spare held fuel t cs=some x):
 (cs= [.slice none 0 0]/\x=(.nil,[]))\/
 ∃(a:Addr) (len cap:Nat),cs= [.slice (some a) len cap]/\len<=cap/\cap<=maxLen/\
  ∀i,i < len->∀(j:Nat) (f:Field),fs[j]?=some f->∃(v:Value) (y:DataW H×List MemPlace) (n:Nat),w.cell? (a.add (i*fs.size+j))=some v/\DataW.trod enc P w base spare held n f.type [v]=some y:=by
 rcases open_slice ht h with h0|⟨a,len,cap,m,n,D,Pl,qA,hb,hl,hm,rH,hx,hi⟩
 ·exact .inl h0
 refine .inr ⟨a,len,cap,qA,hl,hm,fun i kE j f hj=> ?_⟩;have him:i < m:=by rw [rH];split <;> omega
 obtain⟨cs',hc,lO⟩:=hi i him;rw [hC]at hc;obtain⟨ys,n',QD,hy,zG,jS,hf⟩:=DataW.trod_struct he lO;obtain⟨_,yU,yM⟩:=World.cells?_some hc;obtain⟨ho,hk⟩:=hone_of AZ j f hj;have lE:j < fs.size:=(Array.getElem?_eq_some_iff.1 hj).1;have yR:=yM j lE;have hv:cs'[j]?=some (cs'[j]'(by omega)):=List.getElem?_eq_getElem (by omega);have h1:=hf j f hj;rw [ho,hk]at h1;have KS:(cs'.drop j).take 1= [cs'[j]'(by omega)]:=by
  rw [List.drop_eq_getElem_cons (by omega)];rfl
 rw [KS]at h1;have hys:ys[j]?=some (ys[j]'(by omega)):=List.getElem?_eq_getElem (by omega);refine⟨_,_,_,?_,h1.trans hys⟩;rw [<-Go.Deep.add_add,yR,hv]
end
section
variable {H:Type} {enc:TypeId×Value->H} {w:World} {spare:Nat->Bool} {held:Bool}
theorem Qlq {w:World} {a:Addr} {k j:Nat} {u:Value}(hj:0 < j)(hc:w.cell? (a.add (k+j))=some u):w.cell? ⟨(a.add k).block,(a.add k).off+j,none⟩=some u:=by
 have e:a.add (k+j)=⟨(a.add k).block,(a.add k).off+j,none⟩:=by
  rw [<-Qt1];unfold Addr.add;rw [if_neg (by omega)]
 rw [<-e];exact hc
theorem Qcc {z:Int}(h:(Lit.int .i64 z).wf=true):Vp z:=by
 unfold Lit.wf at h;rw [Bool.and_eq_true,decide_eq_true_iff,decide_eq_true_iff]at h;have h1:IntKind.i64.min= -9223372036854775808:=by decide+kernel
 have h2:IntKind.i64.max=9223372036854775807:=by decide+kernel
 rw [h1,h2]at h;exact h
theorem Fv {fuel:Nat} {v:Value} {y:DataW H×List MemPlace}(h:DataW.trod enc Tryz.prog w 0 spare held fuel 3 [v]=some y):∃z,v=.int .i64 z/\Vp z:=by
 obtain⟨n,hc,_,hw⟩:=DataW.trod_int Tryz.underlying3 h;injection hc with hc _;exact⟨n,hc,Qcc hw⟩
theorem Qro {fuel:Nat} {v:Value} {y:DataW H×List MemPlace}(h:DataW.trod enc Tryz.prog w 0 spare held fuel 22 [v]=some y):∃l,Yq w v l:=by
 rcases Qy7 Tryz.underlying22 Tryz.underlying71 (by kernel_rfl) (by kernel_rfl) h with⟨hc,_⟩|⟨a,len,cap,hc,hl,hm,hf⟩
 ·injection hc with hc _;subst hc;exact⟨[],⟨none,0,rfl,Nat.le_refl _,by unfold maxLen;omega,fun h=>absurd rfl h⟩,by simp⟩
 injection hc with hc _;subst hc;obtain⟨l,zG,hp⟩:=Qgh (P:=fun i n=>Qdz w (a.add (i*6)) n/\n.ok/\a.block < w.heap.size) len (fun i hi=>by
  obtain⟨v0,_,_,c0,t0⟩:=hf i hi 0 _ rfl;obtain⟨v1,_,_,c1,t1⟩:=hf i hi 1 _ rfl;obtain⟨v2,_,_,c2,t2⟩:=hf i hi 2 _ rfl;obtain⟨v3,_,_,c3,t3⟩:=hf i hi 3 _ rfl;obtain⟨v4,_,_,c4,t4⟩:=hf i hi 4 _ rfl;obtain⟨v5,_,_,c5,t5⟩:=hf i hi 5 _ rfl;obtain⟨z0,rfl,o0⟩:=Fv t0;obtain⟨z1,rfl,o1⟩:=Fv t1;obtain⟨z2,rfl,o2⟩:=Fv t2;obtain⟨z3,rfl,o3⟩:=Fv t3;obtain⟨z4,rfl,o4⟩:=Fv t4;obtain⟨z5,rfl,o5⟩:=Fv t5;have hs:∀(j:Nat) u,0 < j->w.cell? (a.add (i*6+j))=some u->w.cell? ⟨(a.add (i*6)).block,(a.add (i*6)).off+j,none⟩=some u:=fun j u hj hc=>Qlq hj hc
  exact⟨⟨z0,z1,z2,z3,z4,z5⟩,⟨by simpa using c0,hs 1 _ (by omega) c1,hs 2 _ (by omega) c2,hs 3 _ (by omega) c3,hs 4 _ (by omega) c4,hs 5 _ (by omega) c5⟩,⟨o0,o1,o2,o3,o4,o5⟩,by have:=World.block_lt_of_cell? w _ c0;rwa [Qr]at this⟩)
 refine⟨l,⟨some a,cap,by rw [zG],by rw [zG];exact hl,hm,fun zQ=>⟨a,rfl,?_,fun k n hk=>(hp k n hk).1⟩⟩,fun n hn=> ?_⟩
 ·obtain⟨n,hn⟩:∃n,l[0]?=some n:=by
   cases l with
   |nil=>exact absurd rfl zQ
   |cons x t=>exact⟨x,rfl⟩
  exact(hp 0 n hn).2.2
 obtain⟨k,hk⟩:=List.getElem?_of_mem hn;exact(hp k n hk).2.1
theorem Qby {z:Int}(h:(Lit.int .u64 z).wf=true):0<=z/\z < 18446744073709551616:=by
 unfold Lit.wf at h;rw [Bool.and_eq_true,decide_eq_true_iff,decide_eq_true_iff]at h;have h1:IntKind.u64.min=0:=by decide+kernel
 have h2:IntKind.u64.max=18446744073709551615:=by decide+kernel
 rw [h1,h2]at h;omega
end
section
variable {H:Type} {enc:TypeId×Value->H} {P:Program}
theorem Qbi {f:Func} {s:ChangeSpec} {apart fresh handsOn again:Bool} {W W':World} {args:Array Value} {v:Value} {ds gs:List (DataW H)} {before pa pv:List MemPlace}
 (hW:DataW.Whole enc P f.params.toList s.vars apart W args.toList ds gs before)
 (oU:∀(b:Nat) (sp:Nat->Bool) (hd:Bool),DataW.TrodAll enc P W' b sp hd f.resultTypes.toList (v.resultList f.resultTypes.size) (s.fn H (ds++gs)).results [])
 (dN:∀sp:Nat->Bool,(∀p∈before,sp p.block=true)->DataW.TrodAll enc P W' 0 sp true f.params.toList args.toList (s.fn H (ds++gs)).args pa)
 (WE:∀sp:Nat->Bool,(∀p∈before,sp p.block=true)->DataW.TrodVars enc P W' sp s.vars (s.fn H (ds++gs)).vars pv)
 (vF:before=pa++pv)(hb:Go.RowKit.Below W.heap.size W W')
 (zP:∀(j:Nat) (t:TypeId) (r:Value),f.resultTypes[j]?=some t->(v.resultList f.resultTypes.size)[j]?=some r->Value.okWide P W' .any 0 t r):
 s.post enc P f apart fresh handsOn again W args v W':=by
 have zJ:∀p∈before,p.block < W.heap.size:=fun p hp=>hW.lt p hp
 have vU:∀p∈before,(fun b=>decide (b < W.heap.size)) p.block=true:=fun p hp=>by simpa using zJ p hp
 refine⟨ds,gs,before,[],pa,pv,hW,oU _ _ _,dN _ vU,WE _ vU,World.keptBut_mono (fun p hp=>⟨hp,?_⟩) (hb.frame (·∈before)),fun _=> ?_⟩
 ·rw [vF,List.mem_append]at hp;exact Or.inr hp
 obtain⟨_,_,_,_,_,hz,hn⟩:=hW;refine⟨zP,_,_,([]++pa)++pv,⟨[]++pa,pv,trodAll_append (dN _ (fun _ _=>rfl)) (oU _ _ _),WE _ (fun _ _=>rfl),rfl,?_,?_⟩,?_⟩
 ·intro b off hp;have rK:MemPlace.cell b off∈before:=by rw [vF];simpa using hp
  rw [hb.frozen (zJ _ rK)];exact hz b off rK
 ·intro ha;have:=hn ha;rw [vF]at this
  simpa using this
 intro p hp _;rw [vF]
 simpa using hp
end
section
variable {H:Type} {enc:TypeId×Value->H} {w:World} {spare:Nat->Bool} {held:Bool}
theorem Qj7 {fuel:Nat} {v:Value} {y:DataW H×List MemPlace}(h:DataW.trod enc Tryz.prog w 0 spare held fuel 23 [v]=some y):∃l,Jn w v l/\∀s∈l,Qm s:=by
 rcases open_ints Tryz.underlying23 Tryz.underlying41 (by kernel_rfl) h with⟨hc,_⟩|⟨a,len,cap,zs,hc,_,hl,hm,hz,_,yR,kY⟩
 ·injection hc with hc _;subst hc;exact⟨[],Qko w,fun s hs=>by cases hs⟩
 injection hc with hc _;subst hc;have J9:len<=zs.length:=by rw [hz];split <;> omega
 have el:((zs.take len).map Int.toNat).length=len:=by simp;omega
 have yU:∀(k z:Nat),((zs.take len).map Int.toNat)[k]?=some z->w.cell? (a.add k)=some (.int .u64 (z:Int)):=fun k z hk=>by
  rw [List.getElem?_map,List.getElem?_take]at hk
  split at hk
  ·cases hq:zs[k]? with
   |none=>rw [hq]at hk;cases hk
   |some q =>
    rw [hq]at hk;obtain rfl:q.toNat=z:=by simpa using hk
    have rJ:=(List.getElem?_eq_some_iff.1 hq).1;have L4:=(Qby (kY q (List.mem_of_getElem? hq))).1;rw [yR k rJ,Qk,hq,Int.toNat_of_nonneg L4];rfl
  cases hk
 refine⟨_,⟨some a,cap,by rw [el],by rw [el];exact hl,hm,fun zQ=>⟨a,rfl,?_,yU⟩⟩,fun s hs=> ?_⟩
 ·obtain⟨z,xH⟩:∃z,((zs.take len).map Int.toNat)[0]?=some z:=by
   cases hq:(zs.take len).map Int.toNat with
   |nil=>exact absurd hq zQ
   |cons x t=>exact⟨x,rfl⟩
  have:=World.block_lt_of_cell? w _ (yU 0 z xH)
  rwa [Qr]at this
 obtain⟨q,hq,rfl⟩:=List.mem_map.1 hs;have:=Qby (kY q (List.mem_of_mem_take hq));show q.toNat < 18446744073709551616;omega
theorem Qb2 {fuel:Nat} {v:Value} {y:DataW H×List MemPlace}(h:DataW.trod enc Tryz.prog w 0 spare held fuel 24 [v]=some y):∃l,Px w v l/\∀r∈l,∀s∈r,Qm s:=by
 rcases open_slice Tryz.underlying24 h with⟨hc,_⟩|⟨a,len,cap,m,n,D,Pl,hc,_,hl,hm,rH,_,hi⟩
 ·injection hc with hc _;subst hc;exact⟨[],⟨none,0,rfl,Nat.le_refl _,by unfold maxLen;omega,fun h=>absurd rfl h⟩,fun r hr=>by cases hr⟩
 injection hc with hc _;subst hc;have hC:Tryz.prog.cellsOf 23=1:=by kernel_rfl
 obtain⟨l,zG,hp⟩:=Qgh (P:=fun i (r:List Nat)=>∃u,w.cell? (a.add i)=some u/\Jn w u r/\(∀s∈r,Qm s)/\a.block < w.heap.size) len (fun i kE=>by
  obtain⟨cs',qA,lO⟩:=hi i (by rw [rH];split <;> omega);rw [hC]at qA;obtain⟨_,yU,yM⟩:=World.cells?_some qA;obtain⟨u,rfl⟩:∃u,cs'= [u]:=by
   cases cs' with
   |nil=>simp at yU
   |cons x t=>cases t with
    |nil=>exact⟨x,rfl⟩
    |cons z t=>simp at yU
  have h0:=yM 0 (by omega);obtain⟨r,hr,hw⟩:=Qj7 lO;have oY:w.cell? (a.add i)=some u:=by
   have:(a.add (i*1)).add 0=a.add i:=by rw [Nat.mul_one];unfold Addr.add;rfl
   rw [this]at h0
   simpa using h0
  refine⟨r,u,oY,hr,hw,?_⟩;have:=World.block_lt_of_cell? w _ oY
  rwa [Qr]at this)
 refine⟨l,⟨some a,cap,by rw [zG],by rw [zG];exact hl,hm,fun zQ=>⟨a,rfl,?_,fun k s hk=> ?_⟩⟩,fun r hr=> ?_⟩
 ·obtain⟨z,xH⟩:∃z,l[0]?=some z:=by
   cases hq:l with
   |nil=>exact absurd hq zQ
   |cons x t=>exact⟨x,rfl⟩
  obtain⟨_,_,_,_,hb⟩:=hp 0 z xH;exact hb
 ·obtain⟨u,h1,h2,_⟩:=hp k s hk;exact⟨u,h1,h2⟩
 obtain⟨k,hk⟩:=List.getElem?_of_mem hr;obtain⟨_,_,_,hw,_⟩:=hp k r hk;exact hw
end
theorem Zj1 {α:Type} {cs:Array α}(h:cs.size=5):∃c0 c1 c2 c3 c4,cs=#[c0,c1,c2,c3,c4]:=by
 obtain⟨l⟩:=cs
 match l,h with
 |[c0,c1,c2,c3,c4],_=>exact⟨c0,c1,c2,c3,c4,rfl⟩
section
variable {H:Type} {enc:TypeId×Value->H} {w:World} {spare:Nat->Bool} {held:Bool}
theorem Qr5 {fuel:Nat} {u0 u1 u2:Value} {y:DataW H×List MemPlace}(h:DataW.trod enc Tryz.prog w 0 spare held fuel 26 [u0,u1,u2]=some y):∃md,Jk w (.agg #[u0,u1,u2]) md/\md.ok:=by
 obtain⟨y0,y1,y2,n,_,_,t0,t1,t2⟩:=trod_struct3 Tryz.underlying26 h;have k0:Tryz.prog.cellsOf 3=1:=by kernel_rfl
 have k1:Tryz.prog.cellsOf 23=1:=by kernel_rfl
 have k2:Tryz.prog.cellsOf 24=1:=by kernel_rfl
 obtain⟨z,rfl,hz⟩:=Fv (v:=u0) (by simpa [k0]using t0);obtain⟨vs,gF,tI⟩:=Qj7 (v:=u1) (by simpa [k1]using t1);obtain⟨rs,lA,mN⟩:=Qb2 (v:=u2) (by simpa [k2]using t2);exact⟨⟨z,vs,rs⟩,⟨_,_,rfl,gF,lA⟩,⟨hz,tI,mN⟩⟩
theorem Qrp {r:Reach} {b0:Nat} {v:Value} {d:DataW H} {p:List MemPlace}(hv:Value.okWide Tryz.prog w r b0 50 v)(h:DataW.Trod enc Tryz.prog w 0 spare held 50 v d p):
 ∃u f n0 n1 n2 md wd,v=.agg #[u,n0,n1,n2,.int .i64 wd]/\Yq w u f/\Jk w (.agg #[n0,n1,n2]) md/\md.ok/\Vp wd:=by
 obtain⟨cs,rfl,mP⟩:=okWide_struct Tryz.underlying50 hv;have hC:Tryz.prog.cellsOf 50=5:=by kernel_rfl
 obtain⟨c0,c1,c2,c3,c4,rfl⟩:=Zj1 (mP.trans hC);obtain⟨fuel,hf⟩:=h;obtain⟨y0,y1,y2,n,_,_,t0,t1,t2⟩:=trod_struct3 Tryz.underlying50 hf;have k0:Tryz.prog.cellsOf 22=1:=by kernel_rfl
 have k1:Tryz.prog.cellsOf 26=3:=by kernel_rfl
 have k2:Tryz.prog.cellsOf 3=1:=by kernel_rfl
 obtain⟨f,nN⟩:=Qro (v:=c0) (by simpa [Value.cells,k0]using t0);obtain⟨md,hm,ho⟩:=Qr5 (u0:=c1) (u1:=c2) (u2:=c3) (by simpa [Value.cells,k1]using t1);obtain⟨wd,rfl,hw⟩:=Fv (v:=c4) (by simpa [Value.cells,k2]using t2);exact⟨c0,f,c1,c2,c3,md,wd,rfl,nN,hm,ho,hw⟩
end
theorem Zv5:Tryz.prog.globalNamed "math/bits.deBruijn64tab" =some 0:=by kernel_rfl
theorem Zkn:(Tryz.prog.globals[0]?).map (·.type)=some 182:=by kernel_rfl
theorem c5Z:Tryz.prog.cellsOf 5=1:=by kernel_rfl
theorem Qsf {W:World}(h:laidMet Tryz.prog [("math/bits.deBruijn64tab",Rows.laid_math_bits_deBruijn64tab)] W):Kb W:=by
 obtain⟨_,⟨g,t,cs,fuel,p,_,hg,ht,hv,hd,_,_⟩,_,_⟩:=h;obtain rfl:=Option.some.inj (Zv5.symm.trans hg);obtain rfl:=Option.some.inj (Zkn.symm.trans ht);have IU:DataW.trod (fun _=>()) Tryz.prog W 0 (fun _=>true) false fuel 182 cs.toList=some (.agg (Qyt.map fun(z:Nat)=> .lit (.int .u8 (z:Int))),p):=hd;obtain⟨xs,m,rfl,hx,zG,uU,hi⟩:=DataW.trod_array Tryz.underlying182 IU;simp only [Prod.mk.injEq,DataW.agg.injEq]at hx;obtain⟨zN,_⟩:=hx;have yR:=fun j=>World.var?_cell hg hv j
 have key:∀k,k < 64->W.cell? ⟨0,k,none⟩=some (.int .u8 ((Qyt.getD k 0:Nat):Int)):=fun k hk=>by
  have h1:=hi k hk;rw [c5Z,Nat.mul_one]at h1;have PS:(xs.map (·.1))[k]?=some (.lit (.int .u8 ((Qyt.getD k 0:Nat):Int))):=by
   rw [<-zN,List.getElem?_map,Qk];have:k < Qyt.length:=hk;rw [Qv this];rfl
  rw [List.getElem?_map]at PS;obtain⟨x,zS,zC⟩:=Option.map_eq_some_iff.1 PS;rw [zS]at h1;obtain⟨z,hc,hy,_⟩:=DataW.trod_int Tryz.underlying5 h1;rw [hy]at zC;simp only [DataW.lit.injEq,Lit.int.injEq,true_and]at zC;have h0:=congrArg (fun q=>q[0]?) hc;simp only [List.getElem?_take,List.getElem?_drop]at h0;rw [yR k,<-Array.getElem?_toList,<-zC]
  simpa using h0
 exact⟨key,World.block_lt_of_cell? W _ (key 0 (by decide))⟩
theorem Qrv {W:World}(h:laidMetH Tryz.prog [("math/bits.deBruijn64tab",Rows.laid_math_bits_deBruijn64tab)] W):Kb W:=by
 rw [Go.MakeChecks.laidMetH_plain _ _ _ rfl]at h;exact Qsf h
end Go.Proofs.YtkmclcmnoicagaaGreatDoor
