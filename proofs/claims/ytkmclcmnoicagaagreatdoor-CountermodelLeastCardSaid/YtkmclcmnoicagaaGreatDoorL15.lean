/- relation.Has at euclidity. -/
import Derived.Test.YtkmclcmnoicagaaGreatDoorL14
namespace Go.Proofs.YtkmclcmnoicagaaGreatDoor
set_option maxRecDepth 100000
set_option maxHeartbeats 128000000
open Go.RowKit
attribute [local go_sem] Oper.semAt_some
def euB(l:List Nat)(k:Nat):Bool:=(Yq (l.getD k 0)).all fun x=>Jr (l.getD k 0) (l.getD x 0)
theorem Qhd {l:List Nat}(hw:∀s∈l,Qp s)(hb:∀k,k < l.length->∀i,(l.getD k 0).testBit i=true->i < l.length):Uq 5 l=true↔∀k,k < l.length->euB l k=true:=by
 rw [Wm];unfold Ky;rw [if_neg (by decide),if_neg (by decide),if_neg (by decide)];unfold Gz euB;constructor
 ·intro h k hk;rw [List.all_eq_true];intro x hx;have zT:=(Nl.1 hx).2;exact h k x hk (hb k hk x zT) zT
 intro h k x hk hx MV;exact List.all_eq_true.1 (h k hk) x (Nl.2 ⟨Qkd (Fa hw k) MV,MV⟩)
def EuI(b:Nat)(wr:World)(l:List Nat)(A:Option Addr)(c k:Nat)(pre:List Nat)(W:World):Prop :=
 Boxed W b 23 (.slice A l.length c)/\Boxed W wr.heap.size 3 (.int .i64 (k:Int))/\Boxed W (b+1) 4 (.bool false)/\Qg wr W/\∀x∈pre,Jr (l.getD k 0) (l.getD x 0)=true
def EuX(b z:Nat)(w:World)(l:List Nat)(k:Nat)(ds:List Deferred)(_:List Nat)(W:World):Prop :=
 Boxed W (b+1) 4 (.bool false)/\Qg w W/\Ee z ds W/\euB l k=false
theorem Zjz {b B z:Nat} {wr:World} {l:List Nat} {A:Option Addr} {c k:Nat}(_h1:b < wr.heap.size)(h2:b+1 < wr.heap.size)(h3:wr.heap.size < B)(h4:wr.heap.size < z):Qtf B z (EuI b wr l A c k):=by
 rintro pre W W' r ⟨g1,g2,g3,g4,g5⟩ hg hr;have q1:r≠b:=by omega
 have q2:r≠wr.heap.size:=by omega
 have q3:r≠b+1:=by omega
 exact⟨g1.kept hg (fun e=>q1 (Option.some.inj e).symm),g2.kept hg (fun e=>q2 (Option.some.inj e).symm),g3.kept hg (fun e=>q3 (Option.some.inj e).symm),g4.grown hg (fun k e=>by have:=Option.some.inj e;omega),g5⟩
theorem Qid {b B z zz:Nat} {w wr:World} {l:List Nat} {k:Nat} {ds:List Deferred}(hm:Ee z ds wr)(h1:w.heap.size<=wr.heap.size)(h2:b+1 < wr.heap.size)(h3:wr.heap.size < B)(h4:wr.heap.size < zz):Qtf B zz (EuX b z w l k ds):=by
 rintro pre W W' r ⟨g1,g2,g3,g4⟩ hg hr;have q3:r≠b+1:=by omega
 refine⟨g1.kept hg (fun e=>q3 (Option.some.inj e).symm),g2.grown hg (fun k e=>by have:=Option.some.inj e;omega),⟨g3.1,fun d hd=> ?_⟩,g4⟩;obtain⟨D,hz,ht,hD⟩:=g3.2 d hd;obtain⟨D',_,kS,EY⟩:=hm.2 d hd;obtain rfl:D=D':=by rw [ht]at kS;injection kS
 have zI:=(Array.getElem?_eq_some_iff.1 EY).1;exact⟨D,hz,ht,(hg.block D (Array.getElem?_eq_some_iff.1 hD).1 (fun e=>by have:=Option.some.inj e;omega)).trans hD⟩
theorem Qxx {z D:Nat} {ds:List Deferred} {wr W:World}(h:Ee z ds wr)(hs:∀d∈ds,∃D',d.target=.collected D'/\W.heap[D']?=some (.deferred (some []))/\D' < D)(hz:z<=D)(hD:W.heap[D]?=some (.deferred (some []))):
 Ee z ({ target:=.collected D,args:=#[] } :: ds) W:=by
 refine⟨List.pairwise_cons.2 ⟨fun d hd e=> ?_,h.1⟩,fun d hd=> ?_⟩
 ·obtain⟨D',q1,_,q3⟩:=hs d hd;rw [q1]at e;injection e with e;omega
 rcases List.mem_cons.1 hd with rfl|hd
 ·exact⟨D,hz,rfl,hD⟩
 obtain⟨D',q1,q2,_⟩:=hs d hd;obtain⟨D2,q4,q5,_⟩:=h.2 d hd;rw [q1]at q5;injection q5 with q5;exact⟨D',by omega,q1,q2⟩
theorem Qeg(v:Value)(l:List Nat)(w:World)(hT:Kk w)(h:Jb w v l)(hw:∀s∈l,Qp s)(zU:Jh l.length l=0):
 Calls Tryz.prog 166 #[v,.int .i64 5] w fun e w'=>e=.returned (.bool (Uq 5 l))/\Qg w w':=by
 have H:=Qq h;have HW:=Qq hw;have yF:=Qq zU;have VU:=Qq hT;have PH:=Qq (Qhd hw (fun k hk i hi=>Qj2 zU hk hi));have sA:=Nx zU;obtain⟨A,c,rfl,_,_,HA⟩:=Vl h;have zL:=Qq (show Qg w ((w.alloc (.cells #[.slice A l.length c] 23)).alloc (.cells #[.bool false] 4))from(Qz.alloc _).alloc _);have vX:=Qq ((Boxed.new w 23 (.slice A l.length c)).alloc (.cells #[.bool false] 4));have wO:=Qq (show Boxed ((w.alloc (.cells #[.slice A l.length c] 23)).alloc (.cells #[.bool false] 4)) (w.heap.size+1) 4 (.bool false) by
  have:=Boxed.new (w.alloc (.cells #[.slice A l.length c] 23)) 4 (.bool false);rw [World.size_alloc]at this;exact this)
 clear hw zU h hT;refine(callsIn_wide (n:=3)).1 ?_;refine callsIn_of_wp_marks Tryz.func166 rfl trivial ?_ rfl;simp only [Tryz.ntmps166,List.size_toArray,List.length_cons,List.length_nil,Nat.reduceAdd,Nat.reduceSub,Array.replicate_succ,Array.replicate_zero,List.push_toArray,List.append_toArray,List.nil_append,List.cons_append]
 gi_wp2_with (refine⟨trivial,?_⟩;gi_at_call 113;refine(callsIn_wide.2 (Gx _ l _ (H.out.ext zL.out) HW.out)).mono ?_;rintro e w2 ⟨rfl,zT⟩;rw [yF.out];have xC:Boxed w2 w.heap.size 23 (.slice A l.length c):=(zT.block vX.out.lt).trans vX.out;have vR:Boxed w2 (w.heap.size+1) 4 (.bool false):=(zT.block wO.out.lt).trans wO.out;have zS:=Qq (zL.out.trans zT);have c2:=xC.cell;have rY:=Qq xC;have qD:=Qq vR;clear zT xC vR)
 refine wpIn_loop (fun a' wr=>∃(k:Nat) (ds:List Deferred) (u7 u8 u67 u68 u69 u70 u71 u72 u73 u74 u75 u76 u77 u78 u79 u80 u81 u82 u83 u84 u85:Value),a'= { tmps:=#[.slice A l.length c,.int .i64 5,.pointer (some ⟨w.heap.size,0,none⟩),undef,.pointer (some ⟨w.heap.size+1,0,none⟩),undef,undef,u7,u8,.slice A l.length c,.int .i64 (l.length:Int),.slice A l.length c,.int .i64 0,.bool false,.int .i64 5,.bool false,.bool false,undef,undef,undef,.bool false,.bool false,undef,undef,undef,undef,undef,undef,undef,undef,undef,undef,undef,undef,undef,undef,.bool false,.bool false,undef,undef,undef,undef,.bool false,.bool false,undef,undef,undef,undef,undef,undef,undef,undef,undef,undef,undef,undef,undef,undef,undef,undef,undef,undef,.bool true,.bool true,.slice A l.length c,.int .i64 (l.length:Int),.int .i64 (k:Int),u67,u68,u69,u70,u71,u72,u73,u74,u75,u76,u77,u78,u79,u80,u81,u82,u83,u84,u85],defers:=ds }/\k<=l.length/\Hid (Qg w2 wr/\Ee w2.heap.size ds wr/\∀i,i < k->euB l i=true)) (fun a' _=>l.length - (intOf (a'.tmps.getD 66 undef)).toNat) ?start ?round
 case start=>exact⟨0,[],undef,undef,undef,undef,undef,undef,undef,undef,undef,undef,undef,undef,undef,undef,undef,undef,undef,undef,undef,undef,undef,rfl,Nat.zero_le _,Qq ⟨Qz,⟨List.Pairwise.nil,fun d hd=>by cases hd⟩,fun i hi=>absurd hi (Nat.not_lt_zero _)⟩⟩
 case round =>
  rintro a' wr ⟨k,ds,u7,u8,u67,u68,u69,u70,u71,u72,u73,u74,u75,u76,u77,u78,u79,u80,u81,u82,u83,u84,u85,rfl,hk,HR⟩;have xC:Boxed wr w.heap.size 23 (.slice A l.length c):=(HR.out.1.block rY.out.lt).trans rY.out;have vR:Boxed wr (w.heap.size+1) 4 (.bool false):=(HR.out.1.block qD.out.lt).trans qD.out;have yZ:=Qq (zS.out.trans HR.out.1);have XJ:=Qq xC;have lT:=Qq vR;by_cases hlt2:k < l.length
  ·have yT:(k:Int) < (l.length:Int):=by omega
   obtain⟨ad,rfl,zV,yR⟩:=HA.out k hlt2;have a0:=(yZ.out.cell (p:=ad.add k) (Qj zV)).trans yR;have al:(ad.add k).block < wr.heap.size:=by rw [Qt];exact Qy zV yZ.out.size
   have c0:=xC.cell;have cl:=xC.lt;have cl3:=vR.lt;obtain⟨z,hz⟩:∃z,z=l.getD k 0:=⟨_,rfl⟩;rw [<-hz]at a0;have HZ:=Qq hz;clear hz xC vR yR
   gi_wp2_with (refine⟨trivial,?_⟩;gi_at_call 176;refine(callsIn_wide.2 (Qxl z _)).mono ?_;rintro e w5 ⟨rfl,rfl⟩)
   have ZQ:Qg wr (wr.alloc (.cells #[.int .i64 (k:Int)] 3)):=Qz.alloc _;have EG:Boxed (wr.alloc (.cells #[.int .i64 (k:Int)] 3)) wr.heap.size 3 (.int .i64 (k:Int)):=Boxed.new _ _ _;have wZ:(wr.alloc (.cells #[.int .i64 (k:Int)] 3)).heap.size=wr.heap.size+1:=by simp
   obtain⟨W0,zB⟩:∃z,z=wr.alloc (.cells #[.int .i64 (k:Int)] 3):=⟨_,rfl⟩;rw [<-zB]at ZQ EG wZ⊢;have sY:Qg wr (W0.alloc (.cells #[.int .u64 (z:Int)] 41)):=ZQ.alloc _;have SC:Boxed (W0.alloc (.cells #[.int .u64 (z:Int)] 41)) W0.heap.size 41 (.int .u64 (z:Int)):=Boxed.new _ _ _;have VB:=EG.alloc (.cells #[.int .u64 (z:Int)] 41);have oA:(W0.alloc (.cells #[.int .u64 (z:Int)] 41)).heap.size=wr.heap.size+1+1:=by simp [wZ]
   obtain⟨W1,tT⟩:∃x,x=W0.alloc (.cells #[.int .u64 (z:Int)] 41):=⟨_,rfl⟩;rw [<-tT]at sY SC VB oA⊢;rw [wZ]at SC;clear zB tT ZQ EG wZ;have hp0:=VU.out.pos;have lX:=yZ.out.size;have yD:=qD.out.lt;have pG:Qp z:=by rw [HZ.out];exact Fa HW.out k
   refine Qhl (n:=3) (gf:=206) (lb:=#[.pointer (some ⟨wr.heap.size+1,0,none⟩)]) rfl (enters_of Tryz.func206 (by kernel_rfl) rfl) (Qs2 (3 - 1) (wr.heap.size+1) z W1 pG (VU.out.ext (yZ.out.trans sY)) (by omega) SC) (Below.refl _ _) (by omega) (by omega) (fun _=>rfl)
    (EuI w.heap.size wr l (some ad) c k) (EuX w.heap.size w2.heap.size w l k ds) ?own ?ownx ?start2 (fun x=> { tmps:=#[.slice (some ad) l.length c,.int .i64 5,.pointer (some ⟨w.heap.size,0,none⟩),undef,.pointer (some ⟨w.heap.size+1,0,none⟩),undef,undef,.pointer (some ⟨wr.heap.size,0,none⟩),.int .i64 (x:Int),.slice (some ad) l.length c,.int .i64 (l.length:Int),.slice (some ad) l.length c,.int .i64 0,.bool false,.int .i64 5,.bool false,.bool false,undef,undef,undef,.bool false,.bool false,undef,undef,undef,undef,undef,undef,undef,undef,undef,undef,undef,undef,undef,undef,.bool false,.bool false,undef,undef,undef,undef,.bool false,.bool false,undef,undef,undef,undef,undef,undef,undef,undef,undef,undef,undef,undef,undef,undef,undef,undef,undef,undef,.bool true,.bool true,.slice (some ad) l.length c,.int .i64 (l.length:Int),.int .i64 (k:Int),.bool true,.int .i64 (k:Int),.slice (some ad) l.length c,.int .i64 (k:Int),.pointer (some (ad.add k)),.int .u64 (z:Int),.func (.func 206) #[] #[.pointer (some ⟨wr.heap.size+1,0,none⟩)],.int .i64 (x:Int),u75,u76,u77,u78,u79,u80,u81,u82,u83,u84,u85],defers:= [] }) ?assign ?body ?done ?stop
   case own=>exact Zjz cl cl3 (by omega) (by omega)
   case ownx=>exact Qid HR.out.2.1 yZ.out.size cl3 (by omega) (by omega)
   case start2 =>
    intro W hW;exact⟨((sY.trans hW).block XJ.out.lt).trans XJ.out,(hW.block VB.lt).trans VB,((sY.trans hW).block lT.out.lt).trans lT.out,sY.trans hW,fun x hx=>by cases hx⟩
   case assign =>
    intro l' x W K hK
    gi_wp2
    exact hK
   case body =>
    rintro l' pre x W ⟨h1,h2,h3,h4,h5⟩ rB;have N2:x∈Yq z:=rB.subset (by simp);have vD:x < l.length:=Qj2 yF.out hlt2 (by rw [<-HZ.out];exact(Nl.1 N2).2);obtain⟨ad',S9,OJ,tK⟩:=HA.out x vD;obtain rfl:ad=ad':=Option.some.inj S9;have c1:=h1.cell;have c2:=h2.cell;have c3:=h3.cell;have f3:=h3.frozen;have BE:=yZ.out.trans h4;have c4:=(h4.cell (p:=ad.add k) al).trans a0;have c5:=(BE.cell (p:=ad.add x) (Qj zV)).trans tK;have LH:(x:Int) < (l.length:Int):=by omega
    have KC:=Vy pG (Fa HW.out x);obtain⟨t,ht⟩:∃t,t=Jr z (l.getD x 0):=⟨_,rfl⟩;have eH:(((Jk z (l.getD x 0):Nat):Int)==0)=t:=by
     rw [ht,show(((Jk z (l.getD x 0):Nat):Int)==0)=(Jk z (l.getD x 0)==0) by rw [Bool.eq_iff_iff,beq_iff_eq,beq_iff_eq];omega,Mk]
    have SI:=Qq ht;obtain⟨y,hy⟩:∃y,y=l.getD x 0:=⟨_,rfl⟩;have V6:=Qq hy;rw [<-hy]at c5 KC eH;obtain⟨d,hd⟩:∃d,d=Jk z y:=⟨_,rfl⟩;rw [<-hd]at KC eH;clear ht hy hd tK S9 OJ;have b1:=h1.lt;have b2:=h2.lt;have b3:=h3.lt;have b4:(ad.add k).block < W.heap.size:=Qy al h4.size;have b5:(ad.add x).block < W.heap.size:=by rw [Qt];exact Qy zV BE.size
    have YD:Tryz.prog.follows .mixedOrders=true:=by kernel_rfl
    have dV:Ee w2.heap.size ds W:=⟨HR.out.2.1.1,fun d hd=>by
     obtain⟨D,q1,q2,q3⟩:=HR.out.2.1.2 d hd;exact⟨D,q1,q2,(h4.block (Array.getElem?_eq_some_iff.1 q3).1).trans q3⟩⟩
    cases t
    ·have DW:((d:Int) !=0)=true:=by simpa using eH
     have L8:=Qq (show euB l k=false by
      unfold euB;rw [List.all_eq_false];exact⟨x,by rw [<-HZ.out];exact N2,by rw [<-HZ.out,<-SI.out];simp⟩)
     gi_wp2
     refine Qjr (S:=fun w'=>w'.cell? (⟨w.heap.size,0,none⟩)=some (.slice (some ad) l.length c)/\w'.cell? (⟨wr.heap.size,0,none⟩)=some (.int .i64 (k:Int))/\w'.cell? (ad.add k)=some (.int .u64 (z:Int))/\w'.cell? (ad.add x)=some (.int .u64 (y:Int))) YD (by kernel_rfl) ?hQ0 ⟨xc b1 c1,xc b2 c2,xc b4 c4,xc b5 c5⟩ (fun zZ=> ?_)
     case hQ0=>(rintro⟨_,_,h⟩;exact(show False from h))
     refine tk 0 zZ ?_;refine tk 1 zZ ?_;refine tk 2 zZ ?_;refine tk 3 zZ ?_;refine tk 4 zZ ?_;refine tk 5 zZ ?_;refine tk 6 zZ ?_;refine tk 7 zZ ?_;refine tk 8 zZ ?_;refine tk 9 zZ ?_;refine wpAnyH_done (by kernel_rfl) ?_ _
     gi_wp2
     refine⟨fun q o' hq ho hc=>(KeepsOthers.setCell W ⟨w.heap.size+1,0,none⟩ _).same q o' ho hc,h3.set _,(BE.setCell (p:=⟨w.heap.size+1,0,none⟩) (by show w.heap.size<=w.heap.size+1;omega) _).drew,⟨dV.1,fun d hd=> ?_⟩,L8.out⟩;obtain⟨D,q1,q2,q3⟩:=dV.2 d hd;exact⟨D,q1,q2,(Below.heap_setCell W ⟨w.heap.size+1,0,none⟩ _ D (by show D≠w.heap.size+1;omega)).trans q3⟩
    have DW:((d:Int) !=0)=false:=by simpa using eH
    gi_wp2
    refine Qjr (S:=fun w'=>w'.cell? (⟨w.heap.size,0,none⟩)=some (.slice (some ad) l.length c)/\w'.cell? (⟨wr.heap.size,0,none⟩)=some (.int .i64 (k:Int))/\w'.cell? (ad.add k)=some (.int .u64 (z:Int))/\w'.cell? (ad.add x)=some (.int .u64 (y:Int))) YD (by kernel_rfl) ?hQ1 ⟨xc b1 c1,xc b2 c2,xc b4 c4,xc b5 c5⟩ (fun zZ=> ?_)
    case hQ1=>(rintro⟨_,_,h⟩;exact(show False from h))
    refine tk 0 zZ ?_;refine tk 1 zZ ?_;refine tk 2 zZ ?_;refine tk 3 zZ ?_;refine tk 4 zZ ?_;refine tk 5 zZ ?_;refine tk 6 zZ ?_;refine tk 7 zZ ?_;refine tk 8 zZ ?_;refine tk 9 zZ ?_;refine wpAnyH_done (by kernel_rfl) ?_ _
    gi_wp2
    exact⟨fun q o' hq ho hc=>ho,⟨Nat.le_refl _,rfl,rfl⟩,h1,h2,h3,h4.drew,fun u hu=>by
     rcases List.mem_append.1 hu with hu|hu
     ·exact h5 u hu
     rw [List.mem_singleton.1 hu,<-HZ.out];exact SI.out.symm⟩
   case done =>
    rintro D W hD ⟨h1,h2,h3,h4,h5⟩ hK;have PS:=Qq (Qxx (z:=w2.heap.size) (D:=D) HR.out.2.1 (fun d hd=>by
     obtain⟨D',q1,q2,q3⟩:=HR.out.2.1.2 d hd;exact⟨D',q2,(h4.block (Array.getElem?_eq_some_iff.1 q3).1).trans q3,by have:=(Array.getElem?_eq_some_iff.1 q3).1;omega⟩) (by have:=HR.out.1.size;omega) hK)
    have L7:=Qq (show ∀i,i < k+1->euB l i=true from fun i hi=>by
     by_cases e:i < k
     ·exact HR.out.2.2 i e
     obtain rfl:i=k:=by omega
     unfold euB;rw [List.all_eq_true,<-HZ.out];intro x hx;have:=h5 x hx;rw [<-HZ.out]at this;exact this)
    gi_wp2
    refine⟨⟨k+1,_,_,_,_,_,_,_,_,_,_,_,_,_,_,_,_,_,_,_,_,_,_,rfl,by omega,Qq ⟨HR.out.1.trans h4,PS.out,L7.out⟩⟩,?_⟩;show l.length - ((k:Int)+1).toNat < l.length - (k:Int).toNat;omega
   case stop =>
    rintro D pre W hD ⟨h1,h2,h3,h4⟩ hK;have PS:=Qxx (z:=w2.heap.size) (D:=D) HR.out.2.1 (fun d hd=>by
     obtain⟨D',q1,q2,q3⟩:=HR.out.2.1.2 d hd;obtain⟨D2,_,q5,q6⟩:=h3.2 d hd;obtain rfl:D'=D2:=by rw [q2]at q5;injection q5
     exact⟨D',q2,q6,by have:=(Array.getElem?_eq_some_iff.1 q3).1;omega⟩) (by have:=HR.out.1.size;omega) hK
    have HE:=Qq (Of fun h=>by have:=PH.out.1 h k hlt2;rw [h4]at this;cases this);show LeavesInM Fence.wide 3 Tryz.prog _ _ _ _ .returning W;refine Ok (z:=w2.heap.size) _ W PS (fun W' eR=>⟨_,Bd Tryz.results166 _ _ rfl (Boxed.cell (show Boxed W' (w.heap.size+1) 4 (.bool false)from(eR.block _ yD).trans h1)) Tryz.underlying4 rfl,by rw [HE.out] <;> rfl,Below.trans h2 (eR.mono zS.out.size)⟩) (by have:=HR.out.1.size;have:=(Array.getElem?_eq_some_iff.1 hK).1;omega)
  obtain rfl:l.length=k:=by omega
  have c0:=vR.cell;have f0:=vR.frozen;have yD:=qD.out.lt;have HE:=Qq (PH.out.2 HR.out.2.2)
  gi_wp2
  have cP:Ee w2.heap.size ds (wr.setCell ⟨w.heap.size+1,0,none⟩ (.bool true)):=⟨HR.out.2.1.1,fun d hd=>by
   obtain⟨D,q1,q2,q3⟩:=HR.out.2.1.2 d hd;exact⟨D,q1,q2,(Below.heap_setCell wr ⟨w.heap.size+1,0,none⟩ _ D (by show D≠w.heap.size+1;omega)).trans q3⟩⟩
  have jR:=yZ.out.setCell (p:=⟨w.heap.size+1,0,none⟩) (by show w.heap.size<=w.heap.size+1;omega) (.bool true);have dH:=(grownBy_setCell' wr (w.heap.size+1) (.bool true)).size;show LeavesInM Fence.wide 3 Tryz.prog _ _ _ _ .returning _;refine Ok (z:=w2.heap.size) _ _ cP (fun W' eR=>⟨_,Bd Tryz.results166 _ _ rfl (Boxed.cell (show Boxed W' (w.heap.size+1) 4 (.bool true)from(eR.block _ yD).trans (lT.out.set _))) Tryz.underlying4 rfl,by rw [HE.out] <;> rfl,Below.trans jR (eR.mono zS.out.size)⟩) (by have:=HR.out.1.size;omega)
end Go.Proofs.YtkmclcmnoicagaaGreatDoor
