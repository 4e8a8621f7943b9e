/- relation.Has at euclidity. -/
import Derived.Test.YtkmclcmnoicagaaGreatDoorH14
namespace Go.Proofs.YtkmclcmnoicagaaGreatDoor
set_option maxRecDepth 100000
set_option maxHeartbeats 128000000
open Go.RowKit
attribute [local go_sem] Oper.semAt_some
def euB(l:List Nat)(k:Nat):Bool:=(Za (l.getD k 0)).all fun x=>Jr (l.getD k 0) (l.getD x 0)
theorem Qh5 {l:List Nat}(hw:∀s∈l,Qm s)(hb:∀k,k < l.length->∀i,(l.getD k 0).testBit i=true->i < l.length):Uf 5 l=true↔∀k,k < l.length->euB l k=true:=by
 rw [Ov];unfold Kg;rw [if_neg (by decide),if_neg (by decide),if_neg (by decide)];unfold Gy euB;constructor
 ·intro h k hk;rw [List.all_eq_true];intro x hx;have zS:=(Ff.1 hx).2;exact h k x hk (hb k hk x zS) zS
 intro h k x hk hx LN;exact List.all_eq_true.1 (h k hk) x (Ff.2 ⟨Qki (Bj hw k) LN,LN⟩)
def EuI(b:Nat)(wr:World)(l:List Nat)(A:Option Addr)(c k:Nat)(pre:List Nat)(W:World):Prop :=
 Boxed W b 23 (.slice A l.length c)/\Boxed W wr.heap.size 3 (.int .i64 (k:Int))/\Boxed W (b+1) 4 (.bool false)/\Qg wr W/\∀x∈pre,Jr (l.getD k 0) (l.getD x 0)=true
def EuX(b z:Nat)(w:World)(l:List Nat)(k:Nat)(ds:List Deferred)(_:List Nat)(W:World):Prop :=
 Boxed W (b+1) 4 (.bool false)/\Qg w W/\Wd z ds W/\euB l k=false
theorem Zj6 {b B z:Nat} {wr:World} {l:List Nat} {A:Option Addr} {c k:Nat}(_h1:b < wr.heap.size)(h2:b+1 < wr.heap.size)(h3:wr.heap.size < B)(h4:wr.heap.size < z):Qti B z (EuI b wr l A c k):=by
 rintro pre W W' r ⟨g1,g2,g3,g4,g5⟩ hg hr;have q1:r≠b:=by omega
 have q2:r≠wr.heap.size:=by omega
 have q3:r≠b+1:=by omega
 exact⟨g1.kept hg (fun e=>q1 (Option.some.inj e).symm),g2.kept hg (fun e=>q2 (Option.some.inj e).symm),g3.kept hg (fun e=>q3 (Option.some.inj e).symm),g4.grown hg (fun k e=>by have:=Option.some.inj e;omega),g5⟩
theorem Zqv {b B z zz:Nat} {w wr:World} {l:List Nat} {k:Nat} {ds:List Deferred}(hm:Wd z ds wr)(h1:w.heap.size<=wr.heap.size)(h2:b+1 < wr.heap.size)(h3:wr.heap.size < B)(h4:wr.heap.size < zz):Qti B zz (EuX b z w l k ds):=by
 rintro pre W W' r ⟨g1,g2,g3,g4⟩ hg hr;have q3:r≠b+1:=by omega
 refine⟨g1.kept hg (fun e=>q3 (Option.some.inj e).symm),g2.grown hg (fun k e=>by have:=Option.some.inj e;omega),⟨g3.1,fun d hd=> ?_⟩,g4⟩;obtain⟨D,hz,ht,hD⟩:=g3.2 d hd;obtain⟨D',_,lO,DQ⟩:=hm.2 d hd;obtain rfl:D=D':=by rw [ht]at lO;injection lO
 have zJ:=(Array.getElem?_eq_some_iff.1 DQ).1;exact⟨D,hz,ht,(hg.block D (Array.getElem?_eq_some_iff.1 hD).1 (fun e=>by have:=Option.some.inj e;omega)).trans hD⟩
theorem Qxe {z D:Nat} {ds:List Deferred} {wr W:World}(h:Wd z ds wr)(hs:∀d∈ds,∃D',d.target=.collected D'/\W.heap[D']?=some (.deferred (some []))/\D' < D)(hz:z<=D)(hD:W.heap[D]?=some (.deferred (some []))):
 Wd z ({ target:=.collected D,args:=#[] } :: ds) W:=by
 refine⟨List.pairwise_cons.2 ⟨fun d hd e=> ?_,h.1⟩,fun d hd=> ?_⟩
 ·obtain⟨D',q1,_,q3⟩:=hs d hd;rw [q1]at e;injection e with e;omega
 rcases List.mem_cons.1 hd with rfl|hd
 ·exact⟨D,hz,rfl,hD⟩
 obtain⟨D',q1,q2,_⟩:=hs d hd;obtain⟨D2,q4,q5,_⟩:=h.2 d hd;rw [q1]at q5;injection q5 with q5;exact⟨D',by omega,q1,q2⟩
theorem Qe7(v:Value)(l:List Nat)(w:World)(hT:Kb w)(h:Jn w v l)(hw:∀s∈l,Qm s)(zU:Jo l.length l=0):
 Calls Tryz.prog 166 #[v,.int .i64 5] w fun e w'=>e=.returned (.bool (Uf 5 l))/\Qg w w':=by
 have H:=Qq h;have HW:=Qq hw;have yD:=Qq zU;have UB:=Qq hT;have NX:=Qq (Qh5 hw (fun k hk i hi=>Qyx zU hk hi));have rI:=Nx zU;obtain⟨A,c,rfl,_,_,HA⟩:=Vf h;have zL:=Qq (show Qg w ((w.alloc (.cells #[.slice A l.length c] 23)).alloc (.cells #[.bool false] 4))from(Qz.alloc _).alloc _);have wL:=Qq ((Boxed.new w 23 (.slice A l.length c)).alloc (.cells #[.bool false] 4));have wT:=Qq (show Boxed ((w.alloc (.cells #[.slice A l.length c] 23)).alloc (.cells #[.bool false] 4)) (w.heap.size+1) 4 (.bool false) by
  have:=Boxed.new (w.alloc (.cells #[.slice A l.length c] 23)) 4 (.bool false);rw [World.size_alloc]at this;exact this)
 clear hw zU h hT;refine(callsIn_wide (n:=3)).1 ?_;refine callsIn_of_wp_marks Tryz.func166 rfl trivial ?_ rfl;simp only [Tryz.ntmps166,List.size_toArray,List.length_cons,List.length_nil,Nat.reduceAdd,Nat.reduceSub,Array.replicate_succ,Array.replicate_zero,List.push_toArray,List.append_toArray,List.nil_append,List.cons_append]
 gi_wp2_with (refine⟨trivial,?_⟩;gi_at_call 113;refine(callsIn_wide.2 (Gb _ l _ (H.out.ext zL.out) HW.out)).mono ?_;rintro e w2 ⟨rfl,zS⟩;rw [yD.out];have xA:Boxed w2 w.heap.size 23 (.slice A l.length c):=(zS.block wL.out.lt).trans wL.out;have vH:Boxed w2 (w.heap.size+1) 4 (.bool false):=(zS.block wT.out.lt).trans wT.out;have zT:=Qq (zL.out.trans zS);have c2:=xA.cell;have rG:=Qq xA;have rF:=Qq vH;clear zS xA vH)
 refine wpIn_loop (fun a' wr=>∃(k:Nat) (ds:List Deferred) (u7 u8 u67 u68 u69 u70 u71 u72 u73 u74 u75 u76 u77 u78 u79 u80 u81 u82 u83 u84 u85:Value),a'= { tmps:=#[.slice A l.length c,.int .i64 5,.pointer (some ⟨w.heap.size,0,none⟩),undef,.pointer (some ⟨w.heap.size+1,0,none⟩),undef,undef,u7,u8,.slice A l.length c,.int .i64 (l.length:Int),.slice A l.length c,.int .i64 0,.bool false,.int .i64 5,.bool false,.bool false,undef,undef,undef,.bool false,.bool false,undef,undef,undef,undef,undef,undef,undef,undef,undef,undef,undef,undef,undef,undef,.bool false,.bool false,undef,undef,undef,undef,.bool false,.bool false,undef,undef,undef,undef,undef,undef,undef,undef,undef,undef,undef,undef,undef,undef,undef,undef,undef,undef,.bool true,.bool true,.slice A l.length c,.int .i64 (l.length:Int),.int .i64 (k:Int),u67,u68,u69,u70,u71,u72,u73,u74,u75,u76,u77,u78,u79,u80,u81,u82,u83,u84,u85],defers:=ds }/\k<=l.length/\Hid (Qg w2 wr/\Wd w2.heap.size ds wr/\∀i,i < k->euB l i=true)) (fun a' _=>l.length - (intOf (a'.tmps.getD 66 undef)).toNat) ?start ?round
 case start=>exact⟨0,[],undef,undef,undef,undef,undef,undef,undef,undef,undef,undef,undef,undef,undef,undef,undef,undef,undef,undef,undef,undef,undef,rfl,Nat.zero_le _,Qq ⟨Qz,⟨List.Pairwise.nil,fun d hd=>by cases hd⟩,fun i hi=>absurd hi (Nat.not_lt_zero _)⟩⟩
 case round =>
  rintro a' wr ⟨k,ds,u7,u8,u67,u68,u69,u70,u71,u72,u73,u74,u75,u76,u77,u78,u79,u80,u81,u82,u83,u84,u85,rfl,hk,HR⟩;have xA:Boxed wr w.heap.size 23 (.slice A l.length c):=(HR.out.1.block rG.out.lt).trans rG.out;have vH:Boxed wr (w.heap.size+1) 4 (.bool false):=(HR.out.1.block rF.out.lt).trans rF.out;have yY:=Qq (zT.out.trans HR.out.1);have VV:=Qq xA;have kW:=Qq vH;by_cases hlt2:k < l.length
  ·have yV:(k:Int) < (l.length:Int):=by omega
   obtain⟨ad,rfl,zV,yU⟩:=HA.out k hlt2;have a0:=(yY.out.cell (p:=ad.add k) (Qj zV)).trans yU;have al:(ad.add k).block < wr.heap.size:=by rw [Qr];exact Qy zV yY.out.size
   have c0:=xA.cell;have cl:=xA.lt;have cl3:=vH.lt;obtain⟨z,hz⟩:∃z,z=l.getD k 0:=⟨_,rfl⟩;rw [<-hz]at a0;have HZ:=Qq hz;clear hz xA vH yU
   gi_wp2_with (refine⟨trivial,?_⟩;gi_at_call 176;refine(callsIn_wide.2 (Qx5 z _)).mono ?_;rintro e w5 ⟨rfl,rfl⟩)
   have YI:Qg wr (wr.alloc (.cells #[.int .i64 (k:Int)] 3)):=Qz.alloc _;have CX:Boxed (wr.alloc (.cells #[.int .i64 (k:Int)] 3)) wr.heap.size 3 (.int .i64 (k:Int)):=Boxed.new _ _ _;have xH:(wr.alloc (.cells #[.int .i64 (k:Int)] 3)).heap.size=wr.heap.size+1:=by simp
   obtain⟨W0,zK⟩:∃z,z=wr.alloc (.cells #[.int .i64 (k:Int)] 3):=⟨_,rfl⟩;rw [<-zK]at YI CX xH⊢;have tI:Qg wr (W0.alloc (.cells #[.int .u64 (z:Int)] 41)):=YI.alloc _;have ZE:Boxed (W0.alloc (.cells #[.int .u64 (z:Int)] 41)) W0.heap.size 41 (.int .u64 (z:Int)):=Boxed.new _ _ _;have TM:=CX.alloc (.cells #[.int .u64 (z:Int)] 41);have oE:(W0.alloc (.cells #[.int .u64 (z:Int)] 41)).heap.size=wr.heap.size+1+1:=by simp [xH]
   obtain⟨W1,tL⟩:∃x,x=W0.alloc (.cells #[.int .u64 (z:Int)] 41):=⟨_,rfl⟩;rw [<-tL]at tI ZE TM oE⊢;rw [xH]at ZE;clear zK tL YI CX xH;have hp0:=UB.out.pos;have mP:=yY.out.size;have xN:=rF.out.lt;have qR:Qm z:=by rw [HZ.out];exact Bj HW.out k
   refine Qaq (n:=3) (gf:=206) (lb:=#[.pointer (some ⟨wr.heap.size+1,0,none⟩)]) rfl (enters_of Tryz.func206 (by kernel_rfl) rfl) (Qtf (3 - 1) (wr.heap.size+1) z W1 qR (UB.out.ext (yY.out.trans tI)) (by omega) ZE) (Below.refl _ _) (by omega) (by omega) (fun _=>rfl)
    (EuI w.heap.size wr l (some ad) c k) (EuX w.heap.size w2.heap.size w l k ds) ?own ?ownx ?start2 (fun x=> { tmps:=#[.slice (some ad) l.length c,.int .i64 5,.pointer (some ⟨w.heap.size,0,none⟩),undef,.pointer (some ⟨w.heap.size+1,0,none⟩),undef,undef,.pointer (some ⟨wr.heap.size,0,none⟩),.int .i64 (x:Int),.slice (some ad) l.length c,.int .i64 (l.length:Int),.slice (some ad) l.length c,.int .i64 0,.bool false,.int .i64 5,.bool false,.bool false,undef,undef,undef,.bool false,.bool false,undef,undef,undef,undef,undef,undef,undef,undef,undef,undef,undef,undef,undef,undef,.bool false,.bool false,undef,undef,undef,undef,.bool false,.bool false,undef,undef,undef,undef,undef,undef,undef,undef,undef,undef,undef,undef,undef,undef,undef,undef,undef,undef,.bool true,.bool true,.slice (some ad) l.length c,.int .i64 (l.length:Int),.int .i64 (k:Int),.bool true,.int .i64 (k:Int),.slice (some ad) l.length c,.int .i64 (k:Int),.pointer (some (ad.add k)),.int .u64 (z:Int),.func (.func 206) #[] #[.pointer (some ⟨wr.heap.size+1,0,none⟩)],.int .i64 (x:Int),u75,u76,u77,u78,u79,u80,u81,u82,u83,u84,u85],defers:= [] }) ?assign ?body ?done ?stop
   case own=>exact Zj6 cl cl3 (by omega) (by omega)
   case ownx=>exact Zqv HR.out.2.1 yY.out.size cl3 (by omega) (by omega)
   case start2 =>
    intro W hW;exact⟨((tI.trans hW).block VV.out.lt).trans VV.out,(hW.block TM.lt).trans TM,((tI.trans hW).block kW.out.lt).trans kW.out,tI.trans hW,fun x hx=>by cases hx⟩
   case assign =>
    intro l' x W K hK
    gi_wp2
    exact hK
   case body =>
    rintro l' pre x W ⟨h1,h2,h3,h4,h5⟩ sS;have K3:x∈Za z:=sS.subset (by simp);have uU:x < l.length:=Qyx yD.out hlt2 (by rw [<-HZ.out];exact(Ff.1 K3).2);obtain⟨ad',P4,NB,uG⟩:=HA.out x uU;obtain rfl:ad=ad':=Option.some.inj P4;have c1:=h1.cell;have c2:=h2.cell;have c3:=h3.cell;have f3:=h3.frozen;have Z8:=yY.out.trans h4;have c4:=(h4.cell (p:=ad.add k) al).trans a0;have c5:=(Z8.cell (p:=ad.add x) (Qj zV)).trans uG;have JV:(x:Int) < (l.length:Int):=by omega
    have IT:=Yg qR (Bj HW.out x);obtain⟨t,ht⟩:∃t,t=Jr z (l.getD x 0):=⟨_,rfl⟩;have dH:(((Zl z (l.getD x 0):Nat):Int)==0)=t:=by
     rw [ht,show(((Zl z (l.getD x 0):Nat):Int)==0)=(Zl z (l.getD x 0)==0) by rw [Bool.eq_iff_iff,beq_iff_eq,beq_iff_eq];omega,Rr]
    have QR:=Qq ht;obtain⟨y,hy⟩:∃y,y=l.getD x 0:=⟨_,rfl⟩;have R9:=Qq hy;rw [<-hy]at c5 IT dH;obtain⟨d,hd⟩:∃d,d=Zl z y:=⟨_,rfl⟩;rw [<-hd]at IT dH;clear ht hy hd uG P4 NB;have b1:=h1.lt;have b2:=h2.lt;have b3:=h3.lt;have b4:(ad.add k).block < W.heap.size:=Qy al h4.size;have b5:(ad.add x).block < W.heap.size:=by rw [Qr];exact Qy zV Z8.size
    have WS:Tryz.prog.follows .mixedOrders=true:=by kernel_rfl
    have fN:Wd w2.heap.size ds W:=⟨HR.out.2.1.1,fun d hd=>by
     obtain⟨D,q1,q2,q3⟩:=HR.out.2.1.2 d hd;exact⟨D,q1,q2,(h4.block (Array.getElem?_eq_some_iff.1 q3).1).trans q3⟩⟩
    cases t
    ·have CO:((d:Int) !=0)=true:=by simpa using dH
     have J2:=Qq (show euB l k=false by
      unfold euB;rw [List.all_eq_false];exact⟨x,by rw [<-HZ.out];exact K3,by rw [<-HZ.out,<-QR.out];simp⟩)
     gi_wp2
     refine Qj0 (S:=fun w'=>w'.cell? (⟨w.heap.size,0,none⟩)=some (.slice (some ad) l.length c)/\w'.cell? (⟨wr.heap.size,0,none⟩)=some (.int .i64 (k:Int))/\w'.cell? (ad.add k)=some (.int .u64 (z:Int))/\w'.cell? (ad.add x)=some (.int .u64 (y:Int))) WS (by kernel_rfl) ?hQ0 ⟨xc b1 c1,xc b2 c2,xc b4 c4,xc b5 c5⟩ (fun zZ=> ?_)
     case hQ0=>(rintro⟨_,_,h⟩;exact(show False from h))
     refine tk 0 zZ ?_;refine tk 1 zZ ?_;refine tk 2 zZ ?_;refine tk 3 zZ ?_;refine tk 4 zZ ?_;refine tk 5 zZ ?_;refine tk 6 zZ ?_;refine tk 7 zZ ?_;refine tk 8 zZ ?_;refine tk 9 zZ ?_;refine wpAnyH_done (by kernel_rfl) ?_ _
     gi_wp2
     refine⟨fun q o' hq ho hc=>(KeepsOthers.setCell W ⟨w.heap.size+1,0,none⟩ _).same q o' ho hc,h3.set _,(Z8.setCell (p:=⟨w.heap.size+1,0,none⟩) (by show w.heap.size<=w.heap.size+1;omega) _).drew,⟨fN.1,fun d hd=> ?_⟩,J2.out⟩;obtain⟨D,q1,q2,q3⟩:=fN.2 d hd;exact⟨D,q1,q2,(Below.heap_setCell W ⟨w.heap.size+1,0,none⟩ _ D (by show D≠w.heap.size+1;omega)).trans q3⟩
    have CO:((d:Int) !=0)=false:=by simpa using dH
    gi_wp2
    refine Qj0 (S:=fun w'=>w'.cell? (⟨w.heap.size,0,none⟩)=some (.slice (some ad) l.length c)/\w'.cell? (⟨wr.heap.size,0,none⟩)=some (.int .i64 (k:Int))/\w'.cell? (ad.add k)=some (.int .u64 (z:Int))/\w'.cell? (ad.add x)=some (.int .u64 (y:Int))) WS (by kernel_rfl) ?hQ1 ⟨xc b1 c1,xc b2 c2,xc b4 c4,xc b5 c5⟩ (fun zZ=> ?_)
    case hQ1=>(rintro⟨_,_,h⟩;exact(show False from h))
    refine tk 0 zZ ?_;refine tk 1 zZ ?_;refine tk 2 zZ ?_;refine tk 3 zZ ?_;refine tk 4 zZ ?_;refine tk 5 zZ ?_;refine tk 6 zZ ?_;refine tk 7 zZ ?_;refine tk 8 zZ ?_;refine tk 9 zZ ?_;refine wpAnyH_done (by kernel_rfl) ?_ _
    gi_wp2
    exact⟨fun q o' hq ho hc=>ho,⟨Nat.le_refl _,rfl,rfl⟩,h1,h2,h3,h4.drew,fun u hu=>by
     rcases List.mem_append.1 hu with hu|hu
     ·exact h5 u hu
     rw [List.mem_singleton.1 hu,<-HZ.out];exact QR.out.symm⟩
   case done =>
    rintro D W hD ⟨h1,h2,h3,h4,h5⟩ hK;have OG:=Qq (Qxe (z:=w2.heap.size) (D:=D) HR.out.2.1 (fun d hd=>by
     obtain⟨D',q1,q2,q3⟩:=HR.out.2.1.2 d hd;exact⟨D',q2,(h4.block (Array.getElem?_eq_some_iff.1 q3).1).trans q3,by have:=(Array.getElem?_eq_some_iff.1 q3).1;omega⟩) (by have:=HR.out.1.size;omega) hK)
    have J1:=Qq (show ∀i,i < k+1->euB l i=true from fun i hi=>by
     by_cases e:i < k
     ·exact HR.out.2.2 i e
     obtain rfl:i=k:=by omega
     unfold euB;rw [List.all_eq_true,<-HZ.out];intro x hx;have:=h5 x hx;rw [<-HZ.out]at this;exact this)
    gi_wp2
    refine⟨⟨k+1,_,_,_,_,_,_,_,_,_,_,_,_,_,_,_,_,_,_,_,_,_,_,rfl,by omega,Qq ⟨HR.out.1.trans h4,OG.out,J1.out⟩⟩,?_⟩;show l.length - ((k:Int)+1).toNat < l.length - (k:Int).toNat;omega
   case stop =>
    rintro D pre W hD ⟨h1,h2,h3,h4⟩ hK;have OG:=Qxe (z:=w2.heap.size) (D:=D) HR.out.2.1 (fun d hd=>by
     obtain⟨D',q1,q2,q3⟩:=HR.out.2.1.2 d hd;obtain⟨D2,_,q5,q6⟩:=h3.2 d hd;obtain rfl:D'=D2:=by rw [q2]at q5;injection q5
     exact⟨D',q2,q6,by have:=(Array.getElem?_eq_some_iff.1 q3).1;omega⟩) (by have:=HR.out.1.size;omega) hK
    have HE:=Qq (Oi fun h=>by have:=NX.out.1 h k hlt2;rw [h4]at this;cases this);show LeavesInM Fence.wide 3 Tryz.prog _ _ _ _ .returning W;refine Oe (z:=w2.heap.size) _ W OG (fun W' dS=>⟨_,Bp Tryz.results166 _ _ rfl (Boxed.cell (show Boxed W' (w.heap.size+1) 4 (.bool false)from(dS.block _ xN).trans h1)) Tryz.underlying4 rfl,by rw [HE.out] <;> rfl,Below.trans h2 (dS.mono zT.out.size)⟩) (by have:=HR.out.1.size;have:=(Array.getElem?_eq_some_iff.1 hK).1;omega)
  obtain rfl:l.length=k:=by omega
  have c0:=vH.cell;have f0:=vH.frozen;have xN:=rF.out.lt;have HE:=Qq (NX.out.2 HR.out.2.2)
  gi_wp2
  have bL:Wd w2.heap.size ds (wr.setCell ⟨w.heap.size+1,0,none⟩ (.bool true)):=⟨HR.out.2.1.1,fun d hd=>by
   obtain⟨D,q1,q2,q3⟩:=HR.out.2.1.2 d hd;exact⟨D,q1,q2,(Below.heap_setCell wr ⟨w.heap.size+1,0,none⟩ _ D (by show D≠w.heap.size+1;omega)).trans q3⟩⟩
  have iT:=yY.out.setCell (p:=⟨w.heap.size+1,0,none⟩) (by show w.heap.size<=w.heap.size+1;omega) (.bool true);have cD:=(grownBy_setCell' wr (w.heap.size+1) (.bool true)).size;show LeavesInM Fence.wide 3 Tryz.prog _ _ _ _ .returning _;refine Oe (z:=w2.heap.size) _ _ bL (fun W' dS=>⟨_,Bp Tryz.results166 _ _ rfl (Boxed.cell (show Boxed W' (w.heap.size+1) 4 (.bool true)from(dS.block _ xN).trans (kW.out.set _))) Tryz.underlying4 rfl,by rw [HE.out] <;> rfl,Below.trans iT (dS.mono zT.out.size)⟩) (by have:=HR.out.1.size;omega)
end Go.Proofs.YtkmclcmnoicagaaGreatDoor
