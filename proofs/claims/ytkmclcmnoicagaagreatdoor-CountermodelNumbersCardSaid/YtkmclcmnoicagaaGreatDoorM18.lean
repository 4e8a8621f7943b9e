/- relation.Has at euclidity. -/
import Derived.Test.YtkmclcmnoicagaaGreatDoorM01
import Derived.Test.YtkmclcmnoicagaaGreatDoorM16
namespace Go.Proofs.YtkmclcmnoicagaaGreatDoor
set_option maxRecDepth 100000
set_option maxHeartbeats 128000000
open Go.RowKit
attribute [local go_sem] Oper.semAt_some
def euB(l:List Nat)(k:Nat):Bool:=(Zc (l.getD k 0)).all fun x=>Ym (l.getD k 0) (l.getD x 0)
theorem Qm2 {l:List Nat}(hw:∀s∈l,Qw s)(hb:∀k,k < l.length->∀i,(l.getD k 0).testBit i=true->i < l.length):Gb 5 l=true↔∀k,k < l.length->euB l k=true:=by
 rw [Hq];unfold Ns;rw [if_neg (by decide),if_neg (by decide),if_neg (by decide)];unfold Gl euB;constructor
 ·intro h k hk;rw [List.all_eq_true];intro x hx;have hx2:=(Bd.1 hx).2;exact h k x hk (hb k hk x hx2) hx2
 intro h k x hk hx hkx;exact List.all_eq_true.1 (h k hk) x (Bd.2 ⟨Qyn (Uc hw k) hkx,hkx⟩)
def EuI(b:Nat)(wr:World)(l:List Nat)(A:Option Addr)(c k:Nat)(pre:List Nat)(W:World):Prop :=
 Boxed W b 23 (.slice A l.length c)/\Boxed W wr.heap.size 3 (.int .i64 (k:Int))/\Boxed W (b+1) 4 (.bool false)/\Ext wr W/\∀x∈pre,Ym (l.getD k 0) (l.getD x 0)=true
def EuX(b z:Nat)(w:World)(l:List Nat)(k:Nat)(ds:List Deferred)(_:List Nat)(W:World):Prop :=
 Boxed W (b+1) 4 (.bool false)/\Ext w W/\Cg z ds W/\euB l k=false
theorem Qig {b B z:Nat} {wr:World} {l:List Nat} {A:Option Addr} {c k:Nat}(_h1:b < wr.heap.size)(h2:b+1 < wr.heap.size)(h3:wr.heap.size < B)(h4:wr.heap.size < z):Qrj B z (EuI b wr l A c k):=by
 rintro pre W W' r ⟨g1,g2,g3,g4,g5⟩ hg hr;have q1:r≠b:=by omega
 have q2:r≠wr.heap.size:=by omega
 have q3:r≠b+1:=by omega
 exact⟨g1.kept hg (fun e=>q1 (Option.some.inj e).symm),g2.kept hg (fun e=>q2 (Option.some.inj e).symm),g3.kept hg (fun e=>q3 (Option.some.inj e).symm),g4.grown hg (fun k e=>by have:=Option.some.inj e;omega),g5⟩
theorem Qex {b B z zz:Nat} {w wr:World} {l:List Nat} {k:Nat} {ds:List Deferred}(hm:Cg z ds wr)(h1:w.heap.size<=wr.heap.size)(h2:b+1 < wr.heap.size)(h3:wr.heap.size < B)(h4:wr.heap.size < zz):Qrj B zz (EuX b z w l k ds):=by
 rintro pre W W' r ⟨g1,g2,g3,g4⟩ hg hr;have q3:r≠b+1:=by omega
 refine⟨g1.kept hg (fun e=>q3 (Option.some.inj e).symm),g2.grown hg (fun k e=>by have:=Option.some.inj e;omega),⟨g3.1,fun d hd=> ?_⟩,g4⟩;obtain⟨D,hz,ht,hD⟩:=g3.2 d hd;obtain⟨D',_,ht',hD'⟩:=hm.2 d hd;obtain rfl:D=D':=by rw [ht]at ht';injection ht'
 have hlt:=(Array.getElem?_eq_some_iff.1 hD').1;exact⟨D,hz,ht,(hg.block D (Array.getElem?_eq_some_iff.1 hD).1 (fun e=>by have:=Option.some.inj e;omega)).trans hD⟩
theorem Qvf {z D:Nat} {ds:List Deferred} {wr W:World}(h:Cg z ds wr)(hs:∀d∈ds,∃D',d.target=.collected D'/\W.heap[D']?=some (.deferred (some []))/\D' < D)(hz:z<=D)(hD:W.heap[D]?=some (.deferred (some []))):
 Cg z ({ target:=.collected D,args:=#[] } :: ds) W:=by
 refine⟨List.pairwise_cons.2 ⟨fun d hd e=> ?_,h.1⟩,fun d hd=> ?_⟩
 ·obtain⟨D',q1,_,q3⟩:=hs d hd;rw [q1]at e;injection e with e;omega
 rcases List.mem_cons.1 hd with rfl|hd
 ·exact⟨D,hz,rfl,hD⟩
 obtain⟨D',q1,q2,_⟩:=hs d hd;obtain⟨D2,q4,q5,_⟩:=h.2 d hd;rw [q1]at q5;injection q5 with q5;exact⟨D',by omega,q1,q2⟩
theorem Qch(v:Value)(l:List Nat)(w:World)(hT:Vf w)(h:Jv w v l)(hw:∀s∈l,Qw s)(hck:Vz l.length l=0):
 Calls Tryz.prog 166 #[v,.int .i64 5] w fun e w'=>e=.returned (.bool (Gb 5 l))/\Ext w w':=by
 have H:=Qq h;have HW:=Qq hw;have HCK:=Qq hck;have HTZ:=Qq hT;have HPR:=Qq (Qm2 hw (fun k hk i hi=>Qqm hck hk hi));have hl64:=Bx hck;obtain⟨A,c,rfl,_,_,HA⟩:=Gy h;have HX0:=Qq (show Ext w ((w.alloc (.cells #[.slice A l.length c] 23)).alloc (.cells #[.bool false] 4))from(Qz.alloc _).alloc _);have HB0:=Qq ((Boxed.new w 23 (.slice A l.length c)).alloc (.cells #[.bool false] 4));have HB1:=Qq (show Boxed ((w.alloc (.cells #[.slice A l.length c] 23)).alloc (.cells #[.bool false] 4)) (w.heap.size+1) 4 (.bool false) by
  have:=Boxed.new (w.alloc (.cells #[.slice A l.length c] 23)) 4 (.bool false);rw [World.size_alloc]at this;exact this)
 clear hw hck h hT;refine(callsIn_wide (n:=3)).1 ?_;refine callsIn_of_wp_marks Tryz.func166 rfl trivial ?_ rfl;simp only [Tryz.ntmps166,List.size_toArray,List.length_cons,List.length_nil,Nat.reduceAdd,Nat.reduceSub,Array.replicate_succ,Array.replicate_zero,List.push_toArray,List.append_toArray,List.nil_append,List.cons_append]
 gi_wp2_with (refine⟨trivial,?_⟩;gi_at_call 113;refine(callsIn_wide.2 (Xm _ l _ (H.out.ext HX0.out) HW.out)).mono ?_;rintro e w2 ⟨rfl,hx2⟩;rw [HCK.out];have hb2:Boxed w2 w.heap.size 23 (.slice A l.length c):=(hx2.block HB0.out.lt).trans HB0.out;have hb3:Boxed w2 (w.heap.size+1) 4 (.bool false):=(hx2.block HB1.out.lt).trans HB1.out;have HX2:=Qq (HX0.out.trans hx2);have c2:=hb2.cell;have HB2:=Qq hb2;have HB3:=Qq hb3;clear hx2 hb2 hb3)
 refine wpIn_loop (fun a' wr=>∃(k:Nat) (ds:List Deferred) (u7 u8 u67 u68 u69 u70 u71 u72 u73 u74 u75 u76 u77 u78 u79 u80 u81 u82 u83 u84 u85:Value),a'= { tmps:=#[.slice A l.length c,.int .i64 5,.pointer (some ⟨w.heap.size,0,none⟩),undef,.pointer (some ⟨w.heap.size+1,0,none⟩),undef,undef,u7,u8,.slice A l.length c,.int .i64 (l.length:Int),.slice A l.length c,.int .i64 0,.bool false,.int .i64 5,.bool false,.bool false,undef,undef,undef,.bool false,.bool false,undef,undef,undef,undef,undef,undef,undef,undef,undef,undef,undef,undef,undef,undef,.bool false,.bool false,undef,undef,undef,undef,.bool false,.bool false,undef,undef,undef,undef,undef,undef,undef,undef,undef,undef,undef,undef,undef,undef,undef,undef,undef,undef,.bool true,.bool true,.slice A l.length c,.int .i64 (l.length:Int),.int .i64 (k:Int),u67,u68,u69,u70,u71,u72,u73,u74,u75,u76,u77,u78,u79,u80,u81,u82,u83,u84,u85],defers:=ds }/\k<=l.length/\Hid (Ext w2 wr/\Cg w2.heap.size ds wr/\∀i,i < k->euB l i=true)) (fun a' _=>l.length - (intOf (a'.tmps.getD 66 undef)).toNat) ?start ?round
 case start=>exact⟨0,[],undef,undef,undef,undef,undef,undef,undef,undef,undef,undef,undef,undef,undef,undef,undef,undef,undef,undef,undef,undef,undef,rfl,Nat.zero_le _,Qq ⟨Qz,⟨List.Pairwise.nil,fun d hd=>by cases hd⟩,fun i hi=>absurd hi (Nat.not_lt_zero _)⟩⟩
 case round =>
  rintro a' wr ⟨k,ds,u7,u8,u67,u68,u69,u70,u71,u72,u73,u74,u75,u76,u77,u78,u79,u80,u81,u82,u83,u84,u85,rfl,hk,HR⟩;have hb2:Boxed wr w.heap.size 23 (.slice A l.length c):=(HR.out.1.block HB2.out.lt).trans HB2.out;have hb3:Boxed wr (w.heap.size+1) 4 (.bool false):=(HR.out.1.block HB3.out.lt).trans HB3.out;have HXW:=Qq (HX2.out.trans HR.out.1);have HB2W:=Qq hb2;have HB3W:=Qq hb3;by_cases hlt2:k < l.length
  ·have hk1:(k:Int) < (l.length:Int):=by omega
   obtain⟨ad,rfl,hadl,hcl⟩:=HA.out k hlt2;have a0:=(HXW.out.cell (p:=ad.add k) (Qj hadl)).trans hcl;have al:(ad.add k).block < wr.heap.size:=by rw [Qc];exact Qy hadl HXW.out.size
   have c0:=hb2.cell;have cl:=hb2.lt;have cl3:=hb3.lt;obtain⟨z,hz⟩:∃z,z=l.getD k 0:=⟨_,rfl⟩;rw [<-hz]at a0;have HZ:=Qq hz;clear hz hb2 hb3 hcl
   gi_wp2_with (refine⟨trivial,?_⟩;gi_at_call 176;refine(callsIn_wide.2 (Qvc z _)).mono ?_;rintro e w5 ⟨rfl,rfl⟩)
   have hw0:Ext wr (wr.alloc (.cells #[.int .i64 (k:Int)] 3)):=Qz.alloc _;have hbk:Boxed (wr.alloc (.cells #[.int .i64 (k:Int)] 3)) wr.heap.size 3 (.int .i64 (k:Int)):=Boxed.new _ _ _;have hz0:(wr.alloc (.cells #[.int .i64 (k:Int)] 3)).heap.size=wr.heap.size+1:=by simp
   obtain⟨W0,hW0⟩:∃z,z=wr.alloc (.cells #[.int .i64 (k:Int)] 3):=⟨_,rfl⟩;rw [<-hW0]at hw0 hbk hz0⊢;have hw1:Ext wr (W0.alloc (.cells #[.int .u64 (z:Int)] 41)):=hw0.alloc _;have hbp:Boxed (W0.alloc (.cells #[.int .u64 (z:Int)] 41)) W0.heap.size 41 (.int .u64 (z:Int)):=Boxed.new _ _ _;have hbk1:=hbk.alloc (.cells #[.int .u64 (z:Int)] 41);have hz1:(W0.alloc (.cells #[.int .u64 (z:Int)] 41)).heap.size=wr.heap.size+1+1:=by simp [hz0]
   obtain⟨W1,hW1⟩:∃x,x=W0.alloc (.cells #[.int .u64 (z:Int)] 41):=⟨_,rfl⟩;rw [<-hW1]at hw1 hbp hbk1 hz1⊢;rw [hz0]at hbp;clear hW0 hW1 hw0 hbk hz0;have hp0:=HTZ.out.pos;have hsz:=HXW.out.size;have hs2:=HB3.out.lt;have hwk:Qw z:=by rw [HZ.out];exact Uc HW.out k
   refine Qm4 (n:=3) (gf:=206) (lb:=#[.pointer (some ⟨wr.heap.size+1,0,none⟩)]) rfl (enters_of Tryz.func206 (by kernel_rfl) rfl) (Qn2 (3 - 1) (wr.heap.size+1) z W1 hwk (HTZ.out.ext (HXW.out.trans hw1)) (by omega) hbp) (Below.refl _ _) (by omega) (by omega) (fun _=>rfl)
    (EuI w.heap.size wr l (some ad) c k) (EuX w.heap.size w2.heap.size w l k ds) ?own ?ownx ?start2 (fun x=> { tmps:=#[.slice (some ad) l.length c,.int .i64 5,.pointer (some ⟨w.heap.size,0,none⟩),undef,.pointer (some ⟨w.heap.size+1,0,none⟩),undef,undef,.pointer (some ⟨wr.heap.size,0,none⟩),.int .i64 (x:Int),.slice (some ad) l.length c,.int .i64 (l.length:Int),.slice (some ad) l.length c,.int .i64 0,.bool false,.int .i64 5,.bool false,.bool false,undef,undef,undef,.bool false,.bool false,undef,undef,undef,undef,undef,undef,undef,undef,undef,undef,undef,undef,undef,undef,.bool false,.bool false,undef,undef,undef,undef,.bool false,.bool false,undef,undef,undef,undef,undef,undef,undef,undef,undef,undef,undef,undef,undef,undef,undef,undef,undef,undef,.bool true,.bool true,.slice (some ad) l.length c,.int .i64 (l.length:Int),.int .i64 (k:Int),.bool true,.int .i64 (k:Int),.slice (some ad) l.length c,.int .i64 (k:Int),.pointer (some (ad.add k)),.int .u64 (z:Int),.func (.func 206) #[] #[.pointer (some ⟨wr.heap.size+1,0,none⟩)],.int .i64 (x:Int),u75,u76,u77,u78,u79,u80,u81,u82,u83,u84,u85],defers:= [] }) ?assign ?body ?done ?stop
   case own=>exact Qig cl cl3 (by omega) (by omega)
   case ownx=>exact Qex HR.out.2.1 HXW.out.size cl3 (by omega) (by omega)
   case start2 =>
    intro W hW;exact⟨((hw1.trans hW).block HB2W.out.lt).trans HB2W.out,(hW.block hbk1.lt).trans hbk1,((hw1.trans hW).block HB3W.out.lt).trans HB3W.out,hw1.trans hW,fun x hx=>by cases hx⟩
   case assign =>
    intro l' x W K hK
    gi_wp2
    exact hK
   case body =>
    rintro l' pre x W ⟨h1,h2,h3,h4,h5⟩ hpre;have hxm:x∈Zc z:=hpre.subset (by simp);have hxl:x < l.length:=Qqm HCK.out hlt2 (by rw [<-HZ.out];exact(Bd.1 hxm).2);obtain⟨ad',he',hadl',hcz⟩:=HA.out x hxl;obtain rfl:ad=ad':=Option.some.inj he';have c1:=h1.cell;have c2:=h2.cell;have c3:=h3.cell;have f3:=h3.frozen;have hww:=HXW.out.trans h4;have c4:=(h4.cell (p:=ad.add k) al).trans a0;have c5:=(hww.cell (p:=ad.add x) (Qj hadl)).trans hcz;have hxl1:(x:Int) < (l.length:Int):=by omega
    have hdf:=Vi hwk (Uc HW.out x);obtain⟨t,ht⟩:∃t,t=Ym z (l.getD x 0):=⟨_,rfl⟩;have hdd:(((Jz z (l.getD x 0):Nat):Int)==0)=t:=by
     rw [ht,show(((Jz z (l.getD x 0):Nat):Int)==0)=(Jz z (l.getD x 0)==0) by rw [Bool.eq_iff_iff,beq_iff_eq,beq_iff_eq];omega,Tq]
    have HTT:=Qq ht;obtain⟨y,hy⟩:∃y,y=l.getD x 0:=⟨_,rfl⟩;have HYY:=Qq hy;rw [<-hy]at c5 hdf hdd;obtain⟨d,hd⟩:∃d,d=Jz z y:=⟨_,rfl⟩;rw [<-hd]at hdf hdd;clear ht hy hd hcz he' hadl';have b1:=h1.lt;have b2:=h2.lt;have b3:=h3.lt;have b4:(ad.add k).block < W.heap.size:=Qy al h4.size;have b5:(ad.add x).block < W.heap.size:=by rw [Qc];exact Qy hadl hww.size
    have hmx:Tryz.prog.follows .mixedOrders=true:=by kernel_rfl
    have hmk:Cg w2.heap.size ds W:=⟨HR.out.2.1.1,fun d hd=>by
     obtain⟨D,q1,q2,q3⟩:=HR.out.2.1.2 d hd;exact⟨D,q1,q2,(h4.block (Array.getElem?_eq_some_iff.1 q3).1).trans q3⟩⟩
    cases t
    ·have hde:((d:Int) !=0)=true:=by simpa using hdd
     have HEF:=Qq (show euB l k=false by
      unfold euB;rw [List.all_eq_false];exact⟨x,by rw [<-HZ.out];exact hxm,by rw [<-HZ.out,<-HTT.out];simp⟩)
     gi_wp2
     refine Qqj (S:=fun w'=>w'.cell? (⟨w.heap.size,0,none⟩)=some (.slice (some ad) l.length c)/\w'.cell? (⟨wr.heap.size,0,none⟩)=some (.int .i64 (k:Int))/\w'.cell? (ad.add k)=some (.int .u64 (z:Int))/\w'.cell? (ad.add x)=some (.int .u64 (y:Int))) hmx (by kernel_rfl) ?hQ0 ⟨(Ext.cell (p:=⟨w.heap.size,0,none⟩) (by repeat(first|exact Qz|assumption|apply Ext.alloc|apply Ext.drew)) b1).trans c1,(Ext.cell (p:=⟨wr.heap.size,0,none⟩) (by repeat(first|exact Qz|assumption|apply Ext.alloc|apply Ext.drew)) b2).trans c2,(Ext.cell (p:=ad.add k) (by repeat(first|exact Qz|assumption|apply Ext.alloc|apply Ext.drew)) b4).trans c4,(Ext.cell (p:=ad.add x) (by repeat(first|exact Qz|assumption|apply Ext.alloc|apply Ext.drew)) b5).trans c5⟩ (fun hHeld=> ?_)
     case hQ0=>(rintro⟨_,_,h⟩;exact(show False from h))
     refine' wpAnyH_take (i:=0) (v:=_) rfl (by kernel_rfl) (by kernel_rfl) (by kernel_rfl) (fun _ _ _ h=>h) (Or.inl ⟨by rfl,?hybw10⟩) hHeld ?restbw10
     case hybw10=>(intro w' hSw;(try dsimp only at hSw);go_simp;(try with_reducible rfl))
     refine Qd ?_;refine' wpAnyH_take (i:=1) (v:=_) rfl (by kernel_rfl) (by kernel_rfl) (by kernel_rfl) (fun _ _ _ h=>h) (Or.inl ⟨by rfl,?hybw11⟩) hHeld ?restbw11
     case hybw11=>(intro w' hSw;(try dsimp only at hSw);go_simp;(try with_reducible rfl))
     refine Qd ?_;refine' wpAnyH_take (i:=2) (v:=_) rfl (by kernel_rfl) (by kernel_rfl) (by kernel_rfl) (fun _ _ _ h=>h) (Or.inl ⟨by rfl,?hybw12⟩) hHeld ?restbw12
     case hybw12=>(intro w' hSw;(try dsimp only at hSw);go_simp;(try with_reducible rfl))
     refine Qd ?_;refine' wpAnyH_take (i:=3) (v:=_) rfl (by kernel_rfl) (by kernel_rfl) (by kernel_rfl) (fun _ _ _ h=>h) (Or.inl ⟨by rfl,?hybw13⟩) hHeld ?restbw13
     case hybw13=>(intro w' hSw;(try dsimp only at hSw);go_simp;(try with_reducible rfl))
     refine Qd ?_;refine' wpAnyH_take (i:=4) (v:=_) rfl (by kernel_rfl) (by kernel_rfl) (by kernel_rfl) (fun _ _ _ h=>h) (Or.inl ⟨by rfl,?hybw14⟩) hHeld ?restbw14
     case hybw14=>(intro w' hSw;(try dsimp only at hSw);go_simp;(try with_reducible rfl))
     refine Qd ?_;refine' wpAnyH_take (i:=5) (v:=_) rfl (by kernel_rfl) (by kernel_rfl) (by kernel_rfl) (fun _ _ _ h=>h) (Or.inl ⟨by rfl,?hybw15⟩) hHeld ?restbw15
     case hybw15=>(intro w' hSw;(try dsimp only at hSw);go_simp;(try with_reducible rfl))
     refine Qd ?_;refine' wpAnyH_take (i:=6) (v:=_) rfl (by kernel_rfl) (by kernel_rfl) (by kernel_rfl) (fun _ _ _ h=>h) (Or.inl ⟨by rfl,?hybw16⟩) hHeld ?restbw16
     case hybw16=>(intro w' hSw;(try dsimp only at hSw);go_simp;(try with_reducible rfl))
     refine Qd ?_;refine' wpAnyH_take (i:=7) (v:=_) rfl (by kernel_rfl) (by kernel_rfl) (by kernel_rfl) (fun _ _ _ h=>h) (Or.inl ⟨by rfl,?hybw17⟩) hHeld ?restbw17
     case hybw17=>(intro w' hSw;(try dsimp only at hSw);go_simp;(try with_reducible rfl))
     refine Qd ?_;refine' wpAnyH_take (i:=8) (v:=_) rfl (by kernel_rfl) (by kernel_rfl) (by kernel_rfl) (fun _ _ _ h=>h) (Or.inl ⟨by rfl,?hybw18⟩) hHeld ?restbw18
     case hybw18=>(intro w' hSw;(try dsimp only at hSw);go_simp;(try with_reducible rfl))
     refine Qd ?_;refine' wpAnyH_take (i:=9) (v:=_) rfl (by kernel_rfl) (by kernel_rfl) (by kernel_rfl) (fun _ _ _ h=>h) (Or.inl ⟨by rfl,?hybw19⟩) hHeld ?restbw19
     case hybw19=>(intro w' hSw;(try dsimp only at hSw);go_simp;(try with_reducible rfl))
     refine Qd ?_;refine wpAnyH_done (by kernel_rfl) ?_ _
     gi_wp2
     refine⟨fun q o' hq ho hc=>(KeepsOthers.setCell W ⟨w.heap.size+1,0,none⟩ _).same q o' ho hc,h3.set _,(hww.setCell (p:=⟨w.heap.size+1,0,none⟩) (by show w.heap.size<=w.heap.size+1;omega) _).drew,⟨hmk.1,fun d hd=> ?_⟩,HEF.out⟩;obtain⟨D,q1,q2,q3⟩:=hmk.2 d hd;exact⟨D,q1,q2,(Below.heap_setCell W ⟨w.heap.size+1,0,none⟩ _ D (by show D≠w.heap.size+1;omega)).trans q3⟩
    have hde:((d:Int) !=0)=false:=by simpa using hdd
    gi_wp2
    refine Qqj (S:=fun w'=>w'.cell? (⟨w.heap.size,0,none⟩)=some (.slice (some ad) l.length c)/\w'.cell? (⟨wr.heap.size,0,none⟩)=some (.int .i64 (k:Int))/\w'.cell? (ad.add k)=some (.int .u64 (z:Int))/\w'.cell? (ad.add x)=some (.int .u64 (y:Int))) hmx (by kernel_rfl) ?hQ1 ⟨(Ext.cell (p:=⟨w.heap.size,0,none⟩) (by repeat(first|exact Qz|assumption|apply Ext.alloc|apply Ext.drew)) b1).trans c1,(Ext.cell (p:=⟨wr.heap.size,0,none⟩) (by repeat(first|exact Qz|assumption|apply Ext.alloc|apply Ext.drew)) b2).trans c2,(Ext.cell (p:=ad.add k) (by repeat(first|exact Qz|assumption|apply Ext.alloc|apply Ext.drew)) b4).trans c4,(Ext.cell (p:=ad.add x) (by repeat(first|exact Qz|assumption|apply Ext.alloc|apply Ext.drew)) b5).trans c5⟩ (fun hHeld=> ?_)
    case hQ1=>(rintro⟨_,_,h⟩;exact(show False from h))
    refine' wpAnyH_take (i:=0) (v:=_) rfl (by kernel_rfl) (by kernel_rfl) (by kernel_rfl) (fun _ _ _ h=>h) (Or.inl ⟨by rfl,?hycw20⟩) hHeld ?restcw20
    case hycw20=>(intro w' hSw;(try dsimp only at hSw);go_simp;(try with_reducible rfl))
    refine Qd ?_;refine' wpAnyH_take (i:=1) (v:=_) rfl (by kernel_rfl) (by kernel_rfl) (by kernel_rfl) (fun _ _ _ h=>h) (Or.inl ⟨by rfl,?hycw21⟩) hHeld ?restcw21
    case hycw21=>(intro w' hSw;(try dsimp only at hSw);go_simp;(try with_reducible rfl))
    refine Qd ?_;refine' wpAnyH_take (i:=2) (v:=_) rfl (by kernel_rfl) (by kernel_rfl) (by kernel_rfl) (fun _ _ _ h=>h) (Or.inl ⟨by rfl,?hycw22⟩) hHeld ?restcw22
    case hycw22=>(intro w' hSw;(try dsimp only at hSw);go_simp;(try with_reducible rfl))
    refine Qd ?_;refine' wpAnyH_take (i:=3) (v:=_) rfl (by kernel_rfl) (by kernel_rfl) (by kernel_rfl) (fun _ _ _ h=>h) (Or.inl ⟨by rfl,?hycw23⟩) hHeld ?restcw23
    case hycw23=>(intro w' hSw;(try dsimp only at hSw);go_simp;(try with_reducible rfl))
    refine Qd ?_;refine' wpAnyH_take (i:=4) (v:=_) rfl (by kernel_rfl) (by kernel_rfl) (by kernel_rfl) (fun _ _ _ h=>h) (Or.inl ⟨by rfl,?hycw24⟩) hHeld ?restcw24
    case hycw24=>(intro w' hSw;(try dsimp only at hSw);go_simp;(try with_reducible rfl))
    refine Qd ?_;refine' wpAnyH_take (i:=5) (v:=_) rfl (by kernel_rfl) (by kernel_rfl) (by kernel_rfl) (fun _ _ _ h=>h) (Or.inl ⟨by rfl,?hycw25⟩) hHeld ?restcw25
    case hycw25=>(intro w' hSw;(try dsimp only at hSw);go_simp;(try with_reducible rfl))
    refine Qd ?_;refine' wpAnyH_take (i:=6) (v:=_) rfl (by kernel_rfl) (by kernel_rfl) (by kernel_rfl) (fun _ _ _ h=>h) (Or.inl ⟨by rfl,?hycw26⟩) hHeld ?restcw26
    case hycw26=>(intro w' hSw;(try dsimp only at hSw);go_simp;(try with_reducible rfl))
    refine Qd ?_;refine' wpAnyH_take (i:=7) (v:=_) rfl (by kernel_rfl) (by kernel_rfl) (by kernel_rfl) (fun _ _ _ h=>h) (Or.inl ⟨by rfl,?hycw27⟩) hHeld ?restcw27
    case hycw27=>(intro w' hSw;(try dsimp only at hSw);go_simp;(try with_reducible rfl))
    refine Qd ?_;refine' wpAnyH_take (i:=8) (v:=_) rfl (by kernel_rfl) (by kernel_rfl) (by kernel_rfl) (fun _ _ _ h=>h) (Or.inl ⟨by rfl,?hycw28⟩) hHeld ?restcw28
    case hycw28=>(intro w' hSw;(try dsimp only at hSw);go_simp;(try with_reducible rfl))
    refine Qd ?_;refine' wpAnyH_take (i:=9) (v:=_) rfl (by kernel_rfl) (by kernel_rfl) (by kernel_rfl) (fun _ _ _ h=>h) (Or.inl ⟨by rfl,?hycw29⟩) hHeld ?restcw29
    case hycw29=>(intro w' hSw;(try dsimp only at hSw);go_simp;(try with_reducible rfl))
    refine Qd ?_;refine wpAnyH_done (by kernel_rfl) ?_ _
    gi_wp2
    exact⟨fun q o' hq ho hc=>ho,⟨Nat.le_refl _,rfl,rfl⟩,h1,h2,h3,h4.drew,fun u hu=>by
     rcases List.mem_append.1 hu with hu|hu
     ·exact h5 u hu
     rw [List.mem_singleton.1 hu,<-HZ.out];exact HTT.out.symm⟩
   case done =>
    rintro D W hD ⟨h1,h2,h3,h4,h5⟩ hK;have HMK:=Qq (Qvf (z:=w2.heap.size) (D:=D) HR.out.2.1 (fun d hd=>by
     obtain⟨D',q1,q2,q3⟩:=HR.out.2.1.2 d hd;exact⟨D',q2,(h4.block (Array.getElem?_eq_some_iff.1 q3).1).trans q3,by have:=(Array.getElem?_eq_some_iff.1 q3).1;omega⟩) (by have:=HR.out.1.size;omega) hK)
    have HEK:=Qq (show ∀i,i < k+1->euB l i=true from fun i hi=>by
     by_cases e:i < k
     ·exact HR.out.2.2 i e
     obtain rfl:i=k:=by omega
     unfold euB;rw [List.all_eq_true,<-HZ.out];intro x hx;have:=h5 x hx;rw [<-HZ.out]at this;exact this)
    gi_wp2
    refine⟨⟨k+1,_,_,_,_,_,_,_,_,_,_,_,_,_,_,_,_,_,_,_,_,_,_,rfl,by omega,Qq ⟨HR.out.1.trans h4,HMK.out,HEK.out⟩⟩,?_⟩;show l.length - ((k:Int)+1).toNat < l.length - (k:Int).toNat;omega
   case stop =>
    rintro D pre W hD ⟨h1,h2,h3,h4⟩ hK;have HMK:=Qvf (z:=w2.heap.size) (D:=D) HR.out.2.1 (fun d hd=>by
     obtain⟨D',q1,q2,q3⟩:=HR.out.2.1.2 d hd;obtain⟨D2,_,q5,q6⟩:=h3.2 d hd;obtain rfl:D'=D2:=by rw [q2]at q5;injection q5
     exact⟨D',q2,q6,by have:=(Array.getElem?_eq_some_iff.1 q3).1;omega⟩) (by have:=HR.out.1.size;omega) hK
    have HE:=Qq (Hm fun h=>by have:=HPR.out.1 h k hlt2;rw [h4]at this;cases this);show LeavesInM Fence.wide 3 Tryz.prog _ _ _ _ .returning W;refine Hs (z:=w2.heap.size) _ W HMK (fun W' hW'=>⟨_,Fq Tryz.results166 _ _ rfl (Boxed.cell (show Boxed W' (w.heap.size+1) 4 (.bool false)from(hW'.block _ hs2).trans h1)) Tryz.underlying4 rfl,by rw [HE.out] <;> rfl,Below.trans h2 (hW'.mono HX2.out.size)⟩) (by have:=HR.out.1.size;have:=(Array.getElem?_eq_some_iff.1 hK).1;omega)
  obtain rfl:l.length=k:=by omega
  have c0:=hb3.cell;have f0:=hb3.frozen;have hs2:=HB3.out.lt;have HE:=Qq (HPR.out.2 HR.out.2.2)
  gi_wp2
  have HMS:Cg w2.heap.size ds (wr.setCell ⟨w.heap.size+1,0,none⟩ (.bool true)):=⟨HR.out.2.1.1,fun d hd=>by
   obtain⟨D,q1,q2,q3⟩:=HR.out.2.1.2 d hd;exact⟨D,q1,q2,(Below.heap_setCell wr ⟨w.heap.size+1,0,none⟩ _ D (by show D≠w.heap.size+1;omega)).trans q3⟩⟩
  have HXS:=HXW.out.setCell (p:=⟨w.heap.size+1,0,none⟩) (by show w.heap.size<=w.heap.size+1;omega) (.bool true);have hss:=(grownBy_setCell' wr (w.heap.size+1) (.bool true)).size;show LeavesInM Fence.wide 3 Tryz.prog _ _ _ _ .returning _;refine Hs (z:=w2.heap.size) _ _ HMS (fun W' hW'=>⟨_,Fq Tryz.results166 _ _ rfl (Boxed.cell (show Boxed W' (w.heap.size+1) 4 (.bool true)from(hW'.block _ hs2).trans (HB3W.out.set _))) Tryz.underlying4 rfl,by rw [HE.out] <;> rfl,Below.trans HXS (hW'.mono HX2.out.size)⟩) (by have:=HR.out.1.size;omega)
end Go.Proofs.YtkmclcmnoicagaaGreatDoor
