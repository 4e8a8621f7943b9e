/- relation.Has at transitivity. -/
import Derived.Test.YtkmclcmnoicagaaGreatDoorH13
import Derived.OrdersIn
namespace Go.Proofs.YtkmclcmnoicagaaGreatDoor
set_option maxRecDepth 100000
set_option maxHeartbeats 128000000
open Go.RowKit
def trB(l:List Nat)(k:Nat):Bool:=Jr (orL l (Za (l.getD k 0))) (l.getD k 0)
theorem Qh4 {l:List Nat}(hw:∀s∈l,Qm s)(hb:∀k,k < l.length->∀i,(l.getD k 0).testBit i=true->i < l.length):Uf 4 l=true↔∀k,k < l.length->trB l k=true:=by
 rw [Ov];unfold Kg;rw [if_neg (by decide),if_neg (by decide),if_pos rfl];unfold Gy trB;constructor
 ·intro h k hk;rw [Je];intro i hi;rw [Qzp,List.any_eq_true]at hi;obtain⟨x,hx,hxi⟩:=hi;have zS:=(Ff.1 hx).2;exact Je.1 (h k x hk (hb k hk x zS) zS) i hxi
 intro h k x hk hx LN;rw [Je];intro i hi;refine Je.1 (h k hk) i ?_;rw [Qzp,List.any_eq_true];exact⟨x,Ff.2 ⟨Qki (Bj hw k) LN,LN⟩,hi⟩
theorem Qyx {l:List Nat}(zU:Jo l.length l=0) {k:Nat}(hk:k < l.length) {i:Nat}(hi:(l.getD k 0).testBit i=true):i < l.length:=by
 have h1:=(Fg.1 (show Xv l=true by unfold Xv;rw [zU];rfl)).2;unfold Zn at h1;rw [List.any_eq_false]at h1;have h2:=h1 (l.getD k 0) (by rw [Qk,Qv hk];exact List.getElem_mem _);rcases Nat.lt_or_ge i l.length with h3|h3
 ·exact h3
 have h4:l.getD k 0 < 2^l.length:=by simpa using h2
 rw [Nat.testBit_lt_two_pow (Qy h4 (Nat.pow_le_pow_right (by decide) h3))]at hi;cases hi
theorem Qe6(v:Value)(l:List Nat)(w:World)(hT:Kb w)(h:Jn w v l)(hw:∀s∈l,Qm s)(zU:Jo l.length l=0):
 Calls Tryz.prog 166 #[v,.int .i64 4] w fun e w'=>e=.returned (.bool (Uf 4 l))/\Qg w w':=by
 have H:=Qq h;have HW:=Qq hw;have yD:=Qq zU;have UB:=Qq hT;have NX:=Qq (Qh4 hw (fun k hk i hi=>Qyx zU hk hi));have rI:=Nx zU;obtain⟨A,c,rfl,_,_,HA⟩:=Vf h;have zL:=Qq (show Qg w ((w.alloc (.cells #[.slice A l.length c] 23)).alloc (.cells #[.bool false] 4))from(Qz.alloc _).alloc _);have wL:=Qq ((Boxed.new w 23 (.slice A l.length c)).alloc (.cells #[.bool false] 4));have wT:=Qq (show Boxed ((w.alloc (.cells #[.slice A l.length c] 23)).alloc (.cells #[.bool false] 4)) (w.heap.size+1) 4 (.bool false) by
  have:=Boxed.new (w.alloc (.cells #[.slice A l.length c] 23)) 4 (.bool false);rw [World.size_alloc]at this;exact this)
 clear hw zU h hT;go_enter Tryz.func166,Tryz.ntmps166;go_wp2_with(go_at_call 113;refine(Gb _ l _ (H.out.ext zL.out) HW.out).mono ?_;rintro e w2 ⟨rfl,zS⟩;rw [yD.out];have xA:Boxed w2 w.heap.size 23 (.slice A l.length c):=(zS.block wL.out.lt).trans wL.out;have vH:Boxed w2 (w.heap.size+1) 4 (.bool false):=(zS.block wT.out.lt).trans wT.out;have zT:=Qq (zL.out.trans zS);have c2:=xA.cell;have rG:=Qq xA;have rF:=Qq vH;clear zS xA vH);go_loopw [46] (fun vi wr=>∃k:Nat,vi=.int .i64 (k:Int)/\k<=l.length/\Hid (Qg w2 wr/\∀i,i < k->trB l i=true)) (fun v _=>l.length - (intOf v).toNat)
 case atStart=>exact⟨0,rfl,Nat.zero_le _,Qq ⟨Qz,fun i hi=>absurd hi (Nat.not_lt_zero _)⟩⟩
 case round =>
  obtain⟨k,rfl,hk,HR⟩:=hrel;have xA:Boxed wr w.heap.size 23 (.slice A l.length c):=(HR.out.1.block rG.out.lt).trans rG.out;have vH:Boxed wr (w.heap.size+1) 4 (.bool false):=(HR.out.1.block rF.out.lt).trans rF.out;have yY:=Qq (zT.out.trans HR.out.1);have VV:=Qq xA;have kW:=Qq vH;by_cases hlt2:k < l.length
  ·have yV:(k:Int) < (l.length:Int):=by omega
   obtain⟨ad,rfl,zV,yU⟩:=HA.out k hlt2;have a0:=(yY.out.cell (p:=ad.add k) (Qj zV)).trans yU;have al:(ad.add k).block < wr.heap.size:=by rw [Qr];exact Qy zV yY.out.size
   have c0:=xA.cell;have cl:=xA.lt;have mX:=Qq (Bj HW.out k);obtain⟨t,ht⟩:∃t,t=trB l k:=⟨_,rfl⟩;have HT:=Qq ht;obtain⟨z,hz⟩:∃z,z=l.getD k 0:=⟨_,rfl⟩;have VD:=Qq (show ∀i,z.testBit i=true->i < l.length by rw [hz];exact fun i hi=>Qyx yD.out hlt2 hi);obtain⟨o,ho⟩:∃o,o=orL l (Za z):=⟨_,rfl⟩;have kK:=Qq (show Qm o by rw [ho];exact Qnt HW.out _);have VP:Hid ((((Zl o z:Nat):Int)==0)=t):=Qq (by
    rw [ht,show(((Zl o z:Nat):Int)==0)=(Zl o z==0) by rw [Bool.eq_iff_iff,beq_iff_eq,beq_iff_eq];omega,Rr,ho,hz]
    rfl)
   rw [<-hz]at a0 mX;have IT:=Yg kK.out mX.out;have U0:=Qq (fun w hT h=>Qmg (.slice (some ad) l.length c) l z w h HW.out mX.out VD.out hT);rw [<-ho]at U0;obtain⟨d,hd⟩:∃d,d=Zl o z:=⟨_,rfl⟩;rw [<-hd]at IT VP;clear ht hz yU ho hd xA vH;go_upto_region 20 with(fail);refine wp_region_held_drew (S:=fun w'=>w'.cell? (⟨w.heap.size,0,none⟩)=some (.slice (some ad) l.length c)/\w'.cell? (ad.add k)=some (.int .u64 (z:Int))) (by kernel_rfl) ⟨xc cl c0,xc al a0⟩ (fun zZ=> ?_);refine tk 0 zZ ?_;refine tk 1 zZ ?_;refine tk 2 zZ ?_;refine tk 3 zZ ?_;refine tk 4 zZ ?_;refine tk 6 zZ ?_
   refine tk 7 zZ ?_;refine tk 8 zZ ?_;refine tk 9 zZ ?_;refine wpAnyH_ready (rs:= [5]) (by kernel_rfl) (by simp) ?_;refine AllReadyH.cons rfl (fun K hK=> ?_) AllReadyH.nil;go_simp;refine(U0.out _ (UB.out.ext (yY.out.trans xw)) (H.out.ext (yY.out.trans xw))).mono ?_;rintro e w5 ⟨rfl,xG⟩;have yJ:=Qq (show Qg wr w5 from(Qg.refl wr).drew.trans xG);go_wp2_with fail;refine hK.out _ _ ⟨xc cl c0,xc al a0⟩ (fun zZ=> ?_);clear hK K;refine Qd ?_;refine tk 10 zZ ?_;refine tk 11 zZ ?_;refine wpAnyH_done (by kernel_rfl) ?_ _;have fQ:Boxed w5 (w.heap.size+1) 4 (.bool false):=(yJ.out.block kW.out.lt).trans kW.out
   have mL:=Qq fQ;have c5:=fQ.cell;have f5:=fQ.frozen;have oO:=Qq (yY.out.trans yJ.out);clear fQ;cases t
   ·have dH:((d:Int)==0)=false:=VP.out;have CO:((d:Int) !=0)=true:=by simpa using dH
    have HE:=Qq (Oi fun h=>by have:=NX.out.1 h k hlt2;rw [<-HT.out]at this;cases this);go_wp2_with fail;refine bodyPost_ret (Bp Tryz.results166 _ _ rfl (mL.out.set _).cell Tryz.underlying4 rfl) rfl ?_;exact⟨by rw [HE.out] <;> rfl,oO.out.setCell (p:=⟨w.heap.size+1,0,none⟩) (by show w.heap.size<=w.heap.size+1;omega) _⟩
   have dH:((d:Int)==0)=true:=VP.out;have CO:((d:Int) !=0)=false:=by simpa using dH
   have HN:=Qq (show ∀i,i < k+1->trB l i=true from fun i hi=>by
    by_cases e:i < k
    ·exact HR.out.2 i e
    obtain rfl:i=k:=by omega
    exact HT.out.symm)
   have lJ:=Qq (HR.out.1.trans yJ.out);go_wp2_with fail;go_roundw
   case rel=>exact⟨k+1,by go_num,by omega,Qq ⟨lJ.out,HN.out⟩⟩
   case measure=>simp [intOf];omega
  obtain rfl:l.length=k:=by omega
  have c0:=vH.cell;have f0:=vH.frozen;have HE:=Qq (NX.out.2 HR.out.2);go_wp2_with fail;refine bodyPost_ret (Bp Tryz.results166 _ _ rfl (kW.out.set _).cell Tryz.underlying4 rfl) rfl ?_;exact⟨by rw [HE.out] <;> rfl,yY.out.setCell (p:=⟨w.heap.size+1,0,none⟩) (by show w.heap.size<=w.heap.size+1;omega) _⟩
section
variable {P:Program} {n l:Nat} {ops:Array Oper} {Q:Exit->Act->World->Prop} {md:Region.Mode}
theorem Qwe {o:Oper} {a:Act} {w:World} {K:Act->World->Prop}(hd:∀c,o.op≠.defer c)(h:o.wp P a w K Q):o.wpIn (Fence.wide.inRound l) n P a w K Q:=by
 refine⟨fun _ _=>trivial,?_⟩;unfold Oper.wp at h;rw [show(Fence.wide.inRound l).round=some l from rfl,Oper.semAt_some l a.eval o hd];generalize (execOp a.eval o).run P w=r at *;cases r with
 |ok x w' =>
  cases x with
  |value v=>exact h
  |skip=>exact h
  |defer d=>exact h
  |enter f args=>exact⟨fun e=>(by cases e),CallsIn.inRound l (callsIn_wide.2 h)⟩
  |row row args=>exact⟨fun e=>(by cases e),fun c cs _=>let ⟨v,w',r,s⟩:=h c cs;⟨v,w',r,stepsIn_wide.2 s⟩⟩
  |_=>exact h.elim
 |halt x w'=>cases x <;> exact h
theorem Ws(fM:∀(i:Nat) (o:Oper),ops[i]?=some o->∀c,o.op≠.defer c)(hQ:¬LetsOut Q):∀(fuel:Nat) (listed:Array Bool) (a:Act) (w:World),wpAny P md ops Q fuel listed a w->wpAnyIn (Fence.wide.inRound l) n P md ops Q fuel listed a w
 |0,_,_,_,h=>h
 |fuel+1,listed,a,w,h=>⟨h.1,fun i hi=>by
  have h2:=h.2 i hi;unfold wpOp at h2;unfold wpOpIn;cases ho:ops[i]? with
  |none=>rw [ho]at h2;exact Ws fM hQ fuel _ _ _ h2
  |some o =>
   rw [ho]at h2;simp only at h2⊢
   split
   ·rename_i hw;rw [if_pos hw]at h2;rcases h2 with h3|⟨_,h3⟩
    ·exact Oper.wpIn_mono (fun a' w' h4=>Ws fM hQ fuel _ _ _ h4) (Qwe (fM i o ho) h3)
    exact absurd h3 hQ
   rename_i hw;rw [if_neg hw]at h2;exact⟨fun _ _=>trivial,Ws fM hQ fuel _ _ _ h2⟩⟩
def Qs9(ops:Array Oper):Bool:=ops.all fun o=>match o.op with| .defer _=>false|_=>true
theorem Qj0 {S:World->Prop} {id:Nat} {a:Act} {w:World}(hm:P.follows .mixedOrders=true)(fM:Qs9 ops=true)(hQ:¬LetsOut Q)(hS:S w.drew)
 (h:S w.drew->wpAnyH P .any ops Q S ops.size (Array.replicate ops.size false) a w.drew):(Code.region id ops true).wpIn (Fence.wide.inRound l) n P Q a w:=by
 refine wpIn_region_any hm (Ws (fun i o ho c hc=> ?_) hQ _ _ _ _ (wpAny_of_held _ _ _ _ (h hS)));unfold Qs9 at fM;rw [Array.all_eq_true']at fM;have:=fM o (Array.mem_of_getElem? ho);rw [hc]at this;cases this
end
end Go.Proofs.YtkmclcmnoicagaaGreatDoor
