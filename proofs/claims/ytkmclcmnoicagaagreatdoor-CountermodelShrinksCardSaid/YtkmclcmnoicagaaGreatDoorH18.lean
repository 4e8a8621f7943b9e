/- The reference's properties of relations, and the conditions of a logic on a model. -/
import Derived.Test.YtkmclcmnoicagaaGreatDoorH16
import Derived.Test.YtkmclcmnoicagaaGreatDoorH17
namespace Go.Proofs.YtkmclcmnoicagaaGreatDoor
set_option maxRecDepth 100000
set_option maxHeartbeats 128000000
open Go.RowKit
theorem Qcr(v:Value)(l:List Nat)(q:Int)(w:World)(h:Jn w v l)(hw:∀s∈l,Qm s)(h0:0 < l.length)(hq:q=1\/q=2\/q=4\/q=5):
 Calls Tryz.prog 109 #[v,.int .i64 q] w fun e w'=>∃b:Bool,e=.returned (.bool b)/\Qg w w'/\(b=true↔Xv l=true/\Kg q l):=by
 have H:=Qq h;have HW:=Qq hw;obtain⟨A,c,rfl,QE,xY,HL⟩:=Vf h;unfold maxLen at xY;obtain⟨iU,sG,xF,xE,xD⟩:=info_parts Dx;clear h hw;cases hv:Xv l
 ·have HV:=Qq hv;clear hv;go_enter Tryz.func109,Tryz.ntmps109;go_wp2_with fail;refine(Nr _ l _ H.out HW.out).mono ?_;rintro e w2 ⟨rfl,zS⟩;rw [HV.out];have zT:=Qq zS;clear zS;go_wp2_with fail;go_ret
  first
  |exact⟨false,rfl,zT.out,by simp⟩
  |exact⟨.inl ⟨rfl,by simp⟩,zT.out⟩
  |exact .inl ⟨rfl,zT.out,by simp⟩
  |exact⟨rfl,zT.out,by simp⟩
 have HV:=Qq hv;have rI:=(Fg.1 hv).1;obtain⟨ad,rfl,zV,_⟩:=HL.out 0 h0;obtain⟨n,hn⟩:∃n,n=l.length:=⟨_,rfl⟩;have HN:=Qq hn;clear hv;have fF:=Qq (show ∀i,i < l.length->w.cell? (ad.add i)=some (.int .u64 ((l.getD i 0:Nat):Int))from fun i hi=>by
  obtain⟨ad2,e,_,hc⟩:=HL.out i hi;injection e with e;subst e;exact hc)
 rw [<-hn]at H rI h0⊢;have uS:0+n<=maxLen:=by unfold maxLen;omega
 have xO:(0+n)*8<=140737488355328:=by omega
 clear hn HL;rcases hq with rfl|rfl|rfl|rfl
 ·skip
  go_enter Tryz.func109,Tryz.ntmps109;go_wp2_with fail;refine(Nr _ l _ H.out HW.out).mono ?_;rintro e w2 ⟨rfl,zS⟩;rw [HV.out];have zT:=Qq zS;have sV:=Qq (show ∀(j:Nat) u,(uV l)[j]?=some u->(w2.alloc (.cells #[] 41)).cell? (ad.add j)=some u from De fun i hi=>((zS.alloc _).cell (p:=ad.add i) (Qj zV)).trans (fF.out i hi));have uB:=Qq (Sz w2 41);clear zS;go_wp2_with(at_builtin;refine wpList_append_own_at _ rfl _ _ 23 rfl w2.heap.size 41 iU (.int .u64 0) 1 8 Tryz.underlying23 sG xF xE xD rfl (by decide) _ 0 [] rfl uB.out ad n c (uV l) rfl (by rw [Wz,Nat.mul_one];exact HN.out.symm) sV.out (Wj l) uS xO (by simp) ?_)
  intro v3 w3 xW yG _ _;have zB:=Qq (show Qg w w3 from(zT.out.alloc _).grown yG (fun k hk=>by have h1:=zT.out.size;have h2:w2.heap.size=k:=Option.some.inj hk;omega));have HM:=Qq (show Zf w.heap.size w3 v3 l by
   unfold Zf;rw [<-HN.out];exact Kp xW zT.out.size)
  clear xW yG;obtain⟨g,cap,rfl,xK,tV,_,TE,_,_⟩:=HM.out.slice (by rw [<-HN.out];exact h0);rw [<-HN.out]at HM⊢;clear xK;go_wp2_with fail;go_loopw [6] (fun v wr=>∃k:Nat,v=.int .i64 (k:Int)/\k<=n/\Hid (Qg w3 wr/\∀j,j < k->l.getD j 0≠0)) (fun v _=>n - (intOf v).toNat)
  case atStart=>exact⟨0,rfl,Nat.zero_le _,Qq ⟨Qz,fun j hj=>absurd hj (by omega)⟩⟩
  case round =>
   obtain⟨k,rfl,hk,zY⟩:=hrel;have HX:=Qq zY.out.1;have HJ:=Qq zY.out.2;have yY:=Qq (zB.out.trans HX.out);clear zY;by_cases hlt2:k < n
   ·have yV:(k:Int) < (n:Int):=by omega
    have a0:=(yY.out.cell (p:=ad.add k) (Qj zV)).trans (fF.out k (by rw [<-HN.out];exact hlt2));have al:(ad.add k).block < wr.heap.size:=by rw [Qr];exact Qy zV yY.out.size
    have zD:=Qq (show l.getD k 0≠0->∀j,j < k+1->l.getD j 0≠0 from fun h=>Do (P:=fun j=>l.getD j 0≠0) HJ.out h);have sX:=Qq (show l.getD k 0=0->¬Kg 1 l from fun h hp=>by
     unfold Kg at hp;rw [if_pos rfl]at hp;exact hp k (by rw [<-HN.out];exact hlt2) h)
    obtain⟨x,hx⟩:∃x,x=l.getD k 0:=⟨_,rfl⟩;rw [<-hx]at a0 zD sX;clear hx;by_cases hz:x=0
    ·have rQ:((x:Int)==0)=true:=by rw [hz];rfl
     have HE:=Qq (sX.out hz);clear hz;go_wp2_with fail;go_ret
     first
     |exact⟨false,rfl,yY.out,iff_of_false (by decide) fun h=>HE.out h.2⟩
     |exact .inl ⟨rfl,yY.out,fun _=>HE.out⟩
     |exact .inl ⟨rfl,yY.out,fun h=>absurd h HE.out⟩
    have rQ:((x:Int)==0)=false:=by rw [beq_eq_false_iff_ne];omega
    have HP:=Qq (zD.out hz);clear hz;go_wp2_with fail;go_roundw
    case rel=>exact⟨k+1,by go_num,by omega,Qq ⟨HX.out,HP.out⟩⟩
    case measure=>simp [intOf];omega
   obtain rfl:n=k:=by omega
   have HP:=Qq (show Kg 1 l by
    unfold Kg;rw [if_pos rfl,<-HN.out];exact HJ.out)
   go_wp2_with fail;refine(Hl _ _ l l _ (HM.out.u64s.ext HX.out) (H.out.ext yY.out)).mono ?_;rintro e w5 ⟨rfl,xG⟩;rw [decide_eq_true (show l=l from rfl)];have yJ:=Qq (yY.out.trans xG);clear xG;go_wp2_with fail;go_ret
   first
   |exact⟨true,rfl,yJ.out,iff_of_true rfl ⟨HV.out,HP.out⟩⟩
   |exact⟨true,rfl,yJ.out,iff_of_true rfl ⟨trivial,HP.out⟩⟩
 ·skip
  go_enter Tryz.func109,Tryz.ntmps109;go_wp2_with fail;refine(Nr _ l _ H.out HW.out).mono ?_;rintro e w2 ⟨rfl,zS⟩;rw [HV.out];have zT:=Qq zS;have sV:=Qq (show ∀(j:Nat) u,(uV l)[j]?=some u->(w2.alloc (.cells #[] 41)).cell? (ad.add j)=some u from De fun i hi=>((zS.alloc _).cell (p:=ad.add i) (Qj zV)).trans (fF.out i hi));have uB:=Qq (Sz w2 41);clear zS;go_wp2_with(at_builtin;refine wpList_append_own_at _ rfl _ _ 23 rfl w2.heap.size 41 iU (.int .u64 0) 1 8 Tryz.underlying23 sG xF xE xD rfl (by decide) _ 0 [] rfl uB.out ad n c (uV l) rfl (by rw [Wz,Nat.mul_one];exact HN.out.symm) sV.out (Wj l) uS xO (by simp) ?_)
  intro v3 w3 xW yG _ _;have zB:=Qq (show Qg w w3 from(zT.out.alloc _).grown yG (fun k hk=>by have h1:=zT.out.size;have h2:w2.heap.size=k:=Option.some.inj hk;omega));have HM:=Qq (show Zf w.heap.size w3 v3 l by
   unfold Zf;rw [<-HN.out];exact Kp xW zT.out.size)
  clear xW yG;obtain⟨g,cap,rfl,xK,tV,_,TE,_,_⟩:=HM.out.slice (by rw [<-HN.out];exact h0);rw [<-HN.out]at HM⊢;clear xK;go_wp2_with fail;refine(Qx9 _ l _ (H.out.ext zB.out) HW.out HV.out (by rw [<-HN.out];exact h0)).mono ?_;rintro e w4 ⟨u,rfl,yA,nL⟩;have yP:=Qq (zB.out.trans yA);have eM:=Qq nL;obtain⟨out,yF⟩:∃o,o=Nh l l.length:=⟨_,rfl⟩;have mI:=Qq (show out=l↔Kg 2 l by rw [yF,Qaz];unfold Kg;rw [if_neg (by decide),if_pos rfl]);rw [<-yF]at eM nL;clear yF yA;obtain⟨Au,cu,rfl,_⟩:=nL.u64s;clear nL;go_wp2_with fail;refine(Hl _ _ out l _ eM.out.u64s (H.out.ext yP.out)).mono ?_
  rintro e w5 ⟨rfl,xG⟩;have yJ:=Qq (yP.out.trans xG);clear xG;cases hd:decide (out=l)
  ·have HE:=Qq (show ¬Kg 2 l from fun h=>of_decide_eq_false hd (mI.out.2 h));clear hd;go_wp2_with fail;go_ret
   first
   |exact⟨false,rfl,yJ.out,iff_of_false (by decide) fun h=>HE.out h.2⟩
   |exact .inl ⟨rfl,yJ.out,fun _=>HE.out⟩
  have HE:=Qq (show Kg 2 l from mI.out.1 (of_decide_eq_true hd));clear hd;go_wp2_with fail;go_ret
  first
  |exact⟨true,rfl,yJ.out,iff_of_true rfl ⟨HV.out,HE.out⟩⟩
  |exact⟨true,rfl,yJ.out,iff_of_true rfl ⟨trivial,HE.out⟩⟩
 ·skip
  go_enter Tryz.func109,Tryz.ntmps109;go_wp2_with fail;refine(Nr _ l _ H.out HW.out).mono ?_;rintro e w2 ⟨rfl,zS⟩;rw [HV.out];have zT:=Qq zS;have sV:=Qq (show ∀(j:Nat) u,(uV l)[j]?=some u->(w2.alloc (.cells #[] 41)).cell? (ad.add j)=some u from De fun i hi=>((zS.alloc _).cell (p:=ad.add i) (Qj zV)).trans (fF.out i hi));have uB:=Qq (Sz w2 41);clear zS;go_wp2_with(at_builtin;refine wpList_append_own_at _ rfl _ _ 23 rfl w2.heap.size 41 iU (.int .u64 0) 1 8 Tryz.underlying23 sG xF xE xD rfl (by decide) _ 0 [] rfl uB.out ad n c (uV l) rfl (by rw [Wz,Nat.mul_one];exact HN.out.symm) sV.out (Wj l) uS xO (by simp) ?_)
  intro v3 w3 xW yG _ _;have zB:=Qq (show Qg w w3 from(zT.out.alloc _).grown yG (fun k hk=>by have h1:=zT.out.size;have h2:w2.heap.size=k:=Option.some.inj hk;omega));have HM:=Qq (show Zf w.heap.size w3 v3 l by
   unfold Zf;rw [<-HN.out];exact Kp xW zT.out.size)
  clear xW yG;obtain⟨g,cap,rfl,xK,tV,_,TE,_,_⟩:=HM.out.slice (by rw [<-HN.out];exact h0);rw [<-HN.out]at HM⊢;clear xK;go_wp2_with fail;refine(Qke _ l _ (H.out.ext zB.out) HW.out HV.out (by rw [<-HN.out];exact h0)).mono ?_;rintro e w4 ⟨u,rfl,yA,out,nL,LW⟩;have yP:=Qq (zB.out.trans yA);have eM:=Qq nL;have mI:=Qq (show out=l↔Kg 4 l by rw [LW];unfold Kg;rw [if_neg (by decide),if_neg (by decide),if_pos rfl]);clear yA LW;obtain⟨Au,cu,rfl,_⟩:=nL.u64s;clear nL;go_wp2_with fail;refine(Hl _ _ out l _ eM.out.u64s (H.out.ext yP.out)).mono ?_;rintro e w5 ⟨rfl,xG⟩
  have yJ:=Qq (yP.out.trans xG);clear xG;cases hd:decide (out=l)
  ·have HE:=Qq (show ¬Kg 4 l from fun h=>of_decide_eq_false hd (mI.out.2 h));clear hd;go_wp2_with fail;go_ret
   first
   |exact⟨false,rfl,yJ.out,iff_of_false (by decide) fun h=>HE.out h.2⟩
   |exact .inl ⟨rfl,yJ.out,fun _=>HE.out⟩
  have HE:=Qq (show Kg 4 l from mI.out.1 (of_decide_eq_true hd));clear hd;go_wp2_with fail;go_ret
  first
  |exact⟨true,rfl,yJ.out,iff_of_true rfl ⟨HV.out,HE.out⟩⟩
  |exact⟨true,rfl,yJ.out,iff_of_true rfl ⟨trivial,HE.out⟩⟩
 skip
 go_enter Tryz.func109,Tryz.ntmps109;go_wp2_with fail;refine(Nr _ l _ H.out HW.out).mono ?_;rintro e w2 ⟨rfl,zS⟩;rw [HV.out];have zT:=Qq zS;have sV:=Qq (show ∀(j:Nat) u,(uV l)[j]?=some u->(w2.alloc (.cells #[] 41)).cell? (ad.add j)=some u from De fun i hi=>((zS.alloc _).cell (p:=ad.add i) (Qj zV)).trans (fF.out i hi));have uB:=Qq (Sz w2 41);clear zS;go_wp2_with(at_builtin;refine wpList_append_own_at _ rfl _ _ 23 rfl w2.heap.size 41 iU (.int .u64 0) 1 8 Tryz.underlying23 sG xF xE xD rfl (by decide) _ 0 [] rfl uB.out ad n c (uV l) rfl (by rw [Wz,Nat.mul_one];exact HN.out.symm) sV.out (Wj l) uS xO (by simp) ?_)
 intro v3 w3 xW yG _ _;have zB:=Qq (show Qg w w3 from(zT.out.alloc _).grown yG (fun k hk=>by have h1:=zT.out.size;have h2:w2.heap.size=k:=Option.some.inj hk;omega));have HM:=Qq (show Zf w.heap.size w3 v3 l by
  unfold Zf;rw [<-HN.out];exact Kp xW zT.out.size)
 clear xW yG;obtain⟨g,cap,rfl,xK,tV,_,TE,_,_⟩:=HM.out.slice (by rw [<-HN.out];exact h0);rw [<-HN.out]at HM⊢;clear xK;go_wp2_with fail;refine(Qxx _ l _ (H.out.ext zB.out) HW.out HV.out (by rw [<-HN.out];exact h0)).mono ?_;rintro e w4 ⟨u,rfl,yA,out,nL,LW⟩;have yP:=Qq (zB.out.trans yA);have eM:=Qq nL;have mI:=Qq (show out=l↔Kg 5 l by rw [LW];unfold Kg;rw [if_neg (by decide),if_neg (by decide),if_neg (by decide)]);clear yA LW;obtain⟨Au,cu,rfl,_⟩:=nL.u64s;clear nL;go_wp2_with fail;refine(Hl _ _ out l _ eM.out.u64s (H.out.ext yP.out)).mono ?_;rintro e w5 ⟨rfl,xG⟩
 have yJ:=Qq (yP.out.trans xG);clear xG;cases hd:decide (out=l)
 ·have HE:=Qq (show ¬Kg 5 l from fun h=>of_decide_eq_false hd (mI.out.2 h));clear hd;go_wp2_with fail;go_ret
  first
  |exact⟨false,rfl,yJ.out,iff_of_false (by decide) fun h=>HE.out h.2⟩
  |exact .inl ⟨rfl,yJ.out,fun _=>HE.out⟩
 have HE:=Qq (show Kg 5 l from mI.out.1 (of_decide_eq_true hd));clear hd;go_wp2_with fail;go_ret
 first
 |exact⟨true,rfl,yJ.out,iff_of_true rfl ⟨HV.out,HE.out⟩⟩
 |exact⟨true,rfl,yJ.out,iff_of_true rfl ⟨trivial,HE.out⟩⟩
theorem Mp(w:World)(l:List Int)(t:TypeId)(hl:l.length<=10):Dn (w.alloc (.cells (l.map (Value.int .i64)).toArray t)) (.slice (some ⟨w.heap.size,0,none⟩) l.length l.length) l:=by
 refine⟨_,_,rfl,Nat.le_refl _,by unfold maxLen;omega,fun _=>⟨_,rfl,by simp,fun k z hk=> ?_⟩⟩;have h1:=heap_alloc_new w (.cells (l.map (Value.int .i64)).toArray t);rw [Fo];have h2:(w.alloc (.cells (l.map (Value.int .i64)).toArray t)).heap[w.heap.size]?=some (Obj.cells (l.map (Value.int .i64)).toArray t (0,0)):=h1;simp only [World.cell?,h2];rw [List.getElem?_toArray,List.getElem?_map,hk];rfl
theorem Iq(lg:Int)(w:World):
 Calls Tryz.prog 44 #[.int .i64 lg] w fun e w'=>∃v,e=.returned (.tuple #[v,.int .i64 (Is lg)])/\Qg w w'/\Hid (Is lg=0->Dn w' v (Gd lg)):=by
 by_cases hc:0<=lg/\lg<=6
 ·have yU:lg=0\/lg=1\/lg=2\/lg=3\/lg=4\/lg=5\/lg=6:=by omega
  clear hc;rcases yU with rfl|rfl|rfl|rfl|rfl|rfl|rfl
  all_goals
   go_enter Tryz.func44,Tryz.ntmps44;go_wp2_with fail;go_ret2
   first
   |exact⟨_,rfl,Qz,Qq fun _=>Dn.none_ _⟩
   |exact⟨_,rfl,Qz.alloc _,Qq fun _=>Mp w [1] _ (by decide)⟩
   |exact⟨_,rfl,Qz.alloc _,Qq fun _=>Mp w [2] _ (by decide)⟩
   |exact⟨_,rfl,Qz.alloc _,Qq fun _=>Mp w [4] _ (by decide)⟩
   |exact⟨_,rfl,Qz.alloc _,Qq fun _=>Mp w [2,4] _ (by decide)⟩
   |exact⟨_,rfl,Qz.alloc _,Qq fun _=>Mp w [1,4,5] _ (by decide)⟩
   |exact⟨_,rfl,Qz.alloc _,Qq fun _=>Mp w [2,4,5] _ (by decide)⟩
 have h0:(lg==0)=false:=by rw [beq_eq_false_iff_ne];omega
 have h1:(lg==1)=false:=by rw [beq_eq_false_iff_ne];omega
 have h2:(lg==2)=false:=by rw [beq_eq_false_iff_ne];omega
 have h3:(lg==3)=false:=by rw [beq_eq_false_iff_ne];omega
 have h4:(lg==4)=false:=by rw [beq_eq_false_iff_ne];omega
 have h5:(lg==5)=false:=by rw [beq_eq_false_iff_ne];omega
 have h6:(lg==6)=false:=by rw [beq_eq_false_iff_ne];omega
 have HC:=Qq (show Is lg=1 from if_neg hc);clear hc;go_enter Tryz.func44,Tryz.ntmps44;go_wp2_with fail;go_ret2;exact⟨_,by rw [HC.out] <;> rfl,Qz,Qq fun e=>by rw [HC.out]at e;cases e⟩
theorem Qwy {w:World} {A:Option Addr} {c k:Nat} {l:List Int}(h:Qzw w A c l)(hk:k < l.length):∃ad,A=some ad/\ad.block < w.heap.size/\w.cell? (ad.add k)=some (.int .i64 (l.getD k 0)):=by
 obtain⟨ad,e,hl,hc⟩:=h.2.2 (by intro e;rw [e]at hk;simp at hk);exact⟨ad,e,hl,hc k _ (by rw [Qk,Qv hk];rfl)⟩
theorem Qcs(v:Value)(l:List Nat)(lg:Int)(w:World)(h:Jn w v l)(hw:∀s∈l,Qm s)(h0:0 < l.length)(xX:0<=lg/\lg<=6)(hv:Xv l=true):
 Calls Tryz.prog 46 #[v,.int .i64 lg] w fun e w'=>∃b:Bool,e=.returned (.bool b)/\Qg w w'/\Hid (b=true↔Dm lg l):=by
 have H:=Qq h;have HW:=Qq hw;have bK:=Qq (show Is lg=0 from if_pos xX);have HV:=Qq hv;obtain⟨A,c,rfl,_⟩:=h;clear hw xX hv;go_enter Tryz.func46,Tryz.ntmps46;go_wp2_with fail;refine(Iq lg _).mono ?_;rintro e w2 ⟨vp,rfl,zS,hi⟩;rw [bK.out];obtain⟨Ap,cp,rfl,N1⟩:=hi.out bK.out;have nB:=Qq N1;have zT:=Qq zS;have sE:=Qh6 lg;obtain⟨ps,vF⟩:∃ps,ps=Gd lg:=⟨_,rfl⟩;have pC:=Qq vF;rw [<-vF]at nB sE⊢;clear hi N1 zS vF;go_wp2_with fail;refine(Nr _ l _ (H.out.ext zT.out) HW.out).mono ?_;rintro e w3 ⟨rfl,zC⟩;rw [HV.out];have zB:=Qq zC;have yY:=Qq (zT.out.trans zC)
 clear zC;go_wp2_with fail;go_loopw [7] (fun v wr=>∃k:Nat,v=.int .i64 (k:Int)/\k<=ps.length/\Hid (Qg w3 wr/\∀j,j < k->Kg (ps.getD j 0) l)) (fun v _=>ps.length - (intOf v).toNat)
 case atStart=>exact⟨0,rfl,Nat.zero_le _,Qq ⟨Qz,fun j hj=>absurd hj (by omega)⟩⟩
 case round =>
  obtain⟨k,rfl,hk,zY⟩:=hrel;have HX:=Qq zY.out.1;have HJ:=Qq zY.out.2;clear zY;by_cases hlt2:k < ps.length
  ·have yV:(k:Int) < (ps.length:Int):=by omega
   obtain⟨ad,rfl,zV,hc⟩:=Qwy nB.out hlt2;have a0:=((zB.out.trans HX.out).cell (p:=ad.add k) (Qj zV)).trans hc;have al:(ad.add k).block < wr.heap.size:=by rw [Qr];exact Qy zV (zB.out.trans HX.out).size
   have zD:=Qq (show Kg (ps.getD k 0) l->∀j,j < k+1->Kg (ps.getD j 0) l from fun h=>Do (P:=fun j=>Kg (ps.getD j 0) l) HJ.out h);have pD:=Qq (show ps.getD k 0∈Gd lg by rw [<-pC.out,Qk,Qv hlt2];exact List.getElem_mem hlt2);obtain⟨q,hq⟩:∃q,q=ps.getD k 0:=⟨_,rfl⟩;rw [<-hq]at a0 zD pD;have HQ:=Qq (Qjo pD.out);clear hc hq;go_wp2_with fail;refine(Qcr _ l q _ (H.out.ext (yY.out.trans HX.out)) HW.out h0 HQ.out).mono ?_;rintro e w4 ⟨b,rfl,yA,hb⟩;have yP:=Qq (HX.out.trans yA);have HB:=Qq hb;clear yA hb;cases b
   ·have HE:=Qq (show ¬Dm lg l from fun h=>absurd (HB.out.2 ⟨HV.out,h q pD.out⟩) (by decide));go_wp2_with fail;go_ret
    first
    |exact⟨false,rfl,yY.out.trans yP.out,Qq (iff_of_false (by decide) HE.out)⟩
    |exact .inl ⟨rfl,yY.out.trans yP.out,Qq (iff_of_false (by decide) HE.out)⟩
   have HP:=Qq (zD.out (HB.out.1 rfl).2);go_wp2_with fail;go_roundw
   case rel=>exact⟨k+1,by go_num,by omega,Qq ⟨yP.out,HP.out⟩⟩
   case measure=>simp [intOf];omega
  obtain rfl:ps.length=k:=by omega
  have HE:=Qq (show Dm lg l from fun q hq=>by
   rw [<-pC.out]at hq;obtain⟨j,hj,e⟩:=List.getElem_of_mem hq;have:=HJ.out j hj;rw [Qk,Qv hj]at this;have h2:Kg ps[j] l:=this;rw [e]at h2;exact h2)
  go_wp2_with fail;go_ret
  first
  |exact⟨true,rfl,yY.out.trans HX.out,Qq (iff_of_true rfl HE.out)⟩
  |exact .inr ⟨rfl,yY.out.trans HX.out,Qq (iff_of_true rfl HE.out)⟩
theorem Qwq(v:Value)(md:Md)(lg:Int)(w:World)(h:Jk w v md)(zP:md.ok):
 Calls Tryz.prog 15 #[v,.int .i64 lg] w fun e w'=>∃b:Bool,e=.returned (.bool b)/\Qg w w'/\Hid (b=true↔Fw md lg):=by
 have H:=Qq h;have zE:=Qq zP;obtain⟨vv,vr,rfl,hv,hr⟩:=h;obtain⟨Av,cv,rfl,_⟩:=hv;obtain⟨Ar,cr,rfl,cG,RR,HR⟩:=Gj hr;unfold maxLen at RR;obtain⟨n,hn⟩:∃n,n=md.n:=⟨_,rfl⟩;have HN:=Qq hn;rw [<-hn]at H⊢;have zL:=Qq (show Qg w (w.alloc (.cells #[.int .i64 n,.slice Av md.val.length cv,.slice Ar md.rel.length cr] 26))from Qz.alloc _);have wL:=Qq (show(w.alloc (.cells #[.int .i64 n,.slice Av md.val.length cv,.slice Ar md.rel.length cr] 26)).heap[w.heap.size]?=some (.cells #[.int .i64 n,.slice Av md.val.length cv,.slice Ar md.rel.length cr] 26 (0,0))from heap_alloc_new _ _);clear hr zP hn;by_cases xX:0<=lg/\lg<=6
 ·have bK:=Qq (show Is lg=0 from if_pos xX);have lL:=Qq xX;clear xX;obtain⟨z,hz⟩:∃z,z=Qa md:=⟨_,rfl⟩;have HZ:=Qq hz;clear hz;go_enter Tryz.func15,Tryz.ntmps15;go_wp2_with fail;refine(Iq lg _).mono ?_;rintro e w2 ⟨vp,rfl,zS,hi⟩;rw [bK.out];obtain⟨Ap,cp,rfl,_⟩:=hi.out bK.out;have zT:=Qq (zL.out.trans zS);have rG:=Qq ((zS.block (Qn wL.out)).trans wL.out);obtain⟨e0,e1,e2,eb⟩:=Zy rG.out;clear hi zS;go_wp2_with fail;refine(Fy _ md _ (H.out.ext zT.out) zE.out).mono ?_;rintro e w3 ⟨rfl,zC⟩;rw [<-HZ.out];have zB:=Qq (zT.out.trans zC);have rF:=Qq ((zC.block (Qn rG.out)).trans rG.out)
  clear zC e0 e1 e2 eb;by_cases xH:z=0
  ·subst xH;have yD:=Qq (show Qa md=0 from HZ.out.symm);obtain⟨rl,wP⟩:∃l,l=md.rel:=⟨_,rfl⟩;have NV:=Qq wP;have eB:=Qq (show ∀r∈rl,∀s∈r,Qm s by rw [wP];exact zE.out.rel);have F8:=Qq (show ∀r∈rl,Xv r=true/\0 < r.length by rw [wP];exact fun r hr=>Qj1 yD.out hr);rw [<-wP]at HR rF cG⊢;clear wP wL rG;go_wp2_with fail;go_loopw [7] (fun v wr=>∃k:Nat,v=.int .i64 (k:Int)/\k<=rl.length/\Hid (Qg w3 wr/\∀j,j < k->Dm lg (rl.getD j []))) (fun v _=>rl.length - (intOf v).toNat)
   case atStart=>exact⟨0,rfl,Nat.zero_le _,Qq ⟨Qz,fun j hj=>absurd hj (by omega)⟩⟩
   case round =>
    obtain⟨k,rfl,hk,zY⟩:=hrel;have HX:=Qq zY.out.1;have HJ:=Qq zY.out.2;have yY:=Qq (zB.out.trans HX.out);obtain⟨e0,e1,e2,eb⟩:=Zy ((HX.out.block (Qn rF.out)).trans rF.out);clear zY;by_cases hlt2:k < rl.length
    ·have yV:(k:Int) < (rl.length:Int):=by omega
     obtain⟨ad,u,rfl,zV,hc,hu⟩:=HR.out k hlt2;have HU:=Qq (hu.ext yY.out);have pD:=Qq (show rl.getD k []∈rl by rw [Qk,Qv hlt2];exact List.getElem_mem hlt2);obtain⟨Au,cu,rfl,_⟩:=hu;have a0:=(yY.out.cell (p:=ad.add k) (Qj zV)).trans hc;have al:(ad.add k).block < wr.heap.size:=by rw [Qr];exact Qy zV yY.out.size
     have zD:=Qq (show Dm lg (rl.getD k [])->∀j,j < k+1->Dm lg (rl.getD j [])from fun h=>Do (P:=fun j=>Dm lg (rl.getD j [])) HJ.out h);obtain⟨r,hr⟩:∃r,r=rl.getD k []:=⟨_,rfl⟩;rw [<-hr]at a0 zD pD HU;have S6:=Qq (F8.out r pD.out);clear hc hr;go_wp2_with fail;refine(Qcs _ r lg _ HU.out (eB.out r pD.out) S6.out.2 lL.out S6.out.1).mono ?_;rintro e w4 ⟨b,rfl,yA,hb⟩;have yP:=Qq (HX.out.trans yA);have HB:=Qq hb.out;clear yA hb e0 e1 e2 eb;cases b
     ·have HE:=Qq (show ¬Fw md lg from fun h=>absurd (HB.out.2 (h.rel r (by rw [<-NV.out];exact pD.out))) (by decide));go_wp2_with fail;go_ret
      first
      |exact⟨false,rfl,zB.out.trans yP.out,Qq (iff_of_false (by decide) HE.out)⟩
      |exact .inl ⟨rfl,zB.out.trans yP.out,Qq (iff_of_false (by decide) HE.out)⟩
     have HP:=Qq (zD.out (HB.out.1 rfl));go_wp2_with fail;go_roundw
     case rel=>exact⟨k+1,by go_num,by omega,Qq ⟨yP.out,HP.out⟩⟩
     case measure=>simp [intOf];omega
    obtain rfl:rl.length=k:=by omega
    have HE:=Qq (show Fw md lg from⟨lL.out,yD.out,fun r hr=>by
     rw [<-NV.out]at hr;obtain⟨j,hj,e⟩:=List.getElem_of_mem hr;have:=HJ.out j hj;rw [Qk,Qv hj]at this;have h2:Dm lg rl[j]:=this;rw [e]at h2;exact h2⟩)
    go_wp2_with fail;go_ret
    first
    |exact⟨true,rfl,yY.out,Qq (iff_of_true rfl HE.out)⟩
    |exact .inr ⟨rfl,yY.out,Qq (iff_of_true rfl HE.out)⟩
  have HE:=Qq (show ¬Fw md lg from fun h=>xH (HZ.out.trans h.ck));have rQ:(z==0)=false:=by rw [beq_eq_false_iff_ne];exact xH
  clear xH;go_wp2_with fail;go_ret
  first
  |exact⟨false,rfl,zB.out,Qq (iff_of_false (by decide) HE.out)⟩
  |exact .inl ⟨rfl,zB.out,Qq (iff_of_false (by decide) HE.out)⟩
 have bK:=Qq (show Is lg=1 from if_neg xX);have HE:=Qq (show ¬Fw md lg from fun h=>xX h.lgr);clear xX;go_enter Tryz.func15,Tryz.ntmps15;go_wp2_with fail;refine(Iq lg _).mono ?_;rintro e w2 ⟨vp,rfl,zS,hi⟩;rw [bK.out];have zT:=Qq (zL.out.trans zS);clear hi zS;go_wp2_with fail;go_ret
 first
 |exact⟨false,rfl,zT.out,Qq (iff_of_false (by decide) HE.out)⟩
 |exact .inl ⟨rfl,zT.out,Qq (iff_of_false (by decide) HE.out)⟩
theorem Qff(meet:Bool)(v:Value)(md:Md)(gn:Nat)(w:World)(h:Jk w v md)(zP:md.ok)(zU:Qa md=0)(vD:1<=gn)(hg:gn < 2^md.rel.length):
 Calls Tryz.prog 222 #[v,.int .i64 (gn:Int),.bool meet] w fun e w'=>∃u,e=.returned u/\Qg w w'/\Zf w.heap.size w' u ((List.range md.n.toNat).map (Yz md.rel gn meet md.n.toNat)):=by
 have H:=Qq h;have zE:=Qq zP;have yD:=Qq zU;obtain⟨wU,yZ,uR,_,wO,_,_⟩:=Zv zU;obtain⟨iU,sG,xF,xE,xD⟩:=info_parts Dx;obtain⟨vv,vr,rfl,hv,hr⟩:=h;obtain⟨Av,cv,rfl,_⟩:=hv;obtain⟨Ar,cr,rfl,cG,RR,HR⟩:=Gj hr;obtain⟨n,uD⟩:=Int.eq_ofNat_of_zero_le (show 0<=md.n by omega);rw [uD]at wU yZ H wO⊢;have lD:((n:Nat):Int).toNat=n:=Int.toNat_natCast n;rw [lD];have cS:n<=64:=by omega
 have uF:=decide_eq_false (Qj4 uR hg);have MF:decide ((gn:Int) < 1)=false:=decide_eq_false (by omega);have vV:min md.rel.length 64=md.rel.length:=by omega
 obtain⟨rl,wP⟩:∃l,l=md.rel:=⟨_,rfl⟩;have eB:=Qq (show ∀r∈rl,∀s∈r,Qm s by rw [wP];exact zP.rel);have ZY:=Qq (show ∀r∈rl,r.length=n by rw [wP];exact fun r hr=>by have:=wO r hr;omega);rw [<-wP]at HR cG uR uF vV⊢;have zL:=Qq (show Qg w (w.alloc (.cells #[.int .i64 (n:Int),.slice Av md.val.length cv,.slice Ar rl.length cr] 26))from Qz.alloc _);have wL:=Qq (show(w.alloc (.cells #[.int .i64 (n:Int),.slice Av md.val.length cv,.slice Ar rl.length cr] 26)).heap[w.heap.size]?=some (.cells #[.int .i64 (n:Int),.slice Av md.val.length cv,.slice Ar rl.length cr] 26 (0,0))from heap_alloc_new _ _)
 have H2:=Qq (show Jk w (.agg #[.int .i64 (n:Int),.slice Av md.val.length cv,.slice Ar rl.length cr]) md by rw [wP];exact H.out);clear hr zP zU uD wP hg wO lD H vD;go_enter Tryz.func222,Tryz.ntmps222;go_wp2_with fail;refine(Fy _ md _ (H2.out.ext zL.out) zE.out).mono ?_;rintro e w1 ⟨rfl,zN⟩;rw [yD.out];have zO:=Qq (zL.out.trans zN);have wT:=Qq ((zN.block (Qn wL.out)).trans wL.out);obtain⟨e0,e1,e2,eb⟩:=Zy wT.out;obtain⟨b,hb⟩:∃b,b=w.heap.size:=⟨_,rfl⟩;rw [<-hb]at e0 e1 e2 eb wT⊢;have aP:=Qq hb;clear zN wL hb;go_wp2_with fail;clear e0 e1 e2 eb;go_loopw [7,8] (fun vo vi wr=>∃i:Nat,vi=.int .i64 (i:Int)/\i<=n/\Hid (Qg w1 wr/\Zf w1.heap.size wr vo ((List.range i).map (Yz rl gn meet n)))) (fun _ v _=>n - (intOf v).toNat)
 case atStart=>exact⟨0,rfl,Nat.zero_le _,Qq ⟨Qz,Zf.nil _ _⟩⟩
 case round =>
  obtain⟨i,rfl,hi,zY⟩:=hrel;have vN:=Qq zY.out.1;have tM:=Qq zY.out.2;obtain⟨out,yF⟩:∃o,o=(List.range i).map (Yz rl gn meet n):=⟨_,rfl⟩;have sZ:out.length<=n:=by rw [yF];simpa using hi
  have kL:=Qq yF;rw [<-yF]at tM;obtain⟨Ax,cx,rfl⟩:=Qt tM.out;obtain⟨e0,e1,e2,eb⟩:=Zy ((vN.out.block (Qn wT.out)).trans wT.out);clear zY yF;by_cases hlt2:i < n
  ·have yV:(i:Int) < (n:Int):=by omega
   obtain⟨wq,vC⟩:∃v,v=wr:=⟨_,rfl⟩;subst vC;cases meet
   ·skip
    go_wp2_with fail;clear e0 e1 e2 eb;go_loopw [9,10] (fun vs vi wr=>∃a:Nat,vi=.int .i64 (a:Int)/\a<=rl.length/\∃s:Nat,vs=.int .u64 (s:Int)/\Hid (s=(List.range a).foldl (Ft rl gn false i) 0/\Qg wq wr)) (fun _ v _=>rl.length - (intOf v).toNat)
    case atStart=>exact⟨0,rfl,Nat.zero_le _,0,rfl,Qq ⟨rfl,Qz⟩⟩
    case round =>
     obtain⟨a,rfl,ha,s,rfl,zY⟩:=hrel;have lI:=Qq zY.out.1;have wY:=Qq zY.out.2;have HX:=Qq (vN.out.trans wY.out);have rD:=Qq (show Qm s by rw [lI.out];exact Bz (fun s a h=>Wh eB.out h) _ _ (show(0:Nat) < _ by omega));obtain⟨e0,e1,e2,eb⟩:=Zy ((HX.out.block (Qn wT.out)).trans wT.out);clear zY;by_cases yW:a < rl.length
     ·have wV:(a:Int) < (rl.length:Int):=by omega
      have cV:min a 64=a:=by omega
      obtain⟨ad,u,rfl,zV,yU,hu⟩:=HR.out a yW;have yQ:(rl.getD a []).length=n:=ZY.out _ (by rw [Qk,Qv yW];exact List.getElem_mem yW);obtain⟨Au,cu,rfl,_,_,HU⟩:=Vf hu;rw [yQ]at yU HU;obtain⟨ud,rfl,wF,sO⟩:=HU.out i hlt2;have tG:=Qq (zO.out.trans HX.out);have a0:=(tG.out.cell (p:=ad.add a) (Qj zV)).trans yU;have al:(ad.add a).block < wr.heap.size:=by rw [Qr];exact Qy zV tG.out.size
      have u0:=(tG.out.cell (p:=ud.add i) (Qj wF)).trans sO;have ul:(ud.add i).block < wr.heap.size:=by rw [Qr];exact Qy wF tG.out.size
      have tC:=Ny gn a;have zI:=Xq rD.out (Yx (Ss eB.out a) i);have zA:=Qq (show(List.range (a+1)).foldl (Ft rl gn false i) 0=if gn.testBit a then s|||(rl.getD a []).getD i 0 else s by rw [Kq,<-lI.out];rfl);obtain⟨x,hx⟩:∃x,x=(rl.getD a []).getD i 0:=⟨_,rfl⟩;rw [<-hx]at u0 zI zA;obtain⟨z,hz⟩:∃z,z=s|||x:=⟨_,rfl⟩;rw [<-hz]at zI zA;clear yU sO hx hz yQ hu;cases yK:gn.testBit a
      ·rw [yK]at tC zA;clear yK;go_wp2_with fail;go_roundw
       case rel=>exact⟨a+1,by go_num,by omega,s,rfl,Qq ⟨by rw [zA.out];rfl,wY.out⟩⟩
       case measure=>simp [intOf];omega
      rw [yK]at tC zA;clear yK;go_wp2_with fail;go_roundw
      case rel=>exact⟨a+1,by go_num,by omega,z,rfl,Qq ⟨by rw [zA.out];rfl,wY.out⟩⟩
      case measure=>simp [intOf];omega
     obtain rfl:rl.length=a:=by omega
     have GD:=Qq (show Yz rl gn false n i=s by rw [lI.out];rfl);have xS:out.length+1<=maxLen:=by unfold maxLen;omega
     have xP:(out.length+1)*8<=140737488355328:=by omega
     have lJ:=Qq (tM.out.ext wY.out);have tG:=Qq (zO.out.trans HX.out);go_wp2_with(at_builtin;refine wpList_append_own_at _ rfl _ _ 23 rfl w1.heap.size 41 iU (.int .u64 0) 1 8 Tryz.underlying23 sG xF xE xD rfl (by decide) _ out.length (uV out) rfl (Zg lJ.out (Qz.alloc _)) ⟨_,0,none⟩ 1 1 [.int .u64 (s:Int)] rfl rfl (Zt _ _ _ (by simp)) (fun u hu=>by rw [List.mem_singleton.1 hu];rfl) xS xP (Qx HX.out.size (by simp)) ?_);intro v7 w7 zW zX _ _;have sL:=Qq (show Qg w1 w7 from(HX.out.alloc _).grown zX (fun k hk=>(lJ.out.lt k hk).1));have pL:=Qq (show Zf w1.heap.size w7 v7 ((List.range (i+1)).map (Yz rl gn false n)) by
      rw [Qvr,<-kL.out,GD.out];unfold Zf uV;rw [List.map_append,List.length_append];exact zW)
     obtain⟨A7,c7,rfl⟩:=Qt zW;clear zW zX;go_wp2_with fail;go_roundw
     case rel=>exact⟨i+1,by go_num,by omega,Qq ⟨sL.out,pL.out⟩⟩
     case measure=>simp [intOf];omega
   skip
   go_wp2_with fail;refine(Sm n cS _).mono ?_;rintro e w2 ⟨rfl,rfl⟩;go_wp2_with fail;clear e0 e1 e2 eb;go_loopw [9,10] (fun vs vi wr=>∃a:Nat,vi=.int .i64 (a:Int)/\a<=rl.length/\∃s:Nat,vs=.int .u64 (s:Int)/\Hid (s=(List.range a).foldl (Ft rl gn true i) (Zk n)/\Qg wq wr)) (fun _ v _=>rl.length - (intOf v).toNat)
   case atStart=>exact⟨0,rfl,Nat.zero_le _,Zk n,rfl,Qq ⟨rfl,Qz⟩⟩
   case round =>
    obtain⟨a,rfl,ha,s,rfl,zY⟩:=hrel;have lI:=Qq zY.out.1;have wY:=Qq zY.out.2;have HX:=Qq (vN.out.trans wY.out);have rD:=Qq (show Qm s by rw [lI.out];exact Bz (fun s a h=>Wh eB.out h) _ _ (Yk cS));obtain⟨e0,e1,e2,eb⟩:=Zy ((HX.out.block (Qn wT.out)).trans wT.out);clear zY;by_cases yW:a < rl.length
    ·have wV:(a:Int) < (rl.length:Int):=by omega
     have cV:min a 64=a:=by omega
     obtain⟨ad,u,rfl,zV,yU,hu⟩:=HR.out a yW;have yQ:(rl.getD a []).length=n:=ZY.out _ (by rw [Qk,Qv yW];exact List.getElem_mem yW);obtain⟨Au,cu,rfl,_,_,HU⟩:=Vf hu;rw [yQ]at yU HU;obtain⟨ud,rfl,wF,sO⟩:=HU.out i hlt2;have tG:=Qq (zO.out.trans HX.out);have a0:=(tG.out.cell (p:=ad.add a) (Qj zV)).trans yU;have al:(ad.add a).block < wr.heap.size:=by rw [Qr];exact Qy zV tG.out.size
     have u0:=(tG.out.cell (p:=ud.add i) (Qj wF)).trans sO;have ul:(ud.add i).block < wr.heap.size:=by rw [Qr];exact Qy wF tG.out.size
     have tC:=Ny gn a;have zI:=Xk rD.out (Yx (Ss eB.out a) i);have zA:=Qq (show(List.range (a+1)).foldl (Ft rl gn true i) (Zk n)=if gn.testBit a then s&&&(rl.getD a []).getD i 0 else s by rw [Kq,<-lI.out];rfl);obtain⟨x,hx⟩:∃x,x=(rl.getD a []).getD i 0:=⟨_,rfl⟩;rw [<-hx]at u0 zI zA;obtain⟨z,hz⟩:∃z,z=s&&&x:=⟨_,rfl⟩;rw [<-hz]at zI zA;clear yU sO hx hz yQ hu;cases yK:gn.testBit a
     ·rw [yK]at tC zA;clear yK;go_wp2_with fail;go_roundw
      case rel=>exact⟨a+1,by go_num,by omega,s,rfl,Qq ⟨by rw [zA.out];rfl,wY.out⟩⟩
      case measure=>simp [intOf];omega
     rw [yK]at tC zA;clear yK;go_wp2_with fail;go_roundw
     case rel=>exact⟨a+1,by go_num,by omega,z,rfl,Qq ⟨by rw [zA.out];rfl,wY.out⟩⟩
     case measure=>simp [intOf];omega
    obtain rfl:rl.length=a:=by omega
    have GD:=Qq (show Yz rl gn true n i=s by rw [lI.out];rfl);have xS:out.length+1<=maxLen:=by unfold maxLen;omega
    have xP:(out.length+1)*8<=140737488355328:=by omega
    have lJ:=Qq (tM.out.ext wY.out);have tG:=Qq (zO.out.trans HX.out);go_wp2_with(at_builtin;refine wpList_append_own_at _ rfl _ _ 23 rfl w1.heap.size 41 iU (.int .u64 0) 1 8 Tryz.underlying23 sG xF xE xD rfl (by decide) _ out.length (uV out) rfl (Zg lJ.out (Qz.alloc _)) ⟨_,0,none⟩ 1 1 [.int .u64 (s:Int)] rfl rfl (Zt _ _ _ (by simp)) (fun u hu=>by rw [List.mem_singleton.1 hu];rfl) xS xP (Qx HX.out.size (by simp)) ?_);intro v7 w7 zW zX _ _;have sL:=Qq (show Qg w1 w7 from(HX.out.alloc _).grown zX (fun k hk=>(lJ.out.lt k hk).1));have pL:=Qq (show Zf w1.heap.size w7 v7 ((List.range (i+1)).map (Yz rl gn true n)) by
     rw [Qvr,<-kL.out,GD.out];unfold Zf uV;rw [List.map_append,List.length_append];exact zW)
    obtain⟨A7,c7,rfl⟩:=Qt zW;clear zW zX;go_wp2_with fail;go_roundw
    case rel=>exact⟨i+1,by go_num,by omega,Qq ⟨sL.out,pL.out⟩⟩
    case measure=>simp [intOf];omega
  obtain rfl:n=i:=by omega
  go_wp2_with fail;go_ret;exact⟨_,rfl,zO.out.trans vN.out,by rw [<-kL.out];exact Kp tM.out zO.out.size⟩
theorem Qgq(v:Value)(md:Md)(gn:Nat)(w:World)(h:Jk w v md)(zP:md.ok)(zU:Qa md=0)(vD:1<=gn)(hg:gn < 2^md.rel.length):
 Calls Tryz.prog 214 #[v,.int .i64 (gn:Int)] w fun e w'=>∃u,e=.returned u/\Qg w w'/\Zf w.heap.size w' u ((List.range md.n.toNat).map (Yz md.rel gn false md.n.toNat)):=by
 have H:=Qq h;have HO:=Qq zP;have HC:=Qq zU;have HG:=Qq hg;obtain⟨vv,vr,rfl,⟨Av,cv,rfl,_⟩,⟨Ar,cr,rfl,_⟩⟩:=h;clear zP zU hg;go_enter Tryz.func214,Tryz.ntmps214;go_wp2_with fail;refine(Qff false _ md gn _ (H.out.ext (Qz.alloc _)) HO.out HC.out vD HG.out).mono ?_;rintro e w1 ⟨u,rfl,hx,hm⟩;have HX:=Qq (((Qg.refl w).alloc _).trans hx);have HM:=Qq (show Zf w.heap.size w1 u _ from Kp hm (by simp));clear hx hm;go_wp2_with fail;go_ret;exact⟨u,rfl,HX.out,HM.out⟩
theorem Qay(v:Value)(md:Md)(gn:Nat)(w:World)(h:Jk w v md)(zP:md.ok)(zU:Qa md=0)(vD:1<=gn)(hg:gn < 2^md.rel.length):
 Calls Tryz.prog 215 #[v,.int .i64 (gn:Int)] w fun e w'=>∃u,e=.returned u/\Qg w w'/\Zf w.heap.size w' u ((List.range md.n.toNat).map (Yz md.rel gn true md.n.toNat)):=by
 have H:=Qq h;have HO:=Qq zP;have HC:=Qq zU;have HG:=Qq hg;obtain⟨vv,vr,rfl,⟨Av,cv,rfl,_⟩,⟨Ar,cr,rfl,_⟩⟩:=h;clear zP zU hg;go_enter Tryz.func215,Tryz.ntmps215;go_wp2_with fail;refine(Qff true _ md gn _ (H.out.ext (Qz.alloc _)) HO.out HC.out vD HG.out).mono ?_;rintro e w1 ⟨u,rfl,hx,hm⟩;have HX:=Qq (((Qg.refl w).alloc _).trans hx);have HM:=Qq (show Zf w.heap.size w1 u _ from Kp hm (by simp));clear hx hm;go_wp2_with fail;go_ret;exact⟨u,rfl,HX.out,HM.out⟩
theorem Iz(v:Value)(l:List Nd)(w:World)(h:Yq w v l)(zU:check l=0):
 Calls Tryz.prog 47 #[v] w fun e w'=>e=.returned (.int .i64 ((Jl (Qf l):Nat):Int))/\Qg w w':=by
 have H:=Qq h;have HH:=Qq (Jb zU).2.2.2;clear h zU;go_enter Tryz.func47,Tryz.ntmps47;go_wp2_with fail;refine(Sp _ l _ H.out).mono ?_;rintro e w1 ⟨u,rfl,hm⟩;have HX:=Qq hm.2.2;obtain⟨A,c,rfl,xR,yN,zM⟩:=hm.fml.1;unfold maxLen at yN;have HR:=Qq zM;obtain⟨cl,yU⟩:∃cl,cl=Qf l:=⟨_,rfl⟩;have uO:=Qq yU;rw [<-yU]at HR xR HH;rw [<-yU];clear hm zM yU;go_wp2_with fail;go_loopw [4,5] (fun out i wr=>∃k:Nat,k<=cl.length/\i=.int .i64 k/\∃m:Nat,out=.int .i64 (m:Int)/\Hid (m=Jl (cl.take k)/\Qg w1 wr)) (fun _ i _=>cl.length - (intOf i).toNat)
 case atStart=>exact⟨0,Nat.zero_le _,rfl,0,rfl,Qq ⟨rfl,Qz⟩⟩
 case round =>
  obtain⟨k,hk,rfl,m,rfl,zY⟩:=hrel;have UV:=Qq zY.out.1;have zT:=Qq zY.out.2;clear zY;by_cases hlt2:k < cl.length
  ·have yV:(k:Int) < (cl.length:Int):=by omega
   obtain⟨a,ha⟩:∃a,cl[k]?=some a:=⟨_,Qv hlt2⟩;obtain⟨ad,rfl,yS,xV⟩:=HR.out (by intro e;rw [e]at hlt2;simp at hlt2);obtain⟨a0,a1,a2,a3,a4,a5⟩:=(xV k a ha).keep fun p hp=>zT.out.cell (p:=p) (by rw [hp,Qr];exact yS)
   have xL:(ad.add (k*6)).block < wr.heap.size:=by rw [Qr];exact Qy yS zT.out.size
   have HO:=Qq (HH.out a (List.mem_of_getElem? ha));have zD:=Qq (show Jl (cl.take (k+1))=Tq m a by rw [UV.out,Kd ha];unfold Jl;rw [List.foldl_append];rfl);have nJ:m < 2^4:=by rw [UV.out];exact Ry _ _ (fun n hn=>HH.out n (List.mem_of_mem_take hn)) (by decide)
   clear ha xV;obtain⟨gn,vL⟩:=Int.eq_ofNat_of_zero_le (Ui HO.out).1;have SW:gn < 16:=by have:=(Ui HO.out).2;omega
   rw [vL]at a3;have mJ:=Qq vL;clear vL;cases uZ:Zb a.op
   ·have zA:=Qq (show Tq m a=m|||gn by unfold Tq;rw [uZ,mJ.out];simp);have uW:=Dp m gn (by omega) (by omega);obtain⟨z,hz⟩:∃z,z=m|||gn:=⟨_,rfl⟩;rw [<-hz]at uW zA;have gE:=Qq uZ;clear hz uZ;go_wp2_with fail;refine(Ee a.op _).mono ?_;rintro e w2 ⟨rfl,rfl⟩;rw [gE.out];go_wp2_with fail;go_roundw
    case rel=>exact⟨k+1,by omega,by go_num,z,rfl,Qq ⟨by rw [zD.out,zA.out],zT.out⟩⟩
    case measure=>simp [intOf];omega
   obtain⟨h0,h4⟩:=Xz HO.out uZ;obtain⟨ai,tF⟩:=Int.eq_ofNat_of_zero_le h0;have DE:ai < 4:=by omega
   have vV:min ai 64=ai:=by omega
   rw [tF]at a1;have SA:2^ai < 16:=Qy (Nat.pow_lt_pow_right (by decide) DE) (Nat.le_refl _);have zA:=Qq (show Tq m a=(m|||2^ai)|||gn by unfold Tq;rw [uZ,mJ.out,tF];rfl);have SC:bits .or .i64 (m:Int) (wrap64 ((2:Int)^ai))=((m|||2^ai:Nat):Int):=by
    rw [Di (by omega)];exact Dp m (2^ai) (by omega) (by omega)
   have xO:m|||2^ai < 2^4:=Nat.or_lt_two_pow nJ SA;have KQ:=Dp (m|||2^ai) gn (by omega) (by omega);obtain⟨y,hy⟩:∃y,y=m|||2^ai:=⟨_,rfl⟩;rw [<-hy]at SC KQ zA;obtain⟨z,hz⟩:∃z,z=y|||gn:=⟨_,rfl⟩;rw [<-hz]at KQ zA;have gE:=Qq uZ;clear hy hz uZ h0 h4 tF SA xO;go_wp2_with fail;refine(Ee a.op _).mono ?_;rintro e w2 ⟨rfl,rfl⟩;rw [gE.out];go_wp2_with fail;go_roundw
   case rel=>exact⟨k+1,by omega,by go_num,z,rfl,Qq ⟨by rw [zD.out,zA.out],zT.out⟩⟩
   case measure=>simp [intOf];omega
  obtain rfl:cl.length=k:=by omega
  have HE:=Qq (show Jl cl=m by rw [UV.out,List.take_of_length_le (Nat.le_refl _)]);go_wp2_with fail;go_ret;exact⟨by rw [<-uO.out,HE.out] <;> rfl,HX.out.trans zT.out⟩
theorem Qzv(v:Value)(l:List Nd)(w:World)(h:Yq w v l)(zU:check l=0):
 Calls Tryz.prog 48 #[v] w fun e w'=>e=.returned (.int .i64 ((Yy (Qf l):Nat):Int))/\Qg w w':=by
 have H:=Qq h;have HH:=Qq (Jb zU).2.2.2;clear h zU;go_enter Tryz.func48,Tryz.ntmps48;go_wp2_with fail;refine(Sp _ l _ H.out).mono ?_;rintro e w1 ⟨u,rfl,hm⟩;have HX:=Qq hm.2.2;obtain⟨A,c,rfl,xR,yN,zM⟩:=hm.fml.1;unfold maxLen at yN;have HR:=Qq zM;obtain⟨cl,yU⟩:∃cl,cl=Qf l:=⟨_,rfl⟩;have uO:=Qq yU;rw [<-yU]at HR xR HH;rw [<-yU];clear hm zM yU;go_wp2_with fail;go_loopw [4,5] (fun out i wr=>∃k:Nat,k<=cl.length/\i=.int .i64 k/\∃m:Nat,out=.int .i64 (m:Int)/\Hid (m=Yy (cl.take k)/\Qg w1 wr)) (fun _ i _=>cl.length - (intOf i).toNat)
 case atStart=>exact⟨0,Nat.zero_le _,rfl,0,rfl,Qq ⟨rfl,Qz⟩⟩
 case round =>
  obtain⟨k,hk,rfl,m,rfl,zY⟩:=hrel;have UV:=Qq zY.out.1;have zT:=Qq zY.out.2;clear zY;by_cases hlt2:k < cl.length
  ·have yV:(k:Int) < (cl.length:Int):=by omega
   obtain⟨a,ha⟩:∃a,cl[k]?=some a:=⟨_,Qv hlt2⟩;obtain⟨ad,rfl,yS,xV⟩:=HR.out (by intro e;rw [e]at hlt2;simp at hlt2);obtain⟨a0,a1,a2,a3,a4,a5⟩:=(xV k a ha).keep fun p hp=>zT.out.cell (p:=p) (by rw [hp,Qr];exact yS)
   have xL:(ad.add (k*6)).block < wr.heap.size:=by rw [Qr];exact Qy yS zT.out.size
   have HO:=Qq (HH.out a (List.mem_of_getElem? ha));have zD:=Qq (show Yy (cl.take (k+1))=Tz m a by rw [UV.out,Kd ha];unfold Yy;rw [List.foldl_append];rfl);have nJ:m < 2^8:=by rw [UV.out];exact Tb _ _ (fun n hn=>HH.out n (List.mem_of_mem_take hn)) (by decide)
   clear ha xV;by_cases h3:a.op=3
   ·obtain⟨h0,h8⟩:=By HO.out h3;obtain⟨ai,tF⟩:=Int.eq_ofNat_of_zero_le h0;have NA:ai < 8:=by omega
    have vV:min ai 64=ai:=by omega
    rw [tF]at a1;rw [h3]at a0;have hp8:2^ai < 256:=Qy (Nat.pow_lt_pow_right (by decide) NA) (Nat.le_refl _);have zA:=Qq (show Tz m a=m|||2^ai by unfold Tz;rw [if_pos h3,tF];rfl);have SC:bits .or .i64 (m:Int) (wrap64 ((2:Int)^ai))=((m|||2^ai:Nat):Int):=by
     rw [Di NA];exact Dp m (2^ai) (by omega) (by omega)
    obtain⟨z,hz⟩:∃z,z=m|||2^ai:=⟨_,rfl⟩;rw [<-hz]at SC zA;clear hz h0 h8 tF hp8 h3;go_wp2_with fail;go_roundw
    case rel=>exact⟨k+1,by omega,by go_num,z,rfl,Qq ⟨by rw [zD.out,zA.out],zT.out⟩⟩
    case measure=>simp [intOf];omega
   have t3:(a.op==3)=false:=by simpa using h3
   have zA:=Qq (show Tz m a=m by unfold Tz;rw [if_neg h3]);clear h3;go_wp2_with fail;go_roundw
   case rel=>exact⟨k+1,by omega,by go_num,m,rfl,Qq ⟨by rw [zD.out,zA.out],zT.out⟩⟩
   case measure=>simp [intOf];omega
  obtain rfl:cl.length=k:=by omega
  have HE:=Qq (show Yy cl=m by rw [UV.out,List.take_of_length_le (Nat.le_refl _)]);go_wp2_with fail;go_ret;exact⟨by rw [<-uO.out,HE.out] <;> rfl,HX.out.trans zT.out⟩
theorem Qf2(v:Value)(f:List Nd)(a b:Nat)(w:World)(h:Yq w v f):
 Calls Tryz.prog 16 #[v,.int .i64 (a:Int),.int .i64 (b:Int)] w fun e w'=>e=.returned (.bool (Yl f a b))/\Qg w w':=by
 have H:=Qq h;obtain⟨A,c,rfl,_⟩:=Qc h;clear h;obtain⟨z,hz⟩:∃z,z=check f:=⟨_,rfl⟩;have HZ:=Qq hz;clear hz;by_cases xH:z=0
 ·subst xH;have yD:=Qq (show check f=0 from HZ.out.symm);have VM:=Qq (show Yl f a b=((List.range 4).all (Xx a (Jl (Qf f)))&&(List.range 8).all (Xx b (Yy (Qf f)))) by unfold Yl;rw [<-HZ.out];rfl);obtain⟨ma,YS⟩:∃m,m=Jl (Qf f):=⟨_,rfl⟩;obtain⟨mf,aW⟩:∃m,m=Yy (Qf f):=⟨_,rfl⟩;rw [<-YS,<-aW]at VM;have XP:=Qq YS;have FP:=Qq aW;clear YS aW;go_enter Tryz.func16,Tryz.ntmps16;go_wp2_with fail;refine(Gn _ f _ H.out.1).mono ?_;rintro e w1 ⟨rfl,zN⟩;rw [yD.out];have zO:=Qq zN;clear zN;go_wp2_with fail;go_loopw [7] (fun v wr=>∃k:Nat,v=.int .i64 (k:Int)/\k<=4/\Hid (Qg w wr/\∀j,j < k->Xx a ma j=true)) (fun v _=>4 - (intOf v).toNat)
  case atStart=>exact⟨0,rfl,Nat.zero_le _,Qq ⟨zO.out,fun j hj=>absurd hj (by omega)⟩⟩
  case round =>
   obtain⟨k,rfl,hk,zY⟩:=hrel;have HX:=Qq zY.out.1;have HJ:=Qq zY.out.2;clear zY;by_cases hlt2:k < 4
   ·have yV:(k:Int) < 4:=by omega
    have vV:min k 64=k:=by omega
    have tC:=Ny ma k;have zD:=Qq (show Xx a ma k=true->∀j,j < k+1->Xx a ma j=true from fun h=>Do (P:=fun j=>Xx a ma j=true) HJ.out h);have sX:=Qq (show Xx a ma k=false->Yl f a b=false from fun h=>by rw [VM.out,Qdd hlt2 h];rfl);cases yK:ma.testBit k
    ·rw [yK]at tC;have HP:=Qq (zD.out (by unfold Xx;rw [yK];rfl));clear yK;go_wp2_with fail;refine(Iz _ f _ (H.out.ext HX.out) yD.out).mono ?_;rintro e w2 ⟨rfl,zS⟩;rw [<-XP.out];have zT:=Qq (HX.out.trans zS);clear zS;go_wp2_with fail;go_roundw
     case rel=>exact⟨k+1,by go_num,by omega,Qq ⟨zT.out,HP.out⟩⟩
     case measure=>simp [intOf];omega
    rw [yK]at tC;by_cases hka:k < a
    ·have HP:=Qq (zD.out (by unfold Xx;rw [yK,decide_eq_true hka];rfl));have SN:decide ((a:Int)<=(k:Int))=false:=decide_eq_false (by omega);have SM:decide (a<=k)=false:=decide_eq_false (by omega);clear yK;go_wp2_with fail;refine(Iz _ f _ (H.out.ext HX.out) yD.out).mono ?_;rintro e w2 ⟨rfl,zS⟩;rw [<-XP.out];have zT:=Qq (HX.out.trans zS);clear zS;go_wp2_with fail;go_roundw
     case rel=>exact⟨k+1,by go_num,by omega,Qq ⟨zT.out,HP.out⟩⟩
     case measure=>simp [intOf];omega
    have HE:=Qq (sX.out (by unfold Xx;rw [yK,decide_eq_false hka];rfl));have SN:decide ((a:Int)<=(k:Int))=true:=decide_eq_true (by omega);have SM:decide (a<=k)=true:=decide_eq_true (by omega);clear yK;go_wp2_with fail;refine(Iz _ f _ (H.out.ext HX.out) yD.out).mono ?_;rintro e w2 ⟨rfl,zS⟩;rw [<-XP.out];have zT:=Qq (HX.out.trans zS);clear zS;go_wp2_with fail;go_ret;exact⟨by rw [HE.out] <;> rfl,zT.out⟩
   obtain rfl:k=4:=by omega
   have PP:=Qq (Qg8 HJ.out);have vN:=Qq HX.out;clear HX HJ;rw [show((4:Nat):Int)=4 from rfl];go_wp2_with fail;go_loopw [8] (fun v wr=>∃k:Nat,v=.int .i64 (k:Int)/\k<=8/\Hid (Qg w wr/\∀j,j < k->Xx b mf j=true)) (fun v _=>8 - (intOf v).toNat)
   case atStart=>exact⟨0,rfl,Nat.zero_le _,Qq ⟨vN.out,fun j hj=>absurd hj (by omega)⟩⟩
   case round =>
    obtain⟨k,rfl,hk,zY⟩:=hrel;have HX:=Qq zY.out.1;have HJ:=Qq zY.out.2;clear zY;by_cases hlt2:k < 8
    ·have yV:(k:Int) < 8:=by omega
     have vV:min k 64=k:=by omega
     have tC:=Ny mf k;have zD:=Qq (show Xx b mf k=true->∀j,j < k+1->Xx b mf j=true from fun h=>Do (P:=fun j=>Xx b mf j=true) HJ.out h);have sX:=Qq (show Xx b mf k=false->Yl f a b=false from fun h=>by rw [VM.out,Qdd (n:=8) hlt2 h,Bool.and_false]);cases yK:mf.testBit k
     ·rw [yK]at tC;have HP:=Qq (zD.out (by unfold Xx;rw [yK];rfl));clear yK;go_wp2_with fail;refine(Qzv _ f _ (H.out.ext HX.out) yD.out).mono ?_;rintro e w2 ⟨rfl,zS⟩;rw [<-FP.out];have zT:=Qq (HX.out.trans zS);clear zS;go_wp2_with fail;go_roundw
      case rel=>exact⟨k+1,by go_num,by omega,Qq ⟨zT.out,HP.out⟩⟩
      case measure=>simp [intOf];omega
     rw [yK]at tC;by_cases hka:k < b
     ·have HP:=Qq (zD.out (by unfold Xx;rw [yK,decide_eq_true hka];rfl));have SN:decide ((b:Int)<=(k:Int))=false:=decide_eq_false (by omega);have SM:decide (b<=k)=false:=decide_eq_false (by omega);clear yK;go_wp2_with fail;refine(Qzv _ f _ (H.out.ext HX.out) yD.out).mono ?_;rintro e w2 ⟨rfl,zS⟩;rw [<-FP.out];have zT:=Qq (HX.out.trans zS);clear zS;go_wp2_with fail;go_roundw
      case rel=>exact⟨k+1,by go_num,by omega,Qq ⟨zT.out,HP.out⟩⟩
      case measure=>simp [intOf];omega
     have HE:=Qq (sX.out (by unfold Xx;rw [yK,decide_eq_false hka];rfl));have SN:decide ((b:Int)<=(k:Int))=true:=decide_eq_true (by omega);have SM:decide (b<=k)=true:=decide_eq_true (by omega);clear yK;go_wp2_with fail;refine(Qzv _ f _ (H.out.ext HX.out) yD.out).mono ?_;rintro e w2 ⟨rfl,zS⟩;rw [<-FP.out];have zT:=Qq (HX.out.trans zS);clear zS;go_wp2_with fail;go_ret;exact⟨by rw [HE.out] <;> rfl,zT.out⟩
    obtain rfl:k=8:=by omega
    have HE:=Qq (show Yl f a b=true by rw [VM.out,PP.out,Qg8 HJ.out];rfl);go_wp2_with fail;go_ret;exact⟨by rw [HE.out] <;> rfl,HX.out⟩
 have rQ:(z==0)=false:=by rw [beq_eq_false_iff_ne];exact xH
 have HE:=Qq (show Yl f a b=false by unfold Yl;rw [<-HZ.out,rQ];rfl);clear xH;go_enter Tryz.func16,Tryz.ntmps16;go_wp2_with fail;refine(Gn _ f _ H.out.1).mono ?_;rintro e w1 ⟨rfl,zN⟩;rw [<-HZ.out];have zO:=Qq zN;clear zN;go_wp2_with fail;go_ret;exact⟨by rw [HE.out] <;> rfl,zO.out⟩
theorem Qlw(vm v:Value)(md:Md)(f:List Nd)(i:Int)(w:World)(hm:Jk w vm md)(h:Yq w v f):
 Calls Tryz.prog 192 #[vm,v,.int .i64 i] w fun e w'=>e=.returned (.bool (Hf md f i))/\Qg w w':=by
 have H:=Qq h;obtain⟨vv,vr,rfl,⟨Av,cv,rfl,_⟩,⟨Ar,cr,rfl,_⟩⟩:=hm;obtain⟨A,c,rfl,_⟩:=Qc h;clear h;have zL:=Qq (show Qg w (w.alloc (.cells #[.int .i64 md.n,.slice Av md.val.length cv,.slice Ar md.rel.length cr] 26))from Qz.alloc _);have wL:=Qq (show(w.alloc (.cells #[.int .i64 md.n,.slice Av md.val.length cv,.slice Ar md.rel.length cr] 26)).heap[w.heap.size]?=some (.cells #[.int .i64 md.n,.slice Av md.val.length cv,.slice Ar md.rel.length cr] 26 (0,0))from heap_alloc_new _ _);go_enter Tryz.func192,Tryz.ntmps192;go_wp2_with fail;refine(Qx7 _ f i _ (H.out.ext zL.out)).mono ?_;rintro e w1 ⟨u,rfl,uS⟩
 have HM:=Qq uS;have zO:=Qq (zL.out.trans uS.ext);have wT:=Qq ((uS.ext.block (Qn wL.out)).trans wL.out);obtain⟨Au,cu,rfl,_⟩:=Qc uS.fml;obtain⟨g,hg⟩:∃g,g=Js f i:=⟨_,rfl⟩;have HG:=Qq (show Hf md f i=(Jr (Jp g) 15&&Yl g md.rel.length md.val.length) by rw [hg];rfl);rw [<-hg]at HM⊢;have wZ:=(Pt g).1;clear uS hg;cases hs:Jr (Jp g) 15
 ·rw [hs]at wZ HG;clear hs;go_wp2_with fail;refine(Mj _ g _ HM.out.fml).mono ?_;rintro e w2 ⟨rfl,zS⟩;have zT:=Qq (zO.out.trans zS);clear zS;go_wp2_with fail;go_ret;exact⟨by rw [HG.out] <;> rfl,zT.out⟩
 rw [hs]at wZ HG;clear hs;go_wp2_with fail;refine(Mj _ g _ HM.out.fml).mono ?_;rintro e w2 ⟨rfl,zS⟩;have zT:=Qq (zO.out.trans zS);have wE:=Qq (HM.out.fml.ext zS);obtain⟨e0,e1,e2,eb⟩:=Zy ((zS.block (Qn wT.out)).trans wT.out);clear zS;go_wp2_with fail;refine(Qf2 _ g md.rel.length md.val.length _ wE.out).mono ?_;rintro e w3 ⟨rfl,zC⟩;have zB:=Qq (zT.out.trans zC);clear zC e0 e1 e2 eb;go_wp2_with fail;go_ret;exact⟨by rw [HG.out,Bool.true_and] <;> rfl,zB.out⟩
theorem Qz4(vm v:Value)(md:Md)(f:List Nd)(w:World)(hm:Jk w vm md)(zP:md.ok)(h:Yq w v f):
 Calls Tryz.prog 149 #[vm,v,.int .i64 15] w fun e w'=>e=.returned (.int .i64 (Jz md f))/\Qg w w':=by
 have H:=Qq h;have HM:=Qq hm;have zE:=Qq zP;obtain⟨vv,vr,rfl,⟨Av,cv,rfl,_⟩,⟨Ar,cr,rfl,_⟩⟩:=hm;obtain⟨A,c,rfl,_⟩:=Qc h;clear h zP;have zL:=Qq (show Qg w (w.alloc (.cells #[.int .i64 md.n,.slice Av md.val.length cv,.slice Ar md.rel.length cr] 26))from Qz.alloc _);have wL:=Qq (show(w.alloc (.cells #[.int .i64 md.n,.slice Av md.val.length cv,.slice Ar md.rel.length cr] 26)).heap[w.heap.size]?=some (.cells #[.int .i64 md.n,.slice Av md.val.length cv,.slice Ar md.rel.length cr] 26 (0,0))from heap_alloc_new _ _);obtain⟨z,hz⟩:∃z,z=Qa md:=⟨_,rfl⟩;have HZ:=Qq hz;clear hz;by_cases xH:z=0
 ·subst xH;obtain⟨y,hy⟩:∃y,y=check f:=⟨_,rfl⟩;have HY:=Qq hy;clear hy;by_cases YB:y=0
  ·subst YB;have wZ:=(Pt f).2;cases hs:Jr (Jp f) 15
   ·rw [hs]at wZ;have HE:=Qq (show Jz md f=10 by unfold Jz;rw [<-HZ.out,if_neg (by simp),<-HY.out,if_neg (by simp),if_pos hs]);clear hs;go_enter Tryz.func149,Tryz.ntmps149;go_wp2_with fail;refine(Fy _ md _ (HM.out.ext zL.out) zE.out).mono ?_;rintro e w1 ⟨rfl,zN⟩;rw [<-HZ.out];have zO:=Qq (zL.out.trans zN);clear zN;go_wp2_with fail;refine(Gn _ f _ (H.out.ext zO.out).1).mono ?_;rintro e w2 ⟨rfl,zS⟩;rw [<-HY.out];have zT:=Qq (zO.out.trans zS);clear zS;go_wp2_with fail;refine(Mj _ f _ (H.out.ext zT.out)).mono ?_;rintro e w3 ⟨rfl,zC⟩;have zB:=Qq (zT.out.trans zC)
    clear zC;go_wp2_with fail;go_ret;exact⟨by rw [HE.out] <;> rfl,zB.out⟩
   rw [hs]at wZ;have HE:=Qq (show Jz md f=if Yl f md.rel.length md.val.length=false then 2 else 0 by unfold Jz;rw [<-HZ.out,if_neg (by simp),<-HY.out,if_neg (by simp),hs,if_neg (by simp)]);clear hs;obtain⟨t,ht⟩:∃t,t=Yl f md.rel.length md.val.length:=⟨_,rfl⟩;have HT:=Qq ht;rw [<-ht]at HE;clear ht;go_enter Tryz.func149,Tryz.ntmps149;go_wp2_with fail;refine(Fy _ md _ (HM.out.ext zL.out) zE.out).mono ?_;rintro e w1 ⟨rfl,zN⟩;rw [<-HZ.out];have zO:=Qq (zL.out.trans zN);have wT:=Qq ((zN.block (Qn wL.out)).trans wL.out);clear zN;go_wp2_with fail;refine(Gn _ f _ (H.out.ext zO.out).1).mono ?_
   rintro e w2 ⟨rfl,zS⟩;rw [<-HY.out];have zT:=Qq (zO.out.trans zS);have rG:=Qq ((zS.block (Qn wT.out)).trans wT.out);clear zS;go_wp2_with fail;refine(Mj _ f _ (H.out.ext zT.out)).mono ?_;rintro e w3 ⟨rfl,zC⟩;have zB:=Qq (zT.out.trans zC);obtain⟨e0,e1,e2,eb⟩:=Zy ((zC.block (Qn rG.out)).trans rG.out);clear zC;go_wp2_with fail;refine(Qf2 _ f md.rel.length md.val.length _ (H.out.ext zB.out)).mono ?_;rintro e w4 ⟨rfl,yA⟩;rw [<-HT.out];have yP:=Qq (zB.out.trans yA);clear yA e0 e1 e2 eb;cases t
   ·go_wp2_with fail;go_ret;exact⟨by rw [HE.out] <;> rfl,yP.out⟩
   go_wp2_with fail;go_ret;exact⟨by rw [HE.out] <;> rfl,yP.out⟩
  have aT:(y==0)=false:=by rw [beq_eq_false_iff_ne];exact YB
  have HE:=Qq (show Jz md f=y by unfold Jz;rw [<-HZ.out,if_neg (by simp),<-HY.out,if_pos YB]);clear YB;go_enter Tryz.func149,Tryz.ntmps149;go_wp2_with fail;refine(Fy _ md _ (HM.out.ext zL.out) zE.out).mono ?_;rintro e w1 ⟨rfl,zN⟩;rw [<-HZ.out];have zO:=Qq (zL.out.trans zN);clear zN;go_wp2_with fail;refine(Gn _ f _ (H.out.ext zO.out).1).mono ?_;rintro e w2 ⟨rfl,zS⟩;rw [<-HY.out];have zT:=Qq (zO.out.trans zS);clear zS;go_wp2_with fail;go_ret;exact⟨by rw [HE.out] <;> rfl,zT.out⟩
 have rQ:(z==0)=false:=by rw [beq_eq_false_iff_ne];exact xH
 have HE:=Qq (show Jz md f=z by unfold Jz;rw [<-HZ.out,if_pos xH]);clear xH;go_enter Tryz.func149,Tryz.ntmps149;go_wp2_with fail;refine(Fy _ md _ (HM.out.ext zL.out) zE.out).mono ?_;rintro e w1 ⟨rfl,zN⟩;rw [<-HZ.out];have zO:=Qq (zL.out.trans zN);clear zN;go_wp2_with fail;go_ret;exact⟨by rw [HE.out] <;> rfl,zO.out⟩
theorem Qgf {w:World} {b:Nat} {a0 a1 a2 a3 a4 a5:Value} {t:TypeId}(h:w.heap[b]?=some (.cells #[a0,a1,a2,a3,a4,a5] t (0,0))):w.cell? ⟨b,0,none⟩=some a0/\w.cell? ⟨b,1,none⟩=some a1/\w.cell? ⟨b,3,none⟩=some a3/\b < w.heap.size :=
 ⟨by simp [World.cell?,h],by simp [World.cell?,h],by simp [World.cell?,h],Qn h⟩
theorem Qhs(vm:Value)(md:Md)(n:Nd)(x y:Nat)(w:World)(hm:Jk w vm md)(zP:md.ok)(zU:Qa md=0)(hn:Qk3 md n)(hx:Qm x)(hy:Qm y):
 Calls Tryz.prog 193 #[vm,n.val,.int .u64 (x:Int),.int .u64 (y:Int)] w fun e w'=>e=.returned (.int .u64 ((Fq md n x y:Nat):Int))/\Qg w w':=by
 obtain⟨wU,yZ,uR,iJ,wO,_,_⟩:=Zv zU;obtain⟨N,rP⟩:=Int.eq_ofNat_of_zero_le (show 0<=md.n by omega);have qG:md.n.toNat=N:=by rw [rP];exact Int.toNat_natCast N
 have HM:=Qq hm;have zE:=Qq zP;have yD:=Qq zU;have jF:=Qq hn;have yY:=Qq hx;have ZN:=Qq hy;obtain⟨vv,vr,rfl,hv,hr⟩:=hm;obtain⟨Av,cv,rfl,_,_,HV⟩:=Vf hv;obtain⟨Ar,cr,rfl,_,_,HR⟩:=Gj hr;have yC:N<=64:=by omega
 have uT:=Qq (show Fq md n x y=if n.op=3 then md.val.getD n.i.toNat 0 else if n.op<=8 then Gg n.op x y (Zk N)
  else if n.op=9 then Vt (md.rel.getD n.i.toNat []) N x
  else if n.op=10 then Zl (Zk N) (Vt (md.rel.getD n.i.toNat []) N (Zl (Zk N) x))
  else if n.op=11 then Vt ((List.range N).map (Yz md.rel n.g.toNat false N)) N x
  else if n.op=12 then Vt ((List.range N).map (Yz md.rel n.g.toNat true N)) N x
  else Xn ((List.range N).map (Yz md.rel n.g.toNat false N)) N x y by unfold Fq;rw [qG])
 have qI:=Qq (show ∀r∈md.rel,r.length=N from fun r hr=>by have:=wO r hr;omega);have tN:=Qq rP;have vJ:=Qq qG;rw [rP]at HM⊢;unfold Nd.val;have zI:=hn.op;clear zP zU hn hx hy hv hr wU yZ wO rP qG;obtain⟨W0,zK⟩:∃W,W=(w.alloc (.cells #[.int .i64 (N:Int),.slice Av md.val.length cv,.slice Ar md.rel.length cr] 26)).alloc (.cells #[.int .i64 n.op,.int .i64 n.i,.int .i64 n.e,.int .i64 n.g,.int .i64 n.x,.int .i64 n.y] 71):=⟨_,rfl⟩;have zL:=Qq (show Qg w W0 by rw [zK];exact(Qz.alloc _).alloc _);obtain⟨b,hb⟩:∃b,b=w.heap.size:=⟨_,rfl⟩;have QZ:=Qq (show W0.heap[b]?=some (.cells #[.int .i64 (N:Int),.slice Av md.val.length cv,.slice Ar md.rel.length cr] 26 (0,0)) by rw [zK,hb];exact((Qz.alloc _).block (by simp)).trans (heap_alloc_new _ _))
 have fA:=Qq (show W0.heap[b+1]?=some (.cells #[.int .i64 n.op,.int .i64 n.i,.int .i64 n.e,.int .i64 n.g,.int .i64 n.x,.int .i64 n.y] 71 (0,0)) by
  have h1:=heap_alloc_new (w.alloc (.cells #[.int .i64 (N:Int),.slice Av md.val.length cv,.slice Ar md.rel.length cr] 26)) (.cells #[.int .i64 n.op,.int .i64 n.i,.int .i64 n.e,.int .i64 n.g,.int .i64 n.x,.int .i64 n.y] 71);rw [zK,hb]
  simpa using h1)
 obtain⟨e0,e1,e2,eb⟩:=Zy QZ.out;obtain⟨c0,c1,c3,cb⟩:=Qgf fA.out;go_enter Tryz.func193,Tryz.ntmps193;go_upto_region 1 with(fail);rw [<-zK,<-hb];clear zK hb;go_wp2_with fail;refine(Sm N yC _).mono ?_;rintro e w1 ⟨rfl,rfl⟩;by_cases h3:n.op=3
 ·obtain⟨h0,h8⟩:=By jF.out.head h3;obtain⟨k,hk⟩:=Int.eq_ofNat_of_zero_le h0;have wR:k < md.val.length:=by have:=jF.out.fact h3;omega
  have yV:(k:Int) < (md.val.length:Int):=by omega
  have HE:=Qq (show Fq md n x y=md.val.getD k 0 by rw [uT.out,if_pos h3,hk];rfl);obtain⟨ad,rfl,zV,hc⟩:=HV.out k wR;have a0:=(zL.out.cell (p:=ad.add k) (Qj zV)).trans hc;have al:(ad.add k).block < W0.heap.size:=by rw [Qr];exact Qy zV zL.out.size
  rw [hk]at c1;rw [h3]at c0;clear h0 h8 hk wR hc h3;go_wp2_with fail;go_ret;exact⟨by rw [HE.out] <;> rfl,zL.out⟩
 by_cases h8:n.op<=8
 ·have HE:=Qq (show Fq md n x y=Gg n.op x y (Zk N) by rw [uT.out,if_neg h3,if_pos h8]);have t3:(n.op==3)=false:=by simpa using h3
  clear h3;go_wp2_with fail;refine(Qrm n.op x y (Zk N) _ yY.out ZN.out (Yk yC)).mono ?_;rintro e w2 ⟨rfl,rfl⟩;go_wp2_with fail;go_ret;exact⟨by rw [HE.out] <;> rfl,zL.out⟩
 have HX:=zL;obtain⟨al,wJ⟩:∃a,a=Zk N:=⟨_,rfl⟩;have rY:=Qq wJ;rw [<-wJ];clear wJ;by_cases h9:n.op=9
 ·obtain⟨h0,h4⟩:=Xz jF.out.head (by rw [h9];rfl);obtain⟨k,hk⟩:=Int.eq_ofNat_of_zero_le h0;have wR:k < md.rel.length:=by have:=jF.out.agent (by omega);omega
  have yV:(k:Int) < (md.rel.length:Int):=by omega
  have HE:=Qq (show Fq md n x y=Vt (md.rel.getD k []) N x by rw [uT.out,if_neg h3,if_neg h8,if_pos h9,hk];rfl);obtain⟨ad,u,rfl,zV,hc,hu⟩:=HR.out k wR;have HU:=Qq (hu.ext zL.out);have QQ:=Qq (Ss zE.out.rel k);have yQ:(md.rel.getD k []).length=N:=qI.out _ (by rw [Qk,Qv wR];exact List.getElem_mem wR);obtain⟨Au,cu,rfl,_⟩:=hu;rw [yQ]at HU hc;have lK:=Qq yQ;have a0:=(zL.out.cell (p:=ad.add k) (Qj zV)).trans hc;have adl:(ad.add k).block < W0.heap.size:=by rw [Qr];exact Qy zV zL.out.size
  rw [hk]at c1;rw [h9]at c0;clear h0 h4 hk wR hc h3 h8 h9 yQ zI;go_upto_region 7 with(fail);refine wp_region_held_drew (S:=fun w'=>w'.cell? (⟨b,0,none⟩)=some (.int .i64 (N:Int))/\w'.cell? (⟨b,2,none⟩)=some (.slice (some ad) md.rel.length cr)/\w'.cell? (⟨b+1,1,none⟩)=some (.int .i64 (k:Int))/\w'.cell? (ad.add k)=some (.slice Au N cu)) (by kernel_rfl) ⟨xc eb e0,xc eb e2,xc cb c1,xc adl a0⟩ (fun zZ=> ?_);refine tk 0 zZ ?_;refine tk 1 zZ ?_;refine tk 2 zZ ?_;refine tk 3 zZ ?_;refine tk 4 zZ ?_;refine tk 5 zZ ?_;refine tk 6 zZ ?_;refine tk 7 zZ ?_;refine tk 8 zZ ?_;refine wpAnyH_ready (rs:= [9]) (by kernel_rfl) (by simp) ?_
  refine AllReadyH.cons rfl (fun K hK=> ?_) AllReadyH.nil;go_simp;refine(Qyg _ (md.rel.getD k []) N x _ (HU.out.ext xv) QQ.out yC (by rw [lK.out];exact Nat.le_refl _) yY.out).mono ?_;rintro e w3 ⟨rfl,yI⟩;have zC:Qg W0 w3:=Qg.trans xv yI;have zB:=Qq zC;clear yI;go_wp2_with fail;refine hK.out _ _ ⟨xc eb e0,xc eb e2,xc cb c1,xc adl a0⟩ (fun zZ=> ?_);clear hK K;refine Qd ?_;refine tk 10 zZ ?_;refine wpAnyH_done (by kernel_rfl) ?_ _;go_wp2_with fail;go_ret;exact⟨by rw [HE.out] <;> rfl,zL.out.trans zB.out⟩
 by_cases h9:n.op=10
 ·obtain⟨h0,h4⟩:=Xz jF.out.head (by rw [h9];rfl);obtain⟨k,hk⟩:=Int.eq_ofNat_of_zero_le h0;have wR:k < md.rel.length:=by have:=jF.out.agent (by omega);omega
  have yV:(k:Int) < (md.rel.length:Int):=by omega
  have HE:=Qq (show Fq md n x y=Zl al (Vt (md.rel.getD k []) N (Zl al x)) by rw [uT.out,if_neg h3,if_neg h8,if_neg (by omega),if_pos h9,hk,<-rY.out];rfl);have pZ:=Yg (a:=al) (by rw [rY.out];exact Yk yC) yY.out;have QX:=Qq (show Qm (Zl al x)from Uy (by rw [rY.out];exact Yk yC));have qP:=Yg (a:=al) (b:=Vt (md.rel.getD k []) N (Zl al x)) (by rw [rY.out];exact Yk yC) (Qqv yC);obtain⟨dx,MJ⟩:∃d,d=Zl al x:=⟨_,rfl⟩;rw [<-MJ]at HE pZ qP QX;obtain⟨bx,vE⟩:∃d,d=Vt (md.rel.getD k []) N dx:=⟨_,rfl⟩;rw [<-vE]at HE qP;have wC:=Qq vE
  obtain⟨dz,rC⟩:∃d,d=Zl al bx:=⟨_,rfl⟩;rw [<-rC]at HE qP;clear MJ vE rC;obtain⟨ad,u,rfl,zV,hc,hu⟩:=HR.out k wR;have HU:=Qq (hu.ext zL.out);have QQ:=Qq (Ss zE.out.rel k);have yQ:(md.rel.getD k []).length=N:=qI.out _ (by rw [Qk,Qv wR];exact List.getElem_mem wR);obtain⟨Au,cu,rfl,_⟩:=hu;rw [yQ]at HU hc;have lK:=Qq yQ;have a0:=(zL.out.cell (p:=ad.add k) (Qj zV)).trans hc;have adl:(ad.add k).block < W0.heap.size:=by rw [Qr];exact Qy zV zL.out.size
  rw [hk]at c1;rw [h9]at c0;clear h0 h4 hk wR hc h3 h8 h9 yQ zI;go_upto_region 9 with(fail);refine wp_region_held_drew (S:=fun w'=>w'.cell? (⟨b,0,none⟩)=some (.int .i64 (N:Int))/\w'.cell? (⟨b,2,none⟩)=some (.slice (some ad) md.rel.length cr)/\w'.cell? (⟨b+1,1,none⟩)=some (.int .i64 (k:Int))/\w'.cell? (ad.add k)=some (.slice Au N cu)) (by kernel_rfl) ⟨xc eb e0,xc eb e2,xc cb c1,xc adl a0⟩ (fun zZ=> ?_);refine tk 0 zZ ?_;refine tk 1 zZ ?_;refine tk 2 zZ ?_;refine tk 3 zZ ?_;refine tk 4 zZ ?_;refine tk 5 zZ ?_;refine tk 6 zZ ?_;refine tk 7 zZ ?_;refine tk 8 zZ ?_;refine tk 9 zZ ?_
  refine tk 10 zZ ?_;refine tk 11 zZ ?_;refine wpAnyH_ready (rs:= [12]) (by kernel_rfl) (by simp) ?_;refine AllReadyH.cons rfl (fun K hK=> ?_) AllReadyH.nil;go_simp;refine(Qyg _ (md.rel.getD k []) N dx _ (HU.out.ext xv) QQ.out yC (by rw [lK.out];exact Nat.le_refl _) QX.out).mono ?_;rintro e w3 ⟨rfl,yI⟩;have zC:Qg W0 w3:=Qg.trans xv yI;have zB:=Qq zC;rw [<-wC.out];clear yI;go_wp2_with fail;refine hK.out _ _ ⟨xc eb e0,xc eb e2,xc cb c1,xc adl a0⟩ (fun zZ=> ?_);clear hK K;refine Qd ?_;refine tk 13 zZ ?_;refine tk 14 zZ ?_;refine wpAnyH_done (by kernel_rfl) ?_ _;go_wp2_with fail
  go_ret;exact⟨by rw [HE.out] <;> rfl,zL.out.trans zB.out⟩
 have hg:=jF.out.group (by have:=(Dc n.op).1 jF.out.head.1;omega);obtain⟨gn,vL⟩:=Int.eq_ofNat_of_zero_le (show 0<=n.g by omega);have vD:1<=gn:=by omega
 have uF:gn < 2^md.rel.length:=by have:=hg.2;rw [vL]at this;exact this
 have bP:=Qq uF;have QI:n.g.toNat=gn:=by rw [vL];rfl
 rw [QI]at uT;rw [vL]at c3;have gA:=Qq (fun(meet:Bool)=>Qe2 zE.out (gn:=gn) (meet:=meet) yC);clear hg vL QI uF;by_cases uL:n.op=11
 ·have HE:=Qq (show Fq md n x y=Vt ((List.range N).map (Yz md.rel gn false N)) N x by rw [uT.out,if_neg h3,if_neg h8,if_neg (by omega),if_neg (by omega),if_pos uL]);rw [uL]at c0;clear h3 h8 uL zI;go_upto_region 11 with(fail);refine wp_region_held_drew (S:=fun w'=>w'.cell? (⟨b,0,none⟩)=some (.int .i64 (N:Int))/\w'.cell? (⟨b,1,none⟩)=some (.slice Av md.val.length cv)/\w'.cell? (⟨b,2,none⟩)=some (.slice Ar md.rel.length cr)/\w'.cell? (⟨b+1,3,none⟩)=some (.int .i64 (gn:Int))) (by kernel_rfl) ⟨xc eb e0,xc eb e1,xc eb e2,xc cb c3⟩ (fun zZ=> ?_);refine tk 0 zZ ?_;refine tk 1 zZ ?_;refine tk 2 zZ ?_
  refine tk 4 zZ ?_;refine tk 5 zZ ?_;refine tk 6 zZ ?_;refine wpAnyH_ready (rs:= [3]) (by kernel_rfl) (by simp) ?_;refine AllReadyH.cons rfl (fun K hK=> ?_) AllReadyH.nil;go_simp;refine(Qgq _ md gn _ (HM.out.ext (zL.out.trans xv)) zE.out yD.out vD bP.out).mono ?_;rintro e w3 ⟨u,rfl,yI,kB⟩;have zC:Qg W0 w3:=Qg.trans xv yI;have zB:=Qq zC;rw [vJ.out]at kB;have OF:=Qq kB;obtain⟨Au,cu,rfl⟩:=Qt kB;rw [(gA.out false).1];clear yI kB;go_wp2_with fail;refine hK.out _ _ ⟨xc eb e0,xc eb e1,xc eb e2,xc cb c3⟩ (fun zZ=> ?_);clear hK K;refine Qd ?_;refine wpAnyH_ready (rs:= [7]) (by kernel_rfl) (by simp) ?_
  refine AllReadyH.cons rfl (fun K hK=> ?_) AllReadyH.nil;go_simp;refine(Qyg _ ((List.range N).map (Yz md.rel gn false N)) N x _ (by have h1:=OF.out.u64s;rw [(gA.out false).1]at h1;exact h1) (gA.out false).2 yC (by rw [(gA.out false).1];exact Nat.le_refl _) yY.out).mono ?_;rintro e w4 ⟨rfl,yI⟩;have yA:Qg W0 w4:=zC.trans yI;have yP:=Qq yA;clear yI;go_wp2_with fail;refine hK.out _ _ ⟨xc eb e0,xc eb e1,xc eb e2,xc cb c3⟩ (fun zZ=> ?_);clear hK K;refine Qd ?_;refine tk 8 zZ ?_;refine wpAnyH_done (by kernel_rfl) ?_ _;go_wp2_with fail;go_ret;exact⟨by rw [HE.out] <;> rfl,zL.out.trans yP.out⟩
 by_cases uL:n.op=12
 ·have HE:=Qq (show Fq md n x y=Vt ((List.range N).map (Yz md.rel gn true N)) N x by rw [uT.out,if_neg h3,if_neg h8,if_neg (by omega),if_neg (by omega),if_neg (by omega),if_pos uL]);rw [uL]at c0;clear h3 h8 uL zI;go_upto_region 13 with(fail);refine wp_region_held_drew (S:=fun w'=>w'.cell? (⟨b,0,none⟩)=some (.int .i64 (N:Int))/\w'.cell? (⟨b,1,none⟩)=some (.slice Av md.val.length cv)/\w'.cell? (⟨b,2,none⟩)=some (.slice Ar md.rel.length cr)/\w'.cell? (⟨b+1,3,none⟩)=some (.int .i64 (gn:Int))) (by kernel_rfl) ⟨xc eb e0,xc eb e1,xc eb e2,xc cb c3⟩ (fun zZ=> ?_);refine tk 0 zZ ?_;refine tk 1 zZ ?_
  refine tk 2 zZ ?_;refine tk 4 zZ ?_;refine tk 5 zZ ?_;refine tk 6 zZ ?_;refine wpAnyH_ready (rs:= [3]) (by kernel_rfl) (by simp) ?_;refine AllReadyH.cons rfl (fun K hK=> ?_) AllReadyH.nil;go_simp;refine(Qay _ md gn _ (HM.out.ext (zL.out.trans xv)) zE.out yD.out vD bP.out).mono ?_;rintro e w3 ⟨u,rfl,yI,kB⟩;have zC:Qg W0 w3:=Qg.trans xv yI;have zB:=Qq zC;rw [vJ.out]at kB;have OF:=Qq kB;obtain⟨Au,cu,rfl⟩:=Qt kB;rw [(gA.out true).1];clear yI kB;go_wp2_with fail;refine hK.out _ _ ⟨xc eb e0,xc eb e1,xc eb e2,xc cb c3⟩ (fun zZ=> ?_);clear hK K;refine Qd ?_
  refine wpAnyH_ready (rs:= [7]) (by kernel_rfl) (by simp) ?_;refine AllReadyH.cons rfl (fun K hK=> ?_) AllReadyH.nil;go_simp;refine(Qyg _ ((List.range N).map (Yz md.rel gn true N)) N x _ (by have h1:=OF.out.u64s;rw [(gA.out true).1]at h1;exact h1) (gA.out true).2 yC (by rw [(gA.out true).1];exact Nat.le_refl _) yY.out).mono ?_;rintro e w4 ⟨rfl,yI⟩;have yA:Qg W0 w4:=zC.trans yI;have yP:=Qq yA;clear yI;go_wp2_with fail;refine hK.out _ _ ⟨xc eb e0,xc eb e1,xc eb e2,xc cb c3⟩ (fun zZ=> ?_);clear hK K;refine Qd ?_;refine tk 8 zZ ?_;refine wpAnyH_done (by kernel_rfl) ?_ _;go_wp2_with fail
  go_ret;exact⟨by rw [HE.out] <;> rfl,zL.out.trans yP.out⟩
 have HE:=Qq (show Fq md n x y=Xn ((List.range N).map (Yz md.rel gn false N)) N x y by rw [uT.out,if_neg h3,if_neg h8,if_neg (by omega),if_neg (by omega),if_neg (by omega),if_neg (by omega)]);have t13:n.op=13:=by have:=(Dc n.op).1 jF.out.head.1;omega
 rw [t13]at c0;clear h3 h8 t13 zI;go_upto_region 14 with(fail);refine wp_region_held_drew (S:=fun w'=>w'.cell? (⟨b,0,none⟩)=some (.int .i64 (N:Int))/\w'.cell? (⟨b,1,none⟩)=some (.slice Av md.val.length cv)/\w'.cell? (⟨b,2,none⟩)=some (.slice Ar md.rel.length cr)/\w'.cell? (⟨b+1,3,none⟩)=some (.int .i64 (gn:Int))) (by kernel_rfl) ⟨xc eb e0,xc eb e1,xc eb e2,xc cb c3⟩ (fun zZ=> ?_);refine tk 0 zZ ?_;refine tk 1 zZ ?_;refine tk 2 zZ ?_;refine tk 4 zZ ?_;refine tk 5 zZ ?_;refine tk 6 zZ ?_;refine tk 7 zZ ?_;refine wpAnyH_ready (rs:= [3]) (by kernel_rfl) (by simp) ?_;refine AllReadyH.cons rfl (fun K hK=> ?_) AllReadyH.nil
 go_simp;refine(Qgq _ md gn _ (HM.out.ext (zL.out.trans xv)) zE.out yD.out vD bP.out).mono ?_;rintro e w3 ⟨u,rfl,yI,kB⟩;have zC:Qg W0 w3:=Qg.trans xv yI;have zB:=Qq zC;rw [vJ.out]at kB;have OF:=Qq kB;obtain⟨Au,cu,rfl⟩:=Qt kB;rw [(gA.out false).1];clear yI kB;go_wp2_with fail;refine hK.out _ _ ⟨xc eb e0,xc eb e1,xc eb e2,xc cb c3⟩ (fun zZ=> ?_);clear hK K;refine Qd ?_;refine wpAnyH_ready (rs:= [8]) (by kernel_rfl) (by simp) ?_;refine AllReadyH.cons rfl (fun K hK=> ?_) AllReadyH.nil;go_simp;refine(Qdh _ ((List.range N).map (Yz md.rel gn false N)) N x y _ (by have h1:=OF.out.u64s;rw [(gA.out false).1]at h1;exact h1) (gA.out false).2 yC (by rw [(gA.out false).1];exact Nat.le_refl _) yY.out ZN.out).mono ?_
 rintro e w4 ⟨rfl,yI⟩;have yA:Qg W0 w4:=zC.trans yI;have yP:=Qq yA;clear yI;go_wp2_with fail;refine hK.out _ _ ⟨xc eb e0,xc eb e1,xc eb e2,xc cb c3⟩ (fun zZ=> ?_);clear hK K;refine Qd ?_;refine tk 9 zZ ?_;refine wpAnyH_done (by kernel_rfl) ?_ _;go_wp2_with fail;go_ret;exact⟨by rw [HE.out] <;> rfl,zL.out.trans yP.out⟩
theorem Qxt {w w4:World} {c:Obj} {r:Option Nat} {b:Nat}(hg:(w.alloc c).grownBy w4 r)(hr:r≠some b)(hb:b < w.heap.size):w4.heap[b]?=w.heap[b]? :=
 (hg.block b (by simp;omega) (fun e=>hr e.symm)).trans (((Qg.refl w).alloc c).block hb)
theorem Fi {w w4:World} {p:Addr}(h:w4.heap[p.block]?=w.heap[p.block]?):w4.cell? p=w.cell? p:=by
 unfold World.cell?;rw [h]
end Go.Proofs.YtkmclcmnoicagaaGreatDoor
