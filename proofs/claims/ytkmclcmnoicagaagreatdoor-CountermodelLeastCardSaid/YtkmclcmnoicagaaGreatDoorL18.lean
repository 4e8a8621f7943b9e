/- The reference's properties of relations, and the conditions of a logic on a model. -/
import Derived.Test.YtkmclcmnoicagaaGreatDoorL16
import Derived.Test.YtkmclcmnoicagaaGreatDoorL17
namespace Go.Proofs.YtkmclcmnoicagaaGreatDoor
set_option maxRecDepth 100000
set_option maxHeartbeats 128000000
open Go.RowKit
theorem Qp3(v:Value)(l:List Nat)(q:Int)(w:World)(h:Jb w v l)(hw:∀s∈l,Qp s)(h0:0 < l.length)(hq:q=1\/q=2\/q=4\/q=5):
 Calls Tryz.prog 109 #[v,.int .i64 q] w fun e w'=>∃b:Bool,e=.returned (.bool b)/\Qg w w'/\(b=true↔Xj l=true/\Ky q l):=by
 have H:=Qq h;have HW:=Qq hw;obtain⟨A,c,rfl,JW,xK,HL⟩:=Vl h;unfold maxLen at xK;obtain⟨iU,sR,xG,xF,xE⟩:=info_parts Dz;clear h hw;cases hv:Xj l
 ·have HV:=Qq hv;clear hv;go_enter Tryz.func109,Tryz.ntmps109;go_wp2_with fail;refine(Np _ l _ H.out HW.out).mono ?_;rintro e w2 ⟨rfl,zT⟩;rw [HV.out];have zS:=Qq zT;clear zT;go_wp2_with fail;go_ret
  first
  |exact⟨false,rfl,zS.out,by simp⟩
  |exact⟨.inl ⟨rfl,by simp⟩,zS.out⟩
  |exact .inl ⟨rfl,zS.out,by simp⟩
  |exact⟨rfl,zS.out,by simp⟩
 have HV:=Qq hv;have sA:=(Fz.1 hv).1;obtain⟨ad,rfl,zV,_⟩:=HL.out 0 h0;obtain⟨n,hn⟩:∃n,n=l.length:=⟨_,rfl⟩;have HN:=Qq hn;clear hv;have gD:=Qq (show ∀i,i < l.length->w.cell? (ad.add i)=some (.int .u64 ((l.getD i 0:Nat):Int))from fun i hi=>by
  obtain⟨ad2,e,_,hc⟩:=HL.out i hi;injection e with e;subst e;exact hc)
 rw [<-hn]at H sA h0⊢;have uR:0+n<=maxLen:=by unfold maxLen;omega
 have xO:(0+n)*8<=140737488355328:=by omega
 clear hn HL;rcases hq with rfl|rfl|rfl|rfl
 ·skip
  go_enter Tryz.func109,Tryz.ntmps109;go_wp2_with fail;refine(Np _ l _ H.out HW.out).mono ?_;rintro e w2 ⟨rfl,zT⟩;rw [HV.out];have zS:=Qq zT;have tF:=Qq (show ∀(j:Nat) u,(uV l)[j]?=some u->(w2.alloc (.cells #[] 41)).cell? (ad.add j)=some u from De fun i hi=>((zT.alloc _).cell (p:=ad.add i) (Qj zV)).trans (gD.out i hi));have rV:=Qq (Sk w2 41);clear zT;go_wp2_with(at_builtin;refine wpList_append_own_at _ rfl _ _ 23 rfl w2.heap.size 41 iU (.int .u64 0) 1 8 Tryz.underlying23 sR xG xF xE rfl (by decide) _ 0 [] rfl rV.out ad n c (uV l) rfl (by rw [Es,Nat.mul_one];exact HN.out.symm) tF.out (Et l) uR xO (by simp) ?_)
  intro v3 w3 xZ yI _ _;have zD:=Qq (show Qg w w3 from(zS.out.alloc _).grown yI (fun k hk=>by have h1:=zS.out.size;have h2:w2.heap.size=k:=Option.some.inj hk;omega));have HM:=Qq (show Zv w.heap.size w3 v3 l by
   unfold Zv;rw [<-HN.out];exact Kl xZ zS.out.size)
  clear xZ yI;obtain⟨g,cap,rfl,xP,uC,_,UU,_,_⟩:=HM.out.slice (by rw [<-HN.out];exact h0);rw [<-HN.out]at HM⊢;clear xP;go_wp2_with fail;go_loopw [6] (fun v wr=>∃k:Nat,v=.int .i64 (k:Int)/\k<=n/\Hid (Qg w3 wr/\∀j,j < k->l.getD j 0≠0)) (fun v _=>n - (intOf v).toNat)
  case atStart=>exact⟨0,rfl,Nat.zero_le _,Qq ⟨Qz,fun j hj=>absurd hj (by omega)⟩⟩
  case round =>
   obtain⟨k,rfl,hk,zY⟩:=hrel;have HX:=Qq zY.out.1;have HJ:=Qq zY.out.2;have yZ:=Qq (zD.out.trans HX.out);clear zY;by_cases hlt2:k < n
   ·have yT:(k:Int) < (n:Int):=by omega
    have a0:=(yZ.out.cell (p:=ad.add k) (Qj zV)).trans (gD.out k (by rw [<-HN.out];exact hlt2));have al:(ad.add k).block < wr.heap.size:=by rw [Qt];exact Qy zV yZ.out.size
    have zE:=Qq (show l.getD k 0≠0->∀j,j < k+1->l.getD j 0≠0 from fun h=>Do (P:=fun j=>l.getD j 0≠0) HJ.out h);have tH:=Qq (show l.getD k 0=0->¬Ky 1 l from fun h hp=>by
     unfold Ky at hp;rw [if_pos rfl]at hp;exact hp k (by rw [<-HN.out];exact hlt2) h)
    obtain⟨x,hx⟩:∃x,x=l.getD k 0:=⟨_,rfl⟩;rw [<-hx]at a0 zE tH;clear hx;by_cases hz:x=0
    ·have sH:((x:Int)==0)=true:=by rw [hz];rfl
     have HE:=Qq (tH.out hz);clear hz;go_wp2_with fail;go_ret
     first
     |exact⟨false,rfl,yZ.out,iff_of_false (by decide) fun h=>HE.out h.2⟩
     |exact .inl ⟨rfl,yZ.out,fun _=>HE.out⟩
     |exact .inl ⟨rfl,yZ.out,fun h=>absurd h HE.out⟩
    have sH:((x:Int)==0)=false:=by rw [beq_eq_false_iff_ne];omega
    have HP:=Qq (zE.out hz);clear hz;go_wp2_with fail;go_roundw
    case rel=>exact⟨k+1,by go_num,by omega,Qq ⟨HX.out,HP.out⟩⟩
    case measure=>simp [intOf];omega
   obtain rfl:n=k:=by omega
   have HP:=Qq (show Ky 1 l by
    unfold Ky;rw [if_pos rfl,<-HN.out];exact HJ.out)
   go_wp2_with fail;refine(Hy _ _ l l _ (HM.out.u64s.ext HX.out) (H.out.ext yZ.out)).mono ?_;rintro e w5 ⟨rfl,xH⟩;rw [decide_eq_true (show l=l from rfl)];have yJ:=Qq (yZ.out.trans xH);clear xH;go_wp2_with fail;go_ret
   first
   |exact⟨true,rfl,yJ.out,iff_of_true rfl ⟨HV.out,HP.out⟩⟩
   |exact⟨true,rfl,yJ.out,iff_of_true rfl ⟨trivial,HP.out⟩⟩
 ·skip
  go_enter Tryz.func109,Tryz.ntmps109;go_wp2_with fail;refine(Np _ l _ H.out HW.out).mono ?_;rintro e w2 ⟨rfl,zT⟩;rw [HV.out];have zS:=Qq zT;have tF:=Qq (show ∀(j:Nat) u,(uV l)[j]?=some u->(w2.alloc (.cells #[] 41)).cell? (ad.add j)=some u from De fun i hi=>((zT.alloc _).cell (p:=ad.add i) (Qj zV)).trans (gD.out i hi));have rV:=Qq (Sk w2 41);clear zT;go_wp2_with(at_builtin;refine wpList_append_own_at _ rfl _ _ 23 rfl w2.heap.size 41 iU (.int .u64 0) 1 8 Tryz.underlying23 sR xG xF xE rfl (by decide) _ 0 [] rfl rV.out ad n c (uV l) rfl (by rw [Es,Nat.mul_one];exact HN.out.symm) tF.out (Et l) uR xO (by simp) ?_)
  intro v3 w3 xZ yI _ _;have zD:=Qq (show Qg w w3 from(zS.out.alloc _).grown yI (fun k hk=>by have h1:=zS.out.size;have h2:w2.heap.size=k:=Option.some.inj hk;omega));have HM:=Qq (show Zv w.heap.size w3 v3 l by
   unfold Zv;rw [<-HN.out];exact Kl xZ zS.out.size)
  clear xZ yI;obtain⟨g,cap,rfl,xP,uC,_,UU,_,_⟩:=HM.out.slice (by rw [<-HN.out];exact h0);rw [<-HN.out]at HM⊢;clear xP;go_wp2_with fail;refine(Qxh _ l _ (H.out.ext zD.out) HW.out HV.out (by rw [<-HN.out];exact h0)).mono ?_;rintro e w4 ⟨u,rfl,yE,oH⟩;have yN:=Qq (zD.out.trans yE);have fK:=Qq oH;obtain⟨out,yH⟩:∃o,o=Rj l l.length:=⟨_,rfl⟩;have nA:=Qq (show out=l↔Ky 2 l by rw [yH,Qhm];unfold Ky;rw [if_neg (by decide),if_pos rfl]);rw [<-yH]at fK oH;clear yH yE;obtain⟨Au,cu,rfl,_⟩:=oH.u64s;clear oH;go_wp2_with fail;refine(Hy _ _ out l _ fK.out.u64s (H.out.ext yN.out)).mono ?_
  rintro e w5 ⟨rfl,xH⟩;have yJ:=Qq (yN.out.trans xH);clear xH;cases hd:decide (out=l)
  ·have HE:=Qq (show ¬Ky 2 l from fun h=>of_decide_eq_false hd (nA.out.2 h));clear hd;go_wp2_with fail;go_ret
   first
   |exact⟨false,rfl,yJ.out,iff_of_false (by decide) fun h=>HE.out h.2⟩
   |exact .inl ⟨rfl,yJ.out,fun _=>HE.out⟩
  have HE:=Qq (show Ky 2 l from nA.out.1 (of_decide_eq_true hd));clear hd;go_wp2_with fail;go_ret
  first
  |exact⟨true,rfl,yJ.out,iff_of_true rfl ⟨HV.out,HE.out⟩⟩
  |exact⟨true,rfl,yJ.out,iff_of_true rfl ⟨trivial,HE.out⟩⟩
 ·skip
  go_enter Tryz.func109,Tryz.ntmps109;go_wp2_with fail;refine(Np _ l _ H.out HW.out).mono ?_;rintro e w2 ⟨rfl,zT⟩;rw [HV.out];have zS:=Qq zT;have tF:=Qq (show ∀(j:Nat) u,(uV l)[j]?=some u->(w2.alloc (.cells #[] 41)).cell? (ad.add j)=some u from De fun i hi=>((zT.alloc _).cell (p:=ad.add i) (Qj zV)).trans (gD.out i hi));have rV:=Qq (Sk w2 41);clear zT;go_wp2_with(at_builtin;refine wpList_append_own_at _ rfl _ _ 23 rfl w2.heap.size 41 iU (.int .u64 0) 1 8 Tryz.underlying23 sR xG xF xE rfl (by decide) _ 0 [] rfl rV.out ad n c (uV l) rfl (by rw [Es,Nat.mul_one];exact HN.out.symm) tF.out (Et l) uR xO (by simp) ?_)
  intro v3 w3 xZ yI _ _;have zD:=Qq (show Qg w w3 from(zS.out.alloc _).grown yI (fun k hk=>by have h1:=zS.out.size;have h2:w2.heap.size=k:=Option.some.inj hk;omega));have HM:=Qq (show Zv w.heap.size w3 v3 l by
   unfold Zv;rw [<-HN.out];exact Kl xZ zS.out.size)
  clear xZ yI;obtain⟨g,cap,rfl,xP,uC,_,UU,_,_⟩:=HM.out.slice (by rw [<-HN.out];exact h0);rw [<-HN.out]at HM⊢;clear xP;go_wp2_with fail;refine(Qkf _ l _ (H.out.ext zD.out) HW.out HV.out (by rw [<-HN.out];exact h0)).mono ?_;rintro e w4 ⟨u,rfl,yE,out,oH,NE⟩;have yN:=Qq (zD.out.trans yE);have fK:=Qq oH;have nA:=Qq (show out=l↔Ky 4 l by rw [NE];unfold Ky;rw [if_neg (by decide),if_neg (by decide),if_pos rfl]);clear yE NE;obtain⟨Au,cu,rfl,_⟩:=oH.u64s;clear oH;go_wp2_with fail;refine(Hy _ _ out l _ fK.out.u64s (H.out.ext yN.out)).mono ?_;rintro e w5 ⟨rfl,xH⟩
  have yJ:=Qq (yN.out.trans xH);clear xH;cases hd:decide (out=l)
  ·have HE:=Qq (show ¬Ky 4 l from fun h=>of_decide_eq_false hd (nA.out.2 h));clear hd;go_wp2_with fail;go_ret
   first
   |exact⟨false,rfl,yJ.out,iff_of_false (by decide) fun h=>HE.out h.2⟩
   |exact .inl ⟨rfl,yJ.out,fun _=>HE.out⟩
  have HE:=Qq (show Ky 4 l from nA.out.1 (of_decide_eq_true hd));clear hd;go_wp2_with fail;go_ret
  first
  |exact⟨true,rfl,yJ.out,iff_of_true rfl ⟨HV.out,HE.out⟩⟩
  |exact⟨true,rfl,yJ.out,iff_of_true rfl ⟨trivial,HE.out⟩⟩
 skip
 go_enter Tryz.func109,Tryz.ntmps109;go_wp2_with fail;refine(Np _ l _ H.out HW.out).mono ?_;rintro e w2 ⟨rfl,zT⟩;rw [HV.out];have zS:=Qq zT;have tF:=Qq (show ∀(j:Nat) u,(uV l)[j]?=some u->(w2.alloc (.cells #[] 41)).cell? (ad.add j)=some u from De fun i hi=>((zT.alloc _).cell (p:=ad.add i) (Qj zV)).trans (gD.out i hi));have rV:=Qq (Sk w2 41);clear zT;go_wp2_with(at_builtin;refine wpList_append_own_at _ rfl _ _ 23 rfl w2.heap.size 41 iU (.int .u64 0) 1 8 Tryz.underlying23 sR xG xF xE rfl (by decide) _ 0 [] rfl rV.out ad n c (uV l) rfl (by rw [Es,Nat.mul_one];exact HN.out.symm) tF.out (Et l) uR xO (by simp) ?_)
 intro v3 w3 xZ yI _ _;have zD:=Qq (show Qg w w3 from(zS.out.alloc _).grown yI (fun k hk=>by have h1:=zS.out.size;have h2:w2.heap.size=k:=Option.some.inj hk;omega));have HM:=Qq (show Zv w.heap.size w3 v3 l by
  unfold Zv;rw [<-HN.out];exact Kl xZ zS.out.size)
 clear xZ yI;obtain⟨g,cap,rfl,xP,uC,_,UU,_,_⟩:=HM.out.slice (by rw [<-HN.out];exact h0);rw [<-HN.out]at HM⊢;clear xP;go_wp2_with fail;refine(Qk2 _ l _ (H.out.ext zD.out) HW.out HV.out (by rw [<-HN.out];exact h0)).mono ?_;rintro e w4 ⟨u,rfl,yE,out,oH,NE⟩;have yN:=Qq (zD.out.trans yE);have fK:=Qq oH;have nA:=Qq (show out=l↔Ky 5 l by rw [NE];unfold Ky;rw [if_neg (by decide),if_neg (by decide),if_neg (by decide)]);clear yE NE;obtain⟨Au,cu,rfl,_⟩:=oH.u64s;clear oH;go_wp2_with fail;refine(Hy _ _ out l _ fK.out.u64s (H.out.ext yN.out)).mono ?_;rintro e w5 ⟨rfl,xH⟩
 have yJ:=Qq (yN.out.trans xH);clear xH;cases hd:decide (out=l)
 ·have HE:=Qq (show ¬Ky 5 l from fun h=>of_decide_eq_false hd (nA.out.2 h));clear hd;go_wp2_with fail;go_ret
  first
  |exact⟨false,rfl,yJ.out,iff_of_false (by decide) fun h=>HE.out h.2⟩
  |exact .inl ⟨rfl,yJ.out,fun _=>HE.out⟩
 have HE:=Qq (show Ky 5 l from nA.out.1 (of_decide_eq_true hd));clear hd;go_wp2_with fail;go_ret
 first
 |exact⟨true,rfl,yJ.out,iff_of_true rfl ⟨HV.out,HE.out⟩⟩
 |exact⟨true,rfl,yJ.out,iff_of_true rfl ⟨trivial,HE.out⟩⟩
theorem Mt(w:World)(l:List Int)(t:TypeId)(hl:l.length<=10):Db (w.alloc (.cells (l.map (Value.int .i64)).toArray t)) (.slice (some ⟨w.heap.size,0,none⟩) l.length l.length) l:=by
 refine⟨_,_,rfl,Nat.le_refl _,by unfold maxLen;omega,fun _=>⟨_,rfl,by simp,fun k z hk=> ?_⟩⟩;have h1:=heap_alloc_new w (.cells (l.map (Value.int .i64)).toArray t);rw [Fm];have h2:(w.alloc (.cells (l.map (Value.int .i64)).toArray t)).heap[w.heap.size]?=some (Obj.cells (l.map (Value.int .i64)).toArray t (0,0)):=h1;simp only [World.cell?,h2];rw [List.getElem?_toArray,List.getElem?_map,hk];rfl
theorem Ob(lg:Int)(w:World):
 Calls Tryz.prog 44 #[.int .i64 lg] w fun e w'=>∃v,e=.returned (.tuple #[v,.int .i64 (Iq lg)])/\Qg w w'/\Hid (Iq lg=0->Db w' v (Gg lg)):=by
 by_cases hc:0<=lg/\lg<=6
 ·have yR:lg=0\/lg=1\/lg=2\/lg=3\/lg=4\/lg=5\/lg=6:=by omega
  clear hc;rcases yR with rfl|rfl|rfl|rfl|rfl|rfl|rfl
  all_goals
   go_enter Tryz.func44,Tryz.ntmps44;go_wp2_with fail;go_ret2
   first
   |exact⟨_,rfl,Qz,Qq fun _=>Db.none_ _⟩
   |exact⟨_,rfl,Qz.alloc _,Qq fun _=>Mt w [1] _ (by decide)⟩
   |exact⟨_,rfl,Qz.alloc _,Qq fun _=>Mt w [2] _ (by decide)⟩
   |exact⟨_,rfl,Qz.alloc _,Qq fun _=>Mt w [4] _ (by decide)⟩
   |exact⟨_,rfl,Qz.alloc _,Qq fun _=>Mt w [2,4] _ (by decide)⟩
   |exact⟨_,rfl,Qz.alloc _,Qq fun _=>Mt w [1,4,5] _ (by decide)⟩
   |exact⟨_,rfl,Qz.alloc _,Qq fun _=>Mt w [2,4,5] _ (by decide)⟩
 have h0:(lg==0)=false:=by rw [beq_eq_false_iff_ne];omega
 have h1:(lg==1)=false:=by rw [beq_eq_false_iff_ne];omega
 have h2:(lg==2)=false:=by rw [beq_eq_false_iff_ne];omega
 have h3:(lg==3)=false:=by rw [beq_eq_false_iff_ne];omega
 have h4:(lg==4)=false:=by rw [beq_eq_false_iff_ne];omega
 have h5:(lg==5)=false:=by rw [beq_eq_false_iff_ne];omega
 have h6:(lg==6)=false:=by rw [beq_eq_false_iff_ne];omega
 have HC:=Qq (show Iq lg=1 from if_neg hc);clear hc;go_enter Tryz.func44,Tryz.ntmps44;go_wp2_with fail;go_ret2;exact⟨_,by rw [HC.out] <;> rfl,Qz,Qq fun e=>by rw [HC.out]at e;cases e⟩
theorem Qes {w:World} {A:Option Addr} {c k:Nat} {l:List Int}(h:Qzd w A c l)(hk:k < l.length):∃ad,A=some ad/\ad.block < w.heap.size/\w.cell? (ad.add k)=some (.int .i64 (l.getD k 0)):=by
 obtain⟨ad,e,hl,hc⟩:=h.2.2 (by intro e;rw [e]at hk;simp at hk);exact⟨ad,e,hl,hc k _ (by rw [Qk,Qv hk];rfl)⟩
theorem Qp4(v:Value)(l:List Nat)(lg:Int)(w:World)(h:Jb w v l)(hw:∀s∈l,Qp s)(h0:0 < l.length)(yA:0<=lg/\lg<=6)(hv:Xj l=true):
 Calls Tryz.prog 46 #[v,.int .i64 lg] w fun e w'=>∃b:Bool,e=.returned (.bool b)/\Qg w w'/\Hid (b=true↔Dm lg l):=by
 have H:=Qq h;have HW:=Qq hw;have cO:=Qq (show Iq lg=0 from if_pos yA);have HV:=Qq hv;obtain⟨A,c,rfl,_⟩:=h;clear hw yA hv;go_enter Tryz.func46,Tryz.ntmps46;go_wp2_with fail;refine(Ob lg _).mono ?_;rintro e w2 ⟨vp,rfl,zT,hi⟩;rw [cO.out];obtain⟨Ap,cp,rfl,Q9⟩:=hi.out cO.out;have nV:=Qq Q9;have zS:=Qq zT;have lZ:=Qhn lg;obtain⟨ps,vP⟩:∃ps,ps=Gg lg:=⟨_,rfl⟩;have pV:=Qq vP;rw [<-vP]at nV lZ⊢;clear hi Q9 zT vP;go_wp2_with fail;refine(Np _ l _ (H.out.ext zS.out) HW.out).mono ?_;rintro e w3 ⟨rfl,zF⟩;rw [HV.out];have zD:=Qq zF;have yZ:=Qq (zS.out.trans zF)
 clear zF;go_wp2_with fail;go_loopw [7] (fun v wr=>∃k:Nat,v=.int .i64 (k:Int)/\k<=ps.length/\Hid (Qg w3 wr/\∀j,j < k->Ky (ps.getD j 0) l)) (fun v _=>ps.length - (intOf v).toNat)
 case atStart=>exact⟨0,rfl,Nat.zero_le _,Qq ⟨Qz,fun j hj=>absurd hj (by omega)⟩⟩
 case round =>
  obtain⟨k,rfl,hk,zY⟩:=hrel;have HX:=Qq zY.out.1;have HJ:=Qq zY.out.2;clear zY;by_cases hlt2:k < ps.length
  ·have yT:(k:Int) < (ps.length:Int):=by omega
   obtain⟨ad,rfl,zV,hc⟩:=Qes nV.out hlt2;have a0:=((zD.out.trans HX.out).cell (p:=ad.add k) (Qj zV)).trans hc;have al:(ad.add k).block < wr.heap.size:=by rw [Qt];exact Qy zV (zD.out.trans HX.out).size
   have zE:=Qq (show Ky (ps.getD k 0) l->∀j,j < k+1->Ky (ps.getD j 0) l from fun h=>Do (P:=fun j=>Ky (ps.getD j 0) l) HJ.out h);have pW:=Qq (show ps.getD k 0∈Gg lg by rw [<-pV.out,Qk,Qv hlt2];exact List.getElem_mem hlt2);obtain⟨q,hq⟩:∃q,q=ps.getD k 0:=⟨_,rfl⟩;rw [<-hq]at a0 zE pW;have HQ:=Qq (Qjn pW.out);clear hc hq;go_wp2_with fail;refine(Qp3 _ l q _ (H.out.ext (yZ.out.trans HX.out)) HW.out h0 HQ.out).mono ?_;rintro e w4 ⟨b,rfl,yE,hb⟩;have yN:=Qq (HX.out.trans yE);have HB:=Qq hb;clear yE hb;cases b
   ·have HE:=Qq (show ¬Dm lg l from fun h=>absurd (HB.out.2 ⟨HV.out,h q pW.out⟩) (by decide));go_wp2_with fail;go_ret
    first
    |exact⟨false,rfl,yZ.out.trans yN.out,Qq (iff_of_false (by decide) HE.out)⟩
    |exact .inl ⟨rfl,yZ.out.trans yN.out,Qq (iff_of_false (by decide) HE.out)⟩
   have HP:=Qq (zE.out (HB.out.1 rfl).2);go_wp2_with fail;go_roundw
   case rel=>exact⟨k+1,by go_num,by omega,Qq ⟨yN.out,HP.out⟩⟩
   case measure=>simp [intOf];omega
  obtain rfl:ps.length=k:=by omega
  have HE:=Qq (show Dm lg l from fun q hq=>by
   rw [<-pV.out]at hq;obtain⟨j,hj,e⟩:=List.getElem_of_mem hq;have:=HJ.out j hj;rw [Qk,Qv hj]at this;have h2:Ky ps[j] l:=this;rw [e]at h2;exact h2)
  go_wp2_with fail;go_ret
  first
  |exact⟨true,rfl,yZ.out.trans HX.out,Qq (iff_of_true rfl HE.out)⟩
  |exact .inr ⟨rfl,yZ.out.trans HX.out,Qq (iff_of_true rfl HE.out)⟩
theorem Qed(v:Value)(md:Md)(lg:Int)(w:World)(h:Yz w v md)(zO:md.ok):
 Calls Tryz.prog 15 #[v,.int .i64 lg] w fun e w'=>∃b:Bool,e=.returned (.bool b)/\Qg w w'/\Hid (b=true↔Fl md lg):=by
 have H:=Qq h;have zC:=Qq zO;obtain⟨vv,vr,rfl,hv,hr⟩:=h;obtain⟨Av,cv,rfl,_⟩:=hv;obtain⟨Ar,cr,rfl,dK,TH,HR⟩:=Ut hr;unfold maxLen at TH;obtain⟨n,hn⟩:∃n,n=md.n:=⟨_,rfl⟩;have HN:=Qq hn;rw [<-hn]at H⊢;have zL:=Qq (show Qg w (w.alloc (.cells #[.int .i64 n,.slice Av md.val.length cv,.slice Ar md.rel.length cr] 26))from Qz.alloc _);have vX:=Qq (show(w.alloc (.cells #[.int .i64 n,.slice Av md.val.length cv,.slice Ar md.rel.length cr] 26)).heap[w.heap.size]?=some (.cells #[.int .i64 n,.slice Av md.val.length cv,.slice Ar md.rel.length cr] 26 (0,0))from heap_alloc_new _ _);clear hr zO hn;by_cases yA:0<=lg/\lg<=6
 ·have cO:=Qq (show Iq lg=0 from if_pos yA);have pB:=Qq yA;clear yA;obtain⟨z,hz⟩:∃z,z=Qa md:=⟨_,rfl⟩;have HZ:=Qq hz;clear hz;go_enter Tryz.func15,Tryz.ntmps15;go_wp2_with fail;refine(Ob lg _).mono ?_;rintro e w2 ⟨vp,rfl,zT,hi⟩;rw [cO.out];obtain⟨Ap,cp,rfl,_⟩:=hi.out cO.out;have zS:=Qq (zL.out.trans zT);have rY:=Qq ((zT.block (Qn vX.out)).trans vX.out);obtain⟨e0,e1,e2,eb⟩:=Zs rY.out;clear hi zT;go_wp2_with fail;refine(Ng _ md _ (H.out.ext zS.out) zC.out).mono ?_;rintro e w3 ⟨rfl,zF⟩;rw [<-HZ.out];have zD:=Qq (zS.out.trans zF);have qD:=Qq ((zF.block (Qn rY.out)).trans rY.out)
  clear zF e0 e1 e2 eb;by_cases wZ:z=0
  ·subst wZ;have yF:=Qq (show Qa md=0 from HZ.out.symm);obtain⟨rl,wG⟩:∃l,l=md.rel:=⟨_,rfl⟩;have PD:=Qq wG;have fA:=Qq (show ∀r∈rl,∀s∈r,Qp s by rw [wG];exact zC.out.rel);have J0:=Qq (show ∀r∈rl,Xj r=true/\0 < r.length by rw [wG];exact fun r hr=>Qjs yF.out hr);rw [<-wG]at HR qD dK⊢;clear wG vX rY;go_wp2_with fail;go_loopw [7] (fun v wr=>∃k:Nat,v=.int .i64 (k:Int)/\k<=rl.length/\Hid (Qg w3 wr/\∀j,j < k->Dm lg (rl.getD j []))) (fun v _=>rl.length - (intOf v).toNat)
   case atStart=>exact⟨0,rfl,Nat.zero_le _,Qq ⟨Qz,fun j hj=>absurd hj (by omega)⟩⟩
   case round =>
    obtain⟨k,rfl,hk,zY⟩:=hrel;have HX:=Qq zY.out.1;have HJ:=Qq zY.out.2;have yZ:=Qq (zD.out.trans HX.out);obtain⟨e0,e1,e2,eb⟩:=Zs ((HX.out.block (Qn qD.out)).trans qD.out);clear zY;by_cases hlt2:k < rl.length
    ·have yT:(k:Int) < (rl.length:Int):=by omega
     obtain⟨ad,u,rfl,zV,hc,hu⟩:=HR.out k hlt2;have HU:=Qq (hu.ext yZ.out);have pW:=Qq (show rl.getD k []∈rl by rw [Qk,Qv hlt2];exact List.getElem_mem hlt2);obtain⟨Au,cu,rfl,_⟩:=hu;have a0:=(yZ.out.cell (p:=ad.add k) (Qj zV)).trans hc;have al:(ad.add k).block < wr.heap.size:=by rw [Qt];exact Qy zV yZ.out.size
     have zE:=Qq (show Dm lg (rl.getD k [])->∀j,j < k+1->Dm lg (rl.getD j [])from fun h=>Do (P:=fun j=>Dm lg (rl.getD j [])) HJ.out h);obtain⟨r,hr⟩:∃r,r=rl.getD k []:=⟨_,rfl⟩;rw [<-hr]at a0 zE pW HU;have Y0:=Qq (J0.out r pW.out);clear hc hr;go_wp2_with fail;refine(Qp4 _ r lg _ HU.out (fA.out r pW.out) Y0.out.2 pB.out Y0.out.1).mono ?_;rintro e w4 ⟨b,rfl,yE,hb⟩;have yN:=Qq (HX.out.trans yE);have HB:=Qq hb.out;clear yE hb e0 e1 e2 eb;cases b
     ·have HE:=Qq (show ¬Fl md lg from fun h=>absurd (HB.out.2 (h.rel r (by rw [<-PD.out];exact pW.out))) (by decide));go_wp2_with fail;go_ret
      first
      |exact⟨false,rfl,zD.out.trans yN.out,Qq (iff_of_false (by decide) HE.out)⟩
      |exact .inl ⟨rfl,zD.out.trans yN.out,Qq (iff_of_false (by decide) HE.out)⟩
     have HP:=Qq (zE.out (HB.out.1 rfl));go_wp2_with fail;go_roundw
     case rel=>exact⟨k+1,by go_num,by omega,Qq ⟨yN.out,HP.out⟩⟩
     case measure=>simp [intOf];omega
    obtain rfl:rl.length=k:=by omega
    have HE:=Qq (show Fl md lg from⟨pB.out,yF.out,fun r hr=>by
     rw [<-PD.out]at hr;obtain⟨j,hj,e⟩:=List.getElem_of_mem hr;have:=HJ.out j hj;rw [Qk,Qv hj]at this;have h2:Dm lg rl[j]:=this;rw [e]at h2;exact h2⟩)
    go_wp2_with fail;go_ret
    first
    |exact⟨true,rfl,yZ.out,Qq (iff_of_true rfl HE.out)⟩
    |exact .inr ⟨rfl,yZ.out,Qq (iff_of_true rfl HE.out)⟩
  have HE:=Qq (show ¬Fl md lg from fun h=>wZ (HZ.out.trans h.ck));have sH:(z==0)=false:=by rw [beq_eq_false_iff_ne];exact wZ
  clear wZ;go_wp2_with fail;go_ret
  first
  |exact⟨false,rfl,zD.out,Qq (iff_of_false (by decide) HE.out)⟩
  |exact .inl ⟨rfl,zD.out,Qq (iff_of_false (by decide) HE.out)⟩
 have cO:=Qq (show Iq lg=1 from if_neg yA);have HE:=Qq (show ¬Fl md lg from fun h=>yA h.lgr);clear yA;go_enter Tryz.func15,Tryz.ntmps15;go_wp2_with fail;refine(Ob lg _).mono ?_;rintro e w2 ⟨vp,rfl,zT,hi⟩;rw [cO.out];have zS:=Qq (zL.out.trans zT);clear hi zT;go_wp2_with fail;go_ret
 first
 |exact⟨false,rfl,zS.out,Qq (iff_of_false (by decide) HE.out)⟩
 |exact .inl ⟨rfl,zS.out,Qq (iff_of_false (by decide) HE.out)⟩
theorem Qg3(meet:Bool)(v:Value)(md:Md)(gn:Nat)(w:World)(h:Yz w v md)(zO:md.ok)(zU:Qa md=0)(vK:1<=gn)(hg:gn < 2^md.rel.length):
 Calls Tryz.prog 222 #[v,.int .i64 (gn:Int),.bool meet] w fun e w'=>∃u,e=.returned u/\Qg w w'/\Zv w.heap.size w' u ((List.range md.n.toNat).map (Jw md.rel gn meet md.n.toNat)):=by
 have H:=Qq h;have zC:=Qq zO;have yF:=Qq zU;obtain⟨wH,yW,vA,_,uZ,_,_⟩:=Zb zU;obtain⟨iU,sR,xG,xF,xE⟩:=info_parts Dz;obtain⟨vv,vr,rfl,hv,hr⟩:=h;obtain⟨Av,cv,rfl,_⟩:=hv;obtain⟨Ar,cr,rfl,dK,TH,HR⟩:=Ut hr;obtain⟨n,uN⟩:=Int.eq_ofNat_of_zero_le (show 0<=md.n by omega);rw [uN]at wH yW H uZ⊢;have bZ:((n:Nat):Int).toNat=n:=Int.toNat_natCast n;rw [bZ];have dU:n<=64:=by omega
 have uP:=decide_eq_false (Qjm vA hg);have NN:decide ((gn:Int) < 1)=false:=decide_eq_false (by omega);have wI:min md.rel.length 64=md.rel.length:=by omega
 obtain⟨rl,wG⟩:∃l,l=md.rel:=⟨_,rfl⟩;have fA:=Qq (show ∀r∈rl,∀s∈r,Qp s by rw [wG];exact zO.rel);have bA:=Qq (show ∀r∈rl,r.length=n by rw [wG];exact fun r hr=>by have:=uZ r hr;omega);rw [<-wG]at HR dK vA uP wI⊢;have zL:=Qq (show Qg w (w.alloc (.cells #[.int .i64 (n:Int),.slice Av md.val.length cv,.slice Ar rl.length cr] 26))from Qz.alloc _);have vX:=Qq (show(w.alloc (.cells #[.int .i64 (n:Int),.slice Av md.val.length cv,.slice Ar rl.length cr] 26)).heap[w.heap.size]?=some (.cells #[.int .i64 (n:Int),.slice Av md.val.length cv,.slice Ar rl.length cr] 26 (0,0))from heap_alloc_new _ _)
 have H2:=Qq (show Yz w (.agg #[.int .i64 (n:Int),.slice Av md.val.length cv,.slice Ar rl.length cr]) md by rw [wG];exact H.out);clear hr zO zU uN wG hg uZ bZ H vK;go_enter Tryz.func222,Tryz.ntmps222;go_wp2_with fail;refine(Ng _ md _ (H2.out.ext zL.out) zC.out).mono ?_;rintro e w1 ⟨rfl,zP⟩;rw [yF.out];have zM:=Qq (zL.out.trans zP);have wO:=Qq ((zP.block (Qn vX.out)).trans vX.out);obtain⟨e0,e1,e2,eb⟩:=Zs wO.out;obtain⟨b,hb⟩:∃b,b=w.heap.size:=⟨_,rfl⟩;rw [<-hb]at e0 e1 e2 eb wO⊢;have bN:=Qq hb;clear zP vX hb;go_wp2_with fail;clear e0 e1 e2 eb;go_loopw [7,8] (fun vo vi wr=>∃i:Nat,vi=.int .i64 (i:Int)/\i<=n/\Hid (Qg w1 wr/\Zv w1.heap.size wr vo ((List.range i).map (Jw rl gn meet n)))) (fun _ v _=>n - (intOf v).toNat)
 case atStart=>exact⟨0,rfl,Nat.zero_le _,Qq ⟨Qz,Zv.nil _ _⟩⟩
 case round =>
  obtain⟨i,rfl,hi,zY⟩:=hrel;have sV:=Qq zY.out.1;have tE:=Qq zY.out.2;obtain⟨out,yH⟩:∃o,o=(List.range i).map (Jw rl gn meet n):=⟨_,rfl⟩;have tJ:out.length<=n:=by rw [yH];simpa using hi
  have lK:=Qq yH;rw [<-yH]at tE;obtain⟨Ax,cx,rfl⟩:=Qs tE.out;obtain⟨e0,e1,e2,eb⟩:=Zs ((sV.out.block (Qn wO.out)).trans wO.out);clear zY yH;by_cases hlt2:i < n
  ·have yT:(i:Int) < (n:Int):=by omega
   obtain⟨wq,vE⟩:∃v,v=wr:=⟨_,rfl⟩;subst vE;cases meet
   ·skip
    go_wp2_with fail;clear e0 e1 e2 eb;go_loopw [9,10] (fun vs vi wr=>∃a:Nat,vi=.int .i64 (a:Int)/\a<=rl.length/\∃s:Nat,vs=.int .u64 (s:Int)/\Hid (s=(List.range a).foldl (Fx rl gn false i) 0/\Qg wq wr)) (fun _ v _=>rl.length - (intOf v).toNat)
    case atStart=>exact⟨0,rfl,Nat.zero_le _,0,rfl,Qq ⟨rfl,Qz⟩⟩
    case round =>
     obtain⟨a,rfl,ha,s,rfl,zY⟩:=hrel;have mG:=Qq zY.out.1;have uH:=Qq zY.out.2;have HX:=Qq (sV.out.trans uH.out);have nP:=Qq (show Qp s by rw [mG.out];exact Fh (fun s a h=>Wk fA.out h) _ _ (show(0:Nat) < _ by omega));obtain⟨e0,e1,e2,eb⟩:=Zs ((HX.out.block (Qn wO.out)).trans wO.out);clear zY;by_cases yQ:a < rl.length
     ·have wW:(a:Int) < (rl.length:Int):=by omega
      have dW:min a 64=a:=by omega
      obtain⟨ad,u,rfl,zV,yR,hu⟩:=HR.out a yQ;have yU:(rl.getD a []).length=n:=bA.out _ (by rw [Qk,Qv yQ];exact List.getElem_mem yQ);obtain⟨Au,cu,rfl,_,_,HU⟩:=Vl hu;rw [yU]at yR HU;obtain⟨ud,rfl,tR,rZ⟩:=HU.out i hlt2;have rT:=Qq (zM.out.trans HX.out);have a0:=(rT.out.cell (p:=ad.add a) (Qj zV)).trans yR;have al:(ad.add a).block < wr.heap.size:=by rw [Qt];exact Qy zV rT.out.size
      have u0:=(rT.out.cell (p:=ud.add i) (Qj tR)).trans rZ;have ul:(ud.add i).block < wr.heap.size:=by rw [Qt];exact Qy tR rT.out.size
      have tM:=Ny gn a;have zK:=Gq nP.out (Yg (Sm fA.out a) i);have yY:=Qq (show(List.range (a+1)).foldl (Fx rl gn false i) 0=if gn.testBit a then s|||(rl.getD a []).getD i 0 else s by rw [Ve,<-mG.out];rfl);obtain⟨x,hx⟩:∃x,x=(rl.getD a []).getD i 0:=⟨_,rfl⟩;rw [<-hx]at u0 zK yY;obtain⟨z,hz⟩:∃z,z=s|||x:=⟨_,rfl⟩;rw [<-hz]at zK yY;clear yR rZ hx hz yU hu;cases yC:gn.testBit a
      ·rw [yC]at tM yY;clear yC;go_wp2_with fail;go_roundw
       case rel=>exact⟨a+1,by go_num,by omega,s,rfl,Qq ⟨by rw [yY.out];rfl,uH.out⟩⟩
       case measure=>simp [intOf];omega
      rw [yC]at tM yY;clear yC;go_wp2_with fail;go_roundw
      case rel=>exact⟨a+1,by go_num,by omega,z,rfl,Qq ⟨by rw [yY.out];rfl,uH.out⟩⟩
      case measure=>simp [intOf];omega
     obtain rfl:rl.length=a:=by omega
     have IN:=Qq (show Jw rl gn false n i=s by rw [mG.out];rfl);have xS:out.length+1<=maxLen:=by unfold maxLen;omega
     have xR:(out.length+1)*8<=140737488355328:=by omega
     have mH:=Qq (tE.out.ext uH.out);have rT:=Qq (zM.out.trans HX.out);go_wp2_with(at_builtin;refine wpList_append_own_at _ rfl _ _ 23 rfl w1.heap.size 41 iU (.int .u64 0) 1 8 Tryz.underlying23 sR xG xF xE rfl (by decide) _ out.length (uV out) rfl (Zk mH.out (Qz.alloc _)) ⟨_,0,none⟩ 1 1 [.int .u64 (s:Int)] rfl rfl (Zt _ _ _ (by simp)) (fun u hu=>by rw [List.mem_singleton.1 hu];rfl) xS xR (Qx HX.out.size (by simp)) ?_);intro v7 w7 zW zX _ _;have qY:=Qq (show Qg w1 w7 from(HX.out.alloc _).grown zX (fun k hk=>(mH.out.lt k hk).1));have pA:=Qq (show Zv w1.heap.size w7 v7 ((List.range (i+1)).map (Jw rl gn false n)) by
      rw [Qy9,<-lK.out,IN.out];unfold Zv uV;rw [List.map_append,List.length_append];exact zW)
     obtain⟨A7,c7,rfl⟩:=Qs zW;clear zW zX;go_wp2_with fail;go_roundw
     case rel=>exact⟨i+1,by go_num,by omega,Qq ⟨qY.out,pA.out⟩⟩
     case measure=>simp [intOf];omega
   skip
   go_wp2_with fail;refine(Hz n dU _).mono ?_;rintro e w2 ⟨rfl,rfl⟩;go_wp2_with fail;clear e0 e1 e2 eb;go_loopw [9,10] (fun vs vi wr=>∃a:Nat,vi=.int .i64 (a:Int)/\a<=rl.length/\∃s:Nat,vs=.int .u64 (s:Int)/\Hid (s=(List.range a).foldl (Fx rl gn true i) (Zn n)/\Qg wq wr)) (fun _ v _=>rl.length - (intOf v).toNat)
   case atStart=>exact⟨0,rfl,Nat.zero_le _,Zn n,rfl,Qq ⟨rfl,Qz⟩⟩
   case round =>
    obtain⟨a,rfl,ha,s,rfl,zY⟩:=hrel;have mG:=Qq zY.out.1;have uH:=Qq zY.out.2;have HX:=Qq (sV.out.trans uH.out);have nP:=Qq (show Qp s by rw [mG.out];exact Fh (fun s a h=>Wk fA.out h) _ _ (Vn dU));obtain⟨e0,e1,e2,eb⟩:=Zs ((HX.out.block (Qn wO.out)).trans wO.out);clear zY;by_cases yQ:a < rl.length
    ·have wW:(a:Int) < (rl.length:Int):=by omega
     have dW:min a 64=a:=by omega
     obtain⟨ad,u,rfl,zV,yR,hu⟩:=HR.out a yQ;have yU:(rl.getD a []).length=n:=bA.out _ (by rw [Qk,Qv yQ];exact List.getElem_mem yQ);obtain⟨Au,cu,rfl,_,_,HU⟩:=Vl hu;rw [yU]at yR HU;obtain⟨ud,rfl,tR,rZ⟩:=HU.out i hlt2;have rT:=Qq (zM.out.trans HX.out);have a0:=(rT.out.cell (p:=ad.add a) (Qj zV)).trans yR;have al:(ad.add a).block < wr.heap.size:=by rw [Qt];exact Qy zV rT.out.size
     have u0:=(rT.out.cell (p:=ud.add i) (Qj tR)).trans rZ;have ul:(ud.add i).block < wr.heap.size:=by rw [Qt];exact Qy tR rT.out.size
     have tM:=Ny gn a;have zK:=Xy nP.out (Yg (Sm fA.out a) i);have yY:=Qq (show(List.range (a+1)).foldl (Fx rl gn true i) (Zn n)=if gn.testBit a then s&&&(rl.getD a []).getD i 0 else s by rw [Ve,<-mG.out];rfl);obtain⟨x,hx⟩:∃x,x=(rl.getD a []).getD i 0:=⟨_,rfl⟩;rw [<-hx]at u0 zK yY;obtain⟨z,hz⟩:∃z,z=s&&&x:=⟨_,rfl⟩;rw [<-hz]at zK yY;clear yR rZ hx hz yU hu;cases yC:gn.testBit a
     ·rw [yC]at tM yY;clear yC;go_wp2_with fail;go_roundw
      case rel=>exact⟨a+1,by go_num,by omega,s,rfl,Qq ⟨by rw [yY.out];rfl,uH.out⟩⟩
      case measure=>simp [intOf];omega
     rw [yC]at tM yY;clear yC;go_wp2_with fail;go_roundw
     case rel=>exact⟨a+1,by go_num,by omega,z,rfl,Qq ⟨by rw [yY.out];rfl,uH.out⟩⟩
     case measure=>simp [intOf];omega
    obtain rfl:rl.length=a:=by omega
    have IN:=Qq (show Jw rl gn true n i=s by rw [mG.out];rfl);have xS:out.length+1<=maxLen:=by unfold maxLen;omega
    have xR:(out.length+1)*8<=140737488355328:=by omega
    have mH:=Qq (tE.out.ext uH.out);have rT:=Qq (zM.out.trans HX.out);go_wp2_with(at_builtin;refine wpList_append_own_at _ rfl _ _ 23 rfl w1.heap.size 41 iU (.int .u64 0) 1 8 Tryz.underlying23 sR xG xF xE rfl (by decide) _ out.length (uV out) rfl (Zk mH.out (Qz.alloc _)) ⟨_,0,none⟩ 1 1 [.int .u64 (s:Int)] rfl rfl (Zt _ _ _ (by simp)) (fun u hu=>by rw [List.mem_singleton.1 hu];rfl) xS xR (Qx HX.out.size (by simp)) ?_);intro v7 w7 zW zX _ _;have qY:=Qq (show Qg w1 w7 from(HX.out.alloc _).grown zX (fun k hk=>(mH.out.lt k hk).1));have pA:=Qq (show Zv w1.heap.size w7 v7 ((List.range (i+1)).map (Jw rl gn true n)) by
     rw [Qy9,<-lK.out,IN.out];unfold Zv uV;rw [List.map_append,List.length_append];exact zW)
    obtain⟨A7,c7,rfl⟩:=Qs zW;clear zW zX;go_wp2_with fail;go_roundw
    case rel=>exact⟨i+1,by go_num,by omega,Qq ⟨qY.out,pA.out⟩⟩
    case measure=>simp [intOf];omega
  obtain rfl:n=i:=by omega
  go_wp2_with fail;go_ret;exact⟨_,rfl,zM.out.trans sV.out,by rw [<-lK.out];exact Kl tE.out zM.out.size⟩
theorem Qxa(v:Value)(md:Md)(gn:Nat)(w:World)(h:Yz w v md)(zO:md.ok)(zU:Qa md=0)(vK:1<=gn)(hg:gn < 2^md.rel.length):
 Calls Tryz.prog 214 #[v,.int .i64 (gn:Int)] w fun e w'=>∃u,e=.returned u/\Qg w w'/\Zv w.heap.size w' u ((List.range md.n.toNat).map (Jw md.rel gn false md.n.toNat)):=by
 have H:=Qq h;have HO:=Qq zO;have HC:=Qq zU;have HG:=Qq hg;obtain⟨vv,vr,rfl,⟨Av,cv,rfl,_⟩,⟨Ar,cr,rfl,_⟩⟩:=h;clear zO zU hg;go_enter Tryz.func214,Tryz.ntmps214;go_wp2_with fail;refine(Qg3 false _ md gn _ (H.out.ext (Qz.alloc _)) HO.out HC.out vK HG.out).mono ?_;rintro e w1 ⟨u,rfl,hx,hm⟩;have HX:=Qq (((Qg.refl w).alloc _).trans hx);have HM:=Qq (show Zv w.heap.size w1 u _ from Kl hm (by simp));clear hx hm;go_wp2_with fail;go_ret;exact⟨u,rfl,HX.out,HM.out⟩
theorem Qhc(v:Value)(md:Md)(gn:Nat)(w:World)(h:Yz w v md)(zO:md.ok)(zU:Qa md=0)(vK:1<=gn)(hg:gn < 2^md.rel.length):
 Calls Tryz.prog 215 #[v,.int .i64 (gn:Int)] w fun e w'=>∃u,e=.returned u/\Qg w w'/\Zv w.heap.size w' u ((List.range md.n.toNat).map (Jw md.rel gn true md.n.toNat)):=by
 have H:=Qq h;have HO:=Qq zO;have HC:=Qq zU;have HG:=Qq hg;obtain⟨vv,vr,rfl,⟨Av,cv,rfl,_⟩,⟨Ar,cr,rfl,_⟩⟩:=h;clear zO zU hg;go_enter Tryz.func215,Tryz.ntmps215;go_wp2_with fail;refine(Qg3 true _ md gn _ (H.out.ext (Qz.alloc _)) HO.out HC.out vK HG.out).mono ?_;rintro e w1 ⟨u,rfl,hx,hm⟩;have HX:=Qq (((Qg.refl w).alloc _).trans hx);have HM:=Qq (show Zv w.heap.size w1 u _ from Kl hm (by simp));clear hx hm;go_wp2_with fail;go_ret;exact⟨u,rfl,HX.out,HM.out⟩
theorem Pg(v:Value)(l:List Nd)(w:World)(h:Jo w v l)(zU:check l=0):
 Calls Tryz.prog 47 #[v] w fun e w'=>e=.returned (.int .i64 ((Jd (Qf l):Nat):Int))/\Qg w w':=by
 have H:=Qq h;have HH:=Qq (Jj zU).2.2.2;clear h zU;go_enter Tryz.func47,Tryz.ntmps47;go_wp2_with fail;refine(Sh _ l _ H.out).mono ?_;rintro e w1 ⟨u,rfl,hm⟩;have HX:=Qq hm.2.2;obtain⟨A,c,rfl,xU,yP,zN⟩:=hm.fml.1;unfold maxLen at yP;have HR:=Qq zN;obtain⟨cl,yR⟩:∃cl,cl=Qf l:=⟨_,rfl⟩;have tV:=Qq yR;rw [<-yR]at HR xU HH;rw [<-yR];clear hm zN yR;go_wp2_with fail;go_loopw [4,5] (fun out i wr=>∃k:Nat,k<=cl.length/\i=.int .i64 k/\∃m:Nat,out=.int .i64 (m:Int)/\Hid (m=Jd (cl.take k)/\Qg w1 wr)) (fun _ i _=>cl.length - (intOf i).toNat)
 case atStart=>exact⟨0,Nat.zero_le _,rfl,0,rfl,Qq ⟨rfl,Qz⟩⟩
 case round =>
  obtain⟨k,hk,rfl,m,rfl,zY⟩:=hrel;have WO:=Qq zY.out.1;have zS:=Qq zY.out.2;clear zY;by_cases hlt2:k < cl.length
  ·have yT:(k:Int) < (cl.length:Int):=by omega
   obtain⟨a,ha⟩:∃a,cl[k]?=some a:=⟨_,Qv hlt2⟩;obtain⟨ad,rfl,yV,xV⟩:=HR.out (by intro e;rw [e]at hlt2;simp at hlt2);obtain⟨a0,a1,a2,a3,a4,a5⟩:=(xV k a ha).keep fun p hp=>zS.out.cell (p:=p) (by rw [hp,Qt];exact yV)
   have xQ:(ad.add (k*6)).block < wr.heap.size:=by rw [Qt];exact Qy yV zS.out.size
   have HO:=Qq (HH.out a (List.mem_of_getElem? ha));have zE:=Qq (show Jd (cl.take (k+1))=Se m a by rw [WO.out,Kx ha];unfold Jd;rw [List.foldl_append];rfl);have qL:m < 2^4:=by rw [WO.out];exact Dy _ _ (fun n hn=>HH.out n (List.mem_of_mem_take hn)) (by decide)
   clear ha xV;obtain⟨gn,wC⟩:=Int.eq_ofNat_of_zero_le (Uw HO.out).1;have UM:gn < 16:=by have:=(Uw HO.out).2;omega
   rw [wC]at a3;have nB:=Qq wC;clear wC;cases vZ:Zx a.op
   ·have yY:=Qq (show Se m a=m|||gn by unfold Se;rw [vZ,nB.out];simp);have uM:=Dp m gn (by omega) (by omega);obtain⟨z,hz⟩:∃z,z=m|||gn:=⟨_,rfl⟩;rw [<-hz]at uM yY;have kF:=Qq vZ;clear hz vZ;go_wp2_with fail;refine(Ex a.op _).mono ?_;rintro e w2 ⟨rfl,rfl⟩;rw [kF.out];go_wp2_with fail;go_roundw
    case rel=>exact⟨k+1,by omega,by go_num,z,rfl,Qq ⟨by rw [zE.out,yY.out],zS.out⟩⟩
    case measure=>simp [intOf];omega
   obtain⟨h0,h4⟩:=Ki HO.out vZ;obtain⟨ai,sJ⟩:=Int.eq_ofNat_of_zero_le h0;have EM:ai < 4:=by omega
   have wI:min ai 64=ai:=by omega
   rw [sJ]at a1;have TP:2^ai < 16:=Qy (Nat.pow_lt_pow_right (by decide) EM) (Nat.le_refl _);have yY:=Qq (show Se m a=(m|||2^ai)|||gn by unfold Se;rw [vZ,nB.out,sJ];rfl);have TR:bits .or .i64 (m:Int) (wrap64 ((2:Int)^ai))=((m|||2^ai:Nat):Int):=by
    rw [Di (by omega)];exact Dp m (2^ai) (by omega) (by omega)
   have xO:m|||2^ai < 2^4:=Nat.or_lt_two_pow qL TP;have LY:=Dp (m|||2^ai) gn (by omega) (by omega);obtain⟨y,hy⟩:∃y,y=m|||2^ai:=⟨_,rfl⟩;rw [<-hy]at TR LY yY;obtain⟨z,hz⟩:∃z,z=y|||gn:=⟨_,rfl⟩;rw [<-hz]at LY yY;have kF:=Qq vZ;clear hy hz vZ h0 h4 sJ TP xO;go_wp2_with fail;refine(Ex a.op _).mono ?_;rintro e w2 ⟨rfl,rfl⟩;rw [kF.out];go_wp2_with fail;go_roundw
   case rel=>exact⟨k+1,by omega,by go_num,z,rfl,Qq ⟨by rw [zE.out,yY.out],zS.out⟩⟩
   case measure=>simp [intOf];omega
  obtain rfl:cl.length=k:=by omega
  have HE:=Qq (show Jd cl=m by rw [WO.out,List.take_of_length_le (Nat.le_refl _)]);go_wp2_with fail;go_ret;exact⟨by rw [<-tV.out,HE.out] <;> rfl,HX.out.trans zS.out⟩
theorem Hj(v:Value)(l:List Nd)(w:World)(h:Jo w v l)(zU:check l=0):
 Calls Tryz.prog 48 #[v] w fun e w'=>e=.returned (.int .i64 ((Je (Qf l):Nat):Int))/\Qg w w':=by
 have H:=Qq h;have HH:=Qq (Jj zU).2.2.2;clear h zU;go_enter Tryz.func48,Tryz.ntmps48;go_wp2_with fail;refine(Sh _ l _ H.out).mono ?_;rintro e w1 ⟨u,rfl,hm⟩;have HX:=Qq hm.2.2;obtain⟨A,c,rfl,xU,yP,zN⟩:=hm.fml.1;unfold maxLen at yP;have HR:=Qq zN;obtain⟨cl,yR⟩:∃cl,cl=Qf l:=⟨_,rfl⟩;have tV:=Qq yR;rw [<-yR]at HR xU HH;rw [<-yR];clear hm zN yR;go_wp2_with fail;go_loopw [4,5] (fun out i wr=>∃k:Nat,k<=cl.length/\i=.int .i64 k/\∃m:Nat,out=.int .i64 (m:Int)/\Hid (m=Je (cl.take k)/\Qg w1 wr)) (fun _ i _=>cl.length - (intOf i).toNat)
 case atStart=>exact⟨0,Nat.zero_le _,rfl,0,rfl,Qq ⟨rfl,Qz⟩⟩
 case round =>
  obtain⟨k,hk,rfl,m,rfl,zY⟩:=hrel;have WO:=Qq zY.out.1;have zS:=Qq zY.out.2;clear zY;by_cases hlt2:k < cl.length
  ·have yT:(k:Int) < (cl.length:Int):=by omega
   obtain⟨a,ha⟩:∃a,cl[k]?=some a:=⟨_,Qv hlt2⟩;obtain⟨ad,rfl,yV,xV⟩:=HR.out (by intro e;rw [e]at hlt2;simp at hlt2);obtain⟨a0,a1,a2,a3,a4,a5⟩:=(xV k a ha).keep fun p hp=>zS.out.cell (p:=p) (by rw [hp,Qt];exact yV)
   have xQ:(ad.add (k*6)).block < wr.heap.size:=by rw [Qt];exact Qy yV zS.out.size
   have HO:=Qq (HH.out a (List.mem_of_getElem? ha));have zE:=Qq (show Je (cl.take (k+1))=So m a by rw [WO.out,Kx ha];unfold Je;rw [List.foldl_append];rfl);have qL:m < 2^8:=by rw [WO.out];exact Rp _ _ (fun n hn=>HH.out n (List.mem_of_mem_take hn)) (by decide)
   clear ha xV;by_cases h3:a.op=3
   ·obtain⟨h0,h8⟩:=Fe HO.out h3;obtain⟨ai,sJ⟩:=Int.eq_ofNat_of_zero_le h0;have OH:ai < 8:=by omega
    have wI:min ai 64=ai:=by omega
    rw [sJ]at a1;rw [h3]at a0;have hp8:2^ai < 256:=Qy (Nat.pow_lt_pow_right (by decide) OH) (Nat.le_refl _);have yY:=Qq (show So m a=m|||2^ai by unfold So;rw [if_pos h3,sJ];rfl);have TR:bits .or .i64 (m:Int) (wrap64 ((2:Int)^ai))=((m|||2^ai:Nat):Int):=by
     rw [Di OH];exact Dp m (2^ai) (by omega) (by omega)
    obtain⟨z,hz⟩:∃z,z=m|||2^ai:=⟨_,rfl⟩;rw [<-hz]at TR yY;clear hz h0 h8 sJ hp8 h3;go_wp2_with fail;go_roundw
    case rel=>exact⟨k+1,by omega,by go_num,z,rfl,Qq ⟨by rw [zE.out,yY.out],zS.out⟩⟩
    case measure=>simp [intOf];omega
   have t3:(a.op==3)=false:=by simpa using h3
   have yY:=Qq (show So m a=m by unfold So;rw [if_neg h3]);clear h3;go_wp2_with fail;go_roundw
   case rel=>exact⟨k+1,by omega,by go_num,m,rfl,Qq ⟨by rw [zE.out,yY.out],zS.out⟩⟩
   case measure=>simp [intOf];omega
  obtain rfl:cl.length=k:=by omega
  have HE:=Qq (show Je cl=m by rw [WO.out,List.take_of_length_le (Nat.le_refl _)]);go_wp2_with fail;go_ret;exact⟨by rw [<-tV.out,HE.out] <;> rfl,HX.out.trans zS.out⟩
theorem Qfr(v:Value)(f:List Nd)(a b:Nat)(w:World)(h:Jo w v f):
 Calls Tryz.prog 16 #[v,.int .i64 (a:Int),.int .i64 (b:Int)] w fun e w'=>e=.returned (.bool (Yd f a b))/\Qg w w':=by
 have H:=Qq h;obtain⟨A,c,rfl,_⟩:=Qc h;clear h;obtain⟨z,hz⟩:∃z,z=check f:=⟨_,rfl⟩;have HZ:=Qq hz;clear hz;by_cases wZ:z=0
 ·subst wZ;have yF:=Qq (show check f=0 from HZ.out.symm);have XC:=Qq (show Yd f a b=((List.range 4).all (Xv a (Jd (Qf f)))&&(List.range 8).all (Xv b (Je (Qf f)))) by unfold Yd;rw [<-HZ.out];rfl);obtain⟨ma,aA⟩:∃m,m=Jd (Qf f):=⟨_,rfl⟩;obtain⟨mf,cA⟩:∃m,m=Je (Qf f):=⟨_,rfl⟩;rw [<-aA,<-cA]at XC;have YY:=Qq aA;have GV:=Qq cA;clear aA cA;go_enter Tryz.func16,Tryz.ntmps16;go_wp2_with fail;refine(Xc _ f _ H.out.1).mono ?_;rintro e w1 ⟨rfl,zP⟩;rw [yF.out];have zM:=Qq zP;clear zP;go_wp2_with fail;go_loopw [7] (fun v wr=>∃k:Nat,v=.int .i64 (k:Int)/\k<=4/\Hid (Qg w wr/\∀j,j < k->Xv a ma j=true)) (fun v _=>4 - (intOf v).toNat)
  case atStart=>exact⟨0,rfl,Nat.zero_le _,Qq ⟨zM.out,fun j hj=>absurd hj (by omega)⟩⟩
  case round =>
   obtain⟨k,rfl,hk,zY⟩:=hrel;have HX:=Qq zY.out.1;have HJ:=Qq zY.out.2;clear zY;by_cases hlt2:k < 4
   ·have yT:(k:Int) < 4:=by omega
    have wI:min k 64=k:=by omega
    have tM:=Ny ma k;have zE:=Qq (show Xv a ma k=true->∀j,j < k+1->Xv a ma j=true from fun h=>Do (P:=fun j=>Xv a ma j=true) HJ.out h);have tH:=Qq (show Xv a ma k=false->Yd f a b=false from fun h=>by rw [XC.out,Qb2 hlt2 h];rfl);cases yC:ma.testBit k
    ·rw [yC]at tM;have HP:=Qq (zE.out (by unfold Xv;rw [yC];rfl));clear yC;go_wp2_with fail;refine(Pg _ f _ (H.out.ext HX.out) yF.out).mono ?_;rintro e w2 ⟨rfl,zT⟩;rw [<-YY.out];have zS:=Qq (HX.out.trans zT);clear zT;go_wp2_with fail;go_roundw
     case rel=>exact⟨k+1,by go_num,by omega,Qq ⟨zS.out,HP.out⟩⟩
     case measure=>simp [intOf];omega
    rw [yC]at tM;by_cases hka:k < a
    ·have HP:=Qq (zE.out (by unfold Xv;rw [yC,decide_eq_true hka];rfl));have UE:decide ((a:Int)<=(k:Int))=false:=decide_eq_false (by omega);have UD:decide (a<=k)=false:=decide_eq_false (by omega);clear yC;go_wp2_with fail;refine(Pg _ f _ (H.out.ext HX.out) yF.out).mono ?_;rintro e w2 ⟨rfl,zT⟩;rw [<-YY.out];have zS:=Qq (HX.out.trans zT);clear zT;go_wp2_with fail;go_roundw
     case rel=>exact⟨k+1,by go_num,by omega,Qq ⟨zS.out,HP.out⟩⟩
     case measure=>simp [intOf];omega
    have HE:=Qq (tH.out (by unfold Xv;rw [yC,decide_eq_false hka];rfl));have UE:decide ((a:Int)<=(k:Int))=true:=decide_eq_true (by omega);have UD:decide (a<=k)=true:=decide_eq_true (by omega);clear yC;go_wp2_with fail;refine(Pg _ f _ (H.out.ext HX.out) yF.out).mono ?_;rintro e w2 ⟨rfl,zT⟩;rw [<-YY.out];have zS:=Qq (HX.out.trans zT);clear zT;go_wp2_with fail;go_ret;exact⟨by rw [HE.out] <;> rfl,zS.out⟩
   obtain rfl:k=4:=by omega
   have bS:=Qq (Qgc HJ.out);have sV:=Qq HX.out;clear HX HJ;rw [show((4:Nat):Int)=4 from rfl];go_wp2_with fail;go_loopw [8] (fun v wr=>∃k:Nat,v=.int .i64 (k:Int)/\k<=8/\Hid (Qg w wr/\∀j,j < k->Xv b mf j=true)) (fun v _=>8 - (intOf v).toNat)
   case atStart=>exact⟨0,rfl,Nat.zero_le _,Qq ⟨sV.out,fun j hj=>absurd hj (by omega)⟩⟩
   case round =>
    obtain⟨k,rfl,hk,zY⟩:=hrel;have HX:=Qq zY.out.1;have HJ:=Qq zY.out.2;clear zY;by_cases hlt2:k < 8
    ·have yT:(k:Int) < 8:=by omega
     have wI:min k 64=k:=by omega
     have tM:=Ny mf k;have zE:=Qq (show Xv b mf k=true->∀j,j < k+1->Xv b mf j=true from fun h=>Do (P:=fun j=>Xv b mf j=true) HJ.out h);have tH:=Qq (show Xv b mf k=false->Yd f a b=false from fun h=>by rw [XC.out,Qb2 (n:=8) hlt2 h,Bool.and_false]);cases yC:mf.testBit k
     ·rw [yC]at tM;have HP:=Qq (zE.out (by unfold Xv;rw [yC];rfl));clear yC;go_wp2_with fail;refine(Hj _ f _ (H.out.ext HX.out) yF.out).mono ?_;rintro e w2 ⟨rfl,zT⟩;rw [<-GV.out];have zS:=Qq (HX.out.trans zT);clear zT;go_wp2_with fail;go_roundw
      case rel=>exact⟨k+1,by go_num,by omega,Qq ⟨zS.out,HP.out⟩⟩
      case measure=>simp [intOf];omega
     rw [yC]at tM;by_cases hka:k < b
     ·have HP:=Qq (zE.out (by unfold Xv;rw [yC,decide_eq_true hka];rfl));have UE:decide ((b:Int)<=(k:Int))=false:=decide_eq_false (by omega);have UD:decide (b<=k)=false:=decide_eq_false (by omega);clear yC;go_wp2_with fail;refine(Hj _ f _ (H.out.ext HX.out) yF.out).mono ?_;rintro e w2 ⟨rfl,zT⟩;rw [<-GV.out];have zS:=Qq (HX.out.trans zT);clear zT;go_wp2_with fail;go_roundw
      case rel=>exact⟨k+1,by go_num,by omega,Qq ⟨zS.out,HP.out⟩⟩
      case measure=>simp [intOf];omega
     have HE:=Qq (tH.out (by unfold Xv;rw [yC,decide_eq_false hka];rfl));have UE:decide ((b:Int)<=(k:Int))=true:=decide_eq_true (by omega);have UD:decide (b<=k)=true:=decide_eq_true (by omega);clear yC;go_wp2_with fail;refine(Hj _ f _ (H.out.ext HX.out) yF.out).mono ?_;rintro e w2 ⟨rfl,zT⟩;rw [<-GV.out];have zS:=Qq (HX.out.trans zT);clear zT;go_wp2_with fail;go_ret;exact⟨by rw [HE.out] <;> rfl,zS.out⟩
    obtain rfl:k=8:=by omega
    have HE:=Qq (show Yd f a b=true by rw [XC.out,bS.out,Qgc HJ.out];rfl);go_wp2_with fail;go_ret;exact⟨by rw [HE.out] <;> rfl,HX.out⟩
 have sH:(z==0)=false:=by rw [beq_eq_false_iff_ne];exact wZ
 have HE:=Qq (show Yd f a b=false by unfold Yd;rw [<-HZ.out,sH];rfl);clear wZ;go_enter Tryz.func16,Tryz.ntmps16;go_wp2_with fail;refine(Xc _ f _ H.out.1).mono ?_;rintro e w1 ⟨rfl,zP⟩;rw [<-HZ.out];have zM:=Qq zP;clear zP;go_wp2_with fail;go_ret;exact⟨by rw [HE.out] <;> rfl,zM.out⟩
theorem Qlx(vm v:Value)(md:Md)(f:List Nd)(i:Int)(w:World)(hm:Yz w vm md)(h:Jo w v f):
 Calls Tryz.prog 192 #[vm,v,.int .i64 i] w fun e w'=>e=.returned (.bool (Ce md f i))/\Qg w w':=by
 have H:=Qq h;obtain⟨vv,vr,rfl,⟨Av,cv,rfl,_⟩,⟨Ar,cr,rfl,_⟩⟩:=hm;obtain⟨A,c,rfl,_⟩:=Qc h;clear h;have zL:=Qq (show Qg w (w.alloc (.cells #[.int .i64 md.n,.slice Av md.val.length cv,.slice Ar md.rel.length cr] 26))from Qz.alloc _);have vX:=Qq (show(w.alloc (.cells #[.int .i64 md.n,.slice Av md.val.length cv,.slice Ar md.rel.length cr] 26)).heap[w.heap.size]?=some (.cells #[.int .i64 md.n,.slice Av md.val.length cv,.slice Ar md.rel.length cr] 26 (0,0))from heap_alloc_new _ _);go_enter Tryz.func192,Tryz.ntmps192;go_wp2_with fail;refine(Qxp _ f i _ (H.out.ext zL.out)).mono ?_;rintro e w1 ⟨u,rfl,uR⟩
 have HM:=Qq uR;have zM:=Qq (zL.out.trans uR.ext);have wO:=Qq ((uR.ext.block (Qn vX.out)).trans vX.out);obtain⟨Au,cu,rfl,_⟩:=Qc uR.fml;obtain⟨g,hg⟩:∃g,g=Jn f i:=⟨_,rfl⟩;have HG:=Qq (show Ce md f i=(Jr (Js g) 15&&Yd g md.rel.length md.val.length) by rw [hg];rfl);rw [<-hg]at HM⊢;have xM:=(Ty g).1;clear uR hg;cases hs:Jr (Js g) 15
 ·rw [hs]at xM HG;clear hs;go_wp2_with fail;refine(Sy _ g _ HM.out.fml).mono ?_;rintro e w2 ⟨rfl,zT⟩;have zS:=Qq (zM.out.trans zT);clear zT;go_wp2_with fail;go_ret;exact⟨by rw [HG.out] <;> rfl,zS.out⟩
 rw [hs]at xM HG;clear hs;go_wp2_with fail;refine(Sy _ g _ HM.out.fml).mono ?_;rintro e w2 ⟨rfl,zT⟩;have zS:=Qq (zM.out.trans zT);have vV:=Qq (HM.out.fml.ext zT);obtain⟨e0,e1,e2,eb⟩:=Zs ((zT.block (Qn wO.out)).trans wO.out);clear zT;go_wp2_with fail;refine(Qfr _ g md.rel.length md.val.length _ vV.out).mono ?_;rintro e w3 ⟨rfl,zF⟩;have zD:=Qq (zS.out.trans zF);clear zF e0 e1 e2 eb;go_wp2_with fail;go_ret;exact⟨by rw [HG.out,Bool.true_and] <;> rfl,zD.out⟩
theorem Qzm(vm v:Value)(md:Md)(f:List Nd)(w:World)(hm:Yz w vm md)(zO:md.ok)(h:Jo w v f):
 Calls Tryz.prog 149 #[vm,v,.int .i64 15] w fun e w'=>e=.returned (.int .i64 (Jq md f))/\Qg w w':=by
 have H:=Qq h;have HM:=Qq hm;have zC:=Qq zO;obtain⟨vv,vr,rfl,⟨Av,cv,rfl,_⟩,⟨Ar,cr,rfl,_⟩⟩:=hm;obtain⟨A,c,rfl,_⟩:=Qc h;clear h zO;have zL:=Qq (show Qg w (w.alloc (.cells #[.int .i64 md.n,.slice Av md.val.length cv,.slice Ar md.rel.length cr] 26))from Qz.alloc _);have vX:=Qq (show(w.alloc (.cells #[.int .i64 md.n,.slice Av md.val.length cv,.slice Ar md.rel.length cr] 26)).heap[w.heap.size]?=some (.cells #[.int .i64 md.n,.slice Av md.val.length cv,.slice Ar md.rel.length cr] 26 (0,0))from heap_alloc_new _ _);obtain⟨z,hz⟩:∃z,z=Qa md:=⟨_,rfl⟩;have HZ:=Qq hz;clear hz;by_cases wZ:z=0
 ·subst wZ;obtain⟨y,hy⟩:∃y,y=check f:=⟨_,rfl⟩;have HY:=Qq hy;clear hy;by_cases ZJ:y=0
  ·subst ZJ;have xM:=(Ty f).2;cases hs:Jr (Js f) 15
   ·rw [hs]at xM;have HE:=Qq (show Jq md f=10 by unfold Jq;rw [<-HZ.out,if_neg (by simp),<-HY.out,if_neg (by simp),if_pos hs]);clear hs;go_enter Tryz.func149,Tryz.ntmps149;go_wp2_with fail;refine(Ng _ md _ (HM.out.ext zL.out) zC.out).mono ?_;rintro e w1 ⟨rfl,zP⟩;rw [<-HZ.out];have zM:=Qq (zL.out.trans zP);clear zP;go_wp2_with fail;refine(Xc _ f _ (H.out.ext zM.out).1).mono ?_;rintro e w2 ⟨rfl,zT⟩;rw [<-HY.out];have zS:=Qq (zM.out.trans zT);clear zT;go_wp2_with fail;refine(Sy _ f _ (H.out.ext zS.out)).mono ?_;rintro e w3 ⟨rfl,zF⟩;have zD:=Qq (zS.out.trans zF)
    clear zF;go_wp2_with fail;go_ret;exact⟨by rw [HE.out] <;> rfl,zD.out⟩
   rw [hs]at xM;have HE:=Qq (show Jq md f=if Yd f md.rel.length md.val.length=false then 2 else 0 by unfold Jq;rw [<-HZ.out,if_neg (by simp),<-HY.out,if_neg (by simp),hs,if_neg (by simp)]);clear hs;obtain⟨t,ht⟩:∃t,t=Yd f md.rel.length md.val.length:=⟨_,rfl⟩;have HT:=Qq ht;rw [<-ht]at HE;clear ht;go_enter Tryz.func149,Tryz.ntmps149;go_wp2_with fail;refine(Ng _ md _ (HM.out.ext zL.out) zC.out).mono ?_;rintro e w1 ⟨rfl,zP⟩;rw [<-HZ.out];have zM:=Qq (zL.out.trans zP);have wO:=Qq ((zP.block (Qn vX.out)).trans vX.out);clear zP;go_wp2_with fail;refine(Xc _ f _ (H.out.ext zM.out).1).mono ?_
   rintro e w2 ⟨rfl,zT⟩;rw [<-HY.out];have zS:=Qq (zM.out.trans zT);have rY:=Qq ((zT.block (Qn wO.out)).trans wO.out);clear zT;go_wp2_with fail;refine(Sy _ f _ (H.out.ext zS.out)).mono ?_;rintro e w3 ⟨rfl,zF⟩;have zD:=Qq (zS.out.trans zF);obtain⟨e0,e1,e2,eb⟩:=Zs ((zF.block (Qn rY.out)).trans rY.out);clear zF;go_wp2_with fail;refine(Qfr _ f md.rel.length md.val.length _ (H.out.ext zD.out)).mono ?_;rintro e w4 ⟨rfl,yE⟩;rw [<-HT.out];have yN:=Qq (zD.out.trans yE);clear yE e0 e1 e2 eb;cases t
   ·go_wp2_with fail;go_ret;exact⟨by rw [HE.out] <;> rfl,yN.out⟩
   go_wp2_with fail;go_ret;exact⟨by rw [HE.out] <;> rfl,yN.out⟩
  have bT:(y==0)=false:=by rw [beq_eq_false_iff_ne];exact ZJ
  have HE:=Qq (show Jq md f=y by unfold Jq;rw [<-HZ.out,if_neg (by simp),<-HY.out,if_pos ZJ]);clear ZJ;go_enter Tryz.func149,Tryz.ntmps149;go_wp2_with fail;refine(Ng _ md _ (HM.out.ext zL.out) zC.out).mono ?_;rintro e w1 ⟨rfl,zP⟩;rw [<-HZ.out];have zM:=Qq (zL.out.trans zP);clear zP;go_wp2_with fail;refine(Xc _ f _ (H.out.ext zM.out).1).mono ?_;rintro e w2 ⟨rfl,zT⟩;rw [<-HY.out];have zS:=Qq (zM.out.trans zT);clear zT;go_wp2_with fail;go_ret;exact⟨by rw [HE.out] <;> rfl,zS.out⟩
 have sH:(z==0)=false:=by rw [beq_eq_false_iff_ne];exact wZ
 have HE:=Qq (show Jq md f=z by unfold Jq;rw [<-HZ.out,if_pos wZ]);clear wZ;go_enter Tryz.func149,Tryz.ntmps149;go_wp2_with fail;refine(Ng _ md _ (HM.out.ext zL.out) zC.out).mono ?_;rintro e w1 ⟨rfl,zP⟩;rw [<-HZ.out];have zM:=Qq (zL.out.trans zP);clear zP;go_wp2_with fail;go_ret;exact⟨by rw [HE.out] <;> rfl,zM.out⟩
theorem Qx3 {w:World} {b:Nat} {a0 a1 a2 a3 a4 a5:Value} {t:TypeId}(h:w.heap[b]?=some (.cells #[a0,a1,a2,a3,a4,a5] t (0,0))):w.cell? ⟨b,0,none⟩=some a0/\w.cell? ⟨b,1,none⟩=some a1/\w.cell? ⟨b,3,none⟩=some a3/\b < w.heap.size :=
 ⟨by simp [World.cell?,h],by simp [World.cell?,h],by simp [World.cell?,h],Qn h⟩
theorem Qc3(vm:Value)(md:Md)(n:Nd)(x y:Nat)(w:World)(hm:Yz w vm md)(zO:md.ok)(zU:Qa md=0)(hn:Qkt md n)(hx:Qp x)(hy:Qp y):
 Calls Tryz.prog 193 #[vm,n.val,.int .u64 (x:Int),.int .u64 (y:Int)] w fun e w'=>e=.returned (.int .u64 ((Uo md n x y:Nat):Int))/\Qg w w':=by
 obtain⟨wH,yW,vA,gF,uZ,_,_⟩:=Zb zU;obtain⟨N,oV⟩:=Int.eq_ofNat_of_zero_le (show 0<=md.n by omega);have nN:md.n.toNat=N:=by rw [oV];exact Int.toNat_natCast N
 have HM:=Qq hm;have zC:=Qq zO;have yF:=Qq zU;have kB:=Qq hn;have yZ:=Qq hx;have aO:=Qq hy;obtain⟨vv,vr,rfl,hv,hr⟩:=hm;obtain⟨Av,cv,rfl,_,_,HV⟩:=Vl hv;obtain⟨Ar,cr,rfl,_,_,HR⟩:=Ut hr;have xI:N<=64:=by omega
 have vC:=Qq (show Uo md n x y=if n.op=3 then md.val.getD n.i.toNat 0 else if n.op<=8 then Gk n.op x y (Zn N)
  else if n.op=9 then Vg (md.rel.getD n.i.toNat []) N x
  else if n.op=10 then Jk (Zn N) (Vg (md.rel.getD n.i.toNat []) N (Jk (Zn N) x))
  else if n.op=11 then Vg ((List.range N).map (Jw md.rel n.g.toNat false N)) N x
  else if n.op=12 then Vg ((List.range N).map (Jw md.rel n.g.toNat true N)) N x
  else Xb ((List.range N).map (Jw md.rel n.g.toNat false N)) N x y by unfold Uo;rw [nN])
 have nR:=Qq (show ∀r∈md.rel,r.length=N from fun r hr=>by have:=uZ r hr;omega);have tU:=Qq oV;have rL:=Qq nN;rw [oV]at HM⊢;unfold Nd.val;have zK:=hn.op;clear zO zU hn hx hy hv hr wH yW uZ oV nN;obtain⟨W0,zB⟩:∃W,W=(w.alloc (.cells #[.int .i64 (N:Int),.slice Av md.val.length cv,.slice Ar md.rel.length cr] 26)).alloc (.cells #[.int .i64 n.op,.int .i64 n.i,.int .i64 n.e,.int .i64 n.g,.int .i64 n.x,.int .i64 n.y] 71):=⟨_,rfl⟩;have zL:=Qq (show Qg w W0 by rw [zB];exact(Qz.alloc _).alloc _);obtain⟨b,hb⟩:∃b,b=w.heap.size:=⟨_,rfl⟩;have SQ:=Qq (show W0.heap[b]?=some (.cells #[.int .i64 (N:Int),.slice Av md.val.length cv,.slice Ar md.rel.length cr] 26 (0,0)) by rw [zB,hb];exact((Qz.alloc _).block (by simp)).trans (heap_alloc_new _ _))
 have bO:=Qq (show W0.heap[b+1]?=some (.cells #[.int .i64 n.op,.int .i64 n.i,.int .i64 n.e,.int .i64 n.g,.int .i64 n.x,.int .i64 n.y] 71 (0,0)) by
  have h1:=heap_alloc_new (w.alloc (.cells #[.int .i64 (N:Int),.slice Av md.val.length cv,.slice Ar md.rel.length cr] 26)) (.cells #[.int .i64 n.op,.int .i64 n.i,.int .i64 n.e,.int .i64 n.g,.int .i64 n.x,.int .i64 n.y] 71);rw [zB,hb]
  simpa using h1)
 obtain⟨e0,e1,e2,eb⟩:=Zs SQ.out;obtain⟨c0,c1,c3,cb⟩:=Qx3 bO.out;go_enter Tryz.func193,Tryz.ntmps193;go_upto_region 1 with(fail);rw [<-zB,<-hb];clear zB hb;go_wp2_with fail;refine(Hz N xI _).mono ?_;rintro e w1 ⟨rfl,rfl⟩;by_cases h3:n.op=3
 ·obtain⟨h0,h8⟩:=Fe kB.out.head h3;obtain⟨k,hk⟩:=Int.eq_ofNat_of_zero_le h0;have xD:k < md.val.length:=by have:=kB.out.fact h3;omega
  have yT:(k:Int) < (md.val.length:Int):=by omega
  have HE:=Qq (show Uo md n x y=md.val.getD k 0 by rw [vC.out,if_pos h3,hk];rfl);obtain⟨ad,rfl,zV,hc⟩:=HV.out k xD;have a0:=(zL.out.cell (p:=ad.add k) (Qj zV)).trans hc;have al:(ad.add k).block < W0.heap.size:=by rw [Qt];exact Qy zV zL.out.size
  rw [hk]at c1;rw [h3]at c0;clear h0 h8 hk xD hc h3;go_wp2_with fail;go_ret;exact⟨by rw [HE.out] <;> rfl,zL.out⟩
 by_cases h8:n.op<=8
 ·have HE:=Qq (show Uo md n x y=Gk n.op x y (Zn N) by rw [vC.out,if_neg h3,if_pos h8]);have t3:(n.op==3)=false:=by simpa using h3
  clear h3;go_wp2_with fail;refine(Qrq n.op x y (Zn N) _ yZ.out aO.out (Vn xI)).mono ?_;rintro e w2 ⟨rfl,rfl⟩;go_wp2_with fail;go_ret;exact⟨by rw [HE.out] <;> rfl,zL.out⟩
 have HX:=zL;obtain⟨al,vS⟩:∃a,a=Zn N:=⟨_,rfl⟩;have nZ:=Qq vS;rw [<-vS];clear vS;by_cases h9:n.op=9
 ·obtain⟨h0,h4⟩:=Ki kB.out.head (by rw [h9];rfl);obtain⟨k,hk⟩:=Int.eq_ofNat_of_zero_le h0;have xD:k < md.rel.length:=by have:=kB.out.agent (by omega);omega
  have yT:(k:Int) < (md.rel.length:Int):=by omega
  have HE:=Qq (show Uo md n x y=Vg (md.rel.getD k []) N x by rw [vC.out,if_neg h3,if_neg h8,if_pos h9,hk];rfl);obtain⟨ad,u,rfl,zV,hc,hu⟩:=HR.out k xD;have HU:=Qq (hu.ext zL.out);have SH:=Qq (Sm zC.out.rel k);have yU:(md.rel.getD k []).length=N:=nR.out _ (by rw [Qk,Qv xD];exact List.getElem_mem xD);obtain⟨Au,cu,rfl,_⟩:=hu;rw [yU]at HU hc;have mI:=Qq yU;have a0:=(zL.out.cell (p:=ad.add k) (Qj zV)).trans hc;have adl:(ad.add k).block < W0.heap.size:=by rw [Qt];exact Qy zV zL.out.size
  rw [hk]at c1;rw [h9]at c0;clear h0 h4 hk xD hc h3 h8 h9 yU zK;go_upto_region 7 with(fail);refine wp_region_held_drew (S:=fun w'=>w'.cell? (⟨b,0,none⟩)=some (.int .i64 (N:Int))/\w'.cell? (⟨b,2,none⟩)=some (.slice (some ad) md.rel.length cr)/\w'.cell? (⟨b+1,1,none⟩)=some (.int .i64 (k:Int))/\w'.cell? (ad.add k)=some (.slice Au N cu)) (by kernel_rfl) ⟨xc eb e0,xc eb e2,xc cb c1,xc adl a0⟩ (fun zZ=> ?_);refine tk 0 zZ ?_;refine tk 1 zZ ?_;refine tk 2 zZ ?_;refine tk 3 zZ ?_;refine tk 4 zZ ?_;refine tk 5 zZ ?_;refine tk 6 zZ ?_;refine tk 7 zZ ?_;refine tk 8 zZ ?_;refine wpAnyH_ready (rs:= [9]) (by kernel_rfl) (by simp) ?_
  refine AllReadyH.cons rfl (fun K hK=> ?_) AllReadyH.nil;go_simp;refine(Qj3 _ (md.rel.getD k []) N x _ (HU.out.ext xv) SH.out xI (by rw [mI.out];exact Nat.le_refl _) yZ.out).mono ?_;rintro e w3 ⟨rfl,yK⟩;have zF:Qg W0 w3:=Qg.trans xv yK;have zD:=Qq zF;clear yK;go_wp2_with fail;refine hK.out _ _ ⟨xc eb e0,xc eb e2,xc cb c1,xc adl a0⟩ (fun zZ=> ?_);clear hK K;refine Qd ?_;refine tk 10 zZ ?_;refine wpAnyH_done (by kernel_rfl) ?_ _;go_wp2_with fail;go_ret;exact⟨by rw [HE.out] <;> rfl,zL.out.trans zD.out⟩
 by_cases h9:n.op=10
 ·obtain⟨h0,h4⟩:=Ki kB.out.head (by rw [h9];rfl);obtain⟨k,hk⟩:=Int.eq_ofNat_of_zero_le h0;have xD:k < md.rel.length:=by have:=kB.out.agent (by omega);omega
  have yT:(k:Int) < (md.rel.length:Int):=by omega
  have HE:=Qq (show Uo md n x y=Jk al (Vg (md.rel.getD k []) N (Jk al x)) by rw [vC.out,if_neg h3,if_neg h8,if_neg (by omega),if_pos h9,hk,<-nZ.out];rfl);have rJ:=Vy (a:=al) (by rw [nZ.out];exact Vn xI) yZ.out;have SO:=Qq (show Qp (Jk al x)from Ub (by rw [nZ.out];exact Vn xI));have rS:=Vy (a:=al) (b:=Vg (md.rel.getD k []) N (Jk al x)) (by rw [nZ.out];exact Vn xI) (Ip xI);obtain⟨dx,NR⟩:∃d,d=Jk al x:=⟨_,rfl⟩;rw [<-NR]at HE rJ rS SO;obtain⟨bx,vL⟩:∃d,d=Vg (md.rel.getD k []) N dx:=⟨_,rfl⟩;rw [<-vL]at HE rS;have vW:=Qq vL
  obtain⟨dz,jO⟩:∃d,d=Jk al bx:=⟨_,rfl⟩;rw [<-jO]at HE rS;clear NR vL jO;obtain⟨ad,u,rfl,zV,hc,hu⟩:=HR.out k xD;have HU:=Qq (hu.ext zL.out);have SH:=Qq (Sm zC.out.rel k);have yU:(md.rel.getD k []).length=N:=nR.out _ (by rw [Qk,Qv xD];exact List.getElem_mem xD);obtain⟨Au,cu,rfl,_⟩:=hu;rw [yU]at HU hc;have mI:=Qq yU;have a0:=(zL.out.cell (p:=ad.add k) (Qj zV)).trans hc;have adl:(ad.add k).block < W0.heap.size:=by rw [Qt];exact Qy zV zL.out.size
  rw [hk]at c1;rw [h9]at c0;clear h0 h4 hk xD hc h3 h8 h9 yU zK;go_upto_region 9 with(fail);refine wp_region_held_drew (S:=fun w'=>w'.cell? (⟨b,0,none⟩)=some (.int .i64 (N:Int))/\w'.cell? (⟨b,2,none⟩)=some (.slice (some ad) md.rel.length cr)/\w'.cell? (⟨b+1,1,none⟩)=some (.int .i64 (k:Int))/\w'.cell? (ad.add k)=some (.slice Au N cu)) (by kernel_rfl) ⟨xc eb e0,xc eb e2,xc cb c1,xc adl a0⟩ (fun zZ=> ?_);refine tk 0 zZ ?_;refine tk 1 zZ ?_;refine tk 2 zZ ?_;refine tk 3 zZ ?_;refine tk 4 zZ ?_;refine tk 5 zZ ?_;refine tk 6 zZ ?_;refine tk 7 zZ ?_;refine tk 8 zZ ?_;refine tk 9 zZ ?_
  refine tk 10 zZ ?_;refine tk 11 zZ ?_;refine wpAnyH_ready (rs:= [12]) (by kernel_rfl) (by simp) ?_;refine AllReadyH.cons rfl (fun K hK=> ?_) AllReadyH.nil;go_simp;refine(Qj3 _ (md.rel.getD k []) N dx _ (HU.out.ext xv) SH.out xI (by rw [mI.out];exact Nat.le_refl _) SO.out).mono ?_;rintro e w3 ⟨rfl,yK⟩;have zF:Qg W0 w3:=Qg.trans xv yK;have zD:=Qq zF;rw [<-vW.out];clear yK;go_wp2_with fail;refine hK.out _ _ ⟨xc eb e0,xc eb e2,xc cb c1,xc adl a0⟩ (fun zZ=> ?_);clear hK K;refine Qd ?_;refine tk 13 zZ ?_;refine tk 14 zZ ?_;refine wpAnyH_done (by kernel_rfl) ?_ _;go_wp2_with fail
  go_ret;exact⟨by rw [HE.out] <;> rfl,zL.out.trans zD.out⟩
 have hg:=kB.out.group (by have:=(Dc n.op).1 kB.out.head.1;omega);obtain⟨gn,wC⟩:=Int.eq_ofNat_of_zero_le (show 0<=n.g by omega);have vK:1<=gn:=by omega
 have uP:gn < 2^md.rel.length:=by have:=hg.2;rw [wC]at this;exact this
 have cT:=Qq uP;have RW:n.g.toNat=gn:=by rw [wC];rfl
 rw [RW]at vC;rw [wC]at c3;have gX:=Qq (fun(meet:Bool)=>Qej zC.out (gn:=gn) (meet:=meet) xI);clear hg wC RW uP;by_cases uT:n.op=11
 ·have HE:=Qq (show Uo md n x y=Vg ((List.range N).map (Jw md.rel gn false N)) N x by rw [vC.out,if_neg h3,if_neg h8,if_neg (by omega),if_neg (by omega),if_pos uT]);rw [uT]at c0;clear h3 h8 uT zK;go_upto_region 11 with(fail);refine wp_region_held_drew (S:=fun w'=>w'.cell? (⟨b,0,none⟩)=some (.int .i64 (N:Int))/\w'.cell? (⟨b,1,none⟩)=some (.slice Av md.val.length cv)/\w'.cell? (⟨b,2,none⟩)=some (.slice Ar md.rel.length cr)/\w'.cell? (⟨b+1,3,none⟩)=some (.int .i64 (gn:Int))) (by kernel_rfl) ⟨xc eb e0,xc eb e1,xc eb e2,xc cb c3⟩ (fun zZ=> ?_);refine tk 0 zZ ?_;refine tk 1 zZ ?_;refine tk 2 zZ ?_
  refine tk 4 zZ ?_;refine tk 5 zZ ?_;refine tk 6 zZ ?_;refine wpAnyH_ready (rs:= [3]) (by kernel_rfl) (by simp) ?_;refine AllReadyH.cons rfl (fun K hK=> ?_) AllReadyH.nil;go_simp;refine(Qxa _ md gn _ (HM.out.ext (zL.out.trans xv)) zC.out yF.out vK cT.out).mono ?_;rintro e w3 ⟨u,rfl,yK,kZ⟩;have zF:Qg W0 w3:=Qg.trans xv yK;have zD:=Qq zF;rw [rL.out]at kZ;have PR:=Qq kZ;obtain⟨Au,cu,rfl⟩:=Qs kZ;rw [(gX.out false).1];clear yK kZ;go_wp2_with fail;refine hK.out _ _ ⟨xc eb e0,xc eb e1,xc eb e2,xc cb c3⟩ (fun zZ=> ?_);clear hK K;refine Qd ?_;refine wpAnyH_ready (rs:= [7]) (by kernel_rfl) (by simp) ?_
  refine AllReadyH.cons rfl (fun K hK=> ?_) AllReadyH.nil;go_simp;refine(Qj3 _ ((List.range N).map (Jw md.rel gn false N)) N x _ (by have h1:=PR.out.u64s;rw [(gX.out false).1]at h1;exact h1) (gX.out false).2 xI (by rw [(gX.out false).1];exact Nat.le_refl _) yZ.out).mono ?_;rintro e w4 ⟨rfl,yK⟩;have yE:Qg W0 w4:=zF.trans yK;have yN:=Qq yE;clear yK;go_wp2_with fail;refine hK.out _ _ ⟨xc eb e0,xc eb e1,xc eb e2,xc cb c3⟩ (fun zZ=> ?_);clear hK K;refine Qd ?_;refine tk 8 zZ ?_;refine wpAnyH_done (by kernel_rfl) ?_ _;go_wp2_with fail;go_ret;exact⟨by rw [HE.out] <;> rfl,zL.out.trans yN.out⟩
 by_cases uT:n.op=12
 ·have HE:=Qq (show Uo md n x y=Vg ((List.range N).map (Jw md.rel gn true N)) N x by rw [vC.out,if_neg h3,if_neg h8,if_neg (by omega),if_neg (by omega),if_neg (by omega),if_pos uT]);rw [uT]at c0;clear h3 h8 uT zK;go_upto_region 13 with(fail);refine wp_region_held_drew (S:=fun w'=>w'.cell? (⟨b,0,none⟩)=some (.int .i64 (N:Int))/\w'.cell? (⟨b,1,none⟩)=some (.slice Av md.val.length cv)/\w'.cell? (⟨b,2,none⟩)=some (.slice Ar md.rel.length cr)/\w'.cell? (⟨b+1,3,none⟩)=some (.int .i64 (gn:Int))) (by kernel_rfl) ⟨xc eb e0,xc eb e1,xc eb e2,xc cb c3⟩ (fun zZ=> ?_);refine tk 0 zZ ?_;refine tk 1 zZ ?_
  refine tk 2 zZ ?_;refine tk 4 zZ ?_;refine tk 5 zZ ?_;refine tk 6 zZ ?_;refine wpAnyH_ready (rs:= [3]) (by kernel_rfl) (by simp) ?_;refine AllReadyH.cons rfl (fun K hK=> ?_) AllReadyH.nil;go_simp;refine(Qhc _ md gn _ (HM.out.ext (zL.out.trans xv)) zC.out yF.out vK cT.out).mono ?_;rintro e w3 ⟨u,rfl,yK,kZ⟩;have zF:Qg W0 w3:=Qg.trans xv yK;have zD:=Qq zF;rw [rL.out]at kZ;have PR:=Qq kZ;obtain⟨Au,cu,rfl⟩:=Qs kZ;rw [(gX.out true).1];clear yK kZ;go_wp2_with fail;refine hK.out _ _ ⟨xc eb e0,xc eb e1,xc eb e2,xc cb c3⟩ (fun zZ=> ?_);clear hK K;refine Qd ?_
  refine wpAnyH_ready (rs:= [7]) (by kernel_rfl) (by simp) ?_;refine AllReadyH.cons rfl (fun K hK=> ?_) AllReadyH.nil;go_simp;refine(Qj3 _ ((List.range N).map (Jw md.rel gn true N)) N x _ (by have h1:=PR.out.u64s;rw [(gX.out true).1]at h1;exact h1) (gX.out true).2 xI (by rw [(gX.out true).1];exact Nat.le_refl _) yZ.out).mono ?_;rintro e w4 ⟨rfl,yK⟩;have yE:Qg W0 w4:=zF.trans yK;have yN:=Qq yE;clear yK;go_wp2_with fail;refine hK.out _ _ ⟨xc eb e0,xc eb e1,xc eb e2,xc cb c3⟩ (fun zZ=> ?_);clear hK K;refine Qd ?_;refine tk 8 zZ ?_;refine wpAnyH_done (by kernel_rfl) ?_ _;go_wp2_with fail
  go_ret;exact⟨by rw [HE.out] <;> rfl,zL.out.trans yN.out⟩
 have HE:=Qq (show Uo md n x y=Xb ((List.range N).map (Jw md.rel gn false N)) N x y by rw [vC.out,if_neg h3,if_neg h8,if_neg (by omega),if_neg (by omega),if_neg (by omega),if_neg (by omega)]);have t13:n.op=13:=by have:=(Dc n.op).1 kB.out.head.1;omega
 rw [t13]at c0;clear h3 h8 t13 zK;go_upto_region 14 with(fail);refine wp_region_held_drew (S:=fun w'=>w'.cell? (⟨b,0,none⟩)=some (.int .i64 (N:Int))/\w'.cell? (⟨b,1,none⟩)=some (.slice Av md.val.length cv)/\w'.cell? (⟨b,2,none⟩)=some (.slice Ar md.rel.length cr)/\w'.cell? (⟨b+1,3,none⟩)=some (.int .i64 (gn:Int))) (by kernel_rfl) ⟨xc eb e0,xc eb e1,xc eb e2,xc cb c3⟩ (fun zZ=> ?_);refine tk 0 zZ ?_;refine tk 1 zZ ?_;refine tk 2 zZ ?_;refine tk 4 zZ ?_;refine tk 5 zZ ?_;refine tk 6 zZ ?_;refine tk 7 zZ ?_;refine wpAnyH_ready (rs:= [3]) (by kernel_rfl) (by simp) ?_;refine AllReadyH.cons rfl (fun K hK=> ?_) AllReadyH.nil
 go_simp;refine(Qxa _ md gn _ (HM.out.ext (zL.out.trans xv)) zC.out yF.out vK cT.out).mono ?_;rintro e w3 ⟨u,rfl,yK,kZ⟩;have zF:Qg W0 w3:=Qg.trans xv yK;have zD:=Qq zF;rw [rL.out]at kZ;have PR:=Qq kZ;obtain⟨Au,cu,rfl⟩:=Qs kZ;rw [(gX.out false).1];clear yK kZ;go_wp2_with fail;refine hK.out _ _ ⟨xc eb e0,xc eb e1,xc eb e2,xc cb c3⟩ (fun zZ=> ?_);clear hK K;refine Qd ?_;refine wpAnyH_ready (rs:= [8]) (by kernel_rfl) (by simp) ?_;refine AllReadyH.cons rfl (fun K hK=> ?_) AllReadyH.nil;go_simp;refine(Qdz _ ((List.range N).map (Jw md.rel gn false N)) N x y _ (by have h1:=PR.out.u64s;rw [(gX.out false).1]at h1;exact h1) (gX.out false).2 xI (by rw [(gX.out false).1];exact Nat.le_refl _) yZ.out aO.out).mono ?_
 rintro e w4 ⟨rfl,yK⟩;have yE:Qg W0 w4:=zF.trans yK;have yN:=Qq yE;clear yK;go_wp2_with fail;refine hK.out _ _ ⟨xc eb e0,xc eb e1,xc eb e2,xc cb c3⟩ (fun zZ=> ?_);clear hK K;refine Qd ?_;refine tk 9 zZ ?_;refine wpAnyH_done (by kernel_rfl) ?_ _;go_wp2_with fail;go_ret;exact⟨by rw [HE.out] <;> rfl,zL.out.trans yN.out⟩
theorem Qk9 {w w4:World} {c:Obj} {r:Option Nat} {b:Nat}(hg:(w.alloc c).grownBy w4 r)(hr:r≠some b)(hb:b < w.heap.size):w4.heap[b]?=w.heap[b]? :=
 (hg.block b (by simp;omega) (fun e=>hr e.symm)).trans (((Qg.refl w).alloc c).block hb)
theorem Fp {w w4:World} {p:Addr}(h:w4.heap[p.block]?=w.heap[p.block]?):w4.cell? p=w.cell? p:=by
 unfold World.cell?;rw [h]
end Go.Proofs.YtkmclcmnoicagaaGreatDoor
