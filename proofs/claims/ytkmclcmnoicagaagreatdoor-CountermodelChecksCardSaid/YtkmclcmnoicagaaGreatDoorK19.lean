/- The reference's properties of relations, and the conditions of a logic on a model. -/
import Derived.Test.YtkmclcmnoicagaaGreatDoorK17
import Derived.Test.YtkmclcmnoicagaaGreatDoorK18
namespace Go.Proofs.YtkmclcmnoicagaaGreatDoor
set_option maxRecDepth 100000
set_option maxHeartbeats 128000000
open Go.RowKit
theorem Qpx(v:Value)(l:List Nat)(q:Int)(w:World)(h:Jb w v l)(hw:∀s∈l,Qp s)(h0:0 < l.length)(hq:q=1\/q=2\/q=4\/q=5):
 Calls Tryz.prog 109 #[v,.int .i64 q] w fun e w'=>∃b:Bool,e=.returned (.bool b)/\Ext w w'/\(b=true↔Xq l=true/\Kz q l):=by
 have H:=Qq h;have HW:=Qq hw;obtain⟨A,c,rfl,JZ,xI,HL⟩:=Vp h;unfold maxLen at xI;obtain⟨iU,sK,xC,xB,xA⟩:=info_parts De;clear h hw;cases hv:Xq l
 ·have HV:=Qq hv;clear hv;go_enter Tryz.func109,Tryz.ntmps109;go_wp2_with fail;refine(Dw _ l _ H.out HW.out).mono ?_;rintro e w2 ⟨rfl,zS⟩;rw [HV.out];have zR:=Qq zS;clear zS;go_wp2_with fail;go_ret
  first
  |exact⟨false,rfl,zR.out,by simp⟩
  |exact⟨.inl ⟨rfl,by simp⟩,zR.out⟩
  |exact .inl ⟨rfl,zR.out,by simp⟩
  |exact⟨rfl,zR.out,by simp⟩
 have HV:=Qq hv;have rZ:=(Fq.1 hv).1;obtain⟨ad,rfl,zU,_⟩:=HL.out 0 h0;obtain⟨n,hn⟩:∃n,n=l.length:=⟨_,rfl⟩;have HN:=Qq hn;clear hv;have gI:=Qq (show ∀i,i < l.length->w.cell? (ad.add i)=some (.int .u64 ((l.getD i 0:Nat):Int))from fun i hi=>by
  obtain⟨ad2,e,_,hc⟩:=HL.out i hi;injection e with e;subst e;exact hc)
 rw [<-hn]at H rZ h0⊢;have uY:0+n<=maxLen:=by unfold maxLen;omega
 have xM:(0+n)*8<=140737488355328:=by omega
 clear hn HL;rcases hq with rfl|rfl|rfl|rfl
 ·skip
  go_enter Tryz.func109,Tryz.ntmps109;go_wp2_with fail;refine(Dw _ l _ H.out HW.out).mono ?_;rintro e w2 ⟨rfl,zS⟩;rw [HV.out];have zR:=Qq zS;have tK:=Qq (show ∀(j:Nat) u,(uV l)[j]?=some u->(w2.alloc (.cells #[] 41)).cell? (ad.add j)=some u from Dy fun i hi=>((zS.alloc _).cell (p:=ad.add i) (Qj zU)).trans (gI.out i hi));have rT:=Qq (Rk w2 41);clear zS;go_wp2_with(at_builtin;refine wpList_append_own_at _ rfl _ _ 23 rfl w2.heap.size 41 iU (.int .u64 0) 1 8 Tryz.underlying23 sK xC xB xA rfl (by decide) _ 0 [] rfl rT.out ad n c (uV l) rfl (by rw [Hj,Nat.mul_one];exact HN.out.symm) tK.out (Hy l) uY xM (by simp) ?_)
  intro v3 w3 xX yH _ _;have zC:=Qq (show Ext w w3 from(zR.out.alloc _).grown yH (fun k hk=>by have h1:=zR.out.size;have h2:w2.heap.size=k:=Option.some.inj hk;omega));have HM:=Qq (show Zx w.heap.size w3 v3 l by
   unfold Zx;rw [<-HN.out];exact Kt xX zR.out.size)
  clear xX yH;obtain⟨g,cap,rfl,xO,uE,_,US,_,_⟩:=HM.out.slice (by rw [<-HN.out];exact h0);rw [<-HN.out]at HM⊢;clear xO;go_wp2_with fail;go_loopw [6] (fun v wr=>∃k:Nat,v=.int .i64 (k:Int)/\k<=n/\Hid (Ext w3 wr/\∀j,j < k->l.getD j 0≠0)) (fun v _=>n - (intOf v).toNat)
  case atStart=>exact⟨0,rfl,Nat.zero_le _,Qq ⟨Qz,fun j hj=>absurd hj (by omega)⟩⟩
  case round =>
   obtain⟨k,rfl,hk,zY⟩:=hrel;have HX:=Qq zY.out.1;have HJ:=Qq zY.out.2;have yY:=Qq (zC.out.trans HX.out);clear zY;by_cases hlt2:k < n
   ·have yP:(k:Int) < (n:Int):=by omega
    have a0:=(yY.out.cell (p:=ad.add k) (Qj zU)).trans (gI.out k (by rw [<-HN.out];exact hlt2));have al:(ad.add k).block < wr.heap.size:=by rw [Qr];exact Qy zU yY.out.size
    have zA:=Qq (show l.getD k 0≠0->∀j,j < k+1->l.getD j 0≠0 from fun h=>Dg (P:=fun j=>l.getD j 0≠0) HJ.out h);have tM:=Qq (show l.getD k 0=0->¬Kz 1 l from fun h hp=>by
     unfold Kz at hp;rw [if_pos rfl]at hp;exact hp k (by rw [<-HN.out];exact hlt2) h)
    obtain⟨x,hx⟩:∃x,x=l.getD k 0:=⟨_,rfl⟩;rw [<-hx]at a0 zA tM;clear hx;by_cases hz:x=0
    ·have sJ:((x:Int)==0)=true:=by rw [hz];rfl
     have HE:=Qq (tM.out hz);clear hz;go_wp2_with fail;go_ret
     first
     |exact⟨false,rfl,yY.out,iff_of_false (by decide) fun h=>HE.out h.2⟩
     |exact .inl ⟨rfl,yY.out,fun _=>HE.out⟩
     |exact .inl ⟨rfl,yY.out,fun h=>absurd h HE.out⟩
    have sJ:((x:Int)==0)=false:=by rw [beq_eq_false_iff_ne];omega
    have HP:=Qq (zA.out hz);clear hz;go_wp2_with fail;go_roundw
    case rel=>exact⟨k+1,by go_num,by omega,Qq ⟨HX.out,HP.out⟩⟩
    case measure=>simp [intOf];omega
   obtain rfl:n=k:=by omega
   have HP:=Qq (show Kz 1 l by
    unfold Kz;rw [if_pos rfl,<-HN.out];exact HJ.out)
   go_wp2_with fail;refine(Pt _ _ l l _ (HM.out.u64s.ext HX.out) (H.out.ext yY.out)).mono ?_;rintro e w5 ⟨rfl,xF⟩;rw [decide_eq_true (show l=l from rfl)];have yE:=Qq (yY.out.trans xF);clear xF;go_wp2_with fail;go_ret
   first
   |exact⟨true,rfl,yE.out,iff_of_true rfl ⟨HV.out,HP.out⟩⟩
   |exact⟨true,rfl,yE.out,iff_of_true rfl ⟨trivial,HP.out⟩⟩
 ·skip
  go_enter Tryz.func109,Tryz.ntmps109;go_wp2_with fail;refine(Dw _ l _ H.out HW.out).mono ?_;rintro e w2 ⟨rfl,zS⟩;rw [HV.out];have zR:=Qq zS;have tK:=Qq (show ∀(j:Nat) u,(uV l)[j]?=some u->(w2.alloc (.cells #[] 41)).cell? (ad.add j)=some u from Dy fun i hi=>((zS.alloc _).cell (p:=ad.add i) (Qj zU)).trans (gI.out i hi));have rT:=Qq (Rk w2 41);clear zS;go_wp2_with(at_builtin;refine wpList_append_own_at _ rfl _ _ 23 rfl w2.heap.size 41 iU (.int .u64 0) 1 8 Tryz.underlying23 sK xC xB xA rfl (by decide) _ 0 [] rfl rT.out ad n c (uV l) rfl (by rw [Hj,Nat.mul_one];exact HN.out.symm) tK.out (Hy l) uY xM (by simp) ?_)
  intro v3 w3 xX yH _ _;have zC:=Qq (show Ext w w3 from(zR.out.alloc _).grown yH (fun k hk=>by have h1:=zR.out.size;have h2:w2.heap.size=k:=Option.some.inj hk;omega));have HM:=Qq (show Zx w.heap.size w3 v3 l by
   unfold Zx;rw [<-HN.out];exact Kt xX zR.out.size)
  clear xX yH;obtain⟨g,cap,rfl,xO,uE,_,US,_,_⟩:=HM.out.slice (by rw [<-HN.out];exact h0);rw [<-HN.out]at HM⊢;clear xO;go_wp2_with fail;refine(Qk8 _ l _ (H.out.ext zC.out) HW.out HV.out (by rw [<-HN.out];exact h0)).mono ?_;rintro e w4 ⟨u,rfl,yD,oD⟩;have yI:=Qq (zC.out.trans yD);have fR:=Qq oD;obtain⟨out,yC⟩:∃o,o=Nk l l.length:=⟨_,rfl⟩;have mY:=Qq (show out=l↔Kz 2 l by rw [yC,Qc5];unfold Kz;rw [if_neg (by decide),if_pos rfl]);rw [<-yC]at fR oD;clear yC yD;obtain⟨Au,cu,rfl,_⟩:=oD.u64s;clear oD;go_wp2_with fail;refine(Pt _ _ out l _ fR.out.u64s (H.out.ext yI.out)).mono ?_
  rintro e w5 ⟨rfl,xF⟩;have yE:=Qq (yI.out.trans xF);clear xF;cases hd:decide (out=l)
  ·have HE:=Qq (show ¬Kz 2 l from fun h=>of_decide_eq_false hd (mY.out.2 h));clear hd;go_wp2_with fail;go_ret
   first
   |exact⟨false,rfl,yE.out,iff_of_false (by decide) fun h=>HE.out h.2⟩
   |exact .inl ⟨rfl,yE.out,fun _=>HE.out⟩
  have HE:=Qq (show Kz 2 l from mY.out.1 (of_decide_eq_true hd));clear hd;go_wp2_with fail;go_ret
  first
  |exact⟨true,rfl,yE.out,iff_of_true rfl ⟨HV.out,HE.out⟩⟩
  |exact⟨true,rfl,yE.out,iff_of_true rfl ⟨trivial,HE.out⟩⟩
 ·skip
  go_enter Tryz.func109,Tryz.ntmps109;go_wp2_with fail;refine(Dw _ l _ H.out HW.out).mono ?_;rintro e w2 ⟨rfl,zS⟩;rw [HV.out];have zR:=Qq zS;have tK:=Qq (show ∀(j:Nat) u,(uV l)[j]?=some u->(w2.alloc (.cells #[] 41)).cell? (ad.add j)=some u from Dy fun i hi=>((zS.alloc _).cell (p:=ad.add i) (Qj zU)).trans (gI.out i hi));have rT:=Qq (Rk w2 41);clear zS;go_wp2_with(at_builtin;refine wpList_append_own_at _ rfl _ _ 23 rfl w2.heap.size 41 iU (.int .u64 0) 1 8 Tryz.underlying23 sK xC xB xA rfl (by decide) _ 0 [] rfl rT.out ad n c (uV l) rfl (by rw [Hj,Nat.mul_one];exact HN.out.symm) tK.out (Hy l) uY xM (by simp) ?_)
  intro v3 w3 xX yH _ _;have zC:=Qq (show Ext w w3 from(zR.out.alloc _).grown yH (fun k hk=>by have h1:=zR.out.size;have h2:w2.heap.size=k:=Option.some.inj hk;omega));have HM:=Qq (show Zx w.heap.size w3 v3 l by
   unfold Zx;rw [<-HN.out];exact Kt xX zR.out.size)
  clear xX yH;obtain⟨g,cap,rfl,xO,uE,_,US,_,_⟩:=HM.out.slice (by rw [<-HN.out];exact h0);rw [<-HN.out]at HM⊢;clear xO;go_wp2_with fail;refine(Qvw _ l _ (H.out.ext zC.out) HW.out HV.out (by rw [<-HN.out];exact h0)).mono ?_;rintro e w4 ⟨u,rfl,yD,out,oD,NF⟩;have yI:=Qq (zC.out.trans yD);have fR:=Qq oD;have mY:=Qq (show out=l↔Kz 4 l by rw [NF];unfold Kz;rw [if_neg (by decide),if_neg (by decide),if_pos rfl]);clear yD NF;obtain⟨Au,cu,rfl,_⟩:=oD.u64s;clear oD;go_wp2_with fail;refine(Pt _ _ out l _ fR.out.u64s (H.out.ext yI.out)).mono ?_;rintro e w5 ⟨rfl,xF⟩
  have yE:=Qq (yI.out.trans xF);clear xF;cases hd:decide (out=l)
  ·have HE:=Qq (show ¬Kz 4 l from fun h=>of_decide_eq_false hd (mY.out.2 h));clear hd;go_wp2_with fail;go_ret
   first
   |exact⟨false,rfl,yE.out,iff_of_false (by decide) fun h=>HE.out h.2⟩
   |exact .inl ⟨rfl,yE.out,fun _=>HE.out⟩
  have HE:=Qq (show Kz 4 l from mY.out.1 (of_decide_eq_true hd));clear hd;go_wp2_with fail;go_ret
  first
  |exact⟨true,rfl,yE.out,iff_of_true rfl ⟨HV.out,HE.out⟩⟩
  |exact⟨true,rfl,yE.out,iff_of_true rfl ⟨trivial,HE.out⟩⟩
 skip
 go_enter Tryz.func109,Tryz.ntmps109;go_wp2_with fail;refine(Dw _ l _ H.out HW.out).mono ?_;rintro e w2 ⟨rfl,zS⟩;rw [HV.out];have zR:=Qq zS;have tK:=Qq (show ∀(j:Nat) u,(uV l)[j]?=some u->(w2.alloc (.cells #[] 41)).cell? (ad.add j)=some u from Dy fun i hi=>((zS.alloc _).cell (p:=ad.add i) (Qj zU)).trans (gI.out i hi));have rT:=Qq (Rk w2 41);clear zS;go_wp2_with(at_builtin;refine wpList_append_own_at _ rfl _ _ 23 rfl w2.heap.size 41 iU (.int .u64 0) 1 8 Tryz.underlying23 sK xC xB xA rfl (by decide) _ 0 [] rfl rT.out ad n c (uV l) rfl (by rw [Hj,Nat.mul_one];exact HN.out.symm) tK.out (Hy l) uY xM (by simp) ?_)
 intro v3 w3 xX yH _ _;have zC:=Qq (show Ext w w3 from(zR.out.alloc _).grown yH (fun k hk=>by have h1:=zR.out.size;have h2:w2.heap.size=k:=Option.some.inj hk;omega));have HM:=Qq (show Zx w.heap.size w3 v3 l by
  unfold Zx;rw [<-HN.out];exact Kt xX zR.out.size)
 clear xX yH;obtain⟨g,cap,rfl,xO,uE,_,US,_,_⟩:=HM.out.slice (by rw [<-HN.out];exact h0);rw [<-HN.out]at HM⊢;clear xO;go_wp2_with fail;refine(Qkg _ l _ (H.out.ext zC.out) HW.out HV.out (by rw [<-HN.out];exact h0)).mono ?_;rintro e w4 ⟨u,rfl,yD,out,oD,NF⟩;have yI:=Qq (zC.out.trans yD);have fR:=Qq oD;have mY:=Qq (show out=l↔Kz 5 l by rw [NF];unfold Kz;rw [if_neg (by decide),if_neg (by decide),if_neg (by decide)]);clear yD NF;obtain⟨Au,cu,rfl,_⟩:=oD.u64s;clear oD;go_wp2_with fail;refine(Pt _ _ out l _ fR.out.u64s (H.out.ext yI.out)).mono ?_;rintro e w5 ⟨rfl,xF⟩
 have yE:=Qq (yI.out.trans xF);clear xF;cases hd:decide (out=l)
 ·have HE:=Qq (show ¬Kz 5 l from fun h=>of_decide_eq_false hd (mY.out.2 h));clear hd;go_wp2_with fail;go_ret
  first
  |exact⟨false,rfl,yE.out,iff_of_false (by decide) fun h=>HE.out h.2⟩
  |exact .inl ⟨rfl,yE.out,fun _=>HE.out⟩
 have HE:=Qq (show Kz 5 l from mY.out.1 (of_decide_eq_true hd));clear hd;go_wp2_with fail;go_ret
 first
 |exact⟨true,rfl,yE.out,iff_of_true rfl ⟨HV.out,HE.out⟩⟩
 |exact⟨true,rfl,yE.out,iff_of_true rfl ⟨trivial,HE.out⟩⟩
theorem Ln(w:World)(l:List Int)(t:TypeId)(hl:l.length<=10):Bc (w.alloc (.cells (l.map (Value.int .i64)).toArray t)) (.slice (some ⟨w.heap.size,0,none⟩) l.length l.length) l:=by
 refine⟨_,_,rfl,Nat.le_refl _,by unfold maxLen;omega,fun _=>⟨_,rfl,by simp,fun k z hk=> ?_⟩⟩;have h1:=heap_alloc_new w (.cells (l.map (Value.int .i64)).toArray t);rw [Fr];have h2:(w.alloc (.cells (l.map (Value.int .i64)).toArray t)).heap[w.heap.size]?=some (Obj.cells (l.map (Value.int .i64)).toArray t (0,0)):=h1;simp only [World.cell?,h2];rw [List.getElem?_toArray,List.getElem?_map,hk];rfl
theorem Ee(lg:Int)(w:World):
 Calls Tryz.prog 44 #[.int .i64 lg] w fun e w'=>∃v,e=.returned (.tuple #[v,.int .i64 (p15 lg)])/\Ext w w'/\Hid (p15 lg=0->Bc w' v (Gg lg)):=by
 by_cases hc:0<=lg/\lg<=6
 ·have yS:lg=0\/lg=1\/lg=2\/lg=3\/lg=4\/lg=5\/lg=6:=by omega
  clear hc;rcases yS with rfl|rfl|rfl|rfl|rfl|rfl|rfl
  all_goals
   go_enter Tryz.func44,Tryz.ntmps44;go_wp2_with fail;go_ret2
   first
   |exact⟨_,rfl,Qz,Qq fun _=>Bc.none_ _⟩
   |exact⟨_,rfl,Qz.alloc _,Qq fun _=>Ln w [1] _ (by decide)⟩
   |exact⟨_,rfl,Qz.alloc _,Qq fun _=>Ln w [2] _ (by decide)⟩
   |exact⟨_,rfl,Qz.alloc _,Qq fun _=>Ln w [4] _ (by decide)⟩
   |exact⟨_,rfl,Qz.alloc _,Qq fun _=>Ln w [2,4] _ (by decide)⟩
   |exact⟨_,rfl,Qz.alloc _,Qq fun _=>Ln w [1,4,5] _ (by decide)⟩
   |exact⟨_,rfl,Qz.alloc _,Qq fun _=>Ln w [2,4,5] _ (by decide)⟩
 have h0:(lg==0)=false:=by rw [beq_eq_false_iff_ne];omega
 have h1:(lg==1)=false:=by rw [beq_eq_false_iff_ne];omega
 have h2:(lg==2)=false:=by rw [beq_eq_false_iff_ne];omega
 have h3:(lg==3)=false:=by rw [beq_eq_false_iff_ne];omega
 have h4:(lg==4)=false:=by rw [beq_eq_false_iff_ne];omega
 have h5:(lg==5)=false:=by rw [beq_eq_false_iff_ne];omega
 have h6:(lg==6)=false:=by rw [beq_eq_false_iff_ne];omega
 have HC:=Qq (show p15 lg=1 from if_neg hc);clear hc;go_enter Tryz.func44,Tryz.ntmps44;go_wp2_with fail;go_ret2;exact⟨_,by rw [HC.out] <;> rfl,Qz,Qq fun e=>by rw [HC.out]at e;cases e⟩
theorem Qa1 {w:World} {A:Option Addr} {c k:Nat} {l:List Int}(h:Qqy w A c l)(hk:k < l.length):∃ad,A=some ad/\ad.block < w.heap.size/\w.cell? (ad.add k)=some (.int .i64 (l.getD k 0)):=by
 obtain⟨ad,e,hl,hc⟩:=h.2.2 (by intro e;rw [e]at hk;simp at hk);exact⟨ad,e,hl,hc k _ (by rw [Qk,Qv hk];rfl)⟩
theorem Qpg(v:Value)(l:List Nat)(lg:Int)(w:World)(h:Jb w v l)(hw:∀s∈l,Qp s)(h0:0 < l.length)(xY:0<=lg/\lg<=6)(hv:Xq l=true):
 Calls Tryz.prog 46 #[v,.int .i64 lg] w fun e w'=>∃b:Bool,e=.returned (.bool b)/\Ext w w'/\Hid (b=true↔Bo lg l):=by
 have H:=Qq h;have HW:=Qq hw;have dA:=Qq (show p15 lg=0 from if_pos xY);have HV:=Qq hv;obtain⟨A,c,rfl,_⟩:=h;clear hw xY hv;go_enter Tryz.func46,Tryz.ntmps46;go_wp2_with fail;refine(Ee lg _).mono ?_;rintro e w2 ⟨vp,rfl,zS,hi⟩;rw [dA.out];obtain⟨Ap,cp,rfl,S6⟩:=hi.out dA.out;have iZ:=Qq S6;have zR:=Qq zS;have lU:=Qc0 lg;obtain⟨ps,vP⟩:∃ps,ps=Gg lg:=⟨_,rfl⟩;have pP:=Qq vP;rw [<-vP]at iZ lU⊢;clear hi S6 zS vP;go_wp2_with fail;refine(Dw _ l _ (H.out.ext zR.out) HW.out).mono ?_;rintro e w3 ⟨rfl,zI⟩;rw [HV.out];have zC:=Qq zI;have yY:=Qq (zR.out.trans zI)
 clear zI;go_wp2_with fail;go_loopw [7] (fun v wr=>∃k:Nat,v=.int .i64 (k:Int)/\k<=ps.length/\Hid (Ext w3 wr/\∀j,j < k->Kz (ps.getD j 0) l)) (fun v _=>ps.length - (intOf v).toNat)
 case atStart=>exact⟨0,rfl,Nat.zero_le _,Qq ⟨Qz,fun j hj=>absurd hj (by omega)⟩⟩
 case round =>
  obtain⟨k,rfl,hk,zY⟩:=hrel;have HX:=Qq zY.out.1;have HJ:=Qq zY.out.2;clear zY;by_cases hlt2:k < ps.length
  ·have yP:(k:Int) < (ps.length:Int):=by omega
   obtain⟨ad,rfl,zU,hc⟩:=Qa1 iZ.out hlt2;have a0:=((zC.out.trans HX.out).cell (p:=ad.add k) (Qj zU)).trans hc;have al:(ad.add k).block < wr.heap.size:=by rw [Qr];exact Qy zU (zC.out.trans HX.out).size
   have zA:=Qq (show Kz (ps.getD k 0) l->∀j,j < k+1->Kz (ps.getD j 0) l from fun h=>Dg (P:=fun j=>Kz (ps.getD j 0) l) HJ.out h);have pR:=Qq (show ps.getD k 0∈Gg lg by rw [<-pP.out,Qk,Qv hlt2];exact List.getElem_mem hlt2);obtain⟨q,hq⟩:∃q,q=ps.getD k 0:=⟨_,rfl⟩;rw [<-hq]at a0 zA pR;have HQ:=Qq (Qzf pR.out);clear hc hq;go_wp2_with fail;refine(Qpx _ l q _ (H.out.ext (yY.out.trans HX.out)) HW.out h0 HQ.out).mono ?_;rintro e w4 ⟨b,rfl,yD,hb⟩;have yI:=Qq (HX.out.trans yD);have HB:=Qq hb;clear yD hb;cases b
   ·have HE:=Qq (show ¬Bo lg l from fun h=>absurd (HB.out.2 ⟨HV.out,h q pR.out⟩) (by decide));go_wp2_with fail;go_ret
    first
    |exact⟨false,rfl,yY.out.trans yI.out,Qq (iff_of_false (by decide) HE.out)⟩
    |exact .inl ⟨rfl,yY.out.trans yI.out,Qq (iff_of_false (by decide) HE.out)⟩
   have HP:=Qq (zA.out (HB.out.1 rfl).2);go_wp2_with fail;go_roundw
   case rel=>exact⟨k+1,by go_num,by omega,Qq ⟨yI.out,HP.out⟩⟩
   case measure=>simp [intOf];omega
  obtain rfl:ps.length=k:=by omega
  have HE:=Qq (show Bo lg l from fun q hq=>by
   rw [<-pP.out]at hq;obtain⟨j,hj,e⟩:=List.getElem_of_mem hq;have:=HJ.out j hj;rw [Qk,Qv hj]at this;have h2:Kz ps[j] l:=this;rw [e]at h2;exact h2)
  go_wp2_with fail;go_ret
  first
  |exact⟨true,rfl,yY.out.trans HX.out,Qq (iff_of_true rfl HE.out)⟩
  |exact .inr ⟨rfl,yY.out.trans HX.out,Qq (iff_of_true rfl HE.out)⟩
theorem Qao(v:Value)(md:Md)(lg:Int)(w:World)(h:MdV w v md)(zO:md.ok):
 Calls Tryz.prog 15 #[v,.int .i64 lg] w fun e w'=>∃b:Bool,e=.returned (.bool b)/\Ext w w'/\Hid (b=true↔Fd md lg):=by
 have H:=Qq h;have zD:=Qq zO;obtain⟨vv,vr,rfl,hv,hr⟩:=h;obtain⟨Av,cv,rfl,_⟩:=hv;obtain⟨Ar,cr,rfl,dV,TH,HR⟩:=Ge hr;unfold maxLen at TH;obtain⟨n,hn⟩:∃n,n=md.n:=⟨_,rfl⟩;have HN:=Qq hn;rw [<-hn]at H⊢;have zK:=Qq (show Ext w (w.alloc (.cells #[.int .i64 n,.slice Av md.val.length cv,.slice Ar md.rel.length cr] 26))from Qz.alloc _);have vV:=Qq (show(w.alloc (.cells #[.int .i64 n,.slice Av md.val.length cv,.slice Ar md.rel.length cr] 26)).heap[w.heap.size]?=some (.cells #[.int .i64 n,.slice Av md.val.length cv,.slice Ar md.rel.length cr] 26 (0,0))from heap_alloc_new _ _);clear hr zO hn;by_cases xY:0<=lg/\lg<=6
 ·have dA:=Qq (show p15 lg=0 from if_pos xY);have mC:=Qq xY;clear xY;obtain⟨z,hz⟩:∃z,z=Zq md:=⟨_,rfl⟩;have HZ:=Qq hz;clear hz;go_enter Tryz.func15,Tryz.ntmps15;go_wp2_with fail;refine(Ee lg _).mono ?_;rintro e w2 ⟨vp,rfl,zS,hi⟩;rw [dA.out];obtain⟨Ap,cp,rfl,_⟩:=hi.out dA.out;have zR:=Qq (zK.out.trans zS);have rV:=Qq ((zS.block (Qf vV.out)).trans vV.out);obtain⟨e0,e1,e2,eb⟩:=Zt rV.out;clear hi zS;go_wp2_with fail;refine(Dl _ md _ (H.out.ext zR.out) zD.out).mono ?_;rintro e w3 ⟨rfl,zI⟩;rw [<-HZ.out];have zC:=Qq (zR.out.trans zI);have qB:=Qq ((zI.block (Qf rV.out)).trans rV.out)
  clear zI e0 e1 e2 eb;by_cases zB:z=0
  ·subst zB;have xV:=Qq (show Zq md=0 from HZ.out.symm);obtain⟨rl,wC⟩:∃l,l=md.rel:=⟨_,rfl⟩;have PF:=Qq wC;have fL:=Qq (show ∀r∈rl,∀s∈r,Qp s by rw [wC];exact zD.out.rel);have K0:=Qq (show ∀r∈rl,Xq r=true/\0 < r.length by rw [wC];exact fun r hr=>Qzd xV.out hr);rw [<-wC]at HR qB dV⊢;clear wC vV rV;go_wp2_with fail;go_loopw [7] (fun v wr=>∃k:Nat,v=.int .i64 (k:Int)/\k<=rl.length/\Hid (Ext w3 wr/\∀j,j < k->Bo lg (rl.getD j []))) (fun v _=>rl.length - (intOf v).toNat)
   case atStart=>exact⟨0,rfl,Nat.zero_le _,Qq ⟨Qz,fun j hj=>absurd hj (by omega)⟩⟩
   case round =>
    obtain⟨k,rfl,hk,zY⟩:=hrel;have HX:=Qq zY.out.1;have HJ:=Qq zY.out.2;have yY:=Qq (zC.out.trans HX.out);obtain⟨e0,e1,e2,eb⟩:=Zt ((HX.out.block (Qf qB.out)).trans qB.out);clear zY;by_cases hlt2:k < rl.length
    ·have yP:(k:Int) < (rl.length:Int):=by omega
     obtain⟨ad,u,rfl,zU,hc,hu⟩:=HR.out k hlt2;have HU:=Qq (hu.ext yY.out);have pR:=Qq (show rl.getD k []∈rl by rw [Qk,Qv hlt2];exact List.getElem_mem hlt2);obtain⟨Au,cu,rfl,_⟩:=hu;have a0:=(yY.out.cell (p:=ad.add k) (Qj zU)).trans hc;have al:(ad.add k).block < wr.heap.size:=by rw [Qr];exact Qy zU yY.out.size
     have zA:=Qq (show Bo lg (rl.getD k [])->∀j,j < k+1->Bo lg (rl.getD j [])from fun h=>Dg (P:=fun j=>Bo lg (rl.getD j [])) HJ.out h);obtain⟨r,hr⟩:∃r,r=rl.getD k []:=⟨_,rfl⟩;rw [<-hr]at a0 zA pR HU;have Z1:=Qq (K0.out r pR.out);clear hc hr;go_wp2_with fail;refine(Qpg _ r lg _ HU.out (fL.out r pR.out) Z1.out.2 mC.out Z1.out.1).mono ?_;rintro e w4 ⟨b,rfl,yD,hb⟩;have yI:=Qq (HX.out.trans yD);have HB:=Qq hb.out;clear yD hb e0 e1 e2 eb;cases b
     ·have HE:=Qq (show ¬Fd md lg from fun h=>absurd (HB.out.2 (h.rel r (by rw [<-PF.out];exact pR.out))) (by decide));go_wp2_with fail;go_ret
      first
      |exact⟨false,rfl,zC.out.trans yI.out,Qq (iff_of_false (by decide) HE.out)⟩
      |exact .inl ⟨rfl,zC.out.trans yI.out,Qq (iff_of_false (by decide) HE.out)⟩
     have HP:=Qq (zA.out (HB.out.1 rfl));go_wp2_with fail;go_roundw
     case rel=>exact⟨k+1,by go_num,by omega,Qq ⟨yI.out,HP.out⟩⟩
     case measure=>simp [intOf];omega
    obtain rfl:rl.length=k:=by omega
    have HE:=Qq (show Fd md lg from⟨mC.out,xV.out,fun r hr=>by
     rw [<-PF.out]at hr;obtain⟨j,hj,e⟩:=List.getElem_of_mem hr;have:=HJ.out j hj;rw [Qk,Qv hj]at this;have h2:Bo lg rl[j]:=this;rw [e]at h2;exact h2⟩)
    go_wp2_with fail;go_ret
    first
    |exact⟨true,rfl,yY.out,Qq (iff_of_true rfl HE.out)⟩
    |exact .inr ⟨rfl,yY.out,Qq (iff_of_true rfl HE.out)⟩
  have HE:=Qq (show ¬Fd md lg from fun h=>zB (HZ.out.trans h.ck));have sJ:(z==0)=false:=by rw [beq_eq_false_iff_ne];exact zB
  clear zB;go_wp2_with fail;go_ret
  first
  |exact⟨false,rfl,zC.out,Qq (iff_of_false (by decide) HE.out)⟩
  |exact .inl ⟨rfl,zC.out,Qq (iff_of_false (by decide) HE.out)⟩
 have dA:=Qq (show p15 lg=1 from if_neg xY);have HE:=Qq (show ¬Fd md lg from fun h=>xY h.lgr);clear xY;go_enter Tryz.func15,Tryz.ntmps15;go_wp2_with fail;refine(Ee lg _).mono ?_;rintro e w2 ⟨vp,rfl,zS,hi⟩;rw [dA.out];have zR:=Qq (zK.out.trans zS);clear hi zS;go_wp2_with fail;go_ret
 first
 |exact⟨false,rfl,zR.out,Qq (iff_of_false (by decide) HE.out)⟩
 |exact .inl ⟨rfl,zR.out,Qq (iff_of_false (by decide) HE.out)⟩
theorem Qgb(meet:Bool)(v:Value)(md:Md)(gn:Nat)(w:World)(h:MdV w v md)(zO:md.ok)(zT:Zq md=0)(vL:1<=gn)(hg:gn < 2^md.rel.length):
 Calls Tryz.prog 222 #[v,.int .i64 (gn:Int),.bool meet] w fun e w'=>∃u,e=.returned u/\Ext w w'/\Zx w.heap.size w' u ((List.range md.n.toNat).map (Yz md.rel gn meet md.n.toNat)):=by
 have H:=Qq h;have zD:=Qq zO;have xV:=Qq zT;obtain⟨vR,yN,uC,_,uX,_,_⟩:=Zn zT;obtain⟨iU,sK,xC,xB,xA⟩:=info_parts De;obtain⟨vv,vr,rfl,hv,hr⟩:=h;obtain⟨Av,cv,rfl,_⟩:=hv;obtain⟨Ar,cr,rfl,dV,TH,HR⟩:=Ge hr;obtain⟨n,uM⟩:=Int.eq_ofNat_of_zero_le (show 0<=md.n by omega);rw [uM]at vR yN H uX⊢;have cK:((n:Nat):Int).toNat=n:=Int.toNat_natCast n;rw [cK];have eE:n<=64:=by omega
 have uO:=decide_eq_false (Qzs uC hg);have NP:decide ((gn:Int) < 1)=false:=decide_eq_false (by omega);have wD:min md.rel.length 64=md.rel.length:=by omega
 obtain⟨rl,wC⟩:∃l,l=md.rel:=⟨_,rfl⟩;have fL:=Qq (show ∀r∈rl,∀s∈r,Qp s by rw [wC];exact zO.rel);have bD:=Qq (show ∀r∈rl,r.length=n by rw [wC];exact fun r hr=>by have:=uX r hr;omega);rw [<-wC]at HR dV uC uO wD⊢;have zK:=Qq (show Ext w (w.alloc (.cells #[.int .i64 (n:Int),.slice Av md.val.length cv,.slice Ar rl.length cr] 26))from Qz.alloc _);have vV:=Qq (show(w.alloc (.cells #[.int .i64 (n:Int),.slice Av md.val.length cv,.slice Ar rl.length cr] 26)).heap[w.heap.size]?=some (.cells #[.int .i64 (n:Int),.slice Av md.val.length cv,.slice Ar rl.length cr] 26 (0,0))from heap_alloc_new _ _)
 have H2:=Qq (show MdV w (.agg #[.int .i64 (n:Int),.slice Av md.val.length cv,.slice Ar rl.length cr]) md by rw [wC];exact H.out);clear hr zO zT uM wC hg uX cK H vL;go_enter Tryz.func222,Tryz.ntmps222;go_wp2_with fail;refine(Dl _ md _ (H2.out.ext zK.out) zD.out).mono ?_;rintro e w1 ⟨rfl,zN⟩;rw [xV.out];have zL:=Qq (zK.out.trans zN);have wJ:=Qq ((zN.block (Qf vV.out)).trans vV.out);obtain⟨e0,e1,e2,eb⟩:=Zt wJ.out;obtain⟨b,hb⟩:∃b,b=w.heap.size:=⟨_,rfl⟩;rw [<-hb]at e0 e1 e2 eb wJ⊢;have hH:=Qq hb;clear zN vV hb;go_wp2_with fail;clear e0 e1 e2 eb;go_loopw [7,8] (fun vo vi wr=>∃i:Nat,vi=.int .i64 (i:Int)/\i<=n/\Hid (Ext w1 wr/\Zx w1.heap.size wr vo ((List.range i).map (Yz rl gn meet n)))) (fun _ v _=>n - (intOf v).toNat)
 case atStart=>exact⟨0,rfl,Nat.zero_le _,Qq ⟨Qz,Zx.nil _ _⟩⟩
 case round =>
  obtain⟨i,rfl,hi,zY⟩:=hrel;have sZ:=Qq zY.out.1;have tJ:=Qq zY.out.2;obtain⟨out,yC⟩:∃o,o=(List.range i).map (Yz rl gn meet n):=⟨_,rfl⟩;have tG:out.length<=n:=by rw [yC];simpa using hi
  have lB:=Qq yC;rw [<-yC]at tJ;obtain⟨Ax,cx,rfl⟩:=Qs tJ.out;obtain⟨e0,e1,e2,eb⟩:=Zt ((sZ.out.block (Qf wJ.out)).trans wJ.out);clear zY yC;by_cases hlt2:i < n
  ·have yP:(i:Int) < (n:Int):=by omega
   obtain⟨wq,vD⟩:∃v,v=wr:=⟨_,rfl⟩;subst vD;cases meet
   ·skip
    go_wp2_with fail;clear e0 e1 e2 eb;go_loopw [9,10] (fun vs vi wr=>∃a:Nat,vi=.int .i64 (a:Int)/\a<=rl.length/\∃s:Nat,vs=.int .u64 (s:Int)/\Hid (s=(List.range a).foldl (Fk rl gn false i) 0/\Ext wq wr)) (fun _ v _=>rl.length - (intOf v).toNat)
    case atStart=>exact⟨0,rfl,Nat.zero_le _,0,rfl,Qq ⟨rfl,Qz⟩⟩
    case round =>
     obtain⟨a,rfl,ha,s,rfl,zY⟩:=hrel;have mA:=Qq zY.out.1;have tI:=Qq zY.out.2;have HX:=Qq (sZ.out.trans tI.out);have pM:=Qq (show Qp s by rw [mA.out];exact Ft (fun s a h=>Hh fL.out h) _ _ (show(0:Nat) < _ by omega));obtain⟨e0,e1,e2,eb⟩:=Zt ((HX.out.block (Qf wJ.out)).trans wJ.out);clear zY;by_cases yK:a < rl.length
     ·have wM:(a:Int) < (rl.length:Int):=by omega
      have eF:min a 64=a:=by omega
      obtain⟨ad,u,rfl,zU,yS,hu⟩:=HR.out a yK;have yQ:(rl.getD a []).length=n:=bD.out _ (by rw [Qk,Qv yK];exact List.getElem_mem yK);obtain⟨Au,cu,rfl,_,_,HU⟩:=Vp hu;rw [yQ]at yS HU;obtain⟨ud,rfl,tU,rX⟩:=HU.out i hlt2;have rQ:=Qq (zL.out.trans HX.out);have a0:=(rQ.out.cell (p:=ad.add a) (Qj zU)).trans yS;have al:(ad.add a).block < wr.heap.size:=by rw [Qr];exact Qy zU rQ.out.size
      have u0:=(rQ.out.cell (p:=ud.add i) (Qj tU)).trans rX;have ul:(ud.add i).block < wr.heap.size:=by rw [Qr];exact Qy tU rQ.out.size
      have tP:=Dn gn a;have zV:=Xw pM.out (Yr (Rl fL.out a) i);have yX:=Qq (show(List.range (a+1)).foldl (Fk rl gn false i) 0=if gn.testBit a then s|||(rl.getD a []).getD i 0 else s by rw [Ve,<-mA.out];rfl);obtain⟨x,hx⟩:∃x,x=(rl.getD a []).getD i 0:=⟨_,rfl⟩;rw [<-hx]at u0 zV yX;obtain⟨z,hz⟩:∃z,z=s|||x:=⟨_,rfl⟩;rw [<-hz]at zV yX;clear yS rX hx hz yQ hu;cases yB:gn.testBit a
      ·rw [yB]at tP yX;clear yB;go_wp2_with fail;go_roundw
       case rel=>exact⟨a+1,by go_num,by omega,s,rfl,Qq ⟨by rw [yX.out];rfl,tI.out⟩⟩
       case measure=>simp [intOf];omega
      rw [yB]at tP yX;clear yB;go_wp2_with fail;go_roundw
      case rel=>exact⟨a+1,by go_num,by omega,z,rfl,Qq ⟨by rw [yX.out];rfl,tI.out⟩⟩
      case measure=>simp [intOf];omega
     obtain rfl:rl.length=a:=by omega
     have IQ:=Qq (show Yz rl gn false n i=s by rw [mA.out];rfl);have xN:out.length+1<=maxLen:=by unfold maxLen;omega
     have xJ:(out.length+1)*8<=140737488355328:=by omega
     have pW:=Qq (tJ.out.ext tI.out);have rQ:=Qq (zL.out.trans HX.out);go_wp2_with(at_builtin;refine wpList_append_own_at _ rfl _ _ 23 rfl w1.heap.size 41 iU (.int .u64 0) 1 8 Tryz.underlying23 sK xC xB xA rfl (by decide) _ out.length (uV out) rfl (Zf pW.out (Qz.alloc _)) ⟨_,0,none⟩ 1 1 [.int .u64 (s:Int)] rfl rfl (Zm _ _ _ (by simp)) (fun u hu=>by rw [List.mem_singleton.1 hu];rfl) xN xJ (Qx HX.out.size (by simp)) ?_);intro v7 w7 zW zX _ _;have rS:=Qq (show Ext w1 w7 from(HX.out.alloc _).grown zX (fun k hk=>(pW.out.lt k hk).1));have qA:=Qq (show Zx w1.heap.size w7 v7 ((List.range (i+1)).map (Yz rl gn false n)) by
      rw [Qyf,<-lB.out,IQ.out];unfold Zx uV;rw [List.map_append,List.length_append];exact zW)
     obtain⟨A7,c7,rfl⟩:=Qs zW;clear zW zX;go_wp2_with fail;go_roundw
     case rel=>exact⟨i+1,by go_num,by omega,Qq ⟨rS.out,qA.out⟩⟩
     case measure=>simp [intOf];omega
   skip
   go_wp2_with fail;refine(Ps n eE _).mono ?_;rintro e w2 ⟨rfl,rfl⟩;go_wp2_with fail;clear e0 e1 e2 eb;go_loopw [9,10] (fun vs vi wr=>∃a:Nat,vi=.int .i64 (a:Int)/\a<=rl.length/\∃s:Nat,vs=.int .u64 (s:Int)/\Hid (s=(List.range a).foldl (Fk rl gn true i) (Zs n)/\Ext wq wr)) (fun _ v _=>rl.length - (intOf v).toNat)
   case atStart=>exact⟨0,rfl,Nat.zero_le _,Zs n,rfl,Qq ⟨rfl,Qz⟩⟩
   case round =>
    obtain⟨a,rfl,ha,s,rfl,zY⟩:=hrel;have mA:=Qq zY.out.1;have tI:=Qq zY.out.2;have HX:=Qq (sZ.out.trans tI.out);have pM:=Qq (show Qp s by rw [mA.out];exact Ft (fun s a h=>Hh fL.out h) _ _ (Vl eE));obtain⟨e0,e1,e2,eb⟩:=Zt ((HX.out.block (Qf wJ.out)).trans wJ.out);clear zY;by_cases yK:a < rl.length
    ·have wM:(a:Int) < (rl.length:Int):=by omega
     have eF:min a 64=a:=by omega
     obtain⟨ad,u,rfl,zU,yS,hu⟩:=HR.out a yK;have yQ:(rl.getD a []).length=n:=bD.out _ (by rw [Qk,Qv yK];exact List.getElem_mem yK);obtain⟨Au,cu,rfl,_,_,HU⟩:=Vp hu;rw [yQ]at yS HU;obtain⟨ud,rfl,tU,rX⟩:=HU.out i hlt2;have rQ:=Qq (zL.out.trans HX.out);have a0:=(rQ.out.cell (p:=ad.add a) (Qj zU)).trans yS;have al:(ad.add a).block < wr.heap.size:=by rw [Qr];exact Qy zU rQ.out.size
     have u0:=(rQ.out.cell (p:=ud.add i) (Qj tU)).trans rX;have ul:(ud.add i).block < wr.heap.size:=by rw [Qr];exact Qy tU rQ.out.size
     have tP:=Dn gn a;have zV:=Xz pM.out (Yr (Rl fL.out a) i);have yX:=Qq (show(List.range (a+1)).foldl (Fk rl gn true i) (Zs n)=if gn.testBit a then s&&&(rl.getD a []).getD i 0 else s by rw [Ve,<-mA.out];rfl);obtain⟨x,hx⟩:∃x,x=(rl.getD a []).getD i 0:=⟨_,rfl⟩;rw [<-hx]at u0 zV yX;obtain⟨z,hz⟩:∃z,z=s&&&x:=⟨_,rfl⟩;rw [<-hz]at zV yX;clear yS rX hx hz yQ hu;cases yB:gn.testBit a
     ·rw [yB]at tP yX;clear yB;go_wp2_with fail;go_roundw
      case rel=>exact⟨a+1,by go_num,by omega,s,rfl,Qq ⟨by rw [yX.out];rfl,tI.out⟩⟩
      case measure=>simp [intOf];omega
     rw [yB]at tP yX;clear yB;go_wp2_with fail;go_roundw
     case rel=>exact⟨a+1,by go_num,by omega,z,rfl,Qq ⟨by rw [yX.out];rfl,tI.out⟩⟩
     case measure=>simp [intOf];omega
    obtain rfl:rl.length=a:=by omega
    have IQ:=Qq (show Yz rl gn true n i=s by rw [mA.out];rfl);have xN:out.length+1<=maxLen:=by unfold maxLen;omega
    have xJ:(out.length+1)*8<=140737488355328:=by omega
    have pW:=Qq (tJ.out.ext tI.out);have rQ:=Qq (zL.out.trans HX.out);go_wp2_with(at_builtin;refine wpList_append_own_at _ rfl _ _ 23 rfl w1.heap.size 41 iU (.int .u64 0) 1 8 Tryz.underlying23 sK xC xB xA rfl (by decide) _ out.length (uV out) rfl (Zf pW.out (Qz.alloc _)) ⟨_,0,none⟩ 1 1 [.int .u64 (s:Int)] rfl rfl (Zm _ _ _ (by simp)) (fun u hu=>by rw [List.mem_singleton.1 hu];rfl) xN xJ (Qx HX.out.size (by simp)) ?_);intro v7 w7 zW zX _ _;have rS:=Qq (show Ext w1 w7 from(HX.out.alloc _).grown zX (fun k hk=>(pW.out.lt k hk).1));have qA:=Qq (show Zx w1.heap.size w7 v7 ((List.range (i+1)).map (Yz rl gn true n)) by
     rw [Qyf,<-lB.out,IQ.out];unfold Zx uV;rw [List.map_append,List.length_append];exact zW)
    obtain⟨A7,c7,rfl⟩:=Qs zW;clear zW zX;go_wp2_with fail;go_roundw
    case rel=>exact⟨i+1,by go_num,by omega,Qq ⟨rS.out,qA.out⟩⟩
    case measure=>simp [intOf];omega
  obtain rfl:n=i:=by omega
  go_wp2_with fail;go_ret;exact⟨_,rfl,zL.out.trans sZ.out,by rw [<-lB.out];exact Kt tJ.out zL.out.size⟩
theorem Qk9(v:Value)(md:Md)(gn:Nat)(w:World)(h:MdV w v md)(zO:md.ok)(zT:Zq md=0)(vL:1<=gn)(hg:gn < 2^md.rel.length):
 Calls Tryz.prog 214 #[v,.int .i64 (gn:Int)] w fun e w'=>∃u,e=.returned u/\Ext w w'/\Zx w.heap.size w' u ((List.range md.n.toNat).map (Yz md.rel gn false md.n.toNat)):=by
 have H:=Qq h;have HO:=Qq zO;have HC:=Qq zT;have HG:=Qq hg;obtain⟨vv,vr,rfl,⟨Av,cv,rfl,_⟩,⟨Ar,cr,rfl,_⟩⟩:=h;clear zO zT hg;go_enter Tryz.func214,Tryz.ntmps214;go_wp2_with fail;refine(Qgb false _ md gn _ (H.out.ext (Qz.alloc _)) HO.out HC.out vL HG.out).mono ?_;rintro e w1 ⟨u,rfl,hx,hm⟩;have HX:=Qq (((Ext.refl w).alloc _).trans hx);have HM:=Qq (show Zx w.heap.size w1 u _ from Kt hm (by simp));clear hx hm;go_wp2_with fail;go_ret;exact⟨u,rfl,HX.out,HM.out⟩
theorem Qc7(v:Value)(md:Md)(gn:Nat)(w:World)(h:MdV w v md)(zO:md.ok)(zT:Zq md=0)(vL:1<=gn)(hg:gn < 2^md.rel.length):
 Calls Tryz.prog 215 #[v,.int .i64 (gn:Int)] w fun e w'=>∃u,e=.returned u/\Ext w w'/\Zx w.heap.size w' u ((List.range md.n.toNat).map (Yz md.rel gn true md.n.toNat)):=by
 have H:=Qq h;have HO:=Qq zO;have HC:=Qq zT;have HG:=Qq hg;obtain⟨vv,vr,rfl,⟨Av,cv,rfl,_⟩,⟨Ar,cr,rfl,_⟩⟩:=h;clear zO zT hg;go_enter Tryz.func215,Tryz.ntmps215;go_wp2_with fail;refine(Qgb true _ md gn _ (H.out.ext (Qz.alloc _)) HO.out HC.out vL HG.out).mono ?_;rintro e w1 ⟨u,rfl,hx,hm⟩;have HX:=Qq (((Ext.refl w).alloc _).trans hx);have HM:=Qq (show Zx w.heap.size w1 u _ from Kt hm (by simp));clear hx hm;go_wp2_with fail;go_ret;exact⟨u,rfl,HX.out,HM.out⟩
theorem Ew(v:Value)(l:List Nd)(w:World)(h:Fml w v l)(zT:check l=0):
 Calls Tryz.prog 47 #[v] w fun e w'=>e=.returned (.int .i64 ((Jr (Qg l):Nat):Int))/\Ext w w':=by
 have H:=Qq h;have HH:=Qq (Jf zT).2.2.2;clear h zT;go_enter Tryz.func47,Tryz.ntmps47;go_wp2_with fail;refine(Rh _ l _ H.out).mono ?_;rintro e w1 ⟨u,rfl,hm⟩;have HX:=Qq hm.2.2;obtain⟨A,c,rfl,xR,yO,zM⟩:=hm.fml.1;unfold maxLen at yO;have HR:=Qq zM;obtain⟨cl,yS⟩:∃cl,cl=Qg l:=⟨_,rfl⟩;have tX:=Qq yS;rw [<-yS]at HR xR HH;rw [<-yS];clear hm zM yS;go_wp2_with fail;go_loopw [4,5] (fun out i wr=>∃k:Nat,k<=cl.length/\i=.int .i64 k/\∃m:Nat,out=.int .i64 (m:Int)/\Hid (m=Jr (cl.take k)/\Ext w1 wr)) (fun _ i _=>cl.length - (intOf i).toNat)
 case atStart=>exact⟨0,Nat.zero_le _,rfl,0,rfl,Qq ⟨rfl,Qz⟩⟩
 case round =>
  obtain⟨k,hk,rfl,m,rfl,zY⟩:=hrel;have WJ:=Qq zY.out.1;have zR:=Qq zY.out.2;clear zY;by_cases hlt2:k < cl.length
  ·have yP:(k:Int) < (cl.length:Int):=by omega
   obtain⟨a,ha⟩:∃a,cl[k]?=some a:=⟨_,Qv hlt2⟩;obtain⟨ad,rfl,yT,xS⟩:=HR.out (by intro e;rw [e]at hlt2;simp at hlt2);obtain⟨a0,a1,a2,a3,a4,a5⟩:=(xS k a ha).keep fun p hp=>zR.out.cell (p:=p) (by rw [hp,Qr];exact yT)
   have yW:(ad.add (k*6)).block < wr.heap.size:=by rw [Qr];exact Qy yT zR.out.size
   have HO:=Qq (HH.out a (List.mem_of_getElem? ha));have zA:=Qq (show Jr (cl.take (k+1))=agS m a by rw [WJ.out,Kk ha];unfold Jr;rw [List.foldl_append];rfl);have jE:m < 2^4:=by rw [WJ.out];exact Nb _ _ (fun n hn=>HH.out n (List.mem_of_mem_take hn)) (by decide)
   clear ha xS;obtain⟨gn,vY⟩:=Int.eq_ofNat_of_zero_le (Ue HO.out).1;have UK:gn < 16:=by have:=(Ue HO.out).2;omega
   rw [vY]at a3;have mZ:=Qq vY;clear vY;cases vH:Qo a.op
   ·have yX:=Qq (show agS m a=m|||gn by unfold agS;rw [vH,mZ.out];simp);have uL:=Bi m gn (by omega) (by omega);obtain⟨z,hz⟩:∃z,z=m|||gn:=⟨_,rfl⟩;rw [<-hz]at uL yX;have hO:=Qq vH;clear hz vH;go_wp2_with fail;refine(Ce a.op _).mono ?_;rintro e w2 ⟨rfl,rfl⟩;rw [hO.out];go_wp2_with fail;go_roundw
    case rel=>exact⟨k+1,by omega,by go_num,z,rfl,Qq ⟨by rw [zA.out,yX.out],zR.out⟩⟩
    case measure=>simp [intOf];omega
   obtain⟨h0,h4⟩:=Kw HO.out vH;obtain⟨ai,nK⟩:=Int.eq_ofNat_of_zero_le h0;have EQ:ai < 4:=by omega
   have wD:min ai 64=ai:=by omega
   rw [nK]at a1;have TP:2^ai < 16:=Qy (Nat.pow_lt_pow_right (by decide) EQ) (Nat.le_refl _);have yX:=Qq (show agS m a=(m|||2^ai)|||gn by unfold agS;rw [vH,mZ.out,nK];rfl);have TR:bits .or .i64 (m:Int) (wrap64 ((2:Int)^ai))=((m|||2^ai:Nat):Int):=by
    rw [Df (by omega)];exact Bi m (2^ai) (by omega) (by omega)
   have xM:m|||2^ai < 2^4:=Nat.or_lt_two_pow jE TP;have LY:=Bi (m|||2^ai) gn (by omega) (by omega);obtain⟨y,hy⟩:∃y,y=m|||2^ai:=⟨_,rfl⟩;rw [<-hy]at TR LY yX;obtain⟨z,hz⟩:∃z,z=y|||gn:=⟨_,rfl⟩;rw [<-hz]at LY yX;have hO:=Qq vH;clear hy hz vH h0 h4 nK TP xM;go_wp2_with fail;refine(Ce a.op _).mono ?_;rintro e w2 ⟨rfl,rfl⟩;rw [hO.out];go_wp2_with fail;go_roundw
   case rel=>exact⟨k+1,by omega,by go_num,z,rfl,Qq ⟨by rw [zA.out,yX.out],zR.out⟩⟩
   case measure=>simp [intOf];omega
  obtain rfl:cl.length=k:=by omega
  have HE:=Qq (show Jr cl=m by rw [WJ.out,List.take_of_length_le (Nat.le_refl _)]);go_wp2_with fail;go_ret;exact⟨by rw [<-tX.out,HE.out] <;> rfl,HX.out.trans zR.out⟩
theorem Ib(v:Value)(l:List Nd)(w:World)(h:Fml w v l)(zT:check l=0):
 Calls Tryz.prog 48 #[v] w fun e w'=>e=.returned (.int .i64 ((Yy (Qg l):Nat):Int))/\Ext w w':=by
 have H:=Qq h;have HH:=Qq (Jf zT).2.2.2;clear h zT;go_enter Tryz.func48,Tryz.ntmps48;go_wp2_with fail;refine(Rh _ l _ H.out).mono ?_;rintro e w1 ⟨u,rfl,hm⟩;have HX:=Qq hm.2.2;obtain⟨A,c,rfl,xR,yO,zM⟩:=hm.fml.1;unfold maxLen at yO;have HR:=Qq zM;obtain⟨cl,yS⟩:∃cl,cl=Qg l:=⟨_,rfl⟩;have tX:=Qq yS;rw [<-yS]at HR xR HH;rw [<-yS];clear hm zM yS;go_wp2_with fail;go_loopw [4,5] (fun out i wr=>∃k:Nat,k<=cl.length/\i=.int .i64 k/\∃m:Nat,out=.int .i64 (m:Int)/\Hid (m=Yy (cl.take k)/\Ext w1 wr)) (fun _ i _=>cl.length - (intOf i).toNat)
 case atStart=>exact⟨0,Nat.zero_le _,rfl,0,rfl,Qq ⟨rfl,Qz⟩⟩
 case round =>
  obtain⟨k,hk,rfl,m,rfl,zY⟩:=hrel;have WJ:=Qq zY.out.1;have zR:=Qq zY.out.2;clear zY;by_cases hlt2:k < cl.length
  ·have yP:(k:Int) < (cl.length:Int):=by omega
   obtain⟨a,ha⟩:∃a,cl[k]?=some a:=⟨_,Qv hlt2⟩;obtain⟨ad,rfl,yT,xS⟩:=HR.out (by intro e;rw [e]at hlt2;simp at hlt2);obtain⟨a0,a1,a2,a3,a4,a5⟩:=(xS k a ha).keep fun p hp=>zR.out.cell (p:=p) (by rw [hp,Qr];exact yT)
   have yW:(ad.add (k*6)).block < wr.heap.size:=by rw [Qr];exact Qy yT zR.out.size
   have HO:=Qq (HH.out a (List.mem_of_getElem? ha));have zA:=Qq (show Yy (cl.take (k+1))=faS m a by rw [WJ.out,Kk ha];unfold Yy;rw [List.foldl_append];rfl);have jE:m < 2^8:=by rw [WJ.out];exact Sg _ _ (fun n hn=>HH.out n (List.mem_of_mem_take hn)) (by decide)
   clear ha xS;by_cases h3:a.op=3
   ·obtain⟨h0,h8⟩:=Fm HO.out h3;obtain⟨ai,nK⟩:=Int.eq_ofNat_of_zero_le h0;have OI:ai < 8:=by omega
    have wD:min ai 64=ai:=by omega
    rw [nK]at a1;rw [h3]at a0;have hp8:2^ai < 256:=Qy (Nat.pow_lt_pow_right (by decide) OI) (Nat.le_refl _);have yX:=Qq (show faS m a=m|||2^ai by unfold faS;rw [if_pos h3,nK];rfl);have TR:bits .or .i64 (m:Int) (wrap64 ((2:Int)^ai))=((m|||2^ai:Nat):Int):=by
     rw [Df OI];exact Bi m (2^ai) (by omega) (by omega)
    obtain⟨z,hz⟩:∃z,z=m|||2^ai:=⟨_,rfl⟩;rw [<-hz]at TR yX;clear hz h0 h8 nK hp8 h3;go_wp2_with fail;go_roundw
    case rel=>exact⟨k+1,by omega,by go_num,z,rfl,Qq ⟨by rw [zA.out,yX.out],zR.out⟩⟩
    case measure=>simp [intOf];omega
   have t3:(a.op==3)=false:=by simpa using h3
   have yX:=Qq (show faS m a=m by unfold faS;rw [if_neg h3]);clear h3;go_wp2_with fail;go_roundw
   case rel=>exact⟨k+1,by omega,by go_num,m,rfl,Qq ⟨by rw [zA.out,yX.out],zR.out⟩⟩
   case measure=>simp [intOf];omega
  obtain rfl:cl.length=k:=by omega
  have HE:=Qq (show Yy cl=m by rw [WJ.out,List.take_of_length_le (Nat.le_refl _)]);go_wp2_with fail;go_ret;exact⟨by rw [<-tX.out,HE.out] <;> rfl,HX.out.trans zR.out⟩
theorem Qg0(v:Value)(f:List Nd)(a b:Nat)(w:World)(h:Fml w v f):
 Calls Tryz.prog 16 #[v,.int .i64 (a:Int),.int .i64 (b:Int)] w fun e w'=>e=.returned (.bool (Yc f a b))/\Ext w w':=by
 have H:=Qq h;obtain⟨A,c,rfl,_⟩:=Qh h;clear h;obtain⟨z,hz⟩:∃z,z=check f:=⟨_,rfl⟩;have HZ:=Qq hz;clear hz;by_cases zB:z=0
 ·subst zB;have xV:=Qq (show check f=0 from HZ.out.symm);have WU:=Qq (show Yc f a b=((List.range 4).all (Xj a (Jr (Qg f)))&&(List.range 8).all (Xj b (Yy (Qg f)))) by unfold Yc;rw [<-HZ.out];rfl);obtain⟨ma,aC⟩:∃m,m=Jr (Qg f):=⟨_,rfl⟩;obtain⟨mf,cM⟩:∃m,m=Yy (Qg f):=⟨_,rfl⟩;rw [<-aC,<-cM]at WU;have YV:=Qq aC;have GZ:=Qq cM;clear aC cM;go_enter Tryz.func16,Tryz.ntmps16;go_wp2_with fail;refine(Gf _ f _ H.out.1).mono ?_;rintro e w1 ⟨rfl,zN⟩;rw [xV.out];have zL:=Qq zN;clear zN;go_wp2_with fail;go_loopw [7] (fun v wr=>∃k:Nat,v=.int .i64 (k:Int)/\k<=4/\Hid (Ext w wr/\∀j,j < k->Xj a ma j=true)) (fun v _=>4 - (intOf v).toNat)
  case atStart=>exact⟨0,rfl,Nat.zero_le _,Qq ⟨zL.out,fun j hj=>absurd hj (by omega)⟩⟩
  case round =>
   obtain⟨k,rfl,hk,zY⟩:=hrel;have HX:=Qq zY.out.1;have HJ:=Qq zY.out.2;clear zY;by_cases hlt2:k < 4
   ·have yP:(k:Int) < 4:=by omega
    have wD:min k 64=k:=by omega
    have tP:=Dn ma k;have zA:=Qq (show Xj a ma k=true->∀j,j < k+1->Xj a ma j=true from fun h=>Dg (P:=fun j=>Xj a ma j=true) HJ.out h);have tM:=Qq (show Xj a ma k=false->Yc f a b=false from fun h=>by rw [WU.out,Qbx hlt2 h];rfl);cases yB:ma.testBit k
    ·rw [yB]at tP;have HP:=Qq (zA.out (by unfold Xj;rw [yB];rfl));clear yB;go_wp2_with fail;refine(Ew _ f _ (H.out.ext HX.out) xV.out).mono ?_;rintro e w2 ⟨rfl,zS⟩;rw [<-YV.out];have zR:=Qq (HX.out.trans zS);clear zS;go_wp2_with fail;go_roundw
     case rel=>exact⟨k+1,by go_num,by omega,Qq ⟨zR.out,HP.out⟩⟩
     case measure=>simp [intOf];omega
    rw [yB]at tP;by_cases hka:k < a
    ·have HP:=Qq (zA.out (by unfold Xj;rw [yB,decide_eq_true hka];rfl));have UD:decide ((a:Int)<=(k:Int))=false:=decide_eq_false (by omega);have UC:decide (a<=k)=false:=decide_eq_false (by omega);clear yB;go_wp2_with fail;refine(Ew _ f _ (H.out.ext HX.out) xV.out).mono ?_;rintro e w2 ⟨rfl,zS⟩;rw [<-YV.out];have zR:=Qq (HX.out.trans zS);clear zS;go_wp2_with fail;go_roundw
     case rel=>exact⟨k+1,by go_num,by omega,Qq ⟨zR.out,HP.out⟩⟩
     case measure=>simp [intOf];omega
    have HE:=Qq (tM.out (by unfold Xj;rw [yB,decide_eq_false hka];rfl));have UD:decide ((a:Int)<=(k:Int))=true:=decide_eq_true (by omega);have UC:decide (a<=k)=true:=decide_eq_true (by omega);clear yB;go_wp2_with fail;refine(Ew _ f _ (H.out.ext HX.out) xV.out).mono ?_;rintro e w2 ⟨rfl,zS⟩;rw [<-YV.out];have zR:=Qq (HX.out.trans zS);clear zS;go_wp2_with fail;go_ret;exact⟨by rw [HE.out] <;> rfl,zR.out⟩
   obtain rfl:k=4:=by omega
   have RE:=Qq (Qx9 HJ.out);have sZ:=Qq HX.out;clear HX HJ;rw [show((4:Nat):Int)=4 from rfl];go_wp2_with fail;go_loopw [8] (fun v wr=>∃k:Nat,v=.int .i64 (k:Int)/\k<=8/\Hid (Ext w wr/\∀j,j < k->Xj b mf j=true)) (fun v _=>8 - (intOf v).toNat)
   case atStart=>exact⟨0,rfl,Nat.zero_le _,Qq ⟨sZ.out,fun j hj=>absurd hj (by omega)⟩⟩
   case round =>
    obtain⟨k,rfl,hk,zY⟩:=hrel;have HX:=Qq zY.out.1;have HJ:=Qq zY.out.2;clear zY;by_cases hlt2:k < 8
    ·have yP:(k:Int) < 8:=by omega
     have wD:min k 64=k:=by omega
     have tP:=Dn mf k;have zA:=Qq (show Xj b mf k=true->∀j,j < k+1->Xj b mf j=true from fun h=>Dg (P:=fun j=>Xj b mf j=true) HJ.out h);have tM:=Qq (show Xj b mf k=false->Yc f a b=false from fun h=>by rw [WU.out,Qbx (n:=8) hlt2 h,Bool.and_false]);cases yB:mf.testBit k
     ·rw [yB]at tP;have HP:=Qq (zA.out (by unfold Xj;rw [yB];rfl));clear yB;go_wp2_with fail;refine(Ib _ f _ (H.out.ext HX.out) xV.out).mono ?_;rintro e w2 ⟨rfl,zS⟩;rw [<-GZ.out];have zR:=Qq (HX.out.trans zS);clear zS;go_wp2_with fail;go_roundw
      case rel=>exact⟨k+1,by go_num,by omega,Qq ⟨zR.out,HP.out⟩⟩
      case measure=>simp [intOf];omega
     rw [yB]at tP;by_cases hka:k < b
     ·have HP:=Qq (zA.out (by unfold Xj;rw [yB,decide_eq_true hka];rfl));have UD:decide ((b:Int)<=(k:Int))=false:=decide_eq_false (by omega);have UC:decide (b<=k)=false:=decide_eq_false (by omega);clear yB;go_wp2_with fail;refine(Ib _ f _ (H.out.ext HX.out) xV.out).mono ?_;rintro e w2 ⟨rfl,zS⟩;rw [<-GZ.out];have zR:=Qq (HX.out.trans zS);clear zS;go_wp2_with fail;go_roundw
      case rel=>exact⟨k+1,by go_num,by omega,Qq ⟨zR.out,HP.out⟩⟩
      case measure=>simp [intOf];omega
     have HE:=Qq (tM.out (by unfold Xj;rw [yB,decide_eq_false hka];rfl));have UD:decide ((b:Int)<=(k:Int))=true:=decide_eq_true (by omega);have UC:decide (b<=k)=true:=decide_eq_true (by omega);clear yB;go_wp2_with fail;refine(Ib _ f _ (H.out.ext HX.out) xV.out).mono ?_;rintro e w2 ⟨rfl,zS⟩;rw [<-GZ.out];have zR:=Qq (HX.out.trans zS);clear zS;go_wp2_with fail;go_ret;exact⟨by rw [HE.out] <;> rfl,zR.out⟩
    obtain rfl:k=8:=by omega
    have HE:=Qq (show Yc f a b=true by rw [WU.out,RE.out,Qx9 HJ.out];rfl);go_wp2_with fail;go_ret;exact⟨by rw [HE.out] <;> rfl,HX.out⟩
 have sJ:(z==0)=false:=by rw [beq_eq_false_iff_ne];exact zB
 have HE:=Qq (show Yc f a b=false by unfold Yc;rw [<-HZ.out,sJ];rfl);clear zB;go_enter Tryz.func16,Tryz.ntmps16;go_wp2_with fail;refine(Gf _ f _ H.out.1).mono ?_;rintro e w1 ⟨rfl,zN⟩;rw [<-HZ.out];have zL:=Qq zN;clear zN;go_wp2_with fail;go_ret;exact⟨by rw [HE.out] <;> rfl,zL.out⟩
theorem Qth(vm v:Value)(md:Md)(f:List Nd)(i:Int)(w:World)(hm:MdV w vm md)(h:Fml w v f):
 Calls Tryz.prog 192 #[vm,v,.int .i64 i] w fun e w'=>e=.returned (.bool (Pf md f i))/\Ext w w':=by
 have H:=Qq h;obtain⟨vv,vr,rfl,⟨Av,cv,rfl,_⟩,⟨Ar,cr,rfl,_⟩⟩:=hm;obtain⟨A,c,rfl,_⟩:=Qh h;clear h;have zK:=Qq (show Ext w (w.alloc (.cells #[.int .i64 md.n,.slice Av md.val.length cv,.slice Ar md.rel.length cr] 26))from Qz.alloc _);have vV:=Qq (show(w.alloc (.cells #[.int .i64 md.n,.slice Av md.val.length cv,.slice Ar md.rel.length cr] 26)).heap[w.heap.size]?=some (.cells #[.int .i64 md.n,.slice Av md.val.length cv,.slice Ar md.rel.length cr] 26 (0,0))from heap_alloc_new _ _);go_enter Tryz.func192,Tryz.ntmps192;go_wp2_with fail;refine(Qk6 _ f i _ (H.out.ext zK.out)).mono ?_;rintro e w1 ⟨u,rfl,uY⟩
 have HM:=Qq uY;have zL:=Qq (zK.out.trans uY.ext);have wJ:=Qq ((uY.ext.block (Qf vV.out)).trans vV.out);obtain⟨Au,cu,rfl,_⟩:=Qh uY.fml;obtain⟨g,hg⟩:∃g,g=Jn f i:=⟨_,rfl⟩;have HG:=Qq (show Pf md f i=(Js (Jm g) 15&&Yc g md.rel.length md.val.length) by rw [hg];rfl);rw [<-hg]at HM⊢;have wX:=(Mk g).1;clear uY hg;cases hs:Js (Jm g) 15
 ·rw [hs]at wX HG;clear hs;go_wp2_with fail;refine(Tw _ g _ HM.out.fml).mono ?_;rintro e w2 ⟨rfl,zS⟩;have zR:=Qq (zL.out.trans zS);clear zS;go_wp2_with fail;go_ret;exact⟨by rw [HG.out] <;> rfl,zR.out⟩
 rw [hs]at wX HG;clear hs;go_wp2_with fail;refine(Tw _ g _ HM.out.fml).mono ?_;rintro e w2 ⟨rfl,zS⟩;have zR:=Qq (zL.out.trans zS);have vU:=Qq (HM.out.fml.ext zS);obtain⟨e0,e1,e2,eb⟩:=Zt ((zS.block (Qf wJ.out)).trans wJ.out);clear zS;go_wp2_with fail;refine(Qg0 _ g md.rel.length md.val.length _ vU.out).mono ?_;rintro e w3 ⟨rfl,zI⟩;have zC:=Qq (zR.out.trans zI);clear zI e0 e1 e2 eb;go_wp2_with fail;go_ret;exact⟨by rw [HG.out,Bool.true_and] <;> rfl,zC.out⟩
theorem Qqb(vm v:Value)(md:Md)(f:List Nd)(w:World)(hm:MdV w vm md)(zO:md.ok)(h:Fml w v f):
 Calls Tryz.prog 149 #[vm,v,.int .i64 15] w fun e w'=>e=.returned (.int .i64 (Zi md f))/\Ext w w':=by
 have H:=Qq h;have HM:=Qq hm;have zD:=Qq zO;obtain⟨vv,vr,rfl,⟨Av,cv,rfl,_⟩,⟨Ar,cr,rfl,_⟩⟩:=hm;obtain⟨A,c,rfl,_⟩:=Qh h;clear h zO;have zK:=Qq (show Ext w (w.alloc (.cells #[.int .i64 md.n,.slice Av md.val.length cv,.slice Ar md.rel.length cr] 26))from Qz.alloc _);have vV:=Qq (show(w.alloc (.cells #[.int .i64 md.n,.slice Av md.val.length cv,.slice Ar md.rel.length cr] 26)).heap[w.heap.size]?=some (.cells #[.int .i64 md.n,.slice Av md.val.length cv,.slice Ar md.rel.length cr] 26 (0,0))from heap_alloc_new _ _);obtain⟨z,hz⟩:∃z,z=Zq md:=⟨_,rfl⟩;have HZ:=Qq hz;clear hz;by_cases zB:z=0
 ·subst zB;obtain⟨y,hy⟩:∃y,y=check f:=⟨_,rfl⟩;have HY:=Qq hy;clear hy;by_cases ZI:y=0
  ·subst ZI;have wX:=(Mk f).2;cases hs:Js (Jm f) 15
   ·rw [hs]at wX;have HE:=Qq (show Zi md f=10 by unfold Zi;rw [<-HZ.out,if_neg (by simp),<-HY.out,if_neg (by simp),if_pos hs]);clear hs;go_enter Tryz.func149,Tryz.ntmps149;go_wp2_with fail;refine(Dl _ md _ (HM.out.ext zK.out) zD.out).mono ?_;rintro e w1 ⟨rfl,zN⟩;rw [<-HZ.out];have zL:=Qq (zK.out.trans zN);clear zN;go_wp2_with fail;refine(Gf _ f _ (H.out.ext zL.out).1).mono ?_;rintro e w2 ⟨rfl,zS⟩;rw [<-HY.out];have zR:=Qq (zL.out.trans zS);clear zS;go_wp2_with fail;refine(Tw _ f _ (H.out.ext zR.out)).mono ?_;rintro e w3 ⟨rfl,zI⟩;have zC:=Qq (zR.out.trans zI)
    clear zI;go_wp2_with fail;go_ret;exact⟨by rw [HE.out] <;> rfl,zC.out⟩
   rw [hs]at wX;have HE:=Qq (show Zi md f=if Yc f md.rel.length md.val.length=false then 2 else 0 by unfold Zi;rw [<-HZ.out,if_neg (by simp),<-HY.out,if_neg (by simp),hs,if_neg (by simp)]);clear hs;obtain⟨t,ht⟩:∃t,t=Yc f md.rel.length md.val.length:=⟨_,rfl⟩;have HT:=Qq ht;rw [<-ht]at HE;clear ht;go_enter Tryz.func149,Tryz.ntmps149;go_wp2_with fail;refine(Dl _ md _ (HM.out.ext zK.out) zD.out).mono ?_;rintro e w1 ⟨rfl,zN⟩;rw [<-HZ.out];have zL:=Qq (zK.out.trans zN);have wJ:=Qq ((zN.block (Qf vV.out)).trans vV.out);clear zN;go_wp2_with fail;refine(Gf _ f _ (H.out.ext zL.out).1).mono ?_
   rintro e w2 ⟨rfl,zS⟩;rw [<-HY.out];have zR:=Qq (zL.out.trans zS);have rV:=Qq ((zS.block (Qf wJ.out)).trans wJ.out);clear zS;go_wp2_with fail;refine(Tw _ f _ (H.out.ext zR.out)).mono ?_;rintro e w3 ⟨rfl,zI⟩;have zC:=Qq (zR.out.trans zI);obtain⟨e0,e1,e2,eb⟩:=Zt ((zI.block (Qf rV.out)).trans rV.out);clear zI;go_wp2_with fail;refine(Qg0 _ f md.rel.length md.val.length _ (H.out.ext zC.out)).mono ?_;rintro e w4 ⟨rfl,yD⟩;rw [<-HT.out];have yI:=Qq (zC.out.trans yD);clear yD e0 e1 e2 eb;cases t
   ·go_wp2_with fail;go_ret;exact⟨by rw [HE.out] <;> rfl,yI.out⟩
   go_wp2_with fail;go_ret;exact⟨by rw [HE.out] <;> rfl,yI.out⟩
  have cF:(y==0)=false:=by rw [beq_eq_false_iff_ne];exact ZI
  have HE:=Qq (show Zi md f=y by unfold Zi;rw [<-HZ.out,if_neg (by simp),<-HY.out,if_pos ZI]);clear ZI;go_enter Tryz.func149,Tryz.ntmps149;go_wp2_with fail;refine(Dl _ md _ (HM.out.ext zK.out) zD.out).mono ?_;rintro e w1 ⟨rfl,zN⟩;rw [<-HZ.out];have zL:=Qq (zK.out.trans zN);clear zN;go_wp2_with fail;refine(Gf _ f _ (H.out.ext zL.out).1).mono ?_;rintro e w2 ⟨rfl,zS⟩;rw [<-HY.out];have zR:=Qq (zL.out.trans zS);clear zS;go_wp2_with fail;go_ret;exact⟨by rw [HE.out] <;> rfl,zR.out⟩
 have sJ:(z==0)=false:=by rw [beq_eq_false_iff_ne];exact zB
 have HE:=Qq (show Zi md f=z by unfold Zi;rw [<-HZ.out,if_pos zB]);clear zB;go_enter Tryz.func149,Tryz.ntmps149;go_wp2_with fail;refine(Dl _ md _ (HM.out.ext zK.out) zD.out).mono ?_;rintro e w1 ⟨rfl,zN⟩;rw [<-HZ.out];have zL:=Qq (zK.out.trans zN);clear zN;go_wp2_with fail;go_ret;exact⟨by rw [HE.out] <;> rfl,zL.out⟩
theorem Qxf {w:World} {b:Nat} {a0 a1 a2 a3 a4 a5:Value} {t:TypeId}(h:w.heap[b]?=some (.cells #[a0,a1,a2,a3,a4,a5] t (0,0))):w.cell? ⟨b,0,none⟩=some a0/\w.cell? ⟨b,1,none⟩=some a1/\w.cell? ⟨b,3,none⟩=some a3/\b < w.heap.size :=
 ⟨by simp [World.cell?,h],by simp [World.cell?,h],by simp [World.cell?,h],Qf h⟩
theorem Qzy(vm:Value)(md:Md)(n:Nd)(x y:Nat)(w:World)(hm:MdV w vm md)(zO:md.ok)(zT:Zq md=0)(hn:Qv4 md n)(hx:Qp x)(hy:Qp y):
 Calls Tryz.prog 193 #[vm,n.val,.int .u64 (x:Int),.int .u64 (y:Int)] w fun e w'=>e=.returned (.int .u64 ((Uk md n x y:Nat):Int))/\Ext w w':=by
 obtain⟨vR,yN,uC,gK,uX,_,_⟩:=Zn zT;obtain⟨N,oT⟩:=Int.eq_ofNat_of_zero_le (show 0<=md.n by omega);have nL:md.n.toNat=N:=by rw [oT];exact Int.toNat_natCast N
 have HM:=Qq hm;have zD:=Qq zO;have xV:=Qq zT;have mD:=Qq hn;have yY:=Qq hx;have aQ:=Qq hy;obtain⟨vv,vr,rfl,hv,hr⟩:=hm;obtain⟨Av,cv,rfl,_,_,HV⟩:=Vp hv;obtain⟨Ar,cr,rfl,_,_,HR⟩:=Ge hr;have xH:N<=64:=by omega
 have vA:=Qq (show Uk md n x y=if n.op=3 then md.val.getD n.i.toNat 0 else if n.op<=8 then Gv n.op x y (Zs N)
  else if n.op=9 then Vd (md.rel.getD n.i.toNat []) N x
  else if n.op=10 then Jv (Zs N) (Vd (md.rel.getD n.i.toNat []) N (Jv (Zs N) x))
  else if n.op=11 then Vd ((List.range N).map (Yz md.rel n.g.toNat false N)) N x
  else if n.op=12 then Vd ((List.range N).map (Yz md.rel n.g.toNat true N)) N x
  else Xx ((List.range N).map (Yz md.rel n.g.toNat false N)) N x y by unfold Uk;rw [nL])
 have nO:=Qq (show ∀r∈md.rel,r.length=N from fun r hr=>by have:=uX r hr;omega);have tW:=Qq oT;have qV:=Qq nL;rw [oT]at HM⊢;unfold Nd.val;have zV:=hn.op;clear zO zT hn hx hy hv hr vR yN uX oT nL;obtain⟨W0,zE⟩:∃W,W=(w.alloc (.cells #[.int .i64 (N:Int),.slice Av md.val.length cv,.slice Ar md.rel.length cr] 26)).alloc (.cells #[.int .i64 n.op,.int .i64 n.i,.int .i64 n.e,.int .i64 n.g,.int .i64 n.x,.int .i64 n.y] 71):=⟨_,rfl⟩;have zK:=Qq (show Ext w W0 by rw [zE];exact(Qz.alloc _).alloc _);obtain⟨b,hb⟩:∃b,b=w.heap.size:=⟨_,rfl⟩;have SP:=Qq (show W0.heap[b]?=some (.cells #[.int .i64 (N:Int),.slice Av md.val.length cv,.slice Ar md.rel.length cr] 26 (0,0)) by rw [zE,hb];exact((Qz.alloc _).block (by simp)).trans (heap_alloc_new _ _))
 have bZ:=Qq (show W0.heap[b+1]?=some (.cells #[.int .i64 n.op,.int .i64 n.i,.int .i64 n.e,.int .i64 n.g,.int .i64 n.x,.int .i64 n.y] 71 (0,0)) by
  have h1:=heap_alloc_new (w.alloc (.cells #[.int .i64 (N:Int),.slice Av md.val.length cv,.slice Ar md.rel.length cr] 26)) (.cells #[.int .i64 n.op,.int .i64 n.i,.int .i64 n.e,.int .i64 n.g,.int .i64 n.x,.int .i64 n.y] 71);rw [zE,hb]
  simpa using h1)
 obtain⟨e0,e1,e2,eb⟩:=Zt SP.out;obtain⟨c0,c1,c3,cb⟩:=Qxf bZ.out;go_enter Tryz.func193,Tryz.ntmps193;go_upto_region 1 with(fail);rw [<-zE,<-hb];clear zE hb;go_wp2_with fail;refine(Ps N xH _).mono ?_;rintro e w1 ⟨rfl,rfl⟩;by_cases h3:n.op=3
 ·obtain⟨h0,h8⟩:=Fm mD.out.head h3;obtain⟨k,hk⟩:=Int.eq_ofNat_of_zero_le h0;have wO:k < md.val.length:=by have:=mD.out.fact h3;omega
  have yP:(k:Int) < (md.val.length:Int):=by omega
  have HE:=Qq (show Uk md n x y=md.val.getD k 0 by rw [vA.out,if_pos h3,hk];rfl);obtain⟨ad,rfl,zU,hc⟩:=HV.out k wO;have a0:=(zK.out.cell (p:=ad.add k) (Qj zU)).trans hc;have al:(ad.add k).block < W0.heap.size:=by rw [Qr];exact Qy zU zK.out.size
  rw [hk]at c1;rw [h3]at c0;clear h0 h8 hk wO hc h3;go_wp2_with fail;go_ret;exact⟨by rw [HE.out] <;> rfl,zK.out⟩
 by_cases h8:n.op<=8
 ·have HE:=Qq (show Uk md n x y=Gv n.op x y (Zs N) by rw [vA.out,if_neg h3,if_pos h8]);have t3:(n.op==3)=false:=by simpa using h3
  clear h3;go_wp2_with fail;refine(Qns n.op x y (Zs N) _ yY.out aQ.out (Vl xH)).mono ?_;rintro e w2 ⟨rfl,rfl⟩;go_wp2_with fail;go_ret;exact⟨by rw [HE.out] <;> rfl,zK.out⟩
 have HX:=zK;obtain⟨al,vS⟩:∃a,a=Zs N:=⟨_,rfl⟩;have nT:=Qq vS;rw [<-vS];clear vS;by_cases h9:n.op=9
 ·obtain⟨h0,h4⟩:=Kw mD.out.head (by rw [h9];rfl);obtain⟨k,hk⟩:=Int.eq_ofNat_of_zero_le h0;have wO:k < md.rel.length:=by have:=mD.out.agent (by omega);omega
  have yP:(k:Int) < (md.rel.length:Int):=by omega
  have HE:=Qq (show Uk md n x y=Vd (md.rel.getD k []) N x by rw [vA.out,if_neg h3,if_neg h8,if_pos h9,hk];rfl);obtain⟨ad,u,rfl,zU,hc,hu⟩:=HR.out k wO;have HU:=Qq (hu.ext zK.out);have SE:=Qq (Rl zD.out.rel k);have yQ:(md.rel.getD k []).length=N:=nO.out _ (by rw [Qk,Qv wO];exact List.getElem_mem wO);obtain⟨Au,cu,rfl,_⟩:=hu;rw [yQ]at HU hc;have mB:=Qq yQ;have a0:=(zK.out.cell (p:=ad.add k) (Qj zU)).trans hc;have adl:(ad.add k).block < W0.heap.size:=by rw [Qr];exact Qy zU zK.out.size
  rw [hk]at c1;rw [h9]at c0;clear h0 h4 hk wO hc h3 h8 h9 yQ zV;go_upto_region 7 with(fail);refine wp_region_held_drew (S:=fun w'=>w'.cell? (⟨b,0,none⟩)=some (.int .i64 (N:Int))/\w'.cell? (⟨b,2,none⟩)=some (.slice (some ad) md.rel.length cr)/\w'.cell? (⟨b+1,1,none⟩)=some (.int .i64 (k:Int))/\w'.cell? (ad.add k)=some (.slice Au N cu)) (by kernel_rfl) ⟨xc eb e0,xc eb e2,xc cb c1,xc adl a0⟩ (fun zZ=> ?_);refine tk 0 zZ ?_;refine tk 1 zZ ?_;refine tk 2 zZ ?_;refine tk 3 zZ ?_;refine tk 4 zZ ?_;refine tk 5 zZ ?_;refine tk 6 zZ ?_;refine tk 7 zZ ?_;refine tk 8 zZ ?_;refine wpAnyH_ready (rs:= [9]) (by kernel_rfl) (by simp) ?_
  refine AllReadyH.cons rfl (fun K hK=> ?_) AllReadyH.nil;go_simp;refine(Qz1 _ (md.rel.getD k []) N x _ (HU.out.ext xv) SE.out xH (by rw [mB.out];exact Nat.le_refl _) yY.out).mono ?_;rintro e w3 ⟨rfl,yV⟩;have zI:Ext W0 w3:=Ext.trans xv yV;have zC:=Qq zI;clear yV;go_wp2_with fail;refine hK.out _ _ ⟨xc eb e0,xc eb e2,xc cb c1,xc adl a0⟩ (fun zZ=> ?_);clear hK K;refine Qd ?_;refine tk 10 zZ ?_;refine wpAnyH_done (by kernel_rfl) ?_ _;go_wp2_with fail;go_ret;exact⟨by rw [HE.out] <;> rfl,zK.out.trans zC.out⟩
 by_cases h9:n.op=10
 ·obtain⟨h0,h4⟩:=Kw mD.out.head (by rw [h9];rfl);obtain⟨k,hk⟩:=Int.eq_ofNat_of_zero_le h0;have wO:k < md.rel.length:=by have:=mD.out.agent (by omega);omega
  have yP:(k:Int) < (md.rel.length:Int):=by omega
  have HE:=Qq (show Uk md n x y=Jv al (Vd (md.rel.getD k []) N (Jv al x)) by rw [vA.out,if_neg h3,if_neg h8,if_neg (by omega),if_pos h9,hk,<-nT.out];rfl);have qN:=Vx (a:=al) (by rw [nT.out];exact Vl xH) yY.out;have SN:=Qq (show Qp (Jv al x)from Un (by rw [nT.out];exact Vl xH));have rD:=Vx (a:=al) (b:=Vd (md.rel.getD k []) N (Jv al x)) (by rw [nT.out];exact Vl xH) (Ww xH);obtain⟨dx,NT⟩:∃d,d=Jv al x:=⟨_,rfl⟩;rw [<-NT]at HE qN rD SN;obtain⟨bx,wT⟩:∃d,d=Vd (md.rel.getD k []) N dx:=⟨_,rfl⟩;rw [<-wT]at HE rD;have xD:=Qq wT
  obtain⟨dz,jL⟩:∃d,d=Jv al bx:=⟨_,rfl⟩;rw [<-jL]at HE rD;clear NT wT jL;obtain⟨ad,u,rfl,zU,hc,hu⟩:=HR.out k wO;have HU:=Qq (hu.ext zK.out);have SE:=Qq (Rl zD.out.rel k);have yQ:(md.rel.getD k []).length=N:=nO.out _ (by rw [Qk,Qv wO];exact List.getElem_mem wO);obtain⟨Au,cu,rfl,_⟩:=hu;rw [yQ]at HU hc;have mB:=Qq yQ;have a0:=(zK.out.cell (p:=ad.add k) (Qj zU)).trans hc;have adl:(ad.add k).block < W0.heap.size:=by rw [Qr];exact Qy zU zK.out.size
  rw [hk]at c1;rw [h9]at c0;clear h0 h4 hk wO hc h3 h8 h9 yQ zV;go_upto_region 9 with(fail);refine wp_region_held_drew (S:=fun w'=>w'.cell? (⟨b,0,none⟩)=some (.int .i64 (N:Int))/\w'.cell? (⟨b,2,none⟩)=some (.slice (some ad) md.rel.length cr)/\w'.cell? (⟨b+1,1,none⟩)=some (.int .i64 (k:Int))/\w'.cell? (ad.add k)=some (.slice Au N cu)) (by kernel_rfl) ⟨xc eb e0,xc eb e2,xc cb c1,xc adl a0⟩ (fun zZ=> ?_);refine tk 0 zZ ?_;refine tk 1 zZ ?_;refine tk 2 zZ ?_;refine tk 3 zZ ?_;refine tk 4 zZ ?_;refine tk 5 zZ ?_;refine tk 6 zZ ?_;refine tk 7 zZ ?_;refine tk 8 zZ ?_;refine tk 9 zZ ?_
  refine tk 10 zZ ?_;refine tk 11 zZ ?_;refine wpAnyH_ready (rs:= [12]) (by kernel_rfl) (by simp) ?_;refine AllReadyH.cons rfl (fun K hK=> ?_) AllReadyH.nil;go_simp;refine(Qz1 _ (md.rel.getD k []) N dx _ (HU.out.ext xv) SE.out xH (by rw [mB.out];exact Nat.le_refl _) SN.out).mono ?_;rintro e w3 ⟨rfl,yV⟩;have zI:Ext W0 w3:=Ext.trans xv yV;have zC:=Qq zI;rw [<-xD.out];clear yV;go_wp2_with fail;refine hK.out _ _ ⟨xc eb e0,xc eb e2,xc cb c1,xc adl a0⟩ (fun zZ=> ?_);clear hK K;refine Qd ?_;refine tk 13 zZ ?_;refine tk 14 zZ ?_;refine wpAnyH_done (by kernel_rfl) ?_ _;go_wp2_with fail
  go_ret;exact⟨by rw [HE.out] <;> rfl,zK.out.trans zC.out⟩
 have hg:=mD.out.group (by have:=(Dq n.op).1 mD.out.head.1;omega);obtain⟨gn,vY⟩:=Int.eq_ofNat_of_zero_le (show 0<=n.g by omega);have vL:1<=gn:=by omega
 have uO:gn < 2^md.rel.length:=by have:=hg.2;rw [vY]at this;exact this
 have dF:=Qq uO;have RT:n.g.toNat=gn:=by rw [vY];rfl
 rw [RT]at vA;rw [vY]at c3;have gZ:=Qq (fun(meet:Bool)=>Qal zD.out (gn:=gn) (meet:=meet) xH);clear hg vY RT uO;by_cases uR:n.op=11
 ·have HE:=Qq (show Uk md n x y=Vd ((List.range N).map (Yz md.rel gn false N)) N x by rw [vA.out,if_neg h3,if_neg h8,if_neg (by omega),if_neg (by omega),if_pos uR]);rw [uR]at c0;clear h3 h8 uR zV;go_upto_region 11 with(fail);refine wp_region_held_drew (S:=fun w'=>w'.cell? (⟨b,0,none⟩)=some (.int .i64 (N:Int))/\w'.cell? (⟨b,1,none⟩)=some (.slice Av md.val.length cv)/\w'.cell? (⟨b,2,none⟩)=some (.slice Ar md.rel.length cr)/\w'.cell? (⟨b+1,3,none⟩)=some (.int .i64 (gn:Int))) (by kernel_rfl) ⟨xc eb e0,xc eb e1,xc eb e2,xc cb c3⟩ (fun zZ=> ?_);refine tk 0 zZ ?_;refine tk 1 zZ ?_;refine tk 2 zZ ?_
  refine tk 4 zZ ?_;refine tk 5 zZ ?_;refine tk 6 zZ ?_;refine wpAnyH_ready (rs:= [3]) (by kernel_rfl) (by simp) ?_;refine AllReadyH.cons rfl (fun K hK=> ?_) AllReadyH.nil;go_simp;refine(Qk9 _ md gn _ (HM.out.ext (zK.out.trans xv)) zD.out xV.out vL dF.out).mono ?_;rintro e w3 ⟨u,rfl,yV,kP⟩;have zI:Ext W0 w3:=Ext.trans xv yV;have zC:=Qq zI;rw [qV.out]at kP;have PR:=Qq kP;obtain⟨Au,cu,rfl⟩:=Qs kP;rw [(gZ.out false).1];clear yV kP;go_wp2_with fail;refine hK.out _ _ ⟨xc eb e0,xc eb e1,xc eb e2,xc cb c3⟩ (fun zZ=> ?_);clear hK K;refine Qd ?_;refine wpAnyH_ready (rs:= [7]) (by kernel_rfl) (by simp) ?_
  refine AllReadyH.cons rfl (fun K hK=> ?_) AllReadyH.nil;go_simp;refine(Qz1 _ ((List.range N).map (Yz md.rel gn false N)) N x _ (by have h1:=PR.out.u64s;rw [(gZ.out false).1]at h1;exact h1) (gZ.out false).2 xH (by rw [(gZ.out false).1];exact Nat.le_refl _) yY.out).mono ?_;rintro e w4 ⟨rfl,yV⟩;have yD:Ext W0 w4:=zI.trans yV;have yI:=Qq yD;clear yV;go_wp2_with fail;refine hK.out _ _ ⟨xc eb e0,xc eb e1,xc eb e2,xc cb c3⟩ (fun zZ=> ?_);clear hK K;refine Qd ?_;refine tk 8 zZ ?_;refine wpAnyH_done (by kernel_rfl) ?_ _;go_wp2_with fail;go_ret;exact⟨by rw [HE.out] <;> rfl,zK.out.trans yI.out⟩
 by_cases uR:n.op=12
 ·have HE:=Qq (show Uk md n x y=Vd ((List.range N).map (Yz md.rel gn true N)) N x by rw [vA.out,if_neg h3,if_neg h8,if_neg (by omega),if_neg (by omega),if_neg (by omega),if_pos uR]);rw [uR]at c0;clear h3 h8 uR zV;go_upto_region 13 with(fail);refine wp_region_held_drew (S:=fun w'=>w'.cell? (⟨b,0,none⟩)=some (.int .i64 (N:Int))/\w'.cell? (⟨b,1,none⟩)=some (.slice Av md.val.length cv)/\w'.cell? (⟨b,2,none⟩)=some (.slice Ar md.rel.length cr)/\w'.cell? (⟨b+1,3,none⟩)=some (.int .i64 (gn:Int))) (by kernel_rfl) ⟨xc eb e0,xc eb e1,xc eb e2,xc cb c3⟩ (fun zZ=> ?_);refine tk 0 zZ ?_;refine tk 1 zZ ?_
  refine tk 2 zZ ?_;refine tk 4 zZ ?_;refine tk 5 zZ ?_;refine tk 6 zZ ?_;refine wpAnyH_ready (rs:= [3]) (by kernel_rfl) (by simp) ?_;refine AllReadyH.cons rfl (fun K hK=> ?_) AllReadyH.nil;go_simp;refine(Qc7 _ md gn _ (HM.out.ext (zK.out.trans xv)) zD.out xV.out vL dF.out).mono ?_;rintro e w3 ⟨u,rfl,yV,kP⟩;have zI:Ext W0 w3:=Ext.trans xv yV;have zC:=Qq zI;rw [qV.out]at kP;have PR:=Qq kP;obtain⟨Au,cu,rfl⟩:=Qs kP;rw [(gZ.out true).1];clear yV kP;go_wp2_with fail;refine hK.out _ _ ⟨xc eb e0,xc eb e1,xc eb e2,xc cb c3⟩ (fun zZ=> ?_);clear hK K;refine Qd ?_
  refine wpAnyH_ready (rs:= [7]) (by kernel_rfl) (by simp) ?_;refine AllReadyH.cons rfl (fun K hK=> ?_) AllReadyH.nil;go_simp;refine(Qz1 _ ((List.range N).map (Yz md.rel gn true N)) N x _ (by have h1:=PR.out.u64s;rw [(gZ.out true).1]at h1;exact h1) (gZ.out true).2 xH (by rw [(gZ.out true).1];exact Nat.le_refl _) yY.out).mono ?_;rintro e w4 ⟨rfl,yV⟩;have yD:Ext W0 w4:=zI.trans yV;have yI:=Qq yD;clear yV;go_wp2_with fail;refine hK.out _ _ ⟨xc eb e0,xc eb e1,xc eb e2,xc cb c3⟩ (fun zZ=> ?_);clear hK K;refine Qd ?_;refine tk 8 zZ ?_;refine wpAnyH_done (by kernel_rfl) ?_ _;go_wp2_with fail
  go_ret;exact⟨by rw [HE.out] <;> rfl,zK.out.trans yI.out⟩
 have HE:=Qq (show Uk md n x y=Xx ((List.range N).map (Yz md.rel gn false N)) N x y by rw [vA.out,if_neg h3,if_neg h8,if_neg (by omega),if_neg (by omega),if_neg (by omega),if_neg (by omega)]);have t13:n.op=13:=by have:=(Dq n.op).1 mD.out.head.1;omega
 rw [t13]at c0;clear h3 h8 t13 zV;go_upto_region 14 with(fail);refine wp_region_held_drew (S:=fun w'=>w'.cell? (⟨b,0,none⟩)=some (.int .i64 (N:Int))/\w'.cell? (⟨b,1,none⟩)=some (.slice Av md.val.length cv)/\w'.cell? (⟨b,2,none⟩)=some (.slice Ar md.rel.length cr)/\w'.cell? (⟨b+1,3,none⟩)=some (.int .i64 (gn:Int))) (by kernel_rfl) ⟨xc eb e0,xc eb e1,xc eb e2,xc cb c3⟩ (fun zZ=> ?_);refine tk 0 zZ ?_;refine tk 1 zZ ?_;refine tk 2 zZ ?_;refine tk 4 zZ ?_;refine tk 5 zZ ?_;refine tk 6 zZ ?_;refine tk 7 zZ ?_;refine wpAnyH_ready (rs:= [3]) (by kernel_rfl) (by simp) ?_;refine AllReadyH.cons rfl (fun K hK=> ?_) AllReadyH.nil
 go_simp;refine(Qk9 _ md gn _ (HM.out.ext (zK.out.trans xv)) zD.out xV.out vL dF.out).mono ?_;rintro e w3 ⟨u,rfl,yV,kP⟩;have zI:Ext W0 w3:=Ext.trans xv yV;have zC:=Qq zI;rw [qV.out]at kP;have PR:=Qq kP;obtain⟨Au,cu,rfl⟩:=Qs kP;rw [(gZ.out false).1];clear yV kP;go_wp2_with fail;refine hK.out _ _ ⟨xc eb e0,xc eb e1,xc eb e2,xc cb c3⟩ (fun zZ=> ?_);clear hK K;refine Qd ?_;refine wpAnyH_ready (rs:= [8]) (by kernel_rfl) (by simp) ?_;refine AllReadyH.cons rfl (fun K hK=> ?_) AllReadyH.nil;go_simp;refine(Qbm _ ((List.range N).map (Yz md.rel gn false N)) N x y _ (by have h1:=PR.out.u64s;rw [(gZ.out false).1]at h1;exact h1) (gZ.out false).2 xH (by rw [(gZ.out false).1];exact Nat.le_refl _) yY.out aQ.out).mono ?_
 rintro e w4 ⟨rfl,yV⟩;have yD:Ext W0 w4:=zI.trans yV;have yI:=Qq yD;clear yV;go_wp2_with fail;refine hK.out _ _ ⟨xc eb e0,xc eb e1,xc eb e2,xc cb c3⟩ (fun zZ=> ?_);clear hK K;refine Qd ?_;refine tk 9 zZ ?_;refine wpAnyH_done (by kernel_rfl) ?_ _;go_wp2_with fail;go_ret;exact⟨by rw [HE.out] <;> rfl,zK.out.trans yI.out⟩
theorem Rm {w w4:World} {c:Obj} {r:Option Nat} {b:Nat}(hg:(w.alloc c).grownBy w4 r)(hr:r≠some b)(hb:b < w.heap.size):w4.heap[b]?=w.heap[b]? :=
 (hg.block b (by simp;omega) (fun e=>hr e.symm)).trans (((Ext.refl w).alloc c).block hb)
theorem Yq {w w4:World} {p:Addr}(h:w4.heap[p.block]?=w.heap[p.block]?):w4.cell? p=w.cell? p:=by
 unfold World.cell?;rw [h]
end Go.Proofs.YtkmclcmnoicagaaGreatDoor
