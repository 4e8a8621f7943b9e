/- The reference's Check, Sub, Compact and Same. -/
import Derived.Test.YtkmclcmnoicagaaGreatDoorL13
namespace Go.Proofs.YtkmclcmnoicagaaGreatDoor
set_option maxRecDepth 100000
set_option maxHeartbeats 128000000
open Go.RowKit
theorem Qwx {bw:Nat} {W0:World} {A:Option Addr} {c:Nat} {f:List Nd} {vd:Value}(hf:Wf f)(zO:∀n∈f,n.ok)(zG:f.length<=1000):
 ∀i:Nat,i < f.length->Qbh bw W0 A c f vd i:=by
 intro i
 induction i using Nat.strongRecOn with
 |_ i ih =>
  intro hi w o d vo uB oF;obtain⟨n,hn⟩:∃n,f[i]?=some n:=⟨_,Qv hi⟩;rw [Int.toNat_natCast];rcases uB.done.2 i hi with hd|⟨xB,hd⟩
  ·refine Qwg hf zO uB zG i n hn hd oF (fun z h0 h1=> ?_) _ _ rfl rfl;obtain⟨j,rfl⟩:=Int.eq_ofNat_of_zero_le h0;exact ih j (by omega) (by omega)
  refine(Qhp uB zG i _ hi hd).mono ?_;rintro e w' ⟨rfl,rfl⟩;exact⟨vo,d,rfl,by rw [xB];exact uB,Gm.refl _ _⟩
theorem Xc(v:Value)(l:List Nd)(w:World)(h:Ew w v l):
 Calls Tryz.prog 13 #[v] w fun e w'=>e=.returned (.int .i64 (check l))/\Qg w w':=by
 obtain⟨A,c,rfl,xU,yP,zN⟩:=h;unfold maxLen at yP;by_cases h0:l.length=0
 ·have wK:check l=3:=by simp [check,h0]
  rw [h0,wK];clear wK zN;go_enter Tryz.func13,Tryz.ntmps13;go_wp2_with fail;go_ret;exact⟨rfl,Qz⟩
 have e0:((l.length:Int)==0)=false:=by rw [beq_eq_false_iff_ne];omega
 by_cases h1:200 < l.length
 ·have wK:check l=8:=by simp [check,h0,h1]
  rw [wK];clear wK zN;go_enter Tryz.func13,Tryz.ntmps13;go_wp2_with fail;go_ret;exact⟨rfl,Qz⟩
 have zQ:l≠ []:=fun e=>h0 (by simp [e])
 obtain⟨ad,rfl,zI,zJ⟩:=zN zQ;have HC:=Qq zJ;clear zJ;have HK:=Qq (show check l=Jc l 0 by simp [check,h0,h1]);have hl:l.length<=200:=by omega
 clear h0 h1 zN;go_enter Tryz.func13,Tryz.ntmps13;go_wp2_with fail;go_loopw [3] (fun i wr=>∃k:Nat,k<=l.length/\i=.int .i64 k/\Hid (Jc l 0=Jc (l.drop k) k)/\Qg w wr) (fun i _=>l.length - (intOf i).toNat)
 case atStart=>exact⟨0,Nat.zero_le _,rfl,Qq rfl,Qz⟩
 case round =>
  obtain⟨k,hk,rfl,uA,yX⟩:=hrel;by_cases hlt2:k < l.length
  ·obtain⟨n,hn⟩:∃n,l[k]?=some n:=⟨_,Qv hlt2⟩;have xM:=Wq l k n hn;obtain⟨c0,c1,c2,c3,c4,c5⟩:=(HC.out k n hn).keep fun p hp=>yX.cell (p:=p) (by rw [hp,Qt];exact zI)
   by_cases he:Zd n k=0
   ·have kT:Hid (Jc l 0=Jc (l.drop (k+1)) ((k+1:Nat):Int)):=Qq (by rw [uA.out,xM,he];rfl);have hh:=Qq he;clear xM he hn uA;go_wp2_with(go_at_call 43;refine(Qvq n _ _).mono ?_;rintro e w1 ⟨rfl,hb⟩;rw [hh.out]);go_roundw
    case rel=>exact⟨k+1,by omega,by go_num,kT,yX.trans hb⟩
    case measure=>simp [intOf];omega
   have hh:(Zd n k !=0)=true:=by simpa using he
   have kT:Hid (Jc l 0=Zd n k):=Qq (by rw [uA.out,xM,hh];rfl);clear xM he hn uA;go_wp2_with(go_at_call 43;refine(Qvq n _ _).mono ?_;rintro e w1 ⟨rfl,hb⟩);go_ret;exact⟨Ke (by rw [HK.out,kT.out]),yX.trans hb⟩
  obtain rfl:l.length=k:=by omega
  go_wp2_with fail;go_ret;refine⟨Ke ?_,yX⟩;rw [HK.out,uA.out];simp [Jc]
theorem Qhs {w W w4:World} {bw:Nat} {v v0 v1:Value} {t:TypeId}(hb:w.heap[bw]?=some (.cells #[v0,v1] t (0,0)))(zQ:v.ownBlock≠some bw)(he:Qg w W)(hg:W.grownBy w4 v.ownBlock):w4.heap[bw]?=some (.cells #[v0,v1] t (0,0)):=
 ((hg.block bw (Qy (Qn hb) he.size) (fun e=>zQ e.symm)).trans (he.block (Qn hb))).trans hb
structure Zz0 (w1:World) (k:Nat) (vd:Value) (wr:World):Prop where
 blk:wr.heap[w1.heap.size]?=some (.cells #[.slice none 0 0,vd] 170 (0,0))
 row:wr.ownsRow (w1.heap.size+1) 3 1 vd k ((List.replicate k (-1:Int)).map (Value.int .i64))
 ext:Qg w1 wr
theorem Qwm {w1 w4:World} {k:Nat} {v' v0:Value} {xs:List Value}(hb:w4.heap[w1.heap.size]?=some (.cells #[.slice none 0 0,v0] 170 (0,0)))(hr:w4.ownsRow (w1.heap.size+1) 3 1 v' (k+1) (xs++ [.int .i64 (-1)]))
 (zQ:v'.ownBlock≠some w1.heap.size)(hx:Qg w1 w4)(oR:xs=(List.replicate k (-1:Int)).map (Value.int .i64)):∃vd,Zz0 w1 (k+1) vd (w4.setCell ⟨w1.heap.size,1,none⟩ v'):=by
 refine⟨v',Qq4 hb _,ownsRow_setCell_other (a:=⟨w1.heap.size,1,none⟩) ?_ zQ _,Qg.setCell hx (Nat.le_refl _) _⟩;subst oR;rw [List.replicate_succ',List.map_append];exact hr
theorem Qxp(v:Value)(l:List Nd)(z:Int)(w:World)(h:Jo w v l):
 Calls Tryz.prog 175 #[v,.int .i64 z] w fun e w'=>∃u,e=.returned u/\Yc w w' u (Jn l z):=by
 have H:=Qq h;obtain⟨⟨A,c,rfl,yL⟩,zO⟩:=h;have kE:=Qq yL;have yR:=yL.1;have xK:=yL.2.1;unfold maxLen at xK;clear yL zO;by_cases hc:check l=0
 ·by_cases hz:z < 0
  ·have HR:=Qq (show Jn l z= [] by unfold Jn;simp [hz]);have HC:=Qq hc;clear hc;go_enter Tryz.func175,Tryz.ntmps175;go_wp2_with(go_at_call 13;refine(Xc _ l _ H.out.1).mono ?_;rintro e w1 ⟨rfl,hb⟩;rw [HC.out]);go_ret;exact⟨_,rfl,by rw [HR.out];exact(Yc.none_ _).after hb⟩
  by_cases hl:(l.length:Int)<=z
  ·have HR:=Qq (show Jn l z= [] by unfold Jn;simp [hl]);have HC:=Qq hc;clear hc;go_enter Tryz.func175,Tryz.ntmps175;go_wp2_with(go_at_call 13;refine(Xc _ l _ H.out.1).mono ?_;rintro e w1 ⟨rfl,hb⟩;rw [HC.out]);go_ret;exact⟨_,rfl,by rw [HR.out];exact(Yc.none_ _).after hb⟩
  obtain⟨r,rfl⟩:=Int.eq_ofNat_of_zero_le (show 0<=z by omega);have hr:r < l.length:=by omega
  have HR:=Qq (show Jn l r=(Ze l r []).1 by
   unfold Jn;rw [hc];have h1:decide ((r:Int) < 0)=false:=by simp
   have h2:decide ((l.length:Int)<=(r:Int))=false:=by simp;omega
   rw [h1,h2]
   rfl)
  have HC:=Qq hc;have HL:=(Jf hc).2.1;obtain⟨i3,RV,AX,AW,AV⟩:=info_parts Qjc;have mQ:decide ((r:Int) < 0)=false:=by simp
  have rJ:decide (l.length<=r)=false:=by simp;omega
  clear hc;go_enter Tryz.func175,Tryz.ntmps175;go_wp2_with(go_at_call 13;refine(Xc _ l _ H.out.1).mono ?_;rintro e w1 ⟨rfl,hb⟩;rw [HC.out];have HB:=Qq hb;clear hb);go_loopw [6] (fun i wr=>∃k:Nat,k<=l.length/\i=.int .i64 k/\Hid (∃vd,Zz0 w1 k vd wr)) (fun i _=>l.length - (intOf i).toNat)
  case atStart=>exact⟨0,Nat.zero_le _,rfl,Qq ⟨.slice none 0 0,heap_alloc_new _ _,World.ownsRow_nil _ _ _ _,Qz.alloc _⟩⟩
  case round =>
   obtain⟨k,hk,rfl,jD⟩:=hrel;obtain⟨vd,YM,XY,yX⟩:=jD.out;have lS:=Qq YM;have yS:=Qq XY;clear YM XY jD;obtain⟨Ad,cd,rfl⟩:=Qs yS.out;obtain⟨d0,d1,dfr,dlt⟩:=Gc lS.out;by_cases hlt2:k < l.length
   ·have xS:k+1<=maxLen:=by unfold maxLen;omega
    have xR:(k+1)*8<=140737488355328:=by omega
    have wX:=dfr 1;have jW:=Qq (Qjt yS.out);have OB:∀X,w1.heap.size+1<=(wr.alloc X).heap.size:=fun X=>by simp;omega
    obtain⟨xs,oR⟩:∃xs,xs=(List.replicate k (-1:Int)).map (Value.int .i64):=⟨_,rfl⟩;rw [<-oR]at yS;have jR:=Qq oR;clear oR;go_wp2_with(at_builtin;refine wpList_append_own_at _ rfl _ _ 36 rfl (w1.heap.size+1) 3 i3 (.int .i64 0) 1 8 Tryz.underlying36 RV AX AW AV rfl (by decide) _ _ _ rfl (Zk yS.out (Qz.alloc _)) _ 1 1 [.int .i64 (-1)] rfl rfl (Zt _ _ _ (by simp)) (fun u hu=>by rw [List.mem_singleton.1 hu];rfl) xS xR (OB _) ?_);intro v' w4 yG yM _ uF;obtain⟨A4,c4,rfl⟩:=Qs yG;have uI:=Qq yG;have kb:=Qhs lS.out jW.out (Qz.alloc _) yM
    have yN:=Qq ((Qg.alloc yX _).grown yM (fun g hg=>by have:=(yS.out.lt g hg).1;omega));have GR:=Qq (Qjt yG);obtain⟨q0,q1,qfr,qlt⟩:=Gc kb;have qf1:=qfr 1;have KB:=Qq kb;clear yG yM uF kb d0 d1 dfr dlt wX;go_wp2_with fail;go_roundw
    case rel=>exact⟨k+1,by omega,by go_num,Qq (Qwm KB.out uI.out GR.out yN.out jR.out)⟩
    case measure=>simp [intOf];omega
   obtain rfl:l.length=k:=by omega
   have WC:=Qq (Qwx (bw:=w1.heap.size) (W0:=w) (A:=A) (c:=c) (vd:=.slice Ad l.length cd) (Yb HC.out) H.out.2 (by omega) r hr)
   have II:Hid (Be w1.heap.size w wr A c l [] (List.replicate l.length (-1)) (.slice none 0 0) (.slice Ad l.length cd)):=
    Qq ⟨HB.out.trans yX,kE.out,lS.out,World.ownsRow_nil _ _ _ _,Kl yS.out (Nat.le_succ_of_le HB.out.size),⟨by simp,fun i hi=> .inl (by simp [hi])⟩,HB.out.size,by simp⟩
   go_wp2_with fail;refine(WC.out _ _ _ _ II.out (Iz l)).mono ?_;rw [Int.toNat_natCast];rintro e w5 ⟨vo5,d5,rfl,uB,xM⟩;obtain⟨q0,q1,qfr,qlt⟩:=Gc uB.blk;have HM:=Qq (show Yc w w5 vo5 (Jn l r) by rw [HR.out];exact⟨uB.row,uB.oks,uB.below⟩);obtain⟨A6,c6,rfl⟩:=Qs uB.row;clear uB xM;go_wp2_with fail;go_ret;exact⟨_,rfl,HM.out⟩
 have yV:(check l !=0)=true:=by simpa using hc
 have HR:=Qq (show Jn l z= [] by unfold Jn;rw [yV];rfl);clear hc;go_enter Tryz.func175,Tryz.ntmps175;go_wp2_with(go_at_call 13;refine(Xc _ l _ H.out.1).mono ?_;rintro e w1 ⟨rfl,hb⟩);go_ret;exact⟨_,rfl,by rw [HR.out];exact(Yc.none_ _).after hb⟩
theorem Sh(v:Value)(l:List Nd)(w:World)(h:Jo w v l):
 Calls Tryz.prog 110 #[v] w fun e w'=>∃u,e=.returned u/\Yc w w' u (Qf l):=by
 have H:=Qq h;obtain⟨⟨A,c,rfl,yL⟩,zO⟩:=h;have hl:=yL.1;have hm:=yL.2.1;unfold maxLen at hm;clear yL zO;go_enter Tryz.func110,Tryz.ntmps110;go_wp2_with fail;refine(Qxp _ l _ _ H.out).mono ?_;rintro e w2 ⟨u,rfl,hm⟩;have HM:=Qq hm;clear hm;go_wp2_with fail;go_ret;exact⟨_,rfl,HM.out⟩
theorem Qr0(op:Int)(w:World)(ho:Yr op=true):Calls Tryz.prog 157 #[.int .i64 op] w fun e w'=>e=.returned (.int .i64 (Vk op))/\w=w':=by
 have h1:=(Dc op).1 ho;rcases Dh op with h|h|h|h|h|h|h|h|h|h|h|h|h|h|h|h|h|h|h|h|h|h|h
 ·omega
 ·omega
 all_goals(subst h;go_enter Tryz.func157,Tryz.ntmps157;go_wp2;go_ret;exact⟨rfl,rfl⟩)
theorem Qbv(l:List Nd):∀n∈Qf l,Yr n.op=true:=by
 intro n hn;by_cases h:check l=0
 ·exact((Jj h).2.2.2 n hn).1
 rw [Qzh h]at hn;cases hn
theorem Sy(v:Value)(l:List Nd)(w:World)(h:Jo w v l):
 Calls Tryz.prog 90 #[v] w fun e w'=>e=.returned (.int .i64 (Js l:Nat))/\Qg w w':=by
 have H:=Qq h;clear h;go_enter Tryz.func90,Tryz.ntmps90;go_wp2_with fail;refine(Sh _ l _ H.out).mono ?_;rintro e w1 ⟨u,rfl,hm⟩;have HX:=Qq hm.2.2;obtain⟨A,c,rfl,xU,yP,zN⟩:=hm.fml.1;unfold maxLen at yP;have HR:=Qq zN;obtain⟨cl,yR⟩:∃cl,cl=Qf l:=⟨_,rfl⟩;have tV:=Qq (show Js l=Kz cl by rw [yR];rfl);have xX:=Qq (Qbv l);rw [<-yR]at HR xU xX;rw [<-yR];clear hm zN yR;go_wp2_with fail;go_loopw [4,5] (fun out i wr=>∃k:Nat,k<=cl.length/\i=.int .i64 k/\out=.int .i64 (Kz (cl.take k):Nat)/\Qg w1 wr) (fun _ i _=>cl.length - (intOf i).toNat)
 case atStart=>exact⟨0,Nat.zero_le _,rfl,rfl,Qz⟩
 case round =>
  obtain⟨k,hk,rfl,rfl,yX⟩:=hrel;by_cases hlt2:k < cl.length
  ·obtain⟨a,ha⟩:∃a,cl[k]?=some a:=⟨_,Qv hlt2⟩;obtain⟨ad,rfl,yV,xV⟩:=HR.out (by intro e;rw [e]at hlt2;simp at hlt2);obtain⟨a0,a1,a2,a3,a4,a5⟩:=(xV k a ha).keep fun p hp=>yX.cell (p:=p) (by rw [hp,Qt];exact yV)
   have xJ:=Qz2 a.op;obtain⟨fa,pR⟩:=Int.eq_ofNat_of_zero_le xJ.1;have uM:=Dp (Kz (cl.take k)) fa (by have:=Pk (cl.take k);omega) (by omega);have HS:Hid (Kz (cl.take (k+1))=(Kz (cl.take k)|||fa)):=Qq (by rw [Kx ha,Qzv,pR];rfl);have nC:=Qq pR;have HO:=Qq (xX.out a (List.mem_of_getElem? ha));generalize Kz (cl.take k)=m at uM HS;clear ha xV xJ pR;go_wp2_with(go_at_call 157;refine(Qr0 a.op _ HO.out).mono ?_;rintro e w2 ⟨rfl,rfl⟩;rw [nC.out]);go_roundw
   case rel=>exact⟨k+1,by omega,by go_num,by rw [HS.out],yX⟩
   case measure=>simp [intOf];omega
  obtain rfl:cl.length=k:=by omega
  go_wp2_with fail;go_ret;exact⟨Ke (by rw [tV.out,List.take_of_length_le (Nat.le_refl _)]),HX.out.trans yX⟩
theorem Zjp(v1 v2:Value)(f g:List Nd)(w:World)(h1:Jo w v1 f)(h2:Jo w v2 g):
 Calls Tryz.prog 123 #[v1,v2] w fun e w'=>∃u,e=.returned u/\Yc w w' u (orN f g):=by
 have H1:=Qq h1;have H2:=Qq h2;obtain⟨A1,c1,rfl,_⟩:=Qc h1;obtain⟨A2,c2,rfl,_⟩:=Qc h2;clear h1 h2;go_enter Tryz.func123,Tryz.ntmps123;go_wp2_with fail;refine(Ui ⟨6,0,0,0,0,0⟩ _ [f,g] _ (Ff (Zq (by omega) (by omega)) (Zq (by omega) (by omega)) (Zq (by omega) (by omega)) (Zq (by omega) (by omega)) (Zq (by omega) (by omega)) (Zq (by omega) (by omega))) (Eq H1.out H2.out) (by simp)).mono ?_;rintro e w1 ⟨u,rfl,hm⟩;have HM:=Qq hm;clear hm;go_wp2_with fail;go_ret;exact⟨_,rfl,(HM.out.before (Qz.alloc _))⟩
theorem Qai(v1 v2:Value)(f g:List Nd)(w:World)(h1:Jo w v1 f)(h2:Jo w v2 g):
 Calls Tryz.prog 124 #[v1,v2] w fun e w'=>∃u,e=.returned u/\Yc w w' u (Qeb f g):=by
 have H1:=Qq h1;have H2:=Qq h2;obtain⟨A1,c1,rfl,_⟩:=Qc h1;obtain⟨A2,c2,rfl,_⟩:=Qc h2;clear h1 h2;go_enter Tryz.func124,Tryz.ntmps124;go_wp2_with fail;refine(Ui ⟨8,0,0,0,0,0⟩ _ [f,g] _ (Ff (Zq (by omega) (by omega)) (Zq (by omega) (by omega)) (Zq (by omega) (by omega)) (Zq (by omega) (by omega)) (Zq (by omega) (by omega)) (Zq (by omega) (by omega))) (Eq H1.out H2.out) (by simp)).mono ?_;rintro e w1 ⟨u,rfl,hm⟩;have HM:=Qq hm;clear hm;go_wp2_with fail;go_ret;exact⟨_,rfl,(HM.out.before (Qz.alloc _))⟩
def Qx6(g:Int)(a b:List Nd):List Nd:=Vv ⟨13,0,0,g,0,0⟩ [a,b]
theorem Qti(k:Int)(hk:Vm k)(v1 v2:Value)(f g:List Nd)(w:World)(h1:Jo w v1 f)(h2:Jo w v2 g):
 Calls Tryz.prog 125 #[.int .i64 k,v1,v2] w fun e w'=>∃u,e=.returned u/\Yc w w' u (Qx6 k f g):=by
 have H1:=Qq h1;have H2:=Qq h2;obtain⟨A1,c1,rfl,_⟩:=Qc h1;obtain⟨A2,c2,rfl,_⟩:=Qc h2;clear h1 h2;go_enter Tryz.func125,Tryz.ntmps125;go_wp2_with fail;refine(Ui ⟨13,0,0,k,0,0⟩ _ [f,g] _ (Ff (Zq (by omega) (by omega)) (Zq (by omega) (by omega)) (Zq (by omega) (by omega)) hk (Zq (by omega) (by omega)) (Zq (by omega) (by omega))) (Eq H1.out H2.out) (by simp)).mono ?_;rintro e w1 ⟨u,rfl,hm⟩;have HM:=Qq hm;clear hm;go_wp2_with fail;go_ret;exact⟨_,rfl,(HM.out.before (Qz.alloc _))⟩
def Om(g:Int)(a:List Nd):List (List Nd):=((List.range 4).filter fun i=>Vz g i).map fun(i:Nat)=>Gp (i:Int) a
def Qbn(e:List Nd):List (List Nd)->List Nd
 |[]=>e
 |f :: r=>r.foldl Bf (Qf f)
def Qvk(l:List (List Nd)):List Nd:=Qbn Qq8 l
def Jl(x:Nd)(a b:List Nd):List Nd :=
 bif x.op==1 then Qq8 else bif x.op==2 then Oh else bif x.op==3 then Qk4 x.i else bif x.op==4 then Kj a
 else bif x.op==9 then Gp x.i a else bif x.op==10 then Kj (Gp x.i (Kj a))
 else bif x.op==11 then Qvk (Om x.g a)
 else bif x.op==5 then Bf a b else bif x.op==6 then orN a b else bif x.op==7 then Qvi a b else bif x.op==8 then Qeb a b else Qx6 x.g a b
def Gw:List Nd->List (List Nd)->Option (List (List Nd))
 |[],d=>some d
 |x :: r,d=>bif decide ((Jl x (d.getD x.x.toNat []) (d.getD x.y.toNat [])).length=0)then none else Gw r (d++ [Jl x (d.getD x.x.toNat []) (d.getD x.y.toNat [])])
def Ja(f:List Nd):List Nd:=match Gw (Qf f) []with|none=> []|some d=>d.getLastD []
def Jm(n:Nd):Bool:=n.op==3||(n.op==9||n.op==13)
def Ul(i:Nat)(c:List Nd):List Nd:=Gp (i:Int) (Qvi (Jn c (Qw c).x) (Bf (Jn c (Qw c).y) c))
def Qyl(f:List Nd):List (List Nd):=Rc (Qf f)
def Yt(g:List Nd):List (List Nd):=(Qyl g).filter fun s=>Jm (Qw s)
def Vo(c:List Nd):List (List Nd):=bif (Qw c).op==13 then((List.range 4).filter fun i=>Vz (Qw c).g i).map fun i=>Ul i c else []
def Gl(l:List (List Nd))(g:List Nd):List (List Nd):=bif decide (Yx l g < 0)then l++ [g]else l
def Ka(g:List Nd):List (List Nd)×Int :=
 bif ((Yt g).flatMap Vo).any (fun u=>decide (u.length=0))||decide (12 < (((Yt g).flatMap Vo).foldl Gl (Yt g)).length)then([],8)
 else(((Yt g).flatMap Vo).foldl Gl (Yt g),0)
def Nr(f:List Nd):Bool:=(Js f&&&500) !=0
def Qm(f:List Nd):List (List Nd)×Int :=
 bif check f !=0 then([],check f)else bif Nr f then([],10)else bif decide ((Ja f).length=0)then([],8)else Ka (Ja f)
def Kt(base:List (List Nd))(f:List Nd):List Int:=(List.range f.length).map fun(i:Nat)=>bif Jm (f.getD i Nd.zero)then Yx base (Jn f (i:Int))else -1
def Kg(n:Nd)(k:Int)(t:Nat)(v:List Bool):Bool :=
 bif decide (0<=k)then t.testBit k.toNat
 else bif n.op==1 then true
 else bif n.op==4 then !v.getD n.x.toNat false
 else bif n.op==5 then v.getD n.x.toNat false&&v.getD n.y.toNat false
 else bif n.op==6 then v.getD n.x.toNat false||v.getD n.y.toNat false
 else bif n.op==7 then !v.getD n.x.toNat false||v.getD n.y.toNat false
 else bif n.op==8 then v.getD n.x.toNat false==v.getD n.y.toNat false
 else false
def Qzs(t:Nat):List Nd->List Int->List Bool->List Bool
 |n :: r,k :: s,v=>Qzs t r s (v++ [Kg n k t v])
 |_,_,v=>v
def atN(f:List Nd)(ps:List Int)(t:Nat):Bool:=(Qzs t f ps []).getLastD false
def Ya(base:List (List Nd))(f:List Nd):List Bool:=(List.range (2^base.length)).map fun t=>atN f (Kt base f) t
structure Kn where
 agent:Int
 place:Nat
 holds:List Bool
structure Cm where
 place:Nat
 group:Int
 x:List Bool
 y:List Bool
 parts:Nat
def Sj(base:List (List Nd))(g:List Nd):Nat:=((List.range 4).filter fun i=>Vz (Qw g).g i).foldl (fun p i=>p|||2^(Yx base (Ul i g)).toNat) 0
def Cb(base:List (List Nd))(g:List Nd)(i:Nat):List Kn:=bif (Qw g).op==9 then [⟨(Qw g).i,i,Ya base (Jn g (Qw g).x)⟩]else []
def Mv(base:List (List Nd))(g:List Nd)(i:Nat):List Cm:=bif (Qw g).op==13 then [⟨i,(Qw g).g,Ya base (Jn g (Qw g).x),Ya base (Jn g (Qw g).y),Sj base g⟩]else []
def Zr(base:List (List Nd)):List Kn:=(List.range base.length).flatMap fun i=>Cb base (base.getD i []) i
def Jt(base:List (List Nd)):List Cm:=(List.range base.length).flatMap fun i=>Mv base (base.getD i []) i
def Bp(lg:Int):Bool:=lg==2||(lg==4||lg==6)
def Ye(lg:Int)(ks:List Kn)(cs:List Cm)(t:Nat):Bool :=
 cs.all (fun c=>t.testBit c.place==((t&&&c.parts)==c.parts))&&ks.all (fun k=> !(Bp lg&&(t.testBit k.place&& !k.holds.getD t false)))
def Jz(lg:Int)(ks:List Kn)(a:Int)(t u:Nat):Bool:=ks.all fun k=>k.agent !=a||Kd lg (t.testBit k.place) (k.holds.getD u false) (u.testBit k.place)
def Xe(lg:Int)(ks:List Kn)(alive:List Bool)(a:Int)(t:Nat)(wanted:Nat->Bool)(u:Nat):Bool:=alive.getD u false&&(wanted u&&Jz lg ks a t u)
def Xa(lg:Int)(ks:List Kn)(alive:List Bool)(a:Int)(t:Nat)(wanted:Nat->Bool):Int:=match (List.range alive.length).find? (Xe lg ks alive a t wanted)with|none=> -1|some u=>u
def Pb(lg:Int)(ks:List Kn)(alive:List Bool)(c:Cm)(t u:Nat):Bool:=alive.getD u false&&(c.x.getD u false&&(List.range 4).any fun(a:Nat)=>Vz c.group a&&Jz lg ks (a:Int) t u)
open Classical in
noncomputable def Hq (lg:Int) (ks:List Kn) (alive:List Bool) (c:Cm) (t:Nat):Bool:=decide (∃u,Vi (fun a b=>Pb lg ks alive c a b=true) t u/\c.y.getD u false=false)
noncomputable def Vx (lg:Int) (ks:List Kn) (cs:List Cm) (alive:List Bool) (t:Nat) (num:Int):Bool :=
 bif decide (num < 0)then(lg==1||lg==5)&&(ks.any (fun k=>k.agent== -1 - num)&&decide (Xa lg ks alive (-1 - num) t (fun _=>true) < 0))
 else match ks.find? (fun k=>(k.place:Int)==num)with
  |some k=> !t.testBit num.toNat&&decide (Xa lg ks alive k.agent t (fun u=> !k.holds.getD u false) < 0)
  |none=>match cs.find? (fun c=>(c.place:Int)==num)with
   |some c=> !t.testBit num.toNat&& !Hq lg ks alive c t
   |none=>false
def Hv(alive root:List Bool):Bool:=(List.range alive.length).any fun t=>alive.getD t false&&root.getD t false
noncomputable def Tc (lg:Int) (ks:List Kn) (cs:List Cm) (m:Nat) (alive:List Bool) (t:Nat):Option Int :=
 ((List.range (m+4)).map fun(j:Nat)=>(j:Int) - 4).find? fun i=>Vx lg ks cs alive t i
def Xq(why:List Bool->Nat->Option Int):List Nat->List Bool×List (Nat×Int)->List Bool×List (Nat×Int)
 |[],s=>s
 |t :: r,s=>Xq why r (bif s.1.getD t false then(match why s.1 t with|none=>s|some i=>(s.1.set t false,s.2++ [(t,i)]))else s)
def Ss(why:List Bool->Nat->Option Int):Nat->List Bool×List (Nat×Int)->List Bool×List (Nat×Int)
 |0,s=>s
 |k+1,s=>bif (Xq why (List.range s.1.length) s).2.length==s.2.length then s else Ss why k (Xq why (List.range s.1.length) s)
noncomputable def Qk1 (lg:Int) (ks:List Kn) (cs:List Cm) (m:Nat) (alive:List Bool):List Bool×List (Nat×Int):=Ss (Tc lg ks cs m) (alive.length+1) (alive,[])
def Kp(lg:Int)(base:List (List Nd)):List Bool:=(List.range (2^base.length)).map fun t=>Ye lg (Zr base) (Jt base) t
def Ji(lg:Int)(f:List Nd):Int:=bif decide (lg < 0)||decide (6 < lg)then 1 else(Qm f).2
noncomputable def Rl (lg:Int) (f:List Nd):List Bool×List (Nat×Int):=Qk1 lg (Zr (Qm f).1) (Jt (Qm f).1) (Qm f).1.length (Kp lg (Qm f).1)
def Ry(f:List Nd):List Bool:=Ya (Qm f).1 (Ja f)
noncomputable def Ux (lg:Int) (f:List Nd):Bool:=Hv (Rl lg f).1 (Ry f)
noncomputable def Zkq (lg:Int) (f:List Nd):Int:=bif Ji lg f !=0 then Ji lg f else bif Ux lg f then 15 else 0
noncomputable def Zkb (lg:Int) (f:List Nd):Bool×Int:=bif Ji lg f !=0 then(false,Ji lg f)else(Ux lg f,0)
def Qb6(lk:List Bool->Nat->Int->Bool):List Nat->List Int->List Bool->Option (List Bool)
 |t :: r,i :: s,al=>bif decide (t < al.length)&&(al.getD t false&&lk al t i)then Qb6 lk r s (al.set t false)else none
 |_,_,al=>some al
noncomputable def Zv8 (lg:Int) (f:List Nd) (ts:List Nat) (ws:List Int):Int :=
 bif Ji lg f !=0 then Ji lg f else bif ts.length !=ws.length then 3
 else match Qb6 (Vx lg (Zr (Qm f).1) (Jt (Qm f).1)) ts ws (Kp lg (Qm f).1)with
  |none=>13
  |some al=>bif Hv al (Ry f)then 13 else 0
def Zo(t:Tr):List Nd:=bif decide (200 < (Qr t).length)then []else Qr t
theorem Gs {t:Tr}(h:(Qr t).length<=200):Zo t=Qr t:=by
 unfold Zo;rw [decide_eq_false (by omega)];rfl
theorem Xo {t:Tr}(h:200 < (Qr t).length):Zo t= []:=by
 unfold Zo;rw [decide_eq_true h];rfl
theorem Ch:check []≠0:=by decide
def Zkz(l:List Nd):List Nd:=bif decide (200 < (Ze l (l.length - 1) []).1.length)then []else(Ze l (l.length - 1) []).1
theorem Qxk(f:List Nd):f.map (Jp 0)=f:=by
 rw [show Jp 0=id from by funext m;unfold Jp;cases Qi m.op <;> cases Qe m.op <;> simp];simp
theorem Qtp {n:Nd} {f:List Nd}(hf:check f=0)(h1:Qi n.op=true)(h2:Qe n.op=false)(hh:Za n):Vv n [f]=Zo (.one n.head (Qh f)):=by
 obtain⟨cw,cl,cp,_⟩:=Jj hf;unfold Vv;have e0: [f].any (fun o=>check o !=0)=false:=by simp [hf]
 rw [e0,cond_false];have eL:Bo [f] 0 [] n=(Qf f,{ n with x:=((Qf f).length:Int) - 1 }):=by
  simp only [Bo,Hk,List.nil_append,List.length_nil,Qxk];rfl
 rw [eL];generalize hm:({ n with x:=((Qf f).length:Int) - 1 } :Nd)=m;have mo:m.op=n.op:=by rw [<-hm]
 have mx:m.x=((Qf f).length:Int) - 1:=by rw [<-hm]
 have mh:m.head=n.head:=by
  rw [<-hm];unfold Nd.head Nd.with_;simp [h1,h2]
 have dX:Za m:=by
  rw [<-hm];exact⟨hh.1,hh.2.1,hh.2.2.1,fun h=>by(rw [h1]at h;cases h),hh.2.2.2.2⟩
 have iJ:Zd m (Qf f).length=0:=dX.err (fun _=>by omega) (fun h=>by rw [mo,h2]at h;cases h);have hw:Wf (Qf f++ [m]):=Ha cw (fun _=>by omega) (fun h=>by rw [mo,h2]at h;cases h);have BP:tr (Qf f++ [m]) (Qf f).length=.one n.head (Qh f):=by
  rw [Xg hw (n:=m) (by simp)];unfold Yh;rw [mo,h1,h2,mh,mx];rw [show(((Qf f).length:Int) - 1).toNat=(Qf f).length - 1 by omega,By cw hw (List.prefix_append _ _) _ (by omega)];rw [show tr (Qf f) ((Qf f).length - 1)=Qh (Qf f)from rfl,Xz hf];rfl
 unfold Tx;have xB:(Ze (Qf f++ [m]) (Qf f).length []).1=Qr (.one n.head (Qh f)):=by
  rw [Mf hw _ _ (by simp),BP];rfl
 simp only [iJ,xB];rfl
theorem Qtc {n:Nd} {f g:List Nd}(hf:check f=0)(hg:check g=0)(h1:Qi n.op=true)(h2:Qe n.op=true)(hh:Za n):Vv n [f,g]=Zo (.two n.head (Qh f) (Qh g)):=by
 obtain⟨cw,cl,cp,_⟩:=Jj hf;obtain⟨dw,dl,dp,_⟩:=Jj hg;unfold Vv;have e0: [f,g].any (fun o=>check o !=0)=false:=by simp [hf,hg]
 rw [e0,cond_false];have eL:Bo [f,g] 0 [] n=(Qf f++(Qf g).map (Jp (Qf f).length),{ n with x:=((Qf f).length:Int) - 1,y:=((Qf f).length:Int)+(Qf g).length - 1 }):=by
  simp only [Bo,Hk,List.nil_append,List.length_nil,Qxk];simp
 rw [eL];have KJ:=Qkv cw dw;have hFl:(Qf f++(Qf g).map (Jp (Qf f).length)).length=(Qf f).length+(Qf g).length:=by simp
 have EW:tr (Qf f++(Qf g).map (Jp (Qf f).length)) ((Qf f).length - 1)=Qh f:=by
  rw [By cw KJ (List.prefix_append _ _) _ (by omega),show tr (Qf f) ((Qf f).length - 1)=Qh (Qf f)from rfl,Xz hf]
 have E7:tr (Qf f++(Qf g).map (Jp (Qf f).length)) ((Qf f).length+(Qf g).length - 1)=Qh g:=by
  rw [show(Qf f).length+(Qf g).length - 1=(Qf f).length+((Qf g).length - 1) by omega,Qwo cw dw _ (by omega),show tr (Qf g) ((Qf g).length - 1)=Qh (Qf g)from rfl,Xz hg]
 generalize Qf f++(Qf g).map (Jp (Qf f).length)=F at *;generalize hm:({ n with x:=((Qf f).length:Int) - 1,y:=((Qf f).length:Int)+(Qf g).length - 1 } :Nd)=m;have mo:m.op=n.op:=by rw [<-hm]
 have mx:m.x=((Qf f).length:Int) - 1:=by rw [<-hm]
 have my:m.y=((Qf f).length:Int)+(Qf g).length - 1:=by rw [<-hm]
 have mh:m.head=n.head:=by
  rw [<-hm];unfold Nd.head Nd.with_;simp [h1,h2]
 have dX:Za m:=by
  rw [<-hm];exact⟨hh.1,hh.2.1,hh.2.2.1,fun h=>by(rw [h1]at h;cases h),fun h=>by(rw [h2]at h;cases h)⟩
 have iJ:Zd m F.length=0:=dX.err (fun _=>by omega) (fun _=>by omega);have hw:Wf (F++ [m]):=Ha KJ (fun _=>by omega) (fun _=>by omega);have BP:tr (F++ [m]) F.length=.two n.head (Qh f) (Qh g):=by
  rw [Xg hw (n:=m) (by simp)];unfold Yh;rw [mo,h2,mh,mx,my];rw [show(((Qf f).length:Int) - 1).toNat=(Qf f).length - 1 by omega,By KJ hw (List.prefix_append _ _) _ (by omega),EW];rw [show(((Qf f).length:Int)+(Qf g).length - 1).toNat=(Qf f).length+(Qf g).length - 1 by omega,By KJ hw (List.prefix_append _ _) _ (by omega),E7];rfl
 unfold Tx;have xB:(Ze (F++ [m]) F.length []).1=Qr (.two n.head (Qh f) (Qh g)):=by
  rw [Mf hw _ _ (by simp),BP];rfl
 simp only [iJ,xB];rfl
theorem Qtm {n:Nd} {f:List Nd}(hf:check f≠0):Vv n [f]= []:=by
 unfold Vv;have e0: [f].any (fun o=>check o !=0)=true:=by simpa using hf
 rw [e0,cond_true]
theorem Qki {n:Nd} {f g:List Nd}(hf:check f≠0\/check g≠0):Vv n [f,g]= []:=by
 unfold Vv;have e0: [f,g].any (fun o=>check o !=0)=true:=by simp;exact hf
 rw [e0,cond_true]
def Can(l:List Nd):Prop:=l= []\/∃t:Tr,t.ok/\l=Qr t
theorem Lp(n:Nd):Qr (.leaf n)= [n]:=by simp [Qr,Ym,Zi]
theorem Ic {n:Nd}(h1:Qi n.op=false)(h2:Qe n.op=false)(hh:Za n):Zd n 0=0/\Vv n []= [n]:=by
 have iJ:Zd n 0=0:=hh.err (a:=0) (fun h=>by rw [h1]at h;cases h) (fun h=>by rw [h2]at h;cases h);refine⟨iJ,?_⟩;have hw:Wf ([]++ [n]):=Ha Nk (fun h=>by rw [h1]at h;cases h) (fun h=>by rw [h2]at h;cases h);have xB:(Ze ([]++ [n]) ([]:List Nd).length []).1= [n]:=by
  rw [Mf hw _ _ (by simp),Xg hw (n:=n) (by simp)];unfold Yh;rw [h1,h2];exact Lp n
 unfold Vv;show Tx [] n= [n];unfold Tx;have e:Zd n (([]:List Nd).length:Int)=0:=iJ;simp only [xB,e];rfl
theorem Qog(k:Int)(h:k=1\/k=2\/k=4\/k=5\/k=6):Za ⟨k,0,0,0,0,0⟩:=by
 rcases h with rfl|rfl|rfl|rfl|rfl <;> exact⟨by decide,by decide,by decide,fun _=>rfl,fun _=>rfl⟩
theorem Zvz {n:Nd}(h:Za n)(ho:n.op=3):Za ⟨3,n.i,0,0,0,0⟩:=by
 obtain⟨_,_,h3,_,_⟩:=h;refine⟨rfl,by simp [Zc,Zw,Zx,Zg,Zl],?_,fun _=>rfl,fun _=>rfl⟩;unfold Ys at h3⊢;rw [ho]at h3
 simpa [Ql,Zw,Zx,Zg,Zl]using h3
theorem Qfw:Qq8= [⟨1,0,0,0,0,0⟩]:=(Ic rfl rfl (Qog 1 (by omega))).2
theorem Qlz:Oh= [⟨2,0,0,0,0,0⟩]:=(Ic rfl rfl (Qog 2 (by omega))).2
def Zv2(x:Nd)(a b:List Nd):List Nd :=
 bif Qe x.op then Vv { x with x:=0,y:=0 } [a,b]else bif Qi x.op then Vv { x with x:=0,y:=0 } [a]else [{ x with x:=0,y:=0 }]
def Cl:Tr->List Tr->Tr
 |t,[]=>t
 |t,u :: r=>Cl (.two ⟨5,0,0,0,0,0⟩ t u) r
def Cf:List Tr->Tr
 |[]=> .leaf ⟨1,0,0,0,0,0⟩
 |t :: r=>Cl t r
def Ph(g:Int)(a:Tr):List Tr:=((List.range 4).filter fun i=>Vz g i).map fun(i:Nat)=> .one ⟨9,i,0,0,0,0⟩ a
def Rm(n:Nd)(a b:Tr):Tr :=
 if n.op=10 then .one ⟨4,0,0,0,0,0⟩ (.one ⟨9,n.i,0,0,0,0⟩ (.one ⟨4,0,0,0,0,0⟩ a))
 else if n.op=11 then Cf (Ph n.g a)
 else Yh n a b
def Va:Tr->Tr
 |.leaf n=> .leaf n
 |.one n a=>if n.op=10 then .one ⟨4,0,0,0,0,0⟩ (.one ⟨9,n.i,0,0,0,0⟩ (.one ⟨4,0,0,0,0,0⟩ (Va a)))else if n.op=11 then Cf (Ph n.g (Va a))else .one n (Va a)
 |.two n a b=> .two n (Va a) (Va b)
theorem Qir(n:Nd)(a b:Tr):Va (Yh n a b)=Rm n (Va a) (Va b):=by
 unfold Yh Rm;cases h2:Qe n.op
 ·cases h1:Qi n.op
  ·have xW:n.op≠10:=fun e=>by rw [e]at h1;cases h1
   have uT:n.op≠11:=fun e=>by rw [e]at h1;cases h1
   rw [if_neg xW,if_neg uT];unfold Yh;rw [h1,h2];rfl
  unfold Yh;rw [h1,h2];simp only [cond_false,cond_true,Va,Nb];rfl
 have xW:n.op≠10:=fun e=>by rw [e]at h2;cases h2
 have uT:n.op≠11:=fun e=>by rw [e]at h2;cases h2
 rw [if_neg xW,if_neg uT];unfold Yh;rw [h2];rfl
section
variable {M:KM}
theorem Qnr:∀(r:List Tr) (t:Tr) (w:M.W),M.sat (Cl t r) w↔M.sat t w/\∀u∈r,M.sat u w
 |[],t,w=>by simp [Cl]
 |u :: r,t,w=>by
  rw [Cl,Qnr r,Qgd];simp only [List.mem_cons,forall_eq_or_imp];exact and_assoc
theorem Zqm(l:List Tr)(w:M.W):M.sat (Cf l) w↔∀u∈l,M.sat u w:=by
 cases l with
 |nil=>simp [Cf,KM.sat]
 |cons t r=>rw [Cf,Qnr];simp
theorem Qhh(g:Int)(a:Tr)(w:M.W):M.sat (Cf (Ph g a)) w↔∀i:Nat,i < 4->Vz g i=true->∀v,M.R (i:Int) w v->M.sat a v:=by
 rw [Zqm];unfold Ph;constructor
 ·intro h i hi hg v hv;exact(Ur rfl).1 (h (.one ⟨9,i,0,0,0,0⟩ a) (List.mem_map.2 ⟨i,List.mem_filter.2 ⟨List.mem_range.2 hi,hg⟩,rfl⟩)) v hv
 intro h u hu;obtain⟨i,hi,rfl⟩:=List.mem_map.1 hu;obtain⟨h1,h2⟩:=List.mem_filter.1 hi;rw [Ur rfl];exact h i (List.mem_range.1 h1) h2
theorem Zqp {a:Tr} {w:M.W} :M.sat (.one ⟨4,0,0,0,0,0⟩ a) w↔¬M.sat a w:=by simp [KM.sat]
theorem Hh:∀(t:Tr) (w:M.W),M.sat (Va t) w↔M.sat t w
 |.leaf n,w=>Iff.rfl
 |.one n a,w=>by
  have ih:=Hh a;unfold Va;by_cases xW:n.op=10
  ·rw [if_pos xW,Zqp,Ur rfl];simp only [ih,KM.sat,xW,show ¬(10:Int)=4 by decide,show ¬(10:Int)=9 by decide,if_false,if_true];constructor
   ·intro h;obtain⟨v,hv⟩:=Classical.not_forall.1 h;obtain⟨h1,h2⟩:=Classical.not_imp.1 hv;exact⟨v,h1,Classical.not_not.1 h2⟩
   rintro⟨v,h1,h2⟩ h;exact h v h1 h2
  rw [if_neg xW];by_cases uT:n.op=11
  ·rw [if_pos uT,Qhh];simp only [ih,KM.sat,uT,show ¬(11:Int)=4 by decide,show ¬(11:Int)=9 by decide,show ¬(11:Int)=10 by decide,if_false,if_true]
  rw [if_neg uT];simp only [KM.sat,ih,xW,uT,if_false]
 |.two n a b,w=>by
  have iha:M.sat (Va a)=M.sat a:=funext fun v=>propext (Hh a v)
  have ihb:M.sat (Va b)=M.sat b:=funext fun v=>propext (Hh b v)
  simp only [Va,KM.sat,iha,ihb]
end
def Hd(t:Tr):Prop:=t.ok/\t.all Za
section
variable {n:Nd} {s t u:Tr}
theorem Hd.wf(h:Hd t):Wf (Qr t):=Ih h.1
theorem Hd.check(h:Hd t)(hl:(Qr t).length<=200):check (Qr t)=0:=by
 have hp:=Uj h.1;exact Qvb (by intro e;rw [e]at hp;simp at hp) hl h.wf (fun n hn=>Ly (fun _ k1 k2 h=>h.with_ k1 k2) t [] h.2 (fun n hn=>by cases hn) n hn)
theorem Hd.one(h1:Qi n.op=true)(h2:Qe n.op=false)(hh:Za n)(hn:n.head=n)(hs:Hd s):Hd (.one n s):=⟨⟨h1,h2,hn,hs.1⟩,hh,hs.2⟩
theorem Hd.two(h1:Qi n.op=true)(h2:Qe n.op=true)(hh:Za n)(hn:n.head=n)(hs:Hd s)(ht:Hd t):Hd (.two n s t):=⟨⟨h1,h2,hn,hs.1,ht.1⟩,hh,hs.2,ht.2⟩
theorem Qgj(hs:Hd s)(h1:Qi n.op=true)(h2:Qe n.op=false)(hh:Za n)(hn:n.head=n):Vv n [Zo s]=Zo (.one n s):=by
 have ho:(Tr.one n s).ok:=⟨h1,h2,hn,hs.1⟩;by_cases hl:(Qr s).length<=200
 ·rw [Gs hl,Qtp (hs.check hl) h1 h2 hh,hn,Ks hs.1]
 have:=Qsh ho;rw [Xo (t:=s) (by omega),Xo (t:=.one n s) (by omega),Qtm Ch]
theorem Qld(hs:Hd s)(ht:Hd t)(h1:Qi n.op=true)(h2:Qe n.op=true)(hh:Za n)(hn:n.head=n):Vv n [Zo s,Zo t]=Zo (.two n s t):=by
 have ho:(Tr.two n s t).ok:=⟨h1,h2,hn,hs.1,ht.1⟩;have zG:=Qgt ho;by_cases hl:(Qr s).length<=200
 ·by_cases hm:(Qr t).length<=200
  ·rw [Gs hl,Gs hm,Qtc (hs.check hl) (ht.check hm) h1 h2 hh,hn,Ks hs.1,Ks ht.1]
  rw [Xo (t:=t) (by omega),Xo (t:=.two n s t) (by omega),Qki (.inr Ch)]
 rw [Xo (t:=s) (by omega),Xo (t:=.two n s t) (by omega),Qki (.inl Ch)]
end
theorem Qt3 {s:Tr}(hs:Hd s):Qf (Zo s)=Zo s:=by
 by_cases hl:(Qr s).length<=200
 ·rw [Gs hl,Ug (hs.check hl),Ks hs.1]
 rw [Xo (by omega),Qzh Ch]
theorem Qt2 {s:Tr}(hs:Hd s)(hl:(Qr s).length<=200):Qf (Qr s)=Qr s:=by
 rw [Ug (hs.check hl),Ks hs.1]
theorem Qz3(k:Int)(hk:k=5\/k=7):Za ⟨k,0,0,0,0,0⟩:=by rcases hk with rfl|rfl <;> exact⟨rfl,rfl,rfl,fun _=>rfl,fun _=>rfl⟩
theorem Qdp:Za ⟨4,0,0,0,0,0⟩:=⟨rfl,rfl,rfl,fun _=>rfl,fun _=>rfl⟩
theorem Qxj {i:Int}(h0:0<=i)(h1:i < 4):Za ⟨9,i,0,0,0,0⟩:=by
 refine⟨rfl,by simp [Zc,Zw,Zx,Zg,Zl],?_,fun _=>rfl,fun _=>rfl⟩;simp [Ys,Ql,Zw,Zx,Zg,Zl];omega
theorem Qxz {s:Tr}(hs:Hd s):Hd (.one ⟨4,0,0,0,0,0⟩ s):=hs.one rfl rfl Qdp rfl
theorem Qyv {i:Int}(h0:0<=i)(h1:i < 4) {s:Tr}(hs:Hd s):Hd (.one ⟨9,i,0,0,0,0⟩ s):=hs.one rfl rfl (Qxj h0 h1) rfl
theorem Qp5 {s t:Tr}(hs:Hd s)(ht:Hd t):Hd (.two ⟨5,0,0,0,0,0⟩ s t):=hs.two rfl rfl (Qz3 5 (by omega)) rfl ht
theorem Zjg {s t:Tr}(hs:Hd s)(ht:Hd t):Hd (.two ⟨7,0,0,0,0,0⟩ s t):=hs.two rfl rfl (Qz3 7 (by omega)) rfl ht
theorem Qia:Hd (.leaf ⟨1,0,0,0,0,0⟩):=⟨⟨rfl,rfl⟩,rfl,rfl,rfl,fun _=>rfl,fun _=>rfl⟩
theorem Qka:∀(r:List Tr) (t:Tr),Hd t->(∀u∈r,Hd u)->(r.map Zo).foldl Bf (Zo t)=Zo (Cl t r)/\Hd (Cl t r)
 |[],t,ht,_=>⟨rfl,ht⟩
 |u :: r,t,ht,hr=>by
  have hu:=hr u (List.mem_cons_self ..);rw [List.map_cons,List.foldl_cons,show Bf (Zo t) (Zo u)=Zo (.two ⟨5,0,0,0,0,0⟩ t u)from Qld ht hu rfl rfl (Qz3 5 (by omega)) rfl];exact Qka r _ (Qp5 ht hu) (fun v hv=>hr v (List.mem_cons_of_mem _ hv))
theorem Qme(l:List Tr)(hl:∀u∈l,Hd u):Qvk (l.map Zo)=Zo (Cf l)/\Hd (Cf l):=by
 cases l with
 |nil=>exact⟨by rw [List.map_nil,Qvk,Qbn,Qfw,Cf,Gs (by rw [Lp];simp),Lp],Qia⟩
 |cons t r =>
  have ht:=hl t (List.mem_cons_self ..);rw [List.map_cons,Qvk,Qbn,Qt3 ht];exact Qka r t ht (fun v hv=>hl v (List.mem_cons_of_mem _ hv))
theorem Qrv {g:Int} {a:Tr}(ha:Hd a):Om g (Zo a)=(Ph g a).map Zo/\∀u∈Ph g a,Hd u:=by
 have hi:∀i∈(List.range 4).filter (fun i=>Vz g i),i < 4:=fun i h=>List.mem_range.1 (List.mem_filter.1 h).1
 constructor
 ·unfold Om Ph;rw [List.map_map];refine List.map_congr_left fun i h=> ?_
  exact Qgj ha rfl rfl (Qxj (by omega) (by have:=hi i h;omega)) rfl
 intro u hu;obtain⟨i,h,rfl⟩:=List.mem_map.1 hu;exact Qyv (by omega) (by have:=hi i h;omega) ha
def En(op:Int):Prop:=(1<=op/\op<=11)\/op=13
theorem Is {n:Nd}(h:Za n)(hk:n.op=1\/n.op=2\/n.op=4\/n.op=5\/n.op=6\/n.op=7\/n.op=8):n.head=⟨n.op,0,0,0,0,0⟩:=by
 obtain⟨op,i,e,g,x,y⟩:=n;obtain⟨_,h2,_,h4,h5⟩:=h;unfold Zc at h2;simp only at hk;rcases hk with rfl|rfl|rfl|rfl|rfl|rfl|rfl <;>(simp [Zw,Zx,Zg,Zl]at h2;obtain⟨⟨a,b⟩,c⟩:=h2;simp [Qi,Qe]at h4 h5;simp [Nd.head,Nd.with_,Qi,Qe,a,b,c];try first|exact⟨h4,h5⟩|exact h5)
theorem Qts {n:Nd}(h:Za n)(hk:n.op=3\/n.op=9):n.head=⟨n.op,n.i,0,0,0,0⟩:=by
 obtain⟨op,i,e,g,x,y⟩:=n;obtain⟨_,h2,_,h4,h5⟩:=h;unfold Zc at h2;simp only at hk;rcases hk with rfl|rfl <;>(simp [Zw,Zx,Zg,Zl]at h2;obtain⟨b,c⟩:=h2;simp [Qi,Qe]at h4 h5;simp [Nd.head,Nd.with_,Qi,Qe,b,c];try first|exact⟨h4,h5⟩|exact h5)
theorem Zyh {n:Nd}(h:Za n)(hk:n.op=13):n.head=⟨n.op,0,0,n.g,0,0⟩:=by
 obtain⟨op,i,e,g,x,y⟩:=n;obtain⟨_,h2,_,h4,h5⟩:=h;unfold Zc at h2;simp only at hk;subst hk;simp [Zw,Zx,Zg,Zl]at h2;obtain⟨a,b⟩:=h2;simp [Nd.head,Nd.with_,Qi,Qe,a,b]
theorem Qb1 {n:Nd}(h:Za n)(hk:n.op=9\/n.op=10):0<=n.i/\n.i < 4:=by
 obtain⟨_,_,h3,_,_⟩:=h;unfold Ys at h3;rcases hk with ho|ho <;>(rw [ho]at h3;simp [Ql,Zw,Zx,Zg,Zl]at h3;omega)
theorem Za.head {n:Nd}(h:Za n):Za n.head:=h.with_ 0 0
theorem Wx {n:Nd}(h1:Qi n.op=false)(h2:Qe n.op=false):n.head=n:=Qf3 h1 h2 0 0
theorem Qt9 {n:Nd} {a b:Tr}(hn:Za n)(ho:En n.op)(ha:Qi n.op=true->Hd a)(hb:Qe n.op=true->Hd b):Jl n (Zo a) (Zo b)=Zo (Rm n a b)/\Hd (Rm n a b):=by
 have zK:n.op=1\/n.op=2\/n.op=3\/n.op=4\/n.op=5\/n.op=6\/n.op=7\/n.op=8\/n.op=9\/n.op=10\/n.op=11\/n.op=13:=by unfold En at ho;omega
 have leafc:∀m:Nd,Zo (.leaf m)= [m]:=fun m=>by rw [Gs (by rw [Lp];simp),Lp]
 have hX:∀{k:Int},n.op=k->Qi k=true->Qi n.op=true:=fun h k=>by rw [h];exact k
 have hY:∀{k:Int},n.op=k->Qe k=true->Qe n.op=true:=fun h k=>by rw [h];exact k
 have nX:∀{k:Int},n.op=k->Qi k=false->Qi n.op=false:=fun h k=>by rw [h];exact k
 have nY:∀{k:Int},n.op=k->Qe k=false->Qe n.op=false:=fun h k=>by rw [h];exact k
 have m0:∀{k:Int},n.op=k->Qi k=false->Qe k=false->k≠10->k≠11->Rm n a b=.leaf n:=fun h h1 h2 h3 h4=>by
  unfold Rm Yh;rw [if_neg (by omega),if_neg (by omega),nX h h1,nY h h2];rfl
 have m1:∀{k:Int},n.op=k->Qi k=true->Qe k=false->k≠10->k≠11->Rm n a b=.one n.head a:=fun h h1 h2 h3 h4=>by
  unfold Rm Yh;rw [if_neg (by omega),if_neg (by omega),hX h h1,nY h h2];rfl
 have m2:∀{k:Int},n.op=k->Qe k=true->k≠10->k≠11->Rm n a b=.two n.head a b:=fun h h2 h3 h4=>by
  unfold Rm Yh;rw [if_neg (by omega),if_neg (by omega),hY h h2];rfl
 have two:∀{m:Nd},n.head=m->Qi m.op=true->Qe m.op=true->Hd a->Hd b->Vv m [Zo a,Zo b]=Zo (.two n.head a b)/\Hd (.two n.head a b):=fun {m} e h1 h2 h3 h4=>by
  subst e;exact⟨Qld h3 h4 h1 h2 hn.head (Lz n),h3.two h1 h2 hn.head (Lz n) h4⟩
 have one:∀{m:Nd},n.head=m->Qi m.op=true->Qe m.op=false->Hd a->Vv m [Zo a]=Zo (.one n.head a)/\Hd (.one n.head a):=fun {m} e h1 h2 h3=>by
  subst e;exact⟨Qgj h3 h1 h2 hn.head (Lz n),h3.one h1 h2 hn.head (Lz n)⟩
 have leaf:∀{k:Int},n.op=k->Qi k=false->Qe k=false->Hd (.leaf n):=fun h h1 h2=>⟨⟨nX h h1,nY h h2⟩,hn⟩
 rcases zK with h|h|h|h|h|h|h|h|h|h|h|h
 ·rw [m0 h rfl rfl (by omega) (by omega),leafc];refine⟨?_,leaf h rfl rfl⟩;have e:=Is hn (by omega);rw [Wx (nX h rfl) (nY h rfl),h]at e;simp only [Jl,h];exact Qfw.trans (by rw [<-e])
 ·rw [m0 h rfl rfl (by omega) (by omega),leafc];refine⟨?_,leaf h rfl rfl⟩;have e:=Is hn (by omega);rw [Wx (nX h rfl) (nY h rfl),h]at e;simp only [Jl,h];exact Qlz.trans (by rw [<-e])
 ·rw [m0 h rfl rfl (by omega) (by omega),leafc];refine⟨?_,leaf h rfl rfl⟩;have e:=Qts hn (by omega);rw [Wx (nX h rfl) (nY h rfl),h]at e;simp only [Jl,h];refine((Ic rfl rfl (Zvz hn h)).2).trans ?_;rw [<-e]
 ·rw [m1 h rfl rfl (by omega) (by omega)];have e:=Is hn (by omega);rw [h]at e;have:=one e rfl rfl (ha (hX h rfl));simp only [Jl,h];exact this
 ·rw [m2 h rfl (by omega) (by omega)];have e:=Is hn (by omega);rw [h]at e;have:=two e rfl rfl (ha (hX h rfl)) (hb (hY h rfl));simp only [Jl,h];exact this
 ·rw [m2 h rfl (by omega) (by omega)];have e:=Is hn (by omega);rw [h]at e;have:=two e rfl rfl (ha (hX h rfl)) (hb (hY h rfl));simp only [Jl,h];exact this
 ·rw [m2 h rfl (by omega) (by omega)];have e:=Is hn (by omega);rw [h]at e;have:=two e rfl rfl (ha (hX h rfl)) (hb (hY h rfl));simp only [Jl,h];exact this
 ·rw [m2 h rfl (by omega) (by omega)];have e:=Is hn (by omega);rw [h]at e;have:=two e rfl rfl (ha (hX h rfl)) (hb (hY h rfl));simp only [Jl,h];exact this
 ·rw [m1 h rfl rfl (by omega) (by omega)];have e:=Qts hn (by omega);rw [h]at e;have:=one e rfl rfl (ha (hX h rfl));simp only [Jl,h];exact this
 ·have hA:=ha (hX h rfl);have hi:=Qb1 hn (.inr h);have e1:Kj (Zo a)=Zo (.one ⟨4,0,0,0,0,0⟩ a):=Qgj hA rfl rfl Qdp rfl;have e2:Gp n.i (Zo (.one ⟨4,0,0,0,0,0⟩ a))=Zo (.one ⟨9,n.i,0,0,0,0⟩ (.one ⟨4,0,0,0,0,0⟩ a)):=Qgj (Qxz hA) rfl rfl (Qxj hi.1 hi.2) rfl;have e3:Kj (Zo (.one ⟨9,n.i,0,0,0,0⟩ (.one ⟨4,0,0,0,0,0⟩ a)))=Zo (.one ⟨4,0,0,0,0,0⟩ (.one ⟨9,n.i,0,0,0,0⟩ (.one ⟨4,0,0,0,0,0⟩ a))):=Qgj (Qyv hi.1 hi.2 (Qxz hA)) rfl rfl Qdp rfl;have em:Rm n a b=.one ⟨4,0,0,0,0,0⟩ (.one ⟨9,n.i,0,0,0,0⟩ (.one ⟨4,0,0,0,0,0⟩ a)):=by unfold Rm;rw [if_pos h]
  rw [em];refine⟨?_,Qxz (Qyv hi.1 hi.2 (Qxz hA))⟩;simp only [Jl,h];show Kj (Gp n.i (Kj (Zo a)))=_;rw [e1,e2,e3]
 ·have hA:=ha (hX h rfl);have em:Rm n a b=Cf (Ph n.g a):=by unfold Rm;rw [if_neg (by omega),if_pos h]
  rw [em];obtain⟨e1,e2⟩:=Qrv (g:=n.g) hA;obtain⟨e3,e4⟩:=Qme _ e2;refine⟨?_,e4⟩;simp only [Jl,h];show Qvk (Om n.g (Zo a))=_;rw [e1,e3]
 rw [m2 h rfl (by omega) (by omega)];have e:=Zyh hn h;rw [h]at e;have:=two e rfl rfl (ha (hX h rfl)) (hb (hY h rfl));simp only [Jl,h];exact this
def Mg(n:Nd):Prop:=(1<=n.op/\n.op<=9)\/n.op=13
def Xp(t:Tr):Prop:=Hd t/\t.all Mg
theorem Qso {op:Int}(h1:Qi op=true)(h2:Qe op=false)(h:(1<=op/\op<=9)\/op=13):op=4\/op=9:=by
 have:op=1\/op=2\/op=3\/op=4\/op=5\/op=6\/op=7\/op=8\/op=9\/op=13:=by omega
 rcases this with rfl|rfl|rfl|rfl|rfl|rfl|rfl|rfl|rfl|rfl <;> first|(cases h1;done)|(cases h2;done)|omega
theorem Qsi {op:Int}(h2:Qe op=true)(h:(1<=op/\op<=9)\/op=13):(5<=op/\op<=8)\/op=13:=by
 have:op=1\/op=2\/op=3\/op=4\/op=5\/op=6\/op=7\/op=8\/op=9\/op=13:=by omega
 rcases this with rfl|rfl|rfl|rfl|rfl|rfl|rfl|rfl|rfl|rfl <;> first|(cases h2;done)|omega
theorem Xp.lang:∀{t:Tr},Xp t->lang t
 |.leaf _,_=>trivial
 |.one _n a,h=>⟨Qso h.1.1.1 h.1.1.2.1 h.2.1,Xp.lang (t:=a) ⟨⟨h.1.1.2.2.2,h.1.2.2⟩,h.2.2⟩⟩
 |.two _n a b,h=>⟨Qsi h.1.1.2.1 h.2.1,Xp.lang (t:=a) ⟨⟨h.1.1.2.2.2.1,h.1.2.2.1⟩,h.2.2.1⟩,Xp.lang (t:=b) ⟨⟨h.1.1.2.2.2.2,h.1.2.2.2⟩,h.2.2.2⟩⟩
theorem Xp.fact:∀{t:Tr},Xp t->Oc t
 |.leaf n,h=>fun ho=>by
  have e:=Qts h.1.2 (.inl ho);rw [Wx h.1.1.1 h.1.1.2,ho]at e;exact e
 |.one n a,h=>Xp.fact (t:=a) ⟨⟨h.1.1.2.2.2,h.1.2.2⟩,h.2.2⟩
 |.two n a b,h=>⟨Xp.fact (t:=a) ⟨⟨h.1.1.2.2.2.1,h.1.2.2.1⟩,h.2.2.1⟩,Xp.fact (t:=b) ⟨⟨h.1.1.2.2.2.2,h.1.2.2.2⟩,h.2.2.2⟩⟩
theorem Xp.of_one {n:Nd} {a:Tr}(h:Xp (.one n a)):Xp a:=⟨⟨h.1.1.2.2.2,h.1.2.2⟩,h.2.2⟩
theorem Xp.of_two {n:Nd} {a b:Tr}(h:Xp (.two n a b)):Xp a/\Xp b:=⟨⟨⟨h.1.1.2.2.2.1,h.1.2.2.1⟩,h.2.2.1⟩,⟨h.1.1.2.2.2.2,h.1.2.2.2⟩,h.2.2.2⟩
theorem Xp.know {i:Int}(h0:0<=i)(h1:i < 4) {s:Tr}(hs:Xp s):Xp (.one ⟨9,i,0,0,0,0⟩ s):=⟨Qyv h0 h1 hs.1,.inl ⟨show(1:Int)<=9 by decide,show(9:Int)<=9 by decide⟩,hs.2⟩
theorem Xp.and {s t:Tr}(hs:Xp s)(ht:Xp t):Xp (.two ⟨5,0,0,0,0,0⟩ s t):=⟨Qp5 hs.1 ht.1,.inl ⟨by decide,by decide⟩,hs.2,ht.2⟩
theorem Xp.imp {s t:Tr}(hs:Xp s)(ht:Xp t):Xp (.two ⟨7,0,0,0,0,0⟩ s t):=⟨Zjg hs.1 ht.1,.inl ⟨by decide,by decide⟩,hs.2,ht.2⟩
theorem Xp.unf {i:Nat}(hi:i < 4) {n:Nd} {a b:Tr}(h:Xp (.two n a b)):Xp (Gf i n a b):=
 Xp.know (by omega) (by omega) (Xp.imp h.of_two.1 (Xp.and h.of_two.2 h))
theorem Xp.at {t:Tr}(h:Xp t) {i:Nat}(hi:i < (Qr t).length):Xp (tr (Qr t) i):=
 ⟨⟨Qbt h.1.wf _ hi,Ed (fun _ k1 k2 h=>h.with_ k1 k2) h.1.wf (Ly (fun _ k1 k2 h=>h.with_ k1 k2) t [] h.1.2 (fun n hn=>by cases hn)) _ hi⟩,
   Ed (P:=Mg) (fun _ _ _ k=>k) h.1.wf (Ly (P:=Mg) (fun _ _ _ k=>k) t [] h.2 (fun n hn=>by cases hn)) _ hi⟩
structure Xf (t:Tr):Prop where
 xp:Xp t
 len:(Qr t).length<=200
section
variable {t:Tr}
theorem Xf.check(h:Xf t):check (Qr t)=0:=h.xp.1.check h.len
theorem Xf.tree(h:Xf t):Qh (Qr t)=t:=Ks h.xp.1.1
theorem Xf.at(h:Xf t) {i:Nat}(hi:i < (Qr t).length):Xf (tr (Qr t) i):=⟨h.xp.at hi,Qx (Qqo h.xp.1.1 hi) h.len⟩
theorem Xf.of_one {n:Nd} {a:Tr}(h:Xf (.one n a)):Xf a:=⟨h.xp.of_one,Qx (Qsh h.xp.1.1) h.len⟩
theorem Xf.of_two {n:Nd} {a b:Tr}(h:Xf (.two n a b)):Xf a/\Xf b:=⟨⟨h.xp.of_two.1,Qx (Qgt h.xp.1.1).1 h.len⟩,⟨h.xp.of_two.2,Qx (Qgt h.xp.1.1).2 h.len⟩⟩
theorem Xf.short(h:Xf t):Zo t=Qr t:=Gs h.len
theorem Xf.inj {s:Tr}(hs:Xf s)(h:Xf t)(e:Qr s=Qr t):s=t:=Qm9 hs.xp.1.1 h.xp.1.1 e
theorem Xf.last(h:Xf t):(Qw (Qr t)).op=t.top.op:=by rw [Qii h.check,h.tree]
theorem Xf.base(h:Xf t):Jm (Qw (Qr t))=Jm t.top:=by unfold Jm;rw [h.last]
theorem Xf.unf {n:Nd} {a b:Tr}(h:Xf (.two n a b)) {i:Nat}(hi:i < 4):Ul i (Qr (.two n a b))=Zo (Gf i n a b):=by
 obtain⟨_,_,e1,e2⟩:=Tt h.check h.tree;have hb:=h.of_two.2;have ha:=h.of_two.1;unfold Ul Gf;rw [e1,e2,<-ha.short,<-hb.short,<-h.short];have h1:Bf (Zo b) (Zo (.two n a b))=Zo (.two ⟨5,0,0,0,0,0⟩ b (.two n a b)):=Qld hb.xp.1 h.xp.1 rfl rfl (Qz3 5 (by omega)) rfl;have h2:Qvi (Zo a) (Zo (.two ⟨5,0,0,0,0,0⟩ b (.two n a b)))=Zo (.two ⟨7,0,0,0,0,0⟩ a (.two ⟨5,0,0,0,0,0⟩ b (.two n a b))):=Qld ha.xp.1 (hb.xp.and h.xp).1 rfl rfl (Qz3 7 (by omega)) rfl;have h3:Gp (i:Int) (Zo (.two ⟨7,0,0,0,0,0⟩ a (.two ⟨5,0,0,0,0,0⟩ b (.two n a b))))=Zo (.one ⟨9,(i:Int),0,0,0,0⟩ (.two ⟨7,0,0,0,0,0⟩ a (.two ⟨5,0,0,0,0,0⟩ b (.two n a b)))):=Qgj (ha.xp.imp (hb.xp.and h.xp)).1 rfl rfl (Qxj (by omega) (by omega)) rfl
 rw [h1,h2,h3]
theorem Xf.subs(h:Xf t):Qyl (Qr t)=(List.range (Qr t).length).map fun i=>Qr (tr (Qr t) i):=by
 unfold Qyl Rc;rw [Qt2 h.xp.1 h.len];exact List.map_congr_left fun i hi=>Sf h.check (List.mem_range.1 hi)
theorem Xf.mem_base0(h:Xf t) {c:List Nd} :c∈Yt (Qr t)↔∃i,i < (Qr t).length/\c=Qr (tr (Qr t) i)/\Jm (tr (Qr t) i).top=true:=by
 unfold Yt;rw [h.subs,List.mem_filter,List.mem_map];constructor
 ·rintro⟨⟨i,hi,rfl⟩,hb⟩;have hi:=List.mem_range.1 hi;exact⟨i,hi,rfl,by rw [<-(h.at hi).base];exact hb⟩
 rintro⟨i,hi,rfl,hb⟩;exact⟨⟨i,List.mem_range.2 hi,rfl⟩,by rw [(h.at hi).base];exact hb⟩
theorem Xf.base0_nodup(h:Xf t):(Yt (Qr t)).Nodup:=by
 unfold Yt;rw [h.subs];refine List.Pairwise.filter _ ?_;rw [List.pairwise_map];refine List.Pairwise.imp_of_mem ?_ (List.nodup_iff_pairwise_ne.1 List.nodup_range);intro i j hi hj zQ e;have hi:=List.mem_range.1 hi;have hj:=List.mem_range.1 hj;exact zQ (Qm8 h.xp.1.1 i j hi hj ((h.at hi).inj (h.at hj) e))
end
theorem Qfb {l:List (List Nd)} {g:List Nd} :Yx l g < 0↔g∉l:=by
 unfold Yx;cases h:l.findIdx? fun f=>decide (f=g)with
 |none =>
  rw [List.findIdx?_eq_none_iff]at h;refine⟨fun _ hm=> ?_,fun _=>by decide⟩;have:=h g hm;simp at this
 |some j =>
  obtain⟨hj,he,_⟩:=List.findIdx?_eq_some_iff_getElem.1 h;refine⟨fun hn=> ?_,fun hn=> ?_⟩
  ·simp only at hn;omega
  have e:l[j]=g:=by simpa using he
  exact absurd (e▸List.getElem_mem hj) hn
theorem Xi {l:List (List Nd)}(hl:l.Nodup) {i:Nat} {g:List Nd}(hi:l[i]?=some g):Yx l g=i:=by
 obtain⟨jK,he⟩:=List.getElem?_eq_some_iff.1 hi;unfold Yx;have:l.findIdx? (fun f=>decide (f=g))=some i:=by
  rw [List.findIdx?_eq_some_iff_getElem];refine⟨jK,by simpa using he,fun j hj=> ?_⟩;have zQ:l[j]≠l[i]:=fun e=>by
   have:=(List.nodup_iff_pairwise_ne.1 hl);rw [List.pairwise_iff_getElem]at this;exact this j i (by omega) jK hj e
  rw [he]at zQ
  simpa using zQ
 rw [this]
theorem Qaj {l:List (List Nd)} {g c:List Nd} :c∈Gl l g↔c∈l\/c=g:=by
 unfold Gl;cases h:decide (Yx l g < 0)
 ·rw [decide_eq_false_iff_not,Qfb,Classical.not_not]at h;exact⟨.inl,fun k=>k.elim id fun e=>e▸h⟩
 simp
theorem Qtd {l:List (List Nd)} {g:List Nd}(h:l.Nodup):(Gl l g).Nodup:=by
 unfold Gl;cases k:decide (Yx l g < 0)
 ·exact h
 rw [decide_eq_true_iff,Qfb]at k;rw [cond_true,List.nodup_append];exact⟨h,by simp,fun a ha b hb e=>k (by rw [List.mem_singleton.1 hb]at e;exact e▸ha)⟩
theorem Qqv:∀(us:List (List Nd)) (l:List (List Nd)) (c:List Nd),c∈us.foldl Gl l↔c∈l\/c∈us
 |[],l,c=>by simp
 |u :: r,l,c=>by
  rw [List.foldl_cons,Qqv r,Qaj,List.mem_cons];exact or_assoc
theorem Qqk:∀(us:List (List Nd)) (l:List (List Nd)),l.Nodup->(us.foldl Gl l).Nodup
 |[],_,h=>h
 |_ :: r,_,h=>Qqk r _ (Qtd h)
structure Lr (l:List (List Nd)) (t:Tr):Prop where
 can:∀c∈l,∃s,Xf s/\c=Qr s/\Jm s.top=true
 nodup:l.Nodup
 closed:On (l.map Qh)
 cov:cov (l.map Qh) t
 len:l.length<=12
theorem Yw {l:List (List Nd)}(hl:∀c∈l,∃s,Xf s/\c=Qr s/\Jm s.top=true) {s:Tr} :s∈l.map Qh↔Xf s/\Qr s∈l:=by
 rw [List.mem_map];constructor
 ·rintro⟨c,hc,rfl⟩;obtain⟨u,hu,rfl,_⟩:=hl c hc;rw [hu.tree];exact⟨hu,hc⟩
 rintro⟨h1,h2⟩;exact⟨_,h2,h1.tree⟩
theorem Qzq {n:Nd} {a b:Tr}(h:Xf (.two n a b))(ho:n.op=13) {c:List Nd} :c∈Vo (Qr (.two n a b))↔∃i,i < 4/\Vz n.g i=true/\c=Zo (Gf i n a b):=by
 obtain⟨e1,e2,_,_⟩:=Tt h.check h.tree;unfold Vo;rw [e1,ho,e2];simp only [beq_self_eq_true,cond_true,List.mem_map,List.mem_filter,List.mem_range];constructor
 ·rintro⟨i,⟨h1,h2⟩,rfl⟩;exact⟨i,h1,h2,h.unf h1⟩
 rintro⟨i,h1,h2,rfl⟩;exact⟨i,⟨h1,h2⟩,h.unf h1⟩
theorem Hn {s:Tr}(h:Xf s)(ho:s.top.op≠13):Vo (Qr s)= []:=by
 unfold Vo;rw [h.last];have:(s.top.op==13)=false:=by simpa using ho
 rw [this];rfl
theorem If {s:Tr}(h:Xf s)(ho:s.top.op=13):∃n a b,s=.two n a b/\n.op=13:=by
 cases s with
 |leaf n=>have:=h.xp.1.1.2;rw [show n.op=13 from ho]at this;cases this
 |one n a=>have:=h.xp.1.1.2.1;rw [show n.op=13 from ho]at this;cases this
 |two n a b=>exact⟨n,a,b,rfl,ho⟩
theorem Qsq {t:Tr}(h:Xf t)(he:(Ka (Qr t)).2=0):Lr (Ka (Qr t)).1 t:=by
 unfold Ka at he⊢;cases hc:((Yt (Qr t)).flatMap Vo).any (fun u=>decide (u.length=0))||decide (12 < (((Yt (Qr t)).flatMap Vo).foldl Gl (Yt (Qr t))).length)
 case true=>rw [hc]at he;cases he
 rw [cond_false];rw [Bool.or_eq_false_iff]at hc;obtain⟨xV,tL⟩:=hc;generalize hl:((Yt (Qr t)).flatMap Vo).foldl Gl (Yt (Qr t))=l at tL;have wR:∀c,c∈l↔c∈Yt (Qr t)\/c∈(Yt (Qr t)).flatMap Vo:=fun c=>by rw [<-hl];exact Qqv _ _ _
 have zQ:∀u∈(Yt (Qr t)).flatMap Vo,u.length≠0:=fun u hu=>by
  have:=List.any_eq_false.1 xV u hu
  simpa using this
 have dE:∀u∈(Yt (Qr t)).flatMap Vo,∃i n a b k,k < (Qr t).length/\tr (Qr t) k=.two n a b/\Xf (.two n a b)/\n.op=13/\i < 4/\Vz n.g i=true/\Xf (Gf i n a b)/\u=Qr (Gf i n a b):=fun u hu=>by
  obtain⟨c,sF,rZ⟩:=List.mem_flatMap.1 hu;obtain⟨k,hk,rfl,_⟩:=h.mem_base0.1 sF;have hx:=h.at hk;by_cases ho:(tr (Qr t) k).top.op=13
  ·obtain⟨n,a,b,e,iA⟩:=If hx ho;rw [e]at hx rZ;obtain⟨i,hi,hg,rfl⟩:=(Qzq hx iA).1 rZ;have rF:=zQ _ hu;have zG:(Qr (Gf i n a b)).length<=200:=by
    by_cases e2:(Qr (Gf i n a b)).length<=200
    ·exact e2
    rw [Xo (by omega)]at rF;simp at rF
   exact⟨i,n,a,b,k,hk,e,hx,iA,hi,hg,⟨hx.xp.unf hi,zG⟩,Gs zG⟩
  rw [Hn hx ho]at rZ;cases rZ
 have oJ:∀c∈l,∃s,Xf s/\c=Qr s/\Jm s.top=true:=fun c hc=>by
  rcases(wR c).1 hc with h1|h1
  ·obtain⟨k,hk,rfl,hb⟩:=h.mem_base0.1 h1;exact⟨_,h.at hk,rfl,hb⟩
  obtain⟨i,n,a,b,_,_,_,_,_,_,_,hX,rfl⟩:=dE c h1;exact⟨_,hX,rfl,rfl⟩
 have TC:∀k,k < (Qr t).length->Jm (tr (Qr t) k).top=true->tr (Qr t) k∈l.map Qh:=fun k hk hb =>
  (Yw oJ).2 ⟨h.at hk,(wR _).2 (.inl (h.mem_base0.2 ⟨k,hk,rfl,hb⟩))⟩
 have aF:∀k,k < (Qr t).length->cov (l.map Qh) (tr (Qr t) k):=by
  intro k
  induction k using Nat.strongRecOn with
  |_ k ih =>
   intro hk;obtain⟨n,hn⟩:∃n,(Qr t)[k]?=some n:=⟨_,Qv hk⟩;obtain⟨hx,hy⟩:=h.xp.1.wf k n hn;have hs:=TC k hk;rw [Xg h.xp.1.wf hn]at hs⊢;unfold Yh at hs⊢;cases h2:Qe n.op
   ·cases h1:Qi n.op
    ·rw [h1,h2]at hs;exact fun h3=>hs (by simp [Jm,Tr.top,h3])
    rw [h1,h2]at hs;have:=hx h1;simp only [cond_false,cond_true,_root_.Go.Proofs.YtkmclcmnoicagaaGreatDoor.cov]at hs⊢;by_cases h9:n.head.op=9
    ·rw [if_pos h9];exact hs (by simp [Jm,Tr.top,h9])
    rw [if_neg h9];exact ih _ (by omega) (by omega)
   rw [h2]at hs;have:=hx (Vf h2);have:=hy h2;simp only [cond_true,_root_.Go.Proofs.YtkmclcmnoicagaaGreatDoor.cov]at hs⊢;by_cases xL:n.head.op=13
   ·rw [if_pos xL];exact hs (by simp [Jm,Tr.top,xL])
   rw [if_neg xL];exact⟨ih _ (by omega) (by omega),ih _ (by omega) (by omega)⟩
 have YA:∀k,k < (Qr t).length->∀n a b,tr (Qr t) k=.two n a b->cov (l.map Qh) a/\cov (l.map Qh) b:=fun k hk n a b e=>by
  obtain⟨m,hm⟩:∃m,(Qr t)[k]?=some m:=⟨_,Qv hk⟩;obtain⟨hx,hy⟩:=h.xp.1.wf k m hm;rw [Xg h.xp.1.wf hm]at e;obtain⟨h2,_,rfl,rfl⟩:=Qcc e;have:=hx (Vf h2);have:=hy h2;exact⟨aF _ (by omega),aF _ (by omega)⟩
 have TN:∀k,k < (Qr t).length->∀n a,tr (Qr t) k=.one n a->cov (l.map Qh) a:=fun k hk n a e=>by
  obtain⟨m,hm⟩:∃m,(Qr t)[k]?=some m:=⟨_,Qv hk⟩;obtain⟨hx,hy⟩:=h.xp.1.wf k m hm;rw [Xg h.xp.1.wf hm]at e;obtain⟨h1,_,_,rfl⟩:=Qcp e;have:=hx h1;exact aF _ (by omega)
 refine⟨oJ,by rw [<-hl];exact Qqk _ _ h.base0_nodup,⟨fun n a hm=> ?_,fun n a b hm=> ?_⟩,?_,by have:=of_decide_eq_false tL;show l.length<=12;omega⟩
 ·obtain⟨hX,oS⟩:=(Yw oJ).1 hm;have zK:n.op=9:=by
   obtain⟨s,hs,e,hb⟩:=oJ _ oS;have h4:=Qso hX.xp.1.1.1 hX.xp.1.1.2.1 hX.xp.2.1;rw [<-hX.inj hs e]at hb;simp only [Jm,Tr.top,Bool.or_eq_true,beq_iff_eq]at hb;omega
  refine⟨zK,?_,hX.of_one.xp.lang,Qb1 hX.xp.1.2.1 (.inl zK)⟩;rcases(wR _).1 oS with h1|h1
  ·obtain⟨k,hk,e,_⟩:=h.mem_base0.1 h1;exact TN k hk n a ((hX.inj (h.at hk) e).symm)
  obtain⟨i,n',a',b',k,hk,e,C7,ho,hi,hg,hU,eu⟩:=dE _ h1;have:=hX.inj hU eu;unfold Gf at this;injection this with _ e2;subst e2;obtain⟨c1,c2⟩:=YA k hk _ _ _ e;have xO:=TC k hk (by rw [e];simp [Jm,Tr.top,ho]);rw [e]at xO;simp only [_root_.Go.Proofs.YtkmclcmnoicagaaGreatDoor.cov,show ¬(7:Int)=13 by decide,show ¬(5:Int)=13 by decide,if_false,ho,if_true];exact⟨c1,c2,xO⟩
 ·obtain⟨hX,oS⟩:=(Yw oJ).1 hm;rcases(wR _).1 oS with h1|h1
  ·obtain⟨k,hk,e,hb⟩:=h.mem_base0.1 h1;have et:=hX.inj (h.at hk) e;have zK:n.op=13:=by
    have h5:=Qsi hX.xp.1.1.2.1 hX.xp.2.1;rw [<-et]at hb;simp only [Jm,Tr.top,Bool.or_eq_true,beq_iff_eq]at hb;omega
   obtain⟨c1,c2⟩:=YA k hk n a b et.symm;refine⟨zK,c1,c2,hX.of_two.1.xp.lang,hX.of_two.2.xp.lang,fun i hi hg=> ?_⟩;have hu:Zo (Gf i n a b)∈(Yt (Qr t)).flatMap Vo:=List.mem_flatMap.2 ⟨_,h1,(Qzq hX zK).2 ⟨i,hi,hg,rfl⟩⟩;have rF:=zQ _ hu;have zG:(Qr (Gf i n a b)).length<=200:=by
    by_cases e2:(Qr (Gf i n a b)).length<=200
    ·exact e2
    rw [Xo (by omega)]at rF;simp at rF
   refine(Yw oJ).2 ⟨⟨hX.xp.unf hi,zG⟩,(wR _).2 (.inr ?_)⟩;rw [<-Gs zG];exact hu
  obtain⟨i,n',a',b',k,hk,e,C7,ho,hi,hg,hU,eu⟩:=dE _ h1;have:=hX.inj hU eu;unfold Gf at this;cases this
 have hp:=Uj h.xp.1.1;have:=aF ((Qr t).length - 1) (by omega);rw [show tr (Qr t) ((Qr t).length - 1)=t from h.tree]at this;exact this
section
variable {t:Tr}
theorem Qw1(h:Xf t) {u:List Nd}(hu:u∈(Yt (Qr t)).flatMap Vo)(rF:u.length≠0):
 ∃i n a b,Xf (.two n a b)/\n.op=13/\i < 4/\Xf (Gf i n a b)/\u=Qr (Gf i n a b):=by
 obtain⟨c,sF,rZ⟩:=List.mem_flatMap.1 hu;obtain⟨k,hk,rfl,_⟩:=h.mem_base0.1 sF;have hx:=h.at hk;by_cases ho:(tr (Qr t) k).top.op=13
 ·obtain⟨n,a,b,e,iA⟩:=If hx ho;rw [e]at hx rZ;obtain⟨i,hi,hg,rfl⟩:=(Qzq hx iA).1 rZ;have zG:(Qr (Gf i n a b)).length<=200:=by
   by_cases e2:(Qr (Gf i n a b)).length<=200
   ·exact e2
   rw [Xo (by omega)]at rF;simp at rF
  exact⟨i,n,a,b,hx,iA,hi,⟨hx.xp.unf hi,zG⟩,Gs zG⟩
 rw [Hn hx ho]at rZ;cases rZ
def Cj(l0:List (List Nd))(k:Nat):List (List Nd):=(l0.take k).flatMap Vo
theorem Qtv {l0:List (List Nd)} {k:Nat} {u:List Nd}(h:u∈Cj l0 k):u∈l0.flatMap Vo:=by
 obtain⟨c,hc,hu⟩:=List.mem_flatMap.1 h;exact List.mem_flatMap.2 ⟨c,List.mem_of_mem_take hc,hu⟩
theorem Tj:∀(us l:List (List Nd)),l <+: us.foldl Gl l
 |[],l=>List.prefix_refl _
 |u :: r,l=>by
  rw [List.foldl_cons];refine List.IsPrefix.trans ?_ (Tj r _);unfold Gl;cases decide (Yx l u < 0)
  ·exact List.prefix_refl _
  exact List.prefix_append _ _
theorem Qds(us l:List (List Nd)):l.length<=(us.foldl Gl l).length:=(Tj us l).length_le
theorem Qm1(h:Xf t) {k:Nat} {ol:List (List Nd)} {c:List Nd}(tJ:ol=(Cj (Yt (Qr t)) k).foldl Gl (Yt (Qr t)))(zQ:∀u∈Cj (Yt (Qr t)) k,u.length≠0)(hc:ol[k]?=some c):
 Cj (Yt (Qr t)) (k+1)=Cj (Yt (Qr t)) k++Vo c/\∃s,Xf s/\c=Qr s:=by
 generalize rF:Yt (Qr t)=l0 at tJ zQ⊢;by_cases hk:k < l0.length
 ·have hp:l0 <+: ol:=tJ▸Tj _ _;have nM:l0[k]?=some c:=by
   obtain⟨r,rfl⟩:=hp;rw [List.getElem?_append_left hk]at hc;exact hc
  refine⟨?_,?_⟩
  ·unfold Cj;obtain⟨rH,e⟩:=List.getElem?_eq_some_iff.1 nM;rw [List.take_succ_eq_append_getElem rH,e,List.flatMap_append];simp
  have hm:c∈Yt (Qr t):=rF▸List.mem_of_getElem? nM;obtain⟨i,hi,rfl,_⟩:=h.mem_base0.1 hm;exact⟨_,h.at hi,rfl⟩
 have e:Cj l0 (k+1)=Cj l0 k:=by
  unfold Cj;rw [List.take_of_length_le (by omega),List.take_of_length_le (by omega)]
 have hm:c∈ol:=List.mem_of_getElem? hc;rw [tJ,Qqv]at hm;rcases hm with hm|hm
 ·have oS:c∈Yt (Qr t):=rF▸hm;obtain⟨i,hi,rfl,hb⟩:=h.mem_base0.1 oS;have RW:(ol.drop l0.length)[k - l0.length]?=some (Qr (tr (Qr t) i)):=by rw [List.getElem?_drop];rw [<-hc];congr 1;omega
  have gJ:ol.Nodup:=by rw [tJ,<-rF];exact Qqk _ _ h.base0_nodup
  have hp:l0 <+: ol:=tJ▸Tj _ _;obtain⟨r,hr⟩:=hp;rw [<-hr]at RW gJ;rw [List.drop_left]at RW;have:=(List.nodup_append.1 gJ).2.2 _ hm _ (List.mem_of_getElem? RW);exact absurd rfl this
 have hu:=zQ c hm;obtain⟨i,n,a,b,_,_,_,hX,rfl⟩:=Qw1 h (rF▸Qtv hm) hu;exact⟨by rw [e,Hn hX (by show(9:Int)≠13;decide),List.append_nil],_,hX,rfl⟩
theorem Zzq {l0:List (List Nd)} {k:Nat}(h:l0.length<=k):Cj l0 k=l0.flatMap Vo:=by
 unfold Cj;rw [List.take_of_length_le h]
theorem Qaf {l0:List (List Nd)} {k:Nat} {u:List Nd}(h:u∈Cj l0 k)(hl:u.length=0):(l0.flatMap Vo).any (fun u=>decide (u.length=0))=true:=by
 rw [List.any_eq_true];exact⟨u,Qtv h,by simp [hl]⟩
theorem Qmm(l0:List (List Nd))(k:Nat):∃r,l0.flatMap Vo=Cj l0 k++r:=by
 refine⟨(l0.drop k).flatMap Vo,?_⟩;unfold Cj;rw [<-List.flatMap_append,List.take_append_drop]
theorem Qm0 {l0:List (List Nd)} {k:Nat}(h:12 < ((Cj l0 k).foldl Gl l0).length):12 < ((l0.flatMap Vo).foldl Gl l0).length:=by
 obtain⟨r,e⟩:=Qmm l0 k;rw [e,List.foldl_append];exact Qy h (Qds r _)
theorem Qke {g:List Nd}(h:((Yt g).flatMap Vo).any (fun u=>decide (u.length=0))=true\/12 < (((Yt g).flatMap Vo).foldl Gl (Yt g)).length):Ka g=([],8):=by
 unfold Ka;rcases h with h|h
 ·rw [h];rfl
 rw [decide_eq_true h,Bool.or_true];rfl
theorem Qn9 {g:List Nd}(h:∀u∈(Yt g).flatMap Vo,u.length≠0)(hl:(((Yt g).flatMap Vo).foldl Gl (Yt g)).length<=12):Ka g=(((Yt g).flatMap Vo).foldl Gl (Yt g),0):=by
 unfold Ka;have e:((Yt g).flatMap Vo).any (fun u=>decide (u.length=0))=false:=by
  rw [List.any_eq_false];intro u hu;simp [h u hu]
 rw [e,decide_eq_false (by omega)];rfl
end
def Tm(c:List Nd)(q:Nat):List (List Nd):=bif (Qw c).op==13 then((List.range q).filter fun i=>Vz (Qw c).g i).map fun i=>Ul i c else []
theorem Qfo(c:List Nd):Tm c 0= []:=by
 unfold Tm;cases(Qw c).op==13 <;> rfl
theorem Qjh(c:List Nd):Tm c 4=Vo c:=rfl
theorem Zq5 {c:List Nd} {q:Nat}(h:((Qw c).op==13&&Vz (Qw c).g q)=false):Tm c (q+1)=Tm c q:=by
 unfold Tm;cases h1:(Qw c).op==13
 ·rfl
 rw [h1]at h;have h2:Vz (Qw c).g q=false:=h;simp only [cond_true];rw [List.range_succ,List.filter_append,List.map_append,List.filter_cons,h2];simp
theorem Qw0 {c:List Nd} {q:Nat}(h1:((Qw c).op==13)=true)(h2:Vz (Qw c).g q=true):Tm c (q+1)=Tm c q++ [Ul q c]:=by
 unfold Tm;rw [h1];simp only [cond_true];rw [List.range_succ,List.filter_append,List.map_append,List.filter_cons,h2];simp
theorem Qwi {c u:List Nd} {q:Nat}(hq:q<=4)(h:u∈Tm c q):u∈Vo c:=by
 rw [<-Qjh];unfold Tm at h⊢;cases h1:(Qw c).op==13
 ·rw [h1]at h;cases h
 rw [h1]at h;simp only [cond_true,List.mem_map,List.mem_filter,List.mem_range]at h⊢;obtain⟨i,⟨a,b⟩,e⟩:=h;exact⟨i,⟨by omega,b⟩,e⟩
def th(base:List (List Nd))(t:Nat)(f:Tr):Bool:=bif decide (0<=Yx base (Qr f))then t.testBit (Yx base (Qr f)).toNat else false
theorem Qkw(n:Nd):(n.op=3\/n.op=9\/n.op=13)\/((n.op==3)=false/\(n.op==9)=false/\(n.op==13)=false):=by
 by_cases h3:n.op=3
 ·exact .inl (.inl h3)
 by_cases h9:n.op=9
 ·exact .inl (.inr (.inl h9))
 by_cases xL:n.op=13
 ·exact .inl (.inr (.inr xL))
 exact .inr ⟨by simpa using h3,by simpa using h9,by simpa using xL⟩
theorem Qxs {base:List (List Nd)} {f:List Nd} {i:Nat} {n:Nd}(hi:f[i]?=some n):(Kt base f)[i]?=some (bif Jm n then Yx base (Jn f (i:Int))else -1):=by
 unfold Kt;rw [List.getElem?_map,List.getElem?_range (List.getElem?_eq_some_iff.1 hi).1];simp only [Option.map_some,Hs hi]
theorem Qxt(base:List (List Nd))(f:List Nd):(Kt base f).length=f.length:=by simp [Kt]
section
variable {base:List (List Nd)} {f:List Nd} {t i:Nat} {n:Nd}
theorem Qoo(hc:check f=0)(hi:f[i]?=some n)(v:List Bool)(hv:v=(List.range i).map fun j=>ev (th base t) (tr f j)):
 Kg n (bif Jm n then Yx base (Jn f (i:Int))else -1) t v=ev (th base t) (tr f i):=by
 have hw:=Yb hc;have jK:=(List.getElem?_eq_some_iff.1 hi).1;have hs:Jn f (i:Int)=Qr (tr f i):=Sf hc jK;have ht:=Xg hw hi;obtain⟨hx,hy⟩:=hw i n hi;have gx:Qi n.op=true->v.getD n.x.toNat false=ev (th base t) (tr f n.x.toNat):=fun h=>by
  have:=hx h;rw [hv,Qk,List.getElem?_map,List.getElem?_range (by omega)];rfl
 have gy:Qe n.op=true->v.getD n.y.toNat false=ev (th base t) (tr f n.y.toNat):=fun h=>by
  have:=hy h;rw [hv,Qk,List.getElem?_map,List.getElem?_range (by omega)];rfl
 have zK:=(Dc n.op).1 (Rw hc n (List.mem_of_getElem? hi)).1;rw [hs];by_cases hb:Jm n=true
 ·have hk:∀s:Tr,tr f i=s->ev (th base t) s=th base t s->Kg n (bif Jm n then Yx base (Qr (tr f i))else -1) t v=ev (th base t) (tr f i):=fun s e1 e2=>by
   rw [hb,cond_true,e1,e2];unfold Kg th;cases hd:decide (0<=Yx base (Qr s))
   ·simp only [cond_false];have ho:n.op=3\/n.op=9\/n.op=13:=by simpa [Jm]using hb
    rcases ho with ho|ho|ho <;> simp [ho]
   simp only [cond_true]
  have ho:n.op=3\/n.op=9\/n.op=13:=by simpa [Jm]using hb
  rcases ho with ho|ho|ho
  ·exact hk (.leaf n) (by rw [ht];simp [Yh,ho,Qi,Qe]) (by simp [ev,ho])
  ·exact hk (.one n.head (tr f n.x.toNat)) (by rw [ht];simp [Yh,ho,Qi,Qe]) (by simp [ev,Nb,ho])
  exact hk (.two n.head (tr f n.x.toNat) (tr f n.y.toNat)) (by rw [ht];simp [Yh,ho,Qi,Qe]) (by simp [ev,Nb,ho])
 have KG:Jm n=false:=by simpa using hb
 rw [KG,cond_false];have h3:n.op≠3/\n.op≠9/\n.op≠13:=by simpa [Jm]using KG
 have CP:decide ((0:Int)<= -1)=false:=by decide
 unfold Kg;rw [CP,cond_false,ht];by_cases h4:n.op=4
 ·rw [gx (by rw [h4];rfl)];simp [Yh,h4,Qi,Qe,ev,Nb]
 by_cases h5:n.op=5
 ·rw [gx (by rw [h5];rfl),gy (by rw [h5];rfl)];simp [Yh,h5,Qi,Qe,ev,Nb]
 by_cases h6:n.op=6
 ·rw [gx (by rw [h6];rfl),gy (by rw [h6];rfl)];simp [Yh,h6,Qi,Qe,ev,Nb]
 by_cases h7:n.op=7
 ·rw [gx (by rw [h7];rfl),gy (by rw [h7];rfl)];simp [Yh,h7,Qi,Qe,ev,Nb]
 by_cases h8:n.op=8
 ·rw [gx (by rw [h8];rfl),gy (by rw [h8];rfl)];simp [Yh,h8,Qi,Qe,ev,Nb]
 have b4:(n.op==4)=false:=by simpa using h4
 have b5:(n.op==5)=false:=by simpa using h5
 have b6:(n.op==6)=false:=by simpa using h6
 have b7:(n.op==7)=false:=by simpa using h7
 have b8:(n.op==8)=false:=by simpa using h8
 rw [b4,b5,b6,b7,b8];simp only [cond_false];unfold Yh;cases hY:Qe n.op
 ·cases hX:Qi n.op
  ·simp only [cond_false,ev,h3.1,if_false];cases n.op==1 <;> rfl
  have h1:n.op≠1:=fun e=>by rw [e]at hX;cases hX
  have b1:(n.op==1)=false:=by simpa using h1
  rw [b1];simp [ev,Nb,h4,h3.2.1]
 have h1:n.op≠1:=fun e=>by rw [e]at hY;cases hY
 have b1:(n.op==1)=false:=by simpa using h1
 rw [b1];simp [ev,Nb,h5,h6,h7,h8,h3.2.2]
theorem Qoy(hc:check f=0):∀(k i:Nat),i+k=f.length->Qzs t (f.drop i) ((Kt base f).drop i) ((List.range i).map fun j=>ev (th base t) (tr f j))=(List.range f.length).map fun j=>ev (th base t) (tr f j)
 |0,i,h=>by
  have e:i=f.length:=by omega
  subst e;rw [List.drop_length];rfl
 |k+1,i,h=>by
  have hi:f[i]?=some f[i]:=List.getElem?_eq_getElem (by omega);have hp:=Qxs (base:=base) hi;obtain⟨lZ,dP⟩:=List.getElem?_eq_some_iff.1 hp;rw [List.drop_eq_getElem_cons (show i < f.length by omega),List.drop_eq_getElem_cons lZ,dP];show Qzs t _ _ (_++ [_])=_;rw [Qoo hc hi _ rfl];have e:(List.range i).map (fun j=>ev (th base t) (tr f j))++ [ev (th base t) (tr f i)]=(List.range (i+1)).map fun j=>ev (th base t) (tr f j):=by
   rw [List.range_succ,List.map_append];rfl
  rw [e];exact Qoy hc k (i+1) (by omega)
theorem Zyc(hc:check f=0):atN f (Kt base f) t=ev (th base t) (Qh f):=by
 unfold atN;have h:=Qoy (base:=base) (t:=t) hc f.length 0 (by omega);simp only [List.drop_zero,List.range_zero,List.map_nil]at h;rw [h];have hp:=(Jf hc).1;obtain⟨k,hk⟩:∃k,f.length=k+1:=⟨f.length - 1,by omega⟩;rw [hk,List.range_succ,List.map_append,List.map_cons,List.map_nil];unfold Qh;rw [hk];simp
end
theorem Xr(base:List (List Nd))(f:List Nd):(Ya base f).length=2^base.length:=by simp [Ya]
theorem Qym {base:List (List Nd)} {f:List Nd}(hc:check f=0) {t:Nat}(ht:t < 2^base.length):(Ya base f).getD t false=ev (th base t) (Qh f):=by
 unfold Ya;rw [Qk,List.getElem?_map,List.getElem?_range ht];exact Zyc hc
def Qaz(a b:List Bool):Prop:=∀t,b.getD t false=true->a.getD t false=true
theorem Qns(l:List Bool)(t u:Nat):(l.set t false).getD u false=(bif u==t then false else l.getD u false):=by
 rw [Qk,List.getElem?_set,Qk];by_cases h:u=t
 ·subst h;simp
  split <;> rfl
 have:(u==t)=false:=by simpa using h
 rw [this,if_neg (fun e=>h e.symm)];rfl
theorem Zqa(l:List Bool)(t:Nat):Qaz l (l.set t false):=fun u h=>by
 rw [Qns]at h;cases e:u==t
 ·rw [e]at h;exact h
 rw [e]at h;cases h
def Ps(l:List Bool):Nat:=l.countP id
theorem Qsk:∀(l:List Bool) (t:Nat),l.getD t false=true->Ps (l.set t false)+1=Ps l
 |[],t,h=>by simp at h
 |a :: r,0,h=>by
  simp at h;subst h;simp [Ps]
 |a :: r,t+1,h=>by
  have ih:=Qsk r t (by simpa using h);unfold Ps at ih⊢;rw [List.set_cons_succ,List.countP_cons,List.countP_cons];omega
theorem Qk0(l:List Bool):Ps l<=l.length:=List.countP_le_length
section
variable {why:List Bool->Nat->Option Int}
def Uz(why:List Bool->Nat->Option Int)(s:List Bool×List (Nat×Int))(t:Nat):List Bool×List (Nat×Int):=
 bif s.1.getD t false then(match why s.1 t with|none=>s|some i=>(s.1.set t false,s.2++ [(t,i)]))else s
theorem Wn(t:Nat)(r:List Nat)(s:List Bool×List (Nat×Int)):Xq why (t :: r) s=Xq why r (Uz why s t):=rfl
theorem Qy7:∀(a b:List Nat) (s:List Bool×List (Nat×Int)),Xq why (a++b) s=Xq why b (Xq why a s)
 |[],_,_=>rfl
 |t :: r,b,s=>Qy7 r b (Uz why s t)
theorem Qwl(s:List Bool×List (Nat×Int))(t:Nat):(Uz why s t).1.length=s.1.length:=by
 unfold Uz;cases s.1.getD t false
 ·rfl
 cases why s.1 t with
 |none=>rfl
 |some i=>simp
theorem Qnz:∀(r:List Nat) (s:List Bool×List (Nat×Int)),(Xq why r s).1.length=s.1.length
 |[],_=>rfl
 |t :: r,s=>(Qnz r (Uz why s t)).trans (Qwl s t)
theorem Qq7(s:List Bool×List (Nat×Int))(t:Nat):
 (Uz why s t=s/\(s.1.getD t false=true->why s.1 t=none))\/(∃i,s.1.getD t false=true/\why s.1 t=some i/\Uz why s t=(s.1.set t false,s.2++ [(t,i)])):=by
 unfold Uz;cases h:s.1.getD t false
 ·exact .inl ⟨rfl,fun e=>by cases e⟩
 cases hw:why s.1 t with
 |none=>exact .inl ⟨rfl,fun _=>rfl⟩
 |some i=>exact .inr ⟨i,rfl,rfl,rfl⟩
theorem Qnp(s:List Bool×List (Nat×Int))(t:Nat):Ps (Uz why s t).1+(Uz why s t).2.length=Ps s.1+s.2.length/\s.2.length<=(Uz why s t).2.length:=by
 rcases Qq7 (why:=why) s t with⟨e,_⟩|⟨i,h,_,e⟩
 ·rw [e];exact⟨rfl,Nat.le_refl _⟩
 rw [e];have:=Qsk s.1 t h;simp only [List.length_append,List.length_singleton];omega
theorem Ey:∀(r:List Nat) (s:List Bool×List (Nat×Int)),Ps (Xq why r s).1+(Xq why r s).2.length=Ps s.1+s.2.length/\s.2.length<=(Xq why r s).2.length
 |[],_=>⟨rfl,Nat.le_refl _⟩
 |t :: r,s=>by
  have h1:=Qnp (why:=why) s t;have h2:=Ey r (Uz why s t);rw [Wn];omega
theorem Qjf:∀(r:List Nat) (s:List Bool×List (Nat×Int)),(Xq why r s).2.length=s.2.length->Xq why r s=s/\∀t∈r,s.1.getD t false=true->why s.1 t=none
 |[],s,_=>⟨rfl,fun t h=>by cases h⟩
 |t :: r,s,h=>by
  rw [Wn]at h;have h2:=(Ey (why:=why) r (Uz why s t)).2;rcases Qq7 (why:=why) s t with⟨e,hn⟩|⟨i,_,_,e⟩
  ·rw [e]at h;obtain⟨a,b⟩:=Qjf r s h;rw [Wn,e];refine⟨a,fun u hu=> ?_⟩;rcases List.mem_cons.1 hu with rfl|hu
   ·exact hn
   exact b u hu
  rw [e]at h h2;simp only [List.length_append,List.length_singleton]at h2;omega
theorem Qdx:∀(k:Nat) (s:List Bool×List (Nat×Int)),(Ss why k s).1.length=s.1.length
 |0,_=>rfl
 |k+1,s=>by
  unfold Ss;cases(Xq why (List.range s.1.length) s).2.length==s.2.length
  ·exact(Qdx k _).trans (Qnz _ _)
  rfl
theorem Qvm:∀(k:Nat) (s:List Bool×List (Nat×Int)),Ps s.1 < k->∀t,(Ss why k s).1.getD t false=true->why (Ss why k s).1 t=none
 |0,s,h,_=>by omega
 |k+1,s,h,t=>by
  unfold Ss;cases he:(Xq why (List.range s.1.length) s).2.length==s.2.length
  ·have zQ:(Xq why (List.range s.1.length) s).2.length≠s.2.length:=by simpa using he
   have hc:=Ey (why:=why) (List.range s.1.length) s;exact Qvm k _ (by omega) t
  intro ht;have hl:t < s.1.length:=by
   by_cases e:t < s.1.length
   ·exact e
   rw [cond_true,Qk,List.getElem?_eq_none (by omega)]at ht;cases ht
  exact(Qjf _ _ (by simpa using he)).2 t (List.mem_range.2 hl) ht
theorem Qfg {S:List Bool->Prop}(hS:∀(al:List Bool) (t:Nat) (i:Int),S al->al.getD t false=true->why al t=some i->S (al.set t false)):∀(r:List Nat) (s:List Bool×List (Nat×Int)),S s.1->S (Xq why r s).1
 |[],_,h=>h
 |t :: r,s,h=>by
  rw [Wn];refine Qfg hS r _ ?_;rcases Qq7 (why:=why) s t with⟨e,_⟩|⟨i,h1,h2,e⟩
  ·rw [e];exact h
  rw [e];exact hS _ _ _ h h1 h2
theorem Qze {S:List Bool->Prop}(hS:∀(al:List Bool) (t:Nat) (i:Int),S al->al.getD t false=true->why al t=some i->S (al.set t false)):∀(k:Nat) (s:List Bool×List (Nat×Int)),S s.1->S (Ss why k s).1
 |0,_,h=>h
 |k+1,s,h=>by
  unfold Ss;cases(Xq why (List.range s.1.length) s).2.length==s.2.length
  ·exact Qze hS k _ (Qfg hS _ _ h)
  exact h
end
section
variable {why:List Bool->Nat->Option Int} {lk:List Bool->Nat->Int->Bool} (mK:∀al t i,why al t=some i->lk al t i=true)
include mK
def Zv5(lk:List Bool->Nat->Int->Bool)(al0:List Bool)(s:List Bool×List (Nat×Int)):Prop:=Qb6 lk (s.2.map Prod.fst) (s.2.map Prod.snd) al0=some s.1
end
end Go.Proofs.YtkmclcmnoicagaaGreatDoor
