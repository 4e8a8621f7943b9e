/- The reference's Check, Sub, Compact and Same. -/
import Derived.Test.YtkmclcmnoicagaaGreatDoorK14
namespace Go.Proofs.YtkmclcmnoicagaaGreatDoor
set_option maxRecDepth 100000
set_option maxHeartbeats 128000000
open Go.RowKit
theorem Qeh {bw:Nat} {W0:World} {A:Option Addr} {c:Nat} {f:List Nd} {vd:Value}(hf:Wf f)(zO:∀n∈f,n.ok)(zH:f.length<=1000):
 ∀i:Nat,i < f.length->Qf8 bw W0 A c f vd i:=by
 intro i
 induction i using Nat.strongRecOn with
 |_ i ih =>
  intro hi w o d vo uD oA;obtain⟨n,hn⟩:∃n,f[i]?=some n:=⟨_,Qv hi⟩;rw [Int.toNat_natCast];rcases uD.done.2 i hi with hd|⟨wW,hd⟩
  ·refine Qea hf zO uD zH i n hn hd oA (fun z h0 h1=> ?_) _ _ rfl rfl;obtain⟨j,rfl⟩:=Int.eq_ofNat_of_zero_le h0;exact ih j (by omega) (by omega)
  refine(Qc6 uD zH i _ hi hd).mono ?_;rintro e w' ⟨rfl,rfl⟩;exact⟨vo,d,rfl,by rw [wW];exact uD,Gp.refl _ _⟩
theorem Gf(v:Value)(l:List Nd)(w:World)(h:Nds w v l):
 Calls Tryz.prog 13 #[v] w fun e w'=>e=.returned (.int .i64 (check l))/\Ext w w':=by
 obtain⟨A,c,rfl,xR,yO,zM⟩:=h;unfold maxLen at yO;by_cases h0:l.length=0
 ·have wF:check l=3:=by simp [check,h0]
  rw [h0,wF];clear wF zM;go_enter Tryz.func13,Tryz.ntmps13;go_wp2_with fail;go_ret;exact⟨rfl,Qz⟩
 have e0:((l.length:Int)==0)=false:=by rw [beq_eq_false_iff_ne];omega
 by_cases h1:200 < l.length
 ·have wF:check l=8:=by simp [check,h0,h1]
  rw [wF];clear wF zM;go_enter Tryz.func13,Tryz.ntmps13;go_wp2_with fail;go_ret;exact⟨rfl,Qz⟩
 have zQ:l≠ []:=fun e=>h0 (by simp [e])
 obtain⟨ad,rfl,zG,zJ⟩:=zM zQ;have HC:=Qq zJ;clear zJ;have HK:=Qq (show check l=Je l 0 by simp [check,h0,h1]);have hl:l.length<=200:=by omega
 clear h0 h1 zM;go_enter Tryz.func13,Tryz.ntmps13;go_wp2_with fail;go_loopw [3] (fun i wr=>∃k:Nat,k<=l.length/\i=.int .i64 k/\Hid (Je l 0=Je (l.drop k) k)/\Ext w wr) (fun i _=>l.length - (intOf i).toNat)
 case atStart=>exact⟨0,Nat.zero_le _,rfl,Qq rfl,Qz⟩
 case round =>
  obtain⟨k,hk,rfl,uB,yU⟩:=hrel;by_cases hlt2:k < l.length
  ·obtain⟨n,hn⟩:∃n,l[k]?=some n:=⟨_,Qv hlt2⟩;have wX:=Ht l k n hn;obtain⟨c0,c1,c2,c3,c4,c5⟩:=(HC.out k n hn).keep fun p hp=>yU.cell (p:=p) (by rw [hp,Qr];exact zG)
   by_cases he:Zv n k=0
   ·have kK:Hid (Je l 0=Je (l.drop (k+1)) ((k+1:Nat):Int)):=Qq (by rw [uB.out,wX,he];rfl);have hh:=Qq he;clear wX he hn uB;go_wp2_with(go_at_call 43;refine(Qyb n _ _).mono ?_;rintro e w1 ⟨rfl,hb⟩;rw [hh.out]);go_roundw
    case rel=>exact⟨k+1,by omega,by go_num,kK,yU.trans hb⟩
    case measure=>simp [intOf];omega
   have hh:(Zv n k !=0)=true:=by simpa using he
   have kK:Hid (Je l 0=Zv n k):=Qq (by rw [uB.out,wX,hh];rfl);clear wX he hn uB;go_wp2_with(go_at_call 43;refine(Qyb n _ _).mono ?_;rintro e w1 ⟨rfl,hb⟩);go_ret;exact⟨Kh (by rw [HK.out,kK.out]),yU.trans hb⟩
  obtain rfl:l.length=k:=by omega
  go_wp2_with fail;go_ret;refine⟨Kh ?_,yU⟩;rw [HK.out,uB.out];simp [Je]
theorem Qc2 {w W w4:World} {bw:Nat} {v v0 v1:Value} {t:TypeId}(hb:w.heap[bw]?=some (.cells #[v0,v1] t (0,0)))(zQ:v.ownBlock≠some bw)(he:Ext w W)(hg:W.grownBy w4 v.ownBlock):w4.heap[bw]?=some (.cells #[v0,v1] t (0,0)):=
 ((hg.block bw (Qy (Qf hb) he.size) (fun e=>zQ e.symm)).trans (he.block (Qf hb))).trans hb
structure Zzj (w1:World) (k:Nat) (vd:Value) (wr:World):Prop where
 blk:wr.heap[w1.heap.size]?=some (.cells #[.slice none 0 0,vd] 170 (0,0))
 row:wr.ownsRow (w1.heap.size+1) 3 1 vd k ((List.replicate k (-1:Int)).map (Value.int .i64))
 ext:Ext w1 wr
theorem Qe4 {w1 w4:World} {k:Nat} {v' v0:Value} {xs:List Value}(hb:w4.heap[w1.heap.size]?=some (.cells #[.slice none 0 0,v0] 170 (0,0)))(hr:w4.ownsRow (w1.heap.size+1) 3 1 v' (k+1) (xs++ [.int .i64 (-1)]))
 (zQ:v'.ownBlock≠some w1.heap.size)(hx:Ext w1 w4)(qY:xs=(List.replicate k (-1:Int)).map (Value.int .i64)):∃vd,Zzj w1 (k+1) vd (w4.setCell ⟨w1.heap.size,1,none⟩ v'):=by
 refine⟨v',Is hb _,ownsRow_setCell_other (a:=⟨w1.heap.size,1,none⟩) ?_ zQ _,Ext.setCell hx (Nat.le_refl _) _⟩;subst qY;rw [List.replicate_succ',List.map_append];exact hr
theorem Qk6(v:Value)(l:List Nd)(z:Int)(w:World)(h:Fml w v l):
 Calls Tryz.prog 175 #[v,.int .i64 z] w fun e w'=>∃u,e=.returned u/\Yo w w' u (Jn l z):=by
 have H:=Qq h;obtain⟨⟨A,c,rfl,yM⟩,zO⟩:=h;have kA:=Qq yM;have yS:=yM.1;have xI:=yM.2.1;unfold maxLen at xI;clear yM zO;by_cases hc:check l=0
 ·by_cases hz:z < 0
  ·have HR:=Qq (show Jn l z= [] by unfold Jn;simp [hz]);have HC:=Qq hc;clear hc;go_enter Tryz.func175,Tryz.ntmps175;go_wp2_with(go_at_call 13;refine(Gf _ l _ H.out.1).mono ?_;rintro e w1 ⟨rfl,hb⟩;rw [HC.out]);go_ret;exact⟨_,rfl,by rw [HR.out];exact(Yo.none_ _).after hb⟩
  by_cases hl:(l.length:Int)<=z
  ·have HR:=Qq (show Jn l z= [] by unfold Jn;simp [hl]);have HC:=Qq hc;clear hc;go_enter Tryz.func175,Tryz.ntmps175;go_wp2_with(go_at_call 13;refine(Gf _ l _ H.out.1).mono ?_;rintro e w1 ⟨rfl,hb⟩;rw [HC.out]);go_ret;exact⟨_,rfl,by rw [HR.out];exact(Yo.none_ _).after hb⟩
  obtain⟨r,rfl⟩:=Int.eq_ofNat_of_zero_le (show 0<=z by omega);have hr:r < l.length:=by omega
  have HR:=Qq (show Jn l r=(Za l r []).1 by
   unfold Jn;rw [hc];have h1:decide ((r:Int) < 0)=false:=by simp
   have h2:decide ((l.length:Int)<=(r:Int))=false:=by simp;omega
   rw [h1,h2]
   rfl)
  have HC:=Qq hc;have HL:=(Jg hc).2.1;obtain⟨i3,RS,BE,BD,BC⟩:=info_parts Qzl;have mO:decide ((r:Int) < 0)=false:=by simp
  have qN:decide (l.length<=r)=false:=by simp;omega
  clear hc;go_enter Tryz.func175,Tryz.ntmps175;go_wp2_with(go_at_call 13;refine(Gf _ l _ H.out.1).mono ?_;rintro e w1 ⟨rfl,hb⟩;rw [HC.out];have HB:=Qq hb;clear hb);go_loopw [6] (fun i wr=>∃k:Nat,k<=l.length/\i=.int .i64 k/\Hid (∃vd,Zzj w1 k vd wr)) (fun i _=>l.length - (intOf i).toNat)
  case atStart=>exact⟨0,Nat.zero_le _,rfl,Qq ⟨.slice none 0 0,heap_alloc_new _ _,World.ownsRow_nil _ _ _ _,Qz.alloc _⟩⟩
  case round =>
   obtain⟨k,hk,rfl,lT⟩:=hrel;obtain⟨vd,YH,XR,yU⟩:=lT.out;have lM:=Qq YH;have yJ:=Qq XR;clear YH XR lT;obtain⟨Ad,cd,rfl⟩:=Qs yJ.out;obtain⟨d0,d1,dfr,dlt⟩:=Gh lM.out;by_cases hlt2:k < l.length
   ·have xN:k+1<=maxLen:=by unfold maxLen;omega
    have xJ:(k+1)*8<=140737488355328:=by omega
    have wY:=dfr 1;have jT:=Qq (Qzn yJ.out);have OC:∀X,w1.heap.size+1<=(wr.alloc X).heap.size:=fun X=>by simp;omega
    obtain⟨xs,qY⟩:∃xs,xs=(List.replicate k (-1:Int)).map (Value.int .i64):=⟨_,rfl⟩;rw [<-qY]at yJ;have jN:=Qq qY;clear qY;go_wp2_with(at_builtin;refine wpList_append_own_at _ rfl _ _ 36 rfl (w1.heap.size+1) 3 i3 (.int .i64 0) 1 8 Tryz.underlying36 RS BE BD BC rfl (by decide) _ _ _ rfl (Zf yJ.out (Qz.alloc _)) _ 1 1 [.int .i64 (-1)] rfl rfl (Zm _ _ _ (by simp)) (fun u hu=>by rw [List.mem_singleton.1 hu];rfl) xN xJ (OC _) ?_);intro v' w4 yG yL _ uH;obtain⟨A4,c4,rfl⟩:=Qs yG;have uI:=Qq yG;have kb:=Qc2 lM.out jT.out (Qz.alloc _) yL
    have yI:=Qq ((Ext.alloc yU _).grown yL (fun g hg=>by have:=(yJ.out.lt g hg).1;omega));have GV:=Qq (Qzn yG);obtain⟨q0,q1,qfr,qlt⟩:=Gh kb;have qf1:=qfr 1;have KB:=Qq kb;clear yG yL uH kb d0 d1 dfr dlt wY;go_wp2_with fail;go_roundw
    case rel=>exact⟨k+1,by omega,by go_num,Qq (Qe4 KB.out uI.out GV.out yI.out jN.out)⟩
    case measure=>simp [intOf];omega
   obtain rfl:l.length=k:=by omega
   have VX:=Qq (Qeh (bw:=w1.heap.size) (W0:=w) (A:=A) (c:=c) (vd:=.slice Ad l.length cd) (Ym HC.out) H.out.2 (by omega) r hr)
   have IK:Hid (Bd w1.heap.size w wr A c l [] (List.replicate l.length (-1)) (.slice none 0 0) (.slice Ad l.length cd)):=
    Qq ⟨HB.out.trans yU,kA.out,lM.out,World.ownsRow_nil _ _ _ _,Kt yJ.out (Nat.le_succ_of_le HB.out.size),⟨by simp,fun i hi=> .inl (by simp [hi])⟩,HB.out.size,by simp⟩
   go_wp2_with fail;refine(VX.out _ _ _ _ IK.out (Wb l)).mono ?_;rw [Int.toNat_natCast];rintro e w5 ⟨vo5,d5,rfl,uD,wX⟩;obtain⟨q0,q1,qfr,qlt⟩:=Gh uD.blk;have HM:=Qq (show Yo w w5 vo5 (Jn l r) by rw [HR.out];exact⟨uD.row,uD.oks,uD.below⟩);obtain⟨A6,c6,rfl⟩:=Qs uD.row;clear uD wX;go_wp2_with fail;go_ret;exact⟨_,rfl,HM.out⟩
 have yT:(check l !=0)=true:=by simpa using hc
 have HR:=Qq (show Jn l z= [] by unfold Jn;rw [yT];rfl);clear hc;go_enter Tryz.func175,Tryz.ntmps175;go_wp2_with(go_at_call 13;refine(Gf _ l _ H.out.1).mono ?_;rintro e w1 ⟨rfl,hb⟩);go_ret;exact⟨_,rfl,by rw [HR.out];exact(Yo.none_ _).after hb⟩
theorem Rh(v:Value)(l:List Nd)(w:World)(h:Fml w v l):
 Calls Tryz.prog 110 #[v] w fun e w'=>∃u,e=.returned u/\Yo w w' u (Qg l):=by
 have H:=Qq h;obtain⟨⟨A,c,rfl,yM⟩,zO⟩:=h;have hl:=yM.1;have hm:=yM.2.1;unfold maxLen at hm;clear yM zO;go_enter Tryz.func110,Tryz.ntmps110;go_wp2_with fail;refine(Qk6 _ l _ _ H.out).mono ?_;rintro e w2 ⟨u,rfl,hm⟩;have HM:=Qq hm;clear hm;go_wp2_with fail;go_ret;exact⟨_,rfl,HM.out⟩
theorem Qry(op:Int)(w:World)(ho:Jd op=true):Calls Tryz.prog 157 #[.int .i64 op] w fun e w'=>e=.returned (.int .i64 (Vf op))/\w=w':=by
 have h1:=(Dq op).1 ho;rcases Dz op with h|h|h|h|h|h|h|h|h|h|h|h|h|h|h|h|h|h|h|h|h|h|h
 ·omega
 ·omega
 all_goals(subst h;go_enter Tryz.func157,Tryz.ntmps157;go_wp2;go_ret;exact⟨rfl,rfl⟩)
theorem Qfm(l:List Nd):∀n∈Qg l,Jd n.op=true:=by
 intro n hn;by_cases h:check l=0
 ·exact((Jf h).2.2.2 n hn).1
 rw [Qqr h]at hn;cases hn
theorem Tw(v:Value)(l:List Nd)(w:World)(h:Fml w v l):
 Calls Tryz.prog 90 #[v] w fun e w'=>e=.returned (.int .i64 (Jm l:Nat))/\Ext w w':=by
 have H:=Qq h;clear h;go_enter Tryz.func90,Tryz.ntmps90;go_wp2_with fail;refine(Rh _ l _ H.out).mono ?_;rintro e w1 ⟨u,rfl,hm⟩;have HX:=Qq hm.2.2;obtain⟨A,c,rfl,xR,yO,zM⟩:=hm.fml.1;unfold maxLen at yO;have HR:=Qq zM;obtain⟨cl,yS⟩:∃cl,cl=Qg l:=⟨_,rfl⟩;have tX:=Qq (show Jm l=Vi cl by rw [yS];rfl);have xU:=Qq (Qfm l);rw [<-yS]at HR xR xU;rw [<-yS];clear hm zM yS;go_wp2_with fail;go_loopw [4,5] (fun out i wr=>∃k:Nat,k<=cl.length/\i=.int .i64 k/\out=.int .i64 (Vi (cl.take k):Nat)/\Ext w1 wr) (fun _ i _=>cl.length - (intOf i).toNat)
 case atStart=>exact⟨0,Nat.zero_le _,rfl,rfl,Qz⟩
 case round =>
  obtain⟨k,hk,rfl,rfl,yU⟩:=hrel;by_cases hlt2:k < cl.length
  ·obtain⟨a,ha⟩:∃a,cl[k]?=some a:=⟨_,Qv hlt2⟩;obtain⟨ad,rfl,yT,xS⟩:=HR.out (by intro e;rw [e]at hlt2;simp at hlt2);obtain⟨a0,a1,a2,a3,a4,a5⟩:=(xS k a ha).keep fun p hp=>yU.cell (p:=p) (by rw [hp,Qr];exact yT)
   have yF:=Qqa a.op;obtain⟨fa,mN⟩:=Int.eq_ofNat_of_zero_le yF.1;have uL:=Bi (Vi (cl.take k)) fa (by have:=Mj (cl.take k);omega) (by omega);have HS:Hid (Vi (cl.take (k+1))=(Vi (cl.take k)|||fa)):=Qq (by rw [Kk ha,Iw,mN];rfl);have lH:=Qq mN;have HO:=Qq (xU.out a (List.mem_of_getElem? ha));generalize Vi (cl.take k)=m at uL HS;clear ha xS yF mN;go_wp2_with(go_at_call 157;refine(Qry a.op _ HO.out).mono ?_;rintro e w2 ⟨rfl,rfl⟩;rw [lH.out]);go_roundw
   case rel=>exact⟨k+1,by omega,by go_num,by rw [HS.out],yU⟩
   case measure=>simp [intOf];omega
  obtain rfl:cl.length=k:=by omega
  go_wp2_with fail;go_ret;exact⟨Kh (by rw [tX.out,List.take_of_length_le (Nat.le_refl _)]),HX.out.trans yU⟩
theorem Zz7(v1 v2:Value)(f g:List Nd)(w:World)(h1:Fml w v1 f)(h2:Fml w v2 g):
 Calls Tryz.prog 123 #[v1,v2] w fun e w'=>∃u,e=.returned u/\Yo w w' u (orN f g):=by
 have H1:=Qq h1;have H2:=Qq h2;obtain⟨A1,c1,rfl,_⟩:=Qh h1;obtain⟨A2,c2,rfl,_⟩:=Qh h2;clear h1 h2;go_enter Tryz.func123,Tryz.ntmps123;go_wp2_with fail;refine(Uw ⟨6,0,0,0,0,0⟩ _ [f,g] _ (Fx (Zy (by omega) (by omega)) (Zy (by omega) (by omega)) (Zy (by omega) (by omega)) (Zy (by omega) (by omega)) (Zy (by omega) (by omega)) (Zy (by omega) (by omega))) (Cl H1.out H2.out) (by simp)).mono ?_;rintro e w1 ⟨u,rfl,hm⟩;have HM:=Qq hm;clear hm;go_wp2_with fail;go_ret;exact⟨_,rfl,(HM.out.before (Qz.alloc _))⟩
theorem Qaj(v1 v2:Value)(f g:List Nd)(w:World)(h1:Fml w v1 f)(h2:Fml w v2 g):
 Calls Tryz.prog 124 #[v1,v2] w fun e w'=>∃u,e=.returned u/\Yo w w' u (Qaw f g):=by
 have H1:=Qq h1;have H2:=Qq h2;obtain⟨A1,c1,rfl,_⟩:=Qh h1;obtain⟨A2,c2,rfl,_⟩:=Qh h2;clear h1 h2;go_enter Tryz.func124,Tryz.ntmps124;go_wp2_with fail;refine(Uw ⟨8,0,0,0,0,0⟩ _ [f,g] _ (Fx (Zy (by omega) (by omega)) (Zy (by omega) (by omega)) (Zy (by omega) (by omega)) (Zy (by omega) (by omega)) (Zy (by omega) (by omega)) (Zy (by omega) (by omega))) (Cl H1.out H2.out) (by simp)).mono ?_;rintro e w1 ⟨u,rfl,hm⟩;have HM:=Qq hm;clear hm;go_wp2_with fail;go_ret;exact⟨_,rfl,(HM.out.before (Qz.alloc _))⟩
def Qxn(g:Int)(a b:List Nd):List Nd:=Vg ⟨13,0,0,g,0,0⟩ [a,b]
theorem Qtj(k:Int)(hk:Vs k)(v1 v2:Value)(f g:List Nd)(w:World)(h1:Fml w v1 f)(h2:Fml w v2 g):
 Calls Tryz.prog 125 #[.int .i64 k,v1,v2] w fun e w'=>∃u,e=.returned u/\Yo w w' u (Qxn k f g):=by
 have H1:=Qq h1;have H2:=Qq h2;obtain⟨A1,c1,rfl,_⟩:=Qh h1;obtain⟨A2,c2,rfl,_⟩:=Qh h2;clear h1 h2;go_enter Tryz.func125,Tryz.ntmps125;go_wp2_with fail;refine(Uw ⟨13,0,0,k,0,0⟩ _ [f,g] _ (Fx (Zy (by omega) (by omega)) (Zy (by omega) (by omega)) (Zy (by omega) (by omega)) hk (Zy (by omega) (by omega)) (Zy (by omega) (by omega))) (Cl H1.out H2.out) (by simp)).mono ?_;rintro e w1 ⟨u,rfl,hm⟩;have HM:=Qq hm;clear hm;go_wp2_with fail;go_ret;exact⟨_,rfl,(HM.out.before (Qz.alloc _))⟩
def Wj(g:Int)(a:List Nd):List (List Nd):=((List.range 4).filter fun i=>Vy g i).map fun(i:Nat)=>Gc (i:Int) a
def Qfi(e:List Nd):List (List Nd)->List Nd
 |[]=>e
 |f :: r=>r.foldl Fo (Qg f)
def Qys(l:List (List Nd)):List Nd:=Qfi Im l
def Jp(x:Nd)(a b:List Nd):List Nd :=
 bif x.op==1 then Im else bif x.op==2 then Wv else bif x.op==3 then Qkb x.i else bif x.op==4 then Kq a
 else bif x.op==9 then Gc x.i a else bif x.op==10 then Kq (Gc x.i (Kq a))
 else bif x.op==11 then Qys (Wj x.g a)
 else bif x.op==5 then Fo a b else bif x.op==6 then orN a b else bif x.op==7 then Qy7 a b else bif x.op==8 then Qaw a b else Qxn x.g a b
def Uq:List Nd->List (List Nd)->Option (List (List Nd))
 |[],d=>some d
 |x :: r,d=>bif decide ((Jp x (d.getD x.x.toNat []) (d.getD x.y.toNat [])).length=0)then none else Uq r (d++ [Jp x (d.getD x.x.toNat []) (d.getD x.y.toNat [])])
def Jo(f:List Nd):List Nd:=match Uq (Qg f) []with|none=> []|some d=>d.getLastD []
def Jh(n:Nd):Bool:=n.op==3||(n.op==9||n.op==13)
def Um(i:Nat)(c:List Nd):List Nd:=Gc (i:Int) (Qy7 (Jn c (Zz c).x) (Fo (Jn c (Zz c).y) c))
def Qjs(f:List Nd):List (List Nd):=Nh (Qg f)
def Ye(g:List Nd):List (List Nd):=(Qjs g).filter fun s=>Jh (Zz s)
def Vw(c:List Nd):List (List Nd):=bif (Zz c).op==13 then((List.range 4).filter fun i=>Vy (Zz c).g i).map fun i=>Um i c else []
def Gm(l:List (List Nd))(g:List Nd):List (List Nd):=bif decide (Yn l g < 0)then l++ [g]else l
def Kc(g:List Nd):List (List Nd)×Int :=
 bif ((Ye g).flatMap Vw).any (fun u=>decide (u.length=0))||decide (12 < (((Ye g).flatMap Vw).foldl Gm (Ye g)).length)then([],8)
 else(((Ye g).flatMap Vw).foldl Gm (Ye g),0)
def Dc(f:List Nd):Bool:=(Jm f&&&500) !=0
def Qm(f:List Nd):List (List Nd)×Int :=
 bif check f !=0 then([],check f)else bif Dc f then([],10)else bif decide ((Jo f).length=0)then([],8)else Kc (Jo f)
def Ks(base:List (List Nd))(f:List Nd):List Int:=(List.range f.length).map fun(i:Nat)=>bif Jh (f.getD i Nd.zero)then Yn base (Jn f (i:Int))else -1
def Kx(n:Nd)(k:Int)(t:Nat)(v:List Bool):Bool :=
 bif decide (0<=k)then t.testBit k.toNat
 else bif n.op==1 then true
 else bif n.op==4 then !v.getD n.x.toNat false
 else bif n.op==5 then v.getD n.x.toNat false&&v.getD n.y.toNat false
 else bif n.op==6 then v.getD n.x.toNat false||v.getD n.y.toNat false
 else bif n.op==7 then !v.getD n.x.toNat false||v.getD n.y.toNat false
 else bif n.op==8 then v.getD n.x.toNat false==v.getD n.y.toNat false
 else false
def Qqx(t:Nat):List Nd->List Int->List Bool->List Bool
 |n :: r,k :: s,v=>Qqx t r s (v++ [Kx n k t v])
 |_,_,v=>v
def atN(f:List Nd)(ps:List Int)(t:Nat):Bool:=(Qqx t f ps []).getLastD false
def Vq(base:List (List Nd))(f:List Nd):List Bool:=(List.range (2^base.length)).map fun t=>atN f (Ks base f) t
structure Kn where
 agent:Int
 place:Nat
 holds:List Bool
structure Cm where
 place:Nat
 group:Int
 x:List Bool
 y:List Bool
 parts:Nat
def Rv(base:List (List Nd))(g:List Nd):Nat:=((List.range 4).filter fun i=>Vy (Zz g).g i).foldl (fun p i=>p|||2^(Yn base (Um i g)).toNat) 0
def Mi(base:List (List Nd))(g:List Nd)(i:Nat):List Kn:=bif (Zz g).op==9 then [⟨(Zz g).i,i,Vq base (Jn g (Zz g).x)⟩]else []
def Lj(base:List (List Nd))(g:List Nd)(i:Nat):List Cm:=bif (Zz g).op==13 then [⟨i,(Zz g).g,Vq base (Jn g (Zz g).x),Vq base (Jn g (Zz g).y),Rv base g⟩]else []
def Zl(base:List (List Nd)):List Kn:=(List.range base.length).flatMap fun i=>Mi base (base.getD i []) i
def Jl(base:List (List Nd)):List Cm:=(List.range base.length).flatMap fun i=>Lj base (base.getD i []) i
def Bx(lg:Int):Bool:=lg==2||(lg==4||lg==6)
def Vz(lg:Int)(ks:List Kn)(cs:List Cm)(t:Nat):Bool :=
 cs.all (fun c=>t.testBit c.place==((t&&&c.parts)==c.parts))&&ks.all (fun k=> !(Bx lg&&(t.testBit k.place&& !k.holds.getD t false)))
def Jq(lg:Int)(ks:List Kn)(a:Int)(t u:Nat):Bool:=ks.all fun k=>k.agent !=a||Kb lg (t.testBit k.place) (k.holds.getD u false) (u.testBit k.place)
def Xc(lg:Int)(ks:List Kn)(alive:List Bool)(a:Int)(t:Nat)(wanted:Nat->Bool)(u:Nat):Bool:=alive.getD u false&&(wanted u&&Jq lg ks a t u)
def Xm(lg:Int)(ks:List Kn)(alive:List Bool)(a:Int)(t:Nat)(wanted:Nat->Bool):Int:=match (List.range alive.length).find? (Xc lg ks alive a t wanted)with|none=> -1|some u=>u
def Mx(lg:Int)(ks:List Kn)(alive:List Bool)(c:Cm)(t u:Nat):Bool:=alive.getD u false&&(c.x.getD u false&&(List.range 4).any fun(a:Nat)=>Vy c.group a&&Jq lg ks (a:Int) t u)
open Classical in
noncomputable def Pr (lg:Int) (ks:List Kn) (alive:List Bool) (c:Cm) (t:Nat):Bool:=decide (∃u,Rch (fun a b=>Mx lg ks alive c a b=true) t u/\c.y.getD u false=false)
noncomputable def Vb (lg:Int) (ks:List Kn) (cs:List Cm) (alive:List Bool) (t:Nat) (num:Int):Bool :=
 bif decide (num < 0)then(lg==1||lg==5)&&(ks.any (fun k=>k.agent== -1 - num)&&decide (Xm lg ks alive (-1 - num) t (fun _=>true) < 0))
 else match ks.find? (fun k=>(k.place:Int)==num)with
  |some k=> !t.testBit num.toNat&&decide (Xm lg ks alive k.agent t (fun u=> !k.holds.getD u false) < 0)
  |none=>match cs.find? (fun c=>(c.place:Int)==num)with
   |some c=> !t.testBit num.toNat&& !Pr lg ks alive c t
   |none=>false
def Pm(alive root:List Bool):Bool:=(List.range alive.length).any fun t=>alive.getD t false&&root.getD t false
noncomputable def Sm (lg:Int) (ks:List Kn) (cs:List Cm) (m:Nat) (alive:List Bool) (t:Nat):Option Int :=
 ((List.range (m+4)).map fun(j:Nat)=>(j:Int) - 4).find? fun i=>Vb lg ks cs alive t i
def Ko(why:List Bool->Nat->Option Int):List Nat->List Bool×List (Nat×Int)->List Bool×List (Nat×Int)
 |[],s=>s
 |t :: r,s=>Ko why r (bif s.1.getD t false then(match why s.1 t with|none=>s|some i=>(s.1.set t false,s.2++ [(t,i)]))else s)
def Rs(why:List Bool->Nat->Option Int):Nat->List Bool×List (Nat×Int)->List Bool×List (Nat×Int)
 |0,s=>s
 |k+1,s=>bif (Ko why (List.range s.1.length) s).2.length==s.2.length then s else Rs why k (Ko why (List.range s.1.length) s)
noncomputable def Qkx (lg:Int) (ks:List Kn) (cs:List Cm) (m:Nat) (alive:List Bool):List Bool×List (Nat×Int):=Rs (Sm lg ks cs m) (alive.length+1) (alive,[])
def Km(lg:Int)(base:List (List Nd)):List Bool:=(List.range (2^base.length)).map fun t=>Vz lg (Zl base) (Jl base) t
def Yj(lg:Int)(f:List Nd):Int:=bif decide (lg < 0)||decide (6 < lg)then 1 else(Qm f).2
noncomputable def Np (lg:Int) (f:List Nd):List Bool×List (Nat×Int):=Qkx lg (Zl (Qm f).1) (Jl (Qm f).1) (Qm f).1.length (Km lg (Qm f).1)
def Nx(f:List Nd):List Bool:=Vq (Qm f).1 (Jo f)
noncomputable def Uf (lg:Int) (f:List Nd):Bool:=Pm (Np lg f).1 (Nx f)
noncomputable def Zvm (lg:Int) (f:List Nd):Int:=bif Yj lg f !=0 then Yj lg f else bif Uf lg f then 15 else 0
noncomputable def Zv0 (lg:Int) (f:List Nd):Bool×Int:=bif Yj lg f !=0 then(false,Yj lg f)else(Uf lg f,0)
def Qbd(lk:List Bool->Nat->Int->Bool):List Nat->List Int->List Bool->Option (List Bool)
 |t :: r,i :: s,al=>bif decide (t < al.length)&&(al.getD t false&&lk al t i)then Qbd lk r s (al.set t false)else none
 |_,_,al=>some al
noncomputable def Zvt (lg:Int) (f:List Nd) (ts:List Nat) (ws:List Int):Int :=
 bif Yj lg f !=0 then Yj lg f else bif ts.length !=ws.length then 3
 else match Qbd (Vb lg (Zl (Qm f).1) (Jl (Qm f).1)) ts ws (Km lg (Qm f).1)with
  |none=>13
  |some al=>bif Pm al (Nx f)then 13 else 0
def Zw(t:Tr):List Nd:=bif decide (200 < (Qn t).length)then []else Qn t
theorem Gt {t:Tr}(h:(Qn t).length<=200):Zw t=Qn t:=by
 unfold Zw;rw [decide_eq_false (by omega)];rfl
theorem Xa {t:Tr}(h:200 < (Qn t).length):Zw t= []:=by
 unfold Zw;rw [decide_eq_true h];rfl
theorem Pk:check []≠0:=by decide
def Zvp(l:List Nd):List Nd:=bif decide (200 < (Za l (l.length - 1) []).1.length)then []else(Za l (l.length - 1) []).1
theorem Qkh(f:List Nd):f.map (Ja 0)=f:=by
 rw [show Ja 0=id from by funext m;unfold Ja;cases Qw m.op <;> cases Qc m.op <;> simp];simp
theorem Qs4 {n:Nd} {f:List Nd}(hf:check f=0)(h1:Qw n.op=true)(h2:Qc n.op=false)(hh:Zh n):Vg n [f]=Zw (.one n.head (Qe f)):=by
 obtain⟨cw,cl,cp,_⟩:=Jf hf;unfold Vg;have e0: [f].any (fun o=>check o !=0)=false:=by simp [hf]
 rw [e0,cond_false];have eL:Bs [f] 0 [] n=(Qg f,{ n with x:=((Qg f).length:Int) - 1 }):=by
  simp only [Bs,Pp,List.nil_append,List.length_nil,Qkh];rfl
 rw [eL];generalize hm:({ n with x:=((Qg f).length:Int) - 1 } :Nd)=m;have mo:m.op=n.op:=by rw [<-hm]
 have mx:m.x=((Qg f).length:Int) - 1:=by rw [<-hm]
 have mh:m.head=n.head:=by
  rw [<-hm];unfold Nd.head Nd.with_;simp [h1,h2]
 have eG:Zh m:=by
  rw [<-hm];exact⟨hh.1,hh.2.1,hh.2.2.1,fun h=>by(rw [h1]at h;cases h),hh.2.2.2.2⟩
 have iM:Zv m (Qg f).length=0:=eG.err (fun _=>by omega) (fun h=>by rw [mo,h2]at h;cases h);have hw:Wf (Qg f++ [m]):=Cg cw (fun _=>by omega) (fun h=>by rw [mo,h2]at h;cases h);have BW:tr (Qg f++ [m]) (Qg f).length=.one n.head (Qe f):=by
  rw [Xk hw (n:=m) (by simp)];unfold Yi;rw [mo,h1,h2,mh,mx];rw [show(((Qg f).length:Int) - 1).toNat=(Qg f).length - 1 by omega,Fa cw hw (List.prefix_append _ _) _ (by omega)];rw [show tr (Qg f) ((Qg f).length - 1)=Qe (Qg f)from rfl,Ki hf];rfl
 unfold Sy;have wW:(Za (Qg f++ [m]) (Qg f).length []).1=Qn (.one n.head (Qe f)):=by
  rw [Lx hw _ _ (by simp),BW];rfl
 simp only [iM,wW];rfl
theorem Qs5 {n:Nd} {f g:List Nd}(hf:check f=0)(hg:check g=0)(h1:Qw n.op=true)(h2:Qc n.op=true)(hh:Zh n):Vg n [f,g]=Zw (.two n.head (Qe f) (Qe g)):=by
 obtain⟨cw,cl,cp,_⟩:=Jf hf;obtain⟨dw,dl,dp,_⟩:=Jf hg;unfold Vg;have e0: [f,g].any (fun o=>check o !=0)=false:=by simp [hf,hg]
 rw [e0,cond_false];have eL:Bs [f,g] 0 [] n=(Qg f++(Qg g).map (Ja (Qg f).length),{ n with x:=((Qg f).length:Int) - 1,y:=((Qg f).length:Int)+(Qg g).length - 1 }):=by
  simp only [Bs,Pp,List.nil_append,List.length_nil,Qkh];simp
 rw [eL];have KL:=Qvc cw dw;have hFl:(Qg f++(Qg g).map (Ja (Qg f).length)).length=(Qg f).length+(Qg g).length:=by simp
 have FA:tr (Qg f++(Qg g).map (Ja (Qg f).length)) ((Qg f).length - 1)=Qe f:=by
  rw [Fa cw KL (List.prefix_append _ _) _ (by omega),show tr (Qg f) ((Qg f).length - 1)=Qe (Qg f)from rfl,Ki hf]
 have G2:tr (Qg f++(Qg g).map (Ja (Qg f).length)) ((Qg f).length+(Qg g).length - 1)=Qe g:=by
  rw [show(Qg f).length+(Qg g).length - 1=(Qg f).length+((Qg g).length - 1) by omega,Qwz cw dw _ (by omega),show tr (Qg g) ((Qg g).length - 1)=Qe (Qg g)from rfl,Ki hg]
 generalize Qg f++(Qg g).map (Ja (Qg f).length)=F at *;generalize hm:({ n with x:=((Qg f).length:Int) - 1,y:=((Qg f).length:Int)+(Qg g).length - 1 } :Nd)=m;have mo:m.op=n.op:=by rw [<-hm]
 have mx:m.x=((Qg f).length:Int) - 1:=by rw [<-hm]
 have my:m.y=((Qg f).length:Int)+(Qg g).length - 1:=by rw [<-hm]
 have mh:m.head=n.head:=by
  rw [<-hm];unfold Nd.head Nd.with_;simp [h1,h2]
 have eG:Zh m:=by
  rw [<-hm];exact⟨hh.1,hh.2.1,hh.2.2.1,fun h=>by(rw [h1]at h;cases h),fun h=>by(rw [h2]at h;cases h)⟩
 have iM:Zv m F.length=0:=eG.err (fun _=>by omega) (fun _=>by omega);have hw:Wf (F++ [m]):=Cg KL (fun _=>by omega) (fun _=>by omega);have BW:tr (F++ [m]) F.length=.two n.head (Qe f) (Qe g):=by
  rw [Xk hw (n:=m) (by simp)];unfold Yi;rw [mo,h2,mh,mx,my];rw [show(((Qg f).length:Int) - 1).toNat=(Qg f).length - 1 by omega,Fa KL hw (List.prefix_append _ _) _ (by omega),FA];rw [show(((Qg f).length:Int)+(Qg g).length - 1).toNat=(Qg f).length+(Qg g).length - 1 by omega,Fa KL hw (List.prefix_append _ _) _ (by omega),G2];rfl
 unfold Sy;have wW:(Za (F++ [m]) F.length []).1=Qn (.two n.head (Qe f) (Qe g)):=by
  rw [Lx hw _ _ (by simp),BW];rfl
 simp only [iM,wW];rfl
theorem Qs3 {n:Nd} {f:List Nd}(hf:check f≠0):Vg n [f]= []:=by
 unfold Vg;have e0: [f].any (fun o=>check o !=0)=true:=by simpa using hf
 rw [e0,cond_true]
theorem Qkv {n:Nd} {f g:List Nd}(hf:check f≠0\/check g≠0):Vg n [f,g]= []:=by
 unfold Vg;have e0: [f,g].any (fun o=>check o !=0)=true:=by simp;exact hf
 rw [e0,cond_true]
def Can(l:List Nd):Prop:=l= []\/∃t:Tr,t.ok/\l=Qn t
theorem Tm(n:Nd):Qn (.leaf n)= [n]:=by simp [Qn,ins,Zo]
theorem Wo {n:Nd}(h1:Qw n.op=false)(h2:Qc n.op=false)(hh:Zh n):Zv n 0=0/\Vg n []= [n]:=by
 have iM:Zv n 0=0:=hh.err (a:=0) (fun h=>by rw [h1]at h;cases h) (fun h=>by rw [h2]at h;cases h);refine⟨iM,?_⟩;have hw:Wf ([]++ [n]):=Cg Ds (fun h=>by rw [h1]at h;cases h) (fun h=>by rw [h2]at h;cases h);have wW:(Za ([]++ [n]) ([]:List Nd).length []).1= [n]:=by
  rw [Lx hw _ _ (by simp),Xk hw (n:=n) (by simp)];unfold Yi;rw [h1,h2];exact Tm n
 unfold Vg;show Sy [] n= [n];unfold Sy;have e:Zv n (([]:List Nd).length:Int)=0:=iM;simp only [wW,e];rfl
theorem Qwa(k:Int)(h:k=1\/k=2\/k=4\/k=5\/k=6):Zh ⟨k,0,0,0,0,0⟩:=by
 rcases h with rfl|rfl|rfl|rfl|rfl <;> exact⟨by decide,by decide,by decide,fun _=>rfl,fun _=>rfl⟩
theorem Zym {n:Nd}(h:Zh n)(ho:n.op=3):Zh ⟨3,n.i,0,0,0,0⟩:=by
 obtain⟨_,_,h3,_,_⟩:=h;refine⟨rfl,by simp [Zd,Zg,Qo,Qi,Zk],?_,fun _=>rfl,fun _=>rfl⟩;unfold Jt at h3⊢;rw [ho]at h3
 simpa [Qt,Zg,Qo,Qi,Zk]using h3
theorem Qfq:Im= [⟨1,0,0,0,0,0⟩]:=(Wo rfl rfl (Qwa 1 (by omega))).2
theorem Qtt:Wv= [⟨2,0,0,0,0,0⟩]:=(Wo rfl rfl (Qwa 2 (by omega))).2
def Zvf(x:Nd)(a b:List Nd):List Nd :=
 bif Qc x.op then Vg { x with x:=0,y:=0 } [a,b]else bif Qw x.op then Vg { x with x:=0,y:=0 } [a]else [{ x with x:=0,y:=0 }]
def Pj:Tr->List Tr->Tr
 |t,[]=>t
 |t,u :: r=>Pj (.two ⟨5,0,0,0,0,0⟩ t u) r
def Mo:List Tr->Tr
 |[]=> .leaf ⟨1,0,0,0,0,0⟩
 |t :: r=>Pj t r
def Mr(g:Int)(a:Tr):List Tr:=((List.range 4).filter fun i=>Vy g i).map fun(i:Nat)=> .one ⟨9,i,0,0,0,0⟩ a
def Nc(n:Nd)(a b:Tr):Tr :=
 if n.op=10 then .one ⟨4,0,0,0,0,0⟩ (.one ⟨9,n.i,0,0,0,0⟩ (.one ⟨4,0,0,0,0,0⟩ a))
 else if n.op=11 then Mo (Mr n.g a)
 else Yi n a b
def Va:Tr->Tr
 |.leaf n=> .leaf n
 |.one n a=>if n.op=10 then .one ⟨4,0,0,0,0,0⟩ (.one ⟨9,n.i,0,0,0,0⟩ (.one ⟨4,0,0,0,0,0⟩ (Va a)))else if n.op=11 then Mo (Mr n.g (Va a))else .one n (Va a)
 |.two n a b=> .two n (Va a) (Va b)
theorem Qo0(n:Nd)(a b:Tr):Va (Yi n a b)=Nc n (Va a) (Va b):=by
 unfold Yi Nc;cases h2:Qc n.op
 ·cases h1:Qw n.op
  ·have xQ:n.op≠10:=fun e=>by rw [e]at h1;cases h1
   have uR:n.op≠11:=fun e=>by rw [e]at h1;cases h1
   rw [if_neg xQ,if_neg uR];unfold Yi;rw [h1,h2];rfl
  unfold Yi;rw [h1,h2];simp only [cond_false,cond_true,Va,Dp];rfl
 have xQ:n.op≠10:=fun e=>by rw [e]at h2;cases h2
 have uR:n.op≠11:=fun e=>by rw [e]at h2;cases h2
 rw [if_neg xQ,if_neg uR];unfold Yi;rw [h2];rfl
section
variable {M:KM}
theorem Qd0:∀(r:List Tr) (t:Tr) (w:M.W),M.sat (Pj t r) w↔M.sat t w/\∀u∈r,M.sat u w
 |[],t,w=>by simp [Pj]
 |u :: r,t,w=>by
  rw [Pj,Qd0 r,Qx1];simp only [List.mem_cons,forall_eq_or_imp];exact and_assoc
theorem Qi4(l:List Tr)(w:M.W):M.sat (Mo l) w↔∀u∈l,M.sat u w:=by
 cases l with
 |nil=>simp [Mo,KM.sat]
 |cons t r=>rw [Mo,Qd0];simp
theorem Qc8(g:Int)(a:Tr)(w:M.W):M.sat (Mo (Mr g a)) w↔∀i:Nat,i < 4->Vy g i=true->∀v,M.R (i:Int) w v->M.sat a v:=by
 rw [Qi4];unfold Mr;constructor
 ·intro h i hi hg v hv;exact(Ut rfl).1 (h (.one ⟨9,i,0,0,0,0⟩ a) (List.mem_map.2 ⟨i,List.mem_filter.2 ⟨List.mem_range.2 hi,hg⟩,rfl⟩)) v hv
 intro h u hu;obtain⟨i,hi,rfl⟩:=List.mem_map.1 hu;obtain⟨h1,h2⟩:=List.mem_filter.1 hi;rw [Ut rfl];exact h i (List.mem_range.1 h1) h2
theorem Qi5 {a:Tr} {w:M.W} :M.sat (.one ⟨4,0,0,0,0,0⟩ a) w↔¬M.sat a w:=by simp [KM.sat]
theorem Cx:∀(t:Tr) (w:M.W),M.sat (Va t) w↔M.sat t w
 |.leaf n,w=>Iff.rfl
 |.one n a,w=>by
  have ih:=Cx a;unfold Va;by_cases xQ:n.op=10
  ·rw [if_pos xQ,Qi5,Ut rfl];simp only [ih,KM.sat,xQ,show ¬(10:Int)=4 by decide,show ¬(10:Int)=9 by decide,if_false,if_true];constructor
   ·intro h;obtain⟨v,hv⟩:=Classical.not_forall.1 h;obtain⟨h1,h2⟩:=Classical.not_imp.1 hv;exact⟨v,h1,Classical.not_not.1 h2⟩
   rintro⟨v,h1,h2⟩ h;exact h v h1 h2
  rw [if_neg xQ];by_cases uR:n.op=11
  ·rw [if_pos uR,Qc8];simp only [ih,KM.sat,uR,show ¬(11:Int)=4 by decide,show ¬(11:Int)=9 by decide,show ¬(11:Int)=10 by decide,if_false,if_true]
  rw [if_neg uR];simp only [KM.sat,ih,xQ,uR,if_false]
 |.two n a b,w=>by
  have iha:M.sat (Va a)=M.sat a:=funext fun v=>propext (Cx a v)
  have ihb:M.sat (Va b)=M.sat b:=funext fun v=>propext (Cx b v)
  simp only [Va,KM.sat,iha,ihb]
end
def Hd(t:Tr):Prop:=t.ok/\t.all Zh
section
variable {n:Nd} {s t u:Tr}
theorem Hd.wf(h:Hd t):Wf (Qn t):=Wi h.1
theorem Hd.check(h:Hd t)(hl:(Qn t).length<=200):check (Qn t)=0:=by
 have hp:=Uv h.1;exact Qyp (by intro e;rw [e]at hp;simp at hp) hl h.wf (fun n hn=>Tq (fun _ k1 k2 h=>h.with_ k1 k2) t [] h.2 (fun n hn=>by cases hn) n hn)
theorem Hd.one(h1:Qw n.op=true)(h2:Qc n.op=false)(hh:Zh n)(hn:n.head=n)(hs:Hd s):Hd (.one n s):=⟨⟨h1,h2,hn,hs.1⟩,hh,hs.2⟩
theorem Hd.two(h1:Qw n.op=true)(h2:Qc n.op=true)(hh:Zh n)(hn:n.head=n)(hs:Hd s)(ht:Hd t):Hd (.two n s t):=⟨⟨h1,h2,hn,hs.1,ht.1⟩,hh,hs.2,ht.2⟩
theorem Qxp(hs:Hd s)(h1:Qw n.op=true)(h2:Qc n.op=false)(hh:Zh n)(hn:n.head=n):Vg n [Zw s]=Zw (.one n s):=by
 have ho:(Tr.one n s).ok:=⟨h1,h2,hn,hs.1⟩;by_cases hl:(Qn s).length<=200
 ·rw [Gt hl,Qs4 (hs.check hl) h1 h2 hh,hn,Kr hs.1]
 have:=Qr7 ho;rw [Xa (t:=s) (by omega),Xa (t:=.one n s) (by omega),Qs3 Pk]
theorem Qtw(hs:Hd s)(ht:Hd t)(h1:Qw n.op=true)(h2:Qc n.op=true)(hh:Zh n)(hn:n.head=n):Vg n [Zw s,Zw t]=Zw (.two n s t):=by
 have ho:(Tr.two n s t).ok:=⟨h1,h2,hn,hs.1,ht.1⟩;have zH:=Qx5 ho;by_cases hl:(Qn s).length<=200
 ·by_cases hm:(Qn t).length<=200
  ·rw [Gt hl,Gt hm,Qs5 (hs.check hl) (ht.check hm) h1 h2 hh,hn,Kr hs.1,Kr ht.1]
  rw [Xa (t:=t) (by omega),Xa (t:=.two n s t) (by omega),Qkv (.inr Pk)]
 rw [Xa (t:=s) (by omega),Xa (t:=.two n s t) (by omega),Qkv (.inl Pk)]
end
theorem Qtx {s:Tr}(hs:Hd s):Qg (Zw s)=Zw s:=by
 by_cases hl:(Qn s).length<=200
 ·rw [Gt hl,Ub (hs.check hl),Kr hs.1]
 rw [Xa (by omega),Qqr Pk]
theorem Qtk {s:Tr}(hs:Hd s)(hl:(Qn s).length<=200):Qg (Qn s)=Qn s:=by
 rw [Ub (hs.check hl),Kr hs.1]
theorem Qqe(k:Int)(hk:k=5\/k=7):Zh ⟨k,0,0,0,0,0⟩:=by rcases hk with rfl|rfl <;> exact⟨rfl,rfl,rfl,fun _=>rfl,fun _=>rfl⟩
theorem Qb7:Zh ⟨4,0,0,0,0,0⟩:=⟨rfl,rfl,rfl,fun _=>rfl,fun _=>rfl⟩
theorem Qkm {i:Int}(h0:0<=i)(h1:i < 4):Zh ⟨9,i,0,0,0,0⟩:=by
 refine⟨rfl,by simp [Zd,Zg,Qo,Qi,Zk],?_,fun _=>rfl,fun _=>rfl⟩;simp [Jt,Qt,Zg,Qo,Qi,Zk];omega
theorem Qkl {s:Tr}(hs:Hd s):Hd (.one ⟨4,0,0,0,0,0⟩ s):=hs.one rfl rfl Qb7 rfl
theorem Qjz {i:Int}(h0:0<=i)(h1:i < 4) {s:Tr}(hs:Hd s):Hd (.one ⟨9,i,0,0,0,0⟩ s):=hs.one rfl rfl (Qkm h0 h1) rfl
theorem Qpf {s t:Tr}(hs:Hd s)(ht:Hd t):Hd (.two ⟨5,0,0,0,0,0⟩ s t):=hs.two rfl rfl (Qqe 5 (by omega)) rfl ht
theorem Zza {s t:Tr}(hs:Hd s)(ht:Hd t):Hd (.two ⟨7,0,0,0,0,0⟩ s t):=hs.two rfl rfl (Qqe 7 (by omega)) rfl ht
theorem Qo8:Hd (.leaf ⟨1,0,0,0,0,0⟩):=⟨⟨rfl,rfl⟩,rfl,rfl,rfl,fun _=>rfl,fun _=>rfl⟩
theorem Qkq:∀(r:List Tr) (t:Tr),Hd t->(∀u∈r,Hd u)->(r.map Zw).foldl Fo (Zw t)=Zw (Pj t r)/\Hd (Pj t r)
 |[],t,ht,_=>⟨rfl,ht⟩
 |u :: r,t,ht,hr=>by
  have hu:=hr u (List.mem_cons_self ..);rw [List.map_cons,List.foldl_cons,show Fo (Zw t) (Zw u)=Zw (.two ⟨5,0,0,0,0,0⟩ t u)from Qtw ht hu rfl rfl (Qqe 5 (by omega)) rfl];exact Qkq r _ (Qpf ht hu) (fun v hv=>hr v (List.mem_cons_of_mem _ hv))
theorem Ql8(l:List Tr)(hl:∀u∈l,Hd u):Qys (l.map Zw)=Zw (Mo l)/\Hd (Mo l):=by
 cases l with
 |nil=>exact⟨by rw [List.map_nil,Qys,Qfi,Qfq,Mo,Gt (by rw [Tm];simp),Tm],Qo8⟩
 |cons t r =>
  have ht:=hl t (List.mem_cons_self ..);rw [List.map_cons,Qys,Qfi,Qtx ht];exact Qkq r t ht (fun v hv=>hl v (List.mem_cons_of_mem _ hv))
theorem Qnc {g:Int} {a:Tr}(ha:Hd a):Wj g (Zw a)=(Mr g a).map Zw/\∀u∈Mr g a,Hd u:=by
 have hi:∀i∈(List.range 4).filter (fun i=>Vy g i),i < 4:=fun i h=>List.mem_range.1 (List.mem_filter.1 h).1
 constructor
 ·unfold Wj Mr;rw [List.map_map];refine List.map_congr_left fun i h=> ?_
  exact Qxp ha rfl rfl (Qkm (by omega) (by have:=hi i h;omega)) rfl
 intro u hu;obtain⟨i,h,rfl⟩:=List.mem_map.1 hu;exact Qjz (by omega) (by have:=hi i h;omega) ha
def Hz(op:Int):Prop:=(1<=op/\op<=11)\/op=13
theorem Wh {n:Nd}(h:Zh n)(hk:n.op=1\/n.op=2\/n.op=4\/n.op=5\/n.op=6\/n.op=7\/n.op=8):n.head=⟨n.op,0,0,0,0,0⟩:=by
 obtain⟨op,i,e,g,x,y⟩:=n;obtain⟨_,h2,_,h4,h5⟩:=h;unfold Zd at h2;simp only at hk;rcases hk with rfl|rfl|rfl|rfl|rfl|rfl|rfl <;>(simp [Zg,Qo,Qi,Zk]at h2;obtain⟨⟨a,b⟩,c⟩:=h2;simp [Qw,Qc]at h4 h5;simp [Nd.head,Nd.with_,Qw,Qc,a,b,c];try first|exact⟨h4,h5⟩|exact h5)
theorem Qs0 {n:Nd}(h:Zh n)(hk:n.op=3\/n.op=9):n.head=⟨n.op,n.i,0,0,0,0⟩:=by
 obtain⟨op,i,e,g,x,y⟩:=n;obtain⟨_,h2,_,h4,h5⟩:=h;unfold Zd at h2;simp only at hk;rcases hk with rfl|rfl <;>(simp [Zg,Qo,Qi,Zk]at h2;obtain⟨b,c⟩:=h2;simp [Qw,Qc]at h4 h5;simp [Nd.head,Nd.with_,Qw,Qc,b,c];try first|exact⟨h4,h5⟩|exact h5)
theorem Zj9 {n:Nd}(h:Zh n)(hk:n.op=13):n.head=⟨n.op,0,0,n.g,0,0⟩:=by
 obtain⟨op,i,e,g,x,y⟩:=n;obtain⟨_,h2,_,h4,h5⟩:=h;unfold Zd at h2;simp only at hk;subst hk;simp [Zg,Qo,Qi,Zk]at h2;obtain⟨a,b⟩:=h2;simp [Nd.head,Nd.with_,Qw,Qc,a,b]
theorem Qbk {n:Nd}(h:Zh n)(hk:n.op=9\/n.op=10):0<=n.i/\n.i < 4:=by
 obtain⟨_,_,h3,_,_⟩:=h;unfold Jt at h3;rcases hk with ho|ho <;>(rw [ho]at h3;simp [Qt,Zg,Qo,Qi,Zk]at h3;omega)
theorem Zh.head {n:Nd}(h:Zh n):Zh n.head:=h.with_ 0 0
theorem Ha {n:Nd}(h1:Qw n.op=false)(h2:Qc n.op=false):n.head=n:=Qfk h1 h2 0 0
theorem Qtr {n:Nd} {a b:Tr}(hn:Zh n)(ho:Hz n.op)(ha:Qw n.op=true->Hd a)(hb:Qc n.op=true->Hd b):Jp n (Zw a) (Zw b)=Zw (Nc n a b)/\Hd (Nc n a b):=by
 have zV:n.op=1\/n.op=2\/n.op=3\/n.op=4\/n.op=5\/n.op=6\/n.op=7\/n.op=8\/n.op=9\/n.op=10\/n.op=11\/n.op=13:=by unfold Hz at ho;omega
 have leafc:∀m:Nd,Zw (.leaf m)= [m]:=fun m=>by rw [Gt (by rw [Tm];simp),Tm]
 have hX:∀{k:Int},n.op=k->Qw k=true->Qw n.op=true:=fun h k=>by rw [h];exact k
 have hY:∀{k:Int},n.op=k->Qc k=true->Qc n.op=true:=fun h k=>by rw [h];exact k
 have nX:∀{k:Int},n.op=k->Qw k=false->Qw n.op=false:=fun h k=>by rw [h];exact k
 have nY:∀{k:Int},n.op=k->Qc k=false->Qc n.op=false:=fun h k=>by rw [h];exact k
 have m0:∀{k:Int},n.op=k->Qw k=false->Qc k=false->k≠10->k≠11->Nc n a b=.leaf n:=fun h h1 h2 h3 h4=>by
  unfold Nc Yi;rw [if_neg (by omega),if_neg (by omega),nX h h1,nY h h2];rfl
 have m1:∀{k:Int},n.op=k->Qw k=true->Qc k=false->k≠10->k≠11->Nc n a b=.one n.head a:=fun h h1 h2 h3 h4=>by
  unfold Nc Yi;rw [if_neg (by omega),if_neg (by omega),hX h h1,nY h h2];rfl
 have m2:∀{k:Int},n.op=k->Qc k=true->k≠10->k≠11->Nc n a b=.two n.head a b:=fun h h2 h3 h4=>by
  unfold Nc Yi;rw [if_neg (by omega),if_neg (by omega),hY h h2];rfl
 have two:∀{m:Nd},n.head=m->Qw m.op=true->Qc m.op=true->Hd a->Hd b->Vg m [Zw a,Zw b]=Zw (.two n.head a b)/\Hd (.two n.head a b):=fun {m} e h1 h2 h3 h4=>by
  subst e;exact⟨Qtw h3 h4 h1 h2 hn.head (So n),h3.two h1 h2 hn.head (So n) h4⟩
 have one:∀{m:Nd},n.head=m->Qw m.op=true->Qc m.op=false->Hd a->Vg m [Zw a]=Zw (.one n.head a)/\Hd (.one n.head a):=fun {m} e h1 h2 h3=>by
  subst e;exact⟨Qxp h3 h1 h2 hn.head (So n),h3.one h1 h2 hn.head (So n)⟩
 have leaf:∀{k:Int},n.op=k->Qw k=false->Qc k=false->Hd (.leaf n):=fun h h1 h2=>⟨⟨nX h h1,nY h h2⟩,hn⟩
 rcases zV with h|h|h|h|h|h|h|h|h|h|h|h
 ·rw [m0 h rfl rfl (by omega) (by omega),leafc];refine⟨?_,leaf h rfl rfl⟩;have e:=Wh hn (by omega);rw [Ha (nX h rfl) (nY h rfl),h]at e;simp only [Jp,h];exact Qfq.trans (by rw [<-e])
 ·rw [m0 h rfl rfl (by omega) (by omega),leafc];refine⟨?_,leaf h rfl rfl⟩;have e:=Wh hn (by omega);rw [Ha (nX h rfl) (nY h rfl),h]at e;simp only [Jp,h];exact Qtt.trans (by rw [<-e])
 ·rw [m0 h rfl rfl (by omega) (by omega),leafc];refine⟨?_,leaf h rfl rfl⟩;have e:=Qs0 hn (by omega);rw [Ha (nX h rfl) (nY h rfl),h]at e;simp only [Jp,h];refine((Wo rfl rfl (Zym hn h)).2).trans ?_;rw [<-e]
 ·rw [m1 h rfl rfl (by omega) (by omega)];have e:=Wh hn (by omega);rw [h]at e;have:=one e rfl rfl (ha (hX h rfl));simp only [Jp,h];exact this
 ·rw [m2 h rfl (by omega) (by omega)];have e:=Wh hn (by omega);rw [h]at e;have:=two e rfl rfl (ha (hX h rfl)) (hb (hY h rfl));simp only [Jp,h];exact this
 ·rw [m2 h rfl (by omega) (by omega)];have e:=Wh hn (by omega);rw [h]at e;have:=two e rfl rfl (ha (hX h rfl)) (hb (hY h rfl));simp only [Jp,h];exact this
 ·rw [m2 h rfl (by omega) (by omega)];have e:=Wh hn (by omega);rw [h]at e;have:=two e rfl rfl (ha (hX h rfl)) (hb (hY h rfl));simp only [Jp,h];exact this
 ·rw [m2 h rfl (by omega) (by omega)];have e:=Wh hn (by omega);rw [h]at e;have:=two e rfl rfl (ha (hX h rfl)) (hb (hY h rfl));simp only [Jp,h];exact this
 ·rw [m1 h rfl rfl (by omega) (by omega)];have e:=Qs0 hn (by omega);rw [h]at e;have:=one e rfl rfl (ha (hX h rfl));simp only [Jp,h];exact this
 ·have hA:=ha (hX h rfl);have hi:=Qbk hn (.inr h);have e1:Kq (Zw a)=Zw (.one ⟨4,0,0,0,0,0⟩ a):=Qxp hA rfl rfl Qb7 rfl;have e2:Gc n.i (Zw (.one ⟨4,0,0,0,0,0⟩ a))=Zw (.one ⟨9,n.i,0,0,0,0⟩ (.one ⟨4,0,0,0,0,0⟩ a)):=Qxp (Qkl hA) rfl rfl (Qkm hi.1 hi.2) rfl;have e3:Kq (Zw (.one ⟨9,n.i,0,0,0,0⟩ (.one ⟨4,0,0,0,0,0⟩ a)))=Zw (.one ⟨4,0,0,0,0,0⟩ (.one ⟨9,n.i,0,0,0,0⟩ (.one ⟨4,0,0,0,0,0⟩ a))):=Qxp (Qjz hi.1 hi.2 (Qkl hA)) rfl rfl Qb7 rfl;have em:Nc n a b=.one ⟨4,0,0,0,0,0⟩ (.one ⟨9,n.i,0,0,0,0⟩ (.one ⟨4,0,0,0,0,0⟩ a)):=by unfold Nc;rw [if_pos h]
  rw [em];refine⟨?_,Qkl (Qjz hi.1 hi.2 (Qkl hA))⟩;simp only [Jp,h];show Kq (Gc n.i (Kq (Zw a)))=_;rw [e1,e2,e3]
 ·have hA:=ha (hX h rfl);have em:Nc n a b=Mo (Mr n.g a):=by unfold Nc;rw [if_neg (by omega),if_pos h]
  rw [em];obtain⟨e1,e2⟩:=Qnc (g:=n.g) hA;obtain⟨e3,e4⟩:=Ql8 _ e2;refine⟨?_,e4⟩;simp only [Jp,h];show Qys (Wj n.g (Zw a))=_;rw [e1,e3]
 rw [m2 h rfl (by omega) (by omega)];have e:=Zj9 hn h;rw [h]at e;have:=two e rfl rfl (ha (hX h rfl)) (hb (hY h rfl));simp only [Jp,h];exact this
def Lk(n:Nd):Prop:=(1<=n.op/\n.op<=9)\/n.op=13
def Xp(t:Tr):Prop:=Hd t/\t.all Lk
theorem Qsz {op:Int}(h1:Qw op=true)(h2:Qc op=false)(h:(1<=op/\op<=9)\/op=13):op=4\/op=9:=by
 have:op=1\/op=2\/op=3\/op=4\/op=5\/op=6\/op=7\/op=8\/op=9\/op=13:=by omega
 rcases this with rfl|rfl|rfl|rfl|rfl|rfl|rfl|rfl|rfl|rfl <;> first|(cases h1;done)|(cases h2;done)|omega
theorem Qsj {op:Int}(h2:Qc op=true)(h:(1<=op/\op<=9)\/op=13):(5<=op/\op<=8)\/op=13:=by
 have:op=1\/op=2\/op=3\/op=4\/op=5\/op=6\/op=7\/op=8\/op=9\/op=13:=by omega
 rcases this with rfl|rfl|rfl|rfl|rfl|rfl|rfl|rfl|rfl|rfl <;> first|(cases h2;done)|omega
theorem Xp.lang:∀{t:Tr},Xp t->lang t
 |.leaf _,_=>trivial
 |.one _n a,h=>⟨Qsz h.1.1.1 h.1.1.2.1 h.2.1,Xp.lang (t:=a) ⟨⟨h.1.1.2.2.2,h.1.2.2⟩,h.2.2⟩⟩
 |.two _n a b,h=>⟨Qsj h.1.1.2.1 h.2.1,Xp.lang (t:=a) ⟨⟨h.1.1.2.2.2.1,h.1.2.2.1⟩,h.2.2.1⟩,Xp.lang (t:=b) ⟨⟨h.1.1.2.2.2.2,h.1.2.2.2⟩,h.2.2.2⟩⟩
theorem Xp.fact:∀{t:Tr},Xp t->Wy t
 |.leaf n,h=>fun ho=>by
  have e:=Qs0 h.1.2 (.inl ho);rw [Ha h.1.1.1 h.1.1.2,ho]at e;exact e
 |.one n a,h=>Xp.fact (t:=a) ⟨⟨h.1.1.2.2.2,h.1.2.2⟩,h.2.2⟩
 |.two n a b,h=>⟨Xp.fact (t:=a) ⟨⟨h.1.1.2.2.2.1,h.1.2.2.1⟩,h.2.2.1⟩,Xp.fact (t:=b) ⟨⟨h.1.1.2.2.2.2,h.1.2.2.2⟩,h.2.2.2⟩⟩
theorem Xp.of_one {n:Nd} {a:Tr}(h:Xp (.one n a)):Xp a:=⟨⟨h.1.1.2.2.2,h.1.2.2⟩,h.2.2⟩
theorem Xp.of_two {n:Nd} {a b:Tr}(h:Xp (.two n a b)):Xp a/\Xp b:=⟨⟨⟨h.1.1.2.2.2.1,h.1.2.2.1⟩,h.2.2.1⟩,⟨h.1.1.2.2.2.2,h.1.2.2.2⟩,h.2.2.2⟩
theorem Xp.know {i:Int}(h0:0<=i)(h1:i < 4) {s:Tr}(hs:Xp s):Xp (.one ⟨9,i,0,0,0,0⟩ s):=⟨Qjz h0 h1 hs.1,.inl ⟨show(1:Int)<=9 by decide,show(9:Int)<=9 by decide⟩,hs.2⟩
theorem Xp.and {s t:Tr}(hs:Xp s)(ht:Xp t):Xp (.two ⟨5,0,0,0,0,0⟩ s t):=⟨Qpf hs.1 ht.1,.inl ⟨by decide,by decide⟩,hs.2,ht.2⟩
theorem Xp.imp {s t:Tr}(hs:Xp s)(ht:Xp t):Xp (.two ⟨7,0,0,0,0,0⟩ s t):=⟨Zza hs.1 ht.1,.inl ⟨by decide,by decide⟩,hs.2,ht.2⟩
theorem Xp.unf {i:Nat}(hi:i < 4) {n:Nd} {a b:Tr}(h:Xp (.two n a b)):Xp (Gb i n a b):=
 Xp.know (by omega) (by omega) (Xp.imp h.of_two.1 (Xp.and h.of_two.2 h))
theorem Xp.at {t:Tr}(h:Xp t) {i:Nat}(hi:i < (Qn t).length):Xp (tr (Qn t) i):=
 ⟨⟨Qf2 h.1.wf _ hi,Hq (fun _ k1 k2 h=>h.with_ k1 k2) h.1.wf (Tq (fun _ k1 k2 h=>h.with_ k1 k2) t [] h.1.2 (fun n hn=>by cases hn)) _ hi⟩,
   Hq (P:=Lk) (fun _ _ _ k=>k) h.1.wf (Tq (P:=Lk) (fun _ _ _ k=>k) t [] h.2 (fun n hn=>by cases hn)) _ hi⟩
structure Xf (t:Tr):Prop where
 xp:Xp t
 len:(Qn t).length<=200
section
variable {t:Tr}
theorem Xf.check(h:Xf t):check (Qn t)=0:=h.xp.1.check h.len
theorem Xf.tree(h:Xf t):Qe (Qn t)=t:=Kr h.xp.1.1
theorem Xf.at(h:Xf t) {i:Nat}(hi:i < (Qn t).length):Xf (tr (Qn t) i):=⟨h.xp.at hi,Qx (Iv h.xp.1.1 hi) h.len⟩
theorem Xf.of_one {n:Nd} {a:Tr}(h:Xf (.one n a)):Xf a:=⟨h.xp.of_one,Qx (Qr7 h.xp.1.1) h.len⟩
theorem Xf.of_two {n:Nd} {a b:Tr}(h:Xf (.two n a b)):Xf a/\Xf b:=⟨⟨h.xp.of_two.1,Qx (Qx5 h.xp.1.1).1 h.len⟩,⟨h.xp.of_two.2,Qx (Qx5 h.xp.1.1).2 h.len⟩⟩
theorem Xf.short(h:Xf t):Zw t=Qn t:=Gt h.len
theorem Xf.inj {s:Tr}(hs:Xf s)(h:Xf t)(e:Qn s=Qn t):s=t:=Qmn hs.xp.1.1 h.xp.1.1 e
theorem Xf.last(h:Xf t):(Zz (Qn t)).op=t.top.op:=by rw [Qij h.check,h.tree]
theorem Xf.base(h:Xf t):Jh (Zz (Qn t))=Jh t.top:=by unfold Jh;rw [h.last]
theorem Xf.unf {n:Nd} {a b:Tr}(h:Xf (.two n a b)) {i:Nat}(hi:i < 4):Um i (Qn (.two n a b))=Zw (Gb i n a b):=by
 obtain⟨_,_,e1,e2⟩:=Sn h.check h.tree;have hb:=h.of_two.2;have ha:=h.of_two.1;unfold Um Gb;rw [e1,e2,<-ha.short,<-hb.short,<-h.short];have h1:Fo (Zw b) (Zw (.two n a b))=Zw (.two ⟨5,0,0,0,0,0⟩ b (.two n a b)):=Qtw hb.xp.1 h.xp.1 rfl rfl (Qqe 5 (by omega)) rfl;have h2:Qy7 (Zw a) (Zw (.two ⟨5,0,0,0,0,0⟩ b (.two n a b)))=Zw (.two ⟨7,0,0,0,0,0⟩ a (.two ⟨5,0,0,0,0,0⟩ b (.two n a b))):=Qtw ha.xp.1 (hb.xp.and h.xp).1 rfl rfl (Qqe 7 (by omega)) rfl;have h3:Gc (i:Int) (Zw (.two ⟨7,0,0,0,0,0⟩ a (.two ⟨5,0,0,0,0,0⟩ b (.two n a b))))=Zw (.one ⟨9,(i:Int),0,0,0,0⟩ (.two ⟨7,0,0,0,0,0⟩ a (.two ⟨5,0,0,0,0,0⟩ b (.two n a b)))):=Qxp (ha.xp.imp (hb.xp.and h.xp)).1 rfl rfl (Qkm (by omega) (by omega)) rfl
 rw [h1,h2,h3]
theorem Xf.subs(h:Xf t):Qjs (Qn t)=(List.range (Qn t).length).map fun i=>Qn (tr (Qn t) i):=by
 unfold Qjs Nh;rw [Qtk h.xp.1 h.len];exact List.map_congr_left fun i hi=>Rd h.check (List.mem_range.1 hi)
theorem Xf.mem_base0(h:Xf t) {c:List Nd} :c∈Ye (Qn t)↔∃i,i < (Qn t).length/\c=Qn (tr (Qn t) i)/\Jh (tr (Qn t) i).top=true:=by
 unfold Ye;rw [h.subs,List.mem_filter,List.mem_map];constructor
 ·rintro⟨⟨i,hi,rfl⟩,hb⟩;have hi:=List.mem_range.1 hi;exact⟨i,hi,rfl,by rw [<-(h.at hi).base];exact hb⟩
 rintro⟨i,hi,rfl,hb⟩;exact⟨⟨i,List.mem_range.2 hi,rfl⟩,by rw [(h.at hi).base];exact hb⟩
theorem Xf.base0_nodup(h:Xf t):(Ye (Qn t)).Nodup:=by
 unfold Ye;rw [h.subs];refine List.Pairwise.filter _ ?_;rw [List.pairwise_map];refine List.Pairwise.imp_of_mem ?_ (List.nodup_iff_pairwise_ne.1 List.nodup_range);intro i j hi hj zQ e;have hi:=List.mem_range.1 hi;have hj:=List.mem_range.1 hj;exact zQ (Qmd h.xp.1.1 i j hi hj ((h.at hi).inj (h.at hj) e))
end
theorem Qgw {l:List (List Nd)} {g:List Nd} :Yn l g < 0↔g∉l:=by
 unfold Yn;cases h:l.findIdx? fun f=>decide (f=g)with
 |none =>
  rw [List.findIdx?_eq_none_iff]at h;refine⟨fun _ hm=> ?_,fun _=>by decide⟩;have:=h g hm;simp at this
 |some j =>
  obtain⟨hj,he,_⟩:=List.findIdx?_eq_some_iff_getElem.1 h;refine⟨fun hn=> ?_,fun hn=> ?_⟩
  ·simp only at hn;omega
  have e:l[j]=g:=by simpa using he
  exact absurd (e▸List.getElem_mem hj) hn
theorem Xe {l:List (List Nd)}(hl:l.Nodup) {i:Nat} {g:List Nd}(hi:l[i]?=some g):Yn l g=i:=by
 obtain⟨kU,he⟩:=List.getElem?_eq_some_iff.1 hi;unfold Yn;have:l.findIdx? (fun f=>decide (f=g))=some i:=by
  rw [List.findIdx?_eq_some_iff_getElem];refine⟨kU,by simpa using he,fun j hj=> ?_⟩;have zQ:l[j]≠l[i]:=fun e=>by
   have:=(List.nodup_iff_pairwise_ne.1 hl);rw [List.pairwise_iff_getElem]at this;exact this j i (by omega) kU hj e
  rw [he]at zQ
  simpa using zQ
 rw [this]
theorem Qhm {l:List (List Nd)} {g c:List Nd} :c∈Gm l g↔c∈l\/c=g:=by
 unfold Gm;cases h:decide (Yn l g < 0)
 ·rw [decide_eq_false_iff_not,Qgw,Classical.not_not]at h;exact⟨.inl,fun k=>k.elim id fun e=>e▸h⟩
 simp
theorem Qsw {l:List (List Nd)} {g:List Nd}(h:l.Nodup):(Gm l g).Nodup:=by
 unfold Gm;cases k:decide (Yn l g < 0)
 ·exact h
 rw [decide_eq_true_iff,Qgw]at k;rw [cond_true,List.nodup_append];exact⟨h,by simp,fun a ha b hb e=>k (by rw [List.mem_singleton.1 hb]at e;exact e▸ha)⟩
theorem Ob:∀(us:List (List Nd)) (l:List (List Nd)) (c:List Nd),c∈us.foldl Gm l↔c∈l\/c∈us
 |[],l,c=>by simp
 |u :: r,l,c=>by
  rw [List.foldl_cons,Ob r,Qhm,List.mem_cons];exact or_assoc
theorem Od:∀(us:List (List Nd)) (l:List (List Nd)),l.Nodup->(us.foldl Gm l).Nodup
 |[],_,h=>h
 |_ :: r,_,h=>Od r _ (Qsw h)
structure Td (l:List (List Nd)) (t:Tr):Prop where
 can:∀c∈l,∃s,Xf s/\c=Qn s/\Jh s.top=true
 nodup:l.Nodup
 closed:Ei (l.map Qe)
 cov:cov (l.map Qe) t
 len:l.length<=12
theorem Vj {l:List (List Nd)}(hl:∀c∈l,∃s,Xf s/\c=Qn s/\Jh s.top=true) {s:Tr} :s∈l.map Qe↔Xf s/\Qn s∈l:=by
 rw [List.mem_map];constructor
 ·rintro⟨c,hc,rfl⟩;obtain⟨u,hu,rfl,_⟩:=hl c hc;rw [hu.tree];exact⟨hu,hc⟩
 rintro⟨h1,h2⟩;exact⟨_,h2,h1.tree⟩
theorem Ic {n:Nd} {a b:Tr}(h:Xf (.two n a b))(ho:n.op=13) {c:List Nd} :c∈Vw (Qn (.two n a b))↔∃i,i < 4/\Vy n.g i=true/\c=Zw (Gb i n a b):=by
 obtain⟨e1,e2,_,_⟩:=Sn h.check h.tree;unfold Vw;rw [e1,ho,e2];simp only [beq_self_eq_true,cond_true,List.mem_map,List.mem_filter,List.mem_range];constructor
 ·rintro⟨i,⟨h1,h2⟩,rfl⟩;exact⟨i,h1,h2,h.unf h1⟩
 rintro⟨i,h1,h2,rfl⟩;exact⟨i,⟨h1,h2⟩,h.unf h1⟩
theorem Po {s:Tr}(h:Xf s)(ho:s.top.op≠13):Vw (Qn s)= []:=by
 unfold Vw;rw [h.last];have:(s.top.op==13)=false:=by simpa using ho
 rw [this];rfl
theorem Wl {s:Tr}(h:Xf s)(ho:s.top.op=13):∃n a b,s=.two n a b/\n.op=13:=by
 cases s with
 |leaf n=>have:=h.xp.1.1.2;rw [show n.op=13 from ho]at this;cases this
 |one n a=>have:=h.xp.1.1.2.1;rw [show n.op=13 from ho]at this;cases this
 |two n a b=>exact⟨n,a,b,rfl,ho⟩
theorem Qrt {t:Tr}(h:Xf t)(he:(Kc (Qn t)).2=0):Td (Kc (Qn t)).1 t:=by
 unfold Kc at he⊢;cases hc:((Ye (Qn t)).flatMap Vw).any (fun u=>decide (u.length=0))||decide (12 < (((Ye (Qn t)).flatMap Vw).foldl Gm (Ye (Qn t))).length)
 case true=>rw [hc]at he;cases he
 rw [cond_false];rw [Bool.or_eq_false_iff]at hc;obtain⟨xS,tO⟩:=hc;generalize hl:((Ye (Qn t)).flatMap Vw).foldl Gm (Ye (Qn t))=l at tO;have wK:∀c,c∈l↔c∈Ye (Qn t)\/c∈(Ye (Qn t)).flatMap Vw:=fun c=>by rw [<-hl];exact Ob _ _ _
 have zQ:∀u∈(Ye (Qn t)).flatMap Vw,u.length≠0:=fun u hu=>by
  have:=List.any_eq_false.1 xS u hu
  simpa using this
 have dP:∀u∈(Ye (Qn t)).flatMap Vw,∃i n a b k,k < (Qn t).length/\tr (Qn t) k=.two n a b/\Xf (.two n a b)/\n.op=13/\i < 4/\Vy n.g i=true/\Xf (Gb i n a b)/\u=Qn (Gb i n a b):=fun u hu=>by
  obtain⟨c,sF,rX⟩:=List.mem_flatMap.1 hu;obtain⟨k,hk,rfl,_⟩:=h.mem_base0.1 sF;have hx:=h.at hk;by_cases ho:(tr (Qn t) k).top.op=13
  ·obtain⟨n,a,b,e,iE⟩:=Wl hx ho;rw [e]at hx rX;obtain⟨i,hi,hg,rfl⟩:=(Ic hx iE).1 rX;have rH:=zQ _ hu;have zH:(Qn (Gb i n a b)).length<=200:=by
    by_cases e2:(Qn (Gb i n a b)).length<=200
    ·exact e2
    rw [Xa (by omega)]at rH;simp at rH
   exact⟨i,n,a,b,k,hk,e,hx,iE,hi,hg,⟨hx.xp.unf hi,zH⟩,Gt zH⟩
  rw [Po hx ho]at rX;cases rX
 have oG:∀c∈l,∃s,Xf s/\c=Qn s/\Jh s.top=true:=fun c hc=>by
  rcases(wK c).1 hc with h1|h1
  ·obtain⟨k,hk,rfl,hb⟩:=h.mem_base0.1 h1;exact⟨_,h.at hk,rfl,hb⟩
  obtain⟨i,n,a,b,_,_,_,_,_,_,_,hX,rfl⟩:=dP c h1;exact⟨_,hX,rfl,rfl⟩
 have TC:∀k,k < (Qn t).length->Jh (tr (Qn t) k).top=true->tr (Qn t) k∈l.map Qe:=fun k hk hb =>
  (Vj oG).2 ⟨h.at hk,(wK _).2 (.inl (h.mem_base0.2 ⟨k,hk,rfl,hb⟩))⟩
 have aI:∀k,k < (Qn t).length->cov (l.map Qe) (tr (Qn t) k):=by
  intro k
  induction k using Nat.strongRecOn with
  |_ k ih =>
   intro hk;obtain⟨n,hn⟩:∃n,(Qn t)[k]?=some n:=⟨_,Qv hk⟩;obtain⟨hx,hy⟩:=h.xp.1.wf k n hn;have hs:=TC k hk;rw [Xk h.xp.1.wf hn]at hs⊢;unfold Yi at hs⊢;cases h2:Qc n.op
   ·cases h1:Qw n.op
    ·rw [h1,h2]at hs;exact fun h3=>hs (by simp [Jh,Tr.top,h3])
    rw [h1,h2]at hs;have:=hx h1;simp only [cond_false,cond_true,_root_.Go.Proofs.YtkmclcmnoicagaaGreatDoor.cov]at hs⊢;by_cases h9:n.head.op=9
    ·rw [if_pos h9];exact hs (by simp [Jh,Tr.top,h9])
    rw [if_neg h9];exact ih _ (by omega) (by omega)
   rw [h2]at hs;have:=hx (Vn h2);have:=hy h2;simp only [cond_true,_root_.Go.Proofs.YtkmclcmnoicagaaGreatDoor.cov]at hs⊢;by_cases xK:n.head.op=13
   ·rw [if_pos xK];exact hs (by simp [Jh,Tr.top,xK])
   rw [if_neg xK];exact⟨ih _ (by omega) (by omega),ih _ (by omega) (by omega)⟩
 have XU:∀k,k < (Qn t).length->∀n a b,tr (Qn t) k=.two n a b->cov (l.map Qe) a/\cov (l.map Qe) b:=fun k hk n a b e=>by
  obtain⟨m,hm⟩:∃m,(Qn t)[k]?=some m:=⟨_,Qv hk⟩;obtain⟨hx,hy⟩:=h.xp.1.wf k m hm;rw [Xk h.xp.1.wf hm]at e;obtain⟨h2,_,rfl,rfl⟩:=Qp7 e;have:=hx (Vn h2);have:=hy h2;exact⟨aI _ (by omega),aI _ (by omega)⟩
 have TN:∀k,k < (Qn t).length->∀n a,tr (Qn t) k=.one n a->cov (l.map Qe) a:=fun k hk n a e=>by
  obtain⟨m,hm⟩:∃m,(Qn t)[k]?=some m:=⟨_,Qv hk⟩;obtain⟨hx,hy⟩:=h.xp.1.wf k m hm;rw [Xk h.xp.1.wf hm]at e;obtain⟨h1,_,_,rfl⟩:=Qp6 e;have:=hx h1;exact aI _ (by omega)
 refine⟨oG,by rw [<-hl];exact Od _ _ h.base0_nodup,⟨fun n a hm=> ?_,fun n a b hm=> ?_⟩,?_,by have:=of_decide_eq_false tO;show l.length<=12;omega⟩
 ·obtain⟨hX,oR⟩:=(Vj oG).1 hm;have zV:n.op=9:=by
   obtain⟨s,hs,e,hb⟩:=oG _ oR;have h4:=Qsz hX.xp.1.1.1 hX.xp.1.1.2.1 hX.xp.2.1;rw [<-hX.inj hs e]at hb;simp only [Jh,Tr.top,Bool.or_eq_true,beq_iff_eq]at hb;omega
  refine⟨zV,?_,hX.of_one.xp.lang,Qbk hX.xp.1.2.1 (.inl zV)⟩;rcases(wK _).1 oR with h1|h1
  ·obtain⟨k,hk,e,_⟩:=h.mem_base0.1 h1;exact TN k hk n a ((hX.inj (h.at hk) e).symm)
  obtain⟨i,n',a',b',k,hk,e,E7,ho,hi,hg,hU,eu⟩:=dP _ h1;have:=hX.inj hU eu;unfold Gb at this;injection this with _ e2;subst e2;obtain⟨c1,c2⟩:=XU k hk _ _ _ e;have xM:=TC k hk (by rw [e];simp [Jh,Tr.top,ho]);rw [e]at xM;simp only [_root_.Go.Proofs.YtkmclcmnoicagaaGreatDoor.cov,show ¬(7:Int)=13 by decide,show ¬(5:Int)=13 by decide,if_false,ho,if_true];exact⟨c1,c2,xM⟩
 ·obtain⟨hX,oR⟩:=(Vj oG).1 hm;rcases(wK _).1 oR with h1|h1
  ·obtain⟨k,hk,e,hb⟩:=h.mem_base0.1 h1;have et:=hX.inj (h.at hk) e;have zV:n.op=13:=by
    have h5:=Qsj hX.xp.1.1.2.1 hX.xp.2.1;rw [<-et]at hb;simp only [Jh,Tr.top,Bool.or_eq_true,beq_iff_eq]at hb;omega
   obtain⟨c1,c2⟩:=XU k hk n a b et.symm;refine⟨zV,c1,c2,hX.of_two.1.xp.lang,hX.of_two.2.xp.lang,fun i hi hg=> ?_⟩;have hu:Zw (Gb i n a b)∈(Ye (Qn t)).flatMap Vw:=List.mem_flatMap.2 ⟨_,h1,(Ic hX zV).2 ⟨i,hi,hg,rfl⟩⟩;have rH:=zQ _ hu;have zH:(Qn (Gb i n a b)).length<=200:=by
    by_cases e2:(Qn (Gb i n a b)).length<=200
    ·exact e2
    rw [Xa (by omega)]at rH;simp at rH
   refine(Vj oG).2 ⟨⟨hX.xp.unf hi,zH⟩,(wK _).2 (.inr ?_)⟩;rw [<-Gt zH];exact hu
  obtain⟨i,n',a',b',k,hk,e,E7,ho,hi,hg,hU,eu⟩:=dP _ h1;have:=hX.inj hU eu;unfold Gb at this;cases this
 have hp:=Uv h.xp.1.1;have:=aI ((Qn t).length - 1) (by omega);rw [show tr (Qn t) ((Qn t).length - 1)=t from h.tree]at this;exact this
section
variable {t:Tr}
theorem Qwv(h:Xf t) {u:List Nd}(hu:u∈(Ye (Qn t)).flatMap Vw)(rH:u.length≠0):
 ∃i n a b,Xf (.two n a b)/\n.op=13/\i < 4/\Xf (Gb i n a b)/\u=Qn (Gb i n a b):=by
 obtain⟨c,sF,rX⟩:=List.mem_flatMap.1 hu;obtain⟨k,hk,rfl,_⟩:=h.mem_base0.1 sF;have hx:=h.at hk;by_cases ho:(tr (Qn t) k).top.op=13
 ·obtain⟨n,a,b,e,iE⟩:=Wl hx ho;rw [e]at hx rX;obtain⟨i,hi,hg,rfl⟩:=(Ic hx iE).1 rX;have zH:(Qn (Gb i n a b)).length<=200:=by
   by_cases e2:(Qn (Gb i n a b)).length<=200
   ·exact e2
   rw [Xa (by omega)]at rH;simp at rH
  exact⟨i,n,a,b,hx,iE,hi,⟨hx.xp.unf hi,zH⟩,Gt zH⟩
 rw [Po hx ho]at rX;cases rX
def usK(l0:List (List Nd))(k:Nat):List (List Nd):=(l0.take k).flatMap Vw
theorem Qsm {l0:List (List Nd)} {k:Nat} {u:List Nd}(h:u∈usK l0 k):u∈l0.flatMap Vw:=by
 obtain⟨c,hc,hu⟩:=List.mem_flatMap.1 h;exact List.mem_flatMap.2 ⟨c,List.mem_of_mem_take hc,hu⟩
theorem Ri:∀(us l:List (List Nd)),l <+: us.foldl Gm l
 |[],l=>List.prefix_refl _
 |u :: r,l=>by
  rw [List.foldl_cons];refine List.IsPrefix.trans ?_ (Ri r _);unfold Gm;cases decide (Yn l u < 0)
  ·exact List.prefix_refl _
  exact List.prefix_append _ _
theorem Qb3(us l:List (List Nd)):l.length<=(us.foldl Gm l).length:=(Ri us l).length_le
theorem Qmy(h:Xf t) {k:Nat} {ol:List (List Nd)} {c:List Nd}(tG:ol=(usK (Ye (Qn t)) k).foldl Gm (Ye (Qn t)))(zQ:∀u∈usK (Ye (Qn t)) k,u.length≠0)(hc:ol[k]?=some c):
 usK (Ye (Qn t)) (k+1)=usK (Ye (Qn t)) k++Vw c/\∃s,Xf s/\c=Qn s:=by
 generalize rH:Ye (Qn t)=l0 at tG zQ⊢;by_cases hk:k < l0.length
 ·have hp:l0 <+: ol:=tG▸Ri _ _;have mR:l0[k]?=some c:=by
   obtain⟨r,rfl⟩:=hp;rw [List.getElem?_append_left hk]at hc;exact hc
  refine⟨?_,?_⟩
  ·unfold usK;obtain⟨sA,e⟩:=List.getElem?_eq_some_iff.1 mR;rw [List.take_succ_eq_append_getElem sA,e,List.flatMap_append];simp
  have hm:c∈Ye (Qn t):=rH▸List.mem_of_getElem? mR;obtain⟨i,hi,rfl,_⟩:=h.mem_base0.1 hm;exact⟨_,h.at hi,rfl⟩
 have e:usK l0 (k+1)=usK l0 k:=by
  unfold usK;rw [List.take_of_length_le (by omega),List.take_of_length_le (by omega)]
 have hm:c∈ol:=List.mem_of_getElem? hc;rw [tG,Ob]at hm;rcases hm with hm|hm
 ·have oR:c∈Ye (Qn t):=rH▸hm;obtain⟨i,hi,rfl,hb⟩:=h.mem_base0.1 oR;have RT:(ol.drop l0.length)[k - l0.length]?=some (Qn (tr (Qn t) i)):=by rw [List.getElem?_drop];rw [<-hc];congr 1;omega
  have gO:ol.Nodup:=by rw [tG,<-rH];exact Od _ _ h.base0_nodup
  have hp:l0 <+: ol:=tG▸Ri _ _;obtain⟨r,hr⟩:=hp;rw [<-hr]at RT gO;rw [List.drop_left]at RT;have:=(List.nodup_append.1 gO).2.2 _ hm _ (List.mem_of_getElem? RT);exact absurd rfl this
 have hu:=zQ c hm;obtain⟨i,n,a,b,_,_,_,hX,rfl⟩:=Qwv h (rH▸Qsm hm) hu;exact⟨by rw [e,Po hX (by show(9:Int)≠13;decide),List.append_nil],_,hX,rfl⟩
theorem Zqs {l0:List (List Nd)} {k:Nat}(h:l0.length<=k):usK l0 k=l0.flatMap Vw:=by
 unfold usK;rw [List.take_of_length_le h]
theorem Qhw {l0:List (List Nd)} {k:Nat} {u:List Nd}(h:u∈usK l0 k)(hl:u.length=0):(l0.flatMap Vw).any (fun u=>decide (u.length=0))=true:=by
 rw [List.any_eq_true];exact⟨u,Qsm h,by simp [hl]⟩
theorem Ql3(l0:List (List Nd))(k:Nat):∃r,l0.flatMap Vw=usK l0 k++r:=by
 refine⟨(l0.drop k).flatMap Vw,?_⟩;unfold usK;rw [<-List.flatMap_append,List.take_append_drop]
theorem Qmj {l0:List (List Nd)} {k:Nat}(h:12 < ((usK l0 k).foldl Gm l0).length):12 < ((l0.flatMap Vw).foldl Gm l0).length:=by
 obtain⟨r,e⟩:=Ql3 l0 k;rw [e,List.foldl_append];exact Qy h (Qb3 r _)
theorem Qkz {g:List Nd}(h:((Ye g).flatMap Vw).any (fun u=>decide (u.length=0))=true\/12 < (((Ye g).flatMap Vw).foldl Gm (Ye g)).length):Kc g=([],8):=by
 unfold Kc;rcases h with h|h
 ·rw [h];rfl
 rw [decide_eq_true h,Bool.or_true];rfl
theorem Qnr {g:List Nd}(h:∀u∈(Ye g).flatMap Vw,u.length≠0)(hl:(((Ye g).flatMap Vw).foldl Gm (Ye g)).length<=12):Kc g=(((Ye g).flatMap Vw).foldl Gm (Ye g),0):=by
 unfold Kc;have e:((Ye g).flatMap Vw).any (fun u=>decide (u.length=0))=false:=by
  rw [List.any_eq_false];intro u hu;simp [h u hu]
 rw [e,decide_eq_false (by omega)];rfl
end
def St(c:List Nd)(q:Nat):List (List Nd):=bif (Zz c).op==13 then((List.range q).filter fun i=>Vy (Zz c).g i).map fun i=>Um i c else []
theorem Qfj(c:List Nd):St c 0= []:=by
 unfold St;cases(Zz c).op==13 <;> rfl
theorem Qzp(c:List Nd):St c 4=Vw c:=rfl
theorem Zqf {c:List Nd} {q:Nat}(h:((Zz c).op==13&&Vy (Zz c).g q)=false):St c (q+1)=St c q:=by
 unfold St;cases h1:(Zz c).op==13
 ·rfl
 rw [h1]at h;have h2:Vy (Zz c).g q=false:=h;simp only [cond_true];rw [List.range_succ,List.filter_append,List.map_append,List.filter_cons,h2];simp
theorem Qwy {c:List Nd} {q:Nat}(h1:((Zz c).op==13)=true)(h2:Vy (Zz c).g q=true):St c (q+1)=St c q++ [Um q c]:=by
 unfold St;rw [h1];simp only [cond_true];rw [List.range_succ,List.filter_append,List.map_append,List.filter_cons,h2];simp
theorem Qwj {c u:List Nd} {q:Nat}(hq:q<=4)(h:u∈St c q):u∈Vw c:=by
 rw [<-Qzp];unfold St at h⊢;cases h1:(Zz c).op==13
 ·rw [h1]at h;cases h
 rw [h1]at h;simp only [cond_true,List.mem_map,List.mem_filter,List.mem_range]at h⊢;obtain⟨i,⟨a,b⟩,e⟩:=h;exact⟨i,⟨by omega,b⟩,e⟩
def th(base:List (List Nd))(t:Nat)(f:Tr):Bool:=bif decide (0<=Yn base (Qn f))then t.testBit (Yn base (Qn f)).toNat else false
theorem Qkj(n:Nd):(n.op=3\/n.op=9\/n.op=13)\/((n.op==3)=false/\(n.op==9)=false/\(n.op==13)=false):=by
 by_cases h3:n.op=3
 ·exact .inl (.inl h3)
 by_cases h9:n.op=9
 ·exact .inl (.inr (.inl h9))
 by_cases xK:n.op=13
 ·exact .inl (.inr (.inr xK))
 exact .inr ⟨by simpa using h3,by simpa using h9,by simpa using xK⟩
theorem Qk2 {base:List (List Nd)} {f:List Nd} {i:Nat} {n:Nd}(hi:f[i]?=some n):(Ks base f)[i]?=some (bif Jh n then Yn base (Jn f (i:Int))else -1):=by
 unfold Ks;rw [List.getElem?_map,List.getElem?_range (List.getElem?_eq_some_iff.1 hi).1];simp only [Option.map_some,Cq hi]
theorem Qk3(base:List (List Nd))(f:List Nd):(Ks base f).length=f.length:=by simp [Ks]
section
variable {base:List (List Nd)} {f:List Nd} {t i:Nat} {n:Nd}
theorem Qoz(hc:check f=0)(hi:f[i]?=some n)(v:List Bool)(hv:v=(List.range i).map fun j=>ev (th base t) (tr f j)):
 Kx n (bif Jh n then Yn base (Jn f (i:Int))else -1) t v=ev (th base t) (tr f i):=by
 have hw:=Ym hc;have kU:=(List.getElem?_eq_some_iff.1 hi).1;have hs:Jn f (i:Int)=Qn (tr f i):=Rd hc kU;have ht:=Xk hw hi;obtain⟨hx,hy⟩:=hw i n hi;have gx:Qw n.op=true->v.getD n.x.toNat false=ev (th base t) (tr f n.x.toNat):=fun h=>by
  have:=hx h;rw [hv,Qk,List.getElem?_map,List.getElem?_range (by omega)];rfl
 have gy:Qc n.op=true->v.getD n.y.toNat false=ev (th base t) (tr f n.y.toNat):=fun h=>by
  have:=hy h;rw [hv,Qk,List.getElem?_map,List.getElem?_range (by omega)];rfl
 have zV:=(Dq n.op).1 (Ni hc n (List.mem_of_getElem? hi)).1;rw [hs];by_cases hb:Jh n=true
 ·have hk:∀s:Tr,tr f i=s->ev (th base t) s=th base t s->Kx n (bif Jh n then Yn base (Qn (tr f i))else -1) t v=ev (th base t) (tr f i):=fun s e1 e2=>by
   rw [hb,cond_true,e1,e2];unfold Kx th;cases hd:decide (0<=Yn base (Qn s))
   ·simp only [cond_false];have ho:n.op=3\/n.op=9\/n.op=13:=by simpa [Jh]using hb
    rcases ho with ho|ho|ho <;> simp [ho]
   simp only [cond_true]
  have ho:n.op=3\/n.op=9\/n.op=13:=by simpa [Jh]using hb
  rcases ho with ho|ho|ho
  ·exact hk (.leaf n) (by rw [ht];simp [Yi,ho,Qw,Qc]) (by simp [ev,ho])
  ·exact hk (.one n.head (tr f n.x.toNat)) (by rw [ht];simp [Yi,ho,Qw,Qc]) (by simp [ev,Dp,ho])
  exact hk (.two n.head (tr f n.x.toNat) (tr f n.y.toNat)) (by rw [ht];simp [Yi,ho,Qw,Qc]) (by simp [ev,Dp,ho])
 have KJ:Jh n=false:=by simpa using hb
 rw [KJ,cond_false];have h3:n.op≠3/\n.op≠9/\n.op≠13:=by simpa [Jh]using KJ
 have CV:decide ((0:Int)<= -1)=false:=by decide
 unfold Kx;rw [CV,cond_false,ht];by_cases h4:n.op=4
 ·rw [gx (by rw [h4];rfl)];simp [Yi,h4,Qw,Qc,ev,Dp]
 by_cases h5:n.op=5
 ·rw [gx (by rw [h5];rfl),gy (by rw [h5];rfl)];simp [Yi,h5,Qw,Qc,ev,Dp]
 by_cases h6:n.op=6
 ·rw [gx (by rw [h6];rfl),gy (by rw [h6];rfl)];simp [Yi,h6,Qw,Qc,ev,Dp]
 by_cases h7:n.op=7
 ·rw [gx (by rw [h7];rfl),gy (by rw [h7];rfl)];simp [Yi,h7,Qw,Qc,ev,Dp]
 by_cases h8:n.op=8
 ·rw [gx (by rw [h8];rfl),gy (by rw [h8];rfl)];simp [Yi,h8,Qw,Qc,ev,Dp]
 have b4:(n.op==4)=false:=by simpa using h4
 have b5:(n.op==5)=false:=by simpa using h5
 have b6:(n.op==6)=false:=by simpa using h6
 have b7:(n.op==7)=false:=by simpa using h7
 have b8:(n.op==8)=false:=by simpa using h8
 rw [b4,b5,b6,b7,b8];simp only [cond_false];unfold Yi;cases hY:Qc n.op
 ·cases hX:Qw n.op
  ·simp only [cond_false,ev,h3.1,if_false];cases n.op==1 <;> rfl
  have h1:n.op≠1:=fun e=>by rw [e]at hX;cases hX
  have b1:(n.op==1)=false:=by simpa using h1
  rw [b1];simp [ev,Dp,h4,h3.2.1]
 have h1:n.op≠1:=fun e=>by rw [e]at hY;cases hY
 have b1:(n.op==1)=false:=by simpa using h1
 rw [b1];simp [ev,Dp,h5,h6,h7,h8,h3.2.2]
theorem Qwm(hc:check f=0):∀(k i:Nat),i+k=f.length->Qqx t (f.drop i) ((Ks base f).drop i) ((List.range i).map fun j=>ev (th base t) (tr f j))=(List.range f.length).map fun j=>ev (th base t) (tr f j)
 |0,i,h=>by
  have e:i=f.length:=by omega
  subst e;rw [List.drop_length];rfl
 |k+1,i,h=>by
  have hi:f[i]?=some f[i]:=List.getElem?_eq_getElem (by omega);have hp:=Qk2 (base:=base) hi;obtain⟨lU,eA⟩:=List.getElem?_eq_some_iff.1 hp;rw [List.drop_eq_getElem_cons (show i < f.length by omega),List.drop_eq_getElem_cons lU,eA];show Qqx t _ _ (_++ [_])=_;rw [Qoz hc hi _ rfl];have e:(List.range i).map (fun j=>ev (th base t) (tr f j))++ [ev (th base t) (tr f i)]=(List.range (i+1)).map fun j=>ev (th base t) (tr f j):=by
   rw [List.range_succ,List.map_append];rfl
  rw [e];exact Qwm hc k (i+1) (by omega)
theorem Zj8(hc:check f=0):atN f (Ks base f) t=ev (th base t) (Qe f):=by
 unfold atN;have h:=Qwm (base:=base) (t:=t) hc f.length 0 (by omega);simp only [List.drop_zero,List.range_zero,List.map_nil]at h;rw [h];have hp:=(Jg hc).1;obtain⟨k,hk⟩:∃k,f.length=k+1:=⟨f.length - 1,by omega⟩;rw [hk,List.range_succ,List.map_append,List.map_cons,List.map_nil];unfold Qe;rw [hk];simp
end
theorem Xb(base:List (List Nd))(f:List Nd):(Vq base f).length=2^base.length:=by simp [Vq]
theorem Qjt {base:List (List Nd)} {f:List Nd}(hc:check f=0) {t:Nat}(ht:t < 2^base.length):(Vq base f).getD t false=ev (th base t) (Qe f):=by
 unfold Vq;rw [Qk,List.getElem?_map,List.getElem?_range ht];exact Zj8 hc
def Qhl(a b:List Bool):Prop:=∀t,b.getD t false=true->a.getD t false=true
theorem Qd1(l:List Bool)(t u:Nat):(l.set t false).getD u false=(bif u==t then false else l.getD u false):=by
 rw [Qk,List.getElem?_set,Qk];by_cases h:u=t
 ·subst h;simp
  split <;> rfl
 have:(u==t)=false:=by simpa using h
 rw [this,if_neg (fun e=>h e.symm)];rfl
theorem Qi8(l:List Bool)(t:Nat):Qhl l (l.set t false):=fun u h=>by
 rw [Qd1]at h;cases e:u==t
 ·rw [e]at h;exact h
 rw [e]at h;cases h
def cnt(l:List Bool):Nat:=l.countP id
theorem Qrh:∀(l:List Bool) (t:Nat),l.getD t false=true->cnt (l.set t false)+1=cnt l
 |[],t,h=>by simp at h
 |a :: r,0,h=>by
  simp at h;subst h;simp [cnt]
 |a :: r,t+1,h=>by
  have ih:=Qrh r t (by simpa using h);unfold cnt at ih⊢;rw [List.set_cons_succ,List.countP_cons,List.countP_cons];omega
theorem Qkk(l:List Bool):cnt l<=l.length:=List.countP_le_length
section
variable {why:List Bool->Nat->Option Int}
def Uy(why:List Bool->Nat->Option Int)(s:List Bool×List (Nat×Int))(t:Nat):List Bool×List (Nat×Int):=
 bif s.1.getD t false then(match why s.1 t with|none=>s|some i=>(s.1.set t false,s.2++ [(t,i)]))else s
theorem Hi(t:Nat)(r:List Nat)(s:List Bool×List (Nat×Int)):Ko why (t :: r) s=Ko why r (Uy why s t):=rfl
theorem Qyx:∀(a b:List Nat) (s:List Bool×List (Nat×Int)),Ko why (a++b) s=Ko why b (Ko why a s)
 |[],_,_=>rfl
 |t :: r,b,s=>Qyx r b (Uy why s t)
theorem Qe3(s:List Bool×List (Nat×Int))(t:Nat):(Uy why s t).1.length=s.1.length:=by
 unfold Uy;cases s.1.getD t false
 ·rfl
 cases why s.1 t with
 |none=>rfl
 |some i=>simp
theorem Qdt:∀(r:List Nat) (s:List Bool×List (Nat×Int)),(Ko why r s).1.length=s.1.length
 |[],_=>rfl
 |t :: r,s=>(Qdt r (Uy why s t)).trans (Qe3 s t)
theorem Il(s:List Bool×List (Nat×Int))(t:Nat):
 (Uy why s t=s/\(s.1.getD t false=true->why s.1 t=none))\/(∃i,s.1.getD t false=true/\why s.1 t=some i/\Uy why s t=(s.1.set t false,s.2++ [(t,i)])):=by
 unfold Uy;cases h:s.1.getD t false
 ·exact .inl ⟨rfl,fun e=>by cases e⟩
 cases hw:why s.1 t with
 |none=>exact .inl ⟨rfl,fun _=>rfl⟩
 |some i=>exact .inr ⟨i,rfl,rfl,rfl⟩
theorem Qd4(s:List Bool×List (Nat×Int))(t:Nat):cnt (Uy why s t).1+(Uy why s t).2.length=cnt s.1+s.2.length/\s.2.length<=(Uy why s t).2.length:=by
 rcases Il (why:=why) s t with⟨e,_⟩|⟨i,h,_,e⟩
 ·rw [e];exact⟨rfl,Nat.le_refl _⟩
 rw [e];have:=Qrh s.1 t h;simp only [List.length_append,List.length_singleton];omega
theorem Ch:∀(r:List Nat) (s:List Bool×List (Nat×Int)),cnt (Ko why r s).1+(Ko why r s).2.length=cnt s.1+s.2.length/\s.2.length<=(Ko why r s).2.length
 |[],_=>⟨rfl,Nat.le_refl _⟩
 |t :: r,s=>by
  have h1:=Qd4 (why:=why) s t;have h2:=Ch r (Uy why s t);rw [Hi];omega
theorem Qzk:∀(r:List Nat) (s:List Bool×List (Nat×Int)),(Ko why r s).2.length=s.2.length->Ko why r s=s/\∀t∈r,s.1.getD t false=true->why s.1 t=none
 |[],s,_=>⟨rfl,fun t h=>by cases h⟩
 |t :: r,s,h=>by
  rw [Hi]at h;have h2:=(Ch (why:=why) r (Uy why s t)).2;rcases Il (why:=why) s t with⟨e,hn⟩|⟨i,_,_,e⟩
  ·rw [e]at h;obtain⟨a,b⟩:=Qzk r s h;rw [Hi,e];refine⟨a,fun u hu=> ?_⟩;rcases List.mem_cons.1 hu with rfl|hu
   ·exact hn
   exact b u hu
  rw [e]at h h2;simp only [List.length_append,List.length_singleton]at h2;omega
theorem Qbe:∀(k:Nat) (s:List Bool×List (Nat×Int)),(Rs why k s).1.length=s.1.length
 |0,_=>rfl
 |k+1,s=>by
  unfold Rs;cases(Ko why (List.range s.1.length) s).2.length==s.2.length
  ·exact(Qbe k _).trans (Qdt _ _)
  rfl
theorem Qyi:∀(k:Nat) (s:List Bool×List (Nat×Int)),cnt s.1 < k->∀t,(Rs why k s).1.getD t false=true->why (Rs why k s).1 t=none
 |0,s,h,_=>by omega
 |k+1,s,h,t=>by
  unfold Rs;cases he:(Ko why (List.range s.1.length) s).2.length==s.2.length
  ·have zQ:(Ko why (List.range s.1.length) s).2.length≠s.2.length:=by simpa using he
   have hc:=Ch (why:=why) (List.range s.1.length) s;exact Qyi k _ (by omega) t
  intro ht;have hl:t < s.1.length:=by
   by_cases e:t < s.1.length
   ·exact e
   rw [cond_true,Qk,List.getElem?_eq_none (by omega)]at ht;cases ht
  exact(Qzk _ _ (by simpa using he)).2 t (List.mem_range.2 hl) ht
theorem Qga {S:List Bool->Prop}(hS:∀(al:List Bool) (t:Nat) (i:Int),S al->al.getD t false=true->why al t=some i->S (al.set t false)):∀(r:List Nat) (s:List Bool×List (Nat×Int)),S s.1->S (Ko why r s).1
 |[],_,h=>h
 |t :: r,s,h=>by
  rw [Hi];refine Qga hS r _ ?_;rcases Il (why:=why) s t with⟨e,_⟩|⟨i,h1,h2,e⟩
  ·rw [e];exact h
  rw [e];exact hS _ _ _ h h1 h2
theorem Qqt {S:List Bool->Prop}(hS:∀(al:List Bool) (t:Nat) (i:Int),S al->al.getD t false=true->why al t=some i->S (al.set t false)):∀(k:Nat) (s:List Bool×List (Nat×Int)),S s.1->S (Rs why k s).1
 |0,_,h=>h
 |k+1,s,h=>by
  unfold Rs;cases(Ko why (List.range s.1.length) s).2.length==s.2.length
  ·exact Qqt hS k _ (Qga hS _ _ h)
  exact h
end
section
variable {why:List Bool->Nat->Option Int} {lk:List Bool->Nat->Int->Bool} (XF:∀al t i,why al t=some i->lk al t i=true)
include XF
def Zvn(lk:List Bool->Nat->Int->Bool)(al0:List Bool)(s:List Bool×List (Nat×Int)):Prop:=Qbd lk (s.2.map Prod.fst) (s.2.map Prod.snd) al0=some s.1
end
end Go.Proofs.YtkmclcmnoicagaaGreatDoor
