/- The reference's Check, Sub, Compact and Same. -/
import Derived.Test.YtkmclcmnoicagaaGreatDoorH13
namespace Go.Proofs.YtkmclcmnoicagaaGreatDoor
set_option maxRecDepth 100000
set_option maxHeartbeats 128000000
open Go.RowKit
theorem Qoq {bw:Nat} {W0:World} {A:Option Addr} {c:Nat} {f:List Nd} {vd:Value}(hf:Wf f)(zP:∀n∈f,n.ok)(zG:f.length<=1000):
 ∀i:Nat,i < f.length->Qdj bw W0 A c f vd i:=by
 intro i
 induction i using Nat.strongRecOn with
 |_ i ih =>
  intro hi w o d vo tU nI;obtain⟨n,hn⟩:∃n,f[i]?=some n:=⟨_,Qv hi⟩;rw [Int.toNat_natCast];rcases tU.done.2 i hi with hd|⟨wX,hd⟩
  ·refine Qoz hf zP tU zG i n hn hd nI (fun z h0 h1=> ?_) _ _ rfl rfl;obtain⟨j,rfl⟩:=Int.eq_ofNat_of_zero_le h0;exact ih j (by omega) (by omega)
  refine(Qaj tU zG i _ hi hd).mono ?_;rintro e w' ⟨rfl,rfl⟩;exact⟨vo,d,rfl,by rw [wX];exact tU,Gi.refl _ _⟩
theorem Gn(v:Value)(l:List Nd)(w:World)(h:Wn w v l):
 Calls Tryz.prog 13 #[v] w fun e w'=>e=.returned (.int .i64 (check l))/\Qg w w':=by
 obtain⟨A,c,rfl,xR,yN,zM⟩:=h;unfold maxLen at yN;by_cases h0:l.length=0
 ·have vX:check l=3:=by simp [check,h0]
  rw [h0,vX];clear vX zM;go_enter Tryz.func13,Tryz.ntmps13;go_wp2_with fail;go_ret;exact⟨rfl,Qz⟩
 have e0:((l.length:Int)==0)=false:=by rw [beq_eq_false_iff_ne];omega
 by_cases h1:200 < l.length
 ·have vX:check l=8:=by simp [check,h0,h1]
  rw [vX];clear vX zM;go_enter Tryz.func13,Tryz.ntmps13;go_wp2_with fail;go_ret;exact⟨rfl,Qz⟩
 have zQ:l≠ []:=fun e=>h0 (by simp [e])
 obtain⟨ad,rfl,zJ,zH⟩:=zM zQ;have HC:=Qq zH;clear zH;have HK:=Qq (show check l=Jw l 0 by simp [check,h0,h1]);have hl:l.length<=200:=by omega
 clear h0 h1 zM;go_enter Tryz.func13,Tryz.ntmps13;go_wp2_with fail;go_loopw [3] (fun i wr=>∃k:Nat,k<=l.length/\i=.int .i64 k/\Hid (Jw l 0=Jw (l.drop k) k)/\Qg w wr) (fun i _=>l.length - (intOf i).toNat)
 case atStart=>exact⟨0,Nat.zero_le _,rfl,Qq rfl,Qz⟩
 case round =>
  obtain⟨k,hk,rfl,tT,yT⟩:=hrel;by_cases hlt2:k < l.length
  ·obtain⟨n,hn⟩:∃n,l[k]?=some n:=⟨_,Qv hlt2⟩;have wZ:=Wt l k n hn;obtain⟨c0,c1,c2,c3,c4,c5⟩:=(HC.out k n hn).keep fun p hp=>yT.cell (p:=p) (by rw [hp,Qr];exact zJ)
   by_cases he:Zr n k=0
   ·have jX:Hid (Jw l 0=Jw (l.drop (k+1)) ((k+1:Nat):Int)):=Qq (by rw [tT.out,wZ,he];rfl);have hh:=Qq he;clear wZ he hn tT;go_wp2_with(go_at_call 43;refine(Qvt n _ _).mono ?_;rintro e w1 ⟨rfl,hb⟩;rw [hh.out]);go_roundw
    case rel=>exact⟨k+1,by omega,by go_num,jX,yT.trans hb⟩
    case measure=>simp [intOf];omega
   have hh:(Zr n k !=0)=true:=by simpa using he
   have jX:Hid (Jw l 0=Zr n k):=Qq (by rw [tT.out,wZ,hh];rfl);clear wZ he hn tT;go_wp2_with(go_at_call 43;refine(Qvt n _ _).mono ?_;rintro e w1 ⟨rfl,hb⟩);go_ret;exact⟨Ko (by rw [HK.out,jX.out]),yT.trans hb⟩
  obtain rfl:l.length=k:=by omega
  go_wp2_with fail;go_ret;refine⟨Ko ?_,yT⟩;rw [HK.out,tT.out];simp [Jw]
theorem Qh8 {w W w4:World} {bw:Nat} {v v0 v1:Value} {t:TypeId}(hb:w.heap[bw]?=some (.cells #[v0,v1] t (0,0)))(zQ:v.ownBlock≠some bw)(he:Qg w W)(hg:W.grownBy w4 v.ownBlock):w4.heap[bw]?=some (.cells #[v0,v1] t (0,0)):=
 ((hg.block bw (Qy (Qn hb) he.size) (fun e=>zQ e.symm)).trans (he.block (Qn hb))).trans hb
structure Zjh (w1:World) (k:Nat) (vd:Value) (wr:World):Prop where
 blk:wr.heap[w1.heap.size]?=some (.cells #[.slice none 0 0,vd] 170 (0,0))
 row:wr.ownsRow (w1.heap.size+1) 3 1 vd k ((List.replicate k (-1:Int)).map (Value.int .i64))
 ext:Qg w1 wr
theorem Qod {w1 w4:World} {k:Nat} {v' v0:Value} {xs:List Value}(hb:w4.heap[w1.heap.size]?=some (.cells #[.slice none 0 0,v0] 170 (0,0)))(hr:w4.ownsRow (w1.heap.size+1) 3 1 v' (k+1) (xs++ [.int .i64 (-1)]))
 (zQ:v'.ownBlock≠some w1.heap.size)(hx:Qg w1 w4)(rZ:xs=(List.replicate k (-1:Int)).map (Value.int .i64)):∃vd,Zjh w1 (k+1) vd (w4.setCell ⟨w1.heap.size,1,none⟩ v'):=by
 refine⟨v',Qzg hb _,ownsRow_setCell_other (a:=⟨w1.heap.size,1,none⟩) ?_ zQ _,Qg.setCell hx (Nat.le_refl _) _⟩;subst rZ;rw [List.replicate_succ',List.map_append];exact hr
theorem Qx7(v:Value)(l:List Nd)(z:Int)(w:World)(h:Yq w v l):
 Calls Tryz.prog 175 #[v,.int .i64 z] w fun e w'=>∃u,e=.returned u/\Vq w w' u (Js l z):=by
 have H:=Qq h;obtain⟨⟨A,c,rfl,yM⟩,zP⟩:=h;have jK:=Qq yM;have yU:=yM.1;have xY:=yM.2.1;unfold maxLen at xY;clear yM zP;by_cases hc:check l=0
 ·by_cases hz:z < 0
  ·have HR:=Qq (show Js l z= [] by unfold Js;simp [hz]);have HC:=Qq hc;clear hc;go_enter Tryz.func175,Tryz.ntmps175;go_wp2_with(go_at_call 13;refine(Gn _ l _ H.out.1).mono ?_;rintro e w1 ⟨rfl,hb⟩;rw [HC.out]);go_ret;exact⟨_,rfl,by rw [HR.out];exact(Vq.none_ _).after hb⟩
  by_cases hl:(l.length:Int)<=z
  ·have HR:=Qq (show Js l z= [] by unfold Js;simp [hl]);have HC:=Qq hc;clear hc;go_enter Tryz.func175,Tryz.ntmps175;go_wp2_with(go_at_call 13;refine(Gn _ l _ H.out.1).mono ?_;rintro e w1 ⟨rfl,hb⟩;rw [HC.out]);go_ret;exact⟨_,rfl,by rw [HR.out];exact(Vq.none_ _).after hb⟩
  obtain⟨r,rfl⟩:=Int.eq_ofNat_of_zero_le (show 0<=z by omega);have hr:r < l.length:=by omega
  have HR:=Qq (show Js l r=(Zw l r []).1 by
   unfold Js;rw [hc];have h1:decide ((r:Int) < 0)=false:=by simp
   have h2:decide ((l.length:Int)<=(r:Int))=false:=by simp;omega
   rw [h1,h2]
   rfl)
  have HC:=Qq hc;have HL:=(Jf hc).2.1;obtain⟨i3,QH,Z1,Z0,Y9⟩:=info_parts Ih;have nP:decide ((r:Int) < 0)=false:=by simp
  have pZ:decide (l.length<=r)=false:=by simp;omega
  clear hc;go_enter Tryz.func175,Tryz.ntmps175;go_wp2_with(go_at_call 13;refine(Gn _ l _ H.out.1).mono ?_;rintro e w1 ⟨rfl,hb⟩;rw [HC.out];have HB:=Qq hb;clear hb);go_loopw [6] (fun i wr=>∃k:Nat,k<=l.length/\i=.int .i64 k/\Hid (∃vd,Zjh w1 k vd wr)) (fun i _=>l.length - (intOf i).toNat)
  case atStart=>exact⟨0,Nat.zero_le _,rfl,Qq ⟨.slice none 0 0,heap_alloc_new _ _,World.ownsRow_nil _ _ _ _,Qz.alloc _⟩⟩
  case round =>
   obtain⟨k,hk,rfl,lA⟩:=hrel;obtain⟨vd,XB,WN,yT⟩:=lA.out;have kU:=Qq XB;have yO:=Qq WN;clear XB WN lA;obtain⟨Ad,cd,rfl⟩:=Qt yO.out;obtain⟨d0,d1,dfr,dlt⟩:=Uz kU.out;by_cases hlt2:k < l.length
   ·have xS:k+1<=maxLen:=by unfold maxLen;omega
    have xP:(k+1)*8<=140737488355328:=by omega
    have xQ:=dfr 1;have iZ:=Qq (Qj2 yO.out);have MS:∀X,w1.heap.size+1<=(wr.alloc X).heap.size:=fun X=>by simp;omega
    obtain⟨xs,rZ⟩:∃xs,xs=(List.replicate k (-1:Int)).map (Value.int .i64):=⟨_,rfl⟩;rw [<-rZ]at yO;have iT:=Qq rZ;clear rZ;go_wp2_with(at_builtin;refine wpList_append_own_at _ rfl _ _ 36 rfl (w1.heap.size+1) 3 i3 (.int .i64 0) 1 8 Tryz.underlying36 QH Z1 Z0 Y9 rfl (by decide) _ _ _ rfl (Zg yO.out (Qz.alloc _)) _ 1 1 [.int .i64 (-1)] rfl rfl (Zt _ _ _ (by simp)) (fun u hu=>by rw [List.mem_singleton.1 hu];rfl) xS xP (MS _) ?_);intro v' w4 yE yL _ tY;obtain⟨A4,c4,rfl⟩:=Qt yE;have tZ:=Qq yE;have kb:=Qh8 kU.out iZ.out (Qz.alloc _) yL
    have yP:=Qq ((Qg.alloc yT _).grown yL (fun g hg=>by have:=(yO.out.lt g hg).1;omega));have FK:=Qq (Qj2 yE);obtain⟨q0,q1,qfr,qlt⟩:=Uz kb;have qf1:=qfr 1;have KB:=Qq kb;clear yE yL tY kb d0 d1 dfr dlt xQ;go_wp2_with fail;go_roundw
    case rel=>exact⟨k+1,by omega,by go_num,Qq (Qod KB.out tZ.out FK.out yP.out iT.out)⟩
    case measure=>simp [intOf];omega
   obtain rfl:l.length=k:=by omega
   have UM:=Qq (Qoq (bw:=w1.heap.size) (W0:=w) (A:=A) (c:=c) (vd:=.slice Ad l.length cd) (Yt HC.out) H.out.2 (by omega) r hr)
   have FZ:Hid (Dz w1.heap.size w wr A c l [] (List.replicate l.length (-1)) (.slice none 0 0) (.slice Ad l.length cd)):=
    Qq ⟨HB.out.trans yT,jK.out,kU.out,World.ownsRow_nil _ _ _ _,Kp yO.out (Nat.le_succ_of_le HB.out.size),⟨by simp,fun i hi=> .inl (by simp [hi])⟩,HB.out.size,by simp⟩
   go_wp2_with fail;refine(UM.out _ _ _ _ FZ.out (It l)).mono ?_;rw [Int.toNat_natCast];rintro e w5 ⟨vo5,d5,rfl,tU,wZ⟩;obtain⟨q0,q1,qfr,qlt⟩:=Uz tU.blk;have HM:=Qq (show Vq w w5 vo5 (Js l r) by rw [HR.out];exact⟨tU.row,tU.oks,tU.below⟩);obtain⟨A6,c6,rfl⟩:=Qt tU.row;clear tU wZ;go_wp2_with fail;go_ret;exact⟨_,rfl,HM.out⟩
 have yS:(check l !=0)=true:=by simpa using hc
 have HR:=Qq (show Js l z= [] by unfold Js;rw [yS];rfl);clear hc;go_enter Tryz.func175,Tryz.ntmps175;go_wp2_with(go_at_call 13;refine(Gn _ l _ H.out.1).mono ?_;rintro e w1 ⟨rfl,hb⟩);go_ret;exact⟨_,rfl,by rw [HR.out];exact(Vq.none_ _).after hb⟩
theorem Sp(v:Value)(l:List Nd)(w:World)(h:Yq w v l):
 Calls Tryz.prog 110 #[v] w fun e w'=>∃u,e=.returned u/\Vq w w' u (Qf l):=by
 have H:=Qq h;obtain⟨⟨A,c,rfl,yM⟩,zP⟩:=h;have hl:=yM.1;have hm:=yM.2.1;unfold maxLen at hm;clear yM zP;go_enter Tryz.func110,Tryz.ntmps110;go_wp2_with fail;refine(Qx7 _ l _ _ H.out).mono ?_;rintro e w2 ⟨u,rfl,hm⟩;have HM:=Qq hm;clear hm;go_wp2_with fail;go_ret;exact⟨_,rfl,HM.out⟩
theorem Qsk(op:Int)(w:World)(ho:Yp op=true):Calls Tryz.prog 157 #[.int .i64 op] w fun e w'=>e=.returned (.int .i64 (Vn op))/\w=w':=by
 have h1:=(Dc op).1 ho;rcases Dh op with h|h|h|h|h|h|h|h|h|h|h|h|h|h|h|h|h|h|h|h|h|h|h
 ·omega
 ·omega
 all_goals(subst h;go_enter Tryz.func157,Tryz.ntmps157;go_wp2;go_ret;exact⟨rfl,rfl⟩)
theorem Qba(l:List Nd):∀n∈Qf l,Yp n.op=true:=by
 intro n hn;by_cases h:check l=0
 ·exact((Jb h).2.2.2 n hn).1
 rw [Qz7 h]at hn;cases hn
theorem Mj(v:Value)(l:List Nd)(w:World)(h:Yq w v l):
 Calls Tryz.prog 90 #[v] w fun e w'=>e=.returned (.int .i64 (Jp l:Nat))/\Qg w w':=by
 have H:=Qq h;clear h;go_enter Tryz.func90,Tryz.ntmps90;go_wp2_with fail;refine(Sp _ l _ H.out).mono ?_;rintro e w1 ⟨u,rfl,hm⟩;have HX:=Qq hm.2.2;obtain⟨A,c,rfl,xR,yN,zM⟩:=hm.fml.1;unfold maxLen at yN;have HR:=Qq zM;obtain⟨cl,yU⟩:∃cl,cl=Qf l:=⟨_,rfl⟩;have uO:=Qq (show Jp l=Kv cl by rw [yU];rfl);have xU:=Qq (Qba l);rw [<-yU]at HR xR xU;rw [<-yU];clear hm zM yU;go_wp2_with fail;go_loopw [4,5] (fun out i wr=>∃k:Nat,k<=cl.length/\i=.int .i64 k/\out=.int .i64 (Kv (cl.take k):Nat)/\Qg w1 wr) (fun _ i _=>cl.length - (intOf i).toNat)
 case atStart=>exact⟨0,Nat.zero_le _,rfl,rfl,Qz⟩
 case round =>
  obtain⟨k,hk,rfl,rfl,yT⟩:=hrel;by_cases hlt2:k < cl.length
  ·obtain⟨a,ha⟩:∃a,cl[k]?=some a:=⟨_,Qv hlt2⟩;obtain⟨ad,rfl,yS,xV⟩:=HR.out (by intro e;rw [e]at hlt2;simp at hlt2);obtain⟨a0,a1,a2,a3,a4,a5⟩:=(xV k a ha).keep fun p hp=>yT.cell (p:=p) (by rw [hp,Qr];exact yS)
   have xM:=Qjk a.op;obtain⟨fa,lV⟩:=Int.eq_ofNat_of_zero_le xM.1;have uW:=Dp (Kv (cl.take k)) fa (by have:=Pd (cl.take k);omega) (by omega);have HS:Hid (Kv (cl.take (k+1))=(Kv (cl.take k)|||fa)):=Qq (by rw [Kd ha,Qzm,lV];rfl);have kS:=Qq lV;have HO:=Qq (xU.out a (List.mem_of_getElem? ha));generalize Kv (cl.take k)=m at uW HS;clear ha xV xM lV;go_wp2_with(go_at_call 157;refine(Qsk a.op _ HO.out).mono ?_;rintro e w2 ⟨rfl,rfl⟩;rw [kS.out]);go_roundw
   case rel=>exact⟨k+1,by omega,by go_num,by rw [HS.out],yT⟩
   case measure=>simp [intOf];omega
  obtain rfl:cl.length=k:=by omega
  go_wp2_with fail;go_ret;exact⟨Ko (by rw [uO.out,List.take_of_length_le (Nat.le_refl _)]),HX.out.trans yT⟩
theorem Zys(v1 v2:Value)(f g:List Nd)(w:World)(h1:Yq w v1 f)(h2:Yq w v2 g):
 Calls Tryz.prog 123 #[v1,v2] w fun e w'=>∃u,e=.returned u/\Vq w w' u (orN f g):=by
 have H1:=Qq h1;have H2:=Qq h2;obtain⟨A1,c1,rfl,_⟩:=Qc h1;obtain⟨A2,c2,rfl,_⟩:=Qc h2;clear h1 h2;go_enter Tryz.func123,Tryz.ntmps123;go_wp2_with fail;refine(Fj ⟨6,0,0,0,0,0⟩ _ [f,g] _ (Fl (Zz (by omega) (by omega)) (Zz (by omega) (by omega)) (Zz (by omega) (by omega)) (Zz (by omega) (by omega)) (Zz (by omega) (by omega)) (Zz (by omega) (by omega))) (Et H1.out H2.out) (by simp)).mono ?_;rintro e w1 ⟨u,rfl,hm⟩;have HM:=Qq hm;clear hm;go_wp2_with fail;go_ret;exact⟨_,rfl,(HM.out.before (Qz.alloc _))⟩
theorem Qet(v1 v2:Value)(f g:List Nd)(w:World)(h1:Yq w v1 f)(h2:Yq w v2 g):
 Calls Tryz.prog 124 #[v1,v2] w fun e w'=>∃u,e=.returned u/\Vq w w' u (Qe9 f g):=by
 have H1:=Qq h1;have H2:=Qq h2;obtain⟨A1,c1,rfl,_⟩:=Qc h1;obtain⟨A2,c2,rfl,_⟩:=Qc h2;clear h1 h2;go_enter Tryz.func124,Tryz.ntmps124;go_wp2_with fail;refine(Fj ⟨8,0,0,0,0,0⟩ _ [f,g] _ (Fl (Zz (by omega) (by omega)) (Zz (by omega) (by omega)) (Zz (by omega) (by omega)) (Zz (by omega) (by omega)) (Zz (by omega) (by omega)) (Zz (by omega) (by omega))) (Et H1.out H2.out) (by simp)).mono ?_;rintro e w1 ⟨u,rfl,hm⟩;have HM:=Qq hm;clear hm;go_wp2_with fail;go_ret;exact⟨_,rfl,(HM.out.before (Qz.alloc _))⟩
def Qgn(g:Int)(a b:List Nd):List Nd:=Vd ⟨13,0,0,g,0,0⟩ [a,b]
theorem Qlv(k:Int)(hk:Vp k)(v1 v2:Value)(f g:List Nd)(w:World)(h1:Yq w v1 f)(h2:Yq w v2 g):
 Calls Tryz.prog 125 #[.int .i64 k,v1,v2] w fun e w'=>∃u,e=.returned u/\Vq w w' u (Qgn k f g):=by
 have H1:=Qq h1;have H2:=Qq h2;obtain⟨A1,c1,rfl,_⟩:=Qc h1;obtain⟨A2,c2,rfl,_⟩:=Qc h2;clear h1 h2;go_enter Tryz.func125,Tryz.ntmps125;go_wp2_with fail;refine(Fj ⟨13,0,0,k,0,0⟩ _ [f,g] _ (Fl (Zz (by omega) (by omega)) (Zz (by omega) (by omega)) (Zz (by omega) (by omega)) hk (Zz (by omega) (by omega)) (Zz (by omega) (by omega))) (Et H1.out H2.out) (by simp)).mono ?_;rintro e w1 ⟨u,rfl,hm⟩;have HM:=Qq hm;clear hm;go_wp2_with fail;go_ret;exact⟨_,rfl,(HM.out.before (Qz.alloc _))⟩
def Ik(g:Int)(a:List Nd):List (List Nd):=((List.range 4).filter fun i=>Vg g i).map fun(i:Nat)=>Uq (i:Int) a
def Qb4(e:List Nd):List (List Nd)->List Nd
 |[]=>e
 |f :: r=>r.foldl Bt (Qf f)
def Qva(l:List (List Nd)):List Nd:=Qb4 Qzn l
def Jc(x:Nd)(a b:List Nd):List Nd :=
 bif x.op==1 then Qzn else bif x.op==2 then If else bif x.op==3 then Qxf x.i else bif x.op==4 then Kk a
 else bif x.op==9 then Uq x.i a else bif x.op==10 then Kk (Uq x.i (Kk a))
 else bif x.op==11 then Qva (Ik x.g a)
 else bif x.op==5 then Bt a b else bif x.op==6 then orN a b else bif x.op==7 then Qkv a b else bif x.op==8 then Qe9 a b else Qgn x.g a b
def Ux:List Nd->List (List Nd)->Option (List (List Nd))
 |[],d=>some d
 |x :: r,d=>bif decide ((Jc x (d.getD x.x.toNat []) (d.getD x.y.toNat [])).length=0)then none else Ux r (d++ [Jc x (d.getD x.x.toNat []) (d.getD x.y.toNat [])])
def Ji(f:List Nd):List Nd:=match Ux (Qf f) []with|none=> []|some d=>d.getLastD []
def Jh(n:Nd):Bool:=n.op==3||(n.op==9||n.op==13)
def Ua(i:Nat)(c:List Nd):List Nd:=Uq (i:Int) (Qkv (Js c (Qi c).x) (Bt (Js c (Qi c).y) c))
def Qy4(f:List Nd):List (List Nd):=Rm (Qf f)
def Yw(g:List Nd):List (List Nd):=(Qy4 g).filter fun s=>Jh (Qi s)
def Kz(c:List Nd):List (List Nd):=bif (Qi c).op==13 then((List.range 4).filter fun i=>Vg (Qi c).g i).map fun i=>Ua i c else []
def Ga(l:List (List Nd))(g:List Nd):List (List Nd):=bif decide (Yr l g < 0)then l++ [g]else l
def Kw(g:List Nd):List (List Nd)×Int :=
 bif ((Yw g).flatMap Kz).any (fun u=>decide (u.length=0))||decide (12 < (((Yw g).flatMap Kz).foldl Ga (Yw g)).length)then([],8)
 else(((Yw g).flatMap Kz).foldl Ga (Yw g),0)
def Nf(f:List Nd):Bool:=(Jp f&&&500) !=0
def Qp(f:List Nd):List (List Nd)×Int :=
 bif check f !=0 then([],check f)else bif Nf f then([],10)else bif decide ((Ji f).length=0)then([],8)else Kw (Ji f)
def Km(base:List (List Nd))(f:List Nd):List Int:=(List.range f.length).map fun(i:Nat)=>bif Jh (f.getD i Nd.zero)then Yr base (Js f (i:Int))else -1
def Kr(n:Nd)(k:Int)(t:Nat)(v:List Bool):Bool :=
 bif decide (0<=k)then t.testBit k.toNat
 else bif n.op==1 then true
 else bif n.op==4 then !v.getD n.x.toNat false
 else bif n.op==5 then v.getD n.x.toNat false&&v.getD n.y.toNat false
 else bif n.op==6 then v.getD n.x.toNat false||v.getD n.y.toNat false
 else bif n.op==7 then !v.getD n.x.toNat false||v.getD n.y.toNat false
 else bif n.op==8 then v.getD n.x.toNat false==v.getD n.y.toNat false
 else false
def Qz1(t:Nat):List Nd->List Int->List Bool->List Bool
 |n :: r,k :: s,v=>Qz1 t r s (v++ [Kr n k t v])
 |_,_,v=>v
def atN(f:List Nd)(ps:List Int)(t:Nat):Bool:=(Qz1 t f ps []).getLastD false
def Vv(base:List (List Nd))(f:List Nd):List Bool:=(List.range (2^base.length)).map fun t=>atN f (Km base f) t
structure Kn where
 agent:Int
 place:Nat
 holds:List Bool
structure Cm where
 place:Nat
 group:Int
 x:List Bool
 y:List Bool
 parts:Nat
def Sq(base:List (List Nd))(g:List Nd):Nat:=((List.range 4).filter fun i=>Vg (Qi g).g i).foldl (fun p i=>p|||2^(Yr base (Ua i g)).toNat) 0
def Ch(base:List (List Nd))(g:List Nd)(i:Nat):List Kn:=bif (Qi g).op==9 then [⟨(Qi g).i,i,Vv base (Js g (Qi g).x)⟩]else []
def Mf(base:List (List Nd))(g:List Nd)(i:Nat):List Cm:=bif (Qi g).op==13 then [⟨i,(Qi g).g,Vv base (Js g (Qi g).x),Vv base (Js g (Qi g).y),Sq base g⟩]else []
def Zs(base:List (List Nd)):List Kn:=(List.range base.length).flatMap fun i=>Ch base (base.getD i []) i
def Jm(base:List (List Nd)):List Cm:=(List.range base.length).flatMap fun i=>Mf base (base.getD i []) i
def Bw(lg:Int):Bool:=lg==2||(lg==4||lg==6)
def Vk(lg:Int)(ks:List Kn)(cs:List Cm)(t:Nat):Bool :=
 cs.all (fun c=>t.testBit c.place==((t&&&c.parts)==c.parts))&&ks.all (fun k=> !(Bw lg&&(t.testBit k.place&& !k.holds.getD t false)))
def Jy(lg:Int)(ks:List Kn)(a:Int)(t u:Nat):Bool:=ks.all fun k=>k.agent !=a||Kt lg (t.testBit k.place) (k.holds.getD u false) (u.testBit k.place)
def Xo(lg:Int)(ks:List Kn)(alive:List Bool)(a:Int)(t:Nat)(wanted:Nat->Bool)(u:Nat):Bool:=alive.getD u false&&(wanted u&&Jy lg ks a t u)
def Xw(lg:Int)(ks:List Kn)(alive:List Bool)(a:Int)(t:Nat)(wanted:Nat->Bool):Int:=match (List.range alive.length).find? (Xo lg ks alive a t wanted)with|none=> -1|some u=>u
def Pm(lg:Int)(ks:List Kn)(alive:List Bool)(c:Cm)(t u:Nat):Bool:=alive.getD u false&&(c.x.getD u false&&(List.range 4).any fun(a:Nat)=>Vg c.group a&&Jy lg ks (a:Int) t u)
open Classical in
noncomputable def Hs (lg:Int) (ks:List Kn) (alive:List Bool) (c:Cm) (t:Nat):Bool:=decide (∃u,Kj (fun a b=>Pm lg ks alive c a b=true) t u/\c.y.getD u false=false)
noncomputable def Vr (lg:Int) (ks:List Kn) (cs:List Cm) (alive:List Bool) (t:Nat) (num:Int):Bool :=
 bif decide (num < 0)then(lg==1||lg==5)&&(ks.any (fun k=>k.agent== -1 - num)&&decide (Xw lg ks alive (-1 - num) t (fun _=>true) < 0))
 else match ks.find? (fun k=>(k.place:Int)==num)with
  |some k=> !t.testBit num.toNat&&decide (Xw lg ks alive k.agent t (fun u=> !k.holds.getD u false) < 0)
  |none=>match cs.find? (fun c=>(c.place:Int)==num)with
   |some c=> !t.testBit num.toNat&& !Hs lg ks alive c t
   |none=>false
def Hm(alive root:List Bool):Bool:=(List.range alive.length).any fun t=>alive.getD t false&&root.getD t false
noncomputable def Tc (lg:Int) (ks:List Kn) (cs:List Cm) (m:Nat) (alive:List Bool) (t:Nat):Option Int :=
 ((List.range (m+4)).map fun(j:Nat)=>(j:Int) - 4).find? fun i=>Vr lg ks cs alive t i
def Xj(why:List Bool->Nat->Option Int):List Nat->List Bool×List (Nat×Int)->List Bool×List (Nat×Int)
 |[],s=>s
 |t :: r,s=>Xj why r (bif s.1.getD t false then(match why s.1 t with|none=>s|some i=>(s.1.set t false,s.2++ [(t,i)]))else s)
def Sb(why:List Bool->Nat->Option Int):Nat->List Bool×List (Nat×Int)->List Bool×List (Nat×Int)
 |0,s=>s
 |k+1,s=>bif (Xj why (List.range s.1.length) s).2.length==s.2.length then s else Sb why k (Xj why (List.range s.1.length) s)
noncomputable def Qxk (lg:Int) (ks:List Kn) (cs:List Cm) (m:Nat) (alive:List Bool):List Bool×List (Nat×Int):=Sb (Tc lg ks cs m) (alive.length+1) (alive,[])
def Kh(lg:Int)(base:List (List Nd)):List Bool:=(List.range (2^base.length)).map fun t=>Vk lg (Zs base) (Jm base) t
def Yj(lg:Int)(f:List Nd):Int:=bif decide (lg < 0)||decide (6 < lg)then 1 else(Qp f).2
noncomputable def Rt (lg:Int) (f:List Nd):List Bool×List (Nat×Int):=Qxk lg (Zs (Qp f).1) (Jm (Qp f).1) (Qp f).1.length (Kh lg (Qp f).1)
def Na(f:List Nd):List Bool:=Vv (Qp f).1 (Ji f)
noncomputable def Us (lg:Int) (f:List Nd):Bool:=Hm (Rt lg f).1 (Na f)
noncomputable def Zk7 (lg:Int) (f:List Nd):Int:=bif Yj lg f !=0 then Yj lg f else bif Us lg f then 15 else 0
noncomputable def Zxk (lg:Int) (f:List Nd):Bool×Int:=bif Yj lg f !=0 then(false,Yj lg f)else(Us lg f,0)
def Qdt(lk:List Bool->Nat->Int->Bool):List Nat->List Int->List Bool->Option (List Bool)
 |t :: r,i :: s,al=>bif decide (t < al.length)&&(al.getD t false&&lk al t i)then Qdt lk r s (al.set t false)else none
 |_,_,al=>some al
noncomputable def Zk5 (lg:Int) (f:List Nd) (ts:List Nat) (ws:List Int):Int :=
 bif Yj lg f !=0 then Yj lg f else bif ts.length !=ws.length then 3
 else match Qdt (Vr lg (Zs (Qp f).1) (Jm (Qp f).1)) ts ws (Kh lg (Qp f).1)with
  |none=>13
  |some al=>bif Hm al (Na f)then 13 else 0
def Zi(t:Tr):List Nd:=bif decide (200 < (Qs t).length)then []else Qs t
theorem Gc {t:Tr}(h:(Qs t).length<=200):Zi t=Qs t:=by
 unfold Zi;rw [decide_eq_false (by omega)];rfl
theorem Gq {t:Tr}(h:200 < (Qs t).length):Zi t= []:=by
 unfold Zi;rw [decide_eq_true h];rfl
theorem Hk:check []≠0:=by decide
def Zk8(l:List Nd):List Nd:=bif decide (200 < (Zw l (l.length - 1) []).1.length)then []else(Zw l (l.length - 1) []).1
theorem Qxa(f:List Nd):f.map (Ja 0)=f:=by
 rw [show Ja 0=id from by funext m;unfold Ja;cases Zq m.op <;> cases Qw m.op <;> simp];simp
theorem Qt7 {n:Nd} {f:List Nd}(hf:check f=0)(h1:Zq n.op=true)(h2:Qw n.op=false)(hh:Ze n):Vd n [f]=Zi (.one n.head (Qh f)):=by
 obtain⟨cw,cl,cp,_⟩:=Jb hf;unfold Vd;have e0: [f].any (fun o=>check o !=0)=false:=by simp [hf]
 rw [e0,cond_false];have eL:Dy [f] 0 [] n=(Qf f,{ n with x:=((Qf f).length:Int) - 1 }):=by
  simp only [Dy,Hp,List.nil_append,List.length_nil,Qxa];rfl
 rw [eL];generalize hm:({ n with x:=((Qf f).length:Int) - 1 } :Nd)=m;have mo:m.op=n.op:=by rw [<-hm]
 have mx:m.x=((Qf f).length:Int) - 1:=by rw [<-hm]
 have mh:m.head=n.head:=by
  rw [<-hm];unfold Nd.head Nd.with_;simp [h1,h2]
 have cW:Ze m:=by
  rw [<-hm];exact⟨hh.1,hh.2.1,hh.2.2.1,fun h=>by(rw [h1]at h;cases h),hh.2.2.2.2⟩
 have gP:Zr m (Qf f).length=0:=cW.err (fun _=>by omega) (fun h=>by rw [mo,h2]at h;cases h);have hw:Wf (Qf f++ [m]):=Ey cw (fun _=>by omega) (fun h=>by rw [mo,h2]at h;cases h);have AH:tr (Qf f++ [m]) (Qf f).length=.one n.head (Qh f):=by
  rw [Xd hw (n:=m) (by simp)];unfold Vy;rw [mo,h1,h2,mh,mx];rw [show(((Qf f).length:Int) - 1).toNat=(Qf f).length - 1 by omega,Bb cw hw (List.prefix_append _ _) _ (by omega)];rw [show tr (Qf f) ((Qf f).length - 1)=Qh (Qf f)from rfl,Xy hf];rfl
 unfold Tk;have wX:(Zw (Qf f++ [m]) (Qf f).length []).1=Qs (.one n.head (Qh f)):=by
  rw [Mr hw _ _ (by simp),AH];rfl
 simp only [gP,wX];rfl
theorem Qt8 {n:Nd} {f g:List Nd}(hf:check f=0)(hg:check g=0)(h1:Zq n.op=true)(h2:Qw n.op=true)(hh:Ze n):Vd n [f,g]=Zi (.two n.head (Qh f) (Qh g)):=by
 obtain⟨cw,cl,cp,_⟩:=Jb hf;obtain⟨dw,dl,dp,_⟩:=Jb hg;unfold Vd;have e0: [f,g].any (fun o=>check o !=0)=false:=by simp [hf,hg]
 rw [e0,cond_false];have eL:Dy [f,g] 0 [] n=(Qf f++(Qf g).map (Ja (Qf f).length),{ n with x:=((Qf f).length:Int) - 1,y:=((Qf f).length:Int)+(Qf g).length - 1 }):=by
  simp only [Dy,Hp,List.nil_append,List.length_nil,Qxa];simp
 rw [eL];have IY:=Qkp cw dw;have hFl:(Qf f++(Qf g).map (Ja (Qf f).length)).length=(Qf f).length+(Qf g).length:=by simp
 have DO:tr (Qf f++(Qf g).map (Ja (Qf f).length)) ((Qf f).length - 1)=Qh f:=by
  rw [Bb cw IY (List.prefix_append _ _) _ (by omega),show tr (Qf f) ((Qf f).length - 1)=Qh (Qf f)from rfl,Xy hf]
 have hF2:tr (Qf f++(Qf g).map (Ja (Qf f).length)) ((Qf f).length+(Qf g).length - 1)=Qh g:=by
  rw [show(Qf f).length+(Qf g).length - 1=(Qf f).length+((Qf g).length - 1) by omega,Qop cw dw _ (by omega),show tr (Qf g) ((Qf g).length - 1)=Qh (Qf g)from rfl,Xy hg]
 generalize Qf f++(Qf g).map (Ja (Qf f).length)=F at *;generalize hm:({ n with x:=((Qf f).length:Int) - 1,y:=((Qf f).length:Int)+(Qf g).length - 1 } :Nd)=m;have mo:m.op=n.op:=by rw [<-hm]
 have mx:m.x=((Qf f).length:Int) - 1:=by rw [<-hm]
 have my:m.y=((Qf f).length:Int)+(Qf g).length - 1:=by rw [<-hm]
 have mh:m.head=n.head:=by
  rw [<-hm];unfold Nd.head Nd.with_;simp [h1,h2]
 have cW:Ze m:=by
  rw [<-hm];exact⟨hh.1,hh.2.1,hh.2.2.1,fun h=>by(rw [h1]at h;cases h),fun h=>by(rw [h2]at h;cases h)⟩
 have gP:Zr m F.length=0:=cW.err (fun _=>by omega) (fun _=>by omega);have hw:Wf (F++ [m]):=Ey IY (fun _=>by omega) (fun _=>by omega);have AH:tr (F++ [m]) F.length=.two n.head (Qh f) (Qh g):=by
  rw [Xd hw (n:=m) (by simp)];unfold Vy;rw [mo,h2,mh,mx,my];rw [show(((Qf f).length:Int) - 1).toNat=(Qf f).length - 1 by omega,Bb IY hw (List.prefix_append _ _) _ (by omega),DO];rw [show(((Qf f).length:Int)+(Qf g).length - 1).toNat=(Qf f).length+(Qf g).length - 1 by omega,Bb IY hw (List.prefix_append _ _) _ (by omega),hF2];rfl
 unfold Tk;have wX:(Zw (F++ [m]) F.length []).1=Qs (.two n.head (Qh f) (Qh g)):=by
  rw [Mr hw _ _ (by simp),AH];rfl
 simp only [gP,wX];rfl
theorem Qt6 {n:Nd} {f:List Nd}(hf:check f≠0):Vd n [f]= []:=by
 unfold Vd;have e0: [f].any (fun o=>check o !=0)=true:=by simpa using hf
 rw [e0,cond_true]
theorem Qxy {n:Nd} {f g:List Nd}(hf:check f≠0\/check g≠0):Vd n [f,g]= []:=by
 unfold Vd;have e0: [f,g].any (fun o=>check o !=0)=true:=by simp;exact hf
 rw [e0,cond_true]
def Can(l:List Nd):Prop:=l= []\/∃t:Tr,t.ok/\l=Qs t
theorem Lh(n:Nd):Qs (.leaf n)= [n]:=by simp [Qs,Yo,Jq]
theorem Qqk {n:Nd}(h1:Zq n.op=false)(h2:Qw n.op=false)(hh:Ze n):Zr n 0=0/\Vd n []= [n]:=by
 have gP:Zr n 0=0:=hh.err (a:=0) (fun h=>by rw [h1]at h;cases h) (fun h=>by rw [h2]at h;cases h);refine⟨gP,?_⟩;have hw:Wf ([]++ [n]):=Ey Nk (fun h=>by rw [h1]at h;cases h) (fun h=>by rw [h2]at h;cases h);have wX:(Zw ([]++ [n]) ([]:List Nd).length []).1= [n]:=by
  rw [Mr hw _ _ (by simp),Xd hw (n:=n) (by simp)];unfold Vy;rw [h1,h2];exact Lh n
 unfold Vd;show Tk [] n= [n];unfold Tk;have e:Zr n (([]:List Nd).length:Int)=0:=gP;simp only [wX,e];rfl
theorem Qiz(k:Int)(h:k=1\/k=2\/k=4\/k=5\/k=6):Ze ⟨k,0,0,0,0,0⟩:=by
 rcases h with rfl|rfl|rfl|rfl|rfl <;> exact⟨by decide,by decide,by decide,fun _=>rfl,fun _=>rfl⟩
theorem Zv8 {n:Nd}(h:Ze n)(ho:n.op=3):Ze ⟨3,n.i,0,0,0,0⟩:=by
 obtain⟨_,_,h3,_,_⟩:=h;refine⟨rfl,by simp [Zh,Zo,Zb,Zd,Zm],?_,fun _=>rfl,fun _=>rfl⟩;unfold Ya at h3⊢;rw [ho]at h3
 simpa [Ql,Zo,Zb,Zd,Zm]using h3
theorem Qbj:Qzn= [⟨1,0,0,0,0,0⟩]:=(Qqk rfl rfl (Qiz 1 (by omega))).2
theorem Qlp:If= [⟨2,0,0,0,0,0⟩]:=(Qqk rfl rfl (Qiz 2 (by omega))).2
def Zki(x:Nd)(a b:List Nd):List Nd :=
 bif Qw x.op then Vd { x with x:=0,y:=0 } [a,b]else bif Zq x.op then Vd { x with x:=0,y:=0 } [a]else [{ x with x:=0,y:=0 }]
def Hz:Tr->List Tr->Tr
 |t,[]=>t
 |t,u :: r=>Hz (.two ⟨5,0,0,0,0,0⟩ t u) r
def Cp:List Tr->Tr
 |[]=> .leaf ⟨1,0,0,0,0,0⟩
 |t :: r=>Hz t r
def Cq(g:Int)(a:Tr):List Tr:=((List.range 4).filter fun i=>Vg g i).map fun(i:Nat)=> .one ⟨9,i,0,0,0,0⟩ a
def Rl(n:Nd)(a b:Tr):Tr :=
 if n.op=10 then .one ⟨4,0,0,0,0,0⟩ (.one ⟨9,n.i,0,0,0,0⟩ (.one ⟨4,0,0,0,0,0⟩ a))
 else if n.op=11 then Cp (Cq n.g a)
 else Vy n a b
def Vi:Tr->Tr
 |.leaf n=> .leaf n
 |.one n a=>if n.op=10 then .one ⟨4,0,0,0,0,0⟩ (.one ⟨9,n.i,0,0,0,0⟩ (.one ⟨4,0,0,0,0,0⟩ (Vi a)))else if n.op=11 then Cp (Cq n.g (Vi a))else .one n (Vi a)
 |.two n a b=> .two n (Vi a) (Vi b)
theorem Zqx(n:Nd)(a b:Tr):Vi (Vy n a b)=Rl n (Vi a) (Vi b):=by
 unfold Vy Rl;cases h2:Qw n.op
 ·cases h1:Zq n.op
  ·have xT:n.op≠10:=fun e=>by rw [e]at h1;cases h1
   have uL:n.op≠11:=fun e=>by rw [e]at h1;cases h1
   rw [if_neg xT,if_neg uL];unfold Vy;rw [h1,h2];rfl
  unfold Vy;rw [h1,h2];simp only [cond_false,cond_true,Vi,Ng];rfl
 have xT:n.op≠10:=fun e=>by rw [e]at h2;cases h2
 have uL:n.op≠11:=fun e=>by rw [e]at h2;cases h2
 rw [if_neg xT,if_neg uL];unfold Vy;rw [h2];rfl
section
variable {M:KM}
theorem Qn3:∀(r:List Tr) (t:Tr) (w:M.W),M.sat (Hz t r) w↔M.sat t w/\∀u∈r,M.sat u w
 |[],t,w=>by simp [Hz]
 |u :: r,t,w=>by
  rw [Hz,Qn3 r,Qg0];simp only [List.mem_cons,forall_eq_or_imp];exact and_assoc
theorem Zzn(l:List Tr)(w:M.W):M.sat (Cp l) w↔∀u∈l,M.sat u w:=by
 cases l with
 |nil=>simp [Cp,KM.sat]
 |cons t r=>rw [Cp,Qn3];simp
theorem Qav(g:Int)(a:Tr)(w:M.W):M.sat (Cp (Cq g a)) w↔∀i:Nat,i < 4->Vg g i=true->∀v,M.R (i:Int) w v->M.sat a v:=by
 rw [Zzn];unfold Cq;constructor
 ·intro h i hi hg v hv;exact(Uc rfl).1 (h (.one ⟨9,i,0,0,0,0⟩ a) (List.mem_map.2 ⟨i,List.mem_filter.2 ⟨List.mem_range.2 hi,hg⟩,rfl⟩)) v hv
 intro h u hu;obtain⟨i,hi,rfl⟩:=List.mem_map.1 hu;obtain⟨h1,h2⟩:=List.mem_filter.1 hi;rw [Uc rfl];exact h i (List.mem_range.1 h1) h2
theorem Zzr {a:Tr} {w:M.W} :M.sat (.one ⟨4,0,0,0,0,0⟩ a) w↔¬M.sat a w:=by simp [KM.sat]
theorem Ej:∀(t:Tr) (w:M.W),M.sat (Vi t) w↔M.sat t w
 |.leaf n,w=>Iff.rfl
 |.one n a,w=>by
  have ih:=Ej a;unfold Vi;by_cases xT:n.op=10
  ·rw [if_pos xT,Zzr,Uc rfl];simp only [ih,KM.sat,xT,show ¬(10:Int)=4 by decide,show ¬(10:Int)=9 by decide,if_false,if_true];constructor
   ·intro h;obtain⟨v,hv⟩:=Classical.not_forall.1 h;obtain⟨h1,h2⟩:=Classical.not_imp.1 hv;exact⟨v,h1,Classical.not_not.1 h2⟩
   rintro⟨v,h1,h2⟩ h;exact h v h1 h2
  rw [if_neg xT];by_cases uL:n.op=11
  ·rw [if_pos uL,Qav];simp only [ih,KM.sat,uL,show ¬(11:Int)=4 by decide,show ¬(11:Int)=9 by decide,show ¬(11:Int)=10 by decide,if_false,if_true]
  rw [if_neg uL];simp only [KM.sat,ih,xT,uL,if_false]
 |.two n a b,w=>by
  have iha:M.sat (Vi a)=M.sat a:=funext fun v=>propext (Ej a v)
  have ihb:M.sat (Vi b)=M.sat b:=funext fun v=>propext (Ej b v)
  simp only [Vi,KM.sat,iha,ihb]
end
def Hd(t:Tr):Prop:=t.ok/\t.all Ze
section
variable {n:Nd} {s t u:Tr}
theorem Hd.wf(h:Hd t):Wf (Qs t):=Qqx h.1
theorem Hd.check(h:Hd t)(hl:(Qs t).length<=200):check (Qs t)=0:=by
 have hp:=Ud h.1;exact Qvi (by intro e;rw [e]at hp;simp at hp) hl h.wf (fun n hn=>Ly (fun _ k1 k2 h=>h.with_ k1 k2) t [] h.2 (fun n hn=>by cases hn) n hn)
theorem Hd.one(h1:Zq n.op=true)(h2:Qw n.op=false)(hh:Ze n)(hn:n.head=n)(hs:Hd s):Hd (.one n s):=⟨⟨h1,h2,hn,hs.1⟩,hh,hs.2⟩
theorem Hd.two(h1:Zq n.op=true)(h2:Qw n.op=true)(hh:Ze n)(hn:n.head=n)(hs:Hd s)(ht:Hd t):Hd (.two n s t):=⟨⟨h1,h2,hn,hs.1,ht.1⟩,hh,hs.2,ht.2⟩
theorem Qgp(hs:Hd s)(h1:Zq n.op=true)(h2:Qw n.op=false)(hh:Ze n)(hn:n.head=n):Vd n [Zi s]=Zi (.one n s):=by
 have ho:(Tr.one n s).ok:=⟨h1,h2,hn,hs.1⟩;by_cases hl:(Qs s).length<=200
 ·rw [Gc hl,Qt7 (hs.check hl) h1 h2 hh,hn,Kl hs.1]
 have:=Qtq ho;rw [Gq (t:=s) (by omega),Gq (t:=.one n s) (by omega),Qt6 Hk]
theorem Ql0(hs:Hd s)(ht:Hd t)(h1:Zq n.op=true)(h2:Qw n.op=true)(hh:Ze n)(hn:n.head=n):Vd n [Zi s,Zi t]=Zi (.two n s t):=by
 have ho:(Tr.two n s t).ok:=⟨h1,h2,hn,hs.1,ht.1⟩;have zG:=Qg4 ho;by_cases hl:(Qs s).length<=200
 ·by_cases hm:(Qs t).length<=200
  ·rw [Gc hl,Gc hm,Qt8 (hs.check hl) (ht.check hm) h1 h2 hh,hn,Kl hs.1,Kl ht.1]
  rw [Gq (t:=t) (by omega),Gq (t:=.two n s t) (by omega),Qxy (.inr Hk)]
 rw [Gq (t:=s) (by omega),Gq (t:=.two n s t) (by omega),Qxy (.inl Hk)]
end
theorem Qlf {s:Tr}(hs:Hd s):Qf (Zi s)=Zi s:=by
 by_cases hl:(Qs s).length<=200
 ·rw [Gc hl,Ut (hs.check hl),Kl hs.1]
 rw [Gq (by omega),Qz7 Hk]
theorem Qlg {s:Tr}(hs:Hd s)(hl:(Qs s).length<=200):Qf (Qs s)=Qs s:=by
 rw [Ut (hs.check hl),Kl hs.1]
theorem Qjx(k:Int)(hk:k=5\/k=7):Ze ⟨k,0,0,0,0,0⟩:=by rcases hk with rfl|rfl <;> exact⟨rfl,rfl,rfl,fun _=>rfl,fun _=>rfl⟩
theorem Qd9:Ze ⟨4,0,0,0,0,0⟩:=⟨rfl,rfl,rfl,fun _=>rfl,fun _=>rfl⟩
theorem Qxp {i:Int}(h0:0<=i)(h1:i < 4):Ze ⟨9,i,0,0,0,0⟩:=by
 refine⟨rfl,by simp [Zh,Zo,Zb,Zd,Zm],?_,fun _=>rfl,fun _=>rfl⟩;simp [Ya,Ql,Zo,Zb,Zd,Zm];omega
theorem Qxm {s:Tr}(hs:Hd s):Hd (.one ⟨4,0,0,0,0,0⟩ s):=hs.one rfl rfl Qd9 rfl
theorem Qyc {i:Int}(h0:0<=i)(h1:i < 4) {s:Tr}(hs:Hd s):Hd (.one ⟨9,i,0,0,0,0⟩ s):=hs.one rfl rfl (Qxp h0 h1) rfl
theorem Qct {s t:Tr}(hs:Hd s)(ht:Hd t):Hd (.two ⟨5,0,0,0,0,0⟩ s t):=hs.two rfl rfl (Qjx 5 (by omega)) rfl ht
theorem Zyj {s t:Tr}(hs:Hd s)(ht:Hd t):Hd (.two ⟨7,0,0,0,0,0⟩ s t):=hs.two rfl rfl (Qjx 7 (by omega)) rfl ht
theorem Zqt:Hd (.leaf ⟨1,0,0,0,0,0⟩):=⟨⟨rfl,rfl⟩,rfl,rfl,rfl,fun _=>rfl,fun _=>rfl⟩
theorem Qk9:∀(r:List Tr) (t:Tr),Hd t->(∀u∈r,Hd u)->(r.map Zi).foldl Bt (Zi t)=Zi (Hz t r)/\Hd (Hz t r)
 |[],t,ht,_=>⟨rfl,ht⟩
 |u :: r,t,ht,hr=>by
  have hu:=hr u (List.mem_cons_self ..);rw [List.map_cons,List.foldl_cons,show Bt (Zi t) (Zi u)=Zi (.two ⟨5,0,0,0,0,0⟩ t u)from Ql0 ht hu rfl rfl (Qjx 5 (by omega)) rfl];exact Qk9 r _ (Qct ht hu) (fun v hv=>hr v (List.mem_cons_of_mem _ hv))
theorem Qpy(l:List Tr)(hl:∀u∈l,Hd u):Qva (l.map Zi)=Zi (Cp l)/\Hd (Cp l):=by
 cases l with
 |nil=>exact⟨by rw [List.map_nil,Qva,Qb4,Qbj,Cp,Gc (by rw [Lh];simp),Lh],Zqt⟩
 |cons t r =>
  have ht:=hl t (List.mem_cons_self ..);rw [List.map_cons,Qva,Qb4,Qlf ht];exact Qk9 r t ht (fun v hv=>hl v (List.mem_cons_of_mem _ hv))
theorem Qre {g:Int} {a:Tr}(ha:Hd a):Ik g (Zi a)=(Cq g a).map Zi/\∀u∈Cq g a,Hd u:=by
 have hi:∀i∈(List.range 4).filter (fun i=>Vg g i),i < 4:=fun i h=>List.mem_range.1 (List.mem_filter.1 h).1
 constructor
 ·unfold Ik Cq;rw [List.map_map];refine List.map_congr_left fun i h=> ?_
  exact Qgp ha rfl rfl (Qxp (by omega) (by have:=hi i h;omega)) rfl
 intro u hu;obtain⟨i,h,rfl⟩:=List.mem_map.1 hu;exact Qyc (by omega) (by have:=hi i h;omega) ha
def Wq(op:Int):Prop:=(1<=op/\op<=11)\/op=13
theorem Qqz {n:Nd}(h:Ze n)(hk:n.op=1\/n.op=2\/n.op=4\/n.op=5\/n.op=6\/n.op=7\/n.op=8):n.head=⟨n.op,0,0,0,0,0⟩:=by
 obtain⟨op,i,e,g,x,y⟩:=n;obtain⟨_,h2,_,h4,h5⟩:=h;unfold Zh at h2;simp only at hk;rcases hk with rfl|rfl|rfl|rfl|rfl|rfl|rfl <;>(simp [Zo,Zb,Zd,Zm]at h2;obtain⟨⟨a,b⟩,c⟩:=h2;simp [Zq,Qw]at h4 h5;simp [Nd.head,Nd.with_,Zq,Qw,a,b,c];try first|exact⟨h4,h5⟩|exact h5)
theorem Qt3 {n:Nd}(h:Ze n)(hk:n.op=3\/n.op=9):n.head=⟨n.op,n.i,0,0,0,0⟩:=by
 obtain⟨op,i,e,g,x,y⟩:=n;obtain⟨_,h2,_,h4,h5⟩:=h;unfold Zh at h2;simp only at hk;rcases hk with rfl|rfl <;>(simp [Zo,Zb,Zd,Zm]at h2;obtain⟨b,c⟩:=h2;simp [Zq,Qw]at h4 h5;simp [Nd.head,Nd.with_,Zq,Qw,b,c];try first|exact⟨h4,h5⟩|exact h5)
theorem Zvm {n:Nd}(h:Ze n)(hk:n.op=13):n.head=⟨n.op,0,0,n.g,0,0⟩:=by
 obtain⟨op,i,e,g,x,y⟩:=n;obtain⟨_,h2,_,h4,h5⟩:=h;unfold Zh at h2;simp only at hk;subst hk;simp [Zo,Zb,Zd,Zm]at h2;obtain⟨a,b⟩:=h2;simp [Nd.head,Nd.with_,Zq,Qw,a,b]
theorem Qdb {n:Nd}(h:Ze n)(hk:n.op=9\/n.op=10):0<=n.i/\n.i < 4:=by
 obtain⟨_,_,h3,_,_⟩:=h;unfold Ya at h3;rcases hk with ho|ho <;>(rw [ho]at h3;simp [Ql,Zo,Zb,Zd,Zm]at h3;omega)
theorem Ze.head {n:Nd}(h:Ze n):Ze n.head:=h.with_ 0 0
theorem Wa {n:Nd}(h1:Zq n.op=false)(h2:Qw n.op=false):n.head=n:=Qbb h1 h2 0 0
theorem Qll {n:Nd} {a b:Tr}(hn:Ze n)(ho:Wq n.op)(ha:Zq n.op=true->Hd a)(hb:Qw n.op=true->Hd b):Jc n (Zi a) (Zi b)=Zi (Rl n a b)/\Hd (Rl n a b):=by
 have zI:n.op=1\/n.op=2\/n.op=3\/n.op=4\/n.op=5\/n.op=6\/n.op=7\/n.op=8\/n.op=9\/n.op=10\/n.op=11\/n.op=13:=by unfold Wq at ho;omega
 have leafc:∀m:Nd,Zi (.leaf m)= [m]:=fun m=>by rw [Gc (by rw [Lh];simp),Lh]
 have hX:∀{k:Int},n.op=k->Zq k=true->Zq n.op=true:=fun h k=>by rw [h];exact k
 have hY:∀{k:Int},n.op=k->Qw k=true->Qw n.op=true:=fun h k=>by rw [h];exact k
 have nX:∀{k:Int},n.op=k->Zq k=false->Zq n.op=false:=fun h k=>by rw [h];exact k
 have nY:∀{k:Int},n.op=k->Qw k=false->Qw n.op=false:=fun h k=>by rw [h];exact k
 have m0:∀{k:Int},n.op=k->Zq k=false->Qw k=false->k≠10->k≠11->Rl n a b=.leaf n:=fun h h1 h2 h3 h4=>by
  unfold Rl Vy;rw [if_neg (by omega),if_neg (by omega),nX h h1,nY h h2];rfl
 have m1:∀{k:Int},n.op=k->Zq k=true->Qw k=false->k≠10->k≠11->Rl n a b=.one n.head a:=fun h h1 h2 h3 h4=>by
  unfold Rl Vy;rw [if_neg (by omega),if_neg (by omega),hX h h1,nY h h2];rfl
 have m2:∀{k:Int},n.op=k->Qw k=true->k≠10->k≠11->Rl n a b=.two n.head a b:=fun h h2 h3 h4=>by
  unfold Rl Vy;rw [if_neg (by omega),if_neg (by omega),hY h h2];rfl
 have two:∀{m:Nd},n.head=m->Zq m.op=true->Qw m.op=true->Hd a->Hd b->Vd m [Zi a,Zi b]=Zi (.two n.head a b)/\Hd (.two n.head a b):=fun {m} e h1 h2 h3 h4=>by
  subst e;exact⟨Ql0 h3 h4 h1 h2 hn.head (Lz n),h3.two h1 h2 hn.head (Lz n) h4⟩
 have one:∀{m:Nd},n.head=m->Zq m.op=true->Qw m.op=false->Hd a->Vd m [Zi a]=Zi (.one n.head a)/\Hd (.one n.head a):=fun {m} e h1 h2 h3=>by
  subst e;exact⟨Qgp h3 h1 h2 hn.head (Lz n),h3.one h1 h2 hn.head (Lz n)⟩
 have leaf:∀{k:Int},n.op=k->Zq k=false->Qw k=false->Hd (.leaf n):=fun h h1 h2=>⟨⟨nX h h1,nY h h2⟩,hn⟩
 rcases zI with h|h|h|h|h|h|h|h|h|h|h|h
 ·rw [m0 h rfl rfl (by omega) (by omega),leafc];refine⟨?_,leaf h rfl rfl⟩;have e:=Qqz hn (by omega);rw [Wa (nX h rfl) (nY h rfl),h]at e;simp only [Jc,h];exact Qbj.trans (by rw [<-e])
 ·rw [m0 h rfl rfl (by omega) (by omega),leafc];refine⟨?_,leaf h rfl rfl⟩;have e:=Qqz hn (by omega);rw [Wa (nX h rfl) (nY h rfl),h]at e;simp only [Jc,h];exact Qlp.trans (by rw [<-e])
 ·rw [m0 h rfl rfl (by omega) (by omega),leafc];refine⟨?_,leaf h rfl rfl⟩;have e:=Qt3 hn (by omega);rw [Wa (nX h rfl) (nY h rfl),h]at e;simp only [Jc,h];refine((Qqk rfl rfl (Zv8 hn h)).2).trans ?_;rw [<-e]
 ·rw [m1 h rfl rfl (by omega) (by omega)];have e:=Qqz hn (by omega);rw [h]at e;have:=one e rfl rfl (ha (hX h rfl));simp only [Jc,h];exact this
 ·rw [m2 h rfl (by omega) (by omega)];have e:=Qqz hn (by omega);rw [h]at e;have:=two e rfl rfl (ha (hX h rfl)) (hb (hY h rfl));simp only [Jc,h];exact this
 ·rw [m2 h rfl (by omega) (by omega)];have e:=Qqz hn (by omega);rw [h]at e;have:=two e rfl rfl (ha (hX h rfl)) (hb (hY h rfl));simp only [Jc,h];exact this
 ·rw [m2 h rfl (by omega) (by omega)];have e:=Qqz hn (by omega);rw [h]at e;have:=two e rfl rfl (ha (hX h rfl)) (hb (hY h rfl));simp only [Jc,h];exact this
 ·rw [m2 h rfl (by omega) (by omega)];have e:=Qqz hn (by omega);rw [h]at e;have:=two e rfl rfl (ha (hX h rfl)) (hb (hY h rfl));simp only [Jc,h];exact this
 ·rw [m1 h rfl rfl (by omega) (by omega)];have e:=Qt3 hn (by omega);rw [h]at e;have:=one e rfl rfl (ha (hX h rfl));simp only [Jc,h];exact this
 ·have hA:=ha (hX h rfl);have hi:=Qdb hn (.inr h);have e1:Kk (Zi a)=Zi (.one ⟨4,0,0,0,0,0⟩ a):=Qgp hA rfl rfl Qd9 rfl;have e2:Uq n.i (Zi (.one ⟨4,0,0,0,0,0⟩ a))=Zi (.one ⟨9,n.i,0,0,0,0⟩ (.one ⟨4,0,0,0,0,0⟩ a)):=Qgp (Qxm hA) rfl rfl (Qxp hi.1 hi.2) rfl;have e3:Kk (Zi (.one ⟨9,n.i,0,0,0,0⟩ (.one ⟨4,0,0,0,0,0⟩ a)))=Zi (.one ⟨4,0,0,0,0,0⟩ (.one ⟨9,n.i,0,0,0,0⟩ (.one ⟨4,0,0,0,0,0⟩ a))):=Qgp (Qyc hi.1 hi.2 (Qxm hA)) rfl rfl Qd9 rfl;have em:Rl n a b=.one ⟨4,0,0,0,0,0⟩ (.one ⟨9,n.i,0,0,0,0⟩ (.one ⟨4,0,0,0,0,0⟩ a)):=by unfold Rl;rw [if_pos h]
  rw [em];refine⟨?_,Qxm (Qyc hi.1 hi.2 (Qxm hA))⟩;simp only [Jc,h];show Kk (Uq n.i (Kk (Zi a)))=_;rw [e1,e2,e3]
 ·have hA:=ha (hX h rfl);have em:Rl n a b=Cp (Cq n.g a):=by unfold Rl;rw [if_neg (by omega),if_pos h]
  rw [em];obtain⟨e1,e2⟩:=Qre (g:=n.g) hA;obtain⟨e3,e4⟩:=Qpy _ e2;refine⟨?_,e4⟩;simp only [Jc,h];show Qva (Ik n.g (Zi a))=_;rw [e1,e3]
 rw [m2 h rfl (by omega) (by omega)];have e:=Zvm hn h;rw [h]at e;have:=two e rfl rfl (ha (hX h rfl)) (hb (hY h rfl));simp only [Jc,h];exact this
def Mn(n:Nd):Prop:=(1<=n.op/\n.op<=9)\/n.op=13
def Xp(t:Tr):Prop:=Hd t/\t.all Mn
theorem Qtv {op:Int}(h1:Zq op=true)(h2:Qw op=false)(h:(1<=op/\op<=9)\/op=13):op=4\/op=9:=by
 have:op=1\/op=2\/op=3\/op=4\/op=5\/op=6\/op=7\/op=8\/op=9\/op=13:=by omega
 rcases this with rfl|rfl|rfl|rfl|rfl|rfl|rfl|rfl|rfl|rfl <;> first|(cases h1;done)|(cases h2;done)|omega
theorem Qtk {op:Int}(h2:Qw op=true)(h:(1<=op/\op<=9)\/op=13):(5<=op/\op<=8)\/op=13:=by
 have:op=1\/op=2\/op=3\/op=4\/op=5\/op=6\/op=7\/op=8\/op=9\/op=13:=by omega
 rcases this with rfl|rfl|rfl|rfl|rfl|rfl|rfl|rfl|rfl|rfl <;> first|(cases h2;done)|omega
theorem Xp.lang:∀{t:Tr},Xp t->lang t
 |.leaf _,_=>trivial
 |.one _n a,h=>⟨Qtv h.1.1.1 h.1.1.2.1 h.2.1,Xp.lang (t:=a) ⟨⟨h.1.1.2.2.2,h.1.2.2⟩,h.2.2⟩⟩
 |.two _n a b,h=>⟨Qtk h.1.1.2.1 h.2.1,Xp.lang (t:=a) ⟨⟨h.1.1.2.2.2.1,h.1.2.2.1⟩,h.2.2.1⟩,Xp.lang (t:=b) ⟨⟨h.1.1.2.2.2.2,h.1.2.2.2⟩,h.2.2.2⟩⟩
theorem Xp.fact:∀{t:Tr},Xp t->Ig t
 |.leaf n,h=>fun ho=>by
  have e:=Qt3 h.1.2 (.inl ho);rw [Wa h.1.1.1 h.1.1.2,ho]at e;exact e
 |.one n a,h=>Xp.fact (t:=a) ⟨⟨h.1.1.2.2.2,h.1.2.2⟩,h.2.2⟩
 |.two n a b,h=>⟨Xp.fact (t:=a) ⟨⟨h.1.1.2.2.2.1,h.1.2.2.1⟩,h.2.2.1⟩,Xp.fact (t:=b) ⟨⟨h.1.1.2.2.2.2,h.1.2.2.2⟩,h.2.2.2⟩⟩
theorem Xp.of_one {n:Nd} {a:Tr}(h:Xp (.one n a)):Xp a:=⟨⟨h.1.1.2.2.2,h.1.2.2⟩,h.2.2⟩
theorem Xp.of_two {n:Nd} {a b:Tr}(h:Xp (.two n a b)):Xp a/\Xp b:=⟨⟨⟨h.1.1.2.2.2.1,h.1.2.2.1⟩,h.2.2.1⟩,⟨h.1.1.2.2.2.2,h.1.2.2.2⟩,h.2.2.2⟩
theorem Xp.know {i:Int}(h0:0<=i)(h1:i < 4) {s:Tr}(hs:Xp s):Xp (.one ⟨9,i,0,0,0,0⟩ s):=⟨Qyc h0 h1 hs.1,.inl ⟨show(1:Int)<=9 by decide,show(9:Int)<=9 by decide⟩,hs.2⟩
theorem Xp.and {s t:Tr}(hs:Xp s)(ht:Xp t):Xp (.two ⟨5,0,0,0,0,0⟩ s t):=⟨Qct hs.1 ht.1,.inl ⟨by decide,by decide⟩,hs.2,ht.2⟩
theorem Xp.imp {s t:Tr}(hs:Xp s)(ht:Xp t):Xp (.two ⟨7,0,0,0,0,0⟩ s t):=⟨Zyj hs.1 ht.1,.inl ⟨by decide,by decide⟩,hs.2,ht.2⟩
theorem Xp.unf {i:Nat}(hi:i < 4) {n:Nd} {a b:Tr}(h:Xp (.two n a b)):Xp (Gr i n a b):=
 Xp.know (by omega) (by omega) (Xp.imp h.of_two.1 (Xp.and h.of_two.2 h))
theorem Xp.at {t:Tr}(h:Xp t) {i:Nat}(hi:i < (Qs t).length):Xp (tr (Qs t) i):=
 ⟨⟨Qb7 h.1.wf _ hi,Ei (fun _ k1 k2 h=>h.with_ k1 k2) h.1.wf (Ly (fun _ k1 k2 h=>h.with_ k1 k2) t [] h.1.2 (fun n hn=>by cases hn)) _ hi⟩,
   Ei (P:=Mn) (fun _ _ _ k=>k) h.1.wf (Ly (P:=Mn) (fun _ _ _ k=>k) t [] h.2 (fun n hn=>by cases hn)) _ hi⟩
structure Xf (t:Tr):Prop where
 xp:Xp t
 len:(Qs t).length<=200
section
variable {t:Tr}
theorem Xf.check(h:Xf t):check (Qs t)=0:=h.xp.1.check h.len
theorem Xf.tree(h:Xf t):Qh (Qs t)=t:=Kl h.xp.1.1
theorem Xf.at(h:Xf t) {i:Nat}(hi:i < (Qs t).length):Xf (tr (Qs t) i):=⟨h.xp.at hi,Qx (Qq9 h.xp.1.1 hi) h.len⟩
theorem Xf.of_one {n:Nd} {a:Tr}(h:Xf (.one n a)):Xf a:=⟨h.xp.of_one,Qx (Qtq h.xp.1.1) h.len⟩
theorem Xf.of_two {n:Nd} {a b:Tr}(h:Xf (.two n a b)):Xf a/\Xf b:=⟨⟨h.xp.of_two.1,Qx (Qg4 h.xp.1.1).1 h.len⟩,⟨h.xp.of_two.2,Qx (Qg4 h.xp.1.1).2 h.len⟩⟩
theorem Xf.short(h:Xf t):Zi t=Qs t:=Gc h.len
theorem Xf.inj {s:Tr}(hs:Xf s)(h:Xf t)(e:Qs s=Qs t):s=t:=Qpm hs.xp.1.1 h.xp.1.1 e
theorem Xf.last(h:Xf t):(Qi (Qs t)).op=t.top.op:=by rw [Zqh h.check,h.tree]
theorem Xf.base(h:Xf t):Jh (Qi (Qs t))=Jh t.top:=by unfold Jh;rw [h.last]
theorem Xf.unf {n:Nd} {a b:Tr}(h:Xf (.two n a b)) {i:Nat}(hi:i < 4):Ua i (Qs (.two n a b))=Zi (Gr i n a b):=by
 obtain⟨_,_,e1,e2⟩:=Tt h.check h.tree;have hb:=h.of_two.2;have ha:=h.of_two.1;unfold Ua Gr;rw [e1,e2,<-ha.short,<-hb.short,<-h.short];have h1:Bt (Zi b) (Zi (.two n a b))=Zi (.two ⟨5,0,0,0,0,0⟩ b (.two n a b)):=Ql0 hb.xp.1 h.xp.1 rfl rfl (Qjx 5 (by omega)) rfl;have h2:Qkv (Zi a) (Zi (.two ⟨5,0,0,0,0,0⟩ b (.two n a b)))=Zi (.two ⟨7,0,0,0,0,0⟩ a (.two ⟨5,0,0,0,0,0⟩ b (.two n a b))):=Ql0 ha.xp.1 (hb.xp.and h.xp).1 rfl rfl (Qjx 7 (by omega)) rfl;have h3:Uq (i:Int) (Zi (.two ⟨7,0,0,0,0,0⟩ a (.two ⟨5,0,0,0,0,0⟩ b (.two n a b))))=Zi (.one ⟨9,(i:Int),0,0,0,0⟩ (.two ⟨7,0,0,0,0,0⟩ a (.two ⟨5,0,0,0,0,0⟩ b (.two n a b)))):=Qgp (ha.xp.imp (hb.xp.and h.xp)).1 rfl rfl (Qxp (by omega) (by omega)) rfl
 rw [h1,h2,h3]
theorem Xf.subs(h:Xf t):Qy4 (Qs t)=(List.range (Qs t).length).map fun i=>Qs (tr (Qs t) i):=by
 unfold Qy4 Rm;rw [Qlg h.xp.1 h.len];exact List.map_congr_left fun i hi=>Sk h.check (List.mem_range.1 hi)
theorem Xf.mem_base0(h:Xf t) {c:List Nd} :c∈Yw (Qs t)↔∃i,i < (Qs t).length/\c=Qs (tr (Qs t) i)/\Jh (tr (Qs t) i).top=true:=by
 unfold Yw;rw [h.subs,List.mem_filter,List.mem_map];constructor
 ·rintro⟨⟨i,hi,rfl⟩,hb⟩;have hi:=List.mem_range.1 hi;exact⟨i,hi,rfl,by rw [<-(h.at hi).base];exact hb⟩
 rintro⟨i,hi,rfl,hb⟩;exact⟨⟨i,List.mem_range.2 hi,rfl⟩,by rw [(h.at hi).base];exact hb⟩
theorem Xf.base0_nodup(h:Xf t):(Yw (Qs t)).Nodup:=by
 unfold Yw;rw [h.subs];refine List.Pairwise.filter _ ?_;rw [List.pairwise_map];refine List.Pairwise.imp_of_mem ?_ (List.nodup_iff_pairwise_ne.1 List.nodup_range);intro i j hi hj zQ e;have hi:=List.mem_range.1 hi;have hj:=List.mem_range.1 hj;exact zQ (Qpl h.xp.1.1 i j hi hj ((h.at hi).inj (h.at hj) e))
end
theorem Qfo {l:List (List Nd)} {g:List Nd} :Yr l g < 0↔g∉l:=by
 unfold Yr;cases h:l.findIdx? fun f=>decide (f=g)with
 |none =>
  rw [List.findIdx?_eq_none_iff]at h;refine⟨fun _ hm=> ?_,fun _=>by decide⟩;have:=h g hm;simp at this
 |some j =>
  obtain⟨hj,he,_⟩:=List.findIdx?_eq_some_iff_getElem.1 h;refine⟨fun hn=> ?_,fun hn=> ?_⟩
  ·simp only at hn;omega
  have e:l[j]=g:=by simpa using he
  exact absurd (e▸List.getElem_mem hj) hn
theorem Gz {l:List (List Nd)}(hl:l.Nodup) {i:Nat} {g:List Nd}(hi:l[i]?=some g):Yr l g=i:=by
 obtain⟨kE,he⟩:=List.getElem?_eq_some_iff.1 hi;unfold Yr;have:l.findIdx? (fun f=>decide (f=g))=some i:=by
  rw [List.findIdx?_eq_some_iff_getElem];refine⟨kE,by simpa using he,fun j hj=> ?_⟩;have zQ:l[j]≠l[i]:=fun e=>by
   have:=(List.nodup_iff_pairwise_ne.1 hl);rw [List.pairwise_iff_getElem]at this;exact this j i (by omega) kE hj e
  rw [he]at zQ
  simpa using zQ
 rw [this]
theorem Qa0 {l:List (List Nd)} {g c:List Nd} :c∈Ga l g↔c∈l\/c=g:=by
 unfold Ga;cases h:decide (Yr l g < 0)
 ·rw [decide_eq_false_iff_not,Qfo,Classical.not_not]at h;exact⟨.inl,fun k=>k.elim id fun e=>e▸h⟩
 simp
theorem Qt0 {l:List (List Nd)} {g:List Nd}(h:l.Nodup):(Ga l g).Nodup:=by
 unfold Ga;cases k:decide (Yr l g < 0)
 ·exact h
 rw [decide_eq_true_iff,Qfo]at k;rw [cond_true,List.nodup_append];exact⟨h,by simp,fun a ha b hb e=>k (by rw [List.mem_singleton.1 hb]at e;exact e▸ha)⟩
theorem Qqt:∀(us:List (List Nd)) (l:List (List Nd)) (c:List Nd),c∈us.foldl Ga l↔c∈l\/c∈us
 |[],l,c=>by simp
 |u :: r,l,c=>by
  rw [List.foldl_cons,Qqt r,Qa0,List.mem_cons];exact or_assoc
theorem Qql:∀(us:List (List Nd)) (l:List (List Nd)),l.Nodup->(us.foldl Ga l).Nodup
 |[],_,h=>h
 |_ :: r,_,h=>Qql r _ (Qt0 h)
structure Ls (l:List (List Nd)) (t:Tr):Prop where
 can:∀c∈l,∃s,Xf s/\c=Qs s/\Jh s.top=true
 nodup:l.Nodup
 closed:Ij (l.map Qh)
 cov:cov (l.map Qh) t
 len:l.length<=12
theorem Vx {l:List (List Nd)}(hl:∀c∈l,∃s,Xf s/\c=Qs s/\Jh s.top=true) {s:Tr} :s∈l.map Qh↔Xf s/\Qs s∈l:=by
 rw [List.mem_map];constructor
 ·rintro⟨c,hc,rfl⟩;obtain⟨u,hu,rfl,_⟩:=hl c hc;rw [hu.tree];exact⟨hu,hc⟩
 rintro⟨h1,h2⟩;exact⟨_,h2,h1.tree⟩
theorem Qzr {n:Nd} {a b:Tr}(h:Xf (.two n a b))(ho:n.op=13) {c:List Nd} :c∈Kz (Qs (.two n a b))↔∃i,i < 4/\Vg n.g i=true/\c=Zi (Gr i n a b):=by
 obtain⟨e1,e2,_,_⟩:=Tt h.check h.tree;unfold Kz;rw [e1,ho,e2];simp only [beq_self_eq_true,cond_true,List.mem_map,List.mem_filter,List.mem_range];constructor
 ·rintro⟨i,⟨h1,h2⟩,rfl⟩;exact⟨i,h1,h2,h.unf h1⟩
 rintro⟨i,h1,h2,rfl⟩;exact⟨i,⟨h1,h2⟩,h.unf h1⟩
theorem Ho {s:Tr}(h:Xf s)(ho:s.top.op≠13):Kz (Qs s)= []:=by
 unfold Kz;rw [h.last];have:(s.top.op==13)=false:=by simpa using ho
 rw [this];rfl
theorem Ie {s:Tr}(h:Xf s)(ho:s.top.op=13):∃n a b,s=.two n a b/\n.op=13:=by
 cases s with
 |leaf n=>have:=h.xp.1.1.2;rw [show n.op=13 from ho]at this;cases this
 |one n a=>have:=h.xp.1.1.2.1;rw [show n.op=13 from ho]at this;cases this
 |two n a b=>exact⟨n,a,b,rfl,ho⟩
theorem Qsm {t:Tr}(h:Xf t)(he:(Kw (Qs t)).2=0):Ls (Kw (Qs t)).1 t:=by
 unfold Kw at he⊢;cases hc:((Yw (Qs t)).flatMap Kz).any (fun u=>decide (u.length=0))||decide (12 < (((Yw (Qs t)).flatMap Kz).foldl Ga (Yw (Qs t))).length)
 case true=>rw [hc]at he;cases he
 rw [cond_false];rw [Bool.or_eq_false_iff]at hc;obtain⟨xV,tB⟩:=hc;generalize hl:((Yw (Qs t)).flatMap Kz).foldl Ga (Yw (Qs t))=l at tB;have wG:∀c,c∈l↔c∈Yw (Qs t)\/c∈(Yw (Qs t)).flatMap Kz:=fun c=>by rw [<-hl];exact Qqt _ _ _
 have zQ:∀u∈(Yw (Qs t)).flatMap Kz,u.length≠0:=fun u hu=>by
  have:=List.any_eq_false.1 xV u hu
  simpa using this
 have bZ:∀u∈(Yw (Qs t)).flatMap Kz,∃i n a b k,k < (Qs t).length/\tr (Qs t) k=.two n a b/\Xf (.two n a b)/\n.op=13/\i < 4/\Vg n.g i=true/\Xf (Gr i n a b)/\u=Qs (Gr i n a b):=fun u hu=>by
  obtain⟨c,rN,sO⟩:=List.mem_flatMap.1 hu;obtain⟨k,hk,rfl,_⟩:=h.mem_base0.1 rN;have hx:=h.at hk;by_cases ho:(tr (Qs t) k).top.op=13
  ·obtain⟨n,a,b,e,gK⟩:=Ie hx ho;rw [e]at hx sO;obtain⟨i,hi,hg,rfl⟩:=(Qzr hx gK).1 sO;have qU:=zQ _ hu;have zG:(Qs (Gr i n a b)).length<=200:=by
    by_cases e2:(Qs (Gr i n a b)).length<=200
    ·exact e2
    rw [Gq (by omega)]at qU;simp at qU
   exact⟨i,n,a,b,k,hk,e,hx,gK,hi,hg,⟨hx.xp.unf hi,zG⟩,Gc zG⟩
  rw [Ho hx ho]at sO;cases sO
 have nQ:∀c∈l,∃s,Xf s/\c=Qs s/\Jh s.top=true:=fun c hc=>by
  rcases(wG c).1 hc with h1|h1
  ·obtain⟨k,hk,rfl,hb⟩:=h.mem_base0.1 h1;exact⟨_,h.at hk,rfl,hb⟩
  obtain⟨i,n,a,b,_,_,_,_,_,_,_,hX,rfl⟩:=bZ c h1;exact⟨_,hX,rfl,rfl⟩
 have gH:∀k,k < (Qs t).length->Jh (tr (Qs t) k).top=true->tr (Qs t) k∈l.map Qh:=fun k hk hb =>
  (Vx nQ).2 ⟨h.at hk,(wG _).2 (.inl (h.mem_base0.2 ⟨k,hk,rfl,hb⟩))⟩
 have ZB:∀k,k < (Qs t).length->cov (l.map Qh) (tr (Qs t) k):=by
  intro k
  induction k using Nat.strongRecOn with
  |_ k ih =>
   intro hk;obtain⟨n,hn⟩:∃n,(Qs t)[k]?=some n:=⟨_,Qv hk⟩;obtain⟨hx,hy⟩:=h.xp.1.wf k n hn;have hs:=gH k hk;rw [Xd h.xp.1.wf hn]at hs⊢;unfold Vy at hs⊢;cases h2:Qw n.op
   ·cases h1:Zq n.op
    ·rw [h1,h2]at hs;exact fun h3=>hs (by simp [Jh,Tr.top,h3])
    rw [h1,h2]at hs;have:=hx h1;simp only [cond_false,cond_true,_root_.Go.Proofs.YtkmclcmnoicagaaGreatDoor.cov]at hs⊢;by_cases h9:n.head.op=9
    ·rw [if_pos h9];exact hs (by simp [Jh,Tr.top,h9])
    rw [if_neg h9];exact ih _ (by omega) (by omega)
   rw [h2]at hs;have:=hx (Vl h2);have:=hy h2;simp only [cond_true,_root_.Go.Proofs.YtkmclcmnoicagaaGreatDoor.cov]at hs⊢;by_cases xI:n.head.op=13
   ·rw [if_pos xI];exact hs (by simp [Jh,Tr.top,xI])
   rw [if_neg xI];exact⟨ih _ (by omega) (by omega),ih _ (by omega) (by omega)⟩
 have WQ:∀k,k < (Qs t).length->∀n a b,tr (Qs t) k=.two n a b->cov (l.map Qh) a/\cov (l.map Qh) b:=fun k hk n a b e=>by
  obtain⟨m,hm⟩:∃m,(Qs t)[k]?=some m:=⟨_,Qv hk⟩;obtain⟨hx,hy⟩:=h.xp.1.wf k m hm;rw [Xd h.xp.1.wf hm]at e;obtain⟨h2,_,rfl,rfl⟩:=Qhj e;have:=hx (Vl h2);have:=hy h2;exact⟨ZB _ (by omega),ZB _ (by omega)⟩
 have RY:∀k,k < (Qs t).length->∀n a,tr (Qs t) k=.one n a->cov (l.map Qh) a:=fun k hk n a e=>by
  obtain⟨m,hm⟩:∃m,(Qs t)[k]?=some m:=⟨_,Qv hk⟩;obtain⟨hx,hy⟩:=h.xp.1.wf k m hm;rw [Xd h.xp.1.wf hm]at e;obtain⟨h1,_,_,rfl⟩:=Qhz e;have:=hx h1;exact ZB _ (by omega)
 refine⟨nQ,by rw [<-hl];exact Qql _ _ h.base0_nodup,⟨fun n a hm=> ?_,fun n a b hm=> ?_⟩,?_,by have:=of_decide_eq_false tB;show l.length<=12;omega⟩
 ·obtain⟨hX,oJ⟩:=(Vx nQ).1 hm;have zI:n.op=9:=by
   obtain⟨s,hs,e,hb⟩:=nQ _ oJ;have h4:=Qtv hX.xp.1.1.1 hX.xp.1.1.2.1 hX.xp.2.1;rw [<-hX.inj hs e]at hb;simp only [Jh,Tr.top,Bool.or_eq_true,beq_iff_eq]at hb;omega
  refine⟨zI,?_,hX.of_one.xp.lang,Qdb hX.xp.1.2.1 (.inl zI)⟩;rcases(wG _).1 oJ with h1|h1
  ·obtain⟨k,hk,e,_⟩:=h.mem_base0.1 h1;exact RY k hk n a ((hX.inj (h.at hk) e).symm)
  obtain⟨i,n',a',b',k,hk,e,hX',ho,hi,hg,hU,eu⟩:=bZ _ h1;have:=hX.inj hU eu;unfold Gr at this;injection this with _ e2;subst e2;obtain⟨c1,c2⟩:=WQ k hk _ _ _ e;have xO:=gH k hk (by rw [e];simp [Jh,Tr.top,ho]);rw [e]at xO;simp only [_root_.Go.Proofs.YtkmclcmnoicagaaGreatDoor.cov,show ¬(7:Int)=13 by decide,show ¬(5:Int)=13 by decide,if_false,ho,if_true];exact⟨c1,c2,xO⟩
 ·obtain⟨hX,oJ⟩:=(Vx nQ).1 hm;rcases(wG _).1 oJ with h1|h1
  ·obtain⟨k,hk,e,hb⟩:=h.mem_base0.1 h1;have et:=hX.inj (h.at hk) e;have zI:n.op=13:=by
    have h5:=Qtk hX.xp.1.1.2.1 hX.xp.2.1;rw [<-et]at hb;simp only [Jh,Tr.top,Bool.or_eq_true,beq_iff_eq]at hb;omega
   obtain⟨c1,c2⟩:=WQ k hk n a b et.symm;refine⟨zI,c1,c2,hX.of_two.1.xp.lang,hX.of_two.2.xp.lang,fun i hi hg=> ?_⟩;have hu:Zi (Gr i n a b)∈(Yw (Qs t)).flatMap Kz:=List.mem_flatMap.2 ⟨_,h1,(Qzr hX zI).2 ⟨i,hi,hg,rfl⟩⟩;have qU:=zQ _ hu;have zG:(Qs (Gr i n a b)).length<=200:=by
    by_cases e2:(Qs (Gr i n a b)).length<=200
    ·exact e2
    rw [Gq (by omega)]at qU;simp at qU
   refine(Vx nQ).2 ⟨⟨hX.xp.unf hi,zG⟩,(wG _).2 (.inr ?_)⟩;rw [<-Gc zG];exact hu
  obtain⟨i,n',a',b',k,hk,e,hX',ho,hi,hg,hU,eu⟩:=bZ _ h1;have:=hX.inj hU eu;unfold Gr at this;cases this
 have hp:=Ud h.xp.1.1;have:=ZB ((Qs t).length - 1) (by omega);rw [show tr (Qs t) ((Qs t).length - 1)=t from h.tree]at this;exact this
section
variable {t:Tr}
theorem Qoa(h:Xf t) {u:List Nd}(hu:u∈(Yw (Qs t)).flatMap Kz)(qU:u.length≠0):
 ∃i n a b,Xf (.two n a b)/\n.op=13/\i < 4/\Xf (Gr i n a b)/\u=Qs (Gr i n a b):=by
 obtain⟨c,rN,sO⟩:=List.mem_flatMap.1 hu;obtain⟨k,hk,rfl,_⟩:=h.mem_base0.1 rN;have hx:=h.at hk;by_cases ho:(tr (Qs t) k).top.op=13
 ·obtain⟨n,a,b,e,gK⟩:=Ie hx ho;rw [e]at hx sO;obtain⟨i,hi,hg,rfl⟩:=(Qzr hx gK).1 sO;have zG:(Qs (Gr i n a b)).length<=200:=by
   by_cases e2:(Qs (Gr i n a b)).length<=200
   ·exact e2
   rw [Gq (by omega)]at qU;simp at qU
  exact⟨i,n,a,b,hx,gK,hi,⟨hx.xp.unf hi,zG⟩,Gc zG⟩
 rw [Ho hx ho]at sO;cases sO
def Cd(l0:List (List Nd))(k:Nat):List (List Nd):=(l0.take k).flatMap Kz
theorem Qth {l0:List (List Nd)} {k:Nat} {u:List Nd}(h:u∈Cd l0 k):u∈l0.flatMap Kz:=by
 obtain⟨c,hc,hu⟩:=List.mem_flatMap.1 h;exact List.mem_flatMap.2 ⟨c,List.mem_of_mem_take hc,hu⟩
theorem Tj:∀(us l:List (List Nd)),l <+: us.foldl Ga l
 |[],l=>List.prefix_refl _
 |u :: r,l=>by
  rw [List.foldl_cons];refine List.IsPrefix.trans ?_ (Tj r _);unfold Ga;cases decide (Yr l u < 0)
  ·exact List.prefix_refl _
  exact List.prefix_append _ _
theorem Qd5(us l:List (List Nd)):l.length<=(us.foldl Ga l).length:=(Tj us l).length_le
theorem Qpb(h:Xf t) {k:Nat} {ol:List (List Nd)} {c:List Nd}(sZ:ol=(Cd (Yw (Qs t)) k).foldl Ga (Yw (Qs t)))(zQ:∀u∈Cd (Yw (Qs t)) k,u.length≠0)(hc:ol[k]?=some c):
 Cd (Yw (Qs t)) (k+1)=Cd (Yw (Qs t)) k++Kz c/\∃s,Xf s/\c=Qs s:=by
 generalize qU:Yw (Qs t)=l0 at sZ zQ⊢;by_cases hk:k < l0.length
 ·have hp:l0 <+: ol:=sZ▸Tj _ _;have oY:l0[k]?=some c:=by
   obtain⟨r,rfl⟩:=hp;rw [List.getElem?_append_left hk]at hc;exact hc
  refine⟨?_,?_⟩
  ·unfold Cd;obtain⟨rJ,e⟩:=List.getElem?_eq_some_iff.1 oY;rw [List.take_succ_eq_append_getElem rJ,e,List.flatMap_append];simp
  have hm:c∈Yw (Qs t):=qU▸List.mem_of_getElem? oY;obtain⟨i,hi,rfl,_⟩:=h.mem_base0.1 hm;exact⟨_,h.at hi,rfl⟩
 have e:Cd l0 (k+1)=Cd l0 k:=by
  unfold Cd;rw [List.take_of_length_le (by omega),List.take_of_length_le (by omega)]
 have hm:c∈ol:=List.mem_of_getElem? hc;rw [sZ,Qqt]at hm;rcases hm with hm|hm
 ·have oJ:c∈Yw (Qs t):=qU▸hm;obtain⟨i,hi,rfl,hb⟩:=h.mem_base0.1 oJ;have QI:(ol.drop l0.length)[k - l0.length]?=some (Qs (tr (Qs t) i)):=by rw [List.getElem?_drop];rw [<-hc];congr 1;omega
  have fM:ol.Nodup:=by rw [sZ,<-qU];exact Qql _ _ h.base0_nodup
  have hp:l0 <+: ol:=sZ▸Tj _ _;obtain⟨r,hr⟩:=hp;rw [<-hr]at QI fM;rw [List.drop_left]at QI;have:=(List.nodup_append.1 fM).2.2 _ hm _ (List.mem_of_getElem? QI);exact absurd rfl this
 have hu:=zQ c hm;obtain⟨i,n,a,b,_,_,_,hX,rfl⟩:=Qoa h (qU▸Qth hm) hu;exact⟨by rw [e,Ho hX (by show(9:Int)≠13;decide),List.append_nil],_,hX,rfl⟩
theorem Zz5 {l0:List (List Nd)} {k:Nat}(h:l0.length<=k):Cd l0 k=l0.flatMap Kz:=by
 unfold Cd;rw [List.take_of_length_le h]
theorem Qa6 {l0:List (List Nd)} {k:Nat} {u:List Nd}(h:u∈Cd l0 k)(hl:u.length=0):(l0.flatMap Kz).any (fun u=>decide (u.length=0))=true:=by
 rw [List.any_eq_true];exact⟨u,Qth h,by simp [hl]⟩
theorem Qm6(l0:List (List Nd))(k:Nat):∃r,l0.flatMap Kz=Cd l0 k++r:=by
 refine⟨(l0.drop k).flatMap Kz,?_⟩;unfold Cd;rw [<-List.flatMap_append,List.take_append_drop]
theorem Qpf {l0:List (List Nd)} {k:Nat}(h:12 < ((Cd l0 k).foldl Ga l0).length):12 < ((l0.flatMap Kz).foldl Ga l0).length:=by
 obtain⟨r,e⟩:=Qm6 l0 k;rw [e,List.foldl_append];exact Qy h (Qd5 r _)
theorem Qxq {g:List Nd}(h:((Yw g).flatMap Kz).any (fun u=>decide (u.length=0))=true\/12 < (((Yw g).flatMap Kz).foldl Ga (Yw g)).length):Kw g=([],8):=by
 unfold Kw;rcases h with h|h
 ·rw [h];rfl
 rw [decide_eq_true h,Bool.or_true];rfl
theorem Qrl {g:List Nd}(h:∀u∈(Yw g).flatMap Kz,u.length≠0)(hl:(((Yw g).flatMap Kz).foldl Ga (Yw g)).length<=12):Kw g=(((Yw g).flatMap Kz).foldl Ga (Yw g),0):=by
 unfold Kw;have e:((Yw g).flatMap Kz).any (fun u=>decide (u.length=0))=false:=by
  rw [List.any_eq_false];intro u hu;simp [h u hu]
 rw [e,decide_eq_false (by omega)];rfl
end
def Tm(c:List Nd)(q:Nat):List (List Nd):=bif (Qi c).op==13 then((List.range q).filter fun i=>Vg (Qi c).g i).map fun i=>Ua i c else []
theorem Qbv(c:List Nd):Tm c 0= []:=by
 unfold Tm;cases(Qi c).op==13 <;> rfl
theorem Qj8(c:List Nd):Tm c 4=Kz c:=rfl
theorem Zz0 {c:List Nd} {q:Nat}(h:((Qi c).op==13&&Vg (Qi c).g q)=false):Tm c (q+1)=Tm c q:=by
 unfold Tm;cases h1:(Qi c).op==13
 ·rfl
 rw [h1]at h;have h2:Vg (Qi c).g q=false:=h;simp only [cond_true];rw [List.range_succ,List.filter_append,List.map_append,List.filter_cons,h2];simp
theorem Qoh {c:List Nd} {q:Nat}(h1:((Qi c).op==13)=true)(h2:Vg (Qi c).g q=true):Tm c (q+1)=Tm c q++ [Ua q c]:=by
 unfold Tm;rw [h1];simp only [cond_true];rw [List.range_succ,List.filter_append,List.map_append,List.filter_cons,h2];simp
theorem Qoc {c u:List Nd} {q:Nat}(hq:q<=4)(h:u∈Tm c q):u∈Kz c:=by
 rw [<-Qj8];unfold Tm at h⊢;cases h1:(Qi c).op==13
 ·rw [h1]at h;cases h
 rw [h1]at h;simp only [cond_true,List.mem_map,List.mem_filter,List.mem_range]at h⊢;obtain⟨i,⟨a,b⟩,e⟩:=h;exact⟨i,⟨by omega,b⟩,e⟩
def th(base:List (List Nd))(t:Nat)(f:Tr):Bool:=bif decide (0<=Yr base (Qs f))then t.testBit (Yr base (Qs f)).toNat else false
theorem Qxz(n:Nd):(n.op=3\/n.op=9\/n.op=13)\/((n.op==3)=false/\(n.op==9)=false/\(n.op==13)=false):=by
 by_cases h3:n.op=3
 ·exact .inl (.inl h3)
 by_cases h9:n.op=9
 ·exact .inl (.inr (.inl h9))
 by_cases xI:n.op=13
 ·exact .inl (.inr (.inr xI))
 exact .inr ⟨by simpa using h3,by simpa using h9,by simpa using xI⟩
theorem Qx3 {base:List (List Nd)} {f:List Nd} {i:Nat} {n:Nd}(hi:f[i]?=some n):(Km base f)[i]?=some (bif Jh n then Yr base (Js f (i:Int))else -1):=by
 unfold Km;rw [List.getElem?_map,List.getElem?_range (List.getElem?_eq_some_iff.1 hi).1];simp only [Option.map_some,Aj hi]
theorem Qx4(base:List (List Nd))(f:List Nd):(Km base f).length=f.length:=by simp [Km]
section
variable {base:List (List Nd)} {f:List Nd} {t i:Nat} {n:Nd}
theorem Qip(hc:check f=0)(hi:f[i]?=some n)(v:List Bool)(hv:v=(List.range i).map fun j=>ev (th base t) (tr f j)):
 Kr n (bif Jh n then Yr base (Js f (i:Int))else -1) t v=ev (th base t) (tr f i):=by
 have hw:=Yt hc;have kE:=(List.getElem?_eq_some_iff.1 hi).1;have hs:Js f (i:Int)=Qs (tr f i):=Sk hc kE;have ht:=Xd hw hi;obtain⟨hx,hy⟩:=hw i n hi;have gx:Zq n.op=true->v.getD n.x.toNat false=ev (th base t) (tr f n.x.toNat):=fun h=>by
  have:=hx h;rw [hv,Qk,List.getElem?_map,List.getElem?_range (by omega)];rfl
 have gy:Qw n.op=true->v.getD n.y.toNat false=ev (th base t) (tr f n.y.toNat):=fun h=>by
  have:=hy h;rw [hv,Qk,List.getElem?_map,List.getElem?_range (by omega)];rfl
 have zI:=(Dc n.op).1 (Rh hc n (List.mem_of_getElem? hi)).1;rw [hs];by_cases hb:Jh n=true
 ·have hk:∀s:Tr,tr f i=s->ev (th base t) s=th base t s->Kr n (bif Jh n then Yr base (Qs (tr f i))else -1) t v=ev (th base t) (tr f i):=fun s e1 e2=>by
   rw [hb,cond_true,e1,e2];unfold Kr th;cases hd:decide (0<=Yr base (Qs s))
   ·simp only [cond_false];have ho:n.op=3\/n.op=9\/n.op=13:=by simpa [Jh]using hb
    rcases ho with ho|ho|ho <;> simp [ho]
   simp only [cond_true]
  have ho:n.op=3\/n.op=9\/n.op=13:=by simpa [Jh]using hb
  rcases ho with ho|ho|ho
  ·exact hk (.leaf n) (by rw [ht];simp [Vy,ho,Zq,Qw]) (by simp [ev,ho])
  ·exact hk (.one n.head (tr f n.x.toNat)) (by rw [ht];simp [Vy,ho,Zq,Qw]) (by simp [ev,Ng,ho])
  exact hk (.two n.head (tr f n.x.toNat) (tr f n.y.toNat)) (by rw [ht];simp [Vy,ho,Zq,Qw]) (by simp [ev,Ng,ho])
 have IW:Jh n=false:=by simpa using hb
 rw [IW,cond_false];have h3:n.op≠3/\n.op≠9/\n.op≠13:=by simpa [Jh]using IW
 have BD:decide ((0:Int)<= -1)=false:=by decide
 unfold Kr;rw [BD,cond_false,ht];by_cases h4:n.op=4
 ·rw [gx (by rw [h4];rfl)];simp [Vy,h4,Zq,Qw,ev,Ng]
 by_cases h5:n.op=5
 ·rw [gx (by rw [h5];rfl),gy (by rw [h5];rfl)];simp [Vy,h5,Zq,Qw,ev,Ng]
 by_cases h6:n.op=6
 ·rw [gx (by rw [h6];rfl),gy (by rw [h6];rfl)];simp [Vy,h6,Zq,Qw,ev,Ng]
 by_cases h7:n.op=7
 ·rw [gx (by rw [h7];rfl),gy (by rw [h7];rfl)];simp [Vy,h7,Zq,Qw,ev,Ng]
 by_cases h8:n.op=8
 ·rw [gx (by rw [h8];rfl),gy (by rw [h8];rfl)];simp [Vy,h8,Zq,Qw,ev,Ng]
 have b4:(n.op==4)=false:=by simpa using h4
 have b5:(n.op==5)=false:=by simpa using h5
 have b6:(n.op==6)=false:=by simpa using h6
 have b7:(n.op==7)=false:=by simpa using h7
 have b8:(n.op==8)=false:=by simpa using h8
 rw [b4,b5,b6,b7,b8];simp only [cond_false];unfold Vy;cases hY:Qw n.op
 ·cases hX:Zq n.op
  ·simp only [cond_false,ev,h3.1,if_false];cases n.op==1 <;> rfl
  have h1:n.op≠1:=fun e=>by rw [e]at hX;cases hX
  have b1:(n.op==1)=false:=by simpa using h1
  rw [b1];simp [ev,Ng,h4,h3.2.1]
 have h1:n.op≠1:=fun e=>by rw [e]at hY;cases hY
 have b1:(n.op==1)=false:=by simpa using h1
 rw [b1];simp [ev,Ng,h5,h6,h7,h8,h3.2.2]
theorem Qo7(hc:check f=0):∀(k i:Nat),i+k=f.length->Qz1 t (f.drop i) ((Km base f).drop i) ((List.range i).map fun j=>ev (th base t) (tr f j))=(List.range f.length).map fun j=>ev (th base t) (tr f j)
 |0,i,h=>by
  have e:i=f.length:=by omega
  subst e;rw [List.drop_length];rfl
 |k+1,i,h=>by
  have hi:f[i]?=some f[i]:=List.getElem?_eq_getElem (by omega);have hp:=Qx3 (base:=base) hi;obtain⟨sE,cL⟩:=List.getElem?_eq_some_iff.1 hp;rw [List.drop_eq_getElem_cons (show i < f.length by omega),List.drop_eq_getElem_cons sE,cL];show Qz1 t _ _ (_++ [_])=_;rw [Qip hc hi _ rfl];have e:(List.range i).map (fun j=>ev (th base t) (tr f j))++ [ev (th base t) (tr f i)]=(List.range (i+1)).map fun j=>ev (th base t) (tr f j):=by
   rw [List.range_succ,List.map_append];rfl
  rw [e];exact Qo7 hc k (i+1) (by omega)
theorem Zvl(hc:check f=0):atN f (Km base f) t=ev (th base t) (Qh f):=by
 unfold atN;have h:=Qo7 (base:=base) (t:=t) hc f.length 0 (by omega);simp only [List.drop_zero,List.range_zero,List.map_nil]at h;rw [h];have hp:=(Jf hc).1;obtain⟨k,hk⟩:∃k,f.length=k+1:=⟨f.length - 1,by omega⟩;rw [hk,List.range_succ,List.map_append,List.map_cons,List.map_nil];unfold Qh;rw [hk];simp
end
theorem Xs(base:List (List Nd))(f:List Nd):(Vv base f).length=2^base.length:=by simp [Vv]
theorem Qy5 {base:List (List Nd)} {f:List Nd}(hc:check f=0) {t:Nat}(ht:t < 2^base.length):(Vv base f).getD t false=ev (th base t) (Qh f):=by
 unfold Vv;rw [Qk,List.getElem?_map,List.getElem?_range ht];exact Zvl hc
def Qai(a b:List Bool):Prop:=∀t,b.getD t false=true->a.getD t false=true
theorem Qn4(l:List Bool)(t u:Nat):(l.set t false).getD u false=(bif u==t then false else l.getD u false):=by
 rw [Qk,List.getElem?_set,Qk];by_cases h:u=t
 ·subst h;simp
  split <;> rfl
 have:(u==t)=false:=by simpa using h
 rw [this,if_neg (fun e=>h e.symm)];rfl
theorem Zzl(l:List Bool)(t:Nat):Qai l (l.set t false):=fun u h=>by
 rw [Qn4]at h;cases e:u==t
 ·rw [e]at h;exact h
 rw [e]at h;cases h
def Pa(l:List Bool):Nat:=l.countP id
theorem Qse:∀(l:List Bool) (t:Nat),l.getD t false=true->Pa (l.set t false)+1=Pa l
 |[],t,h=>by simp at h
 |a :: r,0,h=>by
  simp at h;subst h;simp [Pa]
 |a :: r,t+1,h=>by
  have ih:=Qse r t (by simpa using h);unfold Pa at ih⊢;rw [List.set_cons_succ,List.countP_cons,List.countP_cons];omega
theorem Qxv(l:List Bool):Pa l<=l.length:=List.countP_le_length
section
variable {why:List Bool->Nat->Option Int}
def Ub(why:List Bool->Nat->Option Int)(s:List Bool×List (Nat×Int))(t:Nat):List Bool×List (Nat×Int):=
 bif s.1.getD t false then(match why s.1 t with|none=>s|some i=>(s.1.set t false,s.2++ [(t,i)]))else s
theorem Wi(t:Nat)(r:List Nat)(s:List Bool×List (Nat×Int)):Xj why (t :: r) s=Xj why r (Ub why s t):=rfl
theorem Qvd:∀(a b:List Nat) (s:List Bool×List (Nat×Int)),Xj why (a++b) s=Xj why b (Xj why a s)
 |[],_,_=>rfl
 |t :: r,b,s=>Qvd r b (Ub why s t)
theorem Qob(s:List Bool×List (Nat×Int))(t:Nat):(Ub why s t).1.length=s.1.length:=by
 unfold Ub;cases s.1.getD t false
 ·rfl
 cases why s.1 t with
 |none=>rfl
 |some i=>simp
theorem Qnp:∀(r:List Nat) (s:List Bool×List (Nat×Int)),(Xj why r s).1.length=s.1.length
 |[],_=>rfl
 |t :: r,s=>(Qnp r (Ub why s t)).trans (Qob s t)
theorem Qzd(s:List Bool×List (Nat×Int))(t:Nat):
 (Ub why s t=s/\(s.1.getD t false=true->why s.1 t=none))\/(∃i,s.1.getD t false=true/\why s.1 t=some i/\Ub why s t=(s.1.set t false,s.2++ [(t,i)])):=by
 unfold Ub;cases h:s.1.getD t false
 ·exact .inl ⟨rfl,fun e=>by cases e⟩
 cases hw:why s.1 t with
 |none=>exact .inl ⟨rfl,fun _=>rfl⟩
 |some i=>exact .inr ⟨i,rfl,rfl,rfl⟩
theorem Qn8(s:List Bool×List (Nat×Int))(t:Nat):Pa (Ub why s t).1+(Ub why s t).2.length=Pa s.1+s.2.length/\s.2.length<=(Ub why s t).2.length:=by
 rcases Qzd (why:=why) s t with⟨e,_⟩|⟨i,h,_,e⟩
 ·rw [e];exact⟨rfl,Nat.le_refl _⟩
 rw [e];have:=Qse s.1 t h;simp only [List.length_append,List.length_singleton];omega
theorem Ec:∀(r:List Nat) (s:List Bool×List (Nat×Int)),Pa (Xj why r s).1+(Xj why r s).2.length=Pa s.1+s.2.length/\s.2.length<=(Xj why r s).2.length
 |[],_=>⟨rfl,Nat.le_refl _⟩
 |t :: r,s=>by
  have h1:=Qn8 (why:=why) s t;have h2:=Ec r (Ub why s t);rw [Wi];omega
theorem Qja:∀(r:List Nat) (s:List Bool×List (Nat×Int)),(Xj why r s).2.length=s.2.length->Xj why r s=s/\∀t∈r,s.1.getD t false=true->why s.1 t=none
 |[],s,_=>⟨rfl,fun t h=>by cases h⟩
 |t :: r,s,h=>by
  rw [Wi]at h;have h2:=(Ec (why:=why) r (Ub why s t)).2;rcases Qzd (why:=why) s t with⟨e,hn⟩|⟨i,_,_,e⟩
  ·rw [e]at h;obtain⟨a,b⟩:=Qja r s h;rw [Wi,e];refine⟨a,fun u hu=> ?_⟩;rcases List.mem_cons.1 hu with rfl|hu
   ·exact hn
   exact b u hu
  rw [e]at h h2;simp only [List.length_append,List.length_singleton]at h2;omega
theorem Qdo:∀(k:Nat) (s:List Bool×List (Nat×Int)),(Sb why k s).1.length=s.1.length
 |0,_=>rfl
 |k+1,s=>by
  unfold Sb;cases(Xj why (List.range s.1.length) s).2.length==s.2.length
  ·exact(Qdo k _).trans (Qnp _ _)
  rfl
theorem Qv6:∀(k:Nat) (s:List Bool×List (Nat×Int)),Pa s.1 < k->∀t,(Sb why k s).1.getD t false=true->why (Sb why k s).1 t=none
 |0,s,h,_=>by omega
 |k+1,s,h,t=>by
  unfold Sb;cases he:(Xj why (List.range s.1.length) s).2.length==s.2.length
  ·have zQ:(Xj why (List.range s.1.length) s).2.length≠s.2.length:=by simpa using he
   have hc:=Ec (why:=why) (List.range s.1.length) s;exact Qv6 k _ (by omega) t
  intro ht;have hl:t < s.1.length:=by
   by_cases e:t < s.1.length
   ·exact e
   rw [cond_true,Qk,List.getElem?_eq_none (by omega)]at ht;cases ht
  exact(Qja _ _ (by simpa using he)).2 t (List.mem_range.2 hl) ht
theorem Qfa {S:List Bool->Prop}(hS:∀(al:List Bool) (t:Nat) (i:Int),S al->al.getD t false=true->why al t=some i->S (al.set t false)):∀(r:List Nat) (s:List Bool×List (Nat×Int)),S s.1->S (Xj why r s).1
 |[],_,h=>h
 |t :: r,s,h=>by
  rw [Wi];refine Qfa hS r _ ?_;rcases Qzd (why:=why) s t with⟨e,_⟩|⟨i,h1,h2,e⟩
  ·rw [e];exact h
  rw [e];exact hS _ _ _ h h1 h2
theorem Qz9 {S:List Bool->Prop}(hS:∀(al:List Bool) (t:Nat) (i:Int),S al->al.getD t false=true->why al t=some i->S (al.set t false)):∀(k:Nat) (s:List Bool×List (Nat×Int)),S s.1->S (Sb why k s).1
 |0,_,h=>h
 |k+1,s,h=>by
  unfold Sb;cases(Xj why (List.range s.1.length) s).2.length==s.2.length
  ·exact Qz9 hS k _ (Qfa hS _ _ h)
  exact h
end
section
variable {why:List Bool->Nat->Option Int} {lk:List Bool->Nat->Int->Bool} (WB:∀al t i,why al t=some i->lk al t i=true)
include WB
def Zk2(lk:List Bool->Nat->Int->Bool)(al0:List Bool)(s:List Bool×List (Nat×Int)):Prop:=Qdt lk (s.2.map Prod.fst) (s.2.map Prod.snd) al0=some s.1
end
end Go.Proofs.YtkmclcmnoicagaaGreatDoor
