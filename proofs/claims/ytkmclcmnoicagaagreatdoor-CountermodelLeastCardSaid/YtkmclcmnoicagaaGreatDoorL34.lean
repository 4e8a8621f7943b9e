/- The reference of countermodels: known, place; the reference's Has, Members, squeeze. -/
import Derived.Test.YtkmclcmnoicagaaGreatDoorL31
namespace Go.Proofs.YtkmclcmnoicagaaGreatDoor
set_option maxRecDepth 100000
set_option maxHeartbeats 128000000
open Go.RowKit
theorem Qg6(lg:Int)(w:World):Calls Tryz.prog 77 #[.int .i64 lg] w fun e w'=>e=.returned (.int .i64 (if 0<=lg/\lg<=6 then 0 else 1))/\w=w':=by
 obtain⟨lo,wB⟩:∃z:Int,z=if 0<=lg/\lg<=6 then 0 else 1:=⟨_,rfl⟩
 have xY:=Qq wB;rw [<-wB];clear wB;by_cases h0:lg < 0
 ·have HD:=Qq (show lo=1 by rw [xY.out,if_neg (by omega)]);go_enter Tryz.func77,Tryz.ntmps77;go_wp2_with fail;go_ret;exact⟨by rw [HD.out] <;> rfl,rfl⟩
 by_cases h6:6 < lg
 ·have HD:=Qq (show lo=1 by rw [xY.out,if_neg (by omega)]);go_enter Tryz.func77,Tryz.ntmps77;go_wp2_with fail;go_ret;exact⟨by rw [HD.out] <;> rfl,rfl⟩
 have HD:=Qq (show lo=0 by rw [xY.out,if_pos (by omega)]);go_enter Tryz.func77,Tryz.ntmps77;go_wp2_with fail;go_ret;exact⟨by rw [HD.out] <;> rfl,rfl⟩
theorem Qn7 {s i:Nat}(hs:Qp s)(hi:i < 64):(bits .and .u64 (s:Int) ((2^i:Nat):Int) !=0)=s.testBit i:=by
 rw [Xy hs (Qq9 hi)];have hb:∀j,(s&&&2^i).testBit j=(s.testBit j&&decide (i=j)):=fun j=>by rw [Nat.testBit_and,Nat.testBit_two_pow]
 cases h:s.testBit i
 ·have:s&&&2^i=0:=Nat.eq_of_testBit_eq fun j=>by
   rw [hb,Nat.zero_testBit];by_cases e:i=j
   ·rw [<-e,h];rfl
   rw [decide_eq_false e,Bool.and_false]
  rw [this];rfl
 have zQ:s&&&2^i≠0:=fun e=>by
  have:=hb i;rw [e,Nat.zero_testBit,h]at this;simp at this
 rw [bne_iff_ne];omega
theorem Qm3(i:Nat)(w:World)(hi:i < 64):Calls Tryz.prog 150 #[.int .i64 (i:Int)] w fun e w'=>e=.returned (.int .u64 ((2^i:Nat):Int))/\w=w':=by
 have hm:min i 64=i:=by omega
 have hwi:IntKind.u64.wrap (i:Int)=(i:Int):=by rw [IntKind.wrap_u64];omega
 have HB:=Qq (Mo hi);go_enter Tryz.func150,Tryz.ntmps150;go_wp2_with fail;go_ret;exact⟨by rw [<-HB.out] <;> rfl,rfl⟩
theorem Qp2(s i:Nat)(w:World)(hs:Qp s)(hi:i < 64):Calls Tryz.prog 79 #[.int .u64 (s:Int),.int .i64 (i:Int)] w fun e w'=>e=.returned (.bool (s.testBit i))/\w=w':=by
 have iG:(i:Int) < 64:=by omega
 have jL:(0:Int)<=(i:Int):=by omega
 have HB:=Qq (Qn7 hs hi);obtain⟨p,hp⟩:∃p,p=2^i:=⟨_,rfl⟩;have AH:=Qq (Qm3 i · hi);rw [<-hp]at HB AH;clear hp hs;go_enter Tryz.func79,Tryz.ntmps79;go_wp2_with fail;refine(AH.out _).mono ?_;rintro e w1 ⟨rfl,rfl⟩;go_wp2_with fail;go_ret;exact⟨by rw [<-HB.out] <;> rfl,rfl⟩
def Zkf(s k:Nat):List Nat:=(List.range k).filter fun i=>s.testBit i
theorem Im(n a v:Nat)(hn:n<=64)(ha:a<=4)(hv:v<=8)(w:World):
 Calls Tryz.prog 92 #[.int .i64 (n:Int),.int .i64 (a:Int),.int .i64 (v:Int)] w fun e w'=>e=.returned (.int .i64 ((Zh n a v:Nat):Int))/\w=w':=by
 obtain⟨b1,b2,b3⟩:=Qg7 hn ha hv;obtain⟨p,hp⟩:∃z,z=n*v:=⟨_,rfl⟩;obtain⟨q,hq⟩:∃z,z=n*n:=⟨_,rfl⟩;obtain⟨r,hr⟩:∃z,z=n*n*a:=⟨_,rfl⟩;rw [<-hp]at b1;rw [<-hq]at b2;rw [<-hr]at b3;have f1:wrap64 ((n:Int)*(v:Int))=(p:Int):=by
  rw [show(n:Int)*(v:Int)=((n*v:Nat):Int) by simp,<-hp];exact Sd (by omega)
 have f2:wrap64 ((n:Int)*(n:Int))=(q:Int):=by
  rw [show(n:Int)*(n:Int)=((n*n:Nat):Int) by simp,<-hq];exact Sd (by omega)
 have f3:wrap64 ((q:Int)*(a:Int))=(r:Int):=by
  rw [show(q:Int)*(a:Int)=((q*a:Nat):Int) by simp,hq,<-hr];exact Sd (by omega)
 have HL:=Qq (show p+r=Zh n a v by rw [hp,hr];rfl);clear hn ha hv hp hq hr;go_enter Tryz.func92,Tryz.ntmps92;go_wp2_with fail;go_ret;exact⟨by rw [<-HL.out] <;> first|rfl|simp,rfl⟩
theorem Qcn:∀m:Fin 256,∀k:Fin 9,(decide (0 < m.1 / 2^k.1)=decide (k.1 < Yj m.1)):=by decide+kernel
theorem Qfz(m:Nat)(hm:m < 256)(w:World):Calls Tryz.prog 91 #[.int .i64 (m:Int)] w fun e w'=>e=.returned (.int .i64 ((Yj m:Nat):Int))/\w=w':=by
 have hl8:=Qcd hm;have yY:=Qq (fun k (hk:k < 9)=>Qcn ⟨m,hm⟩ ⟨k,hk⟩);obtain⟨L,hL⟩:∃z,z=Yj m:=⟨_,rfl⟩;have IB:=Qq hL;rw [<-hL]at hl8;clear hL;go_enter Tryz.func91,Tryz.ntmps91;go_wp2_with fail;go_loopw [3] (fun v wr=>∃k:Nat,v=.int .i64 (k:Int)/\k<=L/\Hid (w=wr)) (fun v _=>L - (intOf v).toNat)
 case atStart=>exact⟨0,rfl,Nat.zero_le _,Qq rfl⟩
 case round =>
  obtain⟨k,rfl,hk,zY⟩:=hrel;have ZM:=zY.out;subst ZM;clear zY;have xM:=yY.out k (by omega);have pG:IntKind.u64.wrap (k:Int)=(k:Int):=by rw [IntKind.wrap_u64];omega
  have dV:min k 64=k:=by omega
  have bW:(m:Int) / 2^k=((m / 2^k:Nat):Int):=Dq _ _;obtain⟨q,hq⟩:∃z,z=m / 2^k:=⟨_,rfl⟩;rw [<-hq]at bW;by_cases zI:k < L
  ·have hq0:0 < q:=by
    have:decide (0 < m / 2^k)=true:=by rw [show decide (0 < m / 2^k)=decide (k < Yj m)from xM,<-IB.out,decide_eq_true zI]
    rw [hq];exact of_decide_eq_true this
   have LU:(0:Int) < (q:Int):=by omega
   clear xM hq;go_wp2_with fail;go_roundw
   case rel=>exact⟨k+1,by go_num,by omega,Qq (by first|rfl|trivial)⟩
   case measure=>simp [intOf];omega
  obtain rfl:L=k:=by omega
  obtain rfl:q=0:=by
   have:decide (0 < m / 2^L)=false:=by rw [show decide (0 < m / 2^L)=decide (L < Yj m)from xM,<-IB.out];simp
   rw [hq];have:=of_decide_eq_false this;omega
  clear xM hq;go_wp2_with fail;go_ret;exact⟨by rw [<-IB.out] <;> rfl,rfl⟩
theorem Qs4(x y:Nat):((x:Nat):Int).tmod ((y:Nat):Int)=((x % y:Nat):Int):=rfl
theorem Qbk(N A V K:Nat)(w:World)(KI:1<=N)(hN:N<=64)(hA:A<=4)(hV:V<=8)(hL:Zh N A V<=12)(ET:K < 2^Zh N A V):
 Calls Tryz.prog 35 #[.int .i64 (N:Int),.int .i64 (A:Int),.int .i64 (V:Int),.int .i64 (K:Int)] w fun e w'=>∃u,e=.returned (.tuple #[u,.int .i64 0])/\Qg w w'/\Kr (fun q=>q < w.heap.size) w' (fun W=>Yz W u (Uy N A V K)):=by
 obtain⟨iU,sR,xG,xF,xE⟩:=info_parts Dz;obtain⟨iS,UH,kI,kH,kG⟩:=info_parts Qkx;obtain⟨W0,zB⟩:∃W,W=w.alloc (.cells #[.int .i64 0,.slice none 0 0,.slice none 0 0] 26):=⟨_,rfl⟩;have X0:=Qq (show Qg w W0 by rw [zB];exact Qz.alloc _);obtain⟨b,hb⟩:∃b,b=w.heap.size:=⟨_,rfl⟩;have B0:=Qq (show W0.heap[b]?=some (.cells #[.int .i64 0,.slice none 0 0,.slice none 0 0] 26 (0,0)) by rw [zB,hb];exact heap_alloc_new _ _);have xY:=Qq (show w.heap.size<=b by omega);have wO:=Qq (show W0.heap.size=b+1 by rw [zB,hb];simp);have h1:¬(N:Int) < 1:=by omega
 have h2:¬(64:Int) < (N:Int):=by omega
 have h3:¬(A:Int) < 0:=by omega
 have h4:¬(4:Int) < (A:Int):=by omega
 have h5:¬(V:Int) < 0:=by omega
 have h6:¬(8:Int) < (V:Int):=by omega
 have gV:=Qq (Im N A V hN hA hV);have fF:=Qq (show V≠0\/A≠0->N<=12 from fun h=>by
  have hl:=hL;unfold Zh at hl;rcases h with h|h
  ·have:N*1<=N*V:=Nat.mul_le_mul_left N (by omega);omega
  have h1:N*N*1<=N*N*A:=Nat.mul_le_mul_left _ (by omega);have h2:N*1<=N*N:=Nat.mul_le_mul_left N KI
  omega)
 obtain⟨L,U4⟩:∃z,z=Zh N A V:=⟨_,rfl⟩;rw [<-U4]at gV hL ET;clear U4;have hq:¬(12:Int) < (L:Int):=by omega
 have qL:min L 64=L:=by omega
 have mK:IntKind.u64.wrap (L:Int)=(L:Int):=by rw [IntKind.wrap_u64];omega
 have uQ:2^L<=4096:=show 2^L<=2^12 from Nat.pow_le_pow_right (by decide) hL
 have yD:IntKind.i64.wrap ((2:Int)^L)=((2^L:Nat):Int):=Mw hL;obtain⟨P,hP⟩:∃z,z=2^L:=⟨_,rfl⟩;rw [<-hP]at yD uQ ET;clear hP hL;have k1:¬(K:Int) < 0:=by omega
 have k2:¬(P:Int)<=(K:Int):=by omega
 have hK:K < 4096:=by omega
 have Z9:=Qq (show ∀j:Nat,K / 2^(N*j) < 4096 from fun j=>Nat.lt_of_le_of_lt (Nat.div_le_self _ _) hK);have QT:=Qq (show ∀j:Nat,K / 2^(N*j) % 2^N=Vr N K j from fun _=>rfl);have rJ:decide (P<=K)=false:=decide_eq_false (by omega);have rS:decide (((K:Nat):Int) < 0)=false:=decide_eq_false (by omega);clear uQ ET;go_enter Tryz.func35,Tryz.ntmps35;go_upto_region 1 with(fail);rw [<-zB,<-hb];clear zB hb;go_wp2_with fail;refine(gV.out _).mono ?_;rintro e w1 ⟨rfl,rfl⟩;obtain⟨W1,tT⟩:∃W,W=W0.alloc (.cells #[.int .i64 (N:Int),.slice none 0 0,.slice none 0 0] 26):=⟨_,rfl⟩;obtain⟨mb,dY⟩:∃z,z=W0.heap.size:=⟨_,rfl⟩
 have gW:=Qq (show Fb W0 W1 mb (mb+1) (N:Int) (.slice none 0 0) ((List.range 0).map fun i=>Vr N K i) (.slice none 0 0) []from Fb.start (by rw [tT];exact Qz.alloc _) (by omega) (Nat.lt_succ_self _) (by rw [tT,World.size_alloc,dY];exact Nat.le_refl _) (by rw [tT,dY];exact heap_alloc_new _ _));have GW:=Qq dY;go_upto_region 9 with(fail);rw [<-tT,<-dY];clear tT dY yD qL mK k1 k2 h1 h2 rJ rS;have fC:=Qq (show((K:Nat):Int)=((K / 2^(N*0):Nat):Int) by rw [Nat.mul_zero,Nat.pow_zero,Nat.div_one]);go_wp2_with fail;go_loopw [12,13] (fun vr vi wr=>∃j r:Nat,vi=.int .i64 (j:Int)/\j<=V/\vr=.int .i64 (r:Int)/\Hid (r=K / 2^(N*j)/\∃vx,Fb W0 wr mb (mb+1) (N:Int) vx ((List.range j).map fun i=>Vr N K i) (.slice none 0 0) [])) (fun _ vi _=>V - (intOf vi).toNat)
 case atStart=>exact⟨0,K,rfl,Nat.zero_le _,rfl,Qq ⟨by rw [Nat.mul_zero,Nat.pow_zero,Nat.div_one],_,gW.out⟩⟩
 case round =>
  clear gW fC;obtain⟨j,r,rfl,hj,rfl,zY⟩:=hrel;obtain⟨hr,vx,sJ⟩:=zY.out;have HI:=Qq sJ;have HR:=Qq hr;clear zY hr;by_cases hlt2:j < V
  ·have yT:(j:Int) < (V:Int):=by omega
   have VI:=fF.out (.inl (by omega));have vA:r < 4096:=by rw [HR.out];exact Z9.out j
   have hwn:IntKind.u64.wrap (N:Int)=(N:Int):=by rw [IntKind.wrap_u64];omega
   have YE:min N 64=N:=by omega
   have zE:=Qq (show(List.range (j+1)).map (fun i=>Vr N K i)=(List.range j).map (fun i=>Vr N K i)++ [r % 2^N]from by rw [List.range_succ,List.map_append,HR.out,QT.out];rfl);have vB:=Qq (show r / 2^N=K / 2^(N*(j+1)) by rw [HR.out,Qyz]);obtain⟨PN,VH⟩:∃z,z=2^N:=⟨_,rfl⟩;rw [<-VH]at zE vB;have fD:=Qq VH;clear VH;obtain⟨d,hd⟩:∃z,z=r % PN:=⟨_,rfl⟩;obtain⟨q,lY⟩:∃z,z=r / PN:=⟨_,rfl⟩;have kX:=Qs4 r PN;rw [<-hd]at kX zE;rw [<-lY]at vB;have hd4:d < 4096:=by rw [hd];exact Nat.lt_of_le_of_lt (Nat.mod_le _ _) vA
   have hdw:IntKind.u64.wrap (d:Int)=(d:Int):=by rw [IntKind.wrap_u64];omega
   have KR:=Qq lY;clear hd lY;obtain⟨vs,dB⟩:∃z,z=(List.range j).map (fun i=>Vr N K i):=⟨_,rfl⟩;have qG:vs.length<=8:=by rw [dB,List.length_map,List.length_range];omega
   rw [<-dB]at HI zE;obtain⟨Ax,cx,rfl⟩:=Qs HI.out.val;obtain⟨⟨m0,m1,m2⟩,⟨mf0,mf1,mf2⟩,ml⟩:=HI.out.cells;have xS:vs.length+1<=maxLen:=by unfold maxLen;omega
   have xR:(vs.length+1)*8<=140737488355328:=by omega
   have hpn:0 < PN:=by rw [fD.out];exact Nat.two_pow_pos N
   have mL:((PN:Int)==0)=false:=by rw [beq_eq_false_iff_ne];omega
   have CE:¬PN=0:=by omega
   have hp:IntKind.i64.wrap ((2:Int)^N)=(PN:Int):=by rw [fD.out];exact Mw VI
   have NS:(r:Int) / 2^N=(q:Int):=by rw [KR.out,fD.out];exact Dq _ _
   clear sJ dB m0 m2 mf0 mf2;go_upto_region 13 with(fail);refine Yp 11 (fun w'=>w'.cell? (⟨mb,1,none⟩)=some (.slice Ax vs.length cx)) (by kernel_rfl) (xd ml m1) (fun zZ=> ?_);refine Zz 0 zZ ?_;refine Zz 1 zZ ?_;refine Zz 2 zZ ?_;refine Zz 3 zZ ?_;refine Zz 4 zZ ?_;refine Zz 5 zZ ?_;refine Zz 6 zZ ?_;refine Zz 7 zZ ?_;refine Qo (rs:= [8]) (by kernel_rfl) (by simp) ?_;refine Zj.cons rfl (fun K hK=> ?_) Zj.nil;go_simp;refine hK.out _ _ (xd ml m1) (fun zZ=> ?_);clear hK K;refine Qb ?_;refine Qo (rs:= [9]) (by kernel_rfl) (by simp) ?_
   refine Zj.cons rfl (fun K hK=> ?_) Zj.nil;refine Ga rfl (.tmp 66) (.tmp 73) 23 rfl (mb+1) 41 iU (.int .u64 0) 1 8 Tryz.underlying23 sR xG xF xE rfl (by decide) (.slice Ax vs.length cx) vs.length (uV vs) (by simp [Act.eval]) (Zk HI.out.val xv) ⟨wr.heap.size,0,none⟩ 1 1 [.int .u64 (d:Int)] (by simp [Act.eval]) rfl (by exact Zt _ _ _ (by simp)) (fun u hu=>by rw [List.mem_singleton.1 hu];rfl) xS xR (Qx (show mb+1<=wr.heap.size from ml) (Qg.size (a:=wr) xv)) ?_;intro v7 w7 zW zX zH;have qZ:=Qq (HI.out.pushVal (show Qg wr _ from xv) zW zX);have fX:=Qq ((zX.block mb (Qy ml (Qg.size (a:=wr) xv)) (fun e=>absurd (World.ownsRow.lt HI.out.val mb e.symm).1 (by omega))).trans ((Qg.block (a:=wr) (k:=mb) xv ml).trans HI.out.cell))
   obtain⟨⟨_,p1,_⟩,⟨_,pf1,_⟩,pl⟩:=Zp fX.out;obtain⟨A7,c7,qA⟩:=Qs zW;subst qA;clear zW zX zH;refine hK.out _ _ p1 (fun zZ=> ?_);clear hK K;refine Qb ?_;refine Zz 10 zZ ?_;refine Yi (by kernel_rfl) rfl (fun K hK=> ?_);go_simp;refine hK.out _ _ ?_;clear hK K;refine Qb ?_;refine Yo (by kernel_rfl) ?_ _;go_wp2_with fail;clear hp NS kX;go_roundw
   case rel=>exact⟨j+1,q,by go_num,by omega,rfl,Qq ⟨vB.out,_,by rw [zE.out];exact qZ.out⟩⟩
   case measure=>simp [intOf];omega
  obtain rfl:V=j:=by omega
  obtain⟨vals,tY⟩:∃z,z=(List.range V).map (fun i=>Vr N K i):=⟨_,rfl⟩;have mW:=Qq tY;rw [<-tY]at HI;clear sJ tY;go_wp2_with fail;go_loopw [12,14] (fun vr vi wr=>∃i r:Nat,vi=.int .i64 (i:Int)/\i<=A/\vr=.int .i64 (r:Int)/\Hid (r=K / 2^(N*(V+N*i))/\∃vy,Fb W0 wr mb (mb+1) (N:Int) vx vals vy ((List.range i).map fun i=>(List.range N).map fun u=>Vr N K (V+(N*i+u))))) (fun _ vi _=>A - (intOf vi).toNat)
  case atStart=>exact⟨0,r,rfl,Nat.zero_le _,rfl,Qq ⟨by rw [Nat.mul_zero,Nat.add_zero];exact HR.out,_,HI.out⟩⟩
  case round =>
   clear HI HR;obtain⟨i,r,rfl,hi,rfl,zY⟩:=hrel;obtain⟨hr,vy,sJ⟩:=zY.out;have HI:=Qq sJ;have HR:=Qq hr;clear zY hr;by_cases hlt2:i < A
   ·have yT:(i:Int) < (A:Int):=by omega
    have VI:=fF.out (.inr (by omega));obtain⟨rows,wS⟩:∃z,z=(List.range i).map (fun i=>(List.range N).map fun u=>Vr N K (V+(N*i+u))):=⟨_,rfl⟩;have zE:=Qq (show(List.range (i+1)).map (fun i=>(List.range N).map fun u=>Vr N K (V+(N*i+u)))=rows++ [(List.range N).map fun u=>Vr N K (V+(N*i+u))]from by rw [wS,List.range_succ,List.map_append];rfl);have rP:rows.length<=4:=by rw [wS,List.length_map,List.length_range];omega
    rw [<-wS]at HI;obtain⟨wa,vJ⟩:∃v,v=wr:=⟨_,rfl⟩;subst vJ;clear sJ wS;go_wp2_with fail;go_loopw [12,15,16] (fun vr v vi wr=>∃u r:Nat,vi=.int .i64 (u:Int)/\u<=N/\vr=.int .i64 (r:Int)/\Hid (r=K / 2^(N*(V+(N*i+u)))/\Qg wa wr/\Zv wa.heap.size wr v ((List.range u).map fun u=>Vr N K (V+(N*i+u))))) (fun _ _ vi _=>N - (intOf vi).toNat)
    case atStart=>exact⟨0,r,rfl,Nat.zero_le _,rfl,Qq ⟨by rw [Nat.add_zero];exact HR.out,Qz,Zv.nil _ _⟩⟩
    case round =>
     clear HR;obtain⟨u,r,rfl,hu,rfl,zY⟩:=hrel;have HR:=Qq zY.out.1;have uH:=Qq zY.out.2.1;have uW:=Qq zY.out.2.2;clear zY;by_cases yQ:u < N
     ·have wW:(u:Int) < (N:Int):=by omega
      have vA:r < 4096:=by rw [HR.out];exact Z9.out _
      have hwn:IntKind.u64.wrap (N:Int)=(N:Int):=by rw [IntKind.wrap_u64];omega
      have YE:min N 64=N:=by omega
      have rM:=Qq (show(List.range (u+1)).map (fun u=>Vr N K (V+(N*i+u)))=(List.range u).map (fun u=>Vr N K (V+(N*i+u)))++ [r % 2^N]from by rw [List.range_succ,List.map_append,HR.out,QT.out];rfl);have vB:=Qq (show r / 2^N=K / 2^(N*(V+(N*i+(u+1)))) by rw [HR.out,Qyz,Nat.add_assoc,Nat.add_assoc]);obtain⟨PN,VH⟩:∃z,z=2^N:=⟨_,rfl⟩;rw [<-VH]at rM vB;have fD:=Qq VH;clear VH;obtain⟨d,hd⟩:∃z,z=r % PN:=⟨_,rfl⟩;obtain⟨q,lY⟩:∃z,z=r / PN:=⟨_,rfl⟩;have kX:=Qs4 r PN;rw [<-hd]at kX rM;rw [<-lY]at vB;have hd4:d < 4096:=by rw [hd];exact Nat.lt_of_le_of_lt (Nat.mod_le _ _) vA
      have hdw:IntKind.u64.wrap (d:Int)=(d:Int):=by rw [IntKind.wrap_u64];omega
      have KR:=Qq lY;clear hd lY;obtain⟨out,yH⟩:∃z,z=(List.range u).map (fun u=>Vr N K (V+(N*i+u))):=⟨_,rfl⟩;have tJ:out.length<=64:=by rw [yH,List.length_map,List.length_range];omega
      rw [<-yH]at uW rM;have xS:out.length+1<=maxLen:=by unfold maxLen;omega
      have xR:(out.length+1)*8<=140737488355328:=by omega
      obtain⟨A1,c1,rfl⟩:=Qs uW.out;have hpn:0 < PN:=by rw [fD.out];exact Nat.two_pow_pos N
      have mL:((PN:Int)==0)=false:=by rw [beq_eq_false_iff_ne];omega
      have CE:¬PN=0:=by omega
      have hp:IntKind.i64.wrap ((2:Int)^N)=(PN:Int):=by rw [fD.out];exact Mw VI
      have NS:(r:Int) / 2^N=(q:Int):=by rw [KR.out,fD.out];exact Dq _ _
      clear yH;go_wp2_with(at_builtin;refine wpList_append_own_at _ rfl _ _ 23 rfl wa.heap.size 41 iU (.int .u64 0) 1 8 Tryz.underlying23 sR xG xF xE rfl (by decide) _ out.length (uV out) rfl (Zk uW.out (Qz.alloc _)) ⟨_,0,none⟩ 1 1 [.int .u64 (d:Int)] rfl rfl (Zt _ _ _ (by simp)) (fun u hu=>by rw [List.mem_singleton.1 hu];rfl) xS xR (Qx uH.out.size (by simp)) ?_);intro v7 w7 zW zX _ _;have qY:=Qq (show Qg wa w7 from(uH.out.alloc _).grown zX (fun k hk=>(World.ownsRow.lt uW.out k hk).1));have pA:=Qq (Zv.snoc zW);obtain⟨A7,c7,rfl⟩:=Qs zW;clear zW zX
      go_wp2_with fail;clear hp NS kX;go_roundw
      case rel=>exact⟨u+1,q,by go_num,by omega,rfl,Qq ⟨vB.out,qY.out,by rw [rM.out];exact pA.out⟩⟩
      case measure=>simp [intOf];omega
     obtain rfl:N=u:=by omega
     have vB:=Qq (show r=K / 2^(N*(V+N*(i+1))) by rw [HR.out,Nat.mul_succ]);obtain⟨rw1,oE⟩:∃z,z=(List.range N).map (fun u=>Vr N K (V+(N*i+u))):=⟨_,rfl⟩;have P2:rw1.length<=64:=by rw [oE,List.length_map,List.length_range];omega
     rw [<-oE]at uW zE;have nV:=Qq (HI.out.next uH.out);obtain⟨us,tQ,zR,wX⟩:=nV.out.rel;have eT:=Qq (show ∀g,vy.ownBlock=some g->g < wa.heap.size from fun g hg=>by obtain⟨us2,_,xW,_⟩:=HI.out.rel;exact(xW.lt g hg).2);have mE:=Qq tQ;have yS:=Qq zR;have jZ:=Qq wX;have TA:us.length<=4:=by rw [tQ];exact rP
     obtain⟨⟨m0,m1,m2⟩,⟨mf0,mf1,mf2⟩,ml⟩:=nV.out.cells;obtain⟨Av2,cv2,rfl⟩:=Qs zR;obtain⟨A1,c1,rfl⟩:=Qs uW.out;have xS:us.length+1<=maxLen:=by unfold maxLen;omega
     have xR:(us.length+1)*24<=140737488355328:=by omega
     clear tQ zR wX m0 m1 oE rP;obtain⟨wo,cZ⟩:∃v,v=wr:=⟨_,rfl⟩;subst cZ;go_wp2_with(at_builtin;refine wpList_append_own_at _ rfl _ _ 24 rfl (mb+1) 23 iS (.slice none 0 0) 1 24 Tryz.underlying24 UH kI kH kG rfl (by decide) _ us.length us rfl (Zk yS.out (Qz.alloc _)) ⟨_,0,none⟩ 1 1 [.slice A1 rw1.length c1] rfl rfl (Zt _ _ _ (by simp)) (fun u hu=>by rw [List.mem_singleton.1 hu];rfl) xS xR (Qx (show mb+1<=wo.heap.size from ml) (by simp)) ?_);intro v7 w7 zW zX sQ zH;have qZ:=Qq (nV.out.pushRow mE.out yS.out jZ.out (Qz.alloc _) (uW.out.low (Nat.succ_le_of_lt HI.out.mlt)) (fun g hg hv=>absurd (eT.out g hv) (by have:=(World.ownsRow.lt uW.out g hg).1;omega)) zW zX (zH.imp_right fun h=>by rw [h];simp))
     obtain⟨⟨p0,p1,p2⟩,⟨pf0,pf1,pf2⟩,pl⟩:=Zp ((zX.block mb (Qy ml ((Qg.refl wo).alloc (.cells #[.slice A1 rw1.length c1] 23)).size) (fun e=>absurd (World.ownsRow.lt yS.out mb e.symm).1 (by omega))).trans ((((Qg.refl wo).alloc (.cells #[.slice A1 rw1.length c1] 23)).block ml).trans nV.out.cell));obtain⟨A7,c7,rfl⟩:=Qs zW;clear zW zX sQ zH m2 mf0 mf1 mf2 p0 p1 pf0 pf1;go_wp2_with fail;go_roundw
     case rel=>exact⟨i+1,r,by go_num,by omega,rfl,Qq ⟨vB.out,_,by rw [zE.out];exact qZ.out⟩⟩
     case measure=>simp [intOf];omega
   obtain rfl:A=i:=by omega
   obtain⟨us,-,zR,-⟩:=HI.out.rel;obtain⟨Az,cz,rfl⟩:=Qs HI.out.val;obtain⟨Ay,cy,rfl⟩:=Qs zR;clear zR;obtain⟨⟨m0,m1,m2⟩,⟨mf0,mf1,mf2⟩,ml⟩:=HI.out.cells;have vI:=Qq ((sJ.ext.block (Qn B0.out)).trans B0.out);obtain⟨⟨q0,q1,q2⟩,⟨f0,f1,f2⟩,ql⟩:=Zp vI.out;have mZ:=Qq (show b < mb by rw [GW.out,wO.out];omega);have HX:=Qq (X0.out.trans sJ.ext);have fR:=Qq (show Uy N A V K=⟨(N:Int),vals,(List.range A).map fun i=>(List.range N).map fun u=>Vr N K (V+(N*i+u))⟩ by rw [mW.out];rfl);clear sJ;go_wp2_with fail
   (try simp only [Exit.inBlock,Exit.then])
   refine bodyPost_ret (Vw Tryz.results35 _ _ rfl (Jv (Vq vI.out _ _ _)) Tryz.underlying26 rfl (by kernel_rfl)) rfl ?_;refine⟨_,rfl,Yl HX.out xY.out _ _ _,fun W hW=> ?_⟩;rw [fR.out];have h1:=xY.out;have h2:=mZ.out;exact HI.out.mdv ⟨Qx (by simp [World.setCell]) hW.1,fun q hk hl=>(hW.2 q (by omega) (by simpa [World.setCell]using hl)).trans (Xn (fun e=>hk (by rw [e];omega)) _ _ _)⟩
end Go.Proofs.YtkmclcmnoicagaaGreatDoor
