/- relation.Has: what it says of the properties 1, 2, 4, 5; frames.In. -/
import Derived.Test.YtkmclcmnoicagaaGreatDoorK16
namespace Go.Proofs.YtkmclcmnoicagaaGreatDoor
set_option maxRecDepth 100000
set_option maxHeartbeats 128000000
open Go.RowKit
theorem Qae:Wq:=by
 intro v l q w hT h hw zT _ hq;rcases hq with rfl|rfl|rfl|rfl
 ·exact Qap v l w h hw zT
 ·exact Qac v l w h hw zT
 ·exact Qah v l w hT h hw zT
 exact Qaa v l w hT h hw zT
theorem Qia(vm:Value)(md:Md)(lg:Int)(w:World)(hT:Ky w)(hm:MdV w vm md)(zO:md.ok)(zT:Zq md=0)(xY:0<=lg/\lg<=6):
 Calls Tryz.prog 39 #[vm,.int .i64 lg] w fun e w'=>e=.returned (.bool (inB md lg))/\Ext w w':=Zz9 Qae vm md lg w hT hm zO zT xY
theorem Qcs(vm:Value)(md:Md)(lg:Int)(w:World)(hm:MdV w vm md)(xY:¬(0<=lg/\lg<=6)):
 Calls Tryz.prog 39 #[vm,.int .i64 lg] w fun e w'=>e=.returned (.bool false)/\Ext w w':=by
 have HP:=Qq (show p15 lg=1 from if_neg xY);obtain⟨vv,vr,rfl,hv,hr⟩:=hm;clear xY hv hr;go_enter Tryz.func39,Tryz.ntmps39;go_wp2_with(go_at_call 98;refine(Pn lg _).mono ?_;rintro e w1 ⟨vp,rfl,zN,XG⟩;rw [HP.out];have zL:=Qq ((((Ext.refl w).alloc _).alloc _).trans zN);clear zN XG);go_ret;exact⟨rfl,zL.out⟩
noncomputable def Qjj (md:Md) (lg:Int):Bool:=decide (0<=lg/\lg<=6)&&inB md lg
theorem Qps(vm:Value)(md:Md)(lg:Int)(w:World)(hT:Ky w)(hm:MdV w vm md)(zO:md.ok)(zT:Zq md=0):
 Calls Tryz.prog 39 #[vm,.int .i64 lg] w fun e w'=>e=.returned (.bool (Qjj md lg))/\Ext w w':=by
 unfold Qjj;by_cases h:0<=lg/\lg<=6
 ·rw [decide_eq_true h,Bool.true_and];exact Qia vm md lg w hT hm zO zT h
 rw [decide_eq_false h,Bool.false_and];exact Qcs vm md lg w hm h
theorem Qto {md:Md} {lg:Int}(zT:Zq md=0)(h:Qjj md lg=true):Fd md lg:=by
 unfold Qjj at h;rw [Bool.and_eq_true]at h;exact Qai zT (of_decide_eq_true h.1) h.2
theorem Qie(vm:Value)(md:Md)(lg:Int)(w:World)(hm:MdV w vm md)(zO:md.ok)(xY:0<=lg/\lg<=6)(zT:Zq md≠0):
 Calls Tryz.prog 39 #[vm,.int .i64 lg] w fun e w'=>e=.returned (.bool false)/\Ext w w':=by
 have HM:=Qq hm;have zD:=Qq zO;have HP:=Qq (show p15 lg=0 from if_pos xY);obtain⟨ck,wN⟩:∃z,z=Zq md:=⟨_,rfl⟩;have N7:=Qq wN;have D6:(ck==0)=false:=by rw [beq_eq_false_iff_ne,wN];exact zT
 obtain⟨vv,vr,rfl,hv,hr⟩:=hm;clear zO xY zT hv hr wN;go_enter Tryz.func39,Tryz.ntmps39;go_wp2_with(first|(go_at_call 98;refine(Pn lg _).mono ?_;rintro e w1 ⟨vp,rfl,zN,XG⟩;rw [HP.out];have zL:=Qq ((((Ext.refl w).alloc _).alloc _).trans zN);have pI:w1.cell? ⟨w.heap.size,0,none⟩=some (.int .i64 md.n):=(zN.cell (p:=⟨w.heap.size,0,none⟩) (by simp;omega)).trans (by simp);have uY:w1.cell? ⟨w.heap.size,1,none⟩=some vv:=(zN.cell (p:=⟨w.heap.size,1,none⟩) (by simp;omega)).trans (by simp);have xM:w1.cell? ⟨w.heap.size,2,none⟩=some vr:=(zN.cell (p:=⟨w.heap.size,2,none⟩) (by simp;omega)).trans (by simp);have yT:w.heap.size+1 < w1.heap.size:=Qy (by simp) zN.size;clear zN XG)|(go_at_call 93;refine(Xs _ md _ (HM.out.ext zL.out) zD.out).mono ?_;rintro e w2 ⟨rfl,zS⟩;rw [<-N7.out];have zR:=Qq (zL.out.trans zS);clear zS))
 go_ret;exact⟨rfl,zR.out⟩
noncomputable def inG (md:Md) (lg:Int):Bool:=decide (Zq md=0)&&Qjj md lg
theorem Qo9(vm:Value)(md:Md)(lg:Int)(w:World)(hT:Ky w)(hm:MdV w vm md)(zO:md.ok):
 Calls Tryz.prog 39 #[vm,.int .i64 lg] w fun e w'=>e=.returned (.bool (inG md lg))/\Ext w w':=by
 unfold inG;by_cases hc:Zq md=0
 ·rw [decide_eq_true hc,Bool.true_and];exact Qps vm md lg w hT hm zO hc
 rw [decide_eq_false hc,Bool.false_and];by_cases h:0<=lg/\lg<=6
 ·exact Qie vm md lg w hm zO h hc
 exact Qcs vm md lg w hm h
theorem Qa0 {md:Md} {lg:Int}(h:inG md lg=true):Zq md=0/\Fd md lg:=by
 unfold inG at h;rw [Bool.and_eq_true]at h;have hc:=of_decide_eq_true h.1;exact⟨hc,Qto hc h.2⟩
theorem Ps(n:Nat)(h:n<=64)(w:World):Calls Tryz.prog 22 #[.int .i64 (n:Int)] w fun e w'=>e=.returned (.int .u64 ((Zs n:Nat):Int))/\w=w':=by
 by_cases uP:n=64
 ·subst uP;go_enter Tryz.func22,Tryz.ntmps22;go_wp2_with fail;go_ret;exact⟨rfl,rfl⟩
 have hn:n < 64:=by omega
 have vR:(n:Int) < 64:=by omega
 have wD:min n 64=n:=by omega
 have HW:=Qq (Sp hn);clear uP h;go_enter Tryz.func22,Tryz.ntmps22;go_wp2_with fail;go_ret;exact⟨by rw [<-show((2^n - 1:Nat):Int)=((Zs n:Nat):Int)from rfl,<-HW.out] <;> rfl,rfl⟩
theorem Qky(v:Value)(l:List Nat)(n:Nat)(w:World)(h:Jb w v l)(hw:∀s∈l,Qp s)(hn:n<=64):
 Calls Tryz.prog 107 #[v,.int .i64 (n:Int)] w fun e w'=>e=.returned (.bool (Zb l n))/\Ext w w':=by
 obtain⟨A,c,rfl,JZ,xI,HL⟩:=Vp h;have sM:=Qq hw;unfold maxLen at xI;clear h hw;go_enter Tryz.func107,Tryz.ntmps107;go_wp2_with fail;go_loopw [5] (fun v wr=>∃k:Nat,v=.int .i64 (k:Int)/\k<=l.length/\Hid (Ext w wr/\∀j,j < k->decide (l.getD j 0 < 2^n)=true)) (fun v _=>l.length - (intOf v).toNat)
 case atStart=>exact⟨0,rfl,Nat.zero_le _,Qq ⟨Qz,fun j hj=>absurd hj (by omega)⟩⟩
 case round =>
  obtain⟨k,rfl,hk,zY⟩:=hrel;have HX:=Qq zY.out.1;have HJ:=Qq zY.out.2;clear zY;by_cases hlt2:k < l.length
  ·have yP:(k:Int) < (l.length:Int):=by omega
   obtain⟨ad,rfl,zU,hc⟩:=HL.out k (by omega);have a0:=(HX.out.cell (p:=ad.add k) (Qj zU)).trans hc;have al:(ad.add k).block < wr.heap.size:=by rw [Qr];exact Qy zU HX.out.size
   have zA:=Qq (show decide (l.getD k 0 < 2^n)=true->∀j,j < k+1->decide (l.getD j 0 < 2^n)=true from fun h=>Dg (P:=fun j=>decide (l.getD j 0 < 2^n)=true) HJ.out h);have tM:=Qq (show decide (l.getD k 0 < 2^n)=false->Zb l n=true from We (by omega));have yC:=Qjd (n:=n) (Yr sM.out k) hn;obtain⟨sx,tD⟩:∃s,s=l.getD k 0:=⟨_,rfl⟩;rw [<-tD]at a0 yC zA tM;clear hc tD;go_upto_region 4 with(fail);cases hd:decide (sx < 2^n)
   ·rw [hd]at yC;have HD:=Qq hd;clear hd;refine wp_region_held_drew (S:=fun w'=>w'.cell? (ad.add k)=some (.int .u64 (sx:Int))) (by kernel_rfl) (xc al a0) (fun zZ=> ?_);refine tk 0 zZ ?_;refine tk 1 zZ ?_;refine tk 2 zZ ?_;refine tk 3 zZ ?_;refine tk 4 zZ ?_;refine wpAnyH_ready (rs:= [5]) (by kernel_rfl) (by simp) ?_;refine AllReadyH.cons rfl (fun K hK=> ?_) AllReadyH.nil;go_simp;refine(Ps n hn _).mono ?_;rintro e w3 ⟨rfl,rfl⟩;go_wp2_with fail;refine hK.out _ _ (xc al a0) (fun zZ=> ?_);clear hK K;refine Qd ?_;refine tk 6 zZ ?_;refine tk 7 zZ ?_;refine wpAnyH_done (by kernel_rfl) ?_ _
    have HE:=Qq (tM.out HD.out);go_wp2_with fail;go_ret;exact⟨by rw [HE.out] <;> rfl,HX.out.trans Qz.drew⟩
   rw [hd]at yC;have HD:=Qq hd;clear hd;refine wp_region_held_drew (S:=fun w'=>w'.cell? (ad.add k)=some (.int .u64 (sx:Int))) (by kernel_rfl) (xc al a0) (fun zZ=> ?_);refine tk 0 zZ ?_;refine tk 1 zZ ?_;refine tk 2 zZ ?_;refine tk 3 zZ ?_;refine tk 4 zZ ?_;refine wpAnyH_ready (rs:= [5]) (by kernel_rfl) (by simp) ?_;refine AllReadyH.cons rfl (fun K hK=> ?_) AllReadyH.nil;go_simp;refine(Ps n hn _).mono ?_;rintro e w3 ⟨rfl,rfl⟩;go_wp2_with fail;refine hK.out _ _ (xc al a0) (fun zZ=> ?_);clear hK K;refine Qd ?_;refine tk 6 zZ ?_;refine tk 7 zZ ?_;refine wpAnyH_done (by kernel_rfl) ?_ _
   have HP:=Qq (zA.out HD.out);go_wp2_with fail;go_roundw
   case rel=>exact⟨k+1,by go_num,by omega,Qq ⟨HX.out.trans Qz.drew,HP.out⟩⟩
   case measure=>simp [intOf];omega
  obtain rfl:l.length=k:=by omega
  have HE:=Qq (Es HJ.out);go_wp2_with fail;go_ret;exact⟨by rw [HE.out] <;> rfl,HX.out⟩
theorem Qk5(n:Nat)(h:n<=64)(w:World):Calls Tryz.prog 202 #[.int .i64 (n:Int)] w fun e w'=>e=.returned (.int .u64 ((Zs n:Nat):Int))/\w=w':=by
 by_cases uP:n=64
 ·subst uP;go_enter Tryz.func202,Tryz.ntmps202;go_wp2_with fail;go_ret;exact⟨rfl,rfl⟩
 have hn:n < 64:=by omega
 have vR:(n:Int) < 64:=by omega
 have wD:min n 64=n:=by omega
 have HW:=Qq (Sp hn);clear uP h;go_enter Tryz.func202,Tryz.ntmps202;go_wp2_with fail;go_ret;exact⟨by rw [<-show((2^n - 1:Nat):Int)=((Zs n:Nat):Int)from rfl,<-HW.out] <;> rfl,rfl⟩
theorem Qlr(s i:Nat)(w:World)(hi:i < 64):Calls Tryz.prog 152 #[.int .u64 (s:Int),.int .i64 (i:Int)] w fun e w'=>e=.returned (.bool (s.testBit i))/\w=w':=by
 have hm:min i 64=i:=by omega
 have iJ:(i:Int) < 64:=by omega
 have HB:=Qq (Dn s i);go_enter Tryz.func152,Tryz.ntmps152;go_wp2_with fail;go_ret;exact⟨by rw [<-HB.out] <;> rfl,rfl⟩
theorem Qc3(s i:Nat)(w:World)(hi:i < 64)(hs:Qp s):Calls Tryz.prog 219 #[.int .u64 (s:Int),.int .i64 (i:Int)] w fun e w'=>e=.returned (.bool (s.testBit i))/\w=w':=by
 have hm:min i 64=i:=by omega
 have iJ:(i:Int) < 64:=by omega
 have HB:=Qq (Bz s i hs);clear hs;go_enter Tryz.func219,Tryz.ntmps219;go_wp2_with fail;go_ret;exact⟨by rw [<-HB.out] <;> rfl,rfl⟩
theorem Mq(v:Value)(l:List Nat)(w:World)(h:Jb w v l)(hw:∀s∈l,Qp s):
 Calls Tryz.prog 169 #[.int .i64 (l.length:Int),v] w fun e w'=>e=.returned (.int .i64 (Jw l.length l))/\Ext w w':=by
 obtain⟨A,c,rfl,JZ,xI,HL⟩:=Vp h;have sM:=Qq hw;unfold maxLen at xI;clear h hw;by_cases hn:l.length<=64
 ·have vR:¬(64:Int) < (l.length:Int):=by omega
  have HC:=Qq (show Jw l.length l=if Zb l l.length then 1 else 0 by unfold Jw;rw [if_neg (by omega),if_neg (by simp)];rfl);obtain⟨n,zQ⟩:∃n,n=l.length:=⟨_,rfl⟩;have HN:=Qq zQ;rw [<-zQ]at HC hn;rw [<-zQ];have aB:¬(64:Int) < (n:Int):=by omega
  have iF:((n:Int) !=(n:Int))=false:=by simp
  have zH:l.length=n:=zQ.symm;clear zQ vR;go_enter Tryz.func169,Tryz.ntmps169;go_wp2_with fail;go_loopw [5] (fun v wr=>∃k:Nat,v=.int .i64 (k:Int)/\k<=n/\Hid (Ext w wr/\∀j,j < k->decide (l.getD j 0 < 2^n)=true)) (fun v _=>n - (intOf v).toNat)
  case atStart=>exact⟨0,rfl,Nat.zero_le _,Qq ⟨Qz,fun j hj=>absurd hj (by omega)⟩⟩
  case round =>
   obtain⟨k,rfl,hk,zY⟩:=hrel;have HX:=Qq zY.out.1;have HJ:=Qq zY.out.2;clear zY;by_cases hlt2:k < n
   ·have yP:(k:Int) < (n:Int):=by omega
    obtain⟨ad,rfl,zU,hc⟩:=HL.out k (by omega);have a0:=(HX.out.cell (p:=ad.add k) (Qj zU)).trans hc;have al:(ad.add k).block < wr.heap.size:=by rw [Qr];exact Qy zU HX.out.size
    have zA:=Qq (show decide (l.getD k 0 < 2^n)=true->∀j,j < k+1->decide (l.getD j 0 < 2^n)=true from fun h=>Dg (P:=fun j=>decide (l.getD j 0 < 2^n)=true) HJ.out h);have tM:=Qq (show decide (l.getD k 0 < 2^n)=false->Zb l n=true from We (by omega));have yC:=Qjd (n:=n) (Yr sM.out k) hn;obtain⟨sx,tD⟩:∃s,s=l.getD k 0:=⟨_,rfl⟩;rw [<-tD]at a0 yC zA tM;clear hc tD;go_upto_region 8 with(fail);cases hd:decide (sx < 2^n)
    ·rw [hd]at yC;have HD:=Qq hd;clear hd;refine wp_region_held_drew (S:=fun w'=>w'.cell? (ad.add k)=some (.int .u64 (sx:Int))) (by kernel_rfl) (xc al a0) (fun zZ=> ?_);refine tk 0 zZ ?_;refine tk 1 zZ ?_;refine tk 2 zZ ?_;refine tk 3 zZ ?_;refine tk 4 zZ ?_;refine wpAnyH_ready (rs:= [5]) (by kernel_rfl) (by simp) ?_;refine AllReadyH.cons rfl (fun K hK=> ?_) AllReadyH.nil;go_simp;refine(Qk5 n hn _).mono ?_;rintro e w3 ⟨rfl,rfl⟩;go_wp2_with fail;refine hK.out _ _ (xc al a0) (fun zZ=> ?_);clear hK K;refine Qd ?_;refine tk 6 zZ ?_;refine tk 7 zZ ?_;refine wpAnyH_done (by kernel_rfl) ?_ _
     have HE:=Qq (tM.out HD.out);go_wp2_with fail;go_ret;exact⟨by rw [HC.out,HE.out] <;> rfl,HX.out.trans Qz.drew⟩
    rw [hd]at yC;have HD:=Qq hd;clear hd;refine wp_region_held_drew (S:=fun w'=>w'.cell? (ad.add k)=some (.int .u64 (sx:Int))) (by kernel_rfl) (xc al a0) (fun zZ=> ?_);refine tk 0 zZ ?_;refine tk 1 zZ ?_;refine tk 2 zZ ?_;refine tk 3 zZ ?_;refine tk 4 zZ ?_;refine wpAnyH_ready (rs:= [5]) (by kernel_rfl) (by simp) ?_;refine AllReadyH.cons rfl (fun K hK=> ?_) AllReadyH.nil;go_simp;refine(Qk5 n hn _).mono ?_;rintro e w3 ⟨rfl,rfl⟩;go_wp2_with fail;refine hK.out _ _ (xc al a0) (fun zZ=> ?_);clear hK K;refine Qd ?_;refine tk 6 zZ ?_;refine tk 7 zZ ?_;refine wpAnyH_done (by kernel_rfl) ?_ _
    have HP:=Qq (zA.out HD.out);go_wp2_with fail;go_roundw
    case rel=>exact⟨k+1,by go_num,by omega,Qq ⟨HX.out.trans Qz.drew,HP.out⟩⟩
    case measure=>simp [intOf];omega
   obtain rfl:n=k:=by omega
   have HE:=Qq (show Zb l n=false from Es (by rw [zH];exact HJ.out));go_wp2_with fail;go_ret;exact⟨by rw [HC.out,HE.out] <;> rfl,HX.out⟩
 have vR:(64:Int) < (l.length:Int):=by omega
 have HC:=Qq (show Jw l.length l=2 by unfold Jw;rw [if_pos (by omega)]);go_enter Tryz.func169,Tryz.ntmps169;go_wp2_with fail;go_ret;exact⟨by rw [HC.out] <;> rfl,Qz⟩
theorem Dw(v:Value)(l:List Nat)(w:World)(h:Jb w v l)(hw:∀s∈l,Qp s):
 Calls Tryz.prog 108 #[v] w fun e w'=>e=.returned (.bool (Xq l))/\Ext w w':=by
 have H:=Qq h;have HW:=Qq hw;obtain⟨A,c,rfl,_⟩:=h;clear hw;go_enter Tryz.func108,Tryz.ntmps108;go_wp2_with fail;refine(Mq _ l _ H.out HW.out).mono ?_;rintro e w2 ⟨rfl,hx⟩;have HX:=Qq hx;clear hx;go_wp2_with fail;go_ret;exact⟨rfl,HX.out⟩
theorem Qns(op:Int)(x y al:Nat)(w:World)(hx:Qp x)(hy:Qp y)(ha:Qp al):
 Calls Tryz.prog 212 #[.int .i64 op,.int .u64 (x:Int),.int .u64 (y:Int),.int .u64 (al:Int)] w fun e w'=>e=.returned (.int .u64 ((Gv op x y al:Nat):Int))/\w=w':=by
 have b1:=Vx (b:=x) ha hx;have b2:=Xz hx hy;have b3:=Xw hx hy;have b4:=Xw (Un (b:=x) ha) hy;have b5:=Qym hx hy;have b6:=Vx ha (Qv1 hx hy);by_cases h1:op=1
 ·subst h1;go_enter Tryz.func212,Tryz.ntmps212;go_wp2_with fail;go_ret;exact⟨rfl,rfl⟩
 by_cases h4:op=4
 ·subst h4;have HE:=Qq b1;clear b1 b2 b3 b4 b5 b6;go_enter Tryz.func212,Tryz.ntmps212;go_wp2_with fail;go_ret;exact⟨by rw [show Gv 4 x y al=Jv al x from rfl,<-HE.out] <;> rfl,rfl⟩
 by_cases h5:op=5
 ·subst h5;have HE:=Qq b2;clear b1 b2 b3 b4 b5 b6;go_enter Tryz.func212,Tryz.ntmps212;go_wp2_with fail;go_ret;exact⟨by rw [show Gv 5 x y al=x&&&y from rfl,<-HE.out] <;> rfl,rfl⟩
 by_cases h6:op=6
 ·subst h6;have HE:=Qq b3;clear b1 b2 b3 b4 b5 b6;go_enter Tryz.func212,Tryz.ntmps212;go_wp2_with fail;go_ret;exact⟨by rw [show Gv 6 x y al=x|||y from rfl,<-HE.out] <;> rfl,rfl⟩
 by_cases h7:op=7
 ·subst h7;have HE:=Qq b4;have JA:=Qq b1;clear b1 b2 b3 b4 b5 b6;go_enter Tryz.func212,Tryz.ntmps212;go_wp2_with fail;go_ret;exact⟨by rw [show Gv 7 x y al=Jv al x|||y from rfl,<-HE.out,<-JA.out] <;> rfl,rfl⟩
 by_cases h8:op=8
 ·subst h8;have HE:=Qq b6;have JA:=Qq b5;clear b1 b2 b3 b4 b5 b6;go_enter Tryz.func212,Tryz.ntmps212;go_wp2_with fail;go_ret;exact⟨by rw [show Gv 8 x y al=Jv al (x^^^y)from rfl,<-HE.out,<-JA.out] <;> rfl,rfl⟩
 have HE:=Qq (show Gv op x y al=0 by unfold Gv;rw [if_neg h1,if_neg h4,if_neg h5,if_neg h6,if_neg h7,if_neg h8]);have t1:(op==1)=false:=by simpa using h1
 have t4:(op==4)=false:=by simpa using h4
 have t5:(op==5)=false:=by simpa using h5
 have t6:(op==6)=false:=by simpa using h6
 have t7:(op==7)=false:=by simpa using h7
 have t8:(op==8)=false:=by simpa using h8
 clear b1 b2 b3 b4 b5 b6 h1 h4 h5 h6 h7 h8;go_enter Tryz.func212,Tryz.ntmps212;go_wp2_with fail;go_ret;exact⟨by rw [HE.out] <;> rfl,rfl⟩
theorem Qz1(v:Value)(r:List Nat)(n s:Nat)(w:World)(h:Jb w v r)(hw:∀s∈r,Qp s)(hn:n<=64)(hl:n<=r.length)(hs:Qp s):
 Calls Tryz.prog 213 #[v,.int .i64 (n:Int),.int .u64 (s:Int)] w fun e w'=>e=.returned (.int .u64 ((Vd r n s:Nat):Int))/\Ext w w':=by
 obtain⟨A,c,rfl,_,_,HL⟩:=Vp h;have sM:=Qq hw;have HS:=Qq hs;have JX:(n:Int)<=(r.length:Int):=by omega
 clear h hw hs;go_enter Tryz.func213,Tryz.ntmps213;go_wp2_with fail;go_loopw [7,8] (fun vo vi wr=>∃k:Nat,vi=.int .i64 (k:Int)/\k<=n/\vo=.int .u64 ((Vt k (fun i=>Js (r.getD i 0) s):Nat):Int)/\Hid (Ext w wr)) (fun _ v _=>n - (intOf v).toNat)
 case atStart=>exact⟨0,rfl,Nat.zero_le _,rfl,Qq Qz⟩
 case round =>
  obtain⟨k,rfl,hk,rfl,HX⟩:=hrel;obtain⟨m,hm⟩:∃m,m=Vt k (fun i=>Js (r.getD i 0) s):=⟨_,rfl⟩;have HM:=Qq hm;rw [<-hm];clear hm;by_cases hlt2:k < n
  ·have yP:(k:Int) < (n:Int):=by omega
   have wM:(k:Int) < (r.length:Int):=by omega
   have vF:k < 64:=by omega
   have wD:min k 64=k:=by omega
   obtain⟨ad,rfl,zU,hc⟩:=HL.out k (by omega);have a0:=(HX.out.cell (p:=ad.add k) (Qj zU)).trans hc;have al:(ad.add k).block < wr.heap.size:=by rw [Qr];exact Qy zU HX.out.size
   have hz:=Em (Yr sM.out k) HS.out;have iP:=Qq (Bl k (fun i=>Js (r.getD i 0) s));have bJ:=Qq (Wx (s:=m) (k:=k) (by rw [HM.out];exact Fp (by omega) _) vF);obtain⟨x,hx⟩:∃x,x=r.getD k 0:=⟨_,rfl⟩;rw [<-hx]at a0 hz;have oV:=Qq hx;clear hc hx;cases hd:Js x s
   ·rw [hd]at hz;have HP:=Qq (show Vt (k+1) (fun i=>Js (r.getD i 0) s)=m by rw [iP.out,<-oV.out,hd,HM.out];rfl);clear hd;go_wp2_with fail;go_roundw
    case rel=>exact⟨k+1,by go_num,by omega,by rw [HP.out],HX⟩
    case measure=>simp [intOf];omega
   rw [hd]at hz;have HP:=Qq (show Vt (k+1) (fun i=>Js (r.getD i 0) s)=m|||2^k by rw [iP.out,<-oV.out,hd,HM.out];rfl);have uL:=bJ.out;clear hd;obtain⟨m2,xM⟩:∃m2,m2=m|||2^k:=⟨_,rfl⟩;rw [<-xM]at HP uL;clear xM;go_wp2_with fail;go_roundw
   case rel=>exact⟨k+1,by go_num,by omega,by rw [HP.out],HX⟩
   case measure=>simp [intOf];omega
  obtain rfl:n=k:=by omega
  go_wp2_with fail;go_ret;exact⟨by rw [show Vd r n s=m from HM.out.symm] <;> rfl,HX.out⟩
theorem Qch(v:Value)(r:List Nat)(n a c:Nat)(w:World)(h:Jb w v r)(hw:∀s∈r,Qp s)(hn:n<=64)(hl:n<=r.length)(ha:a < n)(hc:Qp c):
 Calls Tryz.prog 223 #[v,.int .i64 (n:Int),.int .i64 (a:Int),.int .u64 (c:Int)] w fun e w'=>e=.returned (.int .u64 ((Fc r c n a:Nat):Int))/\Ext w w':=by
 obtain⟨A,cp,rfl,_,_,HL⟩:=Vp h;have sM:=Qq hw;have HC:=Qq hc;have JX:(n:Int)<=(r.length:Int):=by omega
 have ha1:(a:Int) < (r.length:Int):=by omega
 obtain⟨ad,rfl,zU,yS⟩:=HL.out a (by omega);have al0:(ad.add a).block < w.heap.size:=by rw [Qr];exact zU
 have xZ:=Xz (Yr hw a) hc;obtain⟨s0,rA⟩:∃s,s=r.getD a 0&&&c:=⟨_,rfl⟩;have iR:=Qq rA;have GE:=Qq (show Qp s0 by rw [rA];exact Nr (Yr hw a));rw [<-rA]at xZ;obtain⟨x,hx⟩:∃x,x=r.getD a 0:=⟨_,rfl⟩;rw [<-hx]at yS xZ;clear h hw hc rA hx;go_enter Tryz.func223,Tryz.ntmps223;go_wp2_with fail;clear yS xZ;go_loopw [9,10] (fun vs vi wr=>∃k:Nat,vi=.int .i64 (k:Int)/\k<=n/\∃s:Nat,vs=.int .u64 (s:Int)/\Hid (s=(List.range k).foldl (fun s _=>Uz r c n s) s0/\Ext w wr)) (fun _ v _=>n - (intOf v).toNat)
 case atStart=>exact⟨0,rfl,Nat.zero_le _,s0,rfl,Qq ⟨rfl,Qz⟩⟩
 case round =>
  obtain⟨k,rfl,hk,s,rfl,zY⟩:=hrel;have mA:=Qq zY.out.1;have HX:=Qq zY.out.2;have pM:=Qq (show Qp s by rw [mA.out];exact Ft (fun s _ hs=>Ft (fun _ _ h=>Qzt sM.out h) n s hs) k _ GE.out);clear zY;by_cases hlt2:k < n
  ·have yP:(k:Int) < (n:Int):=by omega
   go_wp2_with fail;go_loopw [9,11] (fun vs vi wr=>∃q:Nat,vi=.int .i64 (q:Int)/\q<=n/\∃s2:Nat,vs=.int .u64 (s2:Int)/\Hid (s2=(List.range q).foldl (Re r c) s/\Ext w wr)) (fun _ v _=>n - (intOf v).toNat)
   case atStart=>exact⟨0,rfl,Nat.zero_le _,s,rfl,Qq ⟨rfl,HX.out⟩⟩
   case round =>
    clear HX;obtain⟨q,rfl,hq,s2,rfl,zY⟩:=hrel;have oL:=Qq zY.out.1;have HX:=Qq zY.out.2;have GA:=Qq (show Qp s2 by rw [oL.out];exact Ft (fun _ _ h=>Qzt sM.out h) q _ pM.out);clear zY;by_cases yK:q < n
    ·have RN:(q:Int) < (n:Int):=by omega
     have TK:(q:Int) < (r.length:Int):=by omega
     have CK:q < 64:=by omega
     obtain⟨ad2,e2,fA,tO⟩:=HL.out q (by omega);injection e2 with e2;subst e2;have a0:=(HX.out.cell (p:=ad.add q) (Qj fA)).trans tO;have al:(ad.add q).block < wr.heap.size:=by rw [Qr];exact Qy fA HX.out.size
     have xZ:=Xz (Yr sM.out q) HC.out;have uL:=Xw GA.out (Nr (b:=c) (Yr sM.out q));have yX:=Qq (show(List.range (q+1)).foldl (Re r c) s=if s2.testBit q then s2|||(r.getD q 0&&&c)else s2 by rw [Ve,<-oL.out];rfl);obtain⟨y,hy⟩:∃y,y=r.getD q 0:=⟨_,rfl⟩;rw [<-hy]at a0 xZ uL yX;obtain⟨z,hz⟩:∃z,z=y&&&c:=⟨_,rfl⟩;rw [<-hz]at xZ uL yX;obtain⟨u,hu⟩:∃u,u=s2|||z:=⟨_,rfl⟩;rw [<-hu]at uL yX;clear tO fA hy hz hu;obtain⟨tb,yB⟩:∃t,t=s2.testBit q:=⟨_,rfl⟩;have cX:=Qq yB;rw [<-yB]at yX;clear yB;go_wp2_with fail;refine(Qlr s2 q _ CK).mono ?_;rintro e w4 ⟨rfl,rfl⟩
     rw [<-cX.out];cases tb
     ·go_wp2_with fail;go_roundw
      case rel=>exact⟨q+1,by go_num,by omega,s2,rfl,Qq ⟨by rw [yX.out];rfl,HX.out⟩⟩
      case measure=>simp [intOf];omega
     go_wp2_with fail;go_roundw
     case rel=>exact⟨q+1,by go_num,by omega,u,rfl,Qq ⟨by rw [yX.out];rfl,HX.out⟩⟩
     case measure=>simp [intOf];omega
    obtain rfl:n=q:=by omega
    have yX:=Qq (show(List.range (k+1)).foldl (fun s _=>Uz r c n s) s0=s2 by rw [Ve (f:=fun s _=>Uz r c n s),<-mA.out,oL.out];rfl);go_wp2_with fail;go_roundw
    case rel=>exact⟨k+1,by go_num,by omega,s2,rfl,Qq ⟨yX.out.symm,HX.out⟩⟩
    case measure=>simp [intOf];omega
  obtain rfl:n=k:=by omega
  have HE:=Qq (show Fc r c n a=s by rw [mA.out,iR.out];rfl);go_wp2_with fail;go_ret;exact⟨by rw [HE.out] <;> rfl,HX.out⟩
theorem Qbm(v:Value)(r:List Nat)(n c s:Nat)(w:World)(h:Jb w v r)(hw:∀s∈r,Qp s)(hn:n<=64)(hl:n<=r.length)(hc:Qp c)(hs:Qp s):
 Calls Tryz.prog 216 #[v,.int .i64 (n:Int),.int .u64 (c:Int),.int .u64 (s:Int)] w fun e w'=>e=.returned (.int .u64 ((Xx r n c s:Nat):Int))/\Ext w w':=by
 have H:=Qq h;have sM:=Qq hw;have HS:=Qq hs;have HC:=Qq hc;obtain⟨A,cp,rfl,_⟩:=h;clear hw hs hc;go_enter Tryz.func216,Tryz.ntmps216;go_wp2_with fail;go_loopw [9,10] (fun vo vi wr=>∃k:Nat,vi=.int .i64 (k:Int)/\k<=n/\vo=.int .u64 ((Vt k (fun i=>Js (Fc r c n i) s):Nat):Int)/\Hid (Ext w wr)) (fun _ v _=>n - (intOf v).toNat)
 case atStart=>exact⟨0,rfl,Nat.zero_le _,rfl,Qq Qz⟩
 case round =>
  obtain⟨k,rfl,hk,rfl,HX⟩:=hrel;obtain⟨m,hm⟩:∃m,m=Vt k (fun i=>Js (Fc r c n i) s):=⟨_,rfl⟩;have HM:=Qq hm;rw [<-hm];clear hm;by_cases hlt2:k < n
  ·have yP:(k:Int) < (n:Int):=by omega
   have vF:k < 64:=by omega
   have wD:min k 64=k:=by omega
   have hz:=Em (Qld sM.out c n k) HS.out;have iP:=Qq (Bl k (fun i=>Js (Fc r c n i) s));have bJ:=Qq (Wx (s:=m) (k:=k) (by rw [HM.out];exact Fp (by omega) _) vF);obtain⟨x,hx⟩:∃x,x=Fc r c n k:=⟨_,rfl⟩;rw [<-hx]at hz;have oV:=Qq hx;clear hx;go_wp2_with fail;refine(Qch _ r n k c _ (H.out.ext HX.out) sM.out hn hl hlt2 HC.out).mono ?_;rintro e w4 ⟨rfl,yD⟩;rw [<-oV.out];have yI:=Qq (HX.out.trans yD);clear yD;cases hd:Js x s
   ·rw [hd]at hz;have HP:=Qq (show Vt (k+1) (fun i=>Js (Fc r c n i) s)=m by rw [iP.out,<-oV.out,hd,HM.out];rfl);clear hd;go_wp2_with fail;go_roundw
    case rel=>exact⟨k+1,by go_num,by omega,by rw [HP.out],yI⟩
    case measure=>simp [intOf];omega
   rw [hd]at hz;have HP:=Qq (show Vt (k+1) (fun i=>Js (Fc r c n i) s)=m|||2^k by rw [iP.out,<-oV.out,hd,HM.out];rfl);have uL:=bJ.out;clear hd;obtain⟨m2,xM⟩:∃m2,m2=m|||2^k:=⟨_,rfl⟩;rw [<-xM]at HP uL;clear xM;go_wp2_with fail;go_roundw
   case rel=>exact⟨k+1,by go_num,by omega,by rw [HP.out],yI⟩
   case measure=>simp [intOf];omega
  obtain rfl:n=k:=by omega
  go_wp2_with fail;go_ret;exact⟨by rw [show Xx r n c s=m from HM.out.symm] <;> rfl,HX.out⟩
theorem Wc(g k:Nat):(⟨g,0,none⟩:Addr).add k=⟨g,k,none⟩:=by unfold Addr.add;cases k <;> simp
def uV(l:List Nat):List Value:=l.map fun(u:Nat)=>Value.int .u64 (u:Int)
theorem De:(Tryz.prog.info? 41).map (fun i=>(i.zero,i.size,i.bytes))=some (some (.int .u64 0),1,8):=by kernel_rfl
def Zx(base:Nat)(w:World)(v:Value)(l:List Nat):Prop:=w.ownsRow base 41 1 v l.length (uV l)
section
variable {base:Nat} {w w':World} {v:Value} {l:List Nat} {g n cap k:Nat}
theorem Zx.ext(h:Zx base w v l)(he:Ext w w'):Zx base w' v l:=Zf h he
theorem Zx.nil(base:Nat)(w:World):Zx base w (.slice none 0 0) []:=World.ownsRow_nil _ _ _ _
theorem Zx.slice(h:Zx base w v l)(h0:0 < l.length):∃g cap,v=.slice (some ⟨g,0,none⟩) l.length cap/\g < w.heap.size/\base<=g/\l.length<=cap/\cap<=maxLen/\(∀i,i < l.length->w.cell? ⟨g,i,none⟩=some (.int .u64 ((l.getD i 0:Nat):Int)))/\∀i,w.frozen? ⟨g,i,none⟩=false:=by
 rcases h.2 with⟨_,e0⟩|⟨g,cap,cur,rfl,hb,hg,iG,hm,hs,ht⟩
 ·omega
 refine⟨g,cap,rfl,Qf hg,hb,iG,hm,fun i hi=> ?_,fun i=>by simp [World.frozen?,hg]⟩;have h1:(uV l)[i]?=some (.int .u64 ((l.getD i 0:Nat):Int)):=by
  unfold uV;rw [List.getElem?_map,Qk,Qv hi];rfl
 rw [<-ht,List.getElem?_take]at h1
 split at h1
 ·have h2:cur[i]?=some (.int .u64 ((l.getD i 0:Nat):Int)):=by simpa using h1
  simp [World.cell?,hg,h2]
 cases h1
theorem Zx.at_(h:Zx base w (.slice (some ⟨g,0,none⟩) n cap) l)(h0:0 < l.length):n=l.length/\g < w.heap.size/\base<=g/\n<=cap/\cap<=maxLen/\(∀i,i < l.length->w.cell? ⟨g,i,none⟩=some (.int .u64 ((l.getD i 0:Nat):Int)))/\∀i,w.frozen? ⟨g,i,none⟩=false:=by
 obtain⟨g',cap',e,h1,h2,h3,h4,h5,h6⟩:=h.slice h0;injection e with e1 e2 e3;injection e1 with e1;injection e1 with e1;subst e1 e2 e3;exact⟨rfl,h1,h2,h3,h4,h5,h6⟩
theorem Zx.u64s(h:Zx base w v l):Jb w v l:=by
 rcases Nat.eq_zero_or_pos l.length with h0|h0
 ·have:l= []:=List.length_eq_zero_iff.1 h0;subst this;rcases h.2 with⟨e,_⟩|⟨g,cap,cur,rfl,hb,hg,iG,hm,hs,ht⟩
  ·subst e;exact Qvi w
  exact⟨_,cap,rfl,iG,hm,fun h=>absurd rfl h⟩
 obtain⟨g,cap,rfl,h1,_,h3,h4,h5,_⟩:=h.slice h0;refine⟨_,cap,rfl,h3,h4,fun _=>⟨_,rfl,h1,fun k z hk=> ?_⟩⟩;have sA:=(List.getElem?_eq_some_iff.1 hk).1;have:=h5 k sA;rw [Wc,this,Qk,hk];rfl
theorem Zx.set(h:Zx base w (.slice (some ⟨g,0,none⟩) n cap) l)(hn:l.length=n)(j s:Nat):Zx base (w.setCell ⟨g,j,none⟩ (.int .u64 (s:Int))) (.slice (some ⟨g,0,none⟩) n cap) (l.set j s):=by
 subst hn;have h1:=(World.ownsRow.stored h j (.int .u64 (s:Int))).1;unfold Zx uV;rw [List.length_set,List.map_set];exact h1
theorem Rk(w:World)(t:TypeId):(w.alloc (.cells #[] t)).ownsRow w.heap.size t 1 (.slice (some ⟨w.heap.size,0,none⟩) 0 0) 0 []:=
 ⟨rfl,.inr ⟨w.heap.size,0,#[],rfl,Nat.le_refl _,heap_alloc_new _ _,Nat.le_refl _,by unfold maxLen;omega,rfl,rfl⟩⟩
theorem Dy {ad:Addr}(h:∀i,i < l.length->w.cell? (ad.add i)=some (.int .u64 ((l.getD i 0:Nat):Int))):∀(j:Nat) u,(uV l)[j]?=some u->w.cell? (ad.add j)=some u:=fun j u hj=>by
 unfold uV at hj;rw [List.getElem?_map]at hj;cases e:l[j]? with
 |none=>rw [e]at hj;cases hj
 |some x =>
  rw [e]at hj;have hk:=(List.getElem?_eq_some_iff.1 e).1;rw [h j hk,Qk,e];exact hj
theorem Hy(l:List Nat):∀u∈uV l,u.oneCell'=true:=fun u hu=>by
 obtain⟨x,_,rfl⟩:=List.mem_map.1 hu;rfl
theorem Hj(l:List Nat):(uV l).length=l.length:=by simp [uV]
end
theorem Pt(va vb:Value)(a b:List Nat)(w:World)(ha:Jb w va a)(hb:Jb w vb b):
 Calls Tryz.prog 174 #[va,vb] w fun e w'=>e=.returned (.bool (decide (a=b)))/\Ext w w':=by
 obtain⟨Aa,ca,rfl,UW,UV,HA⟩:=Vp ha;unfold maxLen at UV;obtain⟨Ab,cb,rfl,_,_,HB⟩:=Vp hb;clear ha hb;by_cases hl:a.length=b.length
 ·have HL:=Qq hl;obtain⟨n,hn⟩:∃n,n=a.length:=⟨_,rfl⟩;have lD:=Qq hn;rw [<-hn]at hl HA UW⊢;rw [<-hl]at HB⊢;have uM:((n:Int) !=(n:Int))=false:=by simp
  clear hn hl;go_enter Tryz.func174,Tryz.ntmps174;go_wp2_with fail;go_loopw [5] (fun v wr=>∃k:Nat,v=.int .i64 (k:Int)/\k<=n/\Hid (Ext w wr/\∀j,j < k->a.getD j 0=b.getD j 0)) (fun v _=>n - (intOf v).toNat)
  case atStart=>exact⟨0,rfl,Nat.zero_le _,Qq ⟨Qz,fun j hj=>absurd hj (by omega)⟩⟩
  case round =>
   obtain⟨k,rfl,hk,zY⟩:=hrel;have HX:=Qq zY.out.1;have HJ:=Qq zY.out.2;clear zY;by_cases hlt2:k < n
   ·have yP:(k:Int) < (n:Int):=by omega
    obtain⟨ad,rfl,zU,hc⟩:=HA.out k hlt2;obtain⟨bd,rfl,mT,hd⟩:=HB.out k hlt2;have a0:=(HX.out.cell (p:=ad.add k) (Qj zU)).trans hc;have al:(ad.add k).block < wr.heap.size:=by rw [Qr];exact Qy zU HX.out.size
    have b0:=(HX.out.cell (p:=bd.add k) (Qj mT)).trans hd;have bl:(bd.add k).block < wr.heap.size:=by rw [Qr];exact Qy mT HX.out.size
    have zA:=Qq (show a.getD k 0=b.getD k 0->∀j,j < k+1->a.getD j 0=b.getD j 0 from fun h=>Dg (P:=fun j=>a.getD j 0=b.getD j 0) HJ.out h);have tM:=Qq (show a.getD k 0≠b.getD k 0->decide (a=b)=false from fun h=>decide_eq_false fun e=>h (by rw [e]));obtain⟨x,hx⟩:∃x,x=a.getD k 0:=⟨_,rfl⟩;obtain⟨y,hy⟩:∃y,y=b.getD k 0:=⟨_,rfl⟩;rw [<-hx]at a0 zA tM;rw [<-hy]at b0 zA tM;clear hc hd hx hy;go_upto_region 6 with(fail);by_cases hq:x=y
    ·have HP:=Qq (zA.out hq);have zQ:((x:Int) !=(y:Int))=false:=by rw [hq];simp
     clear hq;refine wp_region_held_drew (S:=fun w'=>w'.cell? (ad.add k)=some (.int .u64 (x:Int))/\w'.cell? (bd.add k)=some (.int .u64 (y:Int))) (by kernel_rfl) ⟨xc al a0,xc bl b0⟩ (fun zZ=> ?_);refine tk 0 zZ ?_;refine tk 1 zZ ?_;refine tk 2 zZ ?_;refine tk 3 zZ ?_;refine tk 4 zZ ?_;refine tk 5 zZ ?_;refine tk 6 zZ ?_;refine tk 7 zZ ?_;refine tk 8 zZ ?_;refine wpAnyH_done (by kernel_rfl) ?_ _;go_wp2_with fail;go_roundw
     case rel=>exact⟨k+1,by go_num,by omega,Qq ⟨HX.out.trans Qz.drew,HP.out⟩⟩
     case measure=>simp [intOf];omega
    have HE:=Qq (tM.out hq);have zQ:((x:Int) !=(y:Int))=true:=by simp;omega
    clear hq;refine wp_region_held_drew (S:=fun w'=>w'.cell? (ad.add k)=some (.int .u64 (x:Int))/\w'.cell? (bd.add k)=some (.int .u64 (y:Int))) (by kernel_rfl) ⟨xc al a0,xc bl b0⟩ (fun zZ=> ?_);refine tk 0 zZ ?_;refine tk 1 zZ ?_;refine tk 2 zZ ?_;refine tk 3 zZ ?_;refine tk 4 zZ ?_;refine tk 5 zZ ?_;refine tk 6 zZ ?_;refine tk 7 zZ ?_;refine tk 8 zZ ?_;refine wpAnyH_done (by kernel_rfl) ?_ _;go_wp2_with fail;go_ret;exact⟨by rw [HE.out] <;> rfl,HX.out.trans Qz.drew⟩
   obtain rfl:n=k:=by omega
   have HE:=Qq (show decide (a=b)=true from decide_eq_true (Ej HL.out (by rw [<-lD.out];exact HJ.out)));go_wp2_with fail;go_ret;exact⟨by rw [HE.out] <;> rfl,HX.out⟩
 have zQ:((a.length:Int) !=(b.length:Int))=true:=by simp;omega
 have HE:=Qq (show decide (a=b)=false from decide_eq_false fun e=>hl (by rw [e]));go_enter Tryz.func174,Tryz.ntmps174;go_wp2_with fail;go_ret;exact⟨by rw [HE.out] <;> rfl,Qz⟩
theorem Qk8(v:Value)(l:List Nat)(w:World)(h:Jb w v l)(hw:∀s∈l,Qp s)(hv:Xq l=true)(h0:0 < l.length):
 Calls Tryz.prog 170 #[v] w fun e w'=>∃u,e=.returned (.tuple #[u,.int .i64 0])/\Ext w w'/\Zx w.heap.size w' u (Nk l l.length):=by
 have H:=Qq h;have HW:=Qq hw;have rZ:=(Fq.1 hv).1;have HV:=Qq (show Jw l.length l=0 by unfold Xq at hv;simpa using hv);obtain⟨A,c,rfl,_,_,HL⟩:=Vp h;obtain⟨iU,sK,xC,xB,xA⟩:=info_parts De;clear h hw hv;go_enter Tryz.func170,Tryz.ntmps170;go_wp2_with fail;refine(Mq _ l _ H.out HW.out).mono ?_;rintro e w2 ⟨rfl,zS⟩;rw [HV.out];have zR:=Qq zS;clear zS;obtain⟨ad,rfl,zU,_⟩:=HL.out 0 h0;have tK:=Qq (show ∀(j:Nat) u,(uV l)[j]?=some u->(w2.alloc (.cells #[] 41)).cell? (ad.add j)=some u from Dy fun i hi=>by
  obtain⟨ad2,e,_,hc⟩:=HL.out i hi;injection e with e;subst e;exact((zR.out.alloc _).cell (p:=ad.add i) (Qj zU)).trans hc)
 have rT:=Qq (Rk w2 41);obtain⟨n,hn⟩:∃n,n=l.length:=⟨_,rfl⟩;have HN:=Qq hn;rw [<-hn]at rZ h0⊢;have uY:0+n<=maxLen:=by unfold maxLen;omega
 have xM:(0+n)*8<=140737488355328:=by omega
 clear hn;go_wp2_with(at_builtin;refine wpList_append_own_at _ rfl _ _ 23 rfl w2.heap.size 41 iU (.int .u64 0) 1 8 Tryz.underlying23 sK xC xB xA rfl (by decide) _ 0 [] rfl rT.out ad n c (uV l) rfl (by rw [Hj,Nat.mul_one];exact HN.out.symm) tK.out (Hy l) uY xM (by simp) ?_);intro v3 w3 xX yH _ _;have zC:=Qq (show Ext w w3 from(zR.out.alloc _).grown yH (fun k hk=>by have h1:=zR.out.size;have h2:w2.heap.size=k:=Option.some.inj hk;omega));have HM:=Qq (show Zx w.heap.size w3 v3 l by
  unfold Zx;rw [<-HN.out];exact Kt xX zR.out.size)
 clear xX yH;obtain⟨g,cap,rfl,xO,uE,_,xI,_,_⟩:=HM.out.slice (by rw [<-HN.out];exact h0);rw [<-HN.out]at HM⊢;clear xO;go_wp2_with fail;go_loopw [6] (fun v wr=>∃k:Nat,v=.int .i64 (k:Int)/\k<=n/\Hid (Ext w wr/\Zx w.heap.size wr (.slice (some ⟨g,0,none⟩) n cap) (Nk l k))) (fun v _=>n - (intOf v).toNat)
 case atStart=>exact⟨0,rfl,Nat.zero_le _,Qq ⟨zC.out,by rw [Qlp];exact HM.out⟩⟩
 case round =>
  obtain⟨k,rfl,hk,zY⟩:=hrel;have HX:=Qq zY.out.1;have HR:=Qq zY.out.2;clear zY;by_cases hlt2:k < n
  ·have yP:(k:Int) < (n:Int):=by omega
   have vF:k < 64:=by omega
   have wD:min k 64=k:=by omega
   obtain⟨_,gl,_,_,_,yR,yF⟩:=HR.out.at_ (by rw [Fh,<-HN.out];exact h0);have gc:=yR k (by rw [Fh,<-HN.out];exact hlt2);have gf:=yF k;rw [Mm (by rw [<-HN.out];exact hlt2),if_neg (Nat.lt_irrefl _)]at gc;obtain⟨y,hy⟩:∃y,y=l.getD k 0|||2^k:=⟨_,rfl⟩;have uL:bits .or .u64 ((l.getD k 0:Nat):Int) (IntKind.u64.wrap ((2:Int)^k))=(y:Int):=by
    rw [Lh vF,hy];exact Xw (Yr HW.out k) (Qy (Nat.pow_lt_pow_right (by decide) (Nat.lt_succ_self k)) (Ng (show k+1<=64 by omega)))
   have yX:=Qq (show Zx w.heap.size (wr.setCell ⟨g,k,none⟩ (.int .u64 (y:Int))) (.slice (some ⟨g,0,none⟩) n cap) (Nk l (k+1)) by
    rw [<-Qlm (by rw [<-HN.out];exact hlt2),<-hy];exact HR.out.set (by rw [Fh];exact HN.out.symm) k y)
   obtain⟨x,hx⟩:∃x,x=l.getD k 0:=⟨_,rfl⟩;rw [<-hx]at gc uL;clear yR yF hx hy;go_wp2_with fail;go_roundw
   case rel=>exact⟨k+1,by go_num,by omega,Qq ⟨HX.out.setCell (p:=⟨g,k,none⟩) uE _,yX.out⟩⟩
   case measure=>simp [intOf];omega
  obtain rfl:n=k:=by omega
  go_wp2_with fail;go_ret2;exact⟨_,rfl,HX.out,by rw [<-HN.out];exact HR.out⟩
def Hg(w:World)(g n:Nat):Nat:=(List.range (n*n)).countP fun k=>match w.cell? ⟨g,k / n,none⟩with|some (.int _ z)=> !z.toNat.testBit (k % n)|_=>true
def Zyr(v:Value):Nat:=match v with| .bool true=>1|_=>0
theorem Qxy {bs g n cap:Nat} {w:World} {l:List Nat}(h:Zx bs w (.slice (some ⟨g,0,none⟩) n cap) l)(h0:0 < l.length):Hg w g n=Bt n l:=by
 obtain⟨hn,_,_,_,_,hc,_⟩:=h.at_ h0;unfold Hg Bt;refine List.countP_congr fun k hk=> ?_
 have wM:k / n < l.length:=by
  rw [<-hn];have:=List.mem_range.1 hk;exact Nat.div_lt_of_lt_mul this
 rw [hc _ wM];show(!((l.getD (k / n) 0:Nat):Int).toNat.testBit (k % n))=true↔_;rw [Int.toNat_natCast]
structure GwS (eu:Bool) (w wr:World) (g cap n:Nat) (r out:List Nat):Prop where
 ext:Ext w wr
 row:Zx w.heap.size wr (.slice (some ⟨g,0,none⟩) n cap) out
 grw:Sx eu r out n
theorem Qb4(eu:Bool)(v:Value)(r:List Nat)(w:World)(h:Jb w v r)(rZ:r.length<=64)(hb:Zb r r.length=false)(h0:0 < r.length):
 Calls Tryz.prog 205 #[v,.bool eu] w fun e w'=>∃u,e=.returned u/\Ext w w'/\∃out,Zx w.heap.size w' u out/\(out=r↔Xo eu r):=by
 obtain⟨A,c,rfl,_,_,HL⟩:=Vp h;obtain⟨iU,sK,xC,xB,xA⟩:=info_parts De;clear h;obtain⟨ad,rfl,zU,_⟩:=HL.out 0 h0;have tK:=Qq (show ∀(j:Nat) u,(uV r)[j]?=some u->(w.alloc (.cells #[] 41)).cell? (ad.add j)=some u from Dy fun i hi=>by
  obtain⟨ad2,e,_,hc⟩:=HL.out i hi;injection e with e;subst e;exact(((Ext.refl w).alloc _).cell (p:=ad.add i) (Qj zU)).trans hc)
 have rT:=Qq (Rk w 41);have IS:=Qq (Sx.start (eu:=eu) (r:=r) rfl hb);obtain⟨n,hn⟩:∃n,n=r.length:=⟨_,rfl⟩;have HN:=Qq hn;rw [<-hn]at rZ h0 IS⊢;have uY:0+n<=maxLen:=by unfold maxLen;omega
 have xM:(0+n)*8<=140737488355328:=by omega
 clear hn hb;go_enter Tryz.func205,Tryz.ntmps205;go_wp2_with(at_builtin;refine wpList_append_own_at _ rfl _ _ 23 rfl w.heap.size 41 iU (.int .u64 0) 1 8 Tryz.underlying23 sK xC xB xA rfl (by decide) _ 0 [] rfl rT.out ad n c (uV r) rfl (by rw [Hj,Nat.mul_one];exact HN.out.symm) tK.out (Hy r) uY xM (by simp) ?_);intro v3 w3 xX yH _ _;have zC:=Qq (show Ext w w3 from((Ext.refl w).alloc _).grown yH (fun k hk=>by have h2:w.heap.size=k:=Option.some.inj hk;omega));have HM:=Qq (show Zx w.heap.size w3 v3 r by
  unfold Zx;rw [<-HN.out];exact xX)
 clear xX yH;obtain⟨g,cap,rfl,xO,uE,_,xI,_,_⟩:=HM.out.slice (by rw [<-HN.out];exact h0);rw [<-HN.out]at HM⊢;have iR:=Qq (show GwS eu w w3 g cap n r r from⟨zC.out,HM.out,IS.out⟩);have MI:n<=64:=rZ;clear xO HM zC IS;go_wp2_with fail;go_loopw [6] (fun vc wr=>∃fl:Bool,vc=.bool fl/\Hid (∃out,GwS eu w wr g cap n r out/\(fl=false->∀a,a < n->∀b,b < n->Ba eu out a b))) (fun vc wr=>2*Hg wr g n+Zyr vc)
 case atStart=>exact⟨true,rfl,Qq ⟨r,iR.out,fun e=>by cases e⟩⟩
 case round =>
  clear iR;obtain⟨fl,rfl,zY⟩:=hrel;obtain⟨out0,rA,mR⟩:=zY.out;have iR:=Qq rA;have YZ:=Qq mR;clear zY rA mR;cases fl
  ·have HD:=Qq (iR.out.grw.done HN.out.symm (YZ.out (by trivial)));go_wp2_with fail;go_ret
   first
   |exact⟨_,rfl,iR.out.ext,out0,iR.out.row,HD.out⟩
   |exact⟨iR.out.ext,out0,iR.out.row,HD.out⟩
  have FG:=Qq (Qxy iR.out.row (by rw [iR.out.grw.len];exact h0));obtain⟨wp,hwp⟩:∃v,v=wr:=⟨_,rfl⟩;subst hwp;go_wp2_with fail;go_loopw [6,7] (fun vc vi wr=>∃a:Nat,vi=.int .i64 (a:Int)/\a<=n/\∃fl:Bool,vc=.bool fl/\Hid (∃out,GwS eu w wr g cap n r out/\(fl=false->∀a',a' < a->∀b,b < n->Ba eu out a' b)/\Bt n out<=Bt n out0/\(fl=true->Bt n out < Bt n out0))) (fun _ vi _=>n - (intOf vi).toNat)
  case atStart=>exact⟨0,rfl,Nat.zero_le _,false,rfl,Qq ⟨out0,iR.out,(fun _ a' EU=>absurd EU (by omega)),Nat.le_refl _,fun e=>by cases e⟩⟩
  case round =>
   obtain⟨a,rfl,ha,fl,rfl,zY⟩:=hrel;by_cases hlt2:a < n
   ·have yP:(a:Int) < (n:Int):=by omega
    obtain⟨wq,vD⟩:∃v,v=wr:=⟨_,rfl⟩;subst vD;go_wp2_with fail;go_loopw [6,8] (fun vc vi wr=>∃b:Nat,vi=.int .i64 (b:Int)/\b<=n/\∃fl:Bool,vc=.bool fl/\Hid (∃out,GwS eu w wr g cap n r out/\(fl=false->(∀a',a' < a->∀b,b < n->Ba eu out a' b)/\∀b',b' < b->Ba eu out a b')/\Bt n out<=Bt n out0/\(fl=true->Bt n out < Bt n out0))) (fun _ vi _=>n - (intOf vi).toNat)
    case atStart =>
     obtain⟨out,h1,h2,h3,h4⟩:=zY.out;exact⟨0,rfl,Nat.zero_le _,fl,rfl,Qq ⟨out,h1,fun e=>⟨h2 e,fun b' KJ=>absurd KJ (by omega)⟩,h3,h4⟩⟩
    case round =>
     clear zY;obtain⟨b,rfl,hb,fl,rfl,zY⟩:=hrel;obtain⟨out,hs,gR,nU,kE⟩:=zY.out;have HS:=Qq hs;have qX:=Qq gR;have cR:=Qq nU;have SB:=Qq kE;clear zY hs gR nU kE;by_cases yK:b < n
     ·have wM:(b:Int) < (n:Int):=by omega
      have EM:b < 64:=by omega
      obtain⟨-,gl,-,-,-,yR,yF⟩:=HS.out.row.at_ (by rw [HS.out.grw.len];exact h0);have ca:=yR a (by rw [HS.out.grw.len];exact hlt2);have cb:=yR b (by rw [HS.out.grw.len];exact yK);have wS:=Qq yF;have VN:=Qq (show Qp (out.getD a 0)from Qy (HS.out.grw.lt a hlt2) (Ng MI));have FQ:=Qq (show Qp (out.getD b 0)from Qy (HS.out.grw.lt b yK) (Ng MI));have zA:=Qq (show Ba eu out a b->∀fl:Bool,(fl=false->(∀a',a' < a->∀b,b < n->Ba eu out a' b)/\∀b',b' < b->Ba eu out a b')->(fl=false->(∀a',a' < a->∀b,b < n->Ba eu out a' b)/\∀b',b' < b+1->Ba eu out a b')from fun h fl h1 e=>⟨(h1 e).1,Dg (P:=fun b'=>Ba eu out a b') (h1 e).2 h⟩)
      obtain⟨x,hx⟩:∃x,x=out.getD a 0:=⟨_,rfl⟩;obtain⟨y,hy⟩:∃y,y=out.getD b 0:=⟨_,rfl⟩;have oV:=Qq hx;have FK:=Qq hy;rw [<-hx]at ca VN;rw [<-hy]at cb FQ;clear yR yF hx hy;obtain⟨tb,yB⟩:∃t,t=x.testBit b:=⟨_,rfl⟩;have cX:=Qq yB;clear yB;go_wp2_with fail;refine(Qc3 x b _ EM VN.out).mono ?_;rintro e w4 ⟨rfl,rfl⟩;rw [<-cX.out];cases tb
      ·have HP:=Qq (zA.out (Qom (by rw [<-oV.out];exact cX.out.symm)) fl qX.out);go_wp2_with fail;go_roundw
       case rel=>exact⟨b+1,by go_num,by omega,fl,rfl,Qq ⟨out,HS.out,HP.out,cR.out,SB.out⟩⟩
       case measure=>simp [intOf];omega
      cases eu
      ·skip
       obtain⟨z,hz⟩:∃z,z=x|||y:=⟨_,rfl⟩;have uL:bits .or .u64 (x:Int) (y:Int)=(z:Int):=by rw [hz];exact Xw VN.out FQ.out
       have VI:=Qq (show z=out.getD (atG false a b) 0|||Ed false out a b by rw [hz,oV.out,FK.out];rfl);have gG:=Qq (show x=out.getD (atG false a b) 0 from oV.out);have gf:=wS.out a;clear hz;go_upto_region 12 with(fail);refine wp_region_held_drew (S:=fun w'=>w'.cell? (⟨g,a,none⟩)=some (.int .u64 (x:Int))/\w'.cell? (⟨g,b,none⟩)=some (.int .u64 (y:Int))) (by kernel_rfl) ⟨xc gl ca,xc gl cb⟩ (fun zZ=> ?_);refine tk 0 zZ ?_;refine tk 1 zZ ?_;refine tk 2 zZ ?_;refine tk 3 zZ ?_;refine tk 4 zZ ?_;refine tk 5 zZ ?_;refine tk 6 zZ ?_;refine wpAnyH_done (by kernel_rfl) ?_ _;obtain⟨W1,sH⟩:∃v,v=wr.drew:=⟨_,rfl⟩
       have vJ:=Qq (show Ext wr W1 by rw [sH];exact Qz.drew);rw [<-sH];clear sH;have ca:=(vJ.out.cell (p:=⟨g,a,none⟩) gl).trans ca;have cb:=(vJ.out.cell (p:=⟨g,b,none⟩) gl).trans cb;have gf:=(vJ.out.frozen (p:=⟨g,a,none⟩) gl).trans gf;have gl:=Qy gl vJ.out.size;go_upto_region 15 with(fail);by_cases hzx:z=x
       ·have zQ:((z:Int) !=(x:Int))=false:=by rw [hzx];simp
        have HP:=Qq (zA.out (Qgy (by rw [<-VI.out,<-gG.out];exact hzx)) fl qX.out);clear hzx;refine wp_region_held_drew (S:=fun w'=>w'.cell? (⟨g,a,none⟩)=some (.int .u64 (x:Int))/\w'.cell? (⟨g,b,none⟩)=some (.int .u64 (y:Int))) (by kernel_rfl) ⟨xc gl ca,xc gl cb⟩ (fun zZ=> ?_);refine tk 0 zZ ?_;refine tk 1 zZ ?_;refine tk 2 zZ ?_;refine tk 3 zZ ?_;refine tk 4 zZ ?_;refine tk 5 zZ ?_;refine tk 6 zZ ?_;refine tk 7 zZ ?_;refine tk 8 zZ ?_;refine tk 9 zZ ?_;refine tk 10 zZ ?_;refine wpAnyH_done (by kernel_rfl) ?_ _;go_wp2_with fail;go_roundw
        case rel=>exact⟨b+1,by go_num,by omega,fl,rfl,Qq ⟨out,⟨HS.out.ext.trans (vJ.out.trans Qz.drew),HS.out.row.ext (vJ.out.trans Qz.drew),HS.out.grw⟩,HP.out,cR.out,SB.out⟩⟩
        case measure=>simp [intOf];omega
       have zQ:((z:Int) !=(x:Int))=true:=by simp;omega
       have yX:=Qq (HS.out.grw.step hlt2 yK (by rw [<-oV.out];exact cX.out.symm) (by rw [<-VI.out,<-gG.out];exact hzx));rw [<-VI.out]at yX;clear hzx;refine wp_region_held_drew (S:=fun w'=>w'.cell? (⟨g,a,none⟩)=some (.int .u64 (x:Int))/\w'.cell? (⟨g,b,none⟩)=some (.int .u64 (y:Int))) (by kernel_rfl) ⟨xc gl ca,xc gl cb⟩ (fun zZ=> ?_);refine tk 0 zZ ?_;refine tk 1 zZ ?_;refine tk 2 zZ ?_;refine tk 3 zZ ?_;refine tk 4 zZ ?_;refine tk 5 zZ ?_;refine tk 6 zZ ?_;refine tk 7 zZ ?_;refine tk 8 zZ ?_;refine tk 9 zZ ?_;refine tk 10 zZ ?_;refine wpAnyH_done (by kernel_rfl) ?_ _
       have OR:=Qq (vJ.out.trans Qz.drew);have tJ:=Qq (((HS.out.row.ext OR.out)).set HS.out.grw.len a z);go_wp2_with fail;go_roundw
       case rel=>exact⟨b+1,by go_num,by omega,true,rfl,Qq ⟨_,⟨(HS.out.ext.trans OR.out).setCell (p:=⟨g,a,none⟩) uE _,tJ.out,yX.out.1⟩,(fun e=>by cases e),Nat.le_of_lt (Qy yX.out.2 cR.out),fun _=>Qy yX.out.2 cR.out⟩⟩
       case measure=>simp [intOf];omega
      skip
      obtain⟨z,hz⟩:∃z,z=y|||x:=⟨_,rfl⟩;have uL:bits .or .u64 (y:Int) (x:Int)=(z:Int):=by rw [hz];exact Xw FQ.out VN.out
      have VI:=Qq (show z=out.getD (atG true a b) 0|||Ed true out a b by rw [hz,oV.out,FK.out];rfl);have gG:=Qq (show y=out.getD (atG true a b) 0 from FK.out);have gf:=wS.out b;clear hz;go_upto_region 12 with(fail);refine wp_region_held_drew (S:=fun w'=>w'.cell? (⟨g,a,none⟩)=some (.int .u64 (x:Int))/\w'.cell? (⟨g,b,none⟩)=some (.int .u64 (y:Int))) (by kernel_rfl) ⟨xc gl ca,xc gl cb⟩ (fun zZ=> ?_);refine tk 0 zZ ?_;refine tk 1 zZ ?_;refine tk 2 zZ ?_;refine tk 3 zZ ?_;refine tk 4 zZ ?_;refine tk 5 zZ ?_;refine tk 6 zZ ?_;refine wpAnyH_done (by kernel_rfl) ?_ _;obtain⟨W1,sH⟩:∃v,v=wr.drew:=⟨_,rfl⟩
      have vJ:=Qq (show Ext wr W1 by rw [sH];exact Qz.drew);rw [<-sH];clear sH;have ca:=(vJ.out.cell (p:=⟨g,a,none⟩) gl).trans ca;have cb:=(vJ.out.cell (p:=⟨g,b,none⟩) gl).trans cb;have gf:=(vJ.out.frozen (p:=⟨g,b,none⟩) gl).trans gf;have gl:=Qy gl vJ.out.size;go_upto_region 14 with(fail);refine wp_region_held_drew (S:=fun w'=>w'.cell? (⟨g,a,none⟩)=some (.int .u64 (x:Int))/\w'.cell? (⟨g,b,none⟩)=some (.int .u64 (y:Int))) (by kernel_rfl) ⟨xc gl ca,xc gl cb⟩ (fun zZ=> ?_);refine tk 0 zZ ?_;refine tk 1 zZ ?_;refine tk 2 zZ ?_;refine tk 3 zZ ?_;refine tk 4 zZ ?_;refine tk 5 zZ ?_
      refine tk 6 zZ ?_;refine wpAnyH_done (by kernel_rfl) ?_ _;obtain⟨W2,gU⟩:∃v,v=W1.drew:=⟨_,rfl⟩;have vI:=Qq (show Ext W1 W2 by rw [gU];exact Qz.drew);rw [<-gU];clear gU;have ca:=(vI.out.cell (p:=⟨g,a,none⟩) gl).trans ca;have cb:=(vI.out.cell (p:=⟨g,b,none⟩) gl).trans cb;have gf:=(vI.out.frozen (p:=⟨g,b,none⟩) gl).trans gf;have gl:=Qy gl vI.out.size;go_upto_region 15 with(fail);by_cases hzx:z=y
      ·have zQ:((z:Int) !=(y:Int))=false:=by rw [hzx];simp
       have HP:=Qq (zA.out (Qgy (by rw [<-VI.out,<-gG.out];exact hzx)) fl qX.out);clear hzx;refine wp_region_held_drew (S:=fun w'=>w'.cell? (⟨g,a,none⟩)=some (.int .u64 (x:Int))/\w'.cell? (⟨g,b,none⟩)=some (.int .u64 (y:Int))) (by kernel_rfl) ⟨xc gl ca,xc gl cb⟩ (fun zZ=> ?_);refine tk 0 zZ ?_;refine tk 1 zZ ?_;refine tk 2 zZ ?_;refine tk 3 zZ ?_;refine tk 4 zZ ?_;refine tk 5 zZ ?_;refine tk 6 zZ ?_;refine tk 7 zZ ?_;refine tk 8 zZ ?_;refine tk 9 zZ ?_;refine tk 10 zZ ?_;refine wpAnyH_done (by kernel_rfl) ?_ _;go_wp2_with fail;go_roundw
       case rel=>exact⟨b+1,by go_num,by omega,fl,rfl,Qq ⟨out,⟨HS.out.ext.trans ((vJ.out.trans vI.out).trans Qz.drew),HS.out.row.ext ((vJ.out.trans vI.out).trans Qz.drew),HS.out.grw⟩,HP.out,cR.out,SB.out⟩⟩
       case measure=>simp [intOf];omega
      have zQ:((z:Int) !=(y:Int))=true:=by simp;omega
      have yX:=Qq (HS.out.grw.step hlt2 yK (by rw [<-oV.out];exact cX.out.symm) (by rw [<-VI.out,<-gG.out];exact hzx));rw [<-VI.out]at yX;clear hzx;refine wp_region_held_drew (S:=fun w'=>w'.cell? (⟨g,a,none⟩)=some (.int .u64 (x:Int))/\w'.cell? (⟨g,b,none⟩)=some (.int .u64 (y:Int))) (by kernel_rfl) ⟨xc gl ca,xc gl cb⟩ (fun zZ=> ?_);refine tk 0 zZ ?_;refine tk 1 zZ ?_;refine tk 2 zZ ?_;refine tk 3 zZ ?_;refine tk 4 zZ ?_;refine tk 5 zZ ?_;refine tk 6 zZ ?_;refine tk 7 zZ ?_;refine tk 8 zZ ?_;refine tk 9 zZ ?_;refine tk 10 zZ ?_;refine wpAnyH_done (by kernel_rfl) ?_ _
      have OR:=Qq ((vJ.out.trans vI.out).trans Qz.drew);have tJ:=Qq (((HS.out.row.ext OR.out)).set HS.out.grw.len b z);go_wp2_with fail;go_roundw
      case rel=>exact⟨b+1,by go_num,by omega,true,rfl,Qq ⟨_,⟨(HS.out.ext.trans OR.out).setCell (p:=⟨g,b,none⟩) uE _,tJ.out,yX.out.1⟩,(fun e=>by cases e),Nat.le_of_lt (Qy yX.out.2 cR.out),fun _=>Qy yX.out.2 cR.out⟩⟩
      case measure=>simp [intOf];omega
     obtain rfl:n=b:=by omega
     go_wp2_with fail;go_roundw
     case rel=>exact⟨a+1,by go_num,by omega,fl,rfl,Qq ⟨out,HS.out,(fun e=>Dg (P:=fun a'=>∀b,b < n->Ba eu out a' b) (qX.out e).1 (qX.out e).2),cR.out,SB.out⟩⟩
     case measure=>simp [intOf];omega
   obtain rfl:n=a:=by omega
   obtain⟨out,hs,gR,nU,kE⟩:=zY.out;have HS:=Qq hs;have qX:=Qq gR;have cR:=Qq nU;have SB:=Qq kE;have KN:=Qq (Qxy hs.row (by rw [hs.grw.len];exact h0));clear zY hs gR nU kE;go_wp2_with fail;go_roundw
   case rel=>exact⟨fl,rfl,Qq ⟨out,HS.out,qX.out⟩⟩
   case measure =>
    have h1:=FG.out;have h2:=KN.out;have h3:=cR.out;cases fl
    ·show 2*Hg wr g n+0 < 2*Hg wp g n+1;omega
    show 2*Hg wr g n+1 < 2*Hg wp g n+1;have:=SB.out rfl;omega
theorem Qvw(v:Value)(l:List Nat)(w:World)(h:Jb w v l)(hw:∀s∈l,Qp s)(hv:Xq l=true)(h0:0 < l.length):
 Calls Tryz.prog 172 #[v] w fun e w'=>∃u,e=.returned (.tuple #[u,.int .i64 0])/\Ext w w'/\∃out,Zx w.heap.size w' u out/\(out=l↔Xo false l):=by
 have H:=Qq h;have HW:=Qq hw;obtain⟨rZ,qR⟩:=Fq.1 hv;have HV:=Qq (show Jw l.length l=0 by unfold Xq at hv;simpa using hv);obtain⟨A,c,rfl,_⟩:=h;clear hw hv;go_enter Tryz.func172,Tryz.ntmps172;go_wp2_with fail;refine(Mq _ l _ H.out HW.out).mono ?_;rintro e w2 ⟨rfl,zS⟩;rw [HV.out];have zR:=Qq zS;clear zS;go_wp2_with fail;refine(Qb4 false _ l _ (H.out.ext zR.out) rZ qR h0).mono ?_;rintro e w3 ⟨u,rfl,zI,out,hm,eO⟩;have zC:=Qq (zR.out.trans zI);have HM:=Qq (show Zx w.heap.size w3 u out from Kt hm zR.out.size);have HI:=Qq eO;clear zI hm eO;go_wp2_with fail
 go_ret2;exact⟨u,rfl,zC.out,out,HM.out,HI.out⟩
theorem Qkg(v:Value)(l:List Nat)(w:World)(h:Jb w v l)(hw:∀s∈l,Qp s)(hv:Xq l=true)(h0:0 < l.length):
 Calls Tryz.prog 173 #[v] w fun e w'=>∃u,e=.returned (.tuple #[u,.int .i64 0])/\Ext w w'/\∃out,Zx w.heap.size w' u out/\(out=l↔Xo true l):=by
 have H:=Qq h;have HW:=Qq hw;obtain⟨rZ,qR⟩:=Fq.1 hv;have HV:=Qq (show Jw l.length l=0 by unfold Xq at hv;simpa using hv);obtain⟨A,c,rfl,_⟩:=h;clear hw hv;go_enter Tryz.func173,Tryz.ntmps173;go_wp2_with fail;refine(Mq _ l _ H.out HW.out).mono ?_;rintro e w2 ⟨rfl,zS⟩;rw [HV.out];have zR:=Qq zS;clear zS;go_wp2_with fail;refine(Qb4 true _ l _ (H.out.ext zR.out) rZ qR h0).mono ?_;rintro e w3 ⟨u,rfl,zI,out,hm,eO⟩;have zC:=Qq (zR.out.trans zI);have HM:=Qq (show Zx w.heap.size w3 u out from Kt hm zR.out.size);have HI:=Qq eO;clear zI hm eO;go_wp2_with fail
 go_ret2;exact⟨u,rfl,zC.out,out,HM.out,HI.out⟩
theorem Zt {w:World} {b:Nat} {a0 a1 a2:Value} {t:TypeId}(h:w.heap[b]?=some (.cells #[a0,a1,a2] t (0,0))):w.cell? ⟨b,0,none⟩=some a0/\w.cell? ⟨b,1,none⟩=some a1/\w.cell? ⟨b,2,none⟩=some a2/\b < w.heap.size :=
 ⟨by simp [World.cell?,h],by simp [World.cell?,h],by simp [World.cell?,h],Qf h⟩
theorem Qm2(v:Value)(md:Md)(z:Int)(w:World)(h:MdV w v md):
 Calls Tryz.prog 14 #[v,.int .i64 z] w fun e w'=>∃b,e=.returned (.bool b)/\Ext w w':=by
 obtain⟨vv,vr,rfl,hv,hr⟩:=h;obtain⟨Av,cv,rfl,_⟩:=hv;obtain⟨Ar,cr,rfl,_,_,HR⟩:=Ge hr;obtain⟨n,hn⟩:∃n,n=md.n:=⟨_,rfl⟩;rw [<-hn];clear hr hn;by_cases h1:z < n/\n<=64
 ·obtain⟨h2,h3⟩:=h1;go_enter Tryz.func14,Tryz.ntmps14;go_wp2_with fail;go_ret
  first|exact⟨_,rfl,Qz.alloc _⟩|exact⟨.inl rfl,Qz.alloc _⟩|exact⟨.inr rfl,Qz.alloc _⟩
 obtain⟨t,ht⟩:∃t,t=decide (z < n):=⟨_,rfl⟩;by_cases hz:z < n
 all_goals
  (try have uP:¬n<=64:=fun e=>h1 ⟨hz,e⟩)
  clear h1 ht;by_cases hv20:20 < md.val.length
  ·have hi:(20:Int) < (md.val.length:Int):=by omega
   go_enter Tryz.func14,Tryz.ntmps14;go_wp2_with fail;go_ret
   first|exact⟨_,rfl,Qz.alloc _⟩|exact⟨.inl rfl,Qz.alloc _⟩|exact⟨.inr rfl,Qz.alloc _⟩
  have hi20:¬(20:Int) < (md.val.length:Int):=by omega
  by_cases hr10:10 < md.rel.length
  ·have hi:(10:Int) < (md.rel.length:Int):=by omega
   go_enter Tryz.func14,Tryz.ntmps14;go_wp2_with fail;go_ret
   first|exact⟨_,rfl,Qz.alloc _⟩|exact⟨.inl rfl,Qz.alloc _⟩|exact⟨.inr rfl,Qz.alloc _⟩
  have hi10:¬(10:Int) < (md.rel.length:Int):=by omega
  generalize md.rel=rl at *;generalize md.val.length=vl at *;go_enter Tryz.func14,Tryz.ntmps14;go_upto_region 3 with(fail);obtain⟨W0,zE⟩:∃W,W=w.alloc (.cells #[.int .i64 n,.slice Av vl cv,.slice Ar rl.length cr] 26):=⟨_,rfl⟩;have zK:=Qq (show Ext w W0 by rw [zE];exact Qz.alloc _);have HB:=Qq (show W0.heap[w.heap.size]?=some (.cells #[.int .i64 n,.slice Av vl cv,.slice Ar rl.length cr] 26 (0,0)) by rw [zE];exact heap_alloc_new _ _);rw [<-zE];clear zE;obtain⟨b,hb⟩:∃b,b=w.heap.size:=⟨_,rfl⟩;rw [<-hb]at HB⊢;clear hb;go_wp2_with fail;go_loopw [5] (fun v wr=>∃k:Nat,v=.int .i64 (k:Int)/\k<=rl.length/\Hid (Ext W0 wr)) (fun v _=>rl.length - (intOf v).toNat)
  case atStart=>exact⟨0,rfl,Nat.zero_le _,Qq Qz⟩
  case round =>
   obtain⟨k,rfl,hk,HX⟩:=hrel;obtain⟨e0,e1,e2,eb⟩:=Zt ((HX.out.block (Qf HB.out)).trans HB.out);by_cases hlt2:k < rl.length
   ·have yP:(k:Int) < (rl.length:Int):=by omega
    obtain⟨ad,u,rfl,zU,hc,hu⟩:=HR.out k hlt2;obtain⟨Au,cu,rfl,_⟩:=hu;have a0:=((zK.out.trans HX.out).cell (p:=ad.add k) (Qj zU)).trans hc;have al:(ad.add k).block < wr.heap.size:=by rw [Qr];exact Qy zU (zK.out.trans HX.out).size
    generalize (rl.getD k []).length=q at a0;clear hc;by_cases hq:70 < q
    ·have RN:(70:Int) < (q:Int):=by omega
     go_wp2_with fail;go_ret
     first|exact⟨_,rfl,zK.out.trans HX.out⟩|exact⟨.inl rfl,zK.out.trans HX.out⟩|exact⟨.inr rfl,zK.out.trans HX.out⟩
    have RN:¬(70:Int) < (q:Int):=by omega
    go_wp2_with fail;go_roundw
    case rel=>exact⟨k+1,by go_num,by omega,HX⟩
    case measure=>simp [intOf];omega
   obtain rfl:rl.length=k:=by omega
   go_wp2_with fail;go_ret
   first|exact⟨_,rfl,zK.out.trans HX.out⟩|exact⟨.inl rfl,zK.out.trans HX.out⟩|exact⟨.inr rfl,zK.out.trans HX.out⟩
theorem Dl(v:Value)(md:Md)(w:World)(h:MdV w v md)(zO:md.ok):
 Calls Tryz.prog 45 #[v] w fun e w'=>e=.returned (.int .i64 (Zq md))/\Ext w w':=by
 obtain⟨vv,vr,rfl,hv,hr⟩:=h;have HV:=Qq hv;have zD:=Qq zO;obtain⟨Av,cv,rfl,_⟩:=hv;obtain⟨Ar,cr,rfl,_,_,HR⟩:=Ge hr;obtain⟨n,hn⟩:∃n,n=md.n:=⟨_,rfl⟩;have HN:=Qq hn;rw [<-hn];clear hr zO hn;by_cases h1:n < 1
 ·have HE:=Qq (show Zq md=2 by unfold Zq;rw [<-HN.out,if_pos (.inl h1)]);go_enter Tryz.func45,Tryz.ntmps45;go_wp2_with fail;go_ret;exact⟨by rw [HE.out] <;> rfl,Qz.alloc _⟩
 by_cases uP:64 < n
 ·have HE:=Qq (show Zq md=2 by unfold Zq;rw [<-HN.out,if_pos (.inr uP)]);go_enter Tryz.func45,Tryz.ntmps45;go_wp2_with fail;go_ret;exact⟨by rw [HE.out] <;> rfl,Qz.alloc _⟩
 obtain⟨m,rfl⟩:=Int.eq_ofNat_of_zero_le (show 0<=n by omega);have MP:m<=64:=by omega
 have tS:=Qq (show Zq md=if 4 < md.rel.length\/8 < md.val.length then 8 else if md.rel.any (fun r=> !decide ((r.length:Int)=(m:Int)))then 3 else if Zb md.val m then 2 else if md.rel.any (fun r=>Zb r m)then 2 else 0 by unfold Zq;rw [<-HN.out,if_neg (by omega)];rfl);by_cases uC:4 < md.rel.length
 ·have HE:=Qq (show Zq md=8 by rw [tS.out,if_pos (.inl uC)]);have hi:(4:Int) < (md.rel.length:Int):=by omega
  go_enter Tryz.func45,Tryz.ntmps45;go_wp2_with fail;go_ret;exact⟨by rw [HE.out] <;> rfl,Qz.alloc _⟩
 have DN:¬(4:Int) < (md.rel.length:Int):=by omega
 by_cases gK:8 < md.val.length
 ·have HE:=Qq (show Zq md=8 by rw [tS.out,if_pos (.inr gK)]);have hi:(8:Int) < (md.val.length:Int):=by omega
  go_enter Tryz.func45,Tryz.ntmps45;go_wp2_with fail;go_ret;exact⟨by rw [HE.out] <;> rfl,Qz.alloc _⟩
 have S8:¬(8:Int) < (md.val.length:Int):=by omega
 have pS:=Qq (show Zq md=if md.rel.any (fun r=> !decide ((r.length:Int)=(m:Int)))then 3 else if Zb md.val m then 2 else if md.rel.any (fun r=>Zb r m)then 2 else 0 by rw [tS.out,if_neg (by omega)]);obtain⟨rl,wC⟩:∃l,l=md.rel:=⟨_,rfl⟩;have fL:=Qq (show ∀r∈rl,∀s∈r,Qp s by rw [wC];exact zD.out.rel);rw [<-wC]at pS HR DN uC⊢;clear tS wC;go_enter Tryz.func45,Tryz.ntmps45;go_upto_region 5 with(fail);obtain⟨W0,zE⟩:∃W,W=w.alloc (.cells #[.int .i64 (m:Int),.slice Av md.val.length cv,.slice Ar rl.length cr] 26):=⟨_,rfl⟩;have zK:=Qq (show Ext w W0 by rw [zE];exact Qz.alloc _);have HB:=Qq (show W0.heap[w.heap.size]?=some (.cells #[.int .i64 (m:Int),.slice Av md.val.length cv,.slice Ar rl.length cr] 26 (0,0)) by rw [zE];exact heap_alloc_new _ _)
 rw [<-zE];clear zE;obtain⟨b,hb⟩:∃b,b=w.heap.size:=⟨_,rfl⟩;rw [<-hb]at HB⊢;clear hb;go_wp2_with fail;go_loopw [3] (fun v wr=>∃k:Nat,v=.int .i64 (k:Int)/\k<=rl.length/\Hid (Ext W0 wr/\∀j,j < k->(!decide (((rl.getD j []).length:Int)=(m:Int)))=false)) (fun v _=>rl.length - (intOf v).toNat)
 case atStart=>exact⟨0,rfl,Nat.zero_le _,Qq ⟨Qz,fun j hj=>absurd hj (by omega)⟩⟩
 case round =>
  obtain⟨k,rfl,hk,zY⟩:=hrel;have HX:=Qq zY.out.1;have HJ:=Qq zY.out.2;obtain⟨e0,e1,e2,eb⟩:=Zt ((HX.out.block (Qf HB.out)).trans HB.out);clear zY;by_cases hlt2:k < rl.length
  ·have yP:(k:Int) < (rl.length:Int):=by omega
   obtain⟨ad,u,rfl,zU,hc,hu⟩:=HR.out k hlt2;obtain⟨Au,cu,rfl,_⟩:=hu;have a0:=(HX.out.cell (p:=ad.add k) (by rw [Qr];exact Qy zU zK.out.size)).trans ((zK.out.cell (p:=ad.add k) (Qj zU)).trans hc);have al:(ad.add k).block < wr.heap.size:=by rw [Qr];exact Qy zU (zK.out.trans HX.out).size
   have zA:=Qq (show(!decide (((rl.getD k []).length:Int)=(m:Int)))=false->∀j,j < k+1->(!decide (((rl.getD j []).length:Int)=(m:Int)))=false from fun h=>Dg (P:=fun j=>(!decide (((rl.getD j []).length:Int)=(m:Int)))=false) HJ.out h);have tM:=Qq (show(!decide (((rl.getD k []).length:Int)=(m:Int)))=true->Zq md=3 from fun h=>by rw [pS.out,if_pos (Qyt hlt2 h)]);obtain⟨q,hq⟩:∃q,q=(rl.getD k []).length:=⟨_,rfl⟩;rw [<-hq]at a0 zA tM;clear hc hq;go_upto_region 8 with(fail);by_cases hd:q=m
   ·subst hd;have XT:((q:Int) !=(q:Int))=false:=by simp
    have HP:=Qq (zA.out (by simp));refine wp_region_held_drew (S:=fun w'=>w'.cell? (⟨b,0,none⟩)=some (.int .i64 (q:Int))/\w'.cell? (⟨b,2,none⟩)=some (.slice (some ad) rl.length cr)/\w'.cell? (ad.add k)=some (.slice Au q cu)) (by kernel_rfl) ⟨xc eb e0,xc eb e2,xc al a0⟩ (fun zZ=> ?_);refine tk 0 zZ ?_;refine tk 1 zZ ?_;refine tk 2 zZ ?_;refine tk 3 zZ ?_;refine tk 4 zZ ?_;refine tk 5 zZ ?_;refine tk 6 zZ ?_;refine tk 7 zZ ?_;refine tk 8 zZ ?_;refine wpAnyH_done (by kernel_rfl) ?_ _;go_wp2_with fail;go_roundw
    case rel=>exact⟨k+1,by go_num,by omega,Qq ⟨HX.out.trans Qz.drew,HP.out⟩⟩
    case measure=>simp [intOf];omega
   have XT:((q:Int) !=(m:Int))=true:=by simp;omega
   have HE:=Qq (tM.out (by simp;omega));refine wp_region_held_drew (S:=fun w'=>w'.cell? (⟨b,0,none⟩)=some (.int .i64 (m:Int))/\w'.cell? (⟨b,2,none⟩)=some (.slice (some ad) rl.length cr)/\w'.cell? (ad.add k)=some (.slice Au q cu)) (by kernel_rfl) ⟨xc eb e0,xc eb e2,xc al a0⟩ (fun zZ=> ?_);refine tk 0 zZ ?_;refine tk 1 zZ ?_;refine tk 2 zZ ?_;refine tk 3 zZ ?_;refine tk 4 zZ ?_;refine tk 5 zZ ?_;refine tk 6 zZ ?_;refine tk 7 zZ ?_;refine tk 8 zZ ?_;refine wpAnyH_done (by kernel_rfl) ?_ _;go_wp2_with fail;go_ret;exact⟨by rw [HE.out] <;> rfl,zK.out.trans (HX.out.trans Qz.drew)⟩
  obtain rfl:rl.length=k:=by omega
  have AN:=Qq (show Zq md=if Zb md.val m then 2 else if rl.any (fun r=>Zb r m)then 2 else 0 by rw [pS.out,Qqk HJ.out];rfl);have yY:=Qq (zK.out.trans HX.out);go_wp2_with fail;refine(Qky _ md.val m _ (HV.out.ext yY.out) zD.out.val MP).mono ?_;rintro e w2 ⟨rfl,zS⟩;have zR:=Qq zS;clear zS e0 e1 e2 eb;cases UZ:Zb md.val m
  case true =>
   have HE:=Qq (show Zq md=2 by rw [AN.out,UZ];rfl);clear UZ;go_wp2_with fail;go_ret;exact⟨by rw [HE.out] <;> rfl,yY.out.trans zR.out⟩
  have jZ:=Qq (show Zq md=if rl.any (fun r=>Zb r m)then 2 else 0 by rw [AN.out,UZ];rfl);clear UZ;have rV:=Qq ((zR.out.block (Qf ((HX.out.block (Qf HB.out)).trans HB.out))).trans ((HX.out.block (Qf HB.out)).trans HB.out));have vI:=Qq (yY.out.trans zR.out);go_wp2_with fail;go_loopw [4] (fun v wr=>∃k:Nat,v=.int .i64 (k:Int)/\k<=rl.length/\Hid (Ext w2 wr/\∀j,j < k->Zb (rl.getD j []) m=false)) (fun v _=>rl.length - (intOf v).toNat)
  case atStart=>exact⟨0,rfl,Nat.zero_le _,Qq ⟨Qz,fun j hj=>absurd hj (by omega)⟩⟩
  case round =>
   clear HX HJ;obtain⟨k,rfl,hk,zY⟩:=hrel;have HX:=Qq zY.out.1;have HJ:=Qq zY.out.2;obtain⟨e0,e1,e2,eb⟩:=Zt ((HX.out.block (Qf rV.out)).trans rV.out);clear zY;by_cases hlt2:k < rl.length
   ·have yP:(k:Int) < (rl.length:Int):=by omega
    obtain⟨ad,u,rfl,zU,hc,hu⟩:=HR.out k hlt2;have KP:=Qq (vI.out.trans HX.out);have HU:=Qq (hu.ext KP.out);have SE:=Qq (Rl fL.out k);obtain⟨Au,cu,rfl,_⟩:=hu;have a0:=(KP.out.cell (p:=ad.add k) (Qj zU)).trans hc;have al:(ad.add k).block < wr.heap.size:=by rw [Qr];exact Qy zU KP.out.size
    have zA:=Qq (show Zb (rl.getD k []) m=false->∀j,j < k+1->Zb (rl.getD j []) m=false from fun h=>Dg (P:=fun j=>Zb (rl.getD j []) m=false) HJ.out h);have tM:=Qq (show Zb (rl.getD k []) m=true->Zq md=2 from fun h=>by rw [jZ.out,if_pos (Qyt (P:=fun r=>Zb r m) hlt2 h)]);obtain⟨q,hq⟩:∃q,q=rl.getD k []:=⟨_,rfl⟩;rw [<-hq]at a0 zA tM HU SE;clear hc hq;go_upto_region 15 with(fail);obtain⟨wq,vD⟩:∃v,v=wr:=⟨_,rfl⟩;subst vD;refine wp_region_held_drew (S:=fun w'=>w'.cell? (⟨b,0,none⟩)=some (.int .i64 (m:Int))/\w'.cell? (⟨b,2,none⟩)=some (.slice (some ad) rl.length cr)/\w'.cell? (ad.add k)=some (.slice Au q.length cu)) (by kernel_rfl) ⟨xc eb e0,xc eb e2,xc al a0⟩ (fun zZ=> ?_)
    refine tk 0 zZ ?_;refine tk 1 zZ ?_;refine tk 2 zZ ?_;refine tk 3 zZ ?_;refine tk 4 zZ ?_;refine tk 5 zZ ?_;refine tk 6 zZ ?_;refine wpAnyH_ready (rs:= [7]) (by kernel_rfl) (by simp) ?_;refine AllReadyH.cons rfl (fun K hK=> ?_) AllReadyH.nil;go_simp;refine(Qky _ q m _ (HU.out.ext (by repeat(first|exact Qz|assumption|apply Ext.alloc|apply Ext.drew|apply Ext.setCell))) SE.out MP).mono ?_;rintro e w3 ⟨rfl,yV⟩;have zI:Ext wq w3:=Ext.trans (by repeat(first|exact Qz|assumption|apply Ext.alloc|apply Ext.drew|apply Ext.setCell)) yV;have zC:=Qq zI;clear yV;go_wp2_with fail
    refine hK.out _ _ ⟨xc eb e0,xc eb e2,xc al a0⟩ (fun zZ=> ?_);clear hK K;refine Qd ?_;refine wpAnyH_done (by kernel_rfl) ?_ _;cases hd:Zb q m
    ·have HP:=Qq (zA.out hd);clear hd;go_wp2_with fail;go_roundw
     case rel=>exact⟨k+1,by go_num,by omega,Qq ⟨HX.out.trans zC.out,HP.out⟩⟩
     case measure=>simp [intOf];omega
    have HE:=Qq (tM.out hd);clear hd;go_wp2_with fail;go_ret;exact⟨by rw [HE.out] <;> rfl,KP.out.trans zC.out⟩
   obtain rfl:rl.length=k:=by omega
   have HE:=Qq (show Zq md=0 by rw [jZ.out,Qqk (P:=fun r=>Zb r m) HJ.out];rfl);go_wp2_with fail;go_ret;exact⟨by rw [HE.out] <;> rfl,vI.out.trans HX.out⟩
end Go.Proofs.YtkmclcmnoicagaaGreatDoor
