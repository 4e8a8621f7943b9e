/- relation.Has: what it says of the properties 1, 2, 4, 5; frames.In. -/
import Derived.Test.YtkmclcmnoicagaaGreatDoorH15
namespace Go.Proofs.YtkmclcmnoicagaaGreatDoor
set_option maxRecDepth 100000
set_option maxHeartbeats 128000000
open Go.RowKit
theorem Qe8:Iy:=by
 intro v l q w hT h hw zU _ hq;rcases hq with rfl|rfl|rfl|rfl
 ·exact Qe4 v l w h hw zU
 ·exact Qe5 v l w h hw zU
 ·exact Qe6 v l w hT h hw zU
 exact Qe7 v l w hT h hw zU
theorem Zzj(vm:Value)(md:Md)(lg:Int)(w:World)(hT:Kb w)(hm:Jk w vm md)(zP:md.ok)(zU:Qa md=0)(xX:0<=lg/\lg<=6):
 Calls Tryz.prog 39 #[vm,.int .i64 lg] w fun e w'=>e=.returned (.bool (inB md lg))/\Qg w w':=Zyl Qe8 vm md lg w hT hm zP zU xX
theorem Qhh(vm:Value)(md:Md)(lg:Int)(w:World)(hm:Jk w vm md)(xX:¬(0<=lg/\lg<=6)):
 Calls Tryz.prog 39 #[vm,.int .i64 lg] w fun e w'=>e=.returned (.bool false)/\Qg w w':=by
 have HP:=Qq (show Is lg=1 from if_neg xX);obtain⟨vv,vr,rfl,hv,hr⟩:=hm;clear xX hv hr;go_enter Tryz.func39,Tryz.ntmps39;go_wp2_with(go_at_call 98;refine(Hr lg _).mono ?_;rintro e w1 ⟨vp,rfl,zN,WD⟩;rw [HP.out];have zO:=Qq ((((Qg.refl w).alloc _).alloc _).trans zN);clear zN WD);go_ret;exact⟨rfl,zO.out⟩
noncomputable def Qyh (md:Md) (lg:Int):Bool:=decide (0<=lg/\lg<=6)&&inB md lg
theorem Qch(vm:Value)(md:Md)(lg:Int)(w:World)(hT:Kb w)(hm:Jk w vm md)(zP:md.ok)(zU:Qa md=0):
 Calls Tryz.prog 39 #[vm,.int .i64 lg] w fun e w'=>e=.returned (.bool (Qyh md lg))/\Qg w w':=by
 unfold Qyh;by_cases h:0<=lg/\lg<=6
 ·rw [decide_eq_true h,Bool.true_and];exact Zzj vm md lg w hT hm zP zU h
 rw [decide_eq_false h,Bool.false_and];exact Qhh vm md lg w hm h
theorem Ql1 {md:Md} {lg:Int}(zU:Qa md=0)(h:Qyh md lg=true):Fw md lg:=by
 unfold Qyh at h;rw [Bool.and_eq_true]at h;exact Qwz zU (of_decide_eq_true h.1) h.2
theorem Zzy(vm:Value)(md:Md)(lg:Int)(w:World)(hm:Jk w vm md)(zP:md.ok)(xX:0<=lg/\lg<=6)(zU:Qa md≠0):
 Calls Tryz.prog 39 #[vm,.int .i64 lg] w fun e w'=>e=.returned (.bool false)/\Qg w w':=by
 have HM:=Qq hm;have zE:=Qq zP;have HP:=Qq (show Is lg=0 from if_pos xX);obtain⟨ck,wN⟩:∃z,z=Qa md:=⟨_,rfl⟩;have J5:=Qq wN;have hck1:(ck==0)=false:=by rw [beq_eq_false_iff_ne,wN];exact zU
 obtain⟨vv,vr,rfl,hv,hr⟩:=hm;clear zP xX zU hv hr wN;go_enter Tryz.func39,Tryz.ntmps39;go_wp2_with(first|(go_at_call 98;refine(Hr lg _).mono ?_;rintro e w1 ⟨vp,rfl,zN,WD⟩;rw [HP.out];have zO:=Qq ((((Qg.refl w).alloc _).alloc _).trans zN);have oX:w1.cell? ⟨w.heap.size,0,none⟩=some (.int .i64 md.n):=(zN.cell (p:=⟨w.heap.size,0,none⟩) (by simp;omega)).trans (by simp);have uS:w1.cell? ⟨w.heap.size,1,none⟩=some vv:=(zN.cell (p:=⟨w.heap.size,1,none⟩) (by simp;omega)).trans (by simp);have xO:w1.cell? ⟨w.heap.size,2,none⟩=some vr:=(zN.cell (p:=⟨w.heap.size,2,none⟩) (by simp;omega)).trans (by simp);have yS:w.heap.size+1 < w1.heap.size:=Qy (by simp) zN.size;clear zN WD)|(go_at_call 93;refine(Xa _ md _ (HM.out.ext zO.out) zE.out).mono ?_;rintro e w2 ⟨rfl,zS⟩;rw [<-J5.out];have zT:=Qq (zO.out.trans zS);clear zS))
 go_ret;exact⟨rfl,zT.out⟩
noncomputable def Ib (md:Md) (lg:Int):Bool:=decide (Qa md=0)&&Qyh md lg
theorem Zql(vm:Value)(md:Md)(lg:Int)(w:World)(hT:Kb w)(hm:Jk w vm md)(zP:md.ok):
 Calls Tryz.prog 39 #[vm,.int .i64 lg] w fun e w'=>e=.returned (.bool (Ib md lg))/\Qg w w':=by
 unfold Ib;by_cases hc:Qa md=0
 ·rw [decide_eq_true hc,Bool.true_and];exact Qch vm md lg w hT hm zP hc
 rw [decide_eq_false hc,Bool.false_and];by_cases h:0<=lg/\lg<=6
 ·exact Zzy vm md lg w hm zP h hc
 exact Qhh vm md lg w hm h
theorem Qwj {md:Md} {lg:Int}(h:Ib md lg=true):Qa md=0/\Fw md lg:=by
 unfold Ib at h;rw [Bool.and_eq_true]at h;have hc:=of_decide_eq_true h.1;exact⟨hc,Ql1 hc h.2⟩
theorem Sm(n:Nat)(h:n<=64)(w:World):Calls Tryz.prog 22 #[.int .i64 (n:Int)] w fun e w'=>e=.returned (.int .u64 ((Zk n:Nat):Int))/\w=w':=by
 by_cases uH:n=64
 ·subst uH;go_enter Tryz.func22,Tryz.ntmps22;go_wp2_with fail;go_ret;exact⟨rfl,rfl⟩
 have hn:n < 64:=by omega
 have wU:(n:Int) < 64:=by omega
 have vV:min n 64=n:=by omega
 have HW:=Qq (Th hn);clear uH h;go_enter Tryz.func22,Tryz.ntmps22;go_wp2_with fail;go_ret;exact⟨by rw [<-show((2^n - 1:Nat):Int)=((Zk n:Nat):Int)from rfl,<-HW.out] <;> rfl,rfl⟩
theorem Qxj(v:Value)(l:List Nat)(n:Nat)(w:World)(h:Jn w v l)(hw:∀s∈l,Qm s)(hn:n<=64):
 Calls Tryz.prog 107 #[v,.int .i64 (n:Int)] w fun e w'=>e=.returned (.bool (Zn l n))/\Qg w w':=by
 obtain⟨A,c,rfl,QE,xY,HL⟩:=Vf h;have rV:=Qq hw;unfold maxLen at xY;clear h hw;go_enter Tryz.func107,Tryz.ntmps107;go_wp2_with fail;go_loopw [5] (fun v wr=>∃k:Nat,v=.int .i64 (k:Int)/\k<=l.length/\Hid (Qg w wr/\∀j,j < k->decide (l.getD j 0 < 2^n)=true)) (fun v _=>l.length - (intOf v).toNat)
 case atStart=>exact⟨0,rfl,Nat.zero_le _,Qq ⟨Qz,fun j hj=>absurd hj (by omega)⟩⟩
 case round =>
  obtain⟨k,rfl,hk,zY⟩:=hrel;have HX:=Qq zY.out.1;have HJ:=Qq zY.out.2;clear zY;by_cases hlt2:k < l.length
  ·have yV:(k:Int) < (l.length:Int):=by omega
   obtain⟨ad,rfl,zV,hc⟩:=HL.out k (by omega);have a0:=(HX.out.cell (p:=ad.add k) (Qj zV)).trans hc;have al:(ad.add k).block < wr.heap.size:=by rw [Qr];exact Qy zV HX.out.size
   have zD:=Qq (show decide (l.getD k 0 < 2^n)=true->∀j,j < k+1->decide (l.getD j 0 < 2^n)=true from fun h=>Do (P:=fun j=>decide (l.getD j 0 < 2^n)=true) HJ.out h);have sX:=Qq (show decide (l.getD k 0 < 2^n)=false->Zn l n=true from Qqy (by omega));have yF:=Qy1 (n:=n) (Yx rV.out k) hn;obtain⟨sx,sQ⟩:∃s,s=l.getD k 0:=⟨_,rfl⟩;rw [<-sQ]at a0 yF zD sX;clear hc sQ;go_upto_region 4 with(fail);cases hd:decide (sx < 2^n)
   ·rw [hd]at yF;have HD:=Qq hd;clear hd;refine wp_region_held_drew (S:=fun w'=>w'.cell? (ad.add k)=some (.int .u64 (sx:Int))) (by kernel_rfl) (xc al a0) (fun zZ=> ?_);refine tk 0 zZ ?_;refine tk 1 zZ ?_;refine tk 2 zZ ?_;refine tk 3 zZ ?_;refine tk 4 zZ ?_;refine wpAnyH_ready (rs:= [5]) (by kernel_rfl) (by simp) ?_;refine AllReadyH.cons rfl (fun K hK=> ?_) AllReadyH.nil;go_simp;refine(Sm n hn _).mono ?_;rintro e w3 ⟨rfl,rfl⟩;go_wp2_with fail;refine hK.out _ _ (xc al a0) (fun zZ=> ?_);clear hK K;refine Qd ?_;refine tk 6 zZ ?_;refine tk 7 zZ ?_;refine wpAnyH_done (by kernel_rfl) ?_ _
    have HE:=Qq (sX.out HD.out);go_wp2_with fail;go_ret;exact⟨by rw [HE.out] <;> rfl,HX.out.trans Qz.drew⟩
   rw [hd]at yF;have HD:=Qq hd;clear hd;refine wp_region_held_drew (S:=fun w'=>w'.cell? (ad.add k)=some (.int .u64 (sx:Int))) (by kernel_rfl) (xc al a0) (fun zZ=> ?_);refine tk 0 zZ ?_;refine tk 1 zZ ?_;refine tk 2 zZ ?_;refine tk 3 zZ ?_;refine tk 4 zZ ?_;refine wpAnyH_ready (rs:= [5]) (by kernel_rfl) (by simp) ?_;refine AllReadyH.cons rfl (fun K hK=> ?_) AllReadyH.nil;go_simp;refine(Sm n hn _).mono ?_;rintro e w3 ⟨rfl,rfl⟩;go_wp2_with fail;refine hK.out _ _ (xc al a0) (fun zZ=> ?_);clear hK K;refine Qd ?_;refine tk 6 zZ ?_;refine tk 7 zZ ?_;refine wpAnyH_done (by kernel_rfl) ?_ _
   have HP:=Qq (zD.out HD.out);go_wp2_with fail;go_roundw
   case rel=>exact⟨k+1,by go_num,by omega,Qq ⟨HX.out.trans Qz.drew,HP.out⟩⟩
   case measure=>simp [intOf];omega
  obtain rfl:l.length=k:=by omega
  have HE:=Qq (Om HJ.out);go_wp2_with fail;go_ret;exact⟨by rw [HE.out] <;> rfl,HX.out⟩
theorem Qx6(n:Nat)(h:n<=64)(w:World):Calls Tryz.prog 202 #[.int .i64 (n:Int)] w fun e w'=>e=.returned (.int .u64 ((Zk n:Nat):Int))/\w=w':=by
 by_cases uH:n=64
 ·subst uH;go_enter Tryz.func202,Tryz.ntmps202;go_wp2_with fail;go_ret;exact⟨rfl,rfl⟩
 have hn:n < 64:=by omega
 have wU:(n:Int) < 64:=by omega
 have vV:min n 64=n:=by omega
 have HW:=Qq (Th hn);clear uH h;go_enter Tryz.func202,Tryz.ntmps202;go_wp2_with fail;go_ret;exact⟨by rw [<-show((2^n - 1:Nat):Int)=((Zk n:Nat):Int)from rfl,<-HW.out] <;> rfl,rfl⟩
theorem Ht(s i:Nat)(w:World)(hi:i < 64):Calls Tryz.prog 152 #[.int .u64 (s:Int),.int .i64 (i:Int)] w fun e w'=>e=.returned (.bool (s.testBit i))/\w=w':=by
 have hm:min i 64=i:=by omega
 have gN:(i:Int) < 64:=by omega
 have HB:=Qq (Ny s i);go_enter Tryz.func152,Tryz.ntmps152;go_wp2_with fail;go_ret;exact⟨by rw [<-HB.out] <;> rfl,rfl⟩
theorem Qh9(s i:Nat)(w:World)(hi:i < 64)(hs:Qm s):Calls Tryz.prog 219 #[.int .u64 (s:Int),.int .i64 (i:Int)] w fun e w'=>e=.returned (.bool (s.testBit i))/\w=w':=by
 have hm:min i 64=i:=by omega
 have gN:(i:Int) < 64:=by omega
 have HB:=Qq (Bc s i hs);clear hs;go_enter Tryz.func219,Tryz.ntmps219;go_wp2_with fail;go_ret;exact⟨by rw [<-HB.out] <;> rfl,rfl⟩
theorem Pg(v:Value)(l:List Nat)(w:World)(h:Jn w v l)(hw:∀s∈l,Qm s):
 Calls Tryz.prog 169 #[.int .i64 (l.length:Int),v] w fun e w'=>e=.returned (.int .i64 (Jo l.length l))/\Qg w w':=by
 obtain⟨A,c,rfl,QE,xY,HL⟩:=Vf h;have rV:=Qq hw;unfold maxLen at xY;clear h hw;by_cases hn:l.length<=64
 ·have wU:¬(64:Int) < (l.length:Int):=by omega
  have HC:=Qq (show Jo l.length l=if Zn l l.length then 1 else 0 by unfold Jo;rw [if_neg (by omega),if_neg (by simp)];rfl);obtain⟨n,zQ⟩:∃n,n=l.length:=⟨_,rfl⟩;have HN:=Qq zQ;rw [<-zQ]at HC hn;rw [<-zQ];have YR:¬(64:Int) < (n:Int):=by omega
  have gL:((n:Int) !=(n:Int))=false:=by simp
  have zG:l.length=n:=zQ.symm;clear zQ wU;go_enter Tryz.func169,Tryz.ntmps169;go_wp2_with fail;go_loopw [5] (fun v wr=>∃k:Nat,v=.int .i64 (k:Int)/\k<=n/\Hid (Qg w wr/\∀j,j < k->decide (l.getD j 0 < 2^n)=true)) (fun v _=>n - (intOf v).toNat)
  case atStart=>exact⟨0,rfl,Nat.zero_le _,Qq ⟨Qz,fun j hj=>absurd hj (by omega)⟩⟩
  case round =>
   obtain⟨k,rfl,hk,zY⟩:=hrel;have HX:=Qq zY.out.1;have HJ:=Qq zY.out.2;clear zY;by_cases hlt2:k < n
   ·have yV:(k:Int) < (n:Int):=by omega
    obtain⟨ad,rfl,zV,hc⟩:=HL.out k (by omega);have a0:=(HX.out.cell (p:=ad.add k) (Qj zV)).trans hc;have al:(ad.add k).block < wr.heap.size:=by rw [Qr];exact Qy zV HX.out.size
    have zD:=Qq (show decide (l.getD k 0 < 2^n)=true->∀j,j < k+1->decide (l.getD j 0 < 2^n)=true from fun h=>Do (P:=fun j=>decide (l.getD j 0 < 2^n)=true) HJ.out h);have sX:=Qq (show decide (l.getD k 0 < 2^n)=false->Zn l n=true from Qqy (by omega));have yF:=Qy1 (n:=n) (Yx rV.out k) hn;obtain⟨sx,sQ⟩:∃s,s=l.getD k 0:=⟨_,rfl⟩;rw [<-sQ]at a0 yF zD sX;clear hc sQ;go_upto_region 8 with(fail);cases hd:decide (sx < 2^n)
    ·rw [hd]at yF;have HD:=Qq hd;clear hd;refine wp_region_held_drew (S:=fun w'=>w'.cell? (ad.add k)=some (.int .u64 (sx:Int))) (by kernel_rfl) (xc al a0) (fun zZ=> ?_);refine tk 0 zZ ?_;refine tk 1 zZ ?_;refine tk 2 zZ ?_;refine tk 3 zZ ?_;refine tk 4 zZ ?_;refine wpAnyH_ready (rs:= [5]) (by kernel_rfl) (by simp) ?_;refine AllReadyH.cons rfl (fun K hK=> ?_) AllReadyH.nil;go_simp;refine(Qx6 n hn _).mono ?_;rintro e w3 ⟨rfl,rfl⟩;go_wp2_with fail;refine hK.out _ _ (xc al a0) (fun zZ=> ?_);clear hK K;refine Qd ?_;refine tk 6 zZ ?_;refine tk 7 zZ ?_;refine wpAnyH_done (by kernel_rfl) ?_ _
     have HE:=Qq (sX.out HD.out);go_wp2_with fail;go_ret;exact⟨by rw [HC.out,HE.out] <;> rfl,HX.out.trans Qz.drew⟩
    rw [hd]at yF;have HD:=Qq hd;clear hd;refine wp_region_held_drew (S:=fun w'=>w'.cell? (ad.add k)=some (.int .u64 (sx:Int))) (by kernel_rfl) (xc al a0) (fun zZ=> ?_);refine tk 0 zZ ?_;refine tk 1 zZ ?_;refine tk 2 zZ ?_;refine tk 3 zZ ?_;refine tk 4 zZ ?_;refine wpAnyH_ready (rs:= [5]) (by kernel_rfl) (by simp) ?_;refine AllReadyH.cons rfl (fun K hK=> ?_) AllReadyH.nil;go_simp;refine(Qx6 n hn _).mono ?_;rintro e w3 ⟨rfl,rfl⟩;go_wp2_with fail;refine hK.out _ _ (xc al a0) (fun zZ=> ?_);clear hK K;refine Qd ?_;refine tk 6 zZ ?_;refine tk 7 zZ ?_;refine wpAnyH_done (by kernel_rfl) ?_ _
    have HP:=Qq (zD.out HD.out);go_wp2_with fail;go_roundw
    case rel=>exact⟨k+1,by go_num,by omega,Qq ⟨HX.out.trans Qz.drew,HP.out⟩⟩
    case measure=>simp [intOf];omega
   obtain rfl:n=k:=by omega
   have HE:=Qq (show Zn l n=false from Om (by rw [zG];exact HJ.out));go_wp2_with fail;go_ret;exact⟨by rw [HC.out,HE.out] <;> rfl,HX.out⟩
 have wU:(64:Int) < (l.length:Int):=by omega
 have HC:=Qq (show Jo l.length l=2 by unfold Jo;rw [if_pos (by omega)]);go_enter Tryz.func169,Tryz.ntmps169;go_wp2_with fail;go_ret;exact⟨by rw [HC.out] <;> rfl,Qz⟩
theorem Nr(v:Value)(l:List Nat)(w:World)(h:Jn w v l)(hw:∀s∈l,Qm s):
 Calls Tryz.prog 108 #[v] w fun e w'=>e=.returned (.bool (Xv l))/\Qg w w':=by
 have H:=Qq h;have HW:=Qq hw;obtain⟨A,c,rfl,_⟩:=h;clear hw;go_enter Tryz.func108,Tryz.ntmps108;go_wp2_with fail;refine(Pg _ l _ H.out HW.out).mono ?_;rintro e w2 ⟨rfl,hx⟩;have HX:=Qq hx;clear hx;go_wp2_with fail;go_ret;exact⟨rfl,HX.out⟩
theorem Qrm(op:Int)(x y al:Nat)(w:World)(hx:Qm x)(hy:Qm y)(ha:Qm al):
 Calls Tryz.prog 212 #[.int .i64 op,.int .u64 (x:Int),.int .u64 (y:Int),.int .u64 (al:Int)] w fun e w'=>e=.returned (.int .u64 ((Gg op x y al:Nat):Int))/\w=w':=by
 have b1:=Yg (b:=x) ha hx;have b2:=Xk hx hy;have b3:=Xq hx hy;have b4:=Xq (Uy (b:=x) ha) hy;have b5:=Qvo hx hy;have b6:=Yg ha (Qk0 hx hy);by_cases h1:op=1
 ·subst h1;go_enter Tryz.func212,Tryz.ntmps212;go_wp2_with fail;go_ret;exact⟨rfl,rfl⟩
 by_cases h4:op=4
 ·subst h4;have HE:=Qq b1;clear b1 b2 b3 b4 b5 b6;go_enter Tryz.func212,Tryz.ntmps212;go_wp2_with fail;go_ret;exact⟨by rw [show Gg 4 x y al=Zl al x from rfl,<-HE.out] <;> rfl,rfl⟩
 by_cases h5:op=5
 ·subst h5;have HE:=Qq b2;clear b1 b2 b3 b4 b5 b6;go_enter Tryz.func212,Tryz.ntmps212;go_wp2_with fail;go_ret;exact⟨by rw [show Gg 5 x y al=x&&&y from rfl,<-HE.out] <;> rfl,rfl⟩
 by_cases h6:op=6
 ·subst h6;have HE:=Qq b3;clear b1 b2 b3 b4 b5 b6;go_enter Tryz.func212,Tryz.ntmps212;go_wp2_with fail;go_ret;exact⟨by rw [show Gg 6 x y al=x|||y from rfl,<-HE.out] <;> rfl,rfl⟩
 by_cases h7:op=7
 ·subst h7;have HE:=Qq b4;have GN:=Qq b1;clear b1 b2 b3 b4 b5 b6;go_enter Tryz.func212,Tryz.ntmps212;go_wp2_with fail;go_ret;exact⟨by rw [show Gg 7 x y al=Zl al x|||y from rfl,<-HE.out,<-GN.out] <;> rfl,rfl⟩
 by_cases h8:op=8
 ·subst h8;have HE:=Qq b6;have GN:=Qq b5;clear b1 b2 b3 b4 b5 b6;go_enter Tryz.func212,Tryz.ntmps212;go_wp2_with fail;go_ret;exact⟨by rw [show Gg 8 x y al=Zl al (x^^^y)from rfl,<-HE.out,<-GN.out] <;> rfl,rfl⟩
 have HE:=Qq (show Gg op x y al=0 by unfold Gg;rw [if_neg h1,if_neg h4,if_neg h5,if_neg h6,if_neg h7,if_neg h8]);have t1:(op==1)=false:=by simpa using h1
 have t4:(op==4)=false:=by simpa using h4
 have t5:(op==5)=false:=by simpa using h5
 have t6:(op==6)=false:=by simpa using h6
 have t7:(op==7)=false:=by simpa using h7
 have t8:(op==8)=false:=by simpa using h8
 clear b1 b2 b3 b4 b5 b6 h1 h4 h5 h6 h7 h8;go_enter Tryz.func212,Tryz.ntmps212;go_wp2_with fail;go_ret;exact⟨by rw [HE.out] <;> rfl,rfl⟩
theorem Qyg(v:Value)(r:List Nat)(n s:Nat)(w:World)(h:Jn w v r)(hw:∀s∈r,Qm s)(hn:n<=64)(hl:n<=r.length)(hs:Qm s):
 Calls Tryz.prog 213 #[v,.int .i64 (n:Int),.int .u64 (s:Int)] w fun e w'=>e=.returned (.int .u64 ((Vt r n s:Nat):Int))/\Qg w w':=by
 obtain⟨A,c,rfl,_,_,HL⟩:=Vf h;have rV:=Qq hw;have HS:=Qq hs;have IL:(n:Int)<=(r.length:Int):=by omega
 clear h hw hs;go_enter Tryz.func213,Tryz.ntmps213;go_wp2_with fail;go_loopw [7,8] (fun vo vi wr=>∃k:Nat,vi=.int .i64 (k:Int)/\k<=n/\vo=.int .u64 ((Yi k (fun i=>Jr (r.getD i 0) s):Nat):Int)/\Hid (Qg w wr)) (fun _ v _=>n - (intOf v).toNat)
 case atStart=>exact⟨0,rfl,Nat.zero_le _,rfl,Qq Qz⟩
 case round =>
  obtain⟨k,rfl,hk,rfl,HX⟩:=hrel;obtain⟨m,hm⟩:∃m,m=Yi k (fun i=>Jr (r.getD i 0) s):=⟨_,rfl⟩;have HM:=Qq hm;rw [<-hm];clear hm;by_cases hlt2:k < n
  ·have yV:(k:Int) < (n:Int):=by omega
   have wV:(k:Int) < (r.length:Int):=by omega
   have wI:k < 64:=by omega
   have vV:min k 64=k:=by omega
   obtain⟨ad,rfl,zV,hc⟩:=HL.out k (by omega);have a0:=(HX.out.cell (p:=ad.add k) (Qj zV)).trans hc;have al:(ad.add k).block < wr.heap.size:=by rw [Qr];exact Qy zV HX.out.size
   have hz:=Oa (Yx rV.out k) HS.out;have gV:=Qq (Bk k (fun i=>Jr (r.getD i 0) s));have aD:=Qq (Ep (s:=m) (k:=k) (by rw [HM.out];exact Fk (by omega) _) wI);obtain⟨x,hx⟩:∃x,x=r.getD k 0:=⟨_,rfl⟩;rw [<-hx]at a0 hz;have oO:=Qq hx;clear hc hx;cases hd:Jr x s
   ·rw [hd]at hz;have HP:=Qq (show Yi (k+1) (fun i=>Jr (r.getD i 0) s)=m by rw [gV.out,<-oO.out,hd,HM.out];rfl);clear hd;go_wp2_with fail;go_roundw
    case rel=>exact⟨k+1,by go_num,by omega,by rw [HP.out],HX⟩
    case measure=>simp [intOf];omega
   rw [hd]at hz;have HP:=Qq (show Yi (k+1) (fun i=>Jr (r.getD i 0) s)=m|||2^k by rw [gV.out,<-oO.out,hd,HM.out];rfl);have uW:=aD.out;clear hd;obtain⟨m2,xO⟩:∃m2,m2=m|||2^k:=⟨_,rfl⟩;rw [<-xO]at HP uW;clear xO;go_wp2_with fail;go_roundw
   case rel=>exact⟨k+1,by go_num,by omega,by rw [HP.out],HX⟩
   case measure=>simp [intOf];omega
  obtain rfl:n=k:=by omega
  go_wp2_with fail;go_ret;exact⟨by rw [show Vt r n s=m from HM.out.symm] <;> rfl,HX.out⟩
theorem Qh0(v:Value)(r:List Nat)(n a c:Nat)(w:World)(h:Jn w v r)(hw:∀s∈r,Qm s)(hn:n<=64)(hl:n<=r.length)(ha:a < n)(hc:Qm c):
 Calls Tryz.prog 223 #[v,.int .i64 (n:Int),.int .i64 (a:Int),.int .u64 (c:Int)] w fun e w'=>e=.returned (.int .u64 ((Bx r c n a:Nat):Int))/\Qg w w':=by
 obtain⟨A,cp,rfl,_,_,HL⟩:=Vf h;have rV:=Qq hw;have HC:=Qq hc;have IL:(n:Int)<=(r.length:Int):=by omega
 have ha1:(a:Int) < (r.length:Int):=by omega
 obtain⟨ad,rfl,zV,yU⟩:=HL.out a (by omega);have al0:(ad.add a).block < w.heap.size:=by rw [Qr];exact zV
 have yH:=Xk (Yx hw a) hc;obtain⟨s0,sI⟩:∃s,s=r.getD a 0&&&c:=⟨_,rfl⟩;have gX:=Qq sI;have EU:=Qq (show Qm s0 by rw [sI];exact Rk (Yx hw a));rw [<-sI]at yH;obtain⟨x,hx⟩:∃x,x=r.getD a 0:=⟨_,rfl⟩;rw [<-hx]at yU yH;clear h hw hc sI hx;go_enter Tryz.func223,Tryz.ntmps223;go_wp2_with fail;clear yU yH;go_loopw [9,10] (fun vs vi wr=>∃k:Nat,vi=.int .i64 (k:Int)/\k<=n/\∃s:Nat,vs=.int .u64 (s:Int)/\Hid (s=(List.range k).foldl (fun s _=>Ug r c n s) s0/\Qg w wr)) (fun _ v _=>n - (intOf v).toNat)
 case atStart=>exact⟨0,rfl,Nat.zero_le _,s0,rfl,Qq ⟨rfl,Qz⟩⟩
 case round =>
  obtain⟨k,rfl,hk,s,rfl,zY⟩:=hrel;have lI:=Qq zY.out.1;have HX:=Qq zY.out.2;have rD:=Qq (show Qm s by rw [lI.out];exact Bz (fun s _ hs=>Bz (fun _ _ h=>Qj5 rV.out h) n s hs) k _ EU.out);clear zY;by_cases hlt2:k < n
  ·have yV:(k:Int) < (n:Int):=by omega
   go_wp2_with fail;go_loopw [9,11] (fun vs vi wr=>∃q:Nat,vi=.int .i64 (q:Int)/\q<=n/\∃s2:Nat,vs=.int .u64 (s2:Int)/\Hid (s2=(List.range q).foldl (Sc r c) s/\Qg w wr)) (fun _ v _=>n - (intOf v).toNat)
   case atStart=>exact⟨0,rfl,Nat.zero_le _,s,rfl,Qq ⟨rfl,HX.out⟩⟩
   case round =>
    clear HX;obtain⟨q,rfl,hq,s2,rfl,zY⟩:=hrel;have nZ:=Qq zY.out.1;have HX:=Qq zY.out.2;have ER:=Qq (show Qm s2 by rw [nZ.out];exact Bz (fun _ _ h=>Qj5 rV.out h) q _ rD.out);clear zY;by_cases yW:q < n
    ·have PZ:(q:Int) < (n:Int):=by omega
     have RV:(q:Int) < (r.length:Int):=by omega
     have AS:q < 64:=by omega
     obtain⟨ad2,e2,dQ,tB⟩:=HL.out q (by omega);injection e2 with e2;subst e2;have a0:=(HX.out.cell (p:=ad.add q) (Qj dQ)).trans tB;have al:(ad.add q).block < wr.heap.size:=by rw [Qr];exact Qy dQ HX.out.size
     have yH:=Xk (Yx rV.out q) HC.out;have uW:=Xq ER.out (Rk (b:=c) (Yx rV.out q));have zA:=Qq (show(List.range (q+1)).foldl (Sc r c) s=if s2.testBit q then s2|||(r.getD q 0&&&c)else s2 by rw [Kq,<-nZ.out];rfl);obtain⟨y,hy⟩:∃y,y=r.getD q 0:=⟨_,rfl⟩;rw [<-hy]at a0 yH uW zA;obtain⟨z,hz⟩:∃z,z=y&&&c:=⟨_,rfl⟩;rw [<-hz]at yH uW zA;obtain⟨u,hu⟩:∃u,u=s2|||z:=⟨_,rfl⟩;rw [<-hu]at uW zA;clear tB dQ hy hz hu;obtain⟨tb,yK⟩:∃t,t=s2.testBit q:=⟨_,rfl⟩;have mY:=Qq yK;rw [<-yK]at zA;clear yK;go_wp2_with fail;refine(Ht s2 q _ AS).mono ?_;rintro e w4 ⟨rfl,rfl⟩
     rw [<-mY.out];cases tb
     ·go_wp2_with fail;go_roundw
      case rel=>exact⟨q+1,by go_num,by omega,s2,rfl,Qq ⟨by rw [zA.out];rfl,HX.out⟩⟩
      case measure=>simp [intOf];omega
     go_wp2_with fail;go_roundw
     case rel=>exact⟨q+1,by go_num,by omega,u,rfl,Qq ⟨by rw [zA.out];rfl,HX.out⟩⟩
     case measure=>simp [intOf];omega
    obtain rfl:n=q:=by omega
    have zA:=Qq (show(List.range (k+1)).foldl (fun s _=>Ug r c n s) s0=s2 by rw [Kq (f:=fun s _=>Ug r c n s),<-lI.out,nZ.out];rfl);go_wp2_with fail;go_roundw
    case rel=>exact⟨k+1,by go_num,by omega,s2,rfl,Qq ⟨zA.out.symm,HX.out⟩⟩
    case measure=>simp [intOf];omega
  obtain rfl:n=k:=by omega
  have HE:=Qq (show Bx r c n a=s by rw [lI.out,gX.out];rfl);go_wp2_with fail;go_ret;exact⟨by rw [HE.out] <;> rfl,HX.out⟩
theorem Qdh(v:Value)(r:List Nat)(n c s:Nat)(w:World)(h:Jn w v r)(hw:∀s∈r,Qm s)(hn:n<=64)(hl:n<=r.length)(hc:Qm c)(hs:Qm s):
 Calls Tryz.prog 216 #[v,.int .i64 (n:Int),.int .u64 (c:Int),.int .u64 (s:Int)] w fun e w'=>e=.returned (.int .u64 ((Xn r n c s:Nat):Int))/\Qg w w':=by
 have H:=Qq h;have rV:=Qq hw;have HS:=Qq hs;have HC:=Qq hc;obtain⟨A,cp,rfl,_⟩:=h;clear hw hs hc;go_enter Tryz.func216,Tryz.ntmps216;go_wp2_with fail;go_loopw [9,10] (fun vo vi wr=>∃k:Nat,vi=.int .i64 (k:Int)/\k<=n/\vo=.int .u64 ((Yi k (fun i=>Jr (Bx r c n i) s):Nat):Int)/\Hid (Qg w wr)) (fun _ v _=>n - (intOf v).toNat)
 case atStart=>exact⟨0,rfl,Nat.zero_le _,rfl,Qq Qz⟩
 case round =>
  obtain⟨k,rfl,hk,rfl,HX⟩:=hrel;obtain⟨m,hm⟩:∃m,m=Yi k (fun i=>Jr (Bx r c n i) s):=⟨_,rfl⟩;have HM:=Qq hm;rw [<-hm];clear hm;by_cases hlt2:k < n
  ·have yV:(k:Int) < (n:Int):=by omega
   have wI:k < 64:=by omega
   have vV:min k 64=k:=by omega
   have hz:=Oa (Qms rV.out c n k) HS.out;have gV:=Qq (Bk k (fun i=>Jr (Bx r c n i) s));have aD:=Qq (Ep (s:=m) (k:=k) (by rw [HM.out];exact Fk (by omega) _) wI);obtain⟨x,hx⟩:∃x,x=Bx r c n k:=⟨_,rfl⟩;rw [<-hx]at hz;have oO:=Qq hx;clear hx;go_wp2_with fail;refine(Qh0 _ r n k c _ (H.out.ext HX.out) rV.out hn hl hlt2 HC.out).mono ?_;rintro e w4 ⟨rfl,yA⟩;rw [<-oO.out];have yP:=Qq (HX.out.trans yA);clear yA;cases hd:Jr x s
   ·rw [hd]at hz;have HP:=Qq (show Yi (k+1) (fun i=>Jr (Bx r c n i) s)=m by rw [gV.out,<-oO.out,hd,HM.out];rfl);clear hd;go_wp2_with fail;go_roundw
    case rel=>exact⟨k+1,by go_num,by omega,by rw [HP.out],yP⟩
    case measure=>simp [intOf];omega
   rw [hd]at hz;have HP:=Qq (show Yi (k+1) (fun i=>Jr (Bx r c n i) s)=m|||2^k by rw [gV.out,<-oO.out,hd,HM.out];rfl);have uW:=aD.out;clear hd;obtain⟨m2,xO⟩:∃m2,m2=m|||2^k:=⟨_,rfl⟩;rw [<-xO]at HP uW;clear xO;go_wp2_with fail;go_roundw
   case rel=>exact⟨k+1,by go_num,by omega,by rw [HP.out],yP⟩
   case measure=>simp [intOf];omega
  obtain rfl:n=k:=by omega
  go_wp2_with fail;go_ret;exact⟨by rw [show Xn r n c s=m from HM.out.symm] <;> rfl,HX.out⟩
theorem Qqq(g k:Nat):(⟨g,0,none⟩:Addr).add k=⟨g,k,none⟩:=by unfold Addr.add;cases k <;> simp
def uV(l:List Nat):List Value:=l.map fun(u:Nat)=>Value.int .u64 (u:Int)
theorem Dx:(Tryz.prog.info? 41).map (fun i=>(i.zero,i.size,i.bytes))=some (some (.int .u64 0),1,8):=by kernel_rfl
def Zf(base:Nat)(w:World)(v:Value)(l:List Nat):Prop:=w.ownsRow base 41 1 v l.length (uV l)
section
variable {base:Nat} {w w':World} {v:Value} {l:List Nat} {g n cap k:Nat}
theorem Zf.ext(h:Zf base w v l)(he:Qg w w'):Zf base w' v l:=Zg h he
theorem Zf.nil(base:Nat)(w:World):Zf base w (.slice none 0 0) []:=World.ownsRow_nil _ _ _ _
theorem Zf.slice(h:Zf base w v l)(h0:0 < l.length):∃g cap,v=.slice (some ⟨g,0,none⟩) l.length cap/\g < w.heap.size/\base<=g/\l.length<=cap/\cap<=maxLen/\(∀i,i < l.length->w.cell? ⟨g,i,none⟩=some (.int .u64 ((l.getD i 0:Nat):Int)))/\∀i,w.frozen? ⟨g,i,none⟩=false:=by
 rcases h.2 with⟨_,e0⟩|⟨g,cap,cur,rfl,hb,hg,gM,hm,hs,ht⟩
 ·omega
 refine⟨g,cap,rfl,Qn hg,hb,gM,hm,fun i hi=> ?_,fun i=>by simp [World.frozen?,hg]⟩;have h1:(uV l)[i]?=some (.int .u64 ((l.getD i 0:Nat):Int)):=by
  unfold uV;rw [List.getElem?_map,Qk,Qv hi];rfl
 rw [<-ht,List.getElem?_take]at h1
 split at h1
 ·have h2:cur[i]?=some (.int .u64 ((l.getD i 0:Nat):Int)):=by simpa using h1
  simp [World.cell?,hg,h2]
 cases h1
theorem Zf.at_(h:Zf base w (.slice (some ⟨g,0,none⟩) n cap) l)(h0:0 < l.length):n=l.length/\g < w.heap.size/\base<=g/\n<=cap/\cap<=maxLen/\(∀i,i < l.length->w.cell? ⟨g,i,none⟩=some (.int .u64 ((l.getD i 0:Nat):Int)))/\∀i,w.frozen? ⟨g,i,none⟩=false:=by
 obtain⟨g',cap',e,h1,h2,h3,h4,h5,h6⟩:=h.slice h0;injection e with e1 e2 e3;injection e1 with e1;injection e1 with e1;subst e1 e2 e3;exact⟨rfl,h1,h2,h3,h4,h5,h6⟩
theorem Zf.u64s(h:Zf base w v l):Jn w v l:=by
 rcases Nat.eq_zero_or_pos l.length with h0|h0
 ·have:l= []:=List.length_eq_zero_iff.1 h0;subst this;rcases h.2 with⟨e,_⟩|⟨g,cap,cur,rfl,hb,hg,gM,hm,hs,ht⟩
  ·subst e;exact Qko w
  exact⟨_,cap,rfl,gM,hm,fun h=>absurd rfl h⟩
 obtain⟨g,cap,rfl,h1,_,h3,h4,h5,_⟩:=h.slice h0;refine⟨_,cap,rfl,h3,h4,fun _=>⟨_,rfl,h1,fun k z hk=> ?_⟩⟩;have rJ:=(List.getElem?_eq_some_iff.1 hk).1;have:=h5 k rJ;rw [Qqq,this,Qk,hk];rfl
theorem Zf.set(h:Zf base w (.slice (some ⟨g,0,none⟩) n cap) l)(hn:l.length=n)(j s:Nat):Zf base (w.setCell ⟨g,j,none⟩ (.int .u64 (s:Int))) (.slice (some ⟨g,0,none⟩) n cap) (l.set j s):=by
 subst hn;have h1:=(World.ownsRow.stored h j (.int .u64 (s:Int))).1;unfold Zf uV;rw [List.length_set,List.map_set];exact h1
theorem Sz(w:World)(t:TypeId):(w.alloc (.cells #[] t)).ownsRow w.heap.size t 1 (.slice (some ⟨w.heap.size,0,none⟩) 0 0) 0 []:=
 ⟨rfl,.inr ⟨w.heap.size,0,#[],rfl,Nat.le_refl _,heap_alloc_new _ _,Nat.le_refl _,by unfold maxLen;omega,rfl,rfl⟩⟩
theorem De {ad:Addr}(h:∀i,i < l.length->w.cell? (ad.add i)=some (.int .u64 ((l.getD i 0:Nat):Int))):∀(j:Nat) u,(uV l)[j]?=some u->w.cell? (ad.add j)=some u:=fun j u hj=>by
 unfold uV at hj;rw [List.getElem?_map]at hj;cases e:l[j]? with
 |none=>rw [e]at hj;cases hj
 |some x =>
  rw [e]at hj;have hk:=(List.getElem?_eq_some_iff.1 e).1;rw [h j hk,Qk,e];exact hj
theorem Wj(l:List Nat):∀u∈uV l,u.oneCell'=true:=fun u hu=>by
 obtain⟨x,_,rfl⟩:=List.mem_map.1 hu;rfl
theorem Wz(l:List Nat):(uV l).length=l.length:=by simp [uV]
end
theorem Hl(va vb:Value)(a b:List Nat)(w:World)(ha:Jn w va a)(hb:Jn w vb b):
 Calls Tryz.prog 174 #[va,vb] w fun e w'=>e=.returned (.bool (decide (a=b)))/\Qg w w':=by
 obtain⟨Aa,ca,rfl,TI,TH,HA⟩:=Vf ha;unfold maxLen at TH;obtain⟨Ab,cb,rfl,_,_,HB⟩:=Vf hb;clear ha hb;by_cases hl:a.length=b.length
 ·have HL:=Qq hl;obtain⟨n,hn⟩:∃n,n=a.length:=⟨_,rfl⟩;have hH:=Qq hn;rw [<-hn]at hl HA TI⊢;rw [<-hl]at HB⊢;have uD:((n:Int) !=(n:Int))=false:=by simp
  clear hn hl;go_enter Tryz.func174,Tryz.ntmps174;go_wp2_with fail;go_loopw [5] (fun v wr=>∃k:Nat,v=.int .i64 (k:Int)/\k<=n/\Hid (Qg w wr/\∀j,j < k->a.getD j 0=b.getD j 0)) (fun v _=>n - (intOf v).toNat)
  case atStart=>exact⟨0,rfl,Nat.zero_le _,Qq ⟨Qz,fun j hj=>absurd hj (by omega)⟩⟩
  case round =>
   obtain⟨k,rfl,hk,zY⟩:=hrel;have HX:=Qq zY.out.1;have HJ:=Qq zY.out.2;clear zY;by_cases hlt2:k < n
   ·have yV:(k:Int) < (n:Int):=by omega
    obtain⟨ad,rfl,zV,hc⟩:=HA.out k hlt2;obtain⟨bd,rfl,lZ,hd⟩:=HB.out k hlt2;have a0:=(HX.out.cell (p:=ad.add k) (Qj zV)).trans hc;have al:(ad.add k).block < wr.heap.size:=by rw [Qr];exact Qy zV HX.out.size
    have b0:=(HX.out.cell (p:=bd.add k) (Qj lZ)).trans hd;have bl:(bd.add k).block < wr.heap.size:=by rw [Qr];exact Qy lZ HX.out.size
    have zD:=Qq (show a.getD k 0=b.getD k 0->∀j,j < k+1->a.getD j 0=b.getD j 0 from fun h=>Do (P:=fun j=>a.getD j 0=b.getD j 0) HJ.out h);have sX:=Qq (show a.getD k 0≠b.getD k 0->decide (a=b)=false from fun h=>decide_eq_false fun e=>h (by rw [e]));obtain⟨x,hx⟩:∃x,x=a.getD k 0:=⟨_,rfl⟩;obtain⟨y,hy⟩:∃y,y=b.getD k 0:=⟨_,rfl⟩;rw [<-hx]at a0 zD sX;rw [<-hy]at b0 zD sX;clear hc hd hx hy;go_upto_region 6 with(fail);by_cases hq:x=y
    ·have HP:=Qq (zD.out hq);have zQ:((x:Int) !=(y:Int))=false:=by rw [hq];simp
     clear hq;refine wp_region_held_drew (S:=fun w'=>w'.cell? (ad.add k)=some (.int .u64 (x:Int))/\w'.cell? (bd.add k)=some (.int .u64 (y:Int))) (by kernel_rfl) ⟨xc al a0,xc bl b0⟩ (fun zZ=> ?_);refine tk 0 zZ ?_;refine tk 1 zZ ?_;refine tk 2 zZ ?_;refine tk 3 zZ ?_;refine tk 4 zZ ?_;refine tk 5 zZ ?_;refine tk 6 zZ ?_;refine tk 7 zZ ?_;refine tk 8 zZ ?_;refine wpAnyH_done (by kernel_rfl) ?_ _;go_wp2_with fail;go_roundw
     case rel=>exact⟨k+1,by go_num,by omega,Qq ⟨HX.out.trans Qz.drew,HP.out⟩⟩
     case measure=>simp [intOf];omega
    have HE:=Qq (sX.out hq);have zQ:((x:Int) !=(y:Int))=true:=by simp;omega
    clear hq;refine wp_region_held_drew (S:=fun w'=>w'.cell? (ad.add k)=some (.int .u64 (x:Int))/\w'.cell? (bd.add k)=some (.int .u64 (y:Int))) (by kernel_rfl) ⟨xc al a0,xc bl b0⟩ (fun zZ=> ?_);refine tk 0 zZ ?_;refine tk 1 zZ ?_;refine tk 2 zZ ?_;refine tk 3 zZ ?_;refine tk 4 zZ ?_;refine tk 5 zZ ?_;refine tk 6 zZ ?_;refine tk 7 zZ ?_;refine tk 8 zZ ?_;refine wpAnyH_done (by kernel_rfl) ?_ _;go_wp2_with fail;go_ret;exact⟨by rw [HE.out] <;> rfl,HX.out.trans Qz.drew⟩
   obtain rfl:n=k:=by omega
   have HE:=Qq (show decide (a=b)=true from decide_eq_true (Ox HL.out (by rw [<-hH.out];exact HJ.out)));go_wp2_with fail;go_ret;exact⟨by rw [HE.out] <;> rfl,HX.out⟩
 have zQ:((a.length:Int) !=(b.length:Int))=true:=by simp;omega
 have HE:=Qq (show decide (a=b)=false from decide_eq_false fun e=>hl (by rw [e]));go_enter Tryz.func174,Tryz.ntmps174;go_wp2_with fail;go_ret;exact⟨by rw [HE.out] <;> rfl,Qz⟩
theorem Qx9(v:Value)(l:List Nat)(w:World)(h:Jn w v l)(hw:∀s∈l,Qm s)(hv:Xv l=true)(h0:0 < l.length):
 Calls Tryz.prog 170 #[v] w fun e w'=>∃u,e=.returned (.tuple #[u,.int .i64 0])/\Qg w w'/\Zf w.heap.size w' u (Nh l l.length):=by
 have H:=Qq h;have HW:=Qq hw;have rI:=(Fg.1 hv).1;have HV:=Qq (show Jo l.length l=0 by unfold Xv at hv;simpa using hv);obtain⟨A,c,rfl,_,_,HL⟩:=Vf h;obtain⟨iU,sG,xF,xE,xD⟩:=info_parts Dx;clear h hw hv;go_enter Tryz.func170,Tryz.ntmps170;go_wp2_with fail;refine(Pg _ l _ H.out HW.out).mono ?_;rintro e w2 ⟨rfl,zS⟩;rw [HV.out];have zT:=Qq zS;clear zS;obtain⟨ad,rfl,zV,_⟩:=HL.out 0 h0;have sV:=Qq (show ∀(j:Nat) u,(uV l)[j]?=some u->(w2.alloc (.cells #[] 41)).cell? (ad.add j)=some u from De fun i hi=>by
  obtain⟨ad2,e,_,hc⟩:=HL.out i hi;injection e with e;subst e;exact((zT.out.alloc _).cell (p:=ad.add i) (Qj zV)).trans hc)
 have uB:=Qq (Sz w2 41);obtain⟨n,hn⟩:∃n,n=l.length:=⟨_,rfl⟩;have HN:=Qq hn;rw [<-hn]at rI h0⊢;have uS:0+n<=maxLen:=by unfold maxLen;omega
 have xO:(0+n)*8<=140737488355328:=by omega
 clear hn;go_wp2_with(at_builtin;refine wpList_append_own_at _ rfl _ _ 23 rfl w2.heap.size 41 iU (.int .u64 0) 1 8 Tryz.underlying23 sG xF xE xD rfl (by decide) _ 0 [] rfl uB.out ad n c (uV l) rfl (by rw [Wz,Nat.mul_one];exact HN.out.symm) sV.out (Wj l) uS xO (by simp) ?_);intro v3 w3 xW yG _ _;have zB:=Qq (show Qg w w3 from(zT.out.alloc _).grown yG (fun k hk=>by have h1:=zT.out.size;have h2:w2.heap.size=k:=Option.some.inj hk;omega));have HM:=Qq (show Zf w.heap.size w3 v3 l by
  unfold Zf;rw [<-HN.out];exact Kp xW zT.out.size)
 clear xW yG;obtain⟨g,cap,rfl,xK,tV,_,xY,_,_⟩:=HM.out.slice (by rw [<-HN.out];exact h0);rw [<-HN.out]at HM⊢;clear xK;go_wp2_with fail;go_loopw [6] (fun v wr=>∃k:Nat,v=.int .i64 (k:Int)/\k<=n/\Hid (Qg w wr/\Zf w.heap.size wr (.slice (some ⟨g,0,none⟩) n cap) (Nh l k))) (fun v _=>n - (intOf v).toNat)
 case atStart=>exact⟨0,rfl,Nat.zero_le _,Qq ⟨zB.out,by rw [Qmh];exact HM.out⟩⟩
 case round =>
  obtain⟨k,rfl,hk,zY⟩:=hrel;have HX:=Qq zY.out.1;have HR:=Qq zY.out.2;clear zY;by_cases hlt2:k < n
  ·have yV:(k:Int) < (n:Int):=by omega
   have wI:k < 64:=by omega
   have vV:min k 64=k:=by omega
   obtain⟨_,gl,_,_,_,yR,xM⟩:=HR.out.at_ (by rw [Bg,<-HN.out];exact h0);have gc:=yR k (by rw [Bg,<-HN.out];exact hlt2);have gf:=xM k;rw [Cf (by rw [<-HN.out];exact hlt2),if_neg (Nat.lt_irrefl _)]at gc;obtain⟨y,hy⟩:∃y,y=l.getD k 0|||2^k:=⟨_,rfl⟩;have uW:bits .or .u64 ((l.getD k 0:Nat):Int) (IntKind.u64.wrap ((2:Int)^k))=(y:Int):=by
    rw [Sg wI,hy];exact Xq (Yx HW.out k) (Qy (Nat.pow_lt_pow_right (by decide) (Nat.lt_succ_self k)) (Nw (show k+1<=64 by omega)))
   have zA:=Qq (show Zf w.heap.size (wr.setCell ⟨g,k,none⟩ (.int .u64 (y:Int))) (.slice (some ⟨g,0,none⟩) n cap) (Nh l (k+1)) by
    rw [<-Qmc (by rw [<-HN.out];exact hlt2),<-hy];exact HR.out.set (by rw [Bg];exact HN.out.symm) k y)
   obtain⟨x,hx⟩:∃x,x=l.getD k 0:=⟨_,rfl⟩;rw [<-hx]at gc uW;clear yR xM hx hy;go_wp2_with fail;go_roundw
   case rel=>exact⟨k+1,by go_num,by omega,Qq ⟨HX.out.setCell (p:=⟨g,k,none⟩) tV _,zA.out⟩⟩
   case measure=>simp [intOf];omega
  obtain rfl:n=k:=by omega
  go_wp2_with fail;go_ret2;exact⟨_,rfl,HX.out,by rw [<-HN.out];exact HR.out⟩
def Wx(w:World)(g n:Nat):Nat:=(List.range (n*n)).countP fun k=>match w.cell? ⟨g,k / n,none⟩with|some (.int _ z)=> !z.toNat.testBit (k % n)|_=>true
def Zv4(v:Value):Nat:=match v with| .bool true=>1|_=>0
theorem Qgv {bs g n cap:Nat} {w:World} {l:List Nat}(h:Zf bs w (.slice (some ⟨g,0,none⟩) n cap) l)(h0:0 < l.length):Wx w g n=Dg n l:=by
 obtain⟨hn,_,_,_,_,hc,_⟩:=h.at_ h0;unfold Wx Dg;refine List.countP_congr fun k hk=> ?_
 have wV:k / n < l.length:=by
  rw [<-hn];have:=List.mem_range.1 hk;exact Nat.div_lt_of_lt_mul this
 rw [hc _ wV];show(!((l.getD (k / n) 0:Nat):Int).toNat.testBit (k % n))=true↔_;rw [Int.toNat_natCast]
structure GwS (eu:Bool) (w wr:World) (g cap n:Nat) (r out:List Nat):Prop where
 ext:Qg w wr
 row:Zf w.heap.size wr (.slice (some ⟨g,0,none⟩) n cap) out
 grw:Tf eu r out n
theorem Qd6(eu:Bool)(v:Value)(r:List Nat)(w:World)(h:Jn w v r)(rI:r.length<=64)(hb:Zn r r.length=false)(h0:0 < r.length):
 Calls Tryz.prog 205 #[v,.bool eu] w fun e w'=>∃u,e=.returned u/\Qg w w'/\∃out,Zf w.heap.size w' u out/\(out=r↔Gy eu r):=by
 obtain⟨A,c,rfl,_,_,HL⟩:=Vf h;obtain⟨iU,sG,xF,xE,xD⟩:=info_parts Dx;clear h;obtain⟨ad,rfl,zV,_⟩:=HL.out 0 h0;have sV:=Qq (show ∀(j:Nat) u,(uV r)[j]?=some u->(w.alloc (.cells #[] 41)).cell? (ad.add j)=some u from De fun i hi=>by
  obtain⟨ad2,e,_,hc⟩:=HL.out i hi;injection e with e;subst e;exact(((Qg.refl w).alloc _).cell (p:=ad.add i) (Qj zV)).trans hc)
 have uB:=Qq (Sz w 41);have GF:=Qq (Tf.start (eu:=eu) (r:=r) rfl hb);obtain⟨n,hn⟩:∃n,n=r.length:=⟨_,rfl⟩;have HN:=Qq hn;rw [<-hn]at rI h0 GF⊢;have uS:0+n<=maxLen:=by unfold maxLen;omega
 have xO:(0+n)*8<=140737488355328:=by omega
 clear hn hb;go_enter Tryz.func205,Tryz.ntmps205;go_wp2_with(at_builtin;refine wpList_append_own_at _ rfl _ _ 23 rfl w.heap.size 41 iU (.int .u64 0) 1 8 Tryz.underlying23 sG xF xE xD rfl (by decide) _ 0 [] rfl uB.out ad n c (uV r) rfl (by rw [Wz,Nat.mul_one];exact HN.out.symm) sV.out (Wj r) uS xO (by simp) ?_);intro v3 w3 xW yG _ _;have zB:=Qq (show Qg w w3 from((Qg.refl w).alloc _).grown yG (fun k hk=>by have h2:w.heap.size=k:=Option.some.inj hk;omega));have HM:=Qq (show Zf w.heap.size w3 v3 r by
  unfold Zf;rw [<-HN.out];exact xW)
 clear xW yG;obtain⟨g,cap,rfl,xK,tV,_,xY,_,_⟩:=HM.out.slice (by rw [<-HN.out];exact h0);rw [<-HN.out]at HM⊢;have gX:=Qq (show GwS eu w w3 g cap n r r from⟨zB.out,HM.out,GF.out⟩);have KY:n<=64:=rI;clear xK HM zB GF;go_wp2_with fail;go_loopw [6] (fun vc wr=>∃fl:Bool,vc=.bool fl/\Hid (∃out,GwS eu w wr g cap n r out/\(fl=false->∀a,a < n->∀b,b < n->Ds eu out a b))) (fun vc wr=>2*Wx wr g n+Zv4 vc)
 case atStart=>exact⟨true,rfl,Qq ⟨r,gX.out,fun e=>by cases e⟩⟩
 case round =>
  clear gX;obtain⟨fl,rfl,zY⟩:=hrel;obtain⟨out0,sI,oY⟩:=zY.out;have gX:=Qq sI;have jJ:=Qq oY;clear zY sI oY;cases fl
  ·have HD:=Qq (gX.out.grw.done HN.out.symm (jJ.out (by trivial)));go_wp2_with fail;go_ret
   first
   |exact⟨_,rfl,gX.out.ext,out0,gX.out.row,HD.out⟩
   |exact⟨gX.out.ext,out0,gX.out.row,HD.out⟩
  have DS:=Qq (Qgv gX.out.row (by rw [gX.out.grw.len];exact h0));obtain⟨wp,hwp⟩:∃v,v=wr:=⟨_,rfl⟩;subst hwp;go_wp2_with fail;go_loopw [6,7] (fun vc vi wr=>∃a:Nat,vi=.int .i64 (a:Int)/\a<=n/\∃fl:Bool,vc=.bool fl/\Hid (∃out,GwS eu w wr g cap n r out/\(fl=false->∀a',a' < a->∀b,b < n->Ds eu out a' b)/\Dg n out<=Dg n out0/\(fl=true->Dg n out < Dg n out0))) (fun _ vi _=>n - (intOf vi).toNat)
  case atStart=>exact⟨0,rfl,Nat.zero_le _,false,rfl,Qq ⟨out0,gX.out,(fun _ a' DI=>absurd DI (by omega)),Nat.le_refl _,fun e=>by cases e⟩⟩
  case round =>
   obtain⟨a,rfl,ha,fl,rfl,zY⟩:=hrel;by_cases hlt2:a < n
   ·have yV:(a:Int) < (n:Int):=by omega
    obtain⟨wq,vC⟩:∃v,v=wr:=⟨_,rfl⟩;subst vC;go_wp2_with fail;go_loopw [6,8] (fun vc vi wr=>∃b:Nat,vi=.int .i64 (b:Int)/\b<=n/\∃fl:Bool,vc=.bool fl/\Hid (∃out,GwS eu w wr g cap n r out/\(fl=false->(∀a',a' < a->∀b,b < n->Ds eu out a' b)/\∀b',b' < b->Ds eu out a b')/\Dg n out<=Dg n out0/\(fl=true->Dg n out < Dg n out0))) (fun _ vi _=>n - (intOf vi).toNat)
    case atStart =>
     obtain⟨out,h1,h2,h3,h4⟩:=zY.out;exact⟨0,rfl,Nat.zero_le _,fl,rfl,Qq ⟨out,h1,fun e=>⟨h2 e,fun b' IW=>absurd IW (by omega)⟩,h3,h4⟩⟩
    case round =>
     clear zY;obtain⟨b,rfl,hb,fl,rfl,zY⟩:=hrel;obtain⟨out,hs,fP,oE,jR⟩:=zY.out;have HS:=Qq hs;have qK:=Qq fP;have bE:=Qq oE;have QN:=Qq jR;clear zY hs fP oE jR;by_cases yW:b < n
     ·have wV:(b:Int) < (n:Int):=by omega
      have DA:b < 64:=by omega
      obtain⟨-,gl,-,-,-,yR,xM⟩:=HS.out.row.at_ (by rw [HS.out.grw.len];exact h0);have ca:=yR a (by rw [HS.out.grw.len];exact hlt2);have cb:=yR b (by rw [HS.out.grw.len];exact yW);have wW:=Qq xM;have TZ:=Qq (show Qm (out.getD a 0)from Qy (HS.out.grw.lt a hlt2) (Nw KY));have EF:=Qq (show Qm (out.getD b 0)from Qy (HS.out.grw.lt b yW) (Nw KY));have zD:=Qq (show Ds eu out a b->∀fl:Bool,(fl=false->(∀a',a' < a->∀b,b < n->Ds eu out a' b)/\∀b',b' < b->Ds eu out a b')->(fl=false->(∀a',a' < a->∀b,b < n->Ds eu out a' b)/\∀b',b' < b+1->Ds eu out a b')from fun h fl h1 e=>⟨(h1 e).1,Do (P:=fun b'=>Ds eu out a b') (h1 e).2 h⟩)
      obtain⟨x,hx⟩:∃x,x=out.getD a 0:=⟨_,rfl⟩;obtain⟨y,hy⟩:∃y,y=out.getD b 0:=⟨_,rfl⟩;have oO:=Qq hx;have DX:=Qq hy;rw [<-hx]at ca TZ;rw [<-hy]at cb EF;clear yR xM hx hy;obtain⟨tb,yK⟩:∃t,t=x.testBit b:=⟨_,rfl⟩;have mY:=Qq yK;clear yK;go_wp2_with fail;refine(Qh9 x b _ DA TZ.out).mono ?_;rintro e w4 ⟨rfl,rfl⟩;rw [<-mY.out];cases tb
      ·have HP:=Qq (zD.out (Qi7 (by rw [<-oO.out];exact mY.out.symm)) fl qK.out);go_wp2_with fail;go_roundw
       case rel=>exact⟨b+1,by go_num,by omega,fl,rfl,Qq ⟨out,HS.out,HP.out,bE.out,QN.out⟩⟩
       case measure=>simp [intOf];omega
      cases eu
      ·skip
       obtain⟨z,hz⟩:∃z,z=x|||y:=⟨_,rfl⟩;have uW:bits .or .u64 (x:Int) (y:Int)=(z:Int):=by rw [hz];exact Xq TZ.out EF.out
       have TU:=Qq (show z=out.getD (Rg false a b) 0|||On false out a b by rw [hz,oO.out,DX.out];rfl);have fD:=Qq (show x=out.getD (Rg false a b) 0 from oO.out);have gf:=wW.out a;clear hz;go_upto_region 12 with(fail);refine wp_region_held_drew (S:=fun w'=>w'.cell? (⟨g,a,none⟩)=some (.int .u64 (x:Int))/\w'.cell? (⟨g,b,none⟩)=some (.int .u64 (y:Int))) (by kernel_rfl) ⟨xc gl ca,xc gl cb⟩ (fun zZ=> ?_);refine tk 0 zZ ?_;refine tk 1 zZ ?_;refine tk 2 zZ ?_;refine tk 3 zZ ?_;refine tk 4 zZ ?_;refine tk 5 zZ ?_;refine tk 6 zZ ?_;refine wpAnyH_done (by kernel_rfl) ?_ _;obtain⟨W1,tL⟩:∃v,v=wr.drew:=⟨_,rfl⟩
       have vA:=Qq (show Qg wr W1 by rw [tL];exact Qz.drew);rw [<-tL];clear tL;have ca:=(vA.out.cell (p:=⟨g,a,none⟩) gl).trans ca;have cb:=(vA.out.cell (p:=⟨g,b,none⟩) gl).trans cb;have gf:=(vA.out.frozen (p:=⟨g,a,none⟩) gl).trans gf;have gl:=Qy gl vA.out.size;go_upto_region 15 with(fail);by_cases hzx:z=x
       ·have zQ:((z:Int) !=(x:Int))=false:=by rw [hzx];simp
        have HP:=Qq (zD.out (Qfj (by rw [<-TU.out,<-fD.out];exact hzx)) fl qK.out);clear hzx;refine wp_region_held_drew (S:=fun w'=>w'.cell? (⟨g,a,none⟩)=some (.int .u64 (x:Int))/\w'.cell? (⟨g,b,none⟩)=some (.int .u64 (y:Int))) (by kernel_rfl) ⟨xc gl ca,xc gl cb⟩ (fun zZ=> ?_);refine tk 0 zZ ?_;refine tk 1 zZ ?_;refine tk 2 zZ ?_;refine tk 3 zZ ?_;refine tk 4 zZ ?_;refine tk 5 zZ ?_;refine tk 6 zZ ?_;refine tk 7 zZ ?_;refine tk 8 zZ ?_;refine tk 9 zZ ?_;refine tk 10 zZ ?_;refine wpAnyH_done (by kernel_rfl) ?_ _;go_wp2_with fail;go_roundw
        case rel=>exact⟨b+1,by go_num,by omega,fl,rfl,Qq ⟨out,⟨HS.out.ext.trans (vA.out.trans Qz.drew),HS.out.row.ext (vA.out.trans Qz.drew),HS.out.grw⟩,HP.out,bE.out,QN.out⟩⟩
        case measure=>simp [intOf];omega
       have zQ:((z:Int) !=(x:Int))=true:=by simp;omega
       have zA:=Qq (HS.out.grw.step hlt2 yW (by rw [<-oO.out];exact mY.out.symm) (by rw [<-TU.out,<-fD.out];exact hzx));rw [<-TU.out]at zA;clear hzx;refine wp_region_held_drew (S:=fun w'=>w'.cell? (⟨g,a,none⟩)=some (.int .u64 (x:Int))/\w'.cell? (⟨g,b,none⟩)=some (.int .u64 (y:Int))) (by kernel_rfl) ⟨xc gl ca,xc gl cb⟩ (fun zZ=> ?_);refine tk 0 zZ ?_;refine tk 1 zZ ?_;refine tk 2 zZ ?_;refine tk 3 zZ ?_;refine tk 4 zZ ?_;refine tk 5 zZ ?_;refine tk 6 zZ ?_;refine tk 7 zZ ?_;refine tk 8 zZ ?_;refine tk 9 zZ ?_;refine tk 10 zZ ?_;refine wpAnyH_done (by kernel_rfl) ?_ _
       have NH:=Qq (vA.out.trans Qz.drew);have tM:=Qq (((HS.out.row.ext NH.out)).set HS.out.grw.len a z);go_wp2_with fail;go_roundw
       case rel=>exact⟨b+1,by go_num,by omega,true,rfl,Qq ⟨_,⟨(HS.out.ext.trans NH.out).setCell (p:=⟨g,a,none⟩) tV _,tM.out,zA.out.1⟩,(fun e=>by cases e),Nat.le_of_lt (Qy zA.out.2 bE.out),fun _=>Qy zA.out.2 bE.out⟩⟩
       case measure=>simp [intOf];omega
      skip
      obtain⟨z,hz⟩:∃z,z=y|||x:=⟨_,rfl⟩;have uW:bits .or .u64 (y:Int) (x:Int)=(z:Int):=by rw [hz];exact Xq EF.out TZ.out
      have TU:=Qq (show z=out.getD (Rg true a b) 0|||On true out a b by rw [hz,oO.out,DX.out];rfl);have fD:=Qq (show y=out.getD (Rg true a b) 0 from DX.out);have gf:=wW.out b;clear hz;go_upto_region 12 with(fail);refine wp_region_held_drew (S:=fun w'=>w'.cell? (⟨g,a,none⟩)=some (.int .u64 (x:Int))/\w'.cell? (⟨g,b,none⟩)=some (.int .u64 (y:Int))) (by kernel_rfl) ⟨xc gl ca,xc gl cb⟩ (fun zZ=> ?_);refine tk 0 zZ ?_;refine tk 1 zZ ?_;refine tk 2 zZ ?_;refine tk 3 zZ ?_;refine tk 4 zZ ?_;refine tk 5 zZ ?_;refine tk 6 zZ ?_;refine wpAnyH_done (by kernel_rfl) ?_ _;obtain⟨W1,tL⟩:∃v,v=wr.drew:=⟨_,rfl⟩
      have vA:=Qq (show Qg wr W1 by rw [tL];exact Qz.drew);rw [<-tL];clear tL;have ca:=(vA.out.cell (p:=⟨g,a,none⟩) gl).trans ca;have cb:=(vA.out.cell (p:=⟨g,b,none⟩) gl).trans cb;have gf:=(vA.out.frozen (p:=⟨g,b,none⟩) gl).trans gf;have gl:=Qy gl vA.out.size;go_upto_region 14 with(fail);refine wp_region_held_drew (S:=fun w'=>w'.cell? (⟨g,a,none⟩)=some (.int .u64 (x:Int))/\w'.cell? (⟨g,b,none⟩)=some (.int .u64 (y:Int))) (by kernel_rfl) ⟨xc gl ca,xc gl cb⟩ (fun zZ=> ?_);refine tk 0 zZ ?_;refine tk 1 zZ ?_;refine tk 2 zZ ?_;refine tk 3 zZ ?_;refine tk 4 zZ ?_;refine tk 5 zZ ?_
      refine tk 6 zZ ?_;refine wpAnyH_done (by kernel_rfl) ?_ _;obtain⟨W2,fS⟩:∃v,v=W1.drew:=⟨_,rfl⟩;have uM:=Qq (show Qg W1 W2 by rw [fS];exact Qz.drew);rw [<-fS];clear fS;have ca:=(uM.out.cell (p:=⟨g,a,none⟩) gl).trans ca;have cb:=(uM.out.cell (p:=⟨g,b,none⟩) gl).trans cb;have gf:=(uM.out.frozen (p:=⟨g,b,none⟩) gl).trans gf;have gl:=Qy gl uM.out.size;go_upto_region 15 with(fail);by_cases hzx:z=y
      ·have zQ:((z:Int) !=(y:Int))=false:=by rw [hzx];simp
       have HP:=Qq (zD.out (Qfj (by rw [<-TU.out,<-fD.out];exact hzx)) fl qK.out);clear hzx;refine wp_region_held_drew (S:=fun w'=>w'.cell? (⟨g,a,none⟩)=some (.int .u64 (x:Int))/\w'.cell? (⟨g,b,none⟩)=some (.int .u64 (y:Int))) (by kernel_rfl) ⟨xc gl ca,xc gl cb⟩ (fun zZ=> ?_);refine tk 0 zZ ?_;refine tk 1 zZ ?_;refine tk 2 zZ ?_;refine tk 3 zZ ?_;refine tk 4 zZ ?_;refine tk 5 zZ ?_;refine tk 6 zZ ?_;refine tk 7 zZ ?_;refine tk 8 zZ ?_;refine tk 9 zZ ?_;refine tk 10 zZ ?_;refine wpAnyH_done (by kernel_rfl) ?_ _;go_wp2_with fail;go_roundw
       case rel=>exact⟨b+1,by go_num,by omega,fl,rfl,Qq ⟨out,⟨HS.out.ext.trans ((vA.out.trans uM.out).trans Qz.drew),HS.out.row.ext ((vA.out.trans uM.out).trans Qz.drew),HS.out.grw⟩,HP.out,bE.out,QN.out⟩⟩
       case measure=>simp [intOf];omega
      have zQ:((z:Int) !=(y:Int))=true:=by simp;omega
      have zA:=Qq (HS.out.grw.step hlt2 yW (by rw [<-oO.out];exact mY.out.symm) (by rw [<-TU.out,<-fD.out];exact hzx));rw [<-TU.out]at zA;clear hzx;refine wp_region_held_drew (S:=fun w'=>w'.cell? (⟨g,a,none⟩)=some (.int .u64 (x:Int))/\w'.cell? (⟨g,b,none⟩)=some (.int .u64 (y:Int))) (by kernel_rfl) ⟨xc gl ca,xc gl cb⟩ (fun zZ=> ?_);refine tk 0 zZ ?_;refine tk 1 zZ ?_;refine tk 2 zZ ?_;refine tk 3 zZ ?_;refine tk 4 zZ ?_;refine tk 5 zZ ?_;refine tk 6 zZ ?_;refine tk 7 zZ ?_;refine tk 8 zZ ?_;refine tk 9 zZ ?_;refine tk 10 zZ ?_;refine wpAnyH_done (by kernel_rfl) ?_ _
      have NH:=Qq ((vA.out.trans uM.out).trans Qz.drew);have tM:=Qq (((HS.out.row.ext NH.out)).set HS.out.grw.len b z);go_wp2_with fail;go_roundw
      case rel=>exact⟨b+1,by go_num,by omega,true,rfl,Qq ⟨_,⟨(HS.out.ext.trans NH.out).setCell (p:=⟨g,b,none⟩) tV _,tM.out,zA.out.1⟩,(fun e=>by cases e),Nat.le_of_lt (Qy zA.out.2 bE.out),fun _=>Qy zA.out.2 bE.out⟩⟩
      case measure=>simp [intOf];omega
     obtain rfl:n=b:=by omega
     go_wp2_with fail;go_roundw
     case rel=>exact⟨a+1,by go_num,by omega,fl,rfl,Qq ⟨out,HS.out,(fun e=>Do (P:=fun a'=>∀b,b < n->Ds eu out a' b) (qK.out e).1 (qK.out e).2),bE.out,QN.out⟩⟩
     case measure=>simp [intOf];omega
   obtain rfl:n=a:=by omega
   obtain⟨out,hs,fP,oE,jR⟩:=zY.out;have HS:=Qq hs;have qK:=Qq fP;have bE:=Qq oE;have QN:=Qq jR;have ZM:=Qq (Qgv hs.row (by rw [hs.grw.len];exact h0));clear zY hs fP oE jR;go_wp2_with fail;go_roundw
   case rel=>exact⟨fl,rfl,Qq ⟨out,HS.out,qK.out⟩⟩
   case measure =>
    have h1:=DS.out;have h2:=ZM.out;have h3:=bE.out;cases fl
    ·show 2*Wx wr g n+0 < 2*Wx wp g n+1;omega
    show 2*Wx wr g n+1 < 2*Wx wp g n+1;have:=QN.out rfl;omega
theorem Qke(v:Value)(l:List Nat)(w:World)(h:Jn w v l)(hw:∀s∈l,Qm s)(hv:Xv l=true)(h0:0 < l.length):
 Calls Tryz.prog 172 #[v] w fun e w'=>∃u,e=.returned (.tuple #[u,.int .i64 0])/\Qg w w'/\∃out,Zf w.heap.size w' u out/\(out=l↔Gy false l):=by
 have H:=Qq h;have HW:=Qq hw;obtain⟨rI,qD⟩:=Fg.1 hv;have HV:=Qq (show Jo l.length l=0 by unfold Xv at hv;simpa using hv);obtain⟨A,c,rfl,_⟩:=h;clear hw hv;go_enter Tryz.func172,Tryz.ntmps172;go_wp2_with fail;refine(Pg _ l _ H.out HW.out).mono ?_;rintro e w2 ⟨rfl,zS⟩;rw [HV.out];have zT:=Qq zS;clear zS;go_wp2_with fail;refine(Qd6 false _ l _ (H.out.ext zT.out) rI qD h0).mono ?_;rintro e w3 ⟨u,rfl,zC,out,hm,dF⟩;have zB:=Qq (zT.out.trans zC);have HM:=Qq (show Zf w.heap.size w3 u out from Kp hm zT.out.size);have HI:=Qq dF;clear zC hm dF;go_wp2_with fail
 go_ret2;exact⟨u,rfl,zB.out,out,HM.out,HI.out⟩
theorem Qxx(v:Value)(l:List Nat)(w:World)(h:Jn w v l)(hw:∀s∈l,Qm s)(hv:Xv l=true)(h0:0 < l.length):
 Calls Tryz.prog 173 #[v] w fun e w'=>∃u,e=.returned (.tuple #[u,.int .i64 0])/\Qg w w'/\∃out,Zf w.heap.size w' u out/\(out=l↔Gy true l):=by
 have H:=Qq h;have HW:=Qq hw;obtain⟨rI,qD⟩:=Fg.1 hv;have HV:=Qq (show Jo l.length l=0 by unfold Xv at hv;simpa using hv);obtain⟨A,c,rfl,_⟩:=h;clear hw hv;go_enter Tryz.func173,Tryz.ntmps173;go_wp2_with fail;refine(Pg _ l _ H.out HW.out).mono ?_;rintro e w2 ⟨rfl,zS⟩;rw [HV.out];have zT:=Qq zS;clear zS;go_wp2_with fail;refine(Qd6 true _ l _ (H.out.ext zT.out) rI qD h0).mono ?_;rintro e w3 ⟨u,rfl,zC,out,hm,dF⟩;have zB:=Qq (zT.out.trans zC);have HM:=Qq (show Zf w.heap.size w3 u out from Kp hm zT.out.size);have HI:=Qq dF;clear zC hm dF;go_wp2_with fail
 go_ret2;exact⟨u,rfl,zB.out,out,HM.out,HI.out⟩
theorem Zy {w:World} {b:Nat} {a0 a1 a2:Value} {t:TypeId}(h:w.heap[b]?=some (.cells #[a0,a1,a2] t (0,0))):w.cell? ⟨b,0,none⟩=some a0/\w.cell? ⟨b,1,none⟩=some a1/\w.cell? ⟨b,2,none⟩=some a2/\b < w.heap.size :=
 ⟨by simp [World.cell?,h],by simp [World.cell?,h],by simp [World.cell?,h],Qn h⟩
theorem Qp8(v:Value)(md:Md)(z:Int)(w:World)(h:Jk w v md):
 Calls Tryz.prog 14 #[v,.int .i64 z] w fun e w'=>∃b,e=.returned (.bool b)/\Qg w w':=by
 obtain⟨vv,vr,rfl,hv,hr⟩:=h;obtain⟨Av,cv,rfl,_⟩:=hv;obtain⟨Ar,cr,rfl,_,_,HR⟩:=Gj hr;obtain⟨n,hn⟩:∃n,n=md.n:=⟨_,rfl⟩;rw [<-hn];clear hr hn;by_cases h1:z < n/\n<=64
 ·obtain⟨h2,h3⟩:=h1;go_enter Tryz.func14,Tryz.ntmps14;go_wp2_with fail;go_ret
  first|exact⟨_,rfl,Qz.alloc _⟩|exact⟨.inl rfl,Qz.alloc _⟩|exact⟨.inr rfl,Qz.alloc _⟩
 obtain⟨t,ht⟩:∃t,t=decide (z < n):=⟨_,rfl⟩;by_cases hz:z < n
 all_goals
  (try have uH:¬n<=64:=fun e=>h1 ⟨hz,e⟩)
  clear h1 ht;by_cases hv20:20 < md.val.length
  ·have hi:(20:Int) < (md.val.length:Int):=by omega
   go_enter Tryz.func14,Tryz.ntmps14;go_wp2_with fail;go_ret
   first|exact⟨_,rfl,Qz.alloc _⟩|exact⟨.inl rfl,Qz.alloc _⟩|exact⟨.inr rfl,Qz.alloc _⟩
  have hi20:¬(20:Int) < (md.val.length:Int):=by omega
  by_cases hr10:10 < md.rel.length
  ·have hi:(10:Int) < (md.rel.length:Int):=by omega
   go_enter Tryz.func14,Tryz.ntmps14;go_wp2_with fail;go_ret
   first|exact⟨_,rfl,Qz.alloc _⟩|exact⟨.inl rfl,Qz.alloc _⟩|exact⟨.inr rfl,Qz.alloc _⟩
  have hi10:¬(10:Int) < (md.rel.length:Int):=by omega
  generalize md.rel=rl at *;generalize md.val.length=vl at *;go_enter Tryz.func14,Tryz.ntmps14;go_upto_region 3 with(fail);obtain⟨W0,zK⟩:∃W,W=w.alloc (.cells #[.int .i64 n,.slice Av vl cv,.slice Ar rl.length cr] 26):=⟨_,rfl⟩;have zL:=Qq (show Qg w W0 by rw [zK];exact Qz.alloc _);have HB:=Qq (show W0.heap[w.heap.size]?=some (.cells #[.int .i64 n,.slice Av vl cv,.slice Ar rl.length cr] 26 (0,0)) by rw [zK];exact heap_alloc_new _ _);rw [<-zK];clear zK;obtain⟨b,hb⟩:∃b,b=w.heap.size:=⟨_,rfl⟩;rw [<-hb]at HB⊢;clear hb;go_wp2_with fail;go_loopw [5] (fun v wr=>∃k:Nat,v=.int .i64 (k:Int)/\k<=rl.length/\Hid (Qg W0 wr)) (fun v _=>rl.length - (intOf v).toNat)
  case atStart=>exact⟨0,rfl,Nat.zero_le _,Qq Qz⟩
  case round =>
   obtain⟨k,rfl,hk,HX⟩:=hrel;obtain⟨e0,e1,e2,eb⟩:=Zy ((HX.out.block (Qn HB.out)).trans HB.out);by_cases hlt2:k < rl.length
   ·have yV:(k:Int) < (rl.length:Int):=by omega
    obtain⟨ad,u,rfl,zV,hc,hu⟩:=HR.out k hlt2;obtain⟨Au,cu,rfl,_⟩:=hu;have a0:=((zL.out.trans HX.out).cell (p:=ad.add k) (Qj zV)).trans hc;have al:(ad.add k).block < wr.heap.size:=by rw [Qr];exact Qy zV (zL.out.trans HX.out).size
    generalize (rl.getD k []).length=q at a0;clear hc;by_cases hq:70 < q
    ·have PZ:(70:Int) < (q:Int):=by omega
     go_wp2_with fail;go_ret
     first|exact⟨_,rfl,zL.out.trans HX.out⟩|exact⟨.inl rfl,zL.out.trans HX.out⟩|exact⟨.inr rfl,zL.out.trans HX.out⟩
    have PZ:¬(70:Int) < (q:Int):=by omega
    go_wp2_with fail;go_roundw
    case rel=>exact⟨k+1,by go_num,by omega,HX⟩
    case measure=>simp [intOf];omega
   obtain rfl:rl.length=k:=by omega
   go_wp2_with fail;go_ret
   first|exact⟨_,rfl,zL.out.trans HX.out⟩|exact⟨.inl rfl,zL.out.trans HX.out⟩|exact⟨.inr rfl,zL.out.trans HX.out⟩
theorem Fy(v:Value)(md:Md)(w:World)(h:Jk w v md)(zP:md.ok):
 Calls Tryz.prog 45 #[v] w fun e w'=>e=.returned (.int .i64 (Qa md))/\Qg w w':=by
 obtain⟨vv,vr,rfl,hv,hr⟩:=h;have HV:=Qq hv;have zE:=Qq zP;obtain⟨Av,cv,rfl,_⟩:=hv;obtain⟨Ar,cr,rfl,_,_,HR⟩:=Gj hr;obtain⟨n,hn⟩:∃n,n=md.n:=⟨_,rfl⟩;have HN:=Qq hn;rw [<-hn];clear hr zP hn;by_cases h1:n < 1
 ·have HE:=Qq (show Qa md=2 by unfold Qa;rw [<-HN.out,if_pos (.inl h1)]);go_enter Tryz.func45,Tryz.ntmps45;go_wp2_with fail;go_ret;exact⟨by rw [HE.out] <;> rfl,Qz.alloc _⟩
 by_cases uH:64 < n
 ·have HE:=Qq (show Qa md=2 by unfold Qa;rw [<-HN.out,if_pos (.inr uH)]);go_enter Tryz.func45,Tryz.ntmps45;go_wp2_with fail;go_ret;exact⟨by rw [HE.out] <;> rfl,Qz.alloc _⟩
 obtain⟨m,rfl⟩:=Int.eq_ofNat_of_zero_le (show 0<=n by omega);have LE:m<=64:=by omega
 have uY:=Qq (show Qa md=if 4 < md.rel.length\/8 < md.val.length then 8 else if md.rel.any (fun r=> !decide ((r.length:Int)=(m:Int)))then 3 else if Zn md.val m then 2 else if md.rel.any (fun r=>Zn r m)then 2 else 0 by unfold Qa;rw [<-HN.out,if_neg (by omega)];rfl);by_cases uR:4 < md.rel.length
 ·have HE:=Qq (show Qa md=8 by rw [uY.out,if_pos (.inl uR)]);have hi:(4:Int) < (md.rel.length:Int):=by omega
  go_enter Tryz.func45,Tryz.ntmps45;go_wp2_with fail;go_ret;exact⟨by rw [HE.out] <;> rfl,Qz.alloc _⟩
 have CC:¬(4:Int) < (md.rel.length:Int):=by omega
 by_cases iJ:8 < md.val.length
 ·have HE:=Qq (show Qa md=8 by rw [uY.out,if_pos (.inr iJ)]);have hi:(8:Int) < (md.val.length:Int):=by omega
  go_enter Tryz.func45,Tryz.ntmps45;go_wp2_with fail;go_ret;exact⟨by rw [HE.out] <;> rfl,Qz.alloc _⟩
 have N2:¬(8:Int) < (md.val.length:Int):=by omega
 have pH:=Qq (show Qa md=if md.rel.any (fun r=> !decide ((r.length:Int)=(m:Int)))then 3 else if Zn md.val m then 2 else if md.rel.any (fun r=>Zn r m)then 2 else 0 by rw [uY.out,if_neg (by omega)]);obtain⟨rl,wP⟩:∃l,l=md.rel:=⟨_,rfl⟩;have eB:=Qq (show ∀r∈rl,∀s∈r,Qm s by rw [wP];exact zE.out.rel);rw [<-wP]at pH HR CC uR⊢;clear uY wP;go_enter Tryz.func45,Tryz.ntmps45;go_upto_region 5 with(fail);obtain⟨W0,zK⟩:∃W,W=w.alloc (.cells #[.int .i64 (m:Int),.slice Av md.val.length cv,.slice Ar rl.length cr] 26):=⟨_,rfl⟩;have zL:=Qq (show Qg w W0 by rw [zK];exact Qz.alloc _);have HB:=Qq (show W0.heap[w.heap.size]?=some (.cells #[.int .i64 (m:Int),.slice Av md.val.length cv,.slice Ar rl.length cr] 26 (0,0)) by rw [zK];exact heap_alloc_new _ _)
 rw [<-zK];clear zK;obtain⟨b,hb⟩:∃b,b=w.heap.size:=⟨_,rfl⟩;rw [<-hb]at HB⊢;clear hb;go_wp2_with fail;go_loopw [3] (fun v wr=>∃k:Nat,v=.int .i64 (k:Int)/\k<=rl.length/\Hid (Qg W0 wr/\∀j,j < k->(!decide (((rl.getD j []).length:Int)=(m:Int)))=false)) (fun v _=>rl.length - (intOf v).toNat)
 case atStart=>exact⟨0,rfl,Nat.zero_le _,Qq ⟨Qz,fun j hj=>absurd hj (by omega)⟩⟩
 case round =>
  obtain⟨k,rfl,hk,zY⟩:=hrel;have HX:=Qq zY.out.1;have HJ:=Qq zY.out.2;obtain⟨e0,e1,e2,eb⟩:=Zy ((HX.out.block (Qn HB.out)).trans HB.out);clear zY;by_cases hlt2:k < rl.length
  ·have yV:(k:Int) < (rl.length:Int):=by omega
   obtain⟨ad,u,rfl,zV,hc,hu⟩:=HR.out k hlt2;obtain⟨Au,cu,rfl,_⟩:=hu;have a0:=(HX.out.cell (p:=ad.add k) (by rw [Qr];exact Qy zV zL.out.size)).trans ((zL.out.cell (p:=ad.add k) (Qj zV)).trans hc);have al:(ad.add k).block < wr.heap.size:=by rw [Qr];exact Qy zV (zL.out.trans HX.out).size
   have zD:=Qq (show(!decide (((rl.getD k []).length:Int)=(m:Int)))=false->∀j,j < k+1->(!decide (((rl.getD j []).length:Int)=(m:Int)))=false from fun h=>Do (P:=fun j=>(!decide (((rl.getD j []).length:Int)=(m:Int)))=false) HJ.out h);have sX:=Qq (show(!decide (((rl.getD k []).length:Int)=(m:Int)))=true->Qa md=3 from fun h=>by rw [pH.out,if_pos (Qve hlt2 h)]);obtain⟨q,hq⟩:∃q,q=(rl.getD k []).length:=⟨_,rfl⟩;rw [<-hq]at a0 zD sX;clear hc hq;go_upto_region 8 with(fail);by_cases hd:q=m
   ·subst hd;have WP:((q:Int) !=(q:Int))=false:=by simp
    have HP:=Qq (zD.out (by simp));refine wp_region_held_drew (S:=fun w'=>w'.cell? (⟨b,0,none⟩)=some (.int .i64 (q:Int))/\w'.cell? (⟨b,2,none⟩)=some (.slice (some ad) rl.length cr)/\w'.cell? (ad.add k)=some (.slice Au q cu)) (by kernel_rfl) ⟨xc eb e0,xc eb e2,xc al a0⟩ (fun zZ=> ?_);refine tk 0 zZ ?_;refine tk 1 zZ ?_;refine tk 2 zZ ?_;refine tk 3 zZ ?_;refine tk 4 zZ ?_;refine tk 5 zZ ?_;refine tk 6 zZ ?_;refine tk 7 zZ ?_;refine tk 8 zZ ?_;refine wpAnyH_done (by kernel_rfl) ?_ _;go_wp2_with fail;go_roundw
    case rel=>exact⟨k+1,by go_num,by omega,Qq ⟨HX.out.trans Qz.drew,HP.out⟩⟩
    case measure=>simp [intOf];omega
   have WP:((q:Int) !=(m:Int))=true:=by simp;omega
   have HE:=Qq (sX.out (by simp;omega));refine wp_region_held_drew (S:=fun w'=>w'.cell? (⟨b,0,none⟩)=some (.int .i64 (m:Int))/\w'.cell? (⟨b,2,none⟩)=some (.slice (some ad) rl.length cr)/\w'.cell? (ad.add k)=some (.slice Au q cu)) (by kernel_rfl) ⟨xc eb e0,xc eb e2,xc al a0⟩ (fun zZ=> ?_);refine tk 0 zZ ?_;refine tk 1 zZ ?_;refine tk 2 zZ ?_;refine tk 3 zZ ?_;refine tk 4 zZ ?_;refine tk 5 zZ ?_;refine tk 6 zZ ?_;refine tk 7 zZ ?_;refine tk 8 zZ ?_;refine wpAnyH_done (by kernel_rfl) ?_ _;go_wp2_with fail;go_ret;exact⟨by rw [HE.out] <;> rfl,zL.out.trans (HX.out.trans Qz.drew)⟩
  obtain rfl:rl.length=k:=by omega
  have V4:=Qq (show Qa md=if Zn md.val m then 2 else if rl.any (fun r=>Zn r m)then 2 else 0 by rw [pH.out,Qzi HJ.out];rfl);have yY:=Qq (zL.out.trans HX.out);go_wp2_with fail;refine(Qxj _ md.val m _ (HV.out.ext yY.out) zE.out.val LE).mono ?_;rintro e w2 ⟨rfl,zS⟩;have zT:=Qq zS;clear zS e0 e1 e2 eb;cases TL:Zn md.val m
  case true =>
   have HE:=Qq (show Qa md=2 by rw [V4.out,TL];rfl);clear TL;go_wp2_with fail;go_ret;exact⟨by rw [HE.out] <;> rfl,yY.out.trans zT.out⟩
  have jI:=Qq (show Qa md=if rl.any (fun r=>Zn r m)then 2 else 0 by rw [V4.out,TL];rfl);clear TL;have rG:=Qq ((zT.out.block (Qn ((HX.out.block (Qn HB.out)).trans HB.out))).trans ((HX.out.block (Qn HB.out)).trans HB.out));have uM:=Qq (yY.out.trans zT.out);go_wp2_with fail;go_loopw [4] (fun v wr=>∃k:Nat,v=.int .i64 (k:Int)/\k<=rl.length/\Hid (Qg w2 wr/\∀j,j < k->Zn (rl.getD j []) m=false)) (fun v _=>rl.length - (intOf v).toNat)
  case atStart=>exact⟨0,rfl,Nat.zero_le _,Qq ⟨Qz,fun j hj=>absurd hj (by omega)⟩⟩
  case round =>
   clear HX HJ;obtain⟨k,rfl,hk,zY⟩:=hrel;have HX:=Qq zY.out.1;have HJ:=Qq zY.out.2;obtain⟨e0,e1,e2,eb⟩:=Zy ((HX.out.block (Qn rG.out)).trans rG.out);clear zY;by_cases hlt2:k < rl.length
   ·have yV:(k:Int) < (rl.length:Int):=by omega
    obtain⟨ad,u,rfl,zV,hc,hu⟩:=HR.out k hlt2;have JB:=Qq (uM.out.trans HX.out);have HU:=Qq (hu.ext JB.out);have QQ:=Qq (Ss eB.out k);obtain⟨Au,cu,rfl,_⟩:=hu;have a0:=(JB.out.cell (p:=ad.add k) (Qj zV)).trans hc;have al:(ad.add k).block < wr.heap.size:=by rw [Qr];exact Qy zV JB.out.size
    have zD:=Qq (show Zn (rl.getD k []) m=false->∀j,j < k+1->Zn (rl.getD j []) m=false from fun h=>Do (P:=fun j=>Zn (rl.getD j []) m=false) HJ.out h);have sX:=Qq (show Zn (rl.getD k []) m=true->Qa md=2 from fun h=>by rw [jI.out,if_pos (Qve (P:=fun r=>Zn r m) hlt2 h)]);obtain⟨q,hq⟩:∃q,q=rl.getD k []:=⟨_,rfl⟩;rw [<-hq]at a0 zD sX HU QQ;clear hc hq;go_upto_region 15 with(fail);obtain⟨wq,vC⟩:∃v,v=wr:=⟨_,rfl⟩;subst vC;refine wp_region_held_drew (S:=fun w'=>w'.cell? (⟨b,0,none⟩)=some (.int .i64 (m:Int))/\w'.cell? (⟨b,2,none⟩)=some (.slice (some ad) rl.length cr)/\w'.cell? (ad.add k)=some (.slice Au q.length cu)) (by kernel_rfl) ⟨xc eb e0,xc eb e2,xc al a0⟩ (fun zZ=> ?_)
    refine tk 0 zZ ?_;refine tk 1 zZ ?_;refine tk 2 zZ ?_;refine tk 3 zZ ?_;refine tk 4 zZ ?_;refine tk 5 zZ ?_;refine tk 6 zZ ?_;refine wpAnyH_ready (rs:= [7]) (by kernel_rfl) (by simp) ?_;refine AllReadyH.cons rfl (fun K hK=> ?_) AllReadyH.nil;go_simp;refine(Qxj _ q m _ (HU.out.ext (by repeat(first|exact Qz|assumption|apply Qg.alloc|apply Qg.drew|apply Qg.setCell))) QQ.out LE).mono ?_;rintro e w3 ⟨rfl,yI⟩;have zC:Qg wq w3:=Qg.trans (by repeat(first|exact Qz|assumption|apply Qg.alloc|apply Qg.drew|apply Qg.setCell)) yI;have zB:=Qq zC;clear yI;go_wp2_with fail
    refine hK.out _ _ ⟨xc eb e0,xc eb e2,xc al a0⟩ (fun zZ=> ?_);clear hK K;refine Qd ?_;refine wpAnyH_done (by kernel_rfl) ?_ _;cases hd:Zn q m
    ·have HP:=Qq (zD.out hd);clear hd;go_wp2_with fail;go_roundw
     case rel=>exact⟨k+1,by go_num,by omega,Qq ⟨HX.out.trans zB.out,HP.out⟩⟩
     case measure=>simp [intOf];omega
    have HE:=Qq (sX.out hd);clear hd;go_wp2_with fail;go_ret;exact⟨by rw [HE.out] <;> rfl,JB.out.trans zB.out⟩
   obtain rfl:rl.length=k:=by omega
   have HE:=Qq (show Qa md=0 by rw [jI.out,Qzi (P:=fun r=>Zn r m) HJ.out];rfl);go_wp2_with fail;go_ret;exact⟨by rw [HE.out] <;> rfl,uM.out.trans HX.out⟩
end Go.Proofs.YtkmclcmnoicagaaGreatDoor
