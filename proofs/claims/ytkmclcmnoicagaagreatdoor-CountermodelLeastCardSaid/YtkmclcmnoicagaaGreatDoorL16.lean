/- relation.Has: what it says of the properties 1, 2, 4, 5; frames.In. -/
import Derived.Test.YtkmclcmnoicagaaGreatDoorL15
namespace Go.Proofs.YtkmclcmnoicagaaGreatDoor
set_option maxRecDepth 100000
set_option maxHeartbeats 128000000
open Go.RowKit
theorem Qef:Ot:=by
 intro v l q w hT h hw zU _ hq;rcases hq with rfl|rfl|rfl|rfl
 ·exact Qev v l w h hw zU
 ·exact Qek v l w h hw zU
 ·exact Qex v l w hT h hw zU
 exact Qeg v l w hT h hw zU
theorem Zqg(vm:Value)(md:Md)(lg:Int)(w:World)(hT:Kk w)(hm:Yz w vm md)(zO:md.ok)(zU:Qa md=0)(yA:0<=lg/\lg<=6):
 Calls Tryz.prog 39 #[vm,.int .i64 lg] w fun e w'=>e=.returned (.bool (inB md lg))/\Qg w w':=Zjh Qef vm md lg w hT hm zO zU yA
theorem Qc9(vm:Value)(md:Md)(lg:Int)(w:World)(hm:Yz w vm md)(yA:¬(0<=lg/\lg<=6)):
 Calls Tryz.prog 39 #[vm,.int .i64 lg] w fun e w'=>e=.returned (.bool false)/\Qg w w':=by
 have HP:=Qq (show Iq lg=1 from if_neg yA);obtain⟨vv,vr,rfl,hv,hr⟩:=hm;clear yA hv hr;go_enter Tryz.func39,Tryz.ntmps39;go_wp2_with(go_at_call 98;refine(Ci lg _).mono ?_;rintro e w1 ⟨vp,rfl,zP,XO⟩;rw [HP.out];have zM:=Qq ((((Qg.refl w).alloc _).alloc _).trans zP);clear zP XO);go_ret;exact⟨rfl,zM.out⟩
noncomputable def Qyk (md:Md) (lg:Int):Bool:=decide (0<=lg/\lg<=6)&&inB md lg
theorem Qcq(vm:Value)(md:Md)(lg:Int)(w:World)(hT:Kk w)(hm:Yz w vm md)(zO:md.ok)(zU:Qa md=0):
 Calls Tryz.prog 39 #[vm,.int .i64 lg] w fun e w'=>e=.returned (.bool (Qyk md lg))/\Qg w w':=by
 unfold Qyk;by_cases h:0<=lg/\lg<=6
 ·rw [decide_eq_true h,Bool.true_and];exact Zqg vm md lg w hT hm zO zU h
 rw [decide_eq_false h,Bool.false_and];exact Qc9 vm md lg w hm h
theorem Qln {md:Md} {lg:Int}(zU:Qa md=0)(h:Qyk md lg=true):Fl md lg:=by
 unfold Qyk at h;rw [Bool.and_eq_true]at h;exact Qen zU (of_decide_eq_true h.1) h.2
theorem Zqf(vm:Value)(md:Md)(lg:Int)(w:World)(hm:Yz w vm md)(zO:md.ok)(yA:0<=lg/\lg<=6)(zU:Qa md≠0):
 Calls Tryz.prog 39 #[vm,.int .i64 lg] w fun e w'=>e=.returned (.bool false)/\Qg w w':=by
 have HM:=Qq hm;have zC:=Qq zO;have HP:=Qq (show Iq lg=0 from if_pos yA);obtain⟨ck,wU⟩:∃z,z=Qa md:=⟨_,rfl⟩;have M1:=Qq wU;have hck1:(ck==0)=false:=by rw [beq_eq_false_iff_ne,wU];exact zU
 obtain⟨vv,vr,rfl,hv,hr⟩:=hm;clear zO yA zU hv hr wU;go_enter Tryz.func39,Tryz.ntmps39;go_wp2_with(first|(go_at_call 98;refine(Ci lg _).mono ?_;rintro e w1 ⟨vp,rfl,zP,XO⟩;rw [HP.out];have zM:=Qq ((((Qg.refl w).alloc _).alloc _).trans zP);have pL:w1.cell? ⟨w.heap.size,0,none⟩=some (.int .i64 md.n):=(zP.cell (p:=⟨w.heap.size,0,none⟩) (by simp;omega)).trans (by simp);have uR:w1.cell? ⟨w.heap.size,1,none⟩=some vv:=(zP.cell (p:=⟨w.heap.size,1,none⟩) (by simp;omega)).trans (by simp);have xO:w1.cell? ⟨w.heap.size,2,none⟩=some vr:=(zP.cell (p:=⟨w.heap.size,2,none⟩) (by simp;omega)).trans (by simp);have yV:w.heap.size+1 < w1.heap.size:=Qy (by simp) zP.size;clear zP XO)|(go_at_call 93;refine(Xm _ md _ (HM.out.ext zM.out) zC.out).mono ?_;rintro e w2 ⟨rfl,zT⟩;rw [<-M1.out];have zS:=Qq (zM.out.trans zT);clear zT))
 go_ret;exact⟨rfl,zS.out⟩
noncomputable def Oa (md:Md) (lg:Int):Bool:=decide (Qa md=0)&&Qyk md lg
theorem Qie(vm:Value)(md:Md)(lg:Int)(w:World)(hT:Kk w)(hm:Yz w vm md)(zO:md.ok):
 Calls Tryz.prog 39 #[vm,.int .i64 lg] w fun e w'=>e=.returned (.bool (Oa md lg))/\Qg w w':=by
 unfold Oa;by_cases hc:Qa md=0
 ·rw [decide_eq_true hc,Bool.true_and];exact Qcq vm md lg w hT hm zO hc
 rw [decide_eq_false hc,Bool.false_and];by_cases h:0<=lg/\lg<=6
 ·exact Zqf vm md lg w hm zO h hc
 exact Qc9 vm md lg w hm h
theorem Qer {md:Md} {lg:Int}(h:Oa md lg=true):Qa md=0/\Fl md lg:=by
 unfold Oa at h;rw [Bool.and_eq_true]at h;have hc:=of_decide_eq_true h.1;exact⟨hc,Qln hc h.2⟩
theorem Hz(n:Nat)(h:n<=64)(w:World):Calls Tryz.prog 22 #[.int .i64 (n:Int)] w fun e w'=>e=.returned (.int .u64 ((Zn n:Nat):Int))/\w=w':=by
 by_cases uG:n=64
 ·subst uG;go_enter Tryz.func22,Tryz.ntmps22;go_wp2_with fail;go_ret;exact⟨rfl,rfl⟩
 have hn:n < 64:=by omega
 have wH:(n:Int) < 64:=by omega
 have wI:min n 64=n:=by omega
 have HW:=Qq (Th hn);clear uG h;go_enter Tryz.func22,Tryz.ntmps22;go_wp2_with fail;go_ret;exact⟨by rw [<-show((2^n - 1:Nat):Int)=((Zn n:Nat):Int)from rfl,<-HW.out] <;> rfl,rfl⟩
theorem Qko(v:Value)(l:List Nat)(n:Nat)(w:World)(h:Jb w v l)(hw:∀s∈l,Qp s)(hn:n<=64):
 Calls Tryz.prog 107 #[v,.int .i64 (n:Int)] w fun e w'=>e=.returned (.bool (Zf l n))/\Qg w w':=by
 obtain⟨A,c,rfl,JW,xK,HL⟩:=Vl h;have sK:=Qq hw;unfold maxLen at xK;clear h hw;go_enter Tryz.func107,Tryz.ntmps107;go_wp2_with fail;go_loopw [5] (fun v wr=>∃k:Nat,v=.int .i64 (k:Int)/\k<=l.length/\Hid (Qg w wr/\∀j,j < k->decide (l.getD j 0 < 2^n)=true)) (fun v _=>l.length - (intOf v).toNat)
 case atStart=>exact⟨0,rfl,Nat.zero_le _,Qq ⟨Qz,fun j hj=>absurd hj (by omega)⟩⟩
 case round =>
  obtain⟨k,rfl,hk,zY⟩:=hrel;have HX:=Qq zY.out.1;have HJ:=Qq zY.out.2;clear zY;by_cases hlt2:k < l.length
  ·have yT:(k:Int) < (l.length:Int):=by omega
   obtain⟨ad,rfl,zV,hc⟩:=HL.out k (by omega);have a0:=(HX.out.cell (p:=ad.add k) (Qj zV)).trans hc;have al:(ad.add k).block < wr.heap.size:=by rw [Qt];exact Qy zV HX.out.size
   have zE:=Qq (show decide (l.getD k 0 < 2^n)=true->∀j,j < k+1->decide (l.getD j 0 < 2^n)=true from fun h=>Do (P:=fun j=>decide (l.getD j 0 < 2^n)=true) HJ.out h);have tH:=Qq (show decide (l.getD k 0 < 2^n)=false->Zf l n=true from Il (by omega));have yH:=Qyr (n:=n) (Yg sK.out k) hn;obtain⟨sx,tB⟩:∃s,s=l.getD k 0:=⟨_,rfl⟩;rw [<-tB]at a0 yH zE tH;clear hc tB;go_upto_region 4 with(fail);cases hd:decide (sx < 2^n)
   ·rw [hd]at yH;have HD:=Qq hd;clear hd;refine wp_region_held_drew (S:=fun w'=>w'.cell? (ad.add k)=some (.int .u64 (sx:Int))) (by kernel_rfl) (xc al a0) (fun zZ=> ?_);refine tk 0 zZ ?_;refine tk 1 zZ ?_;refine tk 2 zZ ?_;refine tk 3 zZ ?_;refine tk 4 zZ ?_;refine wpAnyH_ready (rs:= [5]) (by kernel_rfl) (by simp) ?_;refine AllReadyH.cons rfl (fun K hK=> ?_) AllReadyH.nil;go_simp;refine(Hz n hn _).mono ?_;rintro e w3 ⟨rfl,rfl⟩;go_wp2_with fail;refine hK.out _ _ (xc al a0) (fun zZ=> ?_);clear hK K;refine Qd ?_;refine tk 6 zZ ?_;refine tk 7 zZ ?_;refine wpAnyH_done (by kernel_rfl) ?_ _
    have HE:=Qq (tH.out HD.out);go_wp2_with fail;go_ret;exact⟨by rw [HE.out] <;> rfl,HX.out.trans Qz.drew⟩
   rw [hd]at yH;have HD:=Qq hd;clear hd;refine wp_region_held_drew (S:=fun w'=>w'.cell? (ad.add k)=some (.int .u64 (sx:Int))) (by kernel_rfl) (xc al a0) (fun zZ=> ?_);refine tk 0 zZ ?_;refine tk 1 zZ ?_;refine tk 2 zZ ?_;refine tk 3 zZ ?_;refine tk 4 zZ ?_;refine wpAnyH_ready (rs:= [5]) (by kernel_rfl) (by simp) ?_;refine AllReadyH.cons rfl (fun K hK=> ?_) AllReadyH.nil;go_simp;refine(Hz n hn _).mono ?_;rintro e w3 ⟨rfl,rfl⟩;go_wp2_with fail;refine hK.out _ _ (xc al a0) (fun zZ=> ?_);clear hK K;refine Qd ?_;refine tk 6 zZ ?_;refine tk 7 zZ ?_;refine wpAnyH_done (by kernel_rfl) ?_ _
   have HP:=Qq (zE.out HD.out);go_wp2_with fail;go_roundw
   case rel=>exact⟨k+1,by go_num,by omega,Qq ⟨HX.out.trans Qz.drew,HP.out⟩⟩
   case measure=>simp [intOf];omega
  obtain rfl:l.length=k:=by omega
  have HE:=Qq (Oq HJ.out);go_wp2_with fail;go_ret;exact⟨by rw [HE.out] <;> rfl,HX.out⟩
theorem Qxm(n:Nat)(h:n<=64)(w:World):Calls Tryz.prog 202 #[.int .i64 (n:Int)] w fun e w'=>e=.returned (.int .u64 ((Zn n:Nat):Int))/\w=w':=by
 by_cases uG:n=64
 ·subst uG;go_enter Tryz.func202,Tryz.ntmps202;go_wp2_with fail;go_ret;exact⟨rfl,rfl⟩
 have hn:n < 64:=by omega
 have wH:(n:Int) < 64:=by omega
 have wI:min n 64=n:=by omega
 have HW:=Qq (Th hn);clear uG h;go_enter Tryz.func202,Tryz.ntmps202;go_wp2_with fail;go_ret;exact⟨by rw [<-show((2^n - 1:Nat):Int)=((Zn n:Nat):Int)from rfl,<-HW.out] <;> rfl,rfl⟩
theorem Qmq(s i:Nat)(w:World)(hi:i < 64):Calls Tryz.prog 152 #[.int .u64 (s:Int),.int .i64 (i:Int)] w fun e w'=>e=.returned (.bool (s.testBit i))/\w=w':=by
 have hm:min i 64=i:=by omega
 have iG:(i:Int) < 64:=by omega
 have HB:=Qq (Ny s i);go_enter Tryz.func152,Tryz.ntmps152;go_wp2_with fail;go_ret;exact⟨by rw [<-HB.out] <;> rfl,rfl⟩
theorem Qht(s i:Nat)(w:World)(hi:i < 64)(hs:Qp s):Calls Tryz.prog 219 #[.int .u64 (s:Int),.int .i64 (i:Int)] w fun e w'=>e=.returned (.bool (s.testBit i))/\w=w':=by
 have hm:min i 64=i:=by omega
 have iG:(i:Int) < 64:=by omega
 have HB:=Qq (Bn s i hs);clear hs;go_enter Tryz.func219,Tryz.ntmps219;go_wp2_with fail;go_ret;exact⟨by rw [<-HB.out] <;> rfl,rfl⟩
theorem Pj(v:Value)(l:List Nat)(w:World)(h:Jb w v l)(hw:∀s∈l,Qp s):
 Calls Tryz.prog 169 #[.int .i64 (l.length:Int),v] w fun e w'=>e=.returned (.int .i64 (Jh l.length l))/\Qg w w':=by
 obtain⟨A,c,rfl,JW,xK,HL⟩:=Vl h;have sK:=Qq hw;unfold maxLen at xK;clear h hw;by_cases hn:l.length<=64
 ·have wH:¬(64:Int) < (l.length:Int):=by omega
  have HC:=Qq (show Jh l.length l=if Zf l l.length then 1 else 0 by unfold Jh;rw [if_neg (by omega),if_neg (by simp)];rfl);obtain⟨n,zQ⟩:∃n,n=l.length:=⟨_,rfl⟩;have HN:=Qq zQ;rw [<-zQ]at HC hn;rw [<-zQ];have ZZ:¬(64:Int) < (n:Int):=by omega
  have iD:((n:Int) !=(n:Int))=false:=by simp
  have zG:l.length=n:=zQ.symm;clear zQ wH;go_enter Tryz.func169,Tryz.ntmps169;go_wp2_with fail;go_loopw [5] (fun v wr=>∃k:Nat,v=.int .i64 (k:Int)/\k<=n/\Hid (Qg w wr/\∀j,j < k->decide (l.getD j 0 < 2^n)=true)) (fun v _=>n - (intOf v).toNat)
  case atStart=>exact⟨0,rfl,Nat.zero_le _,Qq ⟨Qz,fun j hj=>absurd hj (by omega)⟩⟩
  case round =>
   obtain⟨k,rfl,hk,zY⟩:=hrel;have HX:=Qq zY.out.1;have HJ:=Qq zY.out.2;clear zY;by_cases hlt2:k < n
   ·have yT:(k:Int) < (n:Int):=by omega
    obtain⟨ad,rfl,zV,hc⟩:=HL.out k (by omega);have a0:=(HX.out.cell (p:=ad.add k) (Qj zV)).trans hc;have al:(ad.add k).block < wr.heap.size:=by rw [Qt];exact Qy zV HX.out.size
    have zE:=Qq (show decide (l.getD k 0 < 2^n)=true->∀j,j < k+1->decide (l.getD j 0 < 2^n)=true from fun h=>Do (P:=fun j=>decide (l.getD j 0 < 2^n)=true) HJ.out h);have tH:=Qq (show decide (l.getD k 0 < 2^n)=false->Zf l n=true from Il (by omega));have yH:=Qyr (n:=n) (Yg sK.out k) hn;obtain⟨sx,tB⟩:∃s,s=l.getD k 0:=⟨_,rfl⟩;rw [<-tB]at a0 yH zE tH;clear hc tB;go_upto_region 8 with(fail);cases hd:decide (sx < 2^n)
    ·rw [hd]at yH;have HD:=Qq hd;clear hd;refine wp_region_held_drew (S:=fun w'=>w'.cell? (ad.add k)=some (.int .u64 (sx:Int))) (by kernel_rfl) (xc al a0) (fun zZ=> ?_);refine tk 0 zZ ?_;refine tk 1 zZ ?_;refine tk 2 zZ ?_;refine tk 3 zZ ?_;refine tk 4 zZ ?_;refine wpAnyH_ready (rs:= [5]) (by kernel_rfl) (by simp) ?_;refine AllReadyH.cons rfl (fun K hK=> ?_) AllReadyH.nil;go_simp;refine(Qxm n hn _).mono ?_;rintro e w3 ⟨rfl,rfl⟩;go_wp2_with fail;refine hK.out _ _ (xc al a0) (fun zZ=> ?_);clear hK K;refine Qd ?_;refine tk 6 zZ ?_;refine tk 7 zZ ?_;refine wpAnyH_done (by kernel_rfl) ?_ _
     have HE:=Qq (tH.out HD.out);go_wp2_with fail;go_ret;exact⟨by rw [HC.out,HE.out] <;> rfl,HX.out.trans Qz.drew⟩
    rw [hd]at yH;have HD:=Qq hd;clear hd;refine wp_region_held_drew (S:=fun w'=>w'.cell? (ad.add k)=some (.int .u64 (sx:Int))) (by kernel_rfl) (xc al a0) (fun zZ=> ?_);refine tk 0 zZ ?_;refine tk 1 zZ ?_;refine tk 2 zZ ?_;refine tk 3 zZ ?_;refine tk 4 zZ ?_;refine wpAnyH_ready (rs:= [5]) (by kernel_rfl) (by simp) ?_;refine AllReadyH.cons rfl (fun K hK=> ?_) AllReadyH.nil;go_simp;refine(Qxm n hn _).mono ?_;rintro e w3 ⟨rfl,rfl⟩;go_wp2_with fail;refine hK.out _ _ (xc al a0) (fun zZ=> ?_);clear hK K;refine Qd ?_;refine tk 6 zZ ?_;refine tk 7 zZ ?_;refine wpAnyH_done (by kernel_rfl) ?_ _
    have HP:=Qq (zE.out HD.out);go_wp2_with fail;go_roundw
    case rel=>exact⟨k+1,by go_num,by omega,Qq ⟨HX.out.trans Qz.drew,HP.out⟩⟩
    case measure=>simp [intOf];omega
   obtain rfl:n=k:=by omega
   have HE:=Qq (show Zf l n=false from Oq (by rw [zG];exact HJ.out));go_wp2_with fail;go_ret;exact⟨by rw [HC.out,HE.out] <;> rfl,HX.out⟩
 have wH:(64:Int) < (l.length:Int):=by omega
 have HC:=Qq (show Jh l.length l=2 by unfold Jh;rw [if_pos (by omega)]);go_enter Tryz.func169,Tryz.ntmps169;go_wp2_with fail;go_ret;exact⟨by rw [HC.out] <;> rfl,Qz⟩
theorem Np(v:Value)(l:List Nat)(w:World)(h:Jb w v l)(hw:∀s∈l,Qp s):
 Calls Tryz.prog 108 #[v] w fun e w'=>e=.returned (.bool (Xj l))/\Qg w w':=by
 have H:=Qq h;have HW:=Qq hw;obtain⟨A,c,rfl,_⟩:=h;clear hw;go_enter Tryz.func108,Tryz.ntmps108;go_wp2_with fail;refine(Pj _ l _ H.out HW.out).mono ?_;rintro e w2 ⟨rfl,hx⟩;have HX:=Qq hx;clear hx;go_wp2_with fail;go_ret;exact⟨rfl,HX.out⟩
theorem Qrq(op:Int)(x y al:Nat)(w:World)(hx:Qp x)(hy:Qp y)(ha:Qp al):
 Calls Tryz.prog 212 #[.int .i64 op,.int .u64 (x:Int),.int .u64 (y:Int),.int .u64 (al:Int)] w fun e w'=>e=.returned (.int .u64 ((Gk op x y al:Nat):Int))/\w=w':=by
 have b1:=Vy (b:=x) ha hx;have b2:=Xy hx hy;have b3:=Gq hx hy;have b4:=Gq (Ub (b:=x) ha) hy;have b5:=Qvf hx hy;have b6:=Vy ha (Qkn hx hy);by_cases h1:op=1
 ·subst h1;go_enter Tryz.func212,Tryz.ntmps212;go_wp2_with fail;go_ret;exact⟨rfl,rfl⟩
 by_cases h4:op=4
 ·subst h4;have HE:=Qq b1;clear b1 b2 b3 b4 b5 b6;go_enter Tryz.func212,Tryz.ntmps212;go_wp2_with fail;go_ret;exact⟨by rw [show Gk 4 x y al=Jk al x from rfl,<-HE.out] <;> rfl,rfl⟩
 by_cases h5:op=5
 ·subst h5;have HE:=Qq b2;clear b1 b2 b3 b4 b5 b6;go_enter Tryz.func212,Tryz.ntmps212;go_wp2_with fail;go_ret;exact⟨by rw [show Gk 5 x y al=x&&&y from rfl,<-HE.out] <;> rfl,rfl⟩
 by_cases h6:op=6
 ·subst h6;have HE:=Qq b3;clear b1 b2 b3 b4 b5 b6;go_enter Tryz.func212,Tryz.ntmps212;go_wp2_with fail;go_ret;exact⟨by rw [show Gk 6 x y al=x|||y from rfl,<-HE.out] <;> rfl,rfl⟩
 by_cases h7:op=7
 ·subst h7;have HE:=Qq b4;have IZ:=Qq b1;clear b1 b2 b3 b4 b5 b6;go_enter Tryz.func212,Tryz.ntmps212;go_wp2_with fail;go_ret;exact⟨by rw [show Gk 7 x y al=Jk al x|||y from rfl,<-HE.out,<-IZ.out] <;> rfl,rfl⟩
 by_cases h8:op=8
 ·subst h8;have HE:=Qq b6;have IZ:=Qq b5;clear b1 b2 b3 b4 b5 b6;go_enter Tryz.func212,Tryz.ntmps212;go_wp2_with fail;go_ret;exact⟨by rw [show Gk 8 x y al=Jk al (x^^^y)from rfl,<-HE.out,<-IZ.out] <;> rfl,rfl⟩
 have HE:=Qq (show Gk op x y al=0 by unfold Gk;rw [if_neg h1,if_neg h4,if_neg h5,if_neg h6,if_neg h7,if_neg h8]);have t1:(op==1)=false:=by simpa using h1
 have t4:(op==4)=false:=by simpa using h4
 have t5:(op==5)=false:=by simpa using h5
 have t6:(op==6)=false:=by simpa using h6
 have t7:(op==7)=false:=by simpa using h7
 have t8:(op==8)=false:=by simpa using h8
 clear b1 b2 b3 b4 b5 b6 h1 h4 h5 h6 h7 h8;go_enter Tryz.func212,Tryz.ntmps212;go_wp2_with fail;go_ret;exact⟨by rw [HE.out] <;> rfl,rfl⟩
theorem Qj3(v:Value)(r:List Nat)(n s:Nat)(w:World)(h:Jb w v r)(hw:∀s∈r,Qp s)(hn:n<=64)(hl:n<=r.length)(hs:Qp s):
 Calls Tryz.prog 213 #[v,.int .i64 (n:Int),.int .u64 (s:Int)] w fun e w'=>e=.returned (.int .u64 ((Vg r n s:Nat):Int))/\Qg w w':=by
 obtain⟨A,c,rfl,_,_,HL⟩:=Vl h;have sK:=Qq hw;have HS:=Qq hs;have JU:(n:Int)<=(r.length:Int):=by omega
 clear h hw hs;go_enter Tryz.func213,Tryz.ntmps213;go_wp2_with fail;go_loopw [7,8] (fun vo vi wr=>∃k:Nat,vi=.int .i64 (k:Int)/\k<=n/\vo=.int .u64 ((Vd k (fun i=>Jr (r.getD i 0) s):Nat):Int)/\Hid (Qg w wr)) (fun _ v _=>n - (intOf v).toNat)
 case atStart=>exact⟨0,rfl,Nat.zero_le _,rfl,Qq Qz⟩
 case round =>
  obtain⟨k,rfl,hk,rfl,HX⟩:=hrel;obtain⟨m,hm⟩:∃m,m=Vd k (fun i=>Jr (r.getD i 0) s):=⟨_,rfl⟩;have HM:=Qq hm;rw [<-hm];clear hm;by_cases hlt2:k < n
  ·have yT:(k:Int) < (n:Int):=by omega
   have wW:(k:Int) < (r.length:Int):=by omega
   have vG:k < 64:=by omega
   have wI:min k 64=k:=by omega
   obtain⟨ad,rfl,zV,hc⟩:=HL.out k (by omega);have a0:=(HX.out.cell (p:=ad.add k) (Qj zV)).trans hc;have al:(ad.add k).block < wr.heap.size:=by rw [Qt];exact Qy zV HX.out.size
   have hz:=Ov (Yg sK.out k) HS.out;have iO:=Qq (Dk k (fun i=>Jr (r.getD i 0) s));have bE:=Qq (Oo (s:=m) (k:=k) (by rw [HM.out];exact Fi (by omega) _) vG);obtain⟨x,hx⟩:∃x,x=r.getD k 0:=⟨_,rfl⟩;rw [<-hx]at a0 hz;have oX:=Qq hx;clear hc hx;cases hd:Jr x s
   ·rw [hd]at hz;have HP:=Qq (show Vd (k+1) (fun i=>Jr (r.getD i 0) s)=m by rw [iO.out,<-oX.out,hd,HM.out];rfl);clear hd;go_wp2_with fail;go_roundw
    case rel=>exact⟨k+1,by go_num,by omega,by rw [HP.out],HX⟩
    case measure=>simp [intOf];omega
   rw [hd]at hz;have HP:=Qq (show Vd (k+1) (fun i=>Jr (r.getD i 0) s)=m|||2^k by rw [iO.out,<-oX.out,hd,HM.out];rfl);have uM:=bE.out;clear hd;obtain⟨m2,xO⟩:∃m2,m2=m|||2^k:=⟨_,rfl⟩;rw [<-xO]at HP uM;clear xO;go_wp2_with fail;go_roundw
   case rel=>exact⟨k+1,by go_num,by omega,by rw [HP.out],HX⟩
   case measure=>simp [intOf];omega
  obtain rfl:n=k:=by omega
  go_wp2_with fail;go_ret;exact⟨by rw [show Vg r n s=m from HM.out.symm] <;> rfl,HX.out⟩
theorem Qhk(v:Value)(r:List Nat)(n a c:Nat)(w:World)(h:Jb w v r)(hw:∀s∈r,Qp s)(hn:n<=64)(hl:n<=r.length)(ha:a < n)(hc:Qp c):
 Calls Tryz.prog 223 #[v,.int .i64 (n:Int),.int .i64 (a:Int),.int .u64 (c:Int)] w fun e w'=>e=.returned (.int .u64 ((Bq r c n a:Nat):Int))/\Qg w w':=by
 obtain⟨A,cp,rfl,_,_,HL⟩:=Vl h;have sK:=Qq hw;have HC:=Qq hc;have JU:(n:Int)<=(r.length:Int):=by omega
 have ha1:(a:Int) < (r.length:Int):=by omega
 obtain⟨ad,rfl,zV,yR⟩:=HL.out a (by omega);have al0:(ad.add a).block < w.heap.size:=by rw [Qt];exact zV
 have xT:=Xy (Yg hw a) hc;obtain⟨s0,qW⟩:∃s,s=r.getD a 0&&&c:=⟨_,rfl⟩;have iQ:=Qq qW;have GB:=Qq (show Qp s0 by rw [qW];exact Rf (Yg hw a));rw [<-qW]at xT;obtain⟨x,hx⟩:∃x,x=r.getD a 0:=⟨_,rfl⟩;rw [<-hx]at yR xT;clear h hw hc qW hx;go_enter Tryz.func223,Tryz.ntmps223;go_wp2_with fail;clear yR xT;go_loopw [9,10] (fun vs vi wr=>∃k:Nat,vi=.int .i64 (k:Int)/\k<=n/\∃s:Nat,vs=.int .u64 (s:Int)/\Hid (s=(List.range k).foldl (fun s _=>Gi r c n s) s0/\Qg w wr)) (fun _ v _=>n - (intOf v).toNat)
 case atStart=>exact⟨0,rfl,Nat.zero_le _,s0,rfl,Qq ⟨rfl,Qz⟩⟩
 case round =>
  obtain⟨k,rfl,hk,s,rfl,zY⟩:=hrel;have mG:=Qq zY.out.1;have HX:=Qq zY.out.2;have nP:=Qq (show Qp s by rw [mG.out];exact Fh (fun s _ hs=>Fh (fun _ _ h=>Qjp sK.out h) n s hs) k _ GB.out);clear zY;by_cases hlt2:k < n
  ·have yT:(k:Int) < (n:Int):=by omega
   go_wp2_with fail;go_loopw [9,11] (fun vs vi wr=>∃q:Nat,vi=.int .i64 (q:Int)/\q<=n/\∃s2:Nat,vs=.int .u64 (s2:Int)/\Hid (s2=(List.range q).foldl (Sa r c) s/\Qg w wr)) (fun _ v _=>n - (intOf v).toNat)
   case atStart=>exact⟨0,rfl,Nat.zero_le _,s,rfl,Qq ⟨rfl,HX.out⟩⟩
   case round =>
    clear HX;obtain⟨q,rfl,hq,s2,rfl,zY⟩:=hrel;have oO:=Qq zY.out.1;have HX:=Qq zY.out.2;have FX:=Qq (show Qp s2 by rw [oO.out];exact Fh (fun _ _ h=>Qjp sK.out h) q _ nP.out);clear zY;by_cases yQ:q < n
    ·have LU:(q:Int) < (n:Int):=by omega
     have TK:(q:Int) < (r.length:Int):=by omega
     have CD:q < 64:=by omega
     obtain⟨ad2,e2,eP,tL⟩:=HL.out q (by omega);injection e2 with e2;subst e2;have a0:=(HX.out.cell (p:=ad.add q) (Qj eP)).trans tL;have al:(ad.add q).block < wr.heap.size:=by rw [Qt];exact Qy eP HX.out.size
     have xT:=Xy (Yg sK.out q) HC.out;have uM:=Gq FX.out (Rf (b:=c) (Yg sK.out q));have yY:=Qq (show(List.range (q+1)).foldl (Sa r c) s=if s2.testBit q then s2|||(r.getD q 0&&&c)else s2 by rw [Ve,<-oO.out];rfl);obtain⟨y,hy⟩:∃y,y=r.getD q 0:=⟨_,rfl⟩;rw [<-hy]at a0 xT uM yY;obtain⟨z,hz⟩:∃z,z=y&&&c:=⟨_,rfl⟩;rw [<-hz]at xT uM yY;obtain⟨u,hu⟩:∃u,u=s2|||z:=⟨_,rfl⟩;rw [<-hu]at uM yY;clear tL eP hy hz hu;obtain⟨tb,yC⟩:∃t,t=s2.testBit q:=⟨_,rfl⟩;have cM:=Qq yC;rw [<-yC]at yY;clear yC;go_wp2_with fail;refine(Qmq s2 q _ CD).mono ?_;rintro e w4 ⟨rfl,rfl⟩
     rw [<-cM.out];cases tb
     ·go_wp2_with fail;go_roundw
      case rel=>exact⟨q+1,by go_num,by omega,s2,rfl,Qq ⟨by rw [yY.out];rfl,HX.out⟩⟩
      case measure=>simp [intOf];omega
     go_wp2_with fail;go_roundw
     case rel=>exact⟨q+1,by go_num,by omega,u,rfl,Qq ⟨by rw [yY.out];rfl,HX.out⟩⟩
     case measure=>simp [intOf];omega
    obtain rfl:n=q:=by omega
    have yY:=Qq (show(List.range (k+1)).foldl (fun s _=>Gi r c n s) s0=s2 by rw [Ve (f:=fun s _=>Gi r c n s),<-mG.out,oO.out];rfl);go_wp2_with fail;go_roundw
    case rel=>exact⟨k+1,by go_num,by omega,s2,rfl,Qq ⟨yY.out.symm,HX.out⟩⟩
    case measure=>simp [intOf];omega
  obtain rfl:n=k:=by omega
  have HE:=Qq (show Bq r c n a=s by rw [mG.out,iQ.out];rfl);go_wp2_with fail;go_ret;exact⟨by rw [HE.out] <;> rfl,HX.out⟩
theorem Qdz(v:Value)(r:List Nat)(n c s:Nat)(w:World)(h:Jb w v r)(hw:∀s∈r,Qp s)(hn:n<=64)(hl:n<=r.length)(hc:Qp c)(hs:Qp s):
 Calls Tryz.prog 216 #[v,.int .i64 (n:Int),.int .u64 (c:Int),.int .u64 (s:Int)] w fun e w'=>e=.returned (.int .u64 ((Xb r n c s:Nat):Int))/\Qg w w':=by
 have H:=Qq h;have sK:=Qq hw;have HS:=Qq hs;have HC:=Qq hc;obtain⟨A,cp,rfl,_⟩:=h;clear hw hs hc;go_enter Tryz.func216,Tryz.ntmps216;go_wp2_with fail;go_loopw [9,10] (fun vo vi wr=>∃k:Nat,vi=.int .i64 (k:Int)/\k<=n/\vo=.int .u64 ((Vd k (fun i=>Jr (Bq r c n i) s):Nat):Int)/\Hid (Qg w wr)) (fun _ v _=>n - (intOf v).toNat)
 case atStart=>exact⟨0,rfl,Nat.zero_le _,rfl,Qq Qz⟩
 case round =>
  obtain⟨k,rfl,hk,rfl,HX⟩:=hrel;obtain⟨m,hm⟩:∃m,m=Vd k (fun i=>Jr (Bq r c n i) s):=⟨_,rfl⟩;have HM:=Qq hm;rw [<-hm];clear hm;by_cases hlt2:k < n
  ·have yT:(k:Int) < (n:Int):=by omega
   have vG:k < 64:=by omega
   have wI:min k 64=k:=by omega
   have hz:=Ov (Ql8 sK.out c n k) HS.out;have iO:=Qq (Dk k (fun i=>Jr (Bq r c n i) s));have bE:=Qq (Oo (s:=m) (k:=k) (by rw [HM.out];exact Fi (by omega) _) vG);obtain⟨x,hx⟩:∃x,x=Bq r c n k:=⟨_,rfl⟩;rw [<-hx]at hz;have oX:=Qq hx;clear hx;go_wp2_with fail;refine(Qhk _ r n k c _ (H.out.ext HX.out) sK.out hn hl hlt2 HC.out).mono ?_;rintro e w4 ⟨rfl,yE⟩;rw [<-oX.out];have yN:=Qq (HX.out.trans yE);clear yE;cases hd:Jr x s
   ·rw [hd]at hz;have HP:=Qq (show Vd (k+1) (fun i=>Jr (Bq r c n i) s)=m by rw [iO.out,<-oX.out,hd,HM.out];rfl);clear hd;go_wp2_with fail;go_roundw
    case rel=>exact⟨k+1,by go_num,by omega,by rw [HP.out],yN⟩
    case measure=>simp [intOf];omega
   rw [hd]at hz;have HP:=Qq (show Vd (k+1) (fun i=>Jr (Bq r c n i) s)=m|||2^k by rw [iO.out,<-oX.out,hd,HM.out];rfl);have uM:=bE.out;clear hd;obtain⟨m2,xO⟩:∃m2,m2=m|||2^k:=⟨_,rfl⟩;rw [<-xO]at HP uM;clear xO;go_wp2_with fail;go_roundw
   case rel=>exact⟨k+1,by go_num,by omega,by rw [HP.out],yN⟩
   case measure=>simp [intOf];omega
  obtain rfl:n=k:=by omega
  go_wp2_with fail;go_ret;exact⟨by rw [show Xb r n c s=m from HM.out.symm] <;> rfl,HX.out⟩
theorem Ir(g k:Nat):(⟨g,0,none⟩:Addr).add k=⟨g,k,none⟩:=by unfold Addr.add;cases k <;> simp
def uV(l:List Nat):List Value:=l.map fun(u:Nat)=>Value.int .u64 (u:Int)
theorem Dz:(Tryz.prog.info? 41).map (fun i=>(i.zero,i.size,i.bytes))=some (some (.int .u64 0),1,8):=by kernel_rfl
def Zv(base:Nat)(w:World)(v:Value)(l:List Nat):Prop:=w.ownsRow base 41 1 v l.length (uV l)
section
variable {base:Nat} {w w':World} {v:Value} {l:List Nat} {g n cap k:Nat}
theorem Zv.ext(h:Zv base w v l)(he:Qg w w'):Zv base w' v l:=Zk h he
theorem Zv.nil(base:Nat)(w:World):Zv base w (.slice none 0 0) []:=World.ownsRow_nil _ _ _ _
theorem Zv.slice(h:Zv base w v l)(h0:0 < l.length):∃g cap,v=.slice (some ⟨g,0,none⟩) l.length cap/\g < w.heap.size/\base<=g/\l.length<=cap/\cap<=maxLen/\(∀i,i < l.length->w.cell? ⟨g,i,none⟩=some (.int .u64 ((l.getD i 0:Nat):Int)))/\∀i,w.frozen? ⟨g,i,none⟩=false:=by
 rcases h.2 with⟨_,e0⟩|⟨g,cap,cur,rfl,hb,hg,iE,hm,hs,ht⟩
 ·omega
 refine⟨g,cap,rfl,Qn hg,hb,iE,hm,fun i hi=> ?_,fun i=>by simp [World.frozen?,hg]⟩;have h1:(uV l)[i]?=some (.int .u64 ((l.getD i 0:Nat):Int)):=by
  unfold uV;rw [List.getElem?_map,Qk,Qv hi];rfl
 rw [<-ht,List.getElem?_take]at h1
 split at h1
 ·have h2:cur[i]?=some (.int .u64 ((l.getD i 0:Nat):Int)):=by simpa using h1
  simp [World.cell?,hg,h2]
 cases h1
theorem Zv.at_(h:Zv base w (.slice (some ⟨g,0,none⟩) n cap) l)(h0:0 < l.length):n=l.length/\g < w.heap.size/\base<=g/\n<=cap/\cap<=maxLen/\(∀i,i < l.length->w.cell? ⟨g,i,none⟩=some (.int .u64 ((l.getD i 0:Nat):Int)))/\∀i,w.frozen? ⟨g,i,none⟩=false:=by
 obtain⟨g',cap',e,h1,h2,h3,h4,h5,h6⟩:=h.slice h0;injection e with e1 e2 e3;injection e1 with e1;injection e1 with e1;subst e1 e2 e3;exact⟨rfl,h1,h2,h3,h4,h5,h6⟩
theorem Zv.u64s(h:Zv base w v l):Jb w v l:=by
 rcases Nat.eq_zero_or_pos l.length with h0|h0
 ·have:l= []:=List.length_eq_zero_iff.1 h0;subst this;rcases h.2 with⟨e,_⟩|⟨g,cap,cur,rfl,hb,hg,iE,hm,hs,ht⟩
  ·subst e;exact Qn2 w
  exact⟨_,cap,rfl,iE,hm,fun h=>absurd rfl h⟩
 obtain⟨g,cap,rfl,h1,_,h3,h4,h5,_⟩:=h.slice h0;refine⟨_,cap,rfl,h3,h4,fun _=>⟨_,rfl,h1,fun k z hk=> ?_⟩⟩;have rH:=(List.getElem?_eq_some_iff.1 hk).1;have:=h5 k rH;rw [Ir,this,Qk,hk];rfl
theorem Zv.set(h:Zv base w (.slice (some ⟨g,0,none⟩) n cap) l)(hn:l.length=n)(j s:Nat):Zv base (w.setCell ⟨g,j,none⟩ (.int .u64 (s:Int))) (.slice (some ⟨g,0,none⟩) n cap) (l.set j s):=by
 subst hn;have h1:=(World.ownsRow.stored h j (.int .u64 (s:Int))).1;unfold Zv uV;rw [List.length_set,List.map_set];exact h1
theorem Sk(w:World)(t:TypeId):(w.alloc (.cells #[] t)).ownsRow w.heap.size t 1 (.slice (some ⟨w.heap.size,0,none⟩) 0 0) 0 []:=
 ⟨rfl,.inr ⟨w.heap.size,0,#[],rfl,Nat.le_refl _,heap_alloc_new _ _,Nat.le_refl _,by unfold maxLen;omega,rfl,rfl⟩⟩
theorem De {ad:Addr}(h:∀i,i < l.length->w.cell? (ad.add i)=some (.int .u64 ((l.getD i 0:Nat):Int))):∀(j:Nat) u,(uV l)[j]?=some u->w.cell? (ad.add j)=some u:=fun j u hj=>by
 unfold uV at hj;rw [List.getElem?_map]at hj;cases e:l[j]? with
 |none=>rw [e]at hj;cases hj
 |some x =>
  rw [e]at hj;have hk:=(List.getElem?_eq_some_iff.1 e).1;rw [h j hk,Qk,e];exact hj
theorem Et(l:List Nat):∀u∈uV l,u.oneCell'=true:=fun u hu=>by
 obtain⟨x,_,rfl⟩:=List.mem_map.1 hu;rfl
theorem Es(l:List Nat):(uV l).length=l.length:=by simp [uV]
end
theorem Hy(va vb:Value)(a b:List Nat)(w:World)(ha:Jb w va a)(hb:Jb w vb b):
 Calls Tryz.prog 174 #[va,vb] w fun e w'=>e=.returned (.bool (decide (a=b)))/\Qg w w':=by
 obtain⟨Aa,ca,rfl,UY,UX,HA⟩:=Vl ha;unfold maxLen at UX;obtain⟨Ab,cb,rfl,_,_,HB⟩:=Vl hb;clear ha hb;by_cases hl:a.length=b.length
 ·have HL:=Qq hl;obtain⟨n,hn⟩:∃n,n=a.length:=⟨_,rfl⟩;have iW:=Qq hn;rw [<-hn]at hl HA UY⊢;rw [<-hl]at HB⊢;have uN:((n:Int) !=(n:Int))=false:=by simp
  clear hn hl;go_enter Tryz.func174,Tryz.ntmps174;go_wp2_with fail;go_loopw [5] (fun v wr=>∃k:Nat,v=.int .i64 (k:Int)/\k<=n/\Hid (Qg w wr/\∀j,j < k->a.getD j 0=b.getD j 0)) (fun v _=>n - (intOf v).toNat)
  case atStart=>exact⟨0,rfl,Nat.zero_le _,Qq ⟨Qz,fun j hj=>absurd hj (by omega)⟩⟩
  case round =>
   obtain⟨k,rfl,hk,zY⟩:=hrel;have HX:=Qq zY.out.1;have HJ:=Qq zY.out.2;clear zY;by_cases hlt2:k < n
   ·have yT:(k:Int) < (n:Int):=by omega
    obtain⟨ad,rfl,zV,hc⟩:=HA.out k hlt2;obtain⟨bd,rfl,mU,hd⟩:=HB.out k hlt2;have a0:=(HX.out.cell (p:=ad.add k) (Qj zV)).trans hc;have al:(ad.add k).block < wr.heap.size:=by rw [Qt];exact Qy zV HX.out.size
    have b0:=(HX.out.cell (p:=bd.add k) (Qj mU)).trans hd;have bl:(bd.add k).block < wr.heap.size:=by rw [Qt];exact Qy mU HX.out.size
    have zE:=Qq (show a.getD k 0=b.getD k 0->∀j,j < k+1->a.getD j 0=b.getD j 0 from fun h=>Do (P:=fun j=>a.getD j 0=b.getD j 0) HJ.out h);have tH:=Qq (show a.getD k 0≠b.getD k 0->decide (a=b)=false from fun h=>decide_eq_false fun e=>h (by rw [e]));obtain⟨x,hx⟩:∃x,x=a.getD k 0:=⟨_,rfl⟩;obtain⟨y,hy⟩:∃y,y=b.getD k 0:=⟨_,rfl⟩;rw [<-hx]at a0 zE tH;rw [<-hy]at b0 zE tH;clear hc hd hx hy;go_upto_region 6 with(fail);by_cases hq:x=y
    ·have HP:=Qq (zE.out hq);have zQ:((x:Int) !=(y:Int))=false:=by rw [hq];simp
     clear hq;refine wp_region_held_drew (S:=fun w'=>w'.cell? (ad.add k)=some (.int .u64 (x:Int))/\w'.cell? (bd.add k)=some (.int .u64 (y:Int))) (by kernel_rfl) ⟨xc al a0,xc bl b0⟩ (fun zZ=> ?_);refine tk 0 zZ ?_;refine tk 1 zZ ?_;refine tk 2 zZ ?_;refine tk 3 zZ ?_;refine tk 4 zZ ?_;refine tk 5 zZ ?_;refine tk 6 zZ ?_;refine tk 7 zZ ?_;refine tk 8 zZ ?_;refine wpAnyH_done (by kernel_rfl) ?_ _;go_wp2_with fail;go_roundw
     case rel=>exact⟨k+1,by go_num,by omega,Qq ⟨HX.out.trans Qz.drew,HP.out⟩⟩
     case measure=>simp [intOf];omega
    have HE:=Qq (tH.out hq);have zQ:((x:Int) !=(y:Int))=true:=by simp;omega
    clear hq;refine wp_region_held_drew (S:=fun w'=>w'.cell? (ad.add k)=some (.int .u64 (x:Int))/\w'.cell? (bd.add k)=some (.int .u64 (y:Int))) (by kernel_rfl) ⟨xc al a0,xc bl b0⟩ (fun zZ=> ?_);refine tk 0 zZ ?_;refine tk 1 zZ ?_;refine tk 2 zZ ?_;refine tk 3 zZ ?_;refine tk 4 zZ ?_;refine tk 5 zZ ?_;refine tk 6 zZ ?_;refine tk 7 zZ ?_;refine tk 8 zZ ?_;refine wpAnyH_done (by kernel_rfl) ?_ _;go_wp2_with fail;go_ret;exact⟨by rw [HE.out] <;> rfl,HX.out.trans Qz.drew⟩
   obtain rfl:n=k:=by omega
   have HE:=Qq (show decide (a=b)=true from decide_eq_true (Wc HL.out (by rw [<-iW.out];exact HJ.out)));go_wp2_with fail;go_ret;exact⟨by rw [HE.out] <;> rfl,HX.out⟩
 have zQ:((a.length:Int) !=(b.length:Int))=true:=by simp;omega
 have HE:=Qq (show decide (a=b)=false from decide_eq_false fun e=>hl (by rw [e]));go_enter Tryz.func174,Tryz.ntmps174;go_wp2_with fail;go_ret;exact⟨by rw [HE.out] <;> rfl,Qz⟩
theorem Qxh(v:Value)(l:List Nat)(w:World)(h:Jb w v l)(hw:∀s∈l,Qp s)(hv:Xj l=true)(h0:0 < l.length):
 Calls Tryz.prog 170 #[v] w fun e w'=>∃u,e=.returned (.tuple #[u,.int .i64 0])/\Qg w w'/\Zv w.heap.size w' u (Rj l l.length):=by
 have H:=Qq h;have HW:=Qq hw;have sA:=(Fz.1 hv).1;have HV:=Qq (show Jh l.length l=0 by unfold Xj at hv;simpa using hv);obtain⟨A,c,rfl,_,_,HL⟩:=Vl h;obtain⟨iU,sR,xG,xF,xE⟩:=info_parts Dz;clear h hw hv;go_enter Tryz.func170,Tryz.ntmps170;go_wp2_with fail;refine(Pj _ l _ H.out HW.out).mono ?_;rintro e w2 ⟨rfl,zT⟩;rw [HV.out];have zS:=Qq zT;clear zT;obtain⟨ad,rfl,zV,_⟩:=HL.out 0 h0;have tF:=Qq (show ∀(j:Nat) u,(uV l)[j]?=some u->(w2.alloc (.cells #[] 41)).cell? (ad.add j)=some u from De fun i hi=>by
  obtain⟨ad2,e,_,hc⟩:=HL.out i hi;injection e with e;subst e;exact((zS.out.alloc _).cell (p:=ad.add i) (Qj zV)).trans hc)
 have rV:=Qq (Sk w2 41);obtain⟨n,hn⟩:∃n,n=l.length:=⟨_,rfl⟩;have HN:=Qq hn;rw [<-hn]at sA h0⊢;have uR:0+n<=maxLen:=by unfold maxLen;omega
 have xO:(0+n)*8<=140737488355328:=by omega
 clear hn;go_wp2_with(at_builtin;refine wpList_append_own_at _ rfl _ _ 23 rfl w2.heap.size 41 iU (.int .u64 0) 1 8 Tryz.underlying23 sR xG xF xE rfl (by decide) _ 0 [] rfl rV.out ad n c (uV l) rfl (by rw [Es,Nat.mul_one];exact HN.out.symm) tF.out (Et l) uR xO (by simp) ?_);intro v3 w3 xZ yI _ _;have zD:=Qq (show Qg w w3 from(zS.out.alloc _).grown yI (fun k hk=>by have h1:=zS.out.size;have h2:w2.heap.size=k:=Option.some.inj hk;omega));have HM:=Qq (show Zv w.heap.size w3 v3 l by
  unfold Zv;rw [<-HN.out];exact Kl xZ zS.out.size)
 clear xZ yI;obtain⟨g,cap,rfl,xP,uC,_,xK,_,_⟩:=HM.out.slice (by rw [<-HN.out];exact h0);rw [<-HN.out]at HM⊢;clear xP;go_wp2_with fail;go_loopw [6] (fun v wr=>∃k:Nat,v=.int .i64 (k:Int)/\k<=n/\Hid (Qg w wr/\Zv w.heap.size wr (.slice (some ⟨g,0,none⟩) n cap) (Rj l k))) (fun v _=>n - (intOf v).toNat)
 case atStart=>exact⟨0,rfl,Nat.zero_le _,Qq ⟨zD.out,by rw [Qmk];exact HM.out⟩⟩
 case round =>
  obtain⟨k,rfl,hk,zY⟩:=hrel;have HX:=Qq zY.out.1;have HR:=Qq zY.out.2;clear zY;by_cases hlt2:k < n
  ·have yT:(k:Int) < (n:Int):=by omega
   have vG:k < 64:=by omega
   have wI:min k 64=k:=by omega
   obtain⟨_,gl,_,_,_,yO,xJ⟩:=HR.out.at_ (by rw [Bz,<-HN.out];exact h0);have gc:=yO k (by rw [Bz,<-HN.out];exact hlt2);have gf:=xJ k;rw [Cq (by rw [<-HN.out];exact hlt2),if_neg (Nat.lt_irrefl _)]at gc;obtain⟨y,hy⟩:∃y,y=l.getD k 0|||2^k:=⟨_,rfl⟩;have uM:bits .or .u64 ((l.getD k 0:Nat):Int) (IntKind.u64.wrap ((2:Int)^k))=(y:Int):=by
    rw [Mo vG,hy];exact Gq (Yg HW.out k) (Qy (Nat.pow_lt_pow_right (by decide) (Nat.lt_succ_self k)) (Rv (show k+1<=64 by omega)))
   have yY:=Qq (show Zv w.heap.size (wr.setCell ⟨g,k,none⟩ (.int .u64 (y:Int))) (.slice (some ⟨g,0,none⟩) n cap) (Rj l (k+1)) by
    rw [<-Qmv (by rw [<-HN.out];exact hlt2),<-hy];exact HR.out.set (by rw [Bz];exact HN.out.symm) k y)
   obtain⟨x,hx⟩:∃x,x=l.getD k 0:=⟨_,rfl⟩;rw [<-hx]at gc uM;clear yO xJ hx hy;go_wp2_with fail;go_roundw
   case rel=>exact⟨k+1,by go_num,by omega,Qq ⟨HX.out.setCell (p:=⟨g,k,none⟩) uC _,yY.out⟩⟩
   case measure=>simp [intOf];omega
  obtain rfl:n=k:=by omega
  go_wp2_with fail;go_ret2;exact⟨_,rfl,HX.out,by rw [<-HN.out];exact HR.out⟩
def Ep(w:World)(g n:Nat):Nat:=(List.range (n*n)).countP fun k=>match w.cell? ⟨g,k / n,none⟩with|some (.int _ z)=> !z.toNat.testBit (k % n)|_=>true
def Zy7(v:Value):Nat:=match v with| .bool true=>1|_=>0
theorem Qxi {bs g n cap:Nat} {w:World} {l:List Nat}(h:Zv bs w (.slice (some ⟨g,0,none⟩) n cap) l)(h0:0 < l.length):Ep w g n=Dj n l:=by
 obtain⟨hn,_,_,_,_,hc,_⟩:=h.at_ h0;unfold Ep Dj;refine List.countP_congr fun k hk=> ?_
 have wW:k / n < l.length:=by
  rw [<-hn];have:=List.mem_range.1 hk;exact Nat.div_lt_of_lt_mul this
 rw [hc _ wW];show(!((l.getD (k / n) 0:Nat):Int).toNat.testBit (k % n))=true↔_;rw [Int.toNat_natCast]
structure GwS (eu:Bool) (w wr:World) (g cap n:Nat) (r out:List Nat):Prop where
 ext:Qg w wr
 row:Zv w.heap.size wr (.slice (some ⟨g,0,none⟩) n cap) out
 grw:Tb eu r out n
theorem Qdt(eu:Bool)(v:Value)(r:List Nat)(w:World)(h:Jb w v r)(sA:r.length<=64)(hb:Zf r r.length=false)(h0:0 < r.length):
 Calls Tryz.prog 205 #[v,.bool eu] w fun e w'=>∃u,e=.returned u/\Qg w w'/\∃out,Zv w.heap.size w' u out/\(out=r↔Gz eu r):=by
 obtain⟨A,c,rfl,_,_,HL⟩:=Vl h;obtain⟨iU,sR,xG,xF,xE⟩:=info_parts Dz;clear h;obtain⟨ad,rfl,zV,_⟩:=HL.out 0 h0;have tF:=Qq (show ∀(j:Nat) u,(uV r)[j]?=some u->(w.alloc (.cells #[] 41)).cell? (ad.add j)=some u from De fun i hi=>by
  obtain⟨ad2,e,_,hc⟩:=HL.out i hi;injection e with e;subst e;exact(((Qg.refl w).alloc _).cell (p:=ad.add i) (Qj zV)).trans hc)
 have rV:=Qq (Sk w 41);have IQ:=Qq (Tb.start (eu:=eu) (r:=r) rfl hb);obtain⟨n,hn⟩:∃n,n=r.length:=⟨_,rfl⟩;have HN:=Qq hn;rw [<-hn]at sA h0 IQ⊢;have uR:0+n<=maxLen:=by unfold maxLen;omega
 have xO:(0+n)*8<=140737488355328:=by omega
 clear hn hb;go_enter Tryz.func205,Tryz.ntmps205;go_wp2_with(at_builtin;refine wpList_append_own_at _ rfl _ _ 23 rfl w.heap.size 41 iU (.int .u64 0) 1 8 Tryz.underlying23 sR xG xF xE rfl (by decide) _ 0 [] rfl rV.out ad n c (uV r) rfl (by rw [Es,Nat.mul_one];exact HN.out.symm) tF.out (Et r) uR xO (by simp) ?_);intro v3 w3 xZ yI _ _;have zD:=Qq (show Qg w w3 from((Qg.refl w).alloc _).grown yI (fun k hk=>by have h2:w.heap.size=k:=Option.some.inj hk;omega));have HM:=Qq (show Zv w.heap.size w3 v3 r by
  unfold Zv;rw [<-HN.out];exact xZ)
 clear xZ yI;obtain⟨g,cap,rfl,xP,uC,_,xK,_,_⟩:=HM.out.slice (by rw [<-HN.out];exact h0);rw [<-HN.out]at HM⊢;have iQ:=Qq (show GwS eu w w3 g cap n r r from⟨zD.out,HM.out,IQ.out⟩);have MI:n<=64:=sA;clear xP HM zD IQ;go_wp2_with fail;go_loopw [6] (fun vc wr=>∃fl:Bool,vc=.bool fl/\Hid (∃out,GwS eu w wr g cap n r out/\(fl=false->∀a,a < n->∀b,b < n->Ds eu out a b))) (fun vc wr=>2*Ep wr g n+Zy7 vc)
 case atStart=>exact⟨true,rfl,Qq ⟨r,iQ.out,fun e=>by cases e⟩⟩
 case round =>
  clear iQ;obtain⟨fl,rfl,zY⟩:=hrel;obtain⟨out0,qW,nM⟩:=zY.out;have iQ:=Qq qW;have fU:=Qq nM;clear zY qW nM;cases fl
  ·have HD:=Qq (iQ.out.grw.done HN.out.symm (fU.out (by trivial)));go_wp2_with fail;go_ret
   first
   |exact⟨_,rfl,iQ.out.ext,out0,iQ.out.row,HD.out⟩
   |exact⟨iQ.out.ext,out0,iQ.out.row,HD.out⟩
  have FA:=Qq (Qxi iQ.out.row (by rw [iQ.out.grw.len];exact h0));obtain⟨wp,hwp⟩:∃v,v=wr:=⟨_,rfl⟩;subst hwp;go_wp2_with fail;go_loopw [6,7] (fun vc vi wr=>∃a:Nat,vi=.int .i64 (a:Int)/\a<=n/\∃fl:Bool,vc=.bool fl/\Hid (∃out,GwS eu w wr g cap n r out/\(fl=false->∀a',a' < a->∀b,b < n->Ds eu out a' b)/\Dj n out<=Dj n out0/\(fl=true->Dj n out < Dj n out0))) (fun _ vi _=>n - (intOf vi).toNat)
  case atStart=>exact⟨0,rfl,Nat.zero_le _,false,rfl,Qq ⟨out0,iQ.out,(fun _ a' EQ=>absurd EQ (by omega)),Nat.le_refl _,fun e=>by cases e⟩⟩
  case round =>
   obtain⟨a,rfl,ha,fl,rfl,zY⟩:=hrel;by_cases hlt2:a < n
   ·have yT:(a:Int) < (n:Int):=by omega
    obtain⟨wq,vE⟩:∃v,v=wr:=⟨_,rfl⟩;subst vE;go_wp2_with fail;go_loopw [6,8] (fun vc vi wr=>∃b:Nat,vi=.int .i64 (b:Int)/\b<=n/\∃fl:Bool,vc=.bool fl/\Hid (∃out,GwS eu w wr g cap n r out/\(fl=false->(∀a',a' < a->∀b,b < n->Ds eu out a' b)/\∀b',b' < b->Ds eu out a b')/\Dj n out<=Dj n out0/\(fl=true->Dj n out < Dj n out0))) (fun _ vi _=>n - (intOf vi).toNat)
    case atStart =>
     obtain⟨out,h1,h2,h3,h4⟩:=zY.out;exact⟨0,rfl,Nat.zero_le _,fl,rfl,Qq ⟨out,h1,fun e=>⟨h2 e,fun b' KG=>absurd KG (by omega)⟩,h3,h4⟩⟩
    case round =>
     clear zY;obtain⟨b,rfl,hb,fl,rfl,zY⟩:=hrel;obtain⟨out,hs,gM,oA,kM⟩:=zY.out;have HS:=Qq hs;have qV:=Qq gM;have cH:=Qq oA;have SE:=Qq kM;clear zY hs gM oA kM;by_cases yQ:b < n
     ·have wW:(b:Int) < (n:Int):=by omega
      have EI:b < 64:=by omega
      obtain⟨-,gl,-,-,-,yO,xJ⟩:=HS.out.row.at_ (by rw [HS.out.grw.len];exact h0);have ca:=yO a (by rw [HS.out.grw.len];exact hlt2);have cb:=yO b (by rw [HS.out.grw.len];exact yQ);have wY:=Qq xJ;have VQ:=Qq (show Qp (out.getD a 0)from Qy (HS.out.grw.lt a hlt2) (Rv MI));have FO:=Qq (show Qp (out.getD b 0)from Qy (HS.out.grw.lt b yQ) (Rv MI));have zE:=Qq (show Ds eu out a b->∀fl:Bool,(fl=false->(∀a',a' < a->∀b,b < n->Ds eu out a' b)/\∀b',b' < b->Ds eu out a b')->(fl=false->(∀a',a' < a->∀b,b < n->Ds eu out a' b)/\∀b',b' < b+1->Ds eu out a b')from fun h fl h1 e=>⟨(h1 e).1,Do (P:=fun b'=>Ds eu out a b') (h1 e).2 h⟩)
      obtain⟨x,hx⟩:∃x,x=out.getD a 0:=⟨_,rfl⟩;obtain⟨y,hy⟩:∃y,y=out.getD b 0:=⟨_,rfl⟩;have oX:=Qq hx;have FG:=Qq hy;rw [<-hx]at ca VQ;rw [<-hy]at cb FO;clear yO xJ hx hy;obtain⟨tb,yC⟩:∃t,t=x.testBit b:=⟨_,rfl⟩;have cM:=Qq yC;clear yC;go_wp2_with fail;refine(Qht x b _ EI VQ.out).mono ?_;rintro e w4 ⟨rfl,rfl⟩;rw [<-cM.out];cases tb
      ·have HP:=Qq (zE.out (Qiy (by rw [<-oX.out];exact cM.out.symm)) fl qV.out);go_wp2_with fail;go_roundw
       case rel=>exact⟨b+1,by go_num,by omega,fl,rfl,Qq ⟨out,HS.out,HP.out,cH.out,SE.out⟩⟩
       case measure=>simp [intOf];omega
      cases eu
      ·skip
       obtain⟨z,hz⟩:∃z,z=x|||y:=⟨_,rfl⟩;have uM:bits .or .u64 (x:Int) (y:Int)=(z:Int):=by rw [hz];exact Gq VQ.out FO.out
       have VL:=Qq (show z=out.getD (Rn false a b) 0|||Wo false out a b by rw [hz,oX.out,FG.out];rfl);have gA:=Qq (show x=out.getD (Rn false a b) 0 from oX.out);have gf:=wY.out a;clear hz;go_upto_region 12 with(fail);refine wp_region_held_drew (S:=fun w'=>w'.cell? (⟨g,a,none⟩)=some (.int .u64 (x:Int))/\w'.cell? (⟨g,b,none⟩)=some (.int .u64 (y:Int))) (by kernel_rfl) ⟨xc gl ca,xc gl cb⟩ (fun zZ=> ?_);refine tk 0 zZ ?_;refine tk 1 zZ ?_;refine tk 2 zZ ?_;refine tk 3 zZ ?_;refine tk 4 zZ ?_;refine tk 5 zZ ?_;refine tk 6 zZ ?_;refine wpAnyH_done (by kernel_rfl) ?_ _;obtain⟨W1,tT⟩:∃v,v=wr.drew:=⟨_,rfl⟩
       have vH:=Qq (show Qg wr W1 by rw [tT];exact Qz.drew);rw [<-tT];clear tT;have ca:=(vH.out.cell (p:=⟨g,a,none⟩) gl).trans ca;have cb:=(vH.out.cell (p:=⟨g,b,none⟩) gl).trans cb;have gf:=(vH.out.frozen (p:=⟨g,a,none⟩) gl).trans gf;have gl:=Qy gl vH.out.size;go_upto_region 15 with(fail);by_cases hzx:z=x
       ·have zQ:((z:Int) !=(x:Int))=false:=by rw [hzx];simp
        have HP:=Qq (zE.out (Qgw (by rw [<-VL.out,<-gA.out];exact hzx)) fl qV.out);clear hzx;refine wp_region_held_drew (S:=fun w'=>w'.cell? (⟨g,a,none⟩)=some (.int .u64 (x:Int))/\w'.cell? (⟨g,b,none⟩)=some (.int .u64 (y:Int))) (by kernel_rfl) ⟨xc gl ca,xc gl cb⟩ (fun zZ=> ?_);refine tk 0 zZ ?_;refine tk 1 zZ ?_;refine tk 2 zZ ?_;refine tk 3 zZ ?_;refine tk 4 zZ ?_;refine tk 5 zZ ?_;refine tk 6 zZ ?_;refine tk 7 zZ ?_;refine tk 8 zZ ?_;refine tk 9 zZ ?_;refine tk 10 zZ ?_;refine wpAnyH_done (by kernel_rfl) ?_ _;go_wp2_with fail;go_roundw
        case rel=>exact⟨b+1,by go_num,by omega,fl,rfl,Qq ⟨out,⟨HS.out.ext.trans (vH.out.trans Qz.drew),HS.out.row.ext (vH.out.trans Qz.drew),HS.out.grw⟩,HP.out,cH.out,SE.out⟩⟩
        case measure=>simp [intOf];omega
       have zQ:((z:Int) !=(x:Int))=true:=by simp;omega
       have yY:=Qq (HS.out.grw.step hlt2 yQ (by rw [<-oX.out];exact cM.out.symm) (by rw [<-VL.out,<-gA.out];exact hzx));rw [<-VL.out]at yY;clear hzx;refine wp_region_held_drew (S:=fun w'=>w'.cell? (⟨g,a,none⟩)=some (.int .u64 (x:Int))/\w'.cell? (⟨g,b,none⟩)=some (.int .u64 (y:Int))) (by kernel_rfl) ⟨xc gl ca,xc gl cb⟩ (fun zZ=> ?_);refine tk 0 zZ ?_;refine tk 1 zZ ?_;refine tk 2 zZ ?_;refine tk 3 zZ ?_;refine tk 4 zZ ?_;refine tk 5 zZ ?_;refine tk 6 zZ ?_;refine tk 7 zZ ?_;refine tk 8 zZ ?_;refine tk 9 zZ ?_;refine tk 10 zZ ?_;refine wpAnyH_done (by kernel_rfl) ?_ _
       have OP:=Qq (vH.out.trans Qz.drew);have tE:=Qq (((HS.out.row.ext OP.out)).set HS.out.grw.len a z);go_wp2_with fail;go_roundw
       case rel=>exact⟨b+1,by go_num,by omega,true,rfl,Qq ⟨_,⟨(HS.out.ext.trans OP.out).setCell (p:=⟨g,a,none⟩) uC _,tE.out,yY.out.1⟩,(fun e=>by cases e),Nat.le_of_lt (Qy yY.out.2 cH.out),fun _=>Qy yY.out.2 cH.out⟩⟩
       case measure=>simp [intOf];omega
      skip
      obtain⟨z,hz⟩:∃z,z=y|||x:=⟨_,rfl⟩;have uM:bits .or .u64 (y:Int) (x:Int)=(z:Int):=by rw [hz];exact Gq FO.out VQ.out
      have VL:=Qq (show z=out.getD (Rn true a b) 0|||Wo true out a b by rw [hz,oX.out,FG.out];rfl);have gA:=Qq (show y=out.getD (Rn true a b) 0 from FG.out);have gf:=wY.out b;clear hz;go_upto_region 12 with(fail);refine wp_region_held_drew (S:=fun w'=>w'.cell? (⟨g,a,none⟩)=some (.int .u64 (x:Int))/\w'.cell? (⟨g,b,none⟩)=some (.int .u64 (y:Int))) (by kernel_rfl) ⟨xc gl ca,xc gl cb⟩ (fun zZ=> ?_);refine tk 0 zZ ?_;refine tk 1 zZ ?_;refine tk 2 zZ ?_;refine tk 3 zZ ?_;refine tk 4 zZ ?_;refine tk 5 zZ ?_;refine tk 6 zZ ?_;refine wpAnyH_done (by kernel_rfl) ?_ _;obtain⟨W1,tT⟩:∃v,v=wr.drew:=⟨_,rfl⟩
      have vH:=Qq (show Qg wr W1 by rw [tT];exact Qz.drew);rw [<-tT];clear tT;have ca:=(vH.out.cell (p:=⟨g,a,none⟩) gl).trans ca;have cb:=(vH.out.cell (p:=⟨g,b,none⟩) gl).trans cb;have gf:=(vH.out.frozen (p:=⟨g,b,none⟩) gl).trans gf;have gl:=Qy gl vH.out.size;go_upto_region 14 with(fail);refine wp_region_held_drew (S:=fun w'=>w'.cell? (⟨g,a,none⟩)=some (.int .u64 (x:Int))/\w'.cell? (⟨g,b,none⟩)=some (.int .u64 (y:Int))) (by kernel_rfl) ⟨xc gl ca,xc gl cb⟩ (fun zZ=> ?_);refine tk 0 zZ ?_;refine tk 1 zZ ?_;refine tk 2 zZ ?_;refine tk 3 zZ ?_;refine tk 4 zZ ?_;refine tk 5 zZ ?_
      refine tk 6 zZ ?_;refine wpAnyH_done (by kernel_rfl) ?_ _;obtain⟨W2,gQ⟩:∃v,v=W1.drew:=⟨_,rfl⟩;have uU:=Qq (show Qg W1 W2 by rw [gQ];exact Qz.drew);rw [<-gQ];clear gQ;have ca:=(uU.out.cell (p:=⟨g,a,none⟩) gl).trans ca;have cb:=(uU.out.cell (p:=⟨g,b,none⟩) gl).trans cb;have gf:=(uU.out.frozen (p:=⟨g,b,none⟩) gl).trans gf;have gl:=Qy gl uU.out.size;go_upto_region 15 with(fail);by_cases hzx:z=y
      ·have zQ:((z:Int) !=(y:Int))=false:=by rw [hzx];simp
       have HP:=Qq (zE.out (Qgw (by rw [<-VL.out,<-gA.out];exact hzx)) fl qV.out);clear hzx;refine wp_region_held_drew (S:=fun w'=>w'.cell? (⟨g,a,none⟩)=some (.int .u64 (x:Int))/\w'.cell? (⟨g,b,none⟩)=some (.int .u64 (y:Int))) (by kernel_rfl) ⟨xc gl ca,xc gl cb⟩ (fun zZ=> ?_);refine tk 0 zZ ?_;refine tk 1 zZ ?_;refine tk 2 zZ ?_;refine tk 3 zZ ?_;refine tk 4 zZ ?_;refine tk 5 zZ ?_;refine tk 6 zZ ?_;refine tk 7 zZ ?_;refine tk 8 zZ ?_;refine tk 9 zZ ?_;refine tk 10 zZ ?_;refine wpAnyH_done (by kernel_rfl) ?_ _;go_wp2_with fail;go_roundw
       case rel=>exact⟨b+1,by go_num,by omega,fl,rfl,Qq ⟨out,⟨HS.out.ext.trans ((vH.out.trans uU.out).trans Qz.drew),HS.out.row.ext ((vH.out.trans uU.out).trans Qz.drew),HS.out.grw⟩,HP.out,cH.out,SE.out⟩⟩
       case measure=>simp [intOf];omega
      have zQ:((z:Int) !=(y:Int))=true:=by simp;omega
      have yY:=Qq (HS.out.grw.step hlt2 yQ (by rw [<-oX.out];exact cM.out.symm) (by rw [<-VL.out,<-gA.out];exact hzx));rw [<-VL.out]at yY;clear hzx;refine wp_region_held_drew (S:=fun w'=>w'.cell? (⟨g,a,none⟩)=some (.int .u64 (x:Int))/\w'.cell? (⟨g,b,none⟩)=some (.int .u64 (y:Int))) (by kernel_rfl) ⟨xc gl ca,xc gl cb⟩ (fun zZ=> ?_);refine tk 0 zZ ?_;refine tk 1 zZ ?_;refine tk 2 zZ ?_;refine tk 3 zZ ?_;refine tk 4 zZ ?_;refine tk 5 zZ ?_;refine tk 6 zZ ?_;refine tk 7 zZ ?_;refine tk 8 zZ ?_;refine tk 9 zZ ?_;refine tk 10 zZ ?_;refine wpAnyH_done (by kernel_rfl) ?_ _
      have OP:=Qq ((vH.out.trans uU.out).trans Qz.drew);have tE:=Qq (((HS.out.row.ext OP.out)).set HS.out.grw.len b z);go_wp2_with fail;go_roundw
      case rel=>exact⟨b+1,by go_num,by omega,true,rfl,Qq ⟨_,⟨(HS.out.ext.trans OP.out).setCell (p:=⟨g,b,none⟩) uC _,tE.out,yY.out.1⟩,(fun e=>by cases e),Nat.le_of_lt (Qy yY.out.2 cH.out),fun _=>Qy yY.out.2 cH.out⟩⟩
      case measure=>simp [intOf];omega
     obtain rfl:n=b:=by omega
     go_wp2_with fail;go_roundw
     case rel=>exact⟨a+1,by go_num,by omega,fl,rfl,Qq ⟨out,HS.out,(fun e=>Do (P:=fun a'=>∀b,b < n->Ds eu out a' b) (qV.out e).1 (qV.out e).2),cH.out,SE.out⟩⟩
     case measure=>simp [intOf];omega
   obtain rfl:n=a:=by omega
   obtain⟨out,hs,gM,oA,kM⟩:=zY.out;have HS:=Qq hs;have qV:=Qq gM;have cH:=Qq oA;have SE:=Qq kM;have KK:=Qq (Qxi hs.row (by rw [hs.grw.len];exact h0));clear zY hs gM oA kM;go_wp2_with fail;go_roundw
   case rel=>exact⟨fl,rfl,Qq ⟨out,HS.out,qV.out⟩⟩
   case measure =>
    have h1:=FA.out;have h2:=KK.out;have h3:=cH.out;cases fl
    ·show 2*Ep wr g n+0 < 2*Ep wp g n+1;omega
    show 2*Ep wr g n+1 < 2*Ep wp g n+1;have:=SE.out rfl;omega
theorem Qkf(v:Value)(l:List Nat)(w:World)(h:Jb w v l)(hw:∀s∈l,Qp s)(hv:Xj l=true)(h0:0 < l.length):
 Calls Tryz.prog 172 #[v] w fun e w'=>∃u,e=.returned (.tuple #[u,.int .i64 0])/\Qg w w'/\∃out,Zv w.heap.size w' u out/\(out=l↔Gz false l):=by
 have H:=Qq h;have HW:=Qq hw;obtain⟨sA,qQ⟩:=Fz.1 hv;have HV:=Qq (show Jh l.length l=0 by unfold Xj at hv;simpa using hv);obtain⟨A,c,rfl,_⟩:=h;clear hw hv;go_enter Tryz.func172,Tryz.ntmps172;go_wp2_with fail;refine(Pj _ l _ H.out HW.out).mono ?_;rintro e w2 ⟨rfl,zT⟩;rw [HV.out];have zS:=Qq zT;clear zT;go_wp2_with fail;refine(Qdt false _ l _ (H.out.ext zS.out) sA qQ h0).mono ?_;rintro e w3 ⟨u,rfl,zF,out,hm,eE⟩;have zD:=Qq (zS.out.trans zF);have HM:=Qq (show Zv w.heap.size w3 u out from Kl hm zS.out.size);have HI:=Qq eE;clear zF hm eE;go_wp2_with fail
 go_ret2;exact⟨u,rfl,zD.out,out,HM.out,HI.out⟩
theorem Qk2(v:Value)(l:List Nat)(w:World)(h:Jb w v l)(hw:∀s∈l,Qp s)(hv:Xj l=true)(h0:0 < l.length):
 Calls Tryz.prog 173 #[v] w fun e w'=>∃u,e=.returned (.tuple #[u,.int .i64 0])/\Qg w w'/\∃out,Zv w.heap.size w' u out/\(out=l↔Gz true l):=by
 have H:=Qq h;have HW:=Qq hw;obtain⟨sA,qQ⟩:=Fz.1 hv;have HV:=Qq (show Jh l.length l=0 by unfold Xj at hv;simpa using hv);obtain⟨A,c,rfl,_⟩:=h;clear hw hv;go_enter Tryz.func173,Tryz.ntmps173;go_wp2_with fail;refine(Pj _ l _ H.out HW.out).mono ?_;rintro e w2 ⟨rfl,zT⟩;rw [HV.out];have zS:=Qq zT;clear zT;go_wp2_with fail;refine(Qdt true _ l _ (H.out.ext zS.out) sA qQ h0).mono ?_;rintro e w3 ⟨u,rfl,zF,out,hm,eE⟩;have zD:=Qq (zS.out.trans zF);have HM:=Qq (show Zv w.heap.size w3 u out from Kl hm zS.out.size);have HI:=Qq eE;clear zF hm eE;go_wp2_with fail
 go_ret2;exact⟨u,rfl,zD.out,out,HM.out,HI.out⟩
theorem Zs {w:World} {b:Nat} {a0 a1 a2:Value} {t:TypeId}(h:w.heap[b]?=some (.cells #[a0,a1,a2] t (0,0))):w.cell? ⟨b,0,none⟩=some a0/\w.cell? ⟨b,1,none⟩=some a1/\w.cell? ⟨b,2,none⟩=some a2/\b < w.heap.size :=
 ⟨by simp [World.cell?,h],by simp [World.cell?,h],by simp [World.cell?,h],Qn h⟩
theorem Ng(v:Value)(md:Md)(w:World)(h:Yz w v md)(zO:md.ok):
 Calls Tryz.prog 45 #[v] w fun e w'=>e=.returned (.int .i64 (Qa md))/\Qg w w':=by
 obtain⟨vv,vr,rfl,hv,hr⟩:=h;have HV:=Qq hv;have zC:=Qq zO;obtain⟨Av,cv,rfl,_⟩:=hv;obtain⟨Ar,cr,rfl,_,_,HR⟩:=Ut hr;obtain⟨n,hn⟩:∃n,n=md.n:=⟨_,rfl⟩;have HN:=Qq hn;rw [<-hn];clear hr zO hn;by_cases h1:n < 1
 ·have HE:=Qq (show Qa md=2 by unfold Qa;rw [<-HN.out,if_pos (.inl h1)]);go_enter Tryz.func45,Tryz.ntmps45;go_wp2_with fail;go_ret;exact⟨by rw [HE.out] <;> rfl,Qz.alloc _⟩
 by_cases uG:64 < n
 ·have HE:=Qq (show Qa md=2 by unfold Qa;rw [<-HN.out,if_pos (.inr uG)]);go_enter Tryz.func45,Tryz.ntmps45;go_wp2_with fail;go_ret;exact⟨by rw [HE.out] <;> rfl,Qz.alloc _⟩
 obtain⟨m,rfl⟩:=Int.eq_ofNat_of_zero_le (show 0<=n by omega);have MO:m<=64:=by omega
 have sW:=Qq (show Qa md=if 4 < md.rel.length\/8 < md.val.length then 8 else if md.rel.any (fun r=> !decide ((r.length:Int)=(m:Int)))then 3 else if Zf md.val m then 2 else if md.rel.any (fun r=>Zf r m)then 2 else 0 by unfold Qa;rw [<-HN.out,if_neg (by omega)];rfl);by_cases vA:4 < md.rel.length
 ·have HE:=Qq (show Qa md=8 by rw [sW.out,if_pos (.inl vA)]);have hi:(4:Int) < (md.rel.length:Int):=by omega
  go_enter Tryz.func45,Tryz.ntmps45;go_wp2_with fail;go_ret;exact⟨by rw [HE.out] <;> rfl,Qz.alloc _⟩
 have DJ:¬(4:Int) < (md.rel.length:Int):=by omega
 by_cases gF:8 < md.val.length
 ·have HE:=Qq (show Qa md=8 by rw [sW.out,if_pos (.inr gF)]);have hi:(8:Int) < (md.val.length:Int):=by omega
  go_enter Tryz.func45,Tryz.ntmps45;go_wp2_with fail;go_ret;exact⟨by rw [HE.out] <;> rfl,Qz.alloc _⟩
 have R2:¬(8:Int) < (md.val.length:Int):=by omega
 have pZ:=Qq (show Qa md=if md.rel.any (fun r=> !decide ((r.length:Int)=(m:Int)))then 3 else if Zf md.val m then 2 else if md.rel.any (fun r=>Zf r m)then 2 else 0 by rw [sW.out,if_neg (by omega)]);obtain⟨rl,wG⟩:∃l,l=md.rel:=⟨_,rfl⟩;have fA:=Qq (show ∀r∈rl,∀s∈r,Qp s by rw [wG];exact zC.out.rel);rw [<-wG]at pZ HR DJ vA⊢;clear sW wG;go_enter Tryz.func45,Tryz.ntmps45;go_upto_region 5 with(fail);obtain⟨W0,zB⟩:∃W,W=w.alloc (.cells #[.int .i64 (m:Int),.slice Av md.val.length cv,.slice Ar rl.length cr] 26):=⟨_,rfl⟩;have zL:=Qq (show Qg w W0 by rw [zB];exact Qz.alloc _);have HB:=Qq (show W0.heap[w.heap.size]?=some (.cells #[.int .i64 (m:Int),.slice Av md.val.length cv,.slice Ar rl.length cr] 26 (0,0)) by rw [zB];exact heap_alloc_new _ _)
 rw [<-zB];clear zB;obtain⟨b,hb⟩:∃b,b=w.heap.size:=⟨_,rfl⟩;rw [<-hb]at HB⊢;clear hb;go_wp2_with fail;go_loopw [3] (fun v wr=>∃k:Nat,v=.int .i64 (k:Int)/\k<=rl.length/\Hid (Qg W0 wr/\∀j,j < k->(!decide (((rl.getD j []).length:Int)=(m:Int)))=false)) (fun v _=>rl.length - (intOf v).toNat)
 case atStart=>exact⟨0,rfl,Nat.zero_le _,Qq ⟨Qz,fun j hj=>absurd hj (by omega)⟩⟩
 case round =>
  obtain⟨k,rfl,hk,zY⟩:=hrel;have HX:=Qq zY.out.1;have HJ:=Qq zY.out.2;obtain⟨e0,e1,e2,eb⟩:=Zs ((HX.out.block (Qn HB.out)).trans HB.out);clear zY;by_cases hlt2:k < rl.length
  ·have yT:(k:Int) < (rl.length:Int):=by omega
   obtain⟨ad,u,rfl,zV,hc,hu⟩:=HR.out k hlt2;obtain⟨Au,cu,rfl,_⟩:=hu;have a0:=(HX.out.cell (p:=ad.add k) (by rw [Qt];exact Qy zV zL.out.size)).trans ((zL.out.cell (p:=ad.add k) (Qj zV)).trans hc);have al:(ad.add k).block < wr.heap.size:=by rw [Qt];exact Qy zV (zL.out.trans HX.out).size
   have zE:=Qq (show(!decide (((rl.getD k []).length:Int)=(m:Int)))=false->∀j,j < k+1->(!decide (((rl.getD j []).length:Int)=(m:Int)))=false from fun h=>Do (P:=fun j=>(!decide (((rl.getD j []).length:Int)=(m:Int)))=false) HJ.out h);have tH:=Qq (show(!decide (((rl.getD k []).length:Int)=(m:Int)))=true->Qa md=3 from fun h=>by rw [pZ.out,if_pos (Qvx hlt2 h)]);obtain⟨q,hq⟩:∃q,q=(rl.getD k []).length:=⟨_,rfl⟩;rw [<-hq]at a0 zE tH;clear hc hq;go_upto_region 8 with(fail);by_cases hd:q=m
   ·subst hd;have lY:((q:Int) !=(q:Int))=false:=by simp
    have HP:=Qq (zE.out (by simp));refine wp_region_held_drew (S:=fun w'=>w'.cell? (⟨b,0,none⟩)=some (.int .i64 (q:Int))/\w'.cell? (⟨b,2,none⟩)=some (.slice (some ad) rl.length cr)/\w'.cell? (ad.add k)=some (.slice Au q cu)) (by kernel_rfl) ⟨xc eb e0,xc eb e2,xc al a0⟩ (fun zZ=> ?_);refine tk 0 zZ ?_;refine tk 1 zZ ?_;refine tk 2 zZ ?_;refine tk 3 zZ ?_;refine tk 4 zZ ?_;refine tk 5 zZ ?_;refine tk 6 zZ ?_;refine tk 7 zZ ?_;refine tk 8 zZ ?_;refine wpAnyH_done (by kernel_rfl) ?_ _;go_wp2_with fail;go_roundw
    case rel=>exact⟨k+1,by go_num,by omega,Qq ⟨HX.out.trans Qz.drew,HP.out⟩⟩
    case measure=>simp [intOf];omega
   have lY:((q:Int) !=(m:Int))=true:=by simp;omega
   have HE:=Qq (tH.out (by simp;omega));refine wp_region_held_drew (S:=fun w'=>w'.cell? (⟨b,0,none⟩)=some (.int .i64 (m:Int))/\w'.cell? (⟨b,2,none⟩)=some (.slice (some ad) rl.length cr)/\w'.cell? (ad.add k)=some (.slice Au q cu)) (by kernel_rfl) ⟨xc eb e0,xc eb e2,xc al a0⟩ (fun zZ=> ?_);refine tk 0 zZ ?_;refine tk 1 zZ ?_;refine tk 2 zZ ?_;refine tk 3 zZ ?_;refine tk 4 zZ ?_;refine tk 5 zZ ?_;refine tk 6 zZ ?_;refine tk 7 zZ ?_;refine tk 8 zZ ?_;refine wpAnyH_done (by kernel_rfl) ?_ _;go_wp2_with fail;go_ret;exact⟨by rw [HE.out] <;> rfl,zL.out.trans (HX.out.trans Qz.drew)⟩
  obtain rfl:rl.length=k:=by omega
  have AF:=Qq (show Qa md=if Zf md.val m then 2 else if rl.any (fun r=>Zf r m)then 2 else 0 by rw [pZ.out,Qzr HJ.out];rfl);have yZ:=Qq (zL.out.trans HX.out);go_wp2_with fail;refine(Qko _ md.val m _ (HV.out.ext yZ.out) zC.out.val MO).mono ?_;rintro e w2 ⟨rfl,zT⟩;have zS:=Qq zT;clear zT e0 e1 e2 eb;cases VA:Zf md.val m
  case true =>
   have HE:=Qq (show Qa md=2 by rw [AF.out,VA];rfl);clear VA;go_wp2_with fail;go_ret;exact⟨by rw [HE.out] <;> rfl,yZ.out.trans zS.out⟩
  have kD:=Qq (show Qa md=if rl.any (fun r=>Zf r m)then 2 else 0 by rw [AF.out,VA];rfl);clear VA;have rY:=Qq ((zS.out.block (Qn ((HX.out.block (Qn HB.out)).trans HB.out))).trans ((HX.out.block (Qn HB.out)).trans HB.out));have uU:=Qq (yZ.out.trans zS.out);go_wp2_with fail;go_loopw [4] (fun v wr=>∃k:Nat,v=.int .i64 (k:Int)/\k<=rl.length/\Hid (Qg w2 wr/\∀j,j < k->Zf (rl.getD j []) m=false)) (fun v _=>rl.length - (intOf v).toNat)
  case atStart=>exact⟨0,rfl,Nat.zero_le _,Qq ⟨Qz,fun j hj=>absurd hj (by omega)⟩⟩
  case round =>
   clear HX HJ;obtain⟨k,rfl,hk,zY⟩:=hrel;have HX:=Qq zY.out.1;have HJ:=Qq zY.out.2;obtain⟨e0,e1,e2,eb⟩:=Zs ((HX.out.block (Qn rY.out)).trans rY.out);clear zY;by_cases hlt2:k < rl.length
   ·have yT:(k:Int) < (rl.length:Int):=by omega
    obtain⟨ad,u,rfl,zV,hc,hu⟩:=HR.out k hlt2;have KN:=Qq (uU.out.trans HX.out);have HU:=Qq (hu.ext KN.out);have SH:=Qq (Sm fA.out k);obtain⟨Au,cu,rfl,_⟩:=hu;have a0:=(KN.out.cell (p:=ad.add k) (Qj zV)).trans hc;have al:(ad.add k).block < wr.heap.size:=by rw [Qt];exact Qy zV KN.out.size
    have zE:=Qq (show Zf (rl.getD k []) m=false->∀j,j < k+1->Zf (rl.getD j []) m=false from fun h=>Do (P:=fun j=>Zf (rl.getD j []) m=false) HJ.out h);have tH:=Qq (show Zf (rl.getD k []) m=true->Qa md=2 from fun h=>by rw [kD.out,if_pos (Qvx (P:=fun r=>Zf r m) hlt2 h)]);obtain⟨q,hq⟩:∃q,q=rl.getD k []:=⟨_,rfl⟩;rw [<-hq]at a0 zE tH HU SH;clear hc hq;go_upto_region 15 with(fail);obtain⟨wq,vE⟩:∃v,v=wr:=⟨_,rfl⟩;subst vE;refine wp_region_held_drew (S:=fun w'=>w'.cell? (⟨b,0,none⟩)=some (.int .i64 (m:Int))/\w'.cell? (⟨b,2,none⟩)=some (.slice (some ad) rl.length cr)/\w'.cell? (ad.add k)=some (.slice Au q.length cu)) (by kernel_rfl) ⟨xc eb e0,xc eb e2,xc al a0⟩ (fun zZ=> ?_)
    refine tk 0 zZ ?_;refine tk 1 zZ ?_;refine tk 2 zZ ?_;refine tk 3 zZ ?_;refine tk 4 zZ ?_;refine tk 5 zZ ?_;refine tk 6 zZ ?_;refine wpAnyH_ready (rs:= [7]) (by kernel_rfl) (by simp) ?_;refine AllReadyH.cons rfl (fun K hK=> ?_) AllReadyH.nil;go_simp;refine(Qko _ q m _ (HU.out.ext (by repeat(first|exact Qz|assumption|apply Qg.alloc|apply Qg.drew|apply Qg.setCell))) SH.out MO).mono ?_;rintro e w3 ⟨rfl,yK⟩;have zF:Qg wq w3:=Qg.trans (by repeat(first|exact Qz|assumption|apply Qg.alloc|apply Qg.drew|apply Qg.setCell)) yK;have zD:=Qq zF;clear yK;go_wp2_with fail
    refine hK.out _ _ ⟨xc eb e0,xc eb e2,xc al a0⟩ (fun zZ=> ?_);clear hK K;refine Qd ?_;refine wpAnyH_done (by kernel_rfl) ?_ _;cases hd:Zf q m
    ·have HP:=Qq (zE.out hd);clear hd;go_wp2_with fail;go_roundw
     case rel=>exact⟨k+1,by go_num,by omega,Qq ⟨HX.out.trans zD.out,HP.out⟩⟩
     case measure=>simp [intOf];omega
    have HE:=Qq (tH.out hd);clear hd;go_wp2_with fail;go_ret;exact⟨by rw [HE.out] <;> rfl,KN.out.trans zD.out⟩
   obtain rfl:rl.length=k:=by omega
   have HE:=Qq (show Qa md=0 by rw [kD.out,Qzr (P:=fun r=>Zf r m) HJ.out];rfl);go_wp2_with fail;go_ret;exact⟨by rw [HE.out] <;> rfl,uU.out.trans HX.out⟩
end Go.Proofs.YtkmclcmnoicagaaGreatDoor
