/- The reference's checker says what the program's says (plain). -/
import Derived.Test.YtkmclcmnoicagaaGreatDoorK34
import Derived.Test.YtkmclcmnoicagaaGreatDoorK09
namespace Go.Proofs.YtkmclcmnoicagaaGreatDoor
set_option maxRecDepth 100000
set_option maxHeartbeats 128000000
theorem Qbr {md:Md} {f:List Nd} :Zi md (Qg f)=0↔Zi md f=0:=by
 constructor
 ·intro h;obtain⟨h1,_,h3,h4⟩:=Vr h;have hc:=Qj6 h;have h2:=Ud hc;have aO:Js (Jm f) 15=true:=by unfold Jm at h3⊢;rw [h2]at h3;exact h3
  have VH:Yc f md.rel.length md.val.length=true:=by
   unfold Yc at h4⊢;rw [h2,Xi hc]at h4;rw [hc];exact h4
  unfold Zi;rw [if_neg (by rw [h1];simp),if_neg (by rw [hc];simp),if_neg (by rw [aO];simp),if_neg (by rw [VH];simp)]
 intro h;obtain⟨h1,hc,h3,h4⟩:=Vr h;have h2:=Ud hc;have wN:=Xi hc;have aO:Js (Jm (Qg f)) 15=true:=by unfold Jm at h3⊢;rw [h2];exact h3
 have VH:Yc (Qg f) md.rel.length md.val.length=true:=by
  unfold Yc at h4⊢;rw [h2,wN];rw [hc]at h4;exact h4
 unfold Zi;rw [if_neg (by rw [h1];simp),if_neg (by rw [wN];simp),if_neg (by rw [aO];simp),if_neg (by rw [VH];simp)]
theorem Qqo(md:Md)(f:List Nd):Rc md f=Zi md f:=by
 unfold Rc
 split
 ·rename_i h;exact(Qbr.1 h).symm
 rfl
theorem Qe0 {md:Md} {c:List Nd}(zT:Zq md=0)(hc:check c=0)(hf:∀k:Nat,k < c.length->Pf md c (k:Int)=true):∀k,k < c.length->IsW md (Co md c (Kd md c k) k) (tr c k):=by
 intro k
 induction k using Nat.strongRecOn with
 |_ k ih =>
  intro hk;obtain⟨n,hn⟩:∃n,c[k]?=some n:=⟨_,Qv hk⟩;obtain⟨hx,hy⟩:=Ym hc k n hn;unfold Co;rw [if_pos (hf k hk),Cq hn,Xk (Ym hc) hn];refine Qgm zT (Qkr hc hn (hf k hk) (Zn zT).2.2.1) (fun h=> ?_) (fun h=> ?_)
  ·have:=hx h;rw [if_pos h,It md c k _ (by omega)];exact ih _ (by omega) (by omega)
  have:=hy h;rw [if_pos h,It md c k _ (by omega)];exact ih _ (by omega) (by omega)
theorem Qgn {md:Md} {f:List Nd}(h0:Zi md f=0):Bn md f=Nv md f:=by
 have h:=Qbr.2 h0;obtain⟨zT,wN,hs,hf⟩:=Vr h;have hc:check f=0:=Qj6 h;have hp:=(Jf hc).2.2.1;have h2:=Ud hc;have h1:IsW md (Bn md f) (Qe f):=by
  unfold Bn;rw [if_pos h,It md _ _ _ (by omega),<-Ki hc];exact Qe0 zT wN (fun k hk=>Qy0 wN h2 hs hf hk) _ (by omega)
 have h3:Bn md f < 2^md.n.toNat:=by
  unfold Bn;rw [if_pos h];exact Sb (Qg6 zT _ _) (Nat.two_pow_pos _) _
 have h4:=He h0;have h5:=Qqi zT f;refine Nat.eq_of_testBit_eq fun i=> ?_
 by_cases hi:i < md.n.toNat
 ·rw [Bool.eq_iff_iff];exact(h1 ⟨i,hi⟩).trans (h4 ⟨i,hi⟩).symm
 have tF:2^md.n.toNat<=2^i:=Nat.pow_le_pow_right (by decide) (by omega);rw [Nat.testBit_lt_two_pow (Qy h3 tF),Nat.testBit_lt_two_pow (Qy h5 tF)]
theorem Qxb {lg:Int} {f:List Nd} {md:Md} {wd:Int} {b:Bool}(hb:b=true↔Fd md lg):cmN lg f md wd =
 if lg < 0\/6 < lg then 1 else if Rc md f≠0 then Rc md f else if wd < 0\/md.n<=wd then 2 else if b=false then 12 else if(Bn md f).testBit wd.toNat=true then 0 else 11:=by
 have e:inG md lg=b:=by rw [Bool.eq_iff_iff,Wk];exact hb.symm
 unfold cmN;rw [e,Qqo];by_cases h:Zi md f=0
 ·rw [Qgn h]
 rw [if_pos h,if_pos h]
open Go.RowKit
theorem Qpp(lg:Int)(w:World):Calls Tryz.prog 77 #[.int .i64 lg] w fun e w'=>e=.returned (.int .i64 (if 0<=lg/\lg<=6 then 0 else 1))/\w=w':=by
 obtain⟨lo,vK⟩:∃z:Int,z=if 0<=lg/\lg<=6 then 0 else 1:=⟨_,rfl⟩
 have xT:=Qq vK;rw [<-vK];clear vK;by_cases h0:lg < 0
 ·have HD:=Qq (show lo=1 by rw [xT.out,if_neg (by omega)]);go_enter Tryz.func77,Tryz.ntmps77;go_wp2_with fail;go_ret;exact⟨by rw [HD.out] <;> rfl,rfl⟩
 by_cases h6:6 < lg
 ·have HD:=Qq (show lo=1 by rw [xT.out,if_neg (by omega)]);go_enter Tryz.func77,Tryz.ntmps77;go_wp2_with fail;go_ret;exact⟨by rw [HD.out] <;> rfl,rfl⟩
 have HD:=Qq (show lo=0 by rw [xT.out,if_pos (by omega)]);go_enter Tryz.func77,Tryz.ntmps77;go_wp2_with fail;go_ret;exact⟨by rw [HD.out] <;> rfl,rfl⟩
theorem Qnd {s i:Nat}(hs:Qp s)(hi:i < 64):(bits .and .u64 (s:Int) ((2^i:Nat):Int) !=0)=s.testBit i:=by
 rw [Xz hs (Ip hi)];have hb:∀j,(s&&&2^i).testBit j=(s.testBit j&&decide (i=j)):=fun j=>by rw [Nat.testBit_and,Nat.testBit_two_pow]
 cases h:s.testBit i
 ·have:s&&&2^i=0:=Nat.eq_of_testBit_eq fun j=>by
   rw [hb,Nat.zero_testBit];by_cases e:i=j
   ·rw [<-e,h];rfl
   rw [decide_eq_false e,Bool.and_false]
  rw [this];rfl
 have zQ:s&&&2^i≠0:=fun e=>by
  have:=hb i;rw [e,Nat.zero_testBit,h]at this;simp at this
 rw [bne_iff_ne];omega
theorem Qmk(i:Nat)(w:World)(hi:i < 64):Calls Tryz.prog 150 #[.int .i64 (i:Int)] w fun e w'=>e=.returned (.int .u64 ((2^i:Nat):Int))/\w=w':=by
 have hm:min i 64=i:=by omega
 have hwi:IntKind.u64.wrap (i:Int)=(i:Int):=by rw [IntKind.wrap_u64];omega
 have HB:=Qq (Lh hi);go_enter Tryz.func150,Tryz.ntmps150;go_wp2_with fail;go_ret;exact⟨by rw [<-HB.out] <;> rfl,rfl⟩
theorem Qpk(s i:Nat)(w:World)(hs:Qp s)(hi:i < 64):Calls Tryz.prog 79 #[.int .u64 (s:Int),.int .i64 (i:Int)] w fun e w'=>e=.returned (.bool (s.testBit i))/\w=w':=by
 have iJ:(i:Int) < 64:=by omega
 have jI:(0:Int)<=(i:Int):=by omega
 have HB:=Qq (Qnd hs hi);obtain⟨p,hp⟩:∃p,p=2^i:=⟨_,rfl⟩;have AP:=Qq (Qmk i · hi);rw [<-hp]at HB AP;clear hp hs;go_enter Tryz.func79,Tryz.ntmps79;go_wp2_with fail;refine(AP.out _).mono ?_;rintro e w1 ⟨rfl,rfl⟩;go_wp2_with fail;go_ret;exact⟨by rw [<-HB.out] <;> rfl,rfl⟩
def Zvi(s k:Nat):List Nat:=(List.range k).filter fun i=>s.testBit i
theorem Qrj(lg:Int)(v vm:Value)(f:List Nd)(md:Md)(wd:Int)(w:World)(h:Fml w v f)(hm:MdV w vm md)(zO:md.ok):
 Calls Tryz.prog 28 #[.int .i64 lg,v,vm,.int .i64 wd] w fun e w'=>e=.returned (.int .i64 (cmN lg f md wd))/\Ext w w':=by
 have HM:=Qq hm;have HF:=Qq h;have zD:=Qq zO;obtain⟨vv,vr,rfl,⟨Av,cv,rfl,_⟩,⟨Ar,cr,rfl,_⟩⟩:=hm;obtain⟨n,hn⟩:∃n,n=md.n:=⟨_,rfl⟩;have HN:=Qq hn;rw [<-hn]at HM⊢;obtain⟨r,hr⟩:∃r,r=cmN lg f md wd:=⟨_,rfl⟩;have HR:=Qq hr;rw [<-hr];obtain⟨er,vG⟩:∃z,z=Rc md f:=⟨_,rfl⟩;have wU:=Qq vG;obtain⟨hs,S9⟩:∃z,z=Bn md f:=⟨_,rfl⟩;have IL:=Qq S9;have M3:=Qq (Qne · · md f · · zO ·);obtain⟨W0,zE⟩:∃W,W=w.alloc (.cells #[.int .i64 n,.slice Av md.val.length cv,.slice Ar md.rel.length cr] 26):=⟨_,rfl⟩;have X0:=Qq (show Ext w W0 by rw [zE];exact Qz.alloc _);have B0:=Qq (show W0.heap[w.heap.size]?=some (.cells #[.int .i64 n,.slice Av md.val.length cv,.slice Ar md.rel.length cr] 26 (0,0)) by rw [zE];exact heap_alloc_new _ _)
 obtain⟨b,hb⟩:∃b,b=w.heap.size:=⟨_,rfl⟩;rw [<-hb]at B0;clear h zO hn hr vG S9;obtain⟨lo,vK⟩:∃z:Int,z=if 0<=lg/\lg<=6 then 0 else 1:=⟨_,rfl⟩
 have xT:=Qq vK;obtain⟨e0,e1,e2,el⟩:=Zt B0.out;go_enter Tryz.func28,Tryz.ntmps28;go_upto_region 1 with(fail);rw [<-zE,<-hb];clear zE hb;go_wp2_with fail;refine(Qpp lg _).mono ?_;rintro e w1 ⟨rfl,rfl⟩;rw [<-vK];clear vK;by_cases XZ:0<=lg/\lg<=6
 case neg =>
  obtain rfl:lo=1:=by rw [xT.out,if_neg XZ]
  have HZ:=Qq (show r=1 by
   rw [HR.out];unfold cmN;rw [if_pos (by omega)])
  clear XZ;go_wp2_with fail;go_ret;exact⟨by rw [HZ.out] <;> rfl,X0.out⟩
 obtain rfl:lo=0:=by rw [xT.out,if_pos XZ]
 have oO:=Qq XZ;clear XZ xT;go_wp2_with fail;refine(M3.out _ _ _ (HM.out.ext X0.out) (HF.out.ext X0.out)).mono ?_;rintro e w2 ⟨rfl,hx⟩;rw [<-wU.out,<-IL.out];have X2:=Qq (X0.out.trans hx);have B2:=Qq ((hx.block (Qf B0.out)).trans B0.out);clear hx e0 e1 e2 el;obtain⟨e0,e1,e2,el⟩:=Zt B2.out;by_cases hz:er=0
 case neg =>
  have HZ:=Qq (show r=er by rw [HR.out,Qxb (b:=inG md lg) Wk,<-wU.out];have:=oO.out;rw [if_neg (by omega),if_pos hz]);have zQ:(er !=0)=true:=by simpa using hz
  clear hz;go_wp2_with fail;go_ret;exact⟨by rw [HZ.out] <;> rfl,X2.out⟩
 subst hz;by_cases hw:wd < 0\/n<=wd
 ·have HZ:=Qq (show r=2 by
   rw [HR.out,Qxb (b:=inG md lg) Wk,<-wU.out,<-HN.out];have:=oO.out;rw [if_neg (by omega),if_neg (by simp),if_pos hw])
  by_cases ZQ:wd < 0
  ·clear hw;go_wp2_with fail;go_ret;exact⟨by rw [HZ.out] <;> rfl,X2.out⟩
  have tT:n<=wd:=hw.resolve_left ZQ;clear hw;go_wp2_with fail;go_ret;exact⟨by rw [HZ.out] <;> rfl,X2.out⟩
 have ZQ:¬wd < 0:=fun h=>hw (.inl h)
 have tT:¬n<=wd:=fun h=>hw (.inr h)
 have sM:=Qq hw;clear hw;have zT:=(Vr (show Zi md f=0 by rw [<-Qqo,<-wU.out])).1;have KQ:=Qq (show Qp hs by
  rw [IL.out,Qgn (by rw [<-Qqo,<-wU.out])];exact Qy (Qqi zT f) (Ng (by have:=(Zn zT).2.1;omega)))
 have yN:n<=64:=by rw [HN.out];exact(Zn zT).2.1
 obtain⟨k,rfl⟩:=Int.eq_ofNat_of_zero_le (show 0<=wd by omega);have vF:k < 64:=by omega
 clear zT;go_wp2_with fail;refine(Qao _ md lg _ (HM.out.ext X2.out) zD.out).mono ?_;rintro e w3 ⟨ib,rfl,hx,S1⟩;have M0:=Qq S1.out;have X3:=Qq (X2.out.trans hx);clear hx S1 e0 e1 e2 el;have sV:=Qq (show r=if ib=false then 12 else if hs.testBit k=true then 0 else 11 by
  rw [HR.out,Qxb M0.out,<-wU.out,<-HN.out,<-IL.out];have:=oO.out;rw [if_neg (by omega),if_neg (by simp),if_neg sM.out,Int.toNat_natCast])
 cases ib
 ·have HZ:=Qq (show r=12 by rw [sV.out,if_pos rfl]);go_wp2_with fail;go_ret;exact⟨by rw [HZ.out] <;> rfl,X3.out⟩
 obtain⟨tb,yB⟩:∃z,z=hs.testBit k:=⟨_,rfl⟩;have cX:=Qq yB;clear yB;go_wp2_with fail;refine(Qpk hs k _ KQ.out vF).mono ?_;rintro e w4 ⟨rfl,rfl⟩;rw [<-cX.out];cases tb
 ·have HZ:=Qq (show r=11 by rw [sV.out,if_neg (by simp),if_neg (by rw [<-cX.out];simp)]);go_wp2_with fail;go_ret;exact⟨by rw [HZ.out] <;> rfl,X3.out⟩
 have HZ:=Qq (show r=0 by rw [sV.out,if_neg (by simp),if_pos cX.out.symm]);go_wp2_with fail;go_ret;exact⟨by rw [HZ.out] <;> rfl,X3.out⟩
theorem Qbn {w:World} {lg:Int} {vf n0 n1 n2:Value} {f:List Nd} {md:Md} {wd:Int}(hf:Fml w vf f)(hm:MdV w (.agg #[n0,n1,n2]) md)(zO:md.ok)(hT:Ky w):
 Calls Tryz.prog 4 #[.int .i64 lg,.agg #[vf,n0,n1,n2,.int .i64 wd]] w fun e w'=>e=.returned (.bool true)/\Ext w w':=by
 have HF:=Qq hf;have zD:=Qq zO;have HT:=Qq hT;obtain⟨Af,cf,rfl,_⟩:=Qh hf;obtain⟨Av,lv,cv,Ar,lr,cr,rfl,rfl,rfl⟩:=Qp2 hm;obtain⟨n,hn⟩:∃z,z=md.n:=⟨_,rfl⟩;have HN:=Qq hn;rw [<-hn]at hm⊢;have HM:=Qq hm;obtain⟨W0,zE⟩:∃z,z=w.alloc (.cells #[.slice Af f.length cf,.int .i64 n,.slice Av lv cv,.slice Ar lr cr,.int .i64 wd] 50):=⟨_,rfl⟩;obtain⟨b,hb⟩:∃z,z=w.heap.size:=⟨_,rfl⟩;have X0:=Qq (show Ext w W0 by rw [zE];exact Qz.alloc _);have B0:=Qq (show W0.heap[b]?=some (.cells #[.slice Af f.length cf,.int .i64 n,.slice Av lv cv,.slice Ar lr cr,.int .i64 wd] 50 (0,0)) by rw [zE,hb];exact heap_alloc_new _ _)
 clear hf hm zO hT hn;obtain⟨e0,e1,e2,e3,e4,el⟩:=Qxg B0.out;obtain⟨er,vG⟩:∃z,z=cmN lg f md wd:=⟨_,rfl⟩;have wU:=Qq vG;clear vG;go_enter Tryz.func4,Tryz.ntmps4;go_upto_region 1 with(fail);rw [<-zE,<-hb];clear zE hb;go_wp2_with fail;refine(Qrv (HM.out.ext X0.out)).mono ?_;rintro e w1 ⟨fb,rfl,hx⟩;have X1:=Qq (X0.out.trans hx);have B1:=Qq ((hx.block (Qf B0.out)).trans B0.out);clear hx e0 e1 e2 e3 e4 el;cases fb
 ·skip
  go_wp2_with fail;refine(Qj5 _ (HT.out.ext X1.out)).mono ?_;rintro e wt ⟨rfl,P3⟩;have YT:=Qq (X1.out.trans P3);clear P3;go_wp2_with fail;go_ret;exact⟨rfl,YT.out⟩
 obtain⟨e0,e1,e2,e3,e4,el⟩:=Qxg B1.out;have sU:(er==er)=true:=by simp
 go_upto_region 3 with(fail);refine Yd 20 (fun w'=>w'.cell? (⟨b,0,none⟩)=some (.slice Af f.length cf)/\w'.cell? (⟨b,1,none⟩)=some (.int .i64 n)/\w'.cell? (⟨b,2,none⟩)=some (.slice Av lv cv)/\w'.cell? (⟨b,3,none⟩)=some (.slice Ar lr cr)/\w'.cell? (⟨b,4,none⟩)=some (.int .i64 wd)) (by kernel_rfl) ⟨xd el e0,xd el e1,xd el e2,xd el e3,xd el e4⟩ (fun zZ=> ?_);refine utk 0 zZ ?_;refine utk 1 zZ ?_;refine utk 2 zZ ?_;refine utk 3 zZ ?_;refine utk 4 zZ ?_;refine utk 5 zZ ?_;refine utk 6 zZ ?_;refine utk 8 zZ ?_;refine utk 9 zZ ?_;refine utk 10 zZ ?_;refine utk 11 zZ ?_
 refine utk 12 zZ ?_;refine utk 13 zZ ?_;refine utk 14 zZ ?_;refine Qa (rs:= [7]) (by kernel_rfl) (by simp) ?_;refine Zj.cons rfl (fun K hK=> ?_) Zj.nil;go_simp;refine(Ro lg _ _ f md wd _ (HT.out.ext (X1.out.trans xv)) (HF.out.ext (X1.out.trans xv)) (HM.out.ext (X1.out.trans xv)) zD.out).mono ?_;rintro e w2 ⟨rfl,hh⟩;rw [<-wU.out];have zS:Ext w1 w2:=Ext.trans xv hh;clear hh;go_wp2_with fail;refine hK.out _ _ ⟨xd el e0,xd el e1,xd el e2,xd el e3,xd el e4⟩ (fun zZ=> ?_);clear hK K;refine Qb ?_;refine Qa (rs:= [15]) (by kernel_rfl) (by simp) ?_;refine Zj.cons rfl (fun K hK=> ?_) Zj.nil
 go_simp;refine(Qrj lg _ _ f md wd _ (HF.out.ext (X1.out.trans zS)) (HM.out.ext (X1.out.trans zS)) zD.out).mono ?_;rintro e w3 ⟨rfl,hh⟩;rw [<-wU.out];have zI:Ext w1 w3:=zS.trans hh;clear hh;go_wp2_with fail;refine hK.out _ _ ⟨xd el e0,xd el e1,xd el e2,xd el e3,xd el e4⟩ (fun zZ=> ?_);clear hK K;refine Qb ?_;refine utk 16 zZ ?_;refine utk 17 zZ ?_;refine Qa (rs:= [18]) (by kernel_rfl) (by simp) ?_;refine Zj.cons rfl (fun K hK=> ?_) Zj.nil;go_simp;refine(Qj5 _ (HT.out.ext (X1.out.trans zI))).mono ?_;rintro e w4 ⟨rfl,hh⟩;have yD:Ext w1 w4:=zI.trans hh;clear hh
 go_wp2_with fail;refine hK.out _ _ ⟨xd el e0,xd el e1,xd el e2,xd el e3,xd el e4⟩ (fun zZ=> ?_);clear hK K;refine Qb ?_;refine utk 19 zZ ?_;refine Yt (by kernel_rfl) rfl (fun K hK=> ?_);go_simp;refine hK.out _ _ ?_;clear hK K;refine Qb ?_;refine Ys (by kernel_rfl) ?_ _;go_wp2_with fail;go_ret;exact⟨rfl,X1.out.trans yD⟩
open Go.ChangeShapes Go.WideShapes Go.ChangeAt Go.Joins
theorem Qa3:laidOutB Tryz.prog=true:=by kernel_rfl
theorem own:ownKnob Tryz.prog.godebug=none:=by kernel_rfl
theorem Qh6(os:Os)(args:Array Value):laidMetH Tryz.prog [("math/bits.deBruijn64tab",Rows.laid_math_bits_deBruijn64tab)] ((World.doorLaid Tryz.prog 600 os).forCall (fun _ _=>0) ⟨#[],args,[]⟩).memory:=by
 rw [Go.MakeChecks.laidMetH_plain _ _ _ rfl];exact laidMet_of_run' 8 (by kernel_rfl) (by kernel_rfl)
theorem Px(os:Os)(started:os.Started)(H:Type)(enc:TypeId×Value->H):
 ReturnsInHanded {} Tryz.checked os 4 .any (fun w args=>(Rows.countermodelChecksSpec.pre enc Tryz.prog Tryz.f4 [] false w args/\laidMetH Tryz.prog [("math/bits.deBruijn64tab",Rows.laid_math_bits_deBruijn64tab)] w)/\sizedMet enc Tryz.prog Tryz.f4 (OpenSpec.ofChange Rows.countermodelChecksSpec) false w args)
  (Rows.countermodelChecksSpec.post enc Tryz.prog Tryz.f4 false true false false):=by
 refine returnsInHanded_of_change_and (C:=Tryz.checked) (X:=fun w _=>laidMetH Tryz.prog [("math/bits.deBruijn64tab",Rows.laid_math_bits_deBruijn64tab)] w) (fun _ _ _ hh h=>h.of_heap hh) own started (by kernel_rfl) Tryz.func4
  (ChangeSpec.witness_shaped (enc:=enc) (C:=Tryz.checked) (os:=os) (X:=fun w _=>laidMetH Tryz.prog [("math/bits.deBruijn64tab",Rows.laid_math_bits_deBruijn64tab)] w) false (World.doorLaid Tryz.prog 600 os) #[.int .i64 0,.agg #[.slice none 0 0,.int .i64 0,.slice none 0 0,.slice none 0 0,.int .i64 0]] 8 rfl (World.shaped_of_RefB (by kernel_rfl) (by kernel_rfl)) (by kernel_rfl) (by kernel_rfl) (by kernel_rfl) (Qh6 os _)) ?_
 intro W base args ds gs before XI hW _ _ hL _;have rW:∀(j:Nat) t v,Tryz.f4.params[j]?=some t->args[j]?=some v->Value.okWide Tryz.prog W .any base t v:=XI;have EV:=Qnz hL;have fC:=hW;obtain⟨p,q,Y2,hV,rfl,wY,gO⟩:=hW;have hA:DataW.TrodAll enc Tryz.prog W 0 (fun _=>true) true Tryz.f4.params.toList args.toList ds p:=Y2;rw [Tryz.params4]at hA rW;obtain⟨v0,vs0,d0,ds0,p0,q0,eW,rfl,rfl,h0,r0⟩:=trodAll_cons hA;obtain⟨v1,vs1,d1,ds1,p1,q1,rfl,rfl,rfl,h1,r1⟩:=trodAll_cons r0;obtain⟨rfl,rfl,rfl⟩:=trodAll_nil r1;obtain rfl:args=#[v0,v1]:=by cases args;simp_all
 obtain⟨rfl,rfl⟩:=trodVars_none hV;obtain⟨z0,rfl,rfl,rfl,wz0⟩:=open_int Tryz.underlying3 (rW 0 3 v0 rfl rfl) h0;obtain⟨u1,f1,n1a,n1b,n1c,md1,wd1,rfl,nJ,uY,mo1,wo1⟩:=Qnt (rW 1 50 v1 rfl rfl) h1;simp only [List.append_nil]at fC;clear Y2 XI;refine(Qbn (lg:=z0) nJ uY mo1 EV).mono ?_;rintro e W' ⟨rfl,hx⟩;have zG:∀x∈p1,x.block < W.heap.size:=fun x LI=>fC.lt x LI
 refine⟨_,rfl,Qfa (pa:=p1) (pv:= []) fC (fun _ _ _=>trodAll_mk1 (shut_bool Tryz.underlying4 _)) (fun sp LQ=> ?_) (fun _ _=>rfl) (by simp) hx (ok_one (by kernel_rfl) rfl (okWide_bool_mk Tryz.underlying4 _))⟩;have ht:=(trodAll_cons_mk (shut_int Tryz.underlying3 wz0) (trodAll_cons_mk (WideElems.Trod_stays Qa3 (by kernel_rfl) (of_decide_eq_true (by kernel_rfl)) h1 (fun x LI=>hx.same (zG x LI)) (fun x LI=>LQ x LI)) trodAll_mk0));simp only [List.append_nil,List.nil_append]at ht;exact ht
theorem Hf:Rows.CountermodelChecksSaid :=
 OpenClaim.holds_of_wide 4 Tryz.f4 rfl rfl rfl rfl rfl rfl rfl ⟨rfl,rfl,rfl,rfl,rfl⟩ rfl rfl rfl rfl rfl (by kernel_rfl) Tryz.func4 (by kernel_rfl)
  (of_decide_eq_true (by kernel_rfl)) (by unfold Func.isWrapper;first|(rw [if_pos (by decide+kernel)];kernel_rfl)|(rw [if_neg (by decide+kernel)];exact⟨rfl,rfl⟩))
  (fun os started H enc _=>Px os started H enc)
theorem Cd(f:FuncId)(fn:Func)(hf:Tryz.pinned.checked.prog.funcNamed "witting/wittinglaw48.CountermodelChecks" =some f)(DU:Tryz.pinned.checked.prog.funcs[f]?=some fn):
 false=Tryz.pinned.checked.prog.looks []/\∀(j:Nat) t,fn.params[j]?=some t->Tryz.pinned.checked.prog.wantsStandIn t=false:=by
 obtain rfl:f=4:=Option.some.inj ((show Tryz.prog.funcNamed "witting/wittinglaw48.CountermodelChecks" =some 4 by kernel_rfl).symm.trans hf)|>.symm;obtain rfl:fn=Tryz.f4:=(Option.some.inj (Tryz.func4.symm.trans DU)).symm;refine⟨by kernel_rfl,fun j t ht=> ?_⟩;rw [Tryz.params4]at ht;have hm:t∈ #[(3:TypeId),(50:TypeId)]:=Array.mem_of_getElem? ht;simp only [List.mem_toArray,List.mem_cons,List.not_mem_nil,or_false]at hm;rcases hm with rfl|rfl
 ·exact(show Tryz.prog.wantsStandIn 3=false by kernel_rfl)
 exact(show Tryz.prog.wantsStandIn 50=false by kernel_rfl)
theorem countermodelChecks_card:Rows.CountermodelChecksCardSaid :=
 Claim7.holds_tied_plain_at .later [] _ _ _ _ Hf (fun _ h=>by cases h) (by kernel_rfl) (fun _ h=>by cases h) countermodelChecks_row_tie rfl ⟨rfl,rfl⟩ (by kernel_rfl) rfl Cd (by kernel_rfl)
end Go.Proofs.YtkmclcmnoicagaaGreatDoor
