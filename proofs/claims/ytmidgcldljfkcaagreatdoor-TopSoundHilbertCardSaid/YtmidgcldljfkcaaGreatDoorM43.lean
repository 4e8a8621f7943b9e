/- The program's relations of a group. -/
import Derived.Test.YtmidgcldljfkcaaGreatDoorM01
import Derived.Test.YtmidgcldljfkcaaGreatDoorM33
import Derived.Test.YtmidgcldljfkcaaGreatDoorM13
import Derived.Test.YtmidgcldljfkcaaGreatDoorM03
namespace Go.Proofs.YtmidgcldljfkcaaGreatDoor
set_option maxRecDepth 100000
set_option maxHeartbeats 128000000
open Go.RowKit
theorem Wv {w:World} {b:Nat} {a0 a1 a2:Value} {t:TypeId}(h:w.heap[b]?=some (.cells #[a0,a1,a2] t (0,0))):w.cell? ⟨b,0,none⟩=some a0/\w.cell? ⟨b,1,none⟩=some a1/\w.cell? ⟨b,2,none⟩=some a2/\b < w.heap.size :=
 ⟨by simp [World.cell?,h],by simp [World.cell?,h],by simp [World.cell?,h],Qm h⟩
theorem Oe(meet:Bool)(g:Nat)(eg:∀args w,(callFunc g args).run Tryz.prog w=.ok (.enter g args) w)(v:Value)(md:Md)(gn:Nat)(w:World)(h:MdV w v md)(hok:md.ok)(hck:Zd md=0)(hg1:1<=gn)(hg:gn < 2^md.rel.length)
 (hJ:∀(W:World) (x y:Nat),Qi x->Qi y->Calls Tryz.prog g #[.int .u64 (x:Int),.int .u64 (y:Int)] W fun e w'=>e=.returned (.int .u64 ((if meet then x&&&y else x|||y:Nat):Int))/\W=w'):
 Calls Tryz.prog 110 #[v,.int .i64 (gn:Int),.func (.func g) #[] #[]] w fun e w'=>∃u,e=.returned u/\Ext w w'/\Xj w.heap.size w' u ((List.range md.n.toNat).map (Vh md.rel gn meet md.n.toNat)):=by
 have H:=Qq h;have HOK:=Qq hok;have HCK:=Qq hck;have HJ:=Qq hJ;obtain⟨hn1,hn64,hr4,_,hrl0,_,hlow⟩:=Vk hck;obtain⟨vv,vr,rfl,hv,hr⟩:=h;obtain⟨Av,cv,rfl,_⟩:=hv;obtain⟨Ar,cr,rfl,hrl1,hrl2,HR⟩:=Mk hr;obtain⟨n,hnn⟩:=Int.eq_ofNat_of_zero_le (show 0<=md.n by omega);rw [hnn]at hn1 hn64 H hrl0 hlow⊢;have hnt:((n:Nat):Int).toNat=n:=Int.toNat_natCast n;rw [hnt]at hlow⊢;have hn65:n<=64:=by omega
 have hn0:0 < n:=by omega
 have hg2:=decide_eq_false (Qzg hr4 hg);have hg3:¬(gn:Int) < 1:=by omega
 have hmin:min md.rel.length 64=md.rel.length:=by omega
 obtain⟨rl,hrl⟩:∃l,l=md.rel:=⟨_,rfl⟩;have HRO:=Qq (show ∀r∈rl,∀s∈r,Qi s by rw [hrl];exact hok.rel);have HRL0:=Qq (show ∀r∈rl,r.length=n by rw [hrl];exact fun r hr=>by have:=hrl0 r hr;omega);have HLO:=Qq (show ∀r∈rl,Jd r n=false by rw [hrl];exact hlow);rw [<-hrl]at HR hrl1 hr4 hg2 hmin hg⊢;have hgs:gn < 9223372036854775808:=by have:(2:Nat)^rl.length<=2^4:=Nat.pow_le_pow_right (by omega) hr4;omega
 have HGA:=Qq (Qs8 (rl:=rl) (n:=n) (meet:=meet) hg1 hg);have HX0:=Qq (show Ext w (w.alloc (.cells #[.int .i64 (n:Int),.slice Av md.val.length cv,.slice Ar rl.length cr] 28))from Qz.alloc _);have HB0:=Qq (show(w.alloc (.cells #[.int .i64 (n:Int),.slice Av md.val.length cv,.slice Ar rl.length cr] 28)).heap[w.heap.size]?=some (.cells #[.int .i64 (n:Int),.slice Av md.val.length cv,.slice Ar rl.length cr] 28 (0,0))from heap_alloc_new _ _);have H2:=Qq (show MdV w (.agg #[.int .i64 (n:Int),.slice Av md.val.length cv,.slice Ar rl.length cr]) md by rw [hrl];exact H.out);clear hr hok hck hnn hrl hg hrl0 hnt H hg1 hJ hlow
 go_enter Tryz.func110,Tryz.ntmps110;go_wp2_with(go_at_call 24;refine(Gj _ md _ (H2.out.ext HX0.out) HOK.out).mono ?_;rintro e w1 ⟨rfl,hx1⟩;rw [HCK.out];have HX1:=Qq (HX0.out.trans hx1);have HB1:=Qq ((hx1.block (Qm HB0.out)).trans HB0.out);obtain⟨e0,e1,e2,eb⟩:=Wv HB1.out;clear hx1);clear e0 e1 e2 eb;go_loopw [7,29] (fun vo vi wr=>∃k:Nat,vi=.int .i64 (k:Int)/\k<=rl.length/\Hid (Ext w1 wr/\Xj w1.heap.size wr vo (Nk rl gn meet n k)/\(Rh gn k=false->vo=.slice none 0 0))) (fun _ v _=>rl.length - (intOf v).toNat)
 case atStart=>exact⟨0,rfl,Nat.zero_le _,Qq ⟨Qz,Xj.nil _ _,fun _=>rfl⟩⟩
 case round =>
  obtain⟨k,rfl,hk,HREL⟩:=hrel;have HX:=Qq HREL.out.1;have HM:=Qq HREL.out.2.1;have HNO:=Qq HREL.out.2.2;obtain⟨e0,e1,e2,eb⟩:=Wv ((HX.out.block (Qm HB1.out)).trans HB1.out);clear HREL;by_cases hlt2:k < rl.length
  ·have hk1:(k:Int) < (rl.length:Int):=by omega
   have hmin2:min k 64=k:=by omega
   obtain⟨ad,u,rfl,hadl,hcl,hu⟩:=HR.out k hlt2;have hmem:rl.getD k []∈rl:=by rw [Qk,Qv hlt2];exact List.getElem_mem hlt2
   have hrlen:(rl.getD k []).length=n:=HRL0.out _ hmem;have HXT:=Qq (HX1.out.trans HX.out);have a0:=(HXT.out.cell (p:=ad.add k) (Qj hadl)).trans hcl;have al:(ad.add k).block < wr.heap.size:=by rw [Qn];exact Qy hadl HXT.out.size
   have HU:=Qq (hu.ext HXT.out);have HRW:=Qq (HRO.out _ hmem);have HRLO:=Qq (show ∀s∈rl.getD k [],s < 2^n from fun s hs=>by
    have:=List.any_eq_false.1 (HLO.out _ hmem) s hs
    simpa using this)
   have hbt:=Qjx gn k hgs;have q:∀(w:World) (a:Option Addr) (n c n' c':Nat),(binOp .eql 25 (.slice a n c) (.slice none n' c')).run Tryz.prog w=.ok (.bool a.isNone) w:=fun w a n c n' c'=>Lib.run_eql_slice_nil w _ _ a n c n' c' Tryz.underlying25
   obtain⟨Au,cu,rfl,_,_,HUA⟩:=Fl hu;rw [hrlen]at HUA;clear hcl;cases htb:gn.testBit k
   ·rw [htb]at hbt;have HNX:=Qq (Qc8 (rl:=rl) (n:=n) (meet:=meet) htb);have HAK:=Qq (show Rh gn (k+1)=Rh gn k by rw [Dz,htb,Bool.or_false]);clear htb;go_wp2_with fail;go_roundw
    case rel=>exact⟨k+1,by go_num,by omega,Qq ⟨HX.out,by rw [HNX.out];exact HM.out,by rw [HAK.out];exact HNO.out⟩⟩
    case measure=>simp [intOf];omega
   rw [htb]at hbt;have HAK:=Qq (show Rh gn (k+1)=true by rw [Dz,htb,Bool.or_true]);cases hak:Rh gn k
   ·have HNX:=Qq (Qbf (rl:=rl) (n:=n) (meet:=meet) htb hak hrlen HRLO.out);obtain rfl:=HNO.out hak;clear htb hak;rw [hrlen]at HU a0;go_wp2_with(go_at_call 120;refine(Qbo _ (rl.getD k []) _ HU.out (by rw [hrlen];exact hn0) (by rw [hrlen];exact hn65)).mono ?_;rintro e w5 ⟨u5,rfl,hm5,hx5⟩;have HM5:=Qq (Qqj hm5 HX.out.size);have HX5:=Qq (HX.out.trans hx5);clear hm5 hx5);go_roundw
    case rel=>exact⟨k+1,by go_num,by omega,Qq ⟨HX5.out,by rw [HNX.out];exact HM5.out,fun h=>by rw [HAK.out]at h;cases h⟩⟩
    case measure=>simp [intOf];omega
   have HNX:=Qq (Qnw (rl:=rl) (n:=n) (meet:=meet) htb hak);have hol:=Qqs (rl:=rl) (n:=n) (meet:=meet) hak;obtain⟨o,ho⟩:∃o,o=Nk rl gn meet n k:=⟨_,rfl⟩;rw [<-ho]at HM HNX hol;have HOW:=Qq (show ∀s∈o,Qi s by
    rw [ho];unfold Nk;rw [hak];intro s hs;obtain⟨i,_,rfl⟩:=List.mem_map.1 hs;exact Qnt (fun s a h=>Qri HRO.out h) _ _ (by unfold Qk2;cases meet;exact(show(0:Nat) < _ by omega);exact Fp hn65))
   obtain⟨g0,cap,rfl,_,hgb,_,_,_,_⟩:=HM.out.slice (by rw [hol];exact hn0);rw [hol]at HM⊢;clear htb hak ho;obtain⟨r0,hr0⟩:∃r,r=rl.getD k []:=⟨_,rfl⟩;have hr0l:r0.length=n:=by rw [hr0];exact hrlen
   have HR0:=Qq hr0;rw [<-hr0]at HRW HNX HUA hrlen a0;rw [hrlen]at a0;clear hr0;obtain⟨wq,hwq⟩:∃v,v=wr:=⟨_,rfl⟩;subst hwq;go_wp2_with fail;clear e0 e1 e2 eb a0 al;have HXQ:=Qq (HX1.out.trans HX.out);go_loopw [45] (fun vi wr=>∃i:Nat,vi=.int .i64 (i:Int)/\i<=n/\Hid (Ext w1 wr/\Ext w wr/\Xj w1.heap.size wr (.slice (some ⟨g0,0,none⟩) n cap) (Dq (fun x y=>if meet then x&&&y else x|||y) o r0 i))) (fun v _=>n - (intOf v).toNat)
   case atStart=>exact⟨0,rfl,Nat.zero_le _,Qq ⟨HX.out,HXQ.out,by rw [Qrj];exact HM.out⟩⟩
   case round =>
    obtain⟨i,rfl,hi,HREL⟩:=hrel;have HXI:=Qq HREL.out.1;have HXW:=Qq HREL.out.2.1;have HMI:=Qq HREL.out.2.2;clear HREL;by_cases hlt3:i < n
    ·have hi1:(i:Int) < (n:Int):=by omega
     obtain⟨-,cl,-,-,-,hcc,hff⟩:=HMI.out.at_ (by rw [Sn,hol];exact hn0);have c0:=hcc i (by rw [Sn,hol];exact hlt3);have f0:=hff i;rw [Qmb (by rw [hol];exact hlt3),if_neg (Nat.lt_irrefl _)]at c0;obtain⟨ud,rfl,hudl,huc⟩:=HUA.out i hlt3;have d0:=(HXW.out.cell (p:=ud.add i) (Qj hudl)).trans huc;have dl:(ud.add i).block < wr.heap.size:=by rw [Qn];exact Qy hudl HXW.out.size
     have HXWD:=Qq (Ty HOW.out i);have HYWD:=Qq (Ty HRW.out i);have HST:=Qq (Qsy (J:=fun x y=>if meet then x&&&y else x|||y) (o:=o) (r:=r0) (k:=i) (by rw [hol];exact hlt3));obtain⟨x,hx⟩:∃x,x=o.getD i 0:=⟨_,rfl⟩;obtain⟨y,hy⟩:∃y,y=r0.getD i 0:=⟨_,rfl⟩;rw [<-hx]at c0 HXWD HST;rw [<-hy]at d0 HYWD HST;obtain⟨z,hz⟩:∃z,z=(if meet then x&&&y else x|||y):=⟨_,rfl⟩;have HJZ:=Qq (show ∀W:World,Calls Tryz.prog g #[.int .u64 (x:Int),.int .u64 (y:Int)] W fun e w'=>e=.returned (.int .u64 (z:Int))/\W=w' from fun W=>by rw [hz];exact HJ.out W x y HXWD.out HYWD.out);have HSZ:=Qq (show(Dq (fun x y=>if meet then x&&&y else x|||y) o r0 i).set i z=Dq (fun x y=>if meet then x&&&y else x|||y) o r0 (i+1) by rw [hz];exact HST.out)
     clear hcc hff huc hx hy hz HST;go_upto_region 13 with(fail);refine Pb 13 (fun w'=>w'.cell? (⟨g0,i,none⟩)=some (.int .u64 (x:Int))/\w'.cell? (ud.add i)=some (.int .u64 (y:Int))) (by kernel_rfl) ⟨(Ext.cell (p:=⟨g0,i,none⟩) (by repeat(first|exact Qz|assumption|apply Ext.alloc|apply Ext.drew|apply Ext.setCell)) cl).trans c0,(Ext.cell (p:=ud.add i) (by repeat(first|exact Qz|assumption|apply Ext.alloc|apply Ext.drew|apply Ext.setCell)) dl).trans d0⟩ (fun hHeld=> ?_);refine' Zr (i:=0) (v:=_) rfl (by kernel_rfl) (by kernel_rfl) (by kernel_rfl) (by kernel_rfl) (fun _ _ _ h=>h) (Or.inl ⟨by rfl,?hybu11⟩) hHeld ?restbu11
     case hybu11=>(intro w' hSw;(try dsimp only at hSw);go_simp;(try with_reducible rfl))
     refine Qb ?_;refine' Zr (i:=1) (v:=_) rfl (by kernel_rfl) (by kernel_rfl) (by kernel_rfl) (by kernel_rfl) (fun _ _ _ h=>h) (Or.inl ⟨by rfl,?hybu12⟩) hHeld ?restbu12
     case hybu12=>(intro w' hSw;(try dsimp only at hSw);go_simp;(try with_reducible rfl))
     refine Qb ?_;refine' Zr (i:=2) (v:=_) rfl (by kernel_rfl) (by kernel_rfl) (by kernel_rfl) (by kernel_rfl) (fun _ _ _ h=>h) (Or.inl ⟨by rfl,?hybu13⟩) hHeld ?restbu13
     case hybu13=>(intro w' hSw;(try dsimp only at hSw);go_simp;(try with_reducible rfl))
     refine Qb ?_;refine' Zr (i:=3) (v:=_) rfl (by kernel_rfl) (by kernel_rfl) (by kernel_rfl) (by kernel_rfl) (fun _ _ _ h=>h) (Or.inl ⟨by rfl,?hybu14⟩) hHeld ?restbu14
     case hybu14=>(intro w' hSw;(try dsimp only at hSw);go_simp;(try with_reducible rfl))
     refine Qb ?_;refine' Zr (i:=4) (v:=_) rfl (by kernel_rfl) (by kernel_rfl) (by kernel_rfl) (by kernel_rfl) (fun _ _ _ h=>h) (Or.inl ⟨by rfl,?hybu15⟩) hHeld ?restbu15
     case hybu15=>(intro w' hSw;(try dsimp only at hSw);go_simp;(try with_reducible rfl))
     refine Qb ?_;refine' Zr (i:=5) (v:=_) rfl (by kernel_rfl) (by kernel_rfl) (by kernel_rfl) (by kernel_rfl) (fun _ _ _ h=>h) (Or.inl ⟨by rfl,?hybu16⟩) hHeld ?restbu16
     case hybu16=>(intro w' hSw;(try dsimp only at hSw);go_simp;(try with_reducible rfl))
     refine Qb ?_;refine' Zr (i:=6) (v:=_) rfl (by kernel_rfl) (by kernel_rfl) (by kernel_rfl) (by kernel_rfl) (fun _ _ _ h=>h) (Or.inl ⟨by rfl,?hybu17⟩) hHeld ?restbu17
     case hybu17=>(intro w' hSw;(try dsimp only at hSw);go_simp;(try with_reducible rfl))
     refine Qb ?_;refine' Zr (i:=7) (v:=_) rfl (by kernel_rfl) (by kernel_rfl) (by kernel_rfl) (by kernel_rfl) (fun _ _ _ h=>h) (Or.inl ⟨by rfl,?hybu18⟩) hHeld ?restbu18
     case hybu18=>(intro w' hSw;(try dsimp only at hSw);go_simp;(try with_reducible rfl))
     refine Qb ?_;refine' Zr (i:=8) (v:=_) rfl (by kernel_rfl) (by kernel_rfl) (by kernel_rfl) (by kernel_rfl) (fun _ _ _ h=>h) (Or.inl ⟨by rfl,?hybu19⟩) hHeld ?restbu19
     case hybu19=>(intro w' hSw;(try dsimp only at hSw);go_simp;(try with_reducible rfl))
     refine Qb ?_;refine' Zr (i:=9) (v:=_) rfl (by kernel_rfl) (by kernel_rfl) (by kernel_rfl) (by kernel_rfl) (fun _ _ _ h=>h) (Or.inl ⟨by rfl,?hybu110⟩) hHeld ?restbu110
     case hybu110=>(intro w' hSw;(try dsimp only at hSw);go_simp;(try with_reducible rfl))
     refine Qb ?_;refine' Zr (i:=10) (v:=_) rfl (by kernel_rfl) (by kernel_rfl) (by kernel_rfl) (by kernel_rfl) (fun _ _ _ h=>h) (Or.inl ⟨by rfl,?hybu111⟩) hHeld ?restbu111
     case hybu111=>(intro w' hSw;(try dsimp only at hSw);go_simp;(try with_reducible rfl))
     refine Qb ?_;refine Gm (rs:= [11]) (by kernel_rfl) (by simp) ?_;refine Gt.cons rfl (fun K hK=> ?_) Gt.nil;go_simp;refine(HJZ.out _).mono ?_;rintro e w9 ⟨rfl,rfl⟩;go_wp2_with fail;refine hK.out _ _ ⟨(Ext.cell (p:=⟨g0,i,none⟩) (by repeat(first|exact Qz|assumption|apply Ext.alloc|apply Ext.drew|apply Ext.setCell)) cl).trans c0,(Ext.cell (p:=ud.add i) (by repeat(first|exact Qz|assumption|apply Ext.alloc|apply Ext.drew|apply Ext.setCell)) dl).trans d0⟩ (fun hHeld=> ?_);clear hK K;refine Qb ?_;refine' Zr (i:=12) (v:=_) rfl (by kernel_rfl) (by kernel_rfl) (by kernel_rfl) (by kernel_rfl) (fun _ _ _ h=>h) (Or.inl ⟨by rfl,?hybu112⟩) hHeld ?restbu112
     case hybu112=>(intro w' hSw;(try dsimp only at hSw);go_simp;(try with_reducible rfl))
     refine Qb ?_;refine Pv (by kernel_rfl) rfl (fun K hK=> ?_);go_simp;refine hK.out _ _ ?_;clear hK K;refine Qb ?_;refine Ms (by kernel_rfl) ?_ _;have HM9:=Qq (HMI.out.set (by rw [Sn,hol]) i z);rw [HSZ.out]at HM9;have HX9:=Qq (HXI.out.setCell (p:=⟨g0,i,none⟩) hgb (.int .u64 ((z:Nat):Int)));have HW9:=Qq (HXW.out.setCell (p:=⟨g0,i,none⟩) (Qx HX1.out.size hgb) (.int .u64 ((z:Nat):Int)));clear c0 f0 d0 cl dl HXI HXW HMI;go_wp2_with fail;go_roundw
     case rel=>exact⟨i+1,by go_num,by omega,Qq ⟨HX9.out.drew,HW9.out.drew,HM9.out.ext (Qz.drew)⟩⟩
     case measure=>simp [intOf];omega
    obtain rfl:n=i:=by omega
    go_wp2_with fail;go_roundw
    case rel=>exact⟨k+1,by go_num,by omega,Qq ⟨HXI.out,by rw [<-HNX.out];exact HMI.out,fun h=>by rw [HAK.out]at h;cases h⟩⟩
    case measure=>simp [intOf];omega
  obtain rfl:rl.length=k:=by omega
  go_wp2_with fail;go_ret;exact⟨_,rfl,HX1.out.trans HX.out,by rw [<-HGA.out];exact Qqj HM.out HX1.out.size⟩
theorem Qc6(W:World)(x y:Nat)(hx:Qi x)(hy:Qi y):Calls Tryz.prog 112 #[.int .u64 (x:Int),.int .u64 (y:Int)] W fun e w'=>e=.returned (.int .u64 ((if false then x&&&y else x|||y:Nat):Int))/\W=w':=by
 have HB:=Qq (Sm hx hy);clear hx hy;go_enter Tryz.func112,Tryz.ntmps112;go_wp2_with fail;go_ret;exact⟨by rw [<-HB.out] <;> rfl,rfl⟩
theorem Qtj(W:World)(x y:Nat)(hx:Qi x)(hy:Qi y):Calls Tryz.prog 111 #[.int .u64 (x:Int),.int .u64 (y:Int)] W fun e w'=>e=.returned (.int .u64 ((if true then x&&&y else x|||y:Nat):Int))/\W=w':=by
 have HB:=Qq (Sp hx hy);clear hx hy;go_enter Tryz.func111,Tryz.ntmps111;go_wp2_with fail;go_ret;exact⟨by rw [<-HB.out] <;> rfl,rfl⟩
theorem Qzf(v:Value)(md:Md)(gn:Nat)(w:World)(h:MdV w v md)(hok:md.ok)(hck:Zd md=0)(hg1:1<=gn)(hg:gn < 2^md.rel.length):
 Calls Tryz.prog 94 #[v,.int .i64 (gn:Int)] w fun e w'=>∃u,e=.returned u/\Ext w w'/\Yi w' u ((List.range md.n.toNat).map (Vh md.rel gn false md.n.toNat)):=by
 have H:=Qq h;have HOK:=Qq hok;have HC:=Qq hck;have eg:∀args w,(callFunc 112 args).run Tryz.prog w=.ok (.enter 112 args) w:=fun _ _=>rfl
 have HG:=Qq (fun(w:World) (h:MdV w v md)=>Oe false 112 eg v md gn w h hok hck hg1 hg Qc6);obtain⟨vv,vr,rfl,hv,hr⟩:=h;clear hok hck eg hv hr;go_enter Tryz.func94,Tryz.ntmps94;go_wp2_with(go_at_call 110;refine(HG.out _ (H.out.ext ((Ext.refl w).alloc _))).mono ?_;rintro e w1 ⟨u,rfl,hx,hm⟩;have HX:=Qq (((Ext.refl w).alloc _).trans hx);have HM:=Qq hm;clear hx hm);go_ret;exact⟨_,rfl,HX.out,HM.out.u64s⟩
theorem Qrk(v:Value)(md:Md)(gn:Nat)(w:World)(h:MdV w v md)(hok:md.ok)(hck:Zd md=0)(hg1:1<=gn)(hg:gn < 2^md.rel.length):
 Calls Tryz.prog 93 #[v,.int .i64 (gn:Int)] w fun e w'=>∃u,e=.returned u/\Ext w w'/\Yi w' u ((List.range md.n.toNat).map (Vh md.rel gn true md.n.toNat)):=by
 have H:=Qq h;have HOK:=Qq hok;have HC:=Qq hck;have eg:∀args w,(callFunc 111 args).run Tryz.prog w=.ok (.enter 111 args) w:=fun _ _=>rfl
 have HG:=Qq (fun(w:World) (h:MdV w v md)=>Oe true 111 eg v md gn w h hok hck hg1 hg Qtj);obtain⟨vv,vr,rfl,hv,hr⟩:=h;clear hok hck eg hv hr;go_enter Tryz.func93,Tryz.ntmps93;go_wp2_with(go_at_call 110;refine(HG.out _ (H.out.ext ((Ext.refl w).alloc _))).mono ?_;rintro e w1 ⟨u,rfl,hx,hm⟩;have HX:=Qq (((Ext.refl w).alloc _).trans hx);have HM:=Qq hm;clear hx hm);go_ret;exact⟨_,rfl,HX.out,HM.out.u64s⟩
end Go.Proofs.YtmidgcldljfkcaaGreatDoor
