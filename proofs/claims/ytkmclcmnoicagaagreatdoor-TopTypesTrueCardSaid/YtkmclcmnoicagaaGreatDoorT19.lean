/- The program's model.outside and model.Check. -/
import Derived.Test.YtkmclcmnoicagaaGreatDoorT18
namespace Go.Proofs.YtkmclcmnoicagaaGreatDoor
set_option maxRecDepth 100000
set_option maxHeartbeats 128000000
open Go.RowKit
theorem Qmx(B:Nat)(s n:Nat)(w:World)(hn:n<=64)(hs:Zj s)(hb:w.cell? ⟨B,0,none⟩=some (.int .i64 (n:Int))):
 Calls Tryz.prog 196 #[.int .u64 (s:Int),.pointer (some ⟨B,0,none⟩)] w fun e w'=>e=.returned (.bool (!decide (s < 2^n)))/\Ext w w':=by
 have HO:=Qq (Qqv (n:=n) hs hn);clear hs;go_enter Tryz.func196,Tryz.ntmps196;go_wp2_with(go_at_call 94;refine(Qsz n hn _).mono ?_;rintro e w3 ⟨rfl,rfl⟩);go_ret;exact⟨by rw [<-HO.out] <;> rfl,Qz⟩
theorem Qmg(B:Nat)(v:Value)(l:List Nat)(n:Nat)(w:World)(h:Ji w v l)(hw:∀s∈l,Zj s)(hn:n<=64)(hB:B < w.heap.size)(hb:w.cell? ⟨B,0,none⟩=some (.int .i64 (n:Int))):
 Calls Tryz.prog 195 #[v,.func (.func 196) #[] #[.pointer (some ⟨B,0,none⟩)]] w fun e w'=>e=.returned (.bool (Zx l n))/\Ext w w':=by
 have eg:∀args w,(callFunc 196 args).run Tryz.prog w=.ok (.enter 196 args) w:=fun _ _=>rfl
 refine(Qxq 196 #[.pointer (some ⟨B,0,none⟩)] eg (fun s=> !decide (s < 2^n)) v l w h ?_).mono ?_
 ·intro W s hs hx;exact Qmx B s n W hn (hw s hs) ((hx.cell (p:=⟨B,0,none⟩) hB).trans hb)
 rintro e w1 ⟨rfl,hx⟩;exact⟨rfl,hx⟩
theorem Ey(v:Value)(l:List Nat)(n:Nat)(w:World)(h:Ji w v l)(hw:∀s∈l,Zj s)(hn:n<=64):
 Calls Tryz.prog 158 #[v,.int .i64 (n:Int)] w fun e w'=>e=.returned (.bool (Zx l n))/\Ext w w':=by
 have HL:=Qq h;have HW:=Qq hw;clear h hw;go_enter Tryz.func158,Tryz.ntmps158;go_wp2_with(go_at_call 195;refine(Qmg w.heap.size _ l n _ (HL.out.ext (by repeat(first|exact Qz|assumption|apply Ext.alloc|apply Ext.drew))) HW.out hn (by simp) (by simp)).mono ?_;rintro e w1 ⟨rfl,hx⟩;have HX:=Qq (((Ext.refl w).alloc _).trans hx);clear hx);go_ret;exact⟨rfl,HX.out⟩
theorem Qbw(B:Nat)(v:Value)(l:List Nat)(n:Nat)(w:World)(h:Ji w v l)(hw:∀s∈l,Zj s)(hn:n<=64)(_hB:B < w.heap.size)(hb:w.cell? ⟨B,0,none⟩=some (.int .i64 (n:Int))):
 Calls Tryz.prog 159 #[v,.pointer (some ⟨B,0,none⟩)] w fun e w'=>e=.returned (.bool (Zx l n))/\Ext w w':=by
 have HL:=Qq h;have HW:=Qq hw;clear h hw;go_enter Tryz.func159,Tryz.ntmps159;go_wp2_with(go_at_call 158;refine(Ey _ l n _ (HL.out.ext (by repeat(first|exact Qz|assumption|apply Ext.alloc|apply Ext.drew))) HW.out hn).mono ?_;rintro e w1 ⟨rfl,hx⟩;have HX:=Qq hx;clear hx);go_ret;exact⟨rfl,HX.out⟩
theorem Qzq(B:Nat)(v:Value)(rl:List (List Nat))(n:Nat)(w:World)(h:Lv w v rl)(hw:∀r∈rl,∀s∈r,Zj s)(hn:n<=64)(hB:B < w.heap.size)(hb:w.cell? ⟨B,0,none⟩=some (.int .i64 (n:Int))):
 Calls Tryz.prog 99 #[v,.func (.func 159) #[] #[.pointer (some ⟨B,0,none⟩)]] w fun e w'=>e=.returned (.bool (rl.any fun r=>Zx r n))/\Ext w w':=by
 have eg:∀args w,(callFunc 159 args).run Tryz.prog w=.ok (.enter 159 args) w:=fun _ _=>rfl
 refine(Qk9 159 #[.pointer (some ⟨B,0,none⟩)] eg (fun r=>Zx r n) v rl w h ?_).mono ?_
 ·intro W u s hs hx hu;exact Qbw B u s n W hu (hw s hs) hn (Qy hB hx.size) ((hx.cell (p:=⟨B,0,none⟩) hB).trans hb)
 rintro e w1 ⟨rfl,hx⟩;exact⟨rfl,hx⟩
theorem Fg(v:Value)(md:Md)(w:World)(h:MdV w v md)(hok:md.ok):
 Calls Tryz.prog 93 #[v] w fun e w'=>e=.returned (.int .i64 (Zy md))/\Ext w w':=by
 obtain⟨vv,vr,rfl,hv,hr⟩:=h;have HV:=Qq hv;have HRS:=Qq hr;have HOK:=Qq hok;obtain⟨Av,cv,rfl,_⟩:=hv;obtain⟨Ar,cr,rfl,_,_,HR⟩:=Dc hr;obtain⟨z,hz⟩:∃z,z=md.n:=⟨_,rfl⟩;have HZ:=Qq hz;rw [<-hz];clear hr hok hz;by_cases h1:z < 1
 ·have HE:=Qq (show Zy md=2 by unfold Zy;rw [<-HZ.out,if_pos (.inl h1)]);go_enter Tryz.func93,Tryz.ntmps93;go_wp2_with fail;go_ret;exact⟨by rw [HE.out] <;> rfl,(by repeat(first|exact Qz|assumption|apply Ext.alloc|apply Ext.drew))⟩
 by_cases h2:64 < z
 ·have HE:=Qq (show Zy md=2 by unfold Zy;rw [<-HZ.out,if_pos (.inr h2)]);go_enter Tryz.func93,Tryz.ntmps93;go_wp2_with fail;go_ret;exact⟨by rw [HE.out] <;> rfl,(by repeat(first|exact Qz|assumption|apply Ext.alloc|apply Ext.drew))⟩
 by_cases h3:4 < md.rel.length
 ·have HE:=Qq (show Zy md=8 by unfold Zy;rw [<-HZ.out,if_neg (by omega),if_pos (.inl h3)]);have h3':(4:Int) < (md.rel.length:Int):=by omega
  clear h3;go_enter Tryz.func93,Tryz.ntmps93;go_wp2_with fail;go_ret;exact⟨by rw [HE.out] <;> rfl,(by repeat(first|exact Qz|assumption|apply Ext.alloc|apply Ext.drew))⟩
 by_cases h4:8 < md.val.length
 ·have HE:=Qq (show Zy md=8 by unfold Zy;rw [<-HZ.out,if_neg (by omega),if_pos (.inr h4)]);have h4':(8:Int) < (md.val.length:Int):=by omega
  have h3':¬(4:Int) < (md.rel.length:Int):=by omega
  clear h3 h4;go_enter Tryz.func93,Tryz.ntmps93;go_wp2_with fail;go_ret;exact⟨by rw [HE.out] <;> rfl,(by repeat(first|exact Qz|assumption|apply Ext.alloc|apply Ext.drew))⟩
 have h4':¬(8:Int) < (md.val.length:Int):=by omega
 have h3':¬(4:Int) < (md.rel.length:Int):=by omega
 obtain⟨n,hnz⟩:∃n:Nat,(n:Int)=z:=⟨z.toNat,by omega⟩;subst hnz;have hn64:n<=64:=by omega
 have hn1:0 < n:=by omega
 have HC:=Qq (show Zy md=if md.rel.any (fun r=> !decide (r.length=n))then 3 else if Zx md.val n then 2 else if md.rel.any (fun r=>Zx r n)then 2 else 0 by
  unfold Zy;rw [<-HZ.out,if_neg (by omega),if_neg (by omega),Int.toNat_natCast];simp only [Int.natCast_inj])
 obtain⟨rl,hrl⟩:∃l,l=md.rel:=⟨_,rfl⟩;have HRE:=Qq hrl;rw [<-hrl]at HR HRS h3' h3 HC;rw [<-hrl];clear h1 h2 h4 hrl;go_enter Tryz.func93,Tryz.ntmps93;go_wp2_with fail;go_loopw [26] (fun v wr=>∃k:Nat,v=.int .i64 (k:Int)/\k<=rl.length/\wr=w.alloc (.cells #[.int .i64 (n:Int),.slice Av md.val.length cv,.slice Ar rl.length cr] 26)/\Hid (∀j,j < k->decide ((rl.getD j []).length=n)=true)) (fun v _=>rl.length - (intOf v).toNat)
 case atStart=>exact⟨0,rfl,Nat.zero_le _,rfl,Qq fun j hj=>absurd hj (by omega)⟩
 case round =>
  obtain⟨k,rfl,hk,rfl,HJ⟩:=hrel;by_cases hlt2:k < rl.length
  ·have hk1:(k:Int) < (rl.length:Int):=by omega
   obtain⟨ad,u,rfl,hb1,hu,hc1⟩:=HR.out k hlt2;obtain⟨Au,cu,rfl,_⟩:=hc1;have a0:=(((Ext.refl w).alloc (.cells #[.int .i64 (n:Int),.slice Av md.val.length cv,.slice (some ad) rl.length cr] 26)).cell (p:=ad.add k) (Qj hb1)).trans hu;clear hu;obtain⟨q,hq⟩:∃q,q=(rl.getD k []).length:=⟨_,rfl⟩;have HNX:=Qq (show decide (q=n)=true->∀j,j < k+1->decide ((rl.getD j []).length=n)=true from fun h=>Be (P:=fun j=>decide ((rl.getD j []).length=n)=true) HJ.out (by rw [<-hq];exact h));have HHT:=Qq (show decide (q=n)=false->rl.any (fun r=> !decide (r.length=n))=true from fun h=>Qzs hlt2 (by rw [<-hq,h];rfl));rw [<-hq]at a0
   clear hq;by_cases hd:q=n
   ·have HP:=Qq (HNX.out (decide_eq_true hd));subst hd;have hne:((q:Int) !=(q:Int))=false:=by simp
    go_wp2_with fail;go_roundw
    case rel=>exact⟨k+1,by go_num,by omega,by first|trivial|rfl,HP⟩
    case measure=>simp [intOf];omega
   have HE:=Qq (show Zy md=3 by rw [HC.out,if_pos (HHT.out (decide_eq_false hd))]);have hne:((q:Int) !=(n:Int))=true:=by simp only [bne_iff_ne,ne_eq,Int.natCast_inj];exact hd
   go_wp2_with fail;go_ret;exact⟨by rw [HE.out] <;> rfl,(by repeat(first|exact Qz|assumption|apply Ext.alloc|apply Ext.drew))⟩
  obtain rfl:rl.length=k:=by omega
  have HC2:=Qq (show Zy md=if Zx md.val n then 2 else if rl.any (fun r=>Zx r n)then 2 else 0 by
   rw [HC.out,if_neg (by rw [Wy (P:=fun r=> !decide (r.length=n)) (fun j hj=>by rw [HJ.out j hj];rfl)];simp)])
  clear HC HJ;have hcb:(w.alloc (.cells #[.int .i64 (n:Int),.slice Av md.val.length cv,.slice Ar rl.length cr] 26)).cell? ⟨w.heap.size,0,none⟩=some (.int .i64 (n:Int)):=by simp
  have HCB:=Qq hcb;clear hcb;go_upto_region 11 with(fail);cases hb:Zx md.val n
  ·have HB:=Qq hb;cases ha:rl.any (fun r=>Zx r n)
   ·have HE:=Qq (show Zy md=0 by rw [HC2.out,HB.out,ha];rfl);have HA:=Qq ha;clear ha hb;go_wp2_with(first|(go_at_call 158;refine(Ey _ md.val n _ (HV.out.ext (by repeat(first|exact Qz|assumption|apply Ext.alloc|apply Ext.drew))) HOK.out.val hn64).mono ?_;rintro e w1 ⟨rfl,hx⟩;rw [HB.out];have HX:=Qq (((Ext.refl w).alloc _).trans hx);have HX1:=Qq hx;have hc2:w1.cell? ⟨w.heap.size,2,none⟩=some (.slice Ar rl.length cr):=(hx.cell (p:=⟨w.heap.size,2,none⟩) (by simp)).trans (by simp);clear hx)|(go_at_call 99;refine(Qzq w.heap.size _ rl n _ (HRS.out.ext HX.out) (by rw [HRE.out];exact HOK.out.rel) hn64 (Qy (by simp) HX1.out.size) ((HX1.out.cell (p:=⟨w.heap.size,0,none⟩) (by simp)).trans HCB.out)).mono ?_;rintro e w2 ⟨rfl,hx⟩;rw [HA.out];have HX2:=Qq hx;clear hx))
    go_ret;exact⟨by rw [HE.out] <;> rfl,HX.out.trans HX2.out⟩
   have HE:=Qq (show Zy md=2 by rw [HC2.out,HB.out,ha];rfl);have HA:=Qq ha;clear ha hb;go_wp2_with(first|(go_at_call 158;refine(Ey _ md.val n _ (HV.out.ext (by repeat(first|exact Qz|assumption|apply Ext.alloc|apply Ext.drew))) HOK.out.val hn64).mono ?_;rintro e w1 ⟨rfl,hx⟩;rw [HB.out];have HX:=Qq (((Ext.refl w).alloc _).trans hx);have HX1:=Qq hx;have hc2:w1.cell? ⟨w.heap.size,2,none⟩=some (.slice Ar rl.length cr):=(hx.cell (p:=⟨w.heap.size,2,none⟩) (by simp)).trans (by simp);clear hx)|(go_at_call 99;refine(Qzq w.heap.size _ rl n _ (HRS.out.ext HX.out) (by rw [HRE.out];exact HOK.out.rel) hn64 (Qy (by simp) HX1.out.size) ((HX1.out.cell (p:=⟨w.heap.size,0,none⟩) (by simp)).trans HCB.out)).mono ?_;rintro e w2 ⟨rfl,hx⟩;rw [HA.out];have HX2:=Qq hx;clear hx))
   go_ret;exact⟨by rw [HE.out] <;> rfl,HX.out.trans HX2.out⟩
  have HE:=Qq (show Zy md=2 by rw [HC2.out,hb];rfl);have HB:=Qq hb;clear hb;go_wp2_with(go_at_call 158;refine(Ey _ md.val n _ (HV.out.ext (by repeat(first|exact Qz|assumption|apply Ext.alloc|apply Ext.drew))) HOK.out.val hn64).mono ?_;rintro e w1 ⟨rfl,hx⟩;rw [HB.out];have HX:=Qq (((Ext.refl w).alloc _).trans hx);clear hx);go_ret;exact⟨by rw [HE.out] <;> rfl,HX.out⟩
end Go.Proofs.YtkmclcmnoicagaaGreatDoor
