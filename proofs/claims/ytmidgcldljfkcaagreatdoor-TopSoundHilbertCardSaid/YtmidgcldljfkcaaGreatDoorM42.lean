/- sequent's correct: RuleD in KD45. -/
import Derived.Test.YtmidgcldljfkcaaGreatDoorM01
import Derived.Test.YtmidgcldljfkcaaGreatDoorM39
import Derived.Test.YtmidgcldljfkcaaGreatDoorM13
import Derived.Test.YtmidgcldljfkcaaGreatDoorM40
import Derived.Test.YtmidgcldljfkcaaGreatDoorM41
import Derived.Deep.RegionLaw
namespace Go.Proofs.YtmidgcldljfkcaaGreatDoor
set_option maxRecDepth 100000
set_option maxHeartbeats 128000000
open Go.RowKit
theorem Qb6 {w:World} {b:Nat} {lg:Int} {base:List Nd} {steps:List Stp} {opps:List Int}(h:Xy w b lg base steps opps)(hb:Zt base=0)(hol:opps.length<=64)(hoz:∀z∈opps,z < 64)(at_:Nat)(hat:at_ < steps.length)(s:Nat)(ru on e:Int)(fr:List Int)(hx:steps[at_]?=some ⟨s,ru,on,e,fr⟩)(hins:Kw base s=true)(hr:ru=7)(he:e=0)(hlg:lg=5):
 Calls Tryz.prog 56 #[.pointer (some ⟨b,0,none⟩),.int .i64 (at_:Int)] w fun e w'=>e=.returned (.bool (Qo lg base opps steps at_))/\Ext w w':=by
 obtain⟨ad,c,h1,h2,hblk,d2,hrow⟩:=h.rows (by intro e;rw [e]at hat;simp at hat);obtain⟨ur,q0,q1,q2,q3,q4,⟨Af,cf,rfl,_⟩,hset⟩:=hrow at_ _ hx;obtain⟨Ab,cb,As,cs,Ao,co,d0,d1,_,_,hF,_,_⟩:=h.cells;have hlen:1<=base.length/\base.length<=64:=⟨by have:=(Zk (Zx hb).1).1;omega,(Zx hb).2.1⟩;have HF:=Qq hF;have H:=Qq h;have HB:=Qq hb;have HAT:=Qq hat;have HLEN:=Qq hlen;have HX:=Qq hx;have HOL:=Qq hol;have HOZ:=Qq hoz;have hbw:=h.blt;have ha1:(at_:Int) < (steps.length:Int):=by omega
 have ha0:(0:Int)<=(at_:Int):=by omega
 simp only at q0 q1 q2 q3 q4 hset;clear h hx hrow hat hF hb hlen hol hoz;subst hr;have HIN:=Qq hins;clear hins;have HC:=Qq (show Qo lg base opps steps at_=bif e !=0 then false else((lg==1||lg==5)&&(decide (0<=on)&&(decide (on < 4)&&Ja steps at_ [Yn lg base s on]))) by unfold Qo Kh;simp only [Km HX.out,HIN.out];rfl);subst he hlg;by_cases h0:0<=on
 ·by_cases h4:on < 4
  ·have HE:=Qq (show Qo 5 base opps steps at_=Ja steps at_ [Yn 5 base s on] by rw [HC.out];simp only [decide_eq_true h0,decide_eq_true h4];rfl);obtain⟨z0,z1,z2,z3,z4,zfr,zlt⟩:=Jp (heap_alloc_new w (.cells #[.int .u64 (s:Int),.int .i64 7,.int .i64 on,.int .i64 0,.slice Af fr.length cf] 66));have Z0:=Qq z0;have X0:=Qq ((Ext.refl w).alloc (.cells #[.int .u64 (s:Int),.int .i64 7,.int .i64 on,.int .i64 0,.slice Af fr.length cf] 66));have D1:=Qq d1;have ZLT:=Qq zlt;have HBW:=Qq hbw;have d1w:=(X0.out.cell (p:=⟨b,1,none⟩) hbw).trans d1;have hbz:b < (w.alloc (.cells #[.int .u64 (s:Int),.int .i64 7,.int .i64 on,.int .i64 0,.slice Af fr.length cf] 66)).heap.size:=Qy hbw X0.out.size
   go_enter Tryz.func56,Tryz.ntmps56;go_wp2_with fail;refine wp_region_held_drew (S:=fun w'=>w'.cell? (⟨b,1,none⟩)=some (.slice Ab base.length cb)/\w'.cell? (⟨w.heap.size,0,none⟩)=some (.int .u64 (s:Int))) (by kernel_rfl) ⟨xc hbz d1w,xc zlt z0⟩ (fun hHeld=> ?_);refine tk 0 hHeld ?_;refine tk 1 hHeld ?_;refine tk 2 hHeld ?_;refine tk 3 hHeld ?_;refine tk 4 hHeld ?_;refine tk 5 hHeld ?_;refine tk 6 hHeld ?_;refine wpAnyH_ready (rs:= [7]) (by kernel_rfl) (by simp) ?_;refine AllReadyH.cons rfl (fun K hK=> ?_) AllReadyH.nil;go_simp
   (go_at_call 84;refine(Jy Ab cb base s hset HLEN.out _).mono ?_;rintro e2 w2 ⟨rfl,rfl⟩;rw [HIN.out])
   go_wp2_with fail;refine hK.out _ _ ⟨xc hbz d1w,xc zlt z0⟩ (fun hHeld=> ?_);clear hK K;refine Qd ?_;refine tk 8 hHeld ?_;refine wpAnyH_done (by kernel_rfl) ?_ _;go_wp2_with fail;refine wp_region_held_drew (S:=fun w'=>w'.cell? (⟨w.heap.size,0,none⟩)=some (.int .u64 (s:Int))/\w'.cell? (⟨w.heap.size,2,none⟩)=some (.int .i64 on)/\w'.cell? (⟨b,1,none⟩)=some (.slice Ab base.length cb)) (by kernel_rfl) ⟨xc zlt z0,xc zlt z2,xc hbz d1w⟩ (fun hHeld=> ?_);refine tk 0 hHeld ?_;refine tk 1 hHeld ?_;refine tk 2 hHeld ?_;refine tk 3 hHeld ?_;refine tk 4 hHeld ?_;refine tk 5 hHeld ?_;refine tk 6 hHeld ?_;refine tk 7 hHeld ?_
   refine tk 8 hHeld ?_;refine tk 9 hHeld ?_;refine tk 10 hHeld ?_;refine tk 11 hHeld ?_;refine tk 12 hHeld ?_;refine tk 13 hHeld ?_;refine tk 14 hHeld ?_;refine tk 15 hHeld ?_;refine tk 16 hHeld ?_;refine tk 17 hHeld ?_;refine tk 18 hHeld ?_;refine tk 19 hHeld ?_;refine tk 20 hHeld ?_;refine tk 21 hHeld ?_;refine tk 22 hHeld ?_;refine tk 23 hHeld ?_;refine tk 24 hHeld ?_;refine tk 25 hHeld ?_;refine tk 26 hHeld ?_;refine tk 27 hHeld ?_;refine tk 28 hHeld ?_;refine wpAnyH_ready (rs:= [29]) (by kernel_rfl) (by simp) ?_;refine AllReadyH.cons rfl (fun K hK=> ?_) AllReadyH.nil;go_simp
   (go_at_call 89;refine(Ei 5 _ base s on _ ((HF.out.ext (X0.out.trans xw)).1) HB.out hset).mono ?_;rintro e2 w4 ⟨rfl,hv⟩;have hx4:Ext (w.alloc (.cells #[.int .u64 (s:Int),.int .i64 7,.int .i64 on,.int .i64 0,.slice Af fr.length cf] 66)) w4:=Ext.trans xw hv;clear hv)
   go_wp2_with fail;refine hK.out _ _ ⟨xc zlt z0,xc zlt z2,xc hbz d1w⟩ (fun hHeld=> ?_);clear hK K;refine Qd ?_;refine wpAnyH_ready (rs:= [30]) (by kernel_rfl) (by simp) ?_;refine AllReadyH.cons rfl (fun K hK=> ?_) AllReadyH.nil;go_simp;refine hK.out _ _ ⟨xc zlt z0,xc zlt z2,xc hbz d1w⟩ (fun hHeld=> ?_);clear hK K;refine Qd ?_;refine wpAnyH_ready (rs:= [31]) (by kernel_rfl) (by simp) ?_;refine AllReadyH.cons rfl (fun K hK=> ?_) AllReadyH.nil;go_simp
   (go_at_call 87;refine(Vd (H.out.ext (X0.out.trans xw)) at_ HAT.out _ [Yn 5 base s on] (by exact Nn rfl (Ma HB.out) (by simp))).mono ?_;rintro e2 w5 ⟨rfl,hv⟩;have hx5:Ext (w.alloc (.cells #[.int .u64 (s:Int),.int .i64 7,.int .i64 on,.int .i64 0,.slice Af fr.length cf] 66)) w5:=Ext.trans xw hv;clear hv)
   go_wp2_with fail;refine hK.out _ _ ⟨xc zlt z0,xc zlt z2,xc hbz d1w⟩ (fun hHeld=> ?_);clear hK K;refine Qd ?_;refine tk 32 hHeld ?_;refine tk 33 hHeld ?_;refine wpAnyH_done (by kernel_rfl) ?_ _;go_wp2_with fail;go_ret;exact⟨by rw [HE.out] <;> rfl,X0.out.trans xw⟩
  have h4d:decide (on < 4)=false:=decide_eq_false h4;have HE:=Qq (show Qo 5 base opps steps at_=false by rw [HC.out];simp only [decide_eq_true h0,h4d];rfl);obtain⟨z0,z1,z2,z3,z4,zfr,zlt⟩:=Jp (heap_alloc_new w (.cells #[.int .u64 (s:Int),.int .i64 7,.int .i64 on,.int .i64 0,.slice Af fr.length cf] 66));have Z0:=Qq z0;have X0:=Qq ((Ext.refl w).alloc (.cells #[.int .u64 (s:Int),.int .i64 7,.int .i64 on,.int .i64 0,.slice Af fr.length cf] 66));have D1:=Qq d1;have ZLT:=Qq zlt;have HBW:=Qq hbw;have d1w:=(X0.out.cell (p:=⟨b,1,none⟩) hbw).trans d1;have hbz:b < (w.alloc (.cells #[.int .u64 (s:Int),.int .i64 7,.int .i64 on,.int .i64 0,.slice Af fr.length cf] 66)).heap.size:=Qy hbw X0.out.size
  go_enter Tryz.func56,Tryz.ntmps56;go_wp2_with fail;refine wp_region_held_drew (S:=fun w'=>w'.cell? (⟨b,1,none⟩)=some (.slice Ab base.length cb)/\w'.cell? (⟨w.heap.size,0,none⟩)=some (.int .u64 (s:Int))) (by kernel_rfl) ⟨xc hbz d1w,xc zlt z0⟩ (fun hHeld=> ?_);refine tk 0 hHeld ?_;refine tk 1 hHeld ?_;refine tk 2 hHeld ?_;refine tk 3 hHeld ?_;refine tk 4 hHeld ?_;refine tk 5 hHeld ?_;refine tk 6 hHeld ?_;refine wpAnyH_ready (rs:= [7]) (by kernel_rfl) (by simp) ?_;refine AllReadyH.cons rfl (fun K hK=> ?_) AllReadyH.nil;go_simp
  (go_at_call 84;refine(Jy Ab cb base s hset HLEN.out _).mono ?_;rintro e2 w2 ⟨rfl,rfl⟩;rw [HIN.out])
  go_wp2_with fail;refine hK.out _ _ ⟨xc hbz d1w,xc zlt z0⟩ (fun hHeld=> ?_);clear hK K;refine Qd ?_;refine tk 8 hHeld ?_;refine wpAnyH_done (by kernel_rfl) ?_ _;go_wp2_with fail;refine wp_region_held_drew (S:=fun w'=>w'.cell? (⟨w.heap.size,0,none⟩)=some (.int .u64 (s:Int))/\w'.cell? (⟨w.heap.size,2,none⟩)=some (.int .i64 on)/\w'.cell? (⟨b,1,none⟩)=some (.slice Ab base.length cb)) (by kernel_rfl) ⟨xc zlt z0,xc zlt z2,xc hbz d1w⟩ (fun hHeld=> ?_);refine tk 0 hHeld ?_;refine tk 1 hHeld ?_;refine tk 2 hHeld ?_;refine tk 3 hHeld ?_;refine tk 4 hHeld ?_;refine tk 5 hHeld ?_;refine tk 6 hHeld ?_;refine tk 7 hHeld ?_
  refine tk 8 hHeld ?_;refine tk 9 hHeld ?_;refine tk 10 hHeld ?_;refine tk 11 hHeld ?_;refine tk 12 hHeld ?_;refine tk 13 hHeld ?_;refine tk 14 hHeld ?_;refine tk 15 hHeld ?_;refine tk 16 hHeld ?_;refine un 17 hHeld ?_;refine un 18 hHeld ?_;refine un 19 hHeld ?_;refine un 20 hHeld ?_;refine un 21 hHeld ?_;refine un 22 hHeld ?_;refine un 23 hHeld ?_;refine un 24 hHeld ?_;refine un 25 hHeld ?_;refine un 26 hHeld ?_;refine un 27 hHeld ?_;refine un 28 hHeld ?_;refine un 29 hHeld ?_;refine un 30 hHeld ?_;refine un 31 hHeld ?_;refine tk 32 hHeld ?_;refine tk 33 hHeld ?_;refine wpAnyH_done (by kernel_rfl) ?_ _
  go_wp2_with fail;go_ret;exact⟨by rw [HE.out] <;> rfl,X0.out.trans xw⟩
 have h0d:decide (0<=on)=false:=decide_eq_false h0;have HE:=Qq (show Qo 5 base opps steps at_=false by rw [HC.out];simp only [h0d];rfl);obtain⟨z0,z1,z2,z3,z4,zfr,zlt⟩:=Jp (heap_alloc_new w (.cells #[.int .u64 (s:Int),.int .i64 7,.int .i64 on,.int .i64 0,.slice Af fr.length cf] 66));have Z0:=Qq z0;have X0:=Qq ((Ext.refl w).alloc (.cells #[.int .u64 (s:Int),.int .i64 7,.int .i64 on,.int .i64 0,.slice Af fr.length cf] 66));have D1:=Qq d1;have ZLT:=Qq zlt;have HBW:=Qq hbw;have d1w:=(X0.out.cell (p:=⟨b,1,none⟩) hbw).trans d1;have hbz:b < (w.alloc (.cells #[.int .u64 (s:Int),.int .i64 7,.int .i64 on,.int .i64 0,.slice Af fr.length cf] 66)).heap.size:=Qy hbw X0.out.size
 go_enter Tryz.func56,Tryz.ntmps56;go_wp2_with fail;refine wp_region_held_drew (S:=fun w'=>w'.cell? (⟨b,1,none⟩)=some (.slice Ab base.length cb)/\w'.cell? (⟨w.heap.size,0,none⟩)=some (.int .u64 (s:Int))) (by kernel_rfl) ⟨xc hbz d1w,xc zlt z0⟩ (fun hHeld=> ?_);refine tk 0 hHeld ?_;refine tk 1 hHeld ?_;refine tk 2 hHeld ?_;refine tk 3 hHeld ?_;refine tk 4 hHeld ?_;refine tk 5 hHeld ?_;refine tk 6 hHeld ?_;refine wpAnyH_ready (rs:= [7]) (by kernel_rfl) (by simp) ?_;refine AllReadyH.cons rfl (fun K hK=> ?_) AllReadyH.nil;go_simp
 (go_at_call 84;refine(Jy Ab cb base s hset HLEN.out _).mono ?_;rintro e2 w2 ⟨rfl,rfl⟩;rw [HIN.out])
 go_wp2_with fail;refine hK.out _ _ ⟨xc hbz d1w,xc zlt z0⟩ (fun hHeld=> ?_);clear hK K;refine Qd ?_;refine tk 8 hHeld ?_;refine wpAnyH_done (by kernel_rfl) ?_ _;go_wp2_with fail;refine wp_region_held_drew (S:=fun w'=>w'.cell? (⟨w.heap.size,0,none⟩)=some (.int .u64 (s:Int))/\w'.cell? (⟨w.heap.size,2,none⟩)=some (.int .i64 on)/\w'.cell? (⟨b,1,none⟩)=some (.slice Ab base.length cb)) (by kernel_rfl) ⟨xc zlt z0,xc zlt z2,xc hbz d1w⟩ (fun hHeld=> ?_);refine tk 0 hHeld ?_;refine tk 1 hHeld ?_;refine tk 2 hHeld ?_;refine tk 3 hHeld ?_;refine tk 4 hHeld ?_;refine tk 5 hHeld ?_;refine tk 6 hHeld ?_;refine tk 7 hHeld ?_
 refine tk 8 hHeld ?_;refine tk 9 hHeld ?_;refine tk 10 hHeld ?_;refine tk 11 hHeld ?_;refine un 12 hHeld ?_;refine un 13 hHeld ?_;refine un 14 hHeld ?_;refine tk 15 hHeld ?_;refine tk 16 hHeld ?_;refine un 17 hHeld ?_;refine un 18 hHeld ?_;refine un 19 hHeld ?_;refine un 20 hHeld ?_;refine un 21 hHeld ?_;refine un 22 hHeld ?_;refine un 23 hHeld ?_;refine un 24 hHeld ?_;refine un 25 hHeld ?_;refine un 26 hHeld ?_;refine un 27 hHeld ?_;refine un 28 hHeld ?_;refine un 29 hHeld ?_;refine un 30 hHeld ?_;refine un 31 hHeld ?_;refine tk 32 hHeld ?_;refine tk 33 hHeld ?_;refine wpAnyH_done (by kernel_rfl) ?_ _
 go_wp2_with fail;go_ret;exact⟨by rw [HE.out] <;> rfl,X0.out.trans xw⟩
theorem Qb3 {w:World} {b:Nat} {lg:Int} {base:List Nd} {steps:List Stp} {opps:List Int}(h:Xy w b lg base steps opps)(hb:Zt base=0)(hol:opps.length<=64)(hoz:∀z∈opps,z < 64)(at_:Nat)(hat:at_ < steps.length)(s:Nat)(ru on e:Int)(fr:List Int)(hx:steps[at_]?=some ⟨s,ru,on,e,fr⟩)(hins:Kw base s=true)(hr:ru=7)(he:e=0)(hlg:¬(lg=1\/lg=5)):
 Calls Tryz.prog 56 #[.pointer (some ⟨b,0,none⟩),.int .i64 (at_:Int)] w fun e w'=>e=.returned (.bool (Qo lg base opps steps at_))/\Ext w w':=by
 obtain⟨ad,c,h1,h2,hblk,d2,hrow⟩:=h.rows (by intro e;rw [e]at hat;simp at hat);obtain⟨ur,q0,q1,q2,q3,q4,⟨Af,cf,rfl,_⟩,hset⟩:=hrow at_ _ hx;obtain⟨Ab,cb,As,cs,Ao,co,d0,d1,_,_,hF,_,_⟩:=h.cells;have hlen:1<=base.length/\base.length<=64:=⟨by have:=(Zk (Zx hb).1).1;omega,(Zx hb).2.1⟩;have HF:=Qq hF;have H:=Qq h;have HB:=Qq hb;have HAT:=Qq hat;have HLEN:=Qq hlen;have HX:=Qq hx;have HOL:=Qq hol;have HOZ:=Qq hoz;have hbw:=h.blt;have ha1:(at_:Int) < (steps.length:Int):=by omega
 have ha0:(0:Int)<=(at_:Int):=by omega
 simp only at q0 q1 q2 q3 q4 hset;clear h hx hrow hat hF hb hlen hol hoz;subst hr;have HIN:=Qq hins;clear hins;have HC:=Qq (show Qo lg base opps steps at_=bif e !=0 then false else((lg==1||lg==5)&&(decide (0<=on)&&(decide (on < 4)&&Ja steps at_ [Yn lg base s on]))) by unfold Qo Kh;simp only [Km HX.out,HIN.out];rfl);subst he;have b1:(lg==1)=false:=by rw [beq_eq_false_iff_ne];omega
 have b5:(lg==5)=false:=by clear b1;rw [beq_eq_false_iff_ne];omega
 have HE:=Qq (show Qo lg base opps steps at_=false by rw [HC.out];simp only [b1,b5];rfl);clear hlg;obtain⟨z0,z1,z2,z3,z4,zfr,zlt⟩:=Jp (heap_alloc_new w (.cells #[.int .u64 (s:Int),.int .i64 7,.int .i64 on,.int .i64 0,.slice Af fr.length cf] 66));have Z0:=Qq z0;have X0:=Qq ((Ext.refl w).alloc (.cells #[.int .u64 (s:Int),.int .i64 7,.int .i64 on,.int .i64 0,.slice Af fr.length cf] 66));have D1:=Qq d1;have ZLT:=Qq zlt;have HBW:=Qq hbw;have d1w:=(X0.out.cell (p:=⟨b,1,none⟩) hbw).trans d1;have hbz:b < (w.alloc (.cells #[.int .u64 (s:Int),.int .i64 7,.int .i64 on,.int .i64 0,.slice Af fr.length cf] 66)).heap.size:=Qy hbw X0.out.size
 go_enter Tryz.func56,Tryz.ntmps56;go_wp2_with fail;refine wp_region_held_drew (S:=fun w'=>w'.cell? (⟨b,1,none⟩)=some (.slice Ab base.length cb)/\w'.cell? (⟨w.heap.size,0,none⟩)=some (.int .u64 (s:Int))) (by kernel_rfl) ⟨xc hbz d1w,xc zlt z0⟩ (fun hHeld=> ?_);refine tk 0 hHeld ?_;refine tk 1 hHeld ?_;refine tk 2 hHeld ?_;refine tk 3 hHeld ?_;refine tk 4 hHeld ?_;refine tk 5 hHeld ?_;refine tk 6 hHeld ?_;refine wpAnyH_ready (rs:= [7]) (by kernel_rfl) (by simp) ?_;refine AllReadyH.cons rfl (fun K hK=> ?_) AllReadyH.nil;go_simp
 (go_at_call 84;refine(Jy Ab cb base s hset HLEN.out _).mono ?_;rintro e2 w2 ⟨rfl,rfl⟩;rw [HIN.out])
 go_wp2_with fail;refine hK.out _ _ ⟨xc hbz d1w,xc zlt z0⟩ (fun hHeld=> ?_);clear hK K;refine Qd ?_;refine tk 8 hHeld ?_;refine wpAnyH_done (by kernel_rfl) ?_ _;go_wp2_with fail;refine wp_region_held_drew (S:=fun w'=>w'.cell? (⟨w.heap.size,0,none⟩)=some (.int .u64 (s:Int))/\w'.cell? (⟨w.heap.size,2,none⟩)=some (.int .i64 on)/\w'.cell? (⟨b,1,none⟩)=some (.slice Ab base.length cb)) (by kernel_rfl) ⟨xc zlt z0,xc zlt z2,xc hbz d1w⟩ (fun hHeld=> ?_);refine tk 0 hHeld ?_;refine tk 1 hHeld ?_;refine tk 2 hHeld ?_;refine tk 3 hHeld ?_;refine tk 4 hHeld ?_;refine tk 5 hHeld ?_;refine tk 6 hHeld ?_;refine un 7 hHeld ?_
 refine un 8 hHeld ?_;refine un 9 hHeld ?_;refine tk 10 hHeld ?_;refine tk 11 hHeld ?_;refine un 12 hHeld ?_;refine un 13 hHeld ?_;refine un 14 hHeld ?_;refine tk 15 hHeld ?_;refine tk 16 hHeld ?_;refine un 17 hHeld ?_;refine un 18 hHeld ?_;refine un 19 hHeld ?_;refine un 20 hHeld ?_;refine un 21 hHeld ?_;refine un 22 hHeld ?_;refine un 23 hHeld ?_;refine un 24 hHeld ?_;refine un 25 hHeld ?_;refine un 26 hHeld ?_;refine un 27 hHeld ?_;refine un 28 hHeld ?_;refine un 29 hHeld ?_;refine un 30 hHeld ?_;refine un 31 hHeld ?_;refine tk 32 hHeld ?_;refine tk 33 hHeld ?_;refine wpAnyH_done (by kernel_rfl) ?_ _
 go_wp2_with fail;go_ret;exact⟨by rw [HE.out] <;> rfl,X0.out.trans xw⟩
theorem Qb2 {w:World} {b:Nat} {lg:Int} {base:List Nd} {steps:List Stp} {opps:List Int}(h:Xy w b lg base steps opps)(hb:Zt base=0)(hol:opps.length<=64)(hoz:∀z∈opps,z < 64)(at_:Nat)(hat:at_ < steps.length)(s:Nat)(ru on e:Int)(fr:List Int)(hx:steps[at_]?=some ⟨s,ru,on,e,fr⟩)(hins:Kw base s=true)(hr:ru=7)(he:e≠0):
 Calls Tryz.prog 56 #[.pointer (some ⟨b,0,none⟩),.int .i64 (at_:Int)] w fun e w'=>e=.returned (.bool (Qo lg base opps steps at_))/\Ext w w':=by
 obtain⟨ad,c,h1,h2,hblk,d2,hrow⟩:=h.rows (by intro e;rw [e]at hat;simp at hat);obtain⟨ur,q0,q1,q2,q3,q4,⟨Af,cf,rfl,_⟩,hset⟩:=hrow at_ _ hx;obtain⟨Ab,cb,As,cs,Ao,co,d0,d1,_,_,hF,_,_⟩:=h.cells;have hlen:1<=base.length/\base.length<=64:=⟨by have:=(Zk (Zx hb).1).1;omega,(Zx hb).2.1⟩;have HF:=Qq hF;have H:=Qq h;have HB:=Qq hb;have HAT:=Qq hat;have HLEN:=Qq hlen;have HX:=Qq hx;have HOL:=Qq hol;have HOZ:=Qq hoz;have hbw:=h.blt;have ha1:(at_:Int) < (steps.length:Int):=by omega
 have ha0:(0:Int)<=(at_:Int):=by omega
 simp only at q0 q1 q2 q3 q4 hset;clear h hx hrow hat hF hb hlen hol hoz;subst hr;have HIN:=Qq hins;clear hins;have HC:=Qq (show Qo lg base opps steps at_=bif e !=0 then false else((lg==1||lg==5)&&(decide (0<=on)&&(decide (on < 4)&&Ja steps at_ [Yn lg base s on]))) by unfold Qo Kh;simp only [Km HX.out,HIN.out];rfl);have he1:(e !=0)=true:=by simpa using he
 have he2:(e==0)=false:=by simpa using he
 clear he;obtain⟨z0,z1,z2,z3,z4,zfr,zlt⟩:=Jp (heap_alloc_new w (.cells #[.int .u64 (s:Int),.int .i64 7,.int .i64 on,.int .i64 e,.slice Af fr.length cf] 66));have Z0:=Qq z0;have X0:=Qq ((Ext.refl w).alloc (.cells #[.int .u64 (s:Int),.int .i64 7,.int .i64 on,.int .i64 e,.slice Af fr.length cf] 66));have D1:=Qq d1;have ZLT:=Qq zlt;have HBW:=Qq hbw;have d1w:=(X0.out.cell (p:=⟨b,1,none⟩) hbw).trans d1;have hbz:b < (w.alloc (.cells #[.int .u64 (s:Int),.int .i64 7,.int .i64 on,.int .i64 e,.slice Af fr.length cf] 66)).heap.size:=Qy hbw X0.out.size;go_enter Tryz.func56,Tryz.ntmps56;go_wp2_with fail
 refine wp_region_held_drew (S:=fun w'=>w'.cell? (⟨b,1,none⟩)=some (.slice Ab base.length cb)/\w'.cell? (⟨w.heap.size,0,none⟩)=some (.int .u64 (s:Int))) (by kernel_rfl) ⟨xc hbz d1w,xc zlt z0⟩ (fun hHeld=> ?_);refine tk 0 hHeld ?_;refine tk 1 hHeld ?_;refine tk 2 hHeld ?_;refine tk 3 hHeld ?_;refine tk 4 hHeld ?_;refine tk 5 hHeld ?_;refine tk 6 hHeld ?_;refine wpAnyH_ready (rs:= [7]) (by kernel_rfl) (by simp) ?_;refine AllReadyH.cons rfl (fun K hK=> ?_) AllReadyH.nil;go_simp
 (go_at_call 84;refine(Jy Ab cb base s hset HLEN.out _).mono ?_;rintro e2 w2 ⟨rfl,rfl⟩;rw [HIN.out])
 go_wp2_with fail;refine hK.out _ _ ⟨xc hbz d1w,xc zlt z0⟩ (fun hHeld=> ?_);clear hK K;refine Qd ?_;refine tk 8 hHeld ?_;refine wpAnyH_done (by kernel_rfl) ?_ _;go_wp2_with fail;have HE:=Qq (show Qo lg base opps steps at_=false by rw [HC.out];simp only [he1];rfl);go_ret;exact⟨by rw [HE.out] <;> rfl,(X0.out.trans xw)⟩
theorem Qv8 {w:World} {b:Nat} {lg:Int} {base:List Nd} {steps:List Stp} {opps:List Int}(h:Xy w b lg base steps opps)(hb:Zt base=0)(hol:opps.length<=64)(hoz:∀z∈opps,z < 64)(at_:Nat)(hat:at_ < steps.length)(s:Nat)(ru on e:Int)(fr:List Int)(hx:steps[at_]?=some ⟨s,ru,on,e,fr⟩)(hins:Kw base s=true)(hr:¬(ru=1\/ru=2\/ru=3\/ru=4\/ru=5\/ru=6\/ru=7)):
 Calls Tryz.prog 56 #[.pointer (some ⟨b,0,none⟩),.int .i64 (at_:Int)] w fun e w'=>e=.returned (.bool (Qo lg base opps steps at_))/\Ext w w':=by
 obtain⟨ad,c,h1,h2,hblk,d2,hrow⟩:=h.rows (by intro e;rw [e]at hat;simp at hat);obtain⟨ur,q0,q1,q2,q3,q4,⟨Af,cf,rfl,_⟩,hset⟩:=hrow at_ _ hx;obtain⟨Ab,cb,As,cs,Ao,co,d0,d1,_,_,hF,_,_⟩:=h.cells;have hlen:1<=base.length/\base.length<=64:=⟨by have:=(Zk (Zx hb).1).1;omega,(Zx hb).2.1⟩;have HF:=Qq hF;have H:=Qq h;have HB:=Qq hb;have HAT:=Qq hat;have HLEN:=Qq hlen;have HX:=Qq hx;have HOL:=Qq hol;have HOZ:=Qq hoz;have hbw:=h.blt;have ha1:(at_:Int) < (steps.length:Int):=by omega
 have ha0:(0:Int)<=(at_:Int):=by omega
 simp only at q0 q1 q2 q3 q4 hset;clear h hx hrow hat hF hb hlen hol hoz;have HIN:=Qq hins;clear hins;have r1:(ru==1)=false:=by rw [beq_eq_false_iff_ne];omega
 have r2:(ru==2)=false:=by clear r1;rw [beq_eq_false_iff_ne];omega
 have r3:(ru==3)=false:=by clear r1 r2;rw [beq_eq_false_iff_ne];omega
 have r4:(ru==4)=false:=by clear r1 r2 r3;rw [beq_eq_false_iff_ne];omega
 have r5:(ru==5)=false:=by clear r1 r2 r3 r4;rw [beq_eq_false_iff_ne];omega
 have r6:(ru==6)=false:=by clear r1 r2 r3 r4 r5;rw [beq_eq_false_iff_ne];omega
 have r7:(ru==7)=false:=by clear r1 r2 r3 r4 r5 r6;rw [beq_eq_false_iff_ne];omega
 clear hr;have HE:=Qq (show Qo lg base opps steps at_=false by unfold Qo;simp only [Km HX.out,HIN.out,r1,r2,r3,r4,r5,r6,r7];cases e !=0 <;> rfl);cases he:e==0
 ·skip
  have he2:(e !=0)=true:=by rw [bne,he];rfl
  obtain⟨z0,z1,z2,z3,z4,zfr,zlt⟩:=Jp (heap_alloc_new w (.cells #[.int .u64 (s:Int),.int .i64 ru,.int .i64 on,.int .i64 e,.slice Af fr.length cf] 66));have Z0:=Qq z0;have X0:=Qq ((Ext.refl w).alloc (.cells #[.int .u64 (s:Int),.int .i64 ru,.int .i64 on,.int .i64 e,.slice Af fr.length cf] 66));have D1:=Qq d1;have ZLT:=Qq zlt;have HBW:=Qq hbw;have d1w:=(X0.out.cell (p:=⟨b,1,none⟩) hbw).trans d1;have hbz:b < (w.alloc (.cells #[.int .u64 (s:Int),.int .i64 ru,.int .i64 on,.int .i64 e,.slice Af fr.length cf] 66)).heap.size:=Qy hbw X0.out.size;go_enter Tryz.func56,Tryz.ntmps56;go_wp2_with fail;refine wp_region_held_drew (S:=fun w'=>w'.cell? (⟨b,1,none⟩)=some (.slice Ab base.length cb)/\w'.cell? (⟨w.heap.size,0,none⟩)=some (.int .u64 (s:Int))) (by kernel_rfl) ⟨xc hbz d1w,xc zlt z0⟩ (fun hHeld=> ?_)
  refine tk 0 hHeld ?_;refine tk 1 hHeld ?_;refine tk 2 hHeld ?_;refine tk 3 hHeld ?_;refine tk 4 hHeld ?_;refine tk 5 hHeld ?_;refine tk 6 hHeld ?_;refine wpAnyH_ready (rs:= [7]) (by kernel_rfl) (by simp) ?_;refine AllReadyH.cons rfl (fun K hK=> ?_) AllReadyH.nil;go_simp
  (go_at_call 84;refine(Jy Ab cb base s hset HLEN.out _).mono ?_;rintro e2 w2 ⟨rfl,rfl⟩;rw [HIN.out])
  go_wp2_with fail;refine hK.out _ _ ⟨xc hbz d1w,xc zlt z0⟩ (fun hHeld=> ?_);clear hK K;refine Qd ?_;refine tk 8 hHeld ?_;refine wpAnyH_done (by kernel_rfl) ?_ _;go_wp2_with fail;go_ret;exact⟨by rw [HE.out] <;> rfl,X0.out.trans xw⟩
 skip
 have he2:(e !=0)=false:=by rw [bne,he];rfl
 obtain⟨z0,z1,z2,z3,z4,zfr,zlt⟩:=Jp (heap_alloc_new w (.cells #[.int .u64 (s:Int),.int .i64 ru,.int .i64 on,.int .i64 e,.slice Af fr.length cf] 66));have Z0:=Qq z0;have X0:=Qq ((Ext.refl w).alloc (.cells #[.int .u64 (s:Int),.int .i64 ru,.int .i64 on,.int .i64 e,.slice Af fr.length cf] 66));have D1:=Qq d1;have ZLT:=Qq zlt;have HBW:=Qq hbw;have d1w:=(X0.out.cell (p:=⟨b,1,none⟩) hbw).trans d1;have hbz:b < (w.alloc (.cells #[.int .u64 (s:Int),.int .i64 ru,.int .i64 on,.int .i64 e,.slice Af fr.length cf] 66)).heap.size:=Qy hbw X0.out.size;go_enter Tryz.func56,Tryz.ntmps56;go_wp2_with fail;refine wp_region_held_drew (S:=fun w'=>w'.cell? (⟨b,1,none⟩)=some (.slice Ab base.length cb)/\w'.cell? (⟨w.heap.size,0,none⟩)=some (.int .u64 (s:Int))) (by kernel_rfl) ⟨xc hbz d1w,xc zlt z0⟩ (fun hHeld=> ?_)
 refine tk 0 hHeld ?_;refine tk 1 hHeld ?_;refine tk 2 hHeld ?_;refine tk 3 hHeld ?_;refine tk 4 hHeld ?_;refine tk 5 hHeld ?_;refine tk 6 hHeld ?_;refine wpAnyH_ready (rs:= [7]) (by kernel_rfl) (by simp) ?_;refine AllReadyH.cons rfl (fun K hK=> ?_) AllReadyH.nil;go_simp
 (go_at_call 84;refine(Jy Ab cb base s hset HLEN.out _).mono ?_;rintro e2 w2 ⟨rfl,rfl⟩;rw [HIN.out])
 go_wp2_with fail;refine hK.out _ _ ⟨xc hbz d1w,xc zlt z0⟩ (fun hHeld=> ?_);clear hK K;refine Qd ?_;refine tk 8 hHeld ?_;refine wpAnyH_done (by kernel_rfl) ?_ _;go_wp2_with fail;go_ret;exact⟨by rw [HE.out] <;> rfl,X0.out.trans xw⟩
theorem Qxw {w:World} {b:Nat} {lg:Int} {base:List Nd} {steps:List Stp} {opps:List Int}(h:Xy w b lg base steps opps)(hb:Zt base=0)(hol:opps.length<=64)(hoz:∀z∈opps,z < 64)(at_:Nat)(hat:at_ < steps.length):
 Calls Tryz.prog 56 #[.pointer (some ⟨b,0,none⟩),.int .i64 (at_:Int)] w fun e w'=>e=.returned (.bool (Qo lg base opps steps at_))/\Ext w w':=by
 obtain⟨⟨s,ru,on,e,fr⟩,hx⟩:∃x,steps[at_]?=some x:=⟨_,Qv hat⟩;cases hins:Kw base s
 ·exact Qx0 h hb hol hoz at_ hat s ru on e fr hx hins
 by_cases hr:ru=1\/ru=2\/ru=3\/ru=4\/ru=5\/ru=6\/ru=7
 ·rcases hr with hr|hr|hr|hr|hr|hr|hr
  ·exact Qy4 h hb hol hoz at_ hat s ru on e fr hx hins hr
  ·exact Qgh h hb hol hoz at_ hat s ru on e fr hx hins hr
  ·exact Qds h hb hol hoz at_ hat s ru on e fr hx hins hr
  ·exact Qgb h hb hol hoz at_ hat s ru on e fr hx hins hr
  ·exact Qrl h hb hol hoz at_ hat s ru on e fr hx hins hr
  ·exact Qnn h hb hol hoz at_ hat s ru on e fr hx hins hr
  by_cases he:e=0
  ·by_cases h1:lg=1
   ·exact Qbv h hb hol hoz at_ hat s ru on e fr hx hins hr he h1
   by_cases h5:lg=5
   ·exact Qb6 h hb hol hoz at_ hat s ru on e fr hx hins hr he h5
   exact Qb3 h hb hol hoz at_ hat s ru on e fr hx hins hr he (by omega)
  exact Qb2 h hb hol hoz at_ hat s ru on e fr hx hins hr he
 exact Qv8 h hb hol hoz at_ hat s ru on e fr hx hins hr
theorem Qhb:(Tryz.prog.info? 3).map (fun i=>(i.zero,i.size,i.bytes))=some (some (.int .i64 0),1,8):=by kernel_rfl
theorem Qct {w:World} {b:Nat} {a0 a1 a2 a3:Value} {t:TypeId}(h:w.heap[b]?=some (.cells #[a0,a1,a2,a3] t (0,0)))(u:Value):(w.setCell ⟨b,3,none⟩ u).heap[b]?=some (.cells #[a0,a1,a2,u] t (0,0)):=by
 simp only [World.setCell,Array.getElem?_modify,h,if_true,Option.map_some];rfl
structure Brk (w1 w2 w3 wr:World) (C:Nat) (a0 a1 a2:Value) (vo:Value) (out:List Int):Prop where
 ext:Ext w1 wr
 mid:∀g,w2.heap.size<=g->g < w3.heap.size->wr.heap[g]?=w3.heap[g]?
 size:w3.heap.size<=wr.heap.size
 blk:wr.heap[C]?=some (.cells #[a0,a1,a2,vo] 100 (0,0))
 row:wr.ownsRow w3.heap.size 3 1 vo out.length (out.map (Value.int .i64))
section
variable {w1 w2 w3 wr:World} {C:Nat} {a0 a1 a2 vo:Value} {out:List Int}
theorem Brk.next {w4:World}(h:Brk w1 w2 w3 wr C a0 a1 a2 vo out)(he:Ext wr w4):Brk w1 w2 w3 w4 C a0 a1 a2 vo out :=
 ⟨h.ext.trans he,fun g h1 h2=>(he.block (Qy h2 h.size)).trans (h.mid g h1 h2),Qx h.size he.size,(he.block (Qm h.blk)).trans h.blk,Jt h.row he⟩
theorem Brk.push {w7:World} {v7:Value} {z:Int}(h:Brk w1 w2 w3 wr C a0 a1 a2 vo out)(hC1:w1.heap.size<=C)(hC2:C < w2.heap.size)(h23:w2.heap.size<=w3.heap.size)
 (hown:w7.ownsRow w3.heap.size 3 1 v7 (out.length+1) (out.map (Value.int .i64)++ [.int .i64 z]))(hg:wr.grownBy w7 vo.ownBlock):
 Brk w1 w2 w3 (w7.setCell ⟨C,3,none⟩ v7) C a0 a1 a2 v7 (out++ [z]):=by
 have hvo:∀g,vo.ownBlock=some g->w3.heap.size<=g:=fun g hg'=>(h.row.lt g hg').1
 have hkeep:∀g,g < w3.heap.size->w7.heap[g]?=wr.heap[g]?:=fun g h1=>hg.block g (Qy h1 h.size) (fun e=>by have:=hvo g e.symm;omega)
 have hv7:v7.ownBlock≠some C:=fun e=>by have:=(hown.lt C e).1;omega
 refine⟨(h.ext.grown hg (fun g hg'=>by have:=hvo g hg';omega)).setCell hC1 _,fun g h1 h2=> ?_,?_,?_,?_⟩
 ·rw [Below.heap_setCell _ _ _ _ (show g≠C by omega),hkeep g h2];exact h.mid g h1 h2
 ·have:(w7.setCell ⟨C,3,none⟩ v7).heap.size=w7.heap.size:=by simp [World.setCell]
  rw [this];exact Qx h.size hg.size
 ·exact Qct (((hkeep C (by omega)).trans h.blk)) v7
 have hr:w7.ownsRow w3.heap.size 3 1 v7 (out++ [z]).length ((out++ [z]).map (Value.int .i64)):=by
  rw [List.length_append,List.map_append];exact hown
 exact ownsRow_setCell_other (a:=⟨C,3,none⟩) hr hv7 _
theorem Ud.fmls_mid {vo:Value} {l:List (List Nd)}(h:Ud w2 w3 vo l) {a b c d:Value} {o:List Int}(hB:Brk w1 w2 w3 wr C a b c d o)(h12:w1.heap.size<=w2.heap.size):Rl wr vo l:=by
 have h2:Ud w1 wr vo l:=by
  obtain⟨us,hr,hu⟩:=h.row;refine⟨hB.ext,us,⟨hr.1,?_⟩,fun k s hk=> ?_⟩
  ·rcases hr.2 with h0|⟨g,cap,cur,e,h1,h2,h3,h4,h5,h6⟩
   ·exact .inl h0
   exact .inr ⟨g,cap,cur,e,Qx h12 h1,(hB.mid g h1 (Qm h2)).trans h2,h3,h4,h5,h6⟩
  obtain⟨u,a,b,c⟩:=hu k s hk;exact⟨u,a,⟨b.1.keepF (fun g hg _=>hB.mid g (c g hg).2.2 (c g hg).1) hB.size,b.2⟩,fun g hg=>⟨Qy (c g hg).1 hB.size,(c g hg).2.1,Qx h12 (c g hg).2.2⟩⟩
 exact h2.fmls
end
theorem Ax {base:List Nd} {k:Nat}(hk:k < base.length):(Kn base)[k]?=some (Zh base (k:Int)):=by
 unfold Kn;rw [List.getElem?_map,List.getElem?_range hk];rfl
theorem Rg(base:List Nd):(Kn base).length=base.length:=by unfold Kn;simp
theorem Qqc(base:List Nd):(Gc base).length=base.length:=by unfold Gc;rw [List.length_map,Rg]
theorem Qr7 {base:List Nd} {k:Nat}(hk:k < base.length):(Gc base).take (k+1)=(Gc base).take k++ [Pw (Kn base) (Ns (Zh base (k:Int)))]:=by
 refine Yr ?_;unfold Gc;rw [List.getElem?_map,Ax hk];rfl
theorem Ql4(l:List (List Nd))(g:List Nd):Pw l g < l.length\/Pw l g= -1:=by
 unfold Pw;cases h:l.findIdx? fun f=>decide (f=g)with
 |none=>exact Or.inr rfl
 |some j =>
  left;have:=(List.findIdx?_eq_some_iff_findIdx_eq.1 h).1;show(j:Int) < _;omega
theorem Qcx {base:List Nd}(hl:base.length<=64):∀z∈Gc base,z < 64:=by
 intro z hz;unfold Gc at hz;obtain⟨f,_,rfl⟩:=List.mem_map.1 hz;rcases Ql4 (Kn base) (Ns f)with h|h
 ·rw [Rg]at h;omega
 rw [h];decide
theorem Qa7 {w1 w2 w3 wr w7:World} {C:Nat} {a0 a1 a2 vo:Value} {out:List Int}(h:Brk w1 w2 w3 wr C a0 a1 a2 vo out)(h23:w2.heap.size<=w3.heap.size)(hC:C < w2.heap.size)(hg:wr.grownBy w7 vo.ownBlock):
 w7.heap[C]?=some (.cells #[a0,a1,a2,vo] 100 (0,0)):=
 (hg.block C (Qm h.blk) (fun e=>by have:=(h.row.lt C e.symm).1;omega)).trans h.blk
theorem Qz4 {w:World} {lg:Int} {vb vs:Value} {base:List Nd} {steps:List Stp}(hb:Fml w vb base)(hs:Sps w vs steps):
 Calls Tryz.prog 29 #[.agg #[.int .i64 lg,vb,vs]] w fun e w'=>e=.returned (.int .i64 (Gi lg base steps))/\Ext w w':=by
 have H:=Qq hb;have HS:=Qq hs;obtain⟨Ab,cb,rfl,_⟩:=Qg hb;obtain⟨As,cs,rfl,hs1,hs2,_⟩:=hs;unfold maxLen at hs2;clear hb;obtain⟨z0,z1,z2,_,zlt⟩:=Qv3 (heap_alloc_new w (.cells #[.int .i64 lg,.slice Ab base.length cb,.slice As steps.length cs] 38));have Z:=Qq (And.intro z0 (And.intro z1 z2));have ZLT:=Qq zlt;have X0:=Qq ((Ext.refl w).alloc (.cells #[.int .i64 lg,.slice Ab base.length cb,.slice As steps.length cs] 38));clear z0 z1 z2 zlt;by_cases hf:Xh lg base steps=0
 ·have HF:=Qq hf;obtain⟨hk1,hb1,hl1,hl2⟩:=Qmq.1 hf;have HBE:=Qq hb1;have hlen:=(Zx hb1).2.1;have HALL:=Qq (Zx hb1);have HBR:=Qq (show Gi lg base steps=Ng lg base (Gc base) steps steps.length 0 by unfold Gi;rw [hf];rfl);obtain⟨i3,hi3,hz30,hz31,hz32⟩:=info_parts Qhb;have eg:∀args w,(callFunc 55 args).run Tryz.prog w=.ok (.enter 55 args) w:=fun _ _=>rfl
  clear hf hk1 hb1;go_enter Tryz.func29,Tryz.ntmps29;go_wp2_with fail;refine(Le (lg:=lg) (H.out.ext X0.out) (HS.out.ext X0.out)).mono ?_;rintro e w1 ⟨rfl,hx⟩;rw [HF.out];have X1:=Qq (X0.out.trans hx);have XZ1:=Qq hx;have y0:=(hx.cell (p:=⟨w.heap.size,0,none⟩) ZLT.out).trans Z.out.1;have y1:=(hx.cell (p:=⟨w.heap.size,1,none⟩) ZLT.out).trans Z.out.2.1;have y2:=(hx.cell (p:=⟨w.heap.size,2,none⟩) ZLT.out).trans Z.out.2.2;have XC:=Qq ((Ext.refl w1).alloc (.cells #[.int .i64 lg,.slice Ab base.length cb,.slice As steps.length cs,.slice none 0 0] 100));have ylt:w.heap.size < w1.heap.size:=Qy ZLT.out hx.size
  have q1:=(XC.out.cell (p:=⟨w.heap.size,1,none⟩) ylt).trans y1;have YLT:=Qq ylt;have Y2:=Qq y2;clear hx;go_wp2_with fail;refine(Qkr _ base _ (H.out.ext (X1.out.trans XC.out)) (by omega)).mono ?_;rintro e w3 ⟨u4,rfl,hfr⟩;have HFR:=Qq hfr;have X3:=Qq (X1.out.trans (XC.out.trans hfr.ext));have HW23:=Qq (show(w1.alloc (.cells #[.int .i64 lg,.slice Ab base.length cb,.slice As steps.length cs,.slice none 0 0] 100)).heap.size<=w3.heap.size from hfr.ext.size)
  have HB0:=Qq (show Brk w1 (w1.alloc (.cells #[.int .i64 lg,.slice Ab base.length cb,.slice As steps.length cs,.slice none 0 0] 100)) w3 w3 w1.heap.size (.int .i64 lg) (.slice Ab base.length cb) (.slice As steps.length cs) (.slice none 0 0) []from
   ⟨XC.out.trans hfr.ext,fun _ _ _=>rfl,Nat.le_refl _,(hfr.ext.block (by simp)).trans (heap_alloc_new w1 (.cells #[.int .i64 lg,.slice Ab base.length cb,.slice As steps.length cs,.slice none 0 0] 100)),World.ownsRow_nil _ _ _ _⟩)
  obtain⟨A4,c4,hu4,_⟩:=hfr.fmls;rw [Rg]at hu4;subst hu4;clear hfr y0 y1 y2 q1 ylt;go_wp2_with fail;go_loopw [20] (fun vi wr=>∃k:Nat,vi=.int .i64 (k:Int)/\k<=base.length/\Hid (∃vo,Brk w1 (w1.alloc (.cells #[.int .i64 lg,.slice Ab base.length cb,.slice As steps.length cs,.slice none 0 0] 100)) w3 wr w1.heap.size (.int .i64 lg) (.slice Ab base.length cb) (.slice As steps.length cs) vo ((Gc base).take k))) (fun vi _=>base.length - (intOf vi).toNat)
  case atStart=>exact⟨0,rfl,Nat.zero_le _,Qq ⟨_,HB0.out⟩⟩
  case round =>
   obtain⟨k,rfl,hk,HREL⟩:=hrel;obtain⟨vo,hbk⟩:=HREL.out;obtain⟨Ao,co,hvo⟩:=Zq hbk.row;have hol:((Gc base).take k).length=k:=by rw [List.length_take,Qqc];omega
   obtain⟨out,hout⟩:∃out,out=(Gc base).take k:=⟨_,rfl⟩;rw [<-hout]at hbk hvo hol;subst hvo;have HBK:=Qq hbk;have HFM:=Qq (HFR.out.fmls_mid hbk (by simp));have HOUT:=Qq hout;clear HREL;by_cases hlt2:k < base.length
   ·have hk1:(k:Int) < (base.length:Int):=by omega
    have hk0:(0:Int)<=(k:Int):=by omega
    obtain⟨A',c',e',_,_,hread⟩:=HFM.out;injection e' with e1 e0 e2;subst e1 e2;clear e0;obtain⟨ad4,hA4,hblk4,hcell4⟩:=hread (by intro e;have:=Rg base;rw [e]at this;simp at this;omega);subst hA4;obtain⟨uk,huk,hfk⟩:=hcell4 k _ (Ax hlt2);have HFK:=Qq hfk;obtain⟨Ak,ck,rfl,_⟩:=Qg hfk;have hc3:out.length+1<=maxLen:=by unfold maxLen;omega
    have hc4:(out.length+1)*8<=140737488355328:=by omega
    have HSTEP:=Qq (Qr7 hlt2);have HLT:=Qq hlt2;clear hbk hread hcell4 hfk hout hol;go_wp2_with fail;refine(Qv6 _ (Zh base (k:Int)) _ HFK.out (Qcq HALL.out.1 HALL.out.2.2 HLT.out)).mono ?_;rintro e w5 ⟨ug,rfl,hx,hg⟩;obtain⟨Ag,cg,rfl,_⟩:=Qg hg;have X6:=Qq (show Ext wr (w5.alloc (.cells #[.slice Ag (Ns (Zh base (k:Int))).length cg] 31))from hx.alloc _);obtain⟨g0,glt⟩:=Qar (heap_alloc_new w5 (.cells #[.slice Ag (Ns (Zh base (k:Int))).length cg] 31));have G0:=Qq g0;have GLT:=Qq glt;have HG6:=Qq (hg.ext ((Ext.refl w5).alloc (.cells #[.slice Ag (Ns (Zh base (k:Int))).length cg] 31)))
    obtain⟨_,_,_,k36,_,klt6⟩:=Cj (HBK.out.next X6.out).blk;have C6:=Qq klt6;clear hx hg g0 glt;go_wp2_with fail;go_region_law (first|(go_simp;go_at_call 54;refine(Qd9 55 #[.pointer (some ⟨w5.heap.size,0,none⟩)] eg (fun t=>decide (t=(Ns (Zh base (k:Int))))) _ (Kn base) _ (by exact HFM.out.ext (Ext.trans X6.out (by repeat(first|exact Qz|assumption|apply Ext.alloc|apply Ext.drew)))) (fun W u s hW hs=>Qgf w5.heap.size u _ s _ W hs.1 (((Ext.trans (show Ext (w5.alloc (.cells #[.slice Ag (Ns (Zh base (k:Int))).length cg] 31)) _ from(by repeat(first|exact Qz|assumption|apply Ext.alloc|apply Ext.drew))) hW).cell (p:=⟨w5.heap.size,0,none⟩) GLT.out).trans G0.out) (HG6.out.ext (Ext.trans (show Ext (w5.alloc (.cells #[.slice Ag (Ns (Zh base (k:Int))).length cg] 31)) _ from(by repeat(first|exact Qz|assumption|apply Ext.alloc|apply Ext.drew))) hW)).1)).mono ?_;rintro e wc ⟨rfl,hmc⟩;have hxc:Ext (w5.alloc (.cells #[.slice Ag (Ns (Zh base (k:Int))).length cg] 31)) wc:=Ext.trans (by repeat(first|exact Qz|assumption|apply Ext.alloc|apply Ext.drew)) hmc;have k3c:=(hxc.cell (p:=⟨w1.heap.size,3,none⟩) C6.out).trans k36;have k3d:=((Ext.alloc hxc (.cells #[.int .i64 (Ct (fun t=>decide (t=(Ns (Zh base (k:Int))))) (Kn base))] 3)).cell (p:=⟨w1.heap.size,3,none⟩) C6.out).trans k36;clear hmc)|(refine Ka rfl (.tmp 30) (.tmp 34) 60 rfl w3.heap.size 3 i3 (.int .i64 0) 1 8 Tryz.underlying60 hi3 hz30 hz31 hz32 rfl (by decide) (.slice Ao out.length co) out.length (out.map (Value.int .i64)) (by simp [Act.eval]) (Jt HBK.out.row (Ext.trans X6.out (Ext.trans hxc (by repeat(first|exact Qz|assumption|apply Ext.alloc|apply Ext.drew))))) ⟨_,0,none⟩ 1 1 [.int .i64 (Ct (fun t=>decide (t=(Ns (Zh base (k:Int))))) (Kn base))] (by simp [Act.eval];rfl) rfl (by exact Yv _ _ _ (by simp)) (fun u hu=>by rw [List.mem_singleton.1 hu];rfl) hc3 hc4 (Qx HBK.out.size (Ext.size (Ext.trans X6.out (Ext.trans hxc (by repeat(first|exact Qz|assumption|apply Ext.alloc|apply Ext.drew)))))) ?_;intro v7 w7 hown7 hgrow7 hat7;have HB7:=Qq (Brk.push (HBK.out.next (Ext.trans X6.out (Ext.trans hxc (by repeat(first|exact Qz|assumption|apply Ext.alloc|apply Ext.drew))))) (Nat.le_refl _) (by simp) HW23.out hown7 hgrow7);have k37:=Qa7 (HBK.out.next (Ext.trans X6.out (Ext.trans hxc (by repeat(first|exact Qz|assumption|apply Ext.alloc|apply Ext.drew))))) HW23.out (by simp) hgrow7;obtain⟨y0,y1,y2,y3,yfr,ylt⟩:=Cj k37;obtain⟨A7,c7,hv7⟩:=Zq hown7;subst hv7;clear hown7 hgrow7 hat7 k37))
    all_goals
     go_wp2_with fail;go_roundw
     case rel=>exact⟨k+1,by go_num,by omega,Qq ⟨_,by rw [HSTEP.out,<-HOUT.out];exact HB7.out⟩⟩
     case measure=>simp [intOf];omega
   obtain rfl:base.length=k:=by omega
   have HSC:=Qq (show Xy wr w1.heap.size lg base steps (Gc base)from by
    have e:out=Gc base:=by rw [hout,List.take_of_length_le (by rw [Qqc];omega)]
    rw [e]at hbk;exact⟨_,_,_,hbk.blk,H.out.ext (X1.out.trans hbk.ext),HS.out.ext (X1.out.trans hbk.ext),Tq hbk.row⟩)
   have XR:=Qq (X1.out.trans hbk.ext);have y2:=(hbk.ext.cell (p:=⟨w.heap.size,2,none⟩) YLT.out).trans Y2.out;clear hbk hout hol;go_wp2_with fail;go_loopw [42] (fun vi wq=>∃i:Nat,vi=.int .i64 (i:Int)/\i<=steps.length/\Hid (Gi lg base steps=Ng lg base (Gc base) steps (steps.length - i) i)/\Hid (Ext wr wq)) (fun vi _=>steps.length - (intOf vi).toNat)
   case atStart=>exact⟨0,rfl,Nat.zero_le _,Qq (by rw [HBR.out];rfl),Qq Qz⟩
   case round =>
    obtain⟨i,rfl,hi,HGO,HXQ⟩:=hrel;by_cases hlt3:i < steps.length
    ·have hi1:(i:Int) < (steps.length:Int):=by omega
     have HGO2:=Qq (show Gi lg base steps=bif Qo lg base (Gc base) steps i then Ng lg base (Gc base) steps (steps.length - (i+1)) (i+1)else i by
      rw [HGO.out,show steps.length - i=steps.length - (i+1)+1 by omega,Ng])
     have HI:=Qq hlt3;go_wp2_with fail;refine(Qxw (HSC.out.ext HXQ.out) HBE.out (by rw [Qqc];exact HALL.out.2.1) (Qcx HALL.out.2.1) i HI.out).mono ?_;rintro e w8 ⟨rfl,hx⟩;have HX8:=Qq (HXQ.out.trans hx);clear hx;cases hc:Qo lg base (Gc base) steps i
     ·have HE:=Qq (show Gi lg base steps=(i:Int) by rw [HGO2.out,hc];rfl);go_wp2_with fail;go_ret;exact⟨by rw [HE.out] <;> rfl,XR.out.trans HX8.out⟩
     have HE:=Qq (show Gi lg base steps=Ng lg base (Gc base) steps (steps.length - (i+1)) (i+1) by rw [HGO2.out,hc];rfl);go_wp2_with fail;go_roundw
     case rel=>exact⟨i+1,by go_num,by omega,HE,HX8⟩
     case measure=>simp [intOf];omega
    obtain rfl:steps.length=i:=by omega
    have HE:=Qq (show Gi lg base steps= -1 by rw [HGO.out,Nat.sub_self];rfl);go_wp2_with fail;go_ret;exact⟨by rw [HE.out] <;> rfl,XR.out.trans HXQ.out⟩
 have hf1:(Xh lg base steps !=0)=true:=by simpa using hf
 have hf2:(Xh lg base steps==0)=false:=by simpa using hf
 have HE:=Qq (show Gi lg base steps= -1 by unfold Gi;rw [hf1];rfl);clear hf;go_enter Tryz.func29,Tryz.ntmps29;go_wp2_with fail;refine(Le (lg:=lg) (H.out.ext X0.out) (HS.out.ext X0.out)).mono ?_;rintro e w1 ⟨rfl,hx⟩;have X1:=Qq (X0.out.trans hx);clear hx;go_wp2_with fail;go_ret;exact⟨by rw [HE.out] <;> rfl,X1.out⟩
theorem Qb9 {w:World} {lg:Int} {vb vs:Value} {base:List Nd} {steps:List Stp}(hb:Fml w vb base)(hs:Sps w vs steps):
 Calls Tryz.prog 11 #[.agg #[.int .i64 lg,vb,vs]] w fun e w'=>e=.returned (.int .i64 (Do lg base steps))/\Ext w w':=by
 have H:=Qq hb;have HS:=Qq hs;obtain⟨Ab,cb,rfl,_⟩:=Qg hb;obtain⟨As,cs,rfl,hs1,hs2,hsr⟩:=hs;unfold maxLen at hs2;have HSR:=Qq hsr;clear hb hsr;obtain⟨z0,z1,z2,_,zlt⟩:=Qv3 (heap_alloc_new w (.cells #[.int .i64 lg,.slice Ab base.length cb,.slice As steps.length cs] 38));have Z:=Qq (And.intro z0 (And.intro z1 z2));have ZLT:=Qq zlt;have X0:=Qq ((Ext.refl w).alloc (.cells #[.int .i64 lg,.slice Ab base.length cb,.slice As steps.length cs] 38));clear z0 z1 z2 zlt;by_cases hf:Xh lg base steps=0
 ·have HF:=Qq hf;have hfb:(Xh lg base steps !=0)=false:=by rw [hf];rfl
  by_cases hg:0<=Gi lg base steps
  ·have HE:=Qq (show Do lg base steps=13 by unfold Do;rw [hfb,decide_eq_true hg];rfl);clear hf hfb;go_enter Tryz.func11,Tryz.ntmps11;go_wp2_with fail;refine(Le (lg:=lg) (H.out.ext X0.out) (HS.out.ext X0.out)).mono ?_;rintro e w1 ⟨rfl,hx⟩;rw [HF.out];have X1:=Qq (X0.out.trans hx);have y0:=(hx.cell (p:=⟨w.heap.size,0,none⟩) ZLT.out).trans Z.out.1;have y1:=(hx.cell (p:=⟨w.heap.size,1,none⟩) ZLT.out).trans Z.out.2.1;have y2:=(hx.cell (p:=⟨w.heap.size,2,none⟩) ZLT.out).trans Z.out.2.2;clear hx;go_wp2_with fail;refine(Qz4 (lg:=lg) (H.out.ext X1.out) (HS.out.ext X1.out)).mono ?_;rintro e w2 ⟨rfl,hx⟩
   have X2:=Qq (X1.out.trans hx);clear hx;go_wp2_with fail;go_ret;exact⟨by rw [HE.out] <;> rfl,X2.out⟩
  have HE:=Qq (show Do lg base steps=0 by unfold Do;rw [hfb,decide_eq_false hg];rfl);have hgd:decide (0<=Gi lg base steps)=false:=decide_eq_false hg;clear hf hfb;go_enter Tryz.func11,Tryz.ntmps11;go_wp2_with fail;refine(Le (lg:=lg) (H.out.ext X0.out) (HS.out.ext X0.out)).mono ?_;rintro e w1 ⟨rfl,hx⟩;rw [HF.out];have X1:=Qq (X0.out.trans hx);have y0:=(hx.cell (p:=⟨w.heap.size,0,none⟩) ZLT.out).trans Z.out.1;have y1:=(hx.cell (p:=⟨w.heap.size,1,none⟩) ZLT.out).trans Z.out.2.1;have y2:=(hx.cell (p:=⟨w.heap.size,2,none⟩) ZLT.out).trans Z.out.2.2;clear hx;go_wp2_with fail;refine(Qz4 (lg:=lg) (H.out.ext X1.out) (HS.out.ext X1.out)).mono ?_
  rintro e w2 ⟨rfl,hx⟩;have X2:=Qq (X1.out.trans hx);clear hx;go_wp2_with fail;go_ret;exact⟨by rw [HE.out] <;> rfl,X2.out⟩
 have hf1:(Xh lg base steps !=0)=true:=by simpa using hf
 have hf2:(Xh lg base steps==0)=false:=by simpa using hf
 have HE:=Qq (show Do lg base steps=Xh lg base steps by unfold Do;rw [hf1];rfl);clear hf;go_enter Tryz.func11,Tryz.ntmps11;go_wp2_with fail;refine(Le (lg:=lg) (H.out.ext X0.out) (HS.out.ext X0.out)).mono ?_;rintro e w1 ⟨rfl,hx⟩;have X1:=Qq (X0.out.trans hx);clear hx;go_wp2_with fail;go_ret;exact⟨by rw [HE.out] <;> rfl,X1.out⟩
structure Qks (w3 w:World) (vo:Value) (out:List (List Nd)):Prop where
 ext:Ext w3 w
 row:∃us,w.ownsRow w3.heap.size 31 1 vo out.length us/\∀(k:Nat) (s:List Nd),out[k]?=some s->∃u,us[k]?=some u/\Fml w3 u s
theorem Qks.fmls {w0 w:World} {vo:Value} {out:List (List Nd)}(h:Qks w0 w vo out):Rl w vo out:=by
 obtain⟨ss,hs,hv⟩:=h.row;by_cases h0:0 < out.length
 ·obtain⟨g,cap,rfl,hg,h1,h2,hc⟩:=Oh hs h0;refine⟨_,cap,rfl,h1,h2,fun _=>⟨_,rfl,hg,fun k f hk=> ?_⟩⟩;obtain⟨u,a,b⟩:=hv k f hk;exact⟨u,by rw [Xs];exact hc k u a,b.ext h.ext⟩
 have e:out= []:=List.length_eq_zero_iff.1 (by omega);subst e;rcases hs.2 with⟨e,_⟩|⟨g,cap,cur,e,_,_,hn,hm,_⟩
 ·subst e;exact⟨none,0,rfl,Nat.le_refl _,by unfold maxLen;omega,fun h=>absurd rfl h⟩
 subst e;exact⟨_,_,rfl,Nat.zero_le _,hm,fun h=>absurd rfl h⟩
theorem Qks.push {w3 W w7:World} {vo v7 x:Value} {out:List (List Nd)} {s:List Nd} {us:List Value}(h:Qks w3 W vo out)(hs:W.ownsRow w3.heap.size 31 1 vo out.length us)(hu:∀(k:Nat) (s:List Nd),out[k]?=some s->∃u,us[k]?=some u/\Fml w3 u s)
 (hown:w7.ownsRow w3.heap.size 31 1 v7 (out.length+1) (us++ [x]))(hg:W.grownBy w7 vo.ownBlock)(hx:Fml w3 x s):Qks w3 w7 v7 (out++ [s]):=by
 have hlen:us.length=out.length:=by simpa using hs.1
 refine⟨h.ext.grown hg (fun g hg'=>(hs.lt g hg').1),us++ [x],by rw [List.length_append];exact hown,fun k s' hk=> ?_⟩;by_cases hk':k < out.length
 ·rw [List.getElem?_append_left hk']at hk;obtain⟨u,a,b⟩:=hu k s' hk;exact⟨u,by rw [List.getElem?_append_left (by omega)];exact a,b⟩
 rw [List.getElem?_append_right (by omega)]at hk;have hk0:k=out.length:=by
  by_cases e:k - out.length=0
  ·omega
  rw [List.getElem?_eq_none (by simp;omega)]at hk;cases hk
 subst hk0;simp at hk;subst hk;exact⟨x,by rw [List.getElem?_append_right (by omega),hlen];simp,hx⟩
def Qw3(base:List Nd)(s k:Nat):List (List Nd):=((List.range k).filter fun(i:Nat)=>inS s i).map fun(i:Nat)=>Zh base i
end Go.Proofs.YtmidgcldljfkcaaGreatDoor
