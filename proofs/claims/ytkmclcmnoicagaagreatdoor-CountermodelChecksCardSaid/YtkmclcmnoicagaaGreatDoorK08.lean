/- bits.TrailingZeros64; the points of a word as an iterator. -/
import Derived.Test.YtkmclcmnoicagaaGreatDoorK07
import Derived.RangeFuncBox
import Derived.Shelf.Abstract
import Derived.OwnWalkIn
import Derived.TacticsInMore
import Derived.LoopNIn
import Derived.LoopIn
namespace Go.Proofs.YtkmclcmnoicagaaGreatDoor
set_option maxRecDepth 100000
set_option maxHeartbeats 128000000
open Go.RowKit
attribute [local go_sem] Oper.semAt_some
def Qz7:List Nat:= [0,1,56,2,57,49,28,3,61,58,42,50,38,29,17,4,62,47,59,36,45,43,51,22,53,39,33,30,24,18,12,5,63,55,48,27,60,41,37,16,46,35,44,21,52,32,23,11,54,26,40,15,34,20,31,10,25,14,19,9,13,8,7,6]
structure Ky (w:World):Prop where
 at_:∀j,j < 64->w.cell? ⟨0,j,none⟩=some (.int .u8 ((Qz7.getD j 0:Nat):Int))
 pos:0 < w.heap.size
theorem Ky.ext {w w':World}(h:Ky w)(he:Ext w w'):Ky w' :=
 ⟨fun j hj=>(he.cell (p:=⟨0,j,none⟩) h.pos).trans (h.at_ j hj),Qy h.pos he.size⟩
theorem Ky.of_block {w w':World}(h:Ky w)(hs:w.heap.size<=w'.heap.size)(hb:w'.heap[0]?=w.heap[0]?):Ky w' :=
 ⟨fun j hj=>(World.cell?_of_block (a:=⟨0,j,none⟩) hb).trans (h.at_ j hj),Qy h.pos hs⟩
theorem Ky.below {n:Nat} {w w':World}(h:Ky w)(he:Go.RowKit.Below n w w')(hn:0 < n):Ky w' :=
 ⟨fun j hj=>(he.cell (p:=⟨0,j,none⟩) hn).trans (h.at_ j hj),Qy h.pos he.size⟩
def Qz6(k:Nat):Nat:=2^k*285870213051353865 % 18446744073709551616 / 288230376151711744
theorem Zyb:∀k:Fin 64,Qz6 k.val < 64/\Qz7.getD (Qz6 k.val) 0=k.val:=by decide+kernel
theorem Zqg {z:Int} {m:Nat}(h:z=(m:Int)):IntKind.u64.wrap z=((m % 18446744073709551616:Nat):Int):=by
 rw [IntKind.wrap_u64,h];omega
theorem Qif {s:Nat}(hs:Qp s)(h0:s≠0):IntKind.u64.wrap (-(s:Int))=((18446744073709551616 - s:Nat):Int):=by
 rw [IntKind.wrap_u64];unfold Qp at hs;omega
theorem Qnv(s:Nat)(hs:Qp s)(h0:s≠0)(w:World)(hT:Ky w):Calls Tryz.prog 151 #[.int .u64 (s:Int)] w fun e w'=>e=.returned (.int .i64 (Be s:Int))/\w'=w:=by
 obtain⟨k,hk⟩:∃k,k=Be s:=⟨_,rfl⟩;have h1:((s:Int)==0)=false:=by rw [beq_eq_false_iff_ne];omega
 have h2:=Qif hs h0;have vF:=(Cn hs h0).1;have h3:bits .and .u64 (s:Int) ((18446744073709551616 - s:Nat):Int)=((2^k:Nat):Int):=by
  rw [Xz hs (by unfold Qp at hs⊢;omega),Qig hs h0,hk]
 rw [<-hk]at vF⊢;obtain⟨d1,d2⟩:=Zyb ⟨k,vF⟩;have hc:=hT.at_ _ d1;have hp:=hT.pos;rw [d2]at hc;have h4:IntKind.u64.wrap ((2:Int)^k*285870213051353865) / 288230376151711744=((Qz6 k:Nat):Int):=by
  rw [Zqg (m:=2^k*285870213051353865) (by rw [Int.natCast_mul,Int.natCast_pow];rfl)];unfold Qz6;rfl
 have d3:(Qz6 k:Int) < 64:=Int.ofNat_lt.2 d1;obtain⟨ix,mL⟩:∃ix,ix=Qz6 k:=⟨_,rfl⟩;rw [<-mL]at hc h4 d1 d3;clear hk hs h0 hT d2 mL;go_enter Tryz.func151,Tryz.ntmps151;go_wp2_with fail;go_ret;exact⟨rfl,rfl⟩
theorem Qk4(s:Nat)(w:World):Calls Tryz.prog 176 #[.int .u64 (s:Int)] w fun e w'=>e=.returned (.func (.func 206) #[] #[.pointer (some ⟨w.heap.size,0,none⟩)])/\w'=w.alloc (.cells #[.int .u64 (s:Int)] 41):=by
 go_enter Tryz.func176,Tryz.ntmps176;go_wp2_with fail;go_ret;exact⟨rfl,rfl⟩
theorem Ky.set {w:World}(h:Ky w) {B:Nat}(hB:0 < B)(v:Value):Ky (w.setCell ⟨B,0,none⟩ v):=
 h.below ((Below.refl (0+1) w).setCell (p:=⟨B,0,none⟩) hB v) (by omega)
def Qt9(B:Nat)(w:World):Nat:=match w.cell? ⟨B,0,none⟩with|some (.int _ z)=>z.toNat|_=>0
theorem Qdj {B t:Nat} {w:World}(h:Boxed w B 41 (.int .u64 (t:Int))):Qt9 B w=t:=by
 unfold Qt9;rw [h.cell];rfl
theorem Qsk(n B s:Nat)(w:World)(hs:Qp s)(hT:Ky w)(OL:0 < B)(hb:Boxed w B 41 (.int .u64 (s:Int))):
 Zzv Tryz.prog n 206 #[.pointer (some ⟨B,0,none⟩)] (fun x:Nat=> #[.int .i64 (x:Int)]) B (Jy s) w:=by
 intro l J Jx W hW hJ hJx hY h0;have E3:Boxed W B 41 (.int .u64 (s:Int)):=(hW.block B hb.lt).trans hb;have E9:=Qq (hT.ext hW);have HY:=Qq hY;have HJ:=Qq hJ;have HS:=Qq hs;clear hs hW hb hT hY hJ;refine callsIn_of_wp Tryz.func206 rfl trivial ?_ rfl;simp only [Tryz.ntmps206,List.size_toArray,List.length_cons,List.length_nil,Nat.reduceAdd,Nat.reduceSub,Array.replicate_succ,Array.replicate_zero,List.push_toArray,List.append_toArray,List.nil_append,List.cons_append]
 gi_wp2
 gi_loopw [] (fun wr=>∃(t:Nat) (pre:List Nat),Hid (Boxed wr B 41 (.int .u64 (t:Int))/\Qp t/\pre++Jy t=Jy s/\J pre wr/\Ky wr)) (fun wr=>Qt9 B wr)
 case atStart=>exact⟨s,[],Qq ⟨E3,HS.out,rfl,h0,E9.out⟩⟩
 case round =>
  obtain⟨t,pre,HR⟩:=hrel;have hc:=HR.out.1.cell;have hf:=HR.out.1.frozen;by_cases hz:t=0
  ·subst hz
   gi_wp2
   go_end0;exact⟨⟨_,rfl⟩,.inl (by have h1:=HR.out.2.2.1;rw [Qdh,List.append_nil]at h1;rw [<-h1];exact HR.out.2.2.2.1)⟩
  have sJ:((t:Int) !=0)=true:=by simpa using hz
  have HW:=Qq HR.out.2.1;have pP:=Qq (Qdc HR.out.2.1 hz);have HNZ:=Qq hz;have VN:=Qq (show Qp (t&&&(t - 1))from Qy (Qj4 hz) (Nat.le_of_lt HR.out.2.1));have TC:IntKind.u64.wrap ((t:Int) - 1)=((t - 1:Nat):Int):=by
   have:=HW.out;rw [IntKind.wrap_u64];unfold Qp at this;omega
  have xZ:bits .and .u64 (t:Int) ((t - 1:Nat):Int)=((t&&&(t - 1):Nat):Int):=Xz HW.out (by have:=HW.out;unfold Qp at this⊢;omega);have zA:=Qq (show(pre++ [Be t])++Jy (t&&&(t - 1))=Jy s by
   rw [List.append_assoc,List.singleton_append,<-pP.out];exact HR.out.2.2.1)
  obtain⟨x,hx⟩:∃x,x=Be t:=⟨_,rfl⟩;have VQ:=Qq (fun w (hT:Ky w)=>Qnv t HW.out hz w hT);rw [<-hx]at zA VQ;obtain⟨fn,tmps,assign,body,hy,F0⟩:=HY.out pre x wr HR.out.2.2.2.1 ⟨_,zA.out⟩;obtain⟨t2,CB⟩:∃z,z=t&&&(t - 1):=⟨_,rfl⟩;have fS:=Qq (show t2 < t by rw [CB];exact Qj4 hz);rw [<-CB]at xZ zA VN;clear hz hx CB
  gi_wp2_with (refine⟨trivial,fun h=>(by cases h),?_⟩;gi_at_call 151;refine(callsIn_wide.2 (VQ.out _ HR.out.2.2.2.2)).mono ?_;rintro e w5 ⟨rfl,rfl⟩)
  refine⟨fun h=>(by cases h),F0.mono ?_⟩;rintro e W3 (⟨rfl,G0,nH⟩|⟨rfl,EY⟩)
  ·have qB:=Qq (show Boxed W3 B 41 (.int .u64 (t:Int))from nH.blk.trans HR.out.1);have VT:=Qq (HR.out.2.2.2.2.of_block nH.size nH.tab);have hc:=qB.out.cell;have hf:=qB.out.frozen
   gi_wp2
   go_roundw
   case rel=>exact⟨t2,pre++ [x],Qq ⟨qB.out.set _,VN.out,zA.out,HJ.out _ _ _ G0 (grownBy_setCell' _ _ _),VT.out.set OL _⟩⟩
   case measure=>rw [Qdj (qB.out.set _),Qdj HR.out.1];exact fS.out
  gi_wp2
  refine bodyPost_ret (results_none rfl _ _ _) rfl ?_;exact⟨⟨_,rfl⟩,.inr ⟨_,EY⟩⟩
end Go.Proofs.YtkmclcmnoicagaaGreatDoor
