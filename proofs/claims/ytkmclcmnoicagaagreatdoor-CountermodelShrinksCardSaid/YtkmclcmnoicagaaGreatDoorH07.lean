/- bits.TrailingZeros64; the points of a word as an iterator. -/
import Derived.Test.YtkmclcmnoicagaaGreatDoorH06
import Derived.RangeFuncBox
import Derived.Shelf.Abstract
import Derived.OwnWalkIn
import Derived.TacticsInMore
import Derived.LoopNIn
import Derived.LoopIn
namespace Go.Proofs.YtkmclcmnoicagaaGreatDoor
set_option maxRecDepth 100000
set_option maxHeartbeats 128000000
open Go.RowKit
attribute [local go_sem] Oper.semAt_some
def Qyt:List Nat:= [0,1,56,2,57,49,28,3,61,58,42,50,38,29,17,4,62,47,59,36,45,43,51,22,53,39,33,30,24,18,12,5,63,55,48,27,60,41,37,16,46,35,44,21,52,32,23,11,54,26,40,15,34,20,31,10,25,14,19,9,13,8,7,6]
structure Kb (w:World):Prop where
 at_:∀j,j < 64->w.cell? ⟨0,j,none⟩=some (.int .u8 ((Qyt.getD j 0:Nat):Int))
 pos:0 < w.heap.size
theorem Kb.ext {w w':World}(h:Kb w)(he:Qg w w'):Kb w' :=
 ⟨fun j hj=>(he.cell (p:=⟨0,j,none⟩) h.pos).trans (h.at_ j hj),Qy h.pos he.size⟩
theorem Kb.of_block {w w':World}(h:Kb w)(hs:w.heap.size<=w'.heap.size)(hb:w'.heap[0]?=w.heap[0]?):Kb w' :=
 ⟨fun j hj=>(World.cell?_of_block (a:=⟨0,j,none⟩) hb).trans (h.at_ j hj),Qy h.pos hs⟩
theorem Kb.below {n:Nat} {w w':World}(h:Kb w)(he:Go.RowKit.Below n w w')(hn:0 < n):Kb w' :=
 ⟨fun j hj=>(he.cell (p:=⟨0,j,none⟩) hn).trans (h.at_ j hj),Qy h.pos he.size⟩
def Qys(k:Nat):Nat:=2^k*285870213051353865 % 18446744073709551616 / 288230376151711744
theorem Zv1:∀k:Fin 64,Qys k.val < 64/\Qyt.getD (Qys k.val) 0=k.val:=by decide+kernel
theorem Zzi {z:Int} {m:Nat}(h:z=(m:Int)):IntKind.u64.wrap z=((m % 18446744073709551616:Nat):Int):=by
 rw [IntKind.wrap_u64,h];omega
theorem Zq0 {s:Nat}(hs:Qm s)(h0:s≠0):IntKind.u64.wrap (-(s:Int))=((18446744073709551616 - s:Nat):Int):=by
 rw [IntKind.wrap_u64];unfold Qm at hs;omega
theorem Qrg(s:Nat)(hs:Qm s)(h0:s≠0)(w:World)(hT:Kb w):Calls Tryz.prog 151 #[.int .u64 (s:Int)] w fun e w'=>e=.returned (.int .i64 (Dt s:Int))/\w'=w:=by
 obtain⟨k,hk⟩:∃k,k=Dt s:=⟨_,rfl⟩;have h1:((s:Int)==0)=false:=by rw [beq_eq_false_iff_ne];omega
 have h2:=Zq0 hs h0;have wI:=(Eb hs h0).1;have h3:bits .and .u64 (s:Int) ((18446744073709551616 - s:Nat):Int)=((2^k:Nat):Int):=by
  rw [Xk hs (by unfold Qm at hs⊢;omega),Zqi hs h0,hk]
 rw [<-hk]at wI⊢;obtain⟨d1,d2⟩:=Zv1 ⟨k,wI⟩;have hc:=hT.at_ _ d1;have hp:=hT.pos;rw [d2]at hc;have h4:IntKind.u64.wrap ((2:Int)^k*285870213051353865) / 288230376151711744=((Qys k:Nat):Int):=by
  rw [Zzi (m:=2^k*285870213051353865) (by rw [Int.natCast_mul,Int.natCast_pow];rfl)];unfold Qys;rfl
 have d3:(Qys k:Int) < 64:=Int.ofNat_lt.2 d1;obtain⟨ix,lT⟩:∃ix,ix=Qys k:=⟨_,rfl⟩;rw [<-lT]at hc h4 d1 d3;clear hk hs h0 hT d2 lT;go_enter Tryz.func151,Tryz.ntmps151;go_wp2_with fail;go_ret;exact⟨rfl,rfl⟩
theorem Qx5(s:Nat)(w:World):Calls Tryz.prog 176 #[.int .u64 (s:Int)] w fun e w'=>e=.returned (.func (.func 206) #[] #[.pointer (some ⟨w.heap.size,0,none⟩)])/\w'=w.alloc (.cells #[.int .u64 (s:Int)] 41):=by
 go_enter Tryz.func176,Tryz.ntmps176;go_wp2_with fail;go_ret;exact⟨rfl,rfl⟩
theorem Kb.set {w:World}(h:Kb w) {B:Nat}(hB:0 < B)(v:Value):Kb (w.setCell ⟨B,0,none⟩ v):=
 h.below ((Below.refl (0+1) w).setCell (p:=⟨B,0,none⟩) hB v) (by omega)
def Qmj(B:Nat)(w:World):Nat:=match w.cell? ⟨B,0,none⟩with|some (.int _ z)=>z.toNat|_=>0
theorem Qnv {B t:Nat} {w:World}(h:Boxed w B 41 (.int .u64 (t:Int))):Qmj B w=t:=by
 unfold Qmj;rw [h.cell];rfl
theorem Qtf(n B s:Nat)(w:World)(hs:Qm s)(hT:Kb w)(NC:0 < B)(hb:Boxed w B 41 (.int .u64 (s:Int))):
 Zje Tryz.prog n 206 #[.pointer (some ⟨B,0,none⟩)] (fun x:Nat=> #[.int .i64 (x:Int)]) B (Za s) w:=by
 intro l J Jx W hW hJ hJx hY h0;have hbW:Boxed W B 41 (.int .u64 (s:Int)):=(hW.block B hb.lt).trans hb;have hTW:=Qq (hT.ext hW);have HY:=Qq hY;have HJ:=Qq hJ;have HS:=Qq hs;clear hs hW hb hT hY hJ;refine callsIn_of_wp Tryz.func206 rfl trivial ?_ rfl;simp only [Tryz.ntmps206,List.size_toArray,List.length_cons,List.length_nil,Nat.reduceAdd,Nat.reduceSub,Array.replicate_succ,Array.replicate_zero,List.push_toArray,List.append_toArray,List.nil_append,List.cons_append]
 gi_wp2
 gi_loopw [] (fun wr=>∃(t:Nat) (pre:List Nat),Hid (Boxed wr B 41 (.int .u64 (t:Int))/\Qm t/\pre++Za t=Za s/\J pre wr/\Kb wr)) (fun wr=>Qmj B wr)
 case atStart=>exact⟨s,[],Qq ⟨hbW,HS.out,rfl,h0,hTW.out⟩⟩
 case round =>
  obtain⟨t,pre,HR⟩:=hrel;have hc:=HR.out.1.cell;have hf:=HR.out.1.frozen;by_cases hz:t=0
  ·subst hz
   gi_wp2
   go_end0;exact⟨⟨_,rfl⟩,.inl (by have h1:=HR.out.2.2.1;rw [Qne,List.append_nil]at h1;rw [<-h1];exact HR.out.2.2.2.1)⟩
  have rQ:((t:Int) !=0)=true:=by simpa using hz
  have HW:=Qq HR.out.2.1;have pC:=Qq (Qna HR.out.2.1 hz);have HNZ:=Qq hz;have TZ:=Qq (show Qm (t&&&(t - 1))from Qy (Qy9 hz) (Nat.le_of_lt HR.out.2.1));have gH:IntKind.u64.wrap ((t:Int) - 1)=((t - 1:Nat):Int):=by
   have:=HW.out;rw [IntKind.wrap_u64];unfold Qm at this;omega
  have yH:bits .and .u64 (t:Int) ((t - 1:Nat):Int)=((t&&&(t - 1):Nat):Int):=Xk HW.out (by have:=HW.out;unfold Qm at this⊢;omega);have zD:=Qq (show(pre++ [Dt t])++Za (t&&&(t - 1))=Za s by
   rw [List.append_assoc,List.singleton_append,<-pC.out];exact HR.out.2.2.1)
  obtain⟨x,hx⟩:∃x,x=Dt t:=⟨_,rfl⟩;have UB:=Qq (fun w (hT:Kb w)=>Qrg t HW.out hz w hT);rw [<-hx]at zD UB;obtain⟨fn,tmps,assign,body,hy,hRR⟩:=HY.out pre x wr HR.out.2.2.2.1 ⟨_,zD.out⟩;obtain⟨t2,AK⟩:∃z,z=t&&&(t - 1):=⟨_,rfl⟩;have hZ:=Qq (show t2 < t by rw [AK];exact Qy9 hz);rw [<-AK]at yH zD TZ;clear hz hx AK
  gi_wp2_with (refine⟨trivial,fun h=>(by cases h),?_⟩;gi_at_call 151;refine(callsIn_wide.2 (UB.out _ HR.out.2.2.2.2)).mono ?_;rintro e w5 ⟨rfl,rfl⟩)
  refine⟨fun h=>(by cases h),hRR.mono ?_⟩;rintro e W3 (⟨rfl,hJ3,nM⟩|⟨rfl,DM⟩)
  ·have rF:=Qq (show Boxed W3 B 41 (.int .u64 (t:Int))from nM.blk.trans HR.out.1);have UE:=Qq (HR.out.2.2.2.2.of_block nM.size nM.tab);have hc:=rF.out.cell;have hf:=rF.out.frozen
   gi_wp2
   go_roundw
   case rel=>exact⟨t2,pre++ [x],Qq ⟨rF.out.set _,TZ.out,zD.out,HJ.out _ _ _ hJ3 (grownBy_setCell' _ _ _),UE.out.set NC _⟩⟩
   case measure=>rw [Qnv (rF.out.set _),Qnv HR.out.1];exact hZ.out
  gi_wp2
  refine bodyPost_ret (results_none rfl _ _ _) rfl ?_;exact⟨⟨_,rfl⟩,.inr ⟨_,DM⟩⟩
end Go.Proofs.YtkmclcmnoicagaaGreatDoor
