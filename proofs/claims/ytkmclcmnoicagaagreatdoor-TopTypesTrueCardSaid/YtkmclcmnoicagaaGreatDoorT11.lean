/- bits.TrailingZeros64; the points of a word as an iterator. -/
import Derived.Test.YtkmclcmnoicagaaGreatDoorT10
import Derived.RangeFuncBox
import Derived.Shelf.Abstract
import Derived.OwnWalkIn
import Derived.TacticsInMore
import Derived.LoopNIn
import Derived.LoopIn
namespace Go.Proofs.YtkmclcmnoicagaaGreatDoor
set_option maxRecDepth 100000
set_option maxHeartbeats 128000000
open Go.RowKit
attribute [local go_sem] Oper.semAt_some
def Ic:List Nat:= [0,1,56,2,57,49,28,3,61,58,42,50,38,29,17,4,62,47,59,36,45,43,51,22,53,39,33,30,24,18,12,5,63,55,48,27,60,41,37,16,46,35,44,21,52,32,23,11,54,26,40,15,34,20,31,10,25,14,19,9,13,8,7,6]
structure Uj (w:World):Prop where
 at_:∀j,j < 64->w.cell? ⟨0,j,none⟩=some (.int .u8 ((Ic.getD j 0:Nat):Int))
 pos:0 < w.heap.size
theorem Uj.ext {w w':World}(h:Uj w)(he:Ext w w'):Uj w' :=
 ⟨fun j hj=>(he.cell (p:=⟨0,j,none⟩) h.pos).trans (h.at_ j hj),Qy h.pos he.size⟩
theorem Uj.of_block {w w':World}(h:Uj w)(hs:w.heap.size<=w'.heap.size)(hb:w'.heap[0]?=w.heap[0]?):Uj w' :=
 ⟨fun j hj=>(World.cell?_of_block (a:=⟨0,j,none⟩) hb).trans (h.at_ j hj),Qy h.pos hs⟩
theorem Uj.below {n:Nat} {w w':World}(h:Uj w)(he:Go.RowKit.Below n w w')(hn:0 < n):Uj w' :=
 ⟨fun j hj=>(he.cell (p:=⟨0,j,none⟩) hn).trans (h.at_ j hj),Qy h.pos he.size⟩
def Ip(k:Nat):Nat:=2^k*285870213051353865 % 18446744073709551616 / 288230376151711744
theorem Zqc:∀k:Fin 64,Ip k.val < 64/\Ic.getD (Ip k.val) 0=k.val:=by decide+kernel
theorem Qwe {z:Int} {m:Nat}(h:z=(m:Int)):IntKind.u64.wrap z=((m % 18446744073709551616:Nat):Int):=by
 rw [IntKind.wrap_u64,h];omega
theorem Qec {s:Nat}(hs:Zj s)(h0:s≠0):IntKind.u64.wrap (-(s:Int))=((18446744073709551616 - s:Nat):Int):=by
 rw [IntKind.wrap_u64];unfold Zj at hs;omega
theorem Qiw(s:Nat)(hs:Zj s)(h0:s≠0)(w:World)(hT:Uj w):Calls Tryz.prog 151 #[.int .u64 (s:Int)] w fun e w'=>e=.returned (.int .i64 (Sz s:Int))/\w'=w:=by
 obtain⟨k,hk⟩:∃k,k=Sz s:=⟨_,rfl⟩;have h1:((s:Int)==0)=false:=by rw [beq_eq_false_iff_ne];omega
 have h2:=Qec hs h0;have hk64:=(Hn hs h0).1;have h3:bits .and .u64 (s:Int) ((18446744073709551616 - s:Nat):Int)=((2^k:Nat):Int):=by
  rw [Mg hs (by unfold Zj at hs⊢;omega),Qep hs h0,hk]
 rw [<-hk]at hk64⊢;obtain⟨d1,d2⟩:=Zqc ⟨k,hk64⟩;have hc:=hT.at_ _ d1;have hp:=hT.pos;rw [d2]at hc;have h4:IntKind.u64.wrap ((2:Int)^k*285870213051353865) / 288230376151711744=((Ip k:Nat):Int):=by
  rw [Qwe (m:=2^k*285870213051353865) (by rw [Int.natCast_mul,Int.natCast_pow];rfl)];unfold Ip;rfl
 have d3:(Ip k:Int) < 64:=Int.ofNat_lt.2 d1;obtain⟨ix,hix⟩:∃ix,ix=Ip k:=⟨_,rfl⟩;rw [<-hix]at hc h4 d1 d3;clear hk hs h0 hT d2 hix;go_enter Tryz.func151,Tryz.ntmps151;go_wp2_with fail;go_ret;exact⟨rfl,rfl⟩
theorem Qsv(s:Nat)(w:World):Calls Tryz.prog 176 #[.int .u64 (s:Int)] w fun e w'=>e=.returned (.func (.func 206) #[] #[.pointer (some ⟨w.heap.size,0,none⟩)])/\w'=w.alloc (.cells #[.int .u64 (s:Int)] 41):=by
 go_enter Tryz.func176,Tryz.ntmps176;go_wp2_with fail;go_ret;exact⟨rfl,rfl⟩
theorem Uj.set {w:World}(h:Uj w) {B:Nat}(hB:0 < B)(v:Value):Uj (w.setCell ⟨B,0,none⟩ v):=
 h.below ((Below.refl (0+1) w).setCell (p:=⟨B,0,none⟩) hB v) (by omega)
def Qr2(B:Nat)(w:World):Nat:=match w.cell? ⟨B,0,none⟩with|some (.int _ z)=>z.toNat|_=>0
theorem Qg5 {B t:Nat} {w:World}(h:Boxed w B 41 (.int .u64 (t:Int))):Qr2 B w=t:=by
 unfold Qr2;rw [h.cell];rfl
theorem Qe6(n B s:Nat)(w:World)(hs:Zj s)(hT:Uj w)(hB0:0 < B)(hb:Boxed w B 41 (.int .u64 (s:Int))):
 Qop Tryz.prog n 206 #[.pointer (some ⟨B,0,none⟩)] (fun x:Nat=> #[.int .i64 (x:Int)]) B (Kr s) w:=by
 intro l J Jx W hW hJ hJx hY h0;have hbW:Boxed W B 41 (.int .u64 (s:Int)):=(hW.block B hb.lt).trans hb;have hTW:=Qq (hT.ext hW);have HY:=Qq hY;have HJ:=Qq hJ;have HS:=Qq hs;clear hs hW hb hT hY hJ;refine callsIn_of_wp Tryz.func206 rfl trivial ?_ rfl;simp only [Tryz.ntmps206,List.size_toArray,List.length_cons,List.length_nil,Nat.reduceAdd,Nat.reduceSub,Array.replicate_succ,Array.replicate_zero,List.push_toArray,List.append_toArray,List.nil_append,List.cons_append]
 gi_wp2
 gi_loopw [] (fun wr=>∃(t:Nat) (pre:List Nat),Hid (Boxed wr B 41 (.int .u64 (t:Int))/\Zj t/\pre++Kr t=Kr s/\J pre wr/\Uj wr)) (fun wr=>Qr2 B wr)
 case atStart=>exact⟨s,[],Qq ⟨hbW,HS.out,rfl,h0,hTW.out⟩⟩
 case round =>
  obtain⟨t,pre,HR⟩:=hrel;have hc:=HR.out.1.cell;have hf:=HR.out.1.frozen;by_cases hz:t=0
  ·subst hz
   gi_wp2
   go_end0;exact⟨⟨_,rfl⟩,.inl (by have h1:=HR.out.2.2.1;rw [Qc7,List.append_nil]at h1;rw [<-h1];exact HR.out.2.2.2.1)⟩
  have hzb:((t:Int) !=0)=true:=by simpa using hz
  have HW:=Qq HR.out.2.1;have HPS:=Qq (Qc6 HR.out.2.1 hz);have HNZ:=Qq hz;have HWA:=Qq (show Zj (t&&&(t - 1))from Qy (Qq2 hz) (Nat.le_of_lt HR.out.2.1));have hsub:IntKind.u64.wrap ((t:Int) - 1)=((t - 1:Nat):Int):=by
   have:=HW.out;rw [IntKind.wrap_u64];unfold Zj at this;omega
  have hand:bits .and .u64 (t:Int) ((t - 1:Nat):Int)=((t&&&(t - 1):Nat):Int):=Mg HW.out (by have:=HW.out;unfold Zj at this⊢;omega);have HNX:=Qq (show(pre++ [Sz t])++Kr (t&&&(t - 1))=Kr s by
   rw [List.append_assoc,List.singleton_append,<-HPS.out];exact HR.out.2.2.1)
  obtain⟨x,hx⟩:∃x,x=Sz t:=⟨_,rfl⟩;have HTZ:=Qq (fun w (hT:Uj w)=>Qiw t HW.out hz w hT);rw [<-hx]at HNX HTZ;obtain⟨fn,tmps,assign,body,hy,hRR⟩:=HY.out pre x wr HR.out.2.2.2.1 ⟨_,HNX.out⟩;obtain⟨t2,ht2⟩:∃z,z=t&&&(t - 1):=⟨_,rfl⟩;have HLT:=Qq (show t2 < t by rw [ht2];exact Qq2 hz);rw [<-ht2]at hand HNX HWA;clear hz hx ht2
  gi_wp2_with (refine⟨trivial,fun h=>(by cases h),?_⟩;gi_at_call 151;refine(callsIn_wide.2 (HTZ.out _ HR.out.2.2.2.2)).mono ?_;rintro e w5 ⟨rfl,rfl⟩)
  refine⟨fun h=>(by cases h),hRR.mono ?_⟩;rintro e W3 (⟨rfl,hJ3,hk3⟩|⟨rfl,hJx3⟩)
  ·have HB3:=Qq (show Boxed W3 B 41 (.int .u64 (t:Int))from hk3.blk.trans HR.out.1);have HT3:=Qq (HR.out.2.2.2.2.of_block hk3.size hk3.tab);have hc:=HB3.out.cell;have hf:=HB3.out.frozen
   gi_wp2
   go_roundw
   case rel=>exact⟨t2,pre++ [x],Qq ⟨HB3.out.set _,HWA.out,HNX.out,HJ.out _ _ _ hJ3 (grownBy_setCell' _ _ _),HT3.out.set hB0 _⟩⟩
   case measure=>rw [Qg5 (HB3.out.set _),Qg5 HR.out.1];exact HLT.out
  gi_wp2
  refine bodyPost_ret (results_none rfl _ _ _) rfl ?_;exact⟨⟨_,rfl⟩,.inr ⟨_,hJx3⟩⟩
end Go.Proofs.YtkmclcmnoicagaaGreatDoor
