/- types' table: the walk. -/
import Derived.Test.YtkmclcmnoicagaaGreatDoorT36
namespace Go.Proofs.YtkmclcmnoicagaaGreatDoor
set_option maxRecDepth 100000
set_option maxHeartbeats 128000000
open Go.RowKit
theorem Ex {base:List (List Nd)}(h:base.length<=12)(g:List Nd):Yq base g < 64:=by
 unfold Yq;cases hf:base.findIdx? fun f=>decide (f=g)with
 |none=>show(-1:Int) < 64;decide
 |some j =>
  have:=(List.findIdx?_eq_some_iff_findIdx_eq.1 hf).1;show(j:Int) < 64;omega
theorem Qmd {base:List (List Nd)}(h:base.length<=12)(f:List Nd):∀z∈Vp base f,z < 64:=by
 intro z hz;unfold Vp at hz;obtain⟨i,_,rfl⟩:=List.mem_map.1 hz;cases Jm (f.getD i Nd.zero)
 ·show(-1:Int) < 64;decide
 exact Ex h _
theorem Cs {α:Type}(g:Nat->α)(k:Nat):(List.range (k+1)).map g=(List.range k).map g++ [g k]:=by
 rw [List.range_succ,List.map_append];rfl
structure Qx0 (w1 wr:World) (g B:Nat) (vf ui:Value) (h:Nat->Bool) (m k:Nat):Prop where
 ext:Ext w1 wr
 box:wr.heap[B]?=some (.cells #[vf,ui] 173 (0,0))
 row:Vr w1.heap.size wr g ((List.range k).map h++List.replicate (m - k) false)
theorem Qx0.store {w1 wr W:World} {g B:Nat} {vf ui:Value} {h:Nat->Bool} {m k:Nat}(i:Qx0 w1 wr g B vf ui h m k)(hk:k < m)(hB:B≠g)(he:Ext wr W) {b:Bool}(hb:h k=b):Qx0 w1 (W.setCell ⟨g,k,none⟩ (.bool b)) g B vf ui h m (k+1):=by
 have hg:=i.row.lt;refine⟨(i.ext.trans he).setCell hg.1 _,?_,?_⟩
 ·rw [Below.heap_setCell _ _ _ _ hB];exact(he.block (Qm i.box)).trans i.box
 have:=((i.row.ext he).set k b).1;rw [show m - k=(m - (k+1))+1 by omega,Qvt (by simp),<-hb,<-Cs]at this;rw [<-hb];exact this
theorem Dp(b:Nat)(lg:Int)(base:List (List Nd))(root:List Bool)(ks:List Kn)(cs:List Cm)(alive:List Bool)(vf:Value)(f:List Nd)(w:World)
 (hE:Eng w b lg base root ks cs alive)(hl:base.length<=12)(hm:alive.length=2^base.length)(hf:Fml w vf f)(hc:check f=0):
 Calls Tryz.prog 130 #[.pointer (some ⟨b,0,none⟩),vf] w fun e w'=>∃g,e=.returned (.slice (some ⟨g,0,none⟩) (2^base.length) (2^base.length))/\Ext w w'/\Vr w.heap.size w' g (Yr base f):=by
 obtain⟨Ab,cb,Ar,cr,Ak,ck,Ac,cc,Aa,ca,d0,d1,d2,d3,d4,d5,hbl,hbase,_,_,_,hal⟩:=hE.cells;have HBASE:=Qq hbase;have HF:=Qq hf;have HC:=Qq hc;have hp2:=Qxl hl;have hlp:=Zm hc;obtain⟨m,hmm⟩:∃m,m=2^base.length:=⟨_,rfl⟩;have HMM:=Qq hmm;rw [<-hmm]at hm hp2⊢;obtain⟨Af,cf,rfl,_⟩:=Qa hf;obtain⟨iB,hiB,hzB0,hzB1,hzB2⟩:=info_parts Qfi;have HP1:=Qq hlp.1;have HP2:=Qq hlp.2.1;have hac:=hal.1;have hca:=hal.2.1;unfold maxLen at hca;rw [hm]at d5 hac;have HLEN:=Qq hl;have HM:=Qq hm;clear hE hbase hal hf hc hmm hlp hm hl d0 d2 d3 d4;go_enter Tryz.func130,Tryz.ntmps130;go_wp2_with fail;refine(Qk7 _ _ base f _ HBASE.out HF.out HP2.out).mono ?_
 rintro e w1 ⟨ui,rfl,hx1,hi1⟩;have HX1:=Qq hx1;have HI1:=Qq hi1;obtain⟨Ai,ci,rfl,_⟩:=hi1;have d5':=(hx1.cell (p:=⟨b,5,none⟩) hbl).trans d5;have hbl1:b < w1.heap.size:=Qy hbl hx1.size;clear hx1 d1 d5;go_wp2_with(refine wpList_make_full _ rfl _ _ 89 rfl (w1.heap.size+1) 4 iB (.bool false) 1 Tryz.underlying89 hiB hzB0 hzB1 .i64 .i64 (m:Int) (m:Int) m rfl rfl rfl rfl (by rw [hzB2];omega) (by unfold maxLen;omega) (by simp) ?_);intro W1 hrow1 hgr1;have HXW:=Qq (show Ext w1 W1 from((Ext.refl w1).alloc (.cells #[.slice Af f.length cf,.slice Ai (Vp base f).length ci] 173)).grown hgr1 (fun k e=>by cases e))
 have HBX:=Qq (show W1.heap[w1.heap.size]?=some (.cells #[.slice Af f.length cf,.slice Ai (Vp base f).length ci] 173 (0,0))from(hgr1.block _ (by simp) (fun e=>by cases e)).trans (heap_alloc_new _ _));have HT:=Qq (show Vr (w1.heap.size+1) W1 (w1.heap.size+1) (List.replicate m false) by
  have h1:=hrow1;rw [Cy]at h1;unfold Vr;simp only [List.length_replicate];exact h1)
 clear hrow1 hgr1 d5';have HTI:=Qq (show Qx0 w1 W1 (w1.heap.size+1) w1.heap.size (.slice Af f.length cf) (.slice Ai (Vp base f).length ci) (atN f (Vp base f)) m 0 from⟨HXW.out,HBX.out,by rw [List.range_zero,List.map_nil,List.nil_append,Nat.sub_zero];exact HT.out.base_ (Nat.le_succ _)⟩);go_wp2_with fail;go_loopw [22] (fun v wr=>∃k:Nat,v=.int .i64 (k:Int)/\k<=m/\Hid (Qx0 w1 wr (w1.heap.size+1) w1.heap.size (.slice Af f.length cf) (.slice Ai (Vp base f).length ci) (atN f (Vp base f)) m k)) (fun v _=>m - (intOf v).toNat)
 case atStart=>exact⟨0,rfl,Nat.zero_le _,HTI⟩
 case round =>
  obtain⟨k,rfl,hk,HI⟩:=hrel;obtain⟨e0,e1,ef,el⟩:=Ka HI.out.box;by_cases hlt2:k < m
  ·have hk1:(k:Int) < (m:Int):=by omega
   have hgl:w1.heap.size+1 < wr.heap.size:=HI.out.row.lt.2;have gfr:=HI.out.row.frozen k;have gc:wr.cell? ⟨w1.heap.size+1,k,none⟩=some (.bool false):=HI.out.row.cell (by rw [List.getElem?_append_right (by simp),List.length_map,List.length_range,Nat.sub_self,List.getElem?_replicate,if_pos (by omega)]);obtain⟨wq,hwq⟩:∃v,v=wr:=⟨_,rfl⟩;subst hwq;go_wp2_with fail;refine(Qoo _ _ f (Vp base f) k _ (by omega) (HF.out.ext (HX1.out.trans HI.out.ext)) (HI1.out.ext HI.out.ext) (Qye _ _) (Qmd HLEN.out f) (Ja HC.out) HP1.out HP2.out).mono ?_;rintro e w2 ⟨rfl,hx2⟩;have HX2:=Qq hx2;have gfr2:=(hx2.frozen (p:=⟨w1.heap.size+1,k,none⟩) hgl).trans gfr
   have gc2:=(hx2.cell (p:=⟨w1.heap.size+1,k,none⟩) hgl).trans gc;have hgl2:w1.heap.size+1 < w2.heap.size:=Qy hgl hx2.size;clear hx2 gfr gc;go_wp2_with fail;go_roundw
   case rel=>exact⟨k+1,by go_num,by omega,Qq (HI.out.store hlt2 (by omega) HX2.out rfl)⟩
   case measure=>simp [intOf];omega
  obtain rfl:m=k:=by omega
  go_wp2_with fail;go_ret;refine⟨_,rfl,HX1.out.trans HI.out.ext,?_⟩;have h1:=HI.out.row.base_ (b':=w.heap.size) HX1.out.size;rw [Nat.sub_self,List.replicate_zero,List.append_nil]at h1;unfold Yr;rw [<-HMM.out];exact h1
end Go.Proofs.YtkmclcmnoicagaaGreatDoor
