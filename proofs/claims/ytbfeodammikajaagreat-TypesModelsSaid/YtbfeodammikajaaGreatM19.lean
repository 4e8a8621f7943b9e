/- types' circuitOf: the walk. -/
import Derived.Test.YtbfeodammikajaaGreatM01
import Derived.Test.YtbfeodammikajaaGreatM11
import Derived.Test.YtbfeodammikajaaGreatM10
import Derived.Test.YtbfeodammikajaaGreatM18
import Derived.Deep.DeepCutAuto
import Derived.Deep.CutBlock
namespace Go.Proofs.YtbfeodammikajaaGreat
set_option maxRecDepth 100000
set_option maxHeartbeats 128000000
open Go.RowKit
theorem tInfoI:(Tryz.prog.info? 3).map (fun i=>(i.zero,i.size,i.bytes))=some (some (.int .i64 0),1,8):=by kernel_rfl
structure Cir (w wr:World) (B:Nat) (vf vo:Value) (out:List Int):Prop where
 ext:Ext w wr
 blk:wr.heap[B]?=some (.cells #[vf,vo] 140 (0,0))
 row:wr.ownsRow (B+1) 3 1 vo out.length (out.map (Value.int .i64))
 res:wr.heap[B - 1]?=some (.cells #[.slice none 0 0,.slice none 0 0] 140 (0,0))
section
variable {w wr:World} {B:Nat} {vf vo:Value} {out:List Int}
theorem Cir.next {w4:World}(h:Cir w wr B vf vo out)(he:Ext wr w4):Cir w w4 B vf vo out :=
 ⟨h.ext.trans he,(he.block (lt_heap h.blk)).trans h.blk,row_ext h.row he,(he.block (lt_heap h.res)).trans h.res⟩
theorem Cir.push {w7:World} {v7:Value} {z:Int}(h:Cir w wr B vf vo out)(hB:w.heap.size < B)
 (hown:w7.ownsRow (B+1) 3 1 v7 (out.length+1) (out.map (Value.int .i64)++ [.int .i64 z]))(hg:wr.grownBy w7 vo.ownBlock):
 Cir w (w7.setCell ⟨B,1,none⟩ v7) B vf v7 (out++ [z]):=by
 have hvo:∀g,vo.ownBlock=some g->B+1<=g:=fun g hg'=>(h.row.lt g hg').1
 have hb:w7.heap[B]?=wr.heap[B]?:=hg.block B (lt_heap h.blk) (fun e=>by have:=hvo B e.symm;omega);have hv7:v7.ownBlock≠some B:=fun e=>by have:=(hown.lt B e).1;omega
 refine⟨(h.ext.grown hg (fun g hg'=>by have:=hvo g hg';omega)).setCell (Nat.le_of_lt hB) _,set_second (hb.trans h.blk) v7,?_,?_⟩
 ·have hr:w7.ownsRow (B+1) 3 1 v7 (out++ [z]).length ((out++ [z]).map (Value.int .i64)):=by
   rw [List.length_append,List.map_append];exact hown
  exact ownsRow_setCell_other (a:=⟨B,1,none⟩) hr hv7 _
 rw [Below.heap_setCell _ _ _ _ (show B - 1≠B by omega),hg.block _ (lt_heap h.res) (fun e=>by have:=hvo _ e.symm;omega)];exact h.res
end
theorem places_step {base:List (List Nd)} {f:List Nd} {k:Nat} {n:Nd}(hn:f[k]?=some n):(placesN base f).take (k+1)=(placesN base f).take k++ [bif isBase n then placeN base (subN f (k:Int))else -1]:=take_succ_eq (places_get hn)
theorem circuitOf_any(vb vf:Value)(base:List (List Nd))(f:List Nd)(w:World)(hb:Fmls w vb base)(hf:Fml w vf f)(hl:f.length<=200):
 Calls Tryz.prog 127 #[vb,vf] w fun e w'=>∃ui,e=.returned (.agg #[vf,ui])/\Ext w w'/\Ints w' ui (placesN base f):=by
 have HB:=Qq hb;have HF:=Qq hf;obtain⟨iI,hiI,hzI0,hzI1,hzI2⟩:=info_parts tInfoI;obtain⟨Ab,cb,rfl,_⟩:=hb;obtain⟨⟨Af,cf,rfl,hcap,hmax,hread⟩,hok⟩:=hf;unfold maxLen at hmax;have HREAD:=Qq hread;clear hread hok;go_enter Tryz.func127,Tryz.ntmps127;go_wp2_with fail;go_loopw [13] (fun vi wr=>∃k:Nat,vi=.int .i64 (k:Int)/\k<=f.length/\Hid (∃vo out,out=(placesN base f).take k/\Cir w wr (w.heap.size+1) (.slice Af f.length cf) vo out)) (fun v _=>f.length - (intOf v).toNat)
 case atStart=>exact⟨0,rfl,Nat.zero_le _,Qq ⟨.slice none 0 0,[],rfl,(Qz.alloc _).alloc _,(by have:=heap_alloc_new (w.alloc (.cells #[.slice none 0 0,.slice none 0 0] 140)) (.cells #[.slice Af f.length cf,.slice none 0 0] 140);simpa using this),World.ownsRow_nil _ _ _ _,((Qz.alloc _).block (by simp)).trans (heap_alloc_new _ _)⟩⟩
 case round =>
  obtain⟨k,rfl,hk,HREL⟩:=hrel;obtain⟨vo,out,hol,hcir⟩:=HREL.out;have HOL:=Qq hol;have HC:=Qq hcir;obtain⟨Ao,co,rfl⟩:=slice_of_row hcir.row;have hol2:out.length<=200:=by rw [hol,List.length_take];omega
  obtain⟨d0,d1,df,dl⟩:=cells2 hcir.blk;clear HREL hol hcir;by_cases hlt2:k < f.length
  ·have hk1:(k:Int) < (f.length:Int):=by omega
   obtain⟨n,hn⟩:∃n,f[k]?=some n:=⟨_,Qv hlt2⟩;obtain⟨ad,rfl,hblk,hcells⟩:=HREAD.out (by intro e;rw [e]at hlt2;simp at hlt2);obtain⟨c0,c1,c2,c3,c4,c5⟩:=(hcells k n hn).keep fun p hp=>HC.out.ext.cell (p:=p) (by rw [hp,block_of_add];exact hblk)
   have hblk2:(ad.add (k*6)).block < wr.heap.size:=by rw [block_of_add];exact Qy hblk HC.out.ext.size
   have HN:=Qq hn;clear hn hcells;obtain⟨wq,hwq⟩:∃v,v=wr:=⟨_,rfl⟩;subst hwq;have hc3:out.length+1<=maxLen:=by unfold maxLen;omega
   have hc4:(out.length+1)*8<=140737488355328:=by omega
   have HX0:=Qq (show Ext wq (wq.alloc (.cells #[.int .i64 n.op,.int .i64 n.i,.int .i64 n.e,.int .i64 n.g,.int .i64 n.x,.int .i64 n.y] 93))from Qz.alloc _);rcases base_cases n with hop|⟨t3,t9,t13⟩
   ·have HBB:=Qq (show(bif isBase n then placeN base (subN f (k:Int))else -1)=placeN base (subN f (k:Int)) by rw [show isBase n=true by unfold isBase;rcases hop with e|e|e <;> rw [e] <;> rfl];rfl);have HTT:=Qq (show((n.op==3)=true)\/((n.op==3)=false/\(n.op==9)=true)\/((n.op==3)=false/\(n.op==9)=false/\(n.op==13)=true) by rcases hop with e|e|e <;> rw [e] <;> simp);clear hop;rcases HTT.out with t3|⟨t3,t9⟩|⟨t3,t9,t13⟩
    all_goals
     go_wp2_with fail;refine(sub_any _ f (k:Int) _ (HF.out.ext (HC.out.ext.trans HX0.out))).mono ?_;rintro e w2 ⟨u2,rfl,hm2⟩;have HM2:=Qq hm2;clear hm2;go_wp2_with fail;refine(index_any _ _ base _ _ (HB.out.ext (HC.out.ext.trans (HX0.out.trans HM2.out.ext))) HM2.out.fml).mono ?_;rintro e w3 ⟨rfl,hx3⟩;have HC4:=Qq (HC.out.next (HX0.out.trans (HM2.out.ext.trans hx3)));obtain⟨q0,q1,qf,qb⟩:=cells2 HC4.out.blk;clear hx3 d0 d1 df dl;go_wp2_with(at_builtin;refine wpList_append_own_at _ rfl _ _ 28 rfl (w.heap.size+1+1) 3 iI (.int .i64 0) 1 8 Tryz.underlying28 hiI hzI0 hzI1 hzI2 rfl (by decide) _ out.length (out.map (Value.int .i64)) rfl (HC4.out.next (Qz.alloc _)).row ⟨_,0,none⟩ 1 1 [.int .i64 (placeN base (subN f (k:Int)))] rfl rfl (row_new_at _ _ _ (by simp)) (fun u hu=>by rw [List.mem_singleton.1 hu];rfl) hc3 hc4 (by have:=qb;simp;omega) ?_)
     intro v7 w7 hown7 hgrow7 _ hat7;obtain⟨d0,d1,df,dl⟩:=cells2 ((hgrow7.block (w.heap.size+1) (by simp;omega) (fun e=>by have:=(HC4.out.row.lt _ e.symm).1;omega)).trans ((HC4.out.next (Qz.alloc (.cells #[.int .i64 (placeN base (subN f (k:Int)))] 3))).blk));have HP:=Qq (Cir.push (HC4.out.next (Qz.alloc _)) (by omega) hown7 hgrow7);obtain⟨A7,c7,rfl⟩:=slice_of_row hown7;clear hown7 hgrow7 hat7;go_wp2_with fail;go_roundw
     case rel=>exact⟨k+1,by go_num,by omega,Qq ⟨_,_,by rw [places_step HN.out,<-HOL.out,HBB.out],HP.out⟩⟩
     case measure=>simp [intOf];omega
   have HBB:=Qq (show(bif isBase n then placeN base (subN f (k:Int))else -1)= -1 by rw [show isBase n=false by unfold isBase;rw [t3,t9,t13];rfl];rfl);have HC4:=Qq (HC.out.next HX0.out);have qb:=lt_heap HC4.out.blk;go_wp2_with(at_builtin;refine wpList_append_own_at _ rfl _ _ 28 rfl (w.heap.size+1+1) 3 iI (.int .i64 0) 1 8 Tryz.underlying28 hiI hzI0 hzI1 hzI2 rfl (by decide) _ out.length (out.map (Value.int .i64)) rfl (HC4.out.next (Qz.alloc _)).row ⟨_,0,none⟩ 1 1 [.int .i64 (-1)] rfl rfl (row_new_at _ _ _ (by simp)) (fun u hu=>by rw [List.mem_singleton.1 hu];rfl) hc3 hc4 (by have:=qb;simp;omega) ?_)
   intro v7 w7 hown7 hgrow7 _ hat7;obtain⟨q0,q1,qf,ql⟩:=cells2 ((hgrow7.block (w.heap.size+1) (by simp;omega) (fun e=>by have:=(HC4.out.row.lt _ e.symm).1;omega)).trans ((HC4.out.next (Qz.alloc (.cells #[.int .i64 (-1)] 3))).blk));have HP:=Qq (Cir.push (HC4.out.next (Qz.alloc _)) (by omega) hown7 hgrow7);obtain⟨A7,c7,rfl⟩:=slice_of_row hown7;clear hown7 hgrow7 hat7;go_wp2_with fail;go_roundw
   case rel=>exact⟨k+1,by go_num,by omega,Qq ⟨_,_,by rw [places_step HN.out,<-HOL.out,HBB.out],HP.out⟩⟩
   case measure=>simp [intOf];omega
  obtain rfl:f.length=k:=by omega
  have HR:=Qq (show wr.heap[w.heap.size]?=some (.cells #[.slice none 0 0,.slice none 0 0] 140 (0,0)) by have:=HC.out.res;rw [Nat.add_sub_cancel]at this;exact this);obtain⟨r0,r1,rf,rl⟩:=cells2 HR.out;have HE:=Qq (show out=placesN base f by rw [HOL.out,List.take_of_length_le (by rw [places_len];exact Nat.le_refl _)]);have HS:=Qq (set_second (set_first HR.out (.slice Af f.length cf)) (.slice Ao out.length co));go_wp2_with fail
  (try simp only [Exit.inBlock,Exit.then])
  refine bodyPost_ret (results_cell Tryz.results127 _ _ rfl (range_of HS.out) Tryz.underlying140 rfl (by kernel_rfl)) rfl ?_;have hne:(Value.slice Ao out.length co).ownBlock≠some w.heap.size:=fun e=>by have:=(HC.out.row.lt _ e).1;omega
  exact⟨_,rfl,(HC.out.ext.setCell (by simp) _).setCell (by simp) _,by rw [<-HE.out];exact ints_of_row (ownsRow_setCell_other (a:=⟨w.heap.size,1,none⟩) (ownsRow_setCell_other (a:=⟨w.heap.size,0,none⟩) HC.out.row hne _) hne _)⟩
end Go.Proofs.YtbfeodammikajaaGreat
