/- The program's Valid, from what Sets says. -/
import Derived.Test.YtmidgcldljfkcaaGreatDoorM01
import Derived.Test.YtmidgcldljfkcaaGreatDoorM46
import Derived.Test.YtmidgcldljfkcaaGreatDoorM22
import Derived.Test.YtmidgcldljfkcaaGreatDoorM16
import Derived.Test.YtmidgcldljfkcaaGreatDoorM13
namespace Go.Proofs.YtmidgcldljfkcaaGreatDoor
set_option maxRecDepth 100000
set_option maxHeartbeats 128000000
open Go.RowKit
theorem pValid_of(HSS:SetsSaid)(vm v:Value)(md:Md)(f:List Nd)(w:World)(hm:MdV w vm md)(hok:md.ok)(h:Fml w v f):
 Calls Tryz.prog 18 #[vm,v] w fun e w'=>e=.returned (.tuple #[.bool (decide (chk17 md f=0)&&(((holdP md f:Nat):Int)==((allW md.n.toNat:Nat):Int))),.int .i64 (chk17 md f)])/\Ext w w':=by
 have HM:=Qq hm;have HF:=Qq h;have HS:=Qq (fun w hm h=>pHolds_of HSS vm v md f w hm hok h);obtain⟨vv,vr,rfl,hv,hr⟩:=hm;obtain⟨c1,hc1⟩:∃z,z=chk17 md f:=⟨_,rfl⟩;have HC1:=Qq hc1;rw [<-hc1]at HS⊢;clear h hok HSS hv hr hc1;by_cases h1:c1=0
 ·subst h1;obtain⟨hck,_,_,_⟩:=chk17_zero HC1.out.symm;obtain⟨hn1,hn64,_⟩:=checkM_zero hck;obtain⟨N,hNN⟩:=Int.eq_ofNat_of_zero_le (show 0<=md.n by omega);have hNt:md.n.toNat=N:=by rw [hNN];exact Int.toNat_natCast N
  have hN64:N<=64:=by omega
  have HALL:=Qq (all_shr hN64);rw [hNt];rw [hNN]at HS HM⊢;obtain⟨s,hs⟩:∃s,s=holdP md f:=⟨_,rfl⟩;rw [<-hs]at HS⊢;clear hck hn1 hn64 hNN hNt hs;go_enter Tryz.func18,Tryz.ntmps18;go_wp2_with fail;refine(HS.out _ (HM.out.ext ((Ext.refl w).alloc _)) (HF.out.ext ((Ext.refl w).alloc _))).mono ?_;rintro e w2 ⟨rfl,hx⟩;have HX:=Qq (((Ext.refl w).alloc _).trans hx);have c0:w2.cell? ⟨w.heap.size,0,none⟩=some (.int .i64 (N:Int)):=(hx.cell (p:=⟨w.heap.size,0,none⟩) (by simp)).trans (by simp);clear hx;go_wp2_with fail;go_ret2;exact⟨by rw [<-HALL.out] <;> rfl,HX.out⟩
 have hne:(c1==0)=false:=by simpa using h1
 have hdc:=decide_eq_false h1;obtain⟨q,hq⟩:∃q,q=(if c1=0 then holdP md f else 0):=⟨_,rfl⟩;rw [<-hq]at HS;rw [hdc,Bool.false_and];clear h1 hq hdc;go_enter Tryz.func18,Tryz.ntmps18;go_wp2_with fail;refine(HS.out _ (HM.out.ext ((Ext.refl w).alloc _)) (HF.out.ext ((Ext.refl w).alloc _))).mono ?_;rintro e w2 ⟨rfl,hx⟩;have HX:=Qq (((Ext.refl w).alloc _).trans hx);clear hx;go_wp2_with fail;go_ret2;exact⟨rfl,HX.out⟩
theorem few_frag {f:List Nd}(hc:check f=0)(h:fragsN f < 2):Few10 (compactN f):=fun n hn=>by
 have hh:=(compactN_props hc).2.2.2 n hn;have hop:=(isOp_iff n.op).1 hh.1;refine⟨hop.1,?_⟩;have hb:∀i,(fragOf n.op).toNat.testBit i=true->i < 1:=fun i hi=>by
  have h2:(fragsN f).testBit i=true:=(frag_mem (compactN f) 0).2 n hn i hi;exact bit_lt (n:=1) (by omega) h2
 have hlt:=low_bits hb;refine Classical.byContradiction fun h10=> ?_
 have hcs:n.op=11\/n.op=12\/n.op=13\/n.op=14\/n.op=15\/n.op=16\/n.op=17\/n.op=18\/n.op=19\/n.op=20\/n.op=21:=by omega
 rcases hcs with e|e|e|e|e|e|e|e|e|e|e <;> rw [e]at hlt <;> exact absurd hlt (by decide)
def meetP(md:Md)(l:List (List Nd))(s:Nat):Nat:=l.foldl (fun s f=>s&&&holdP md f) s
theorem cells3y {w:World} {b:Nat} {a0 a1 a2:Value} {t:TypeId}(h:w.heap[b]?=some (.cells #[a0,a1,a2] t (0,0))):w.cell? ⟨b,0,none⟩=some a0/\w.cell? ⟨b,1,none⟩=some a1/\w.cell? ⟨b,2,none⟩=some a2/\b < w.heap.size :=
 ⟨by simp [World.cell?,h],by simp [World.cell?,h],by simp [World.cell?,h],lt_heap h⟩
theorem few13_any(v:Value)(md:Md)(z:Int)(w:World)(h:MdV w v md):
 Calls Tryz.prog 7 #[v,.int .i64 z] w fun e w'=>∃b,e=.returned (.bool b)/\Ext w w':=by
 obtain⟨vv,vr,rfl,hv,hr⟩:=h;obtain⟨Av,cv,rfl,_⟩:=hv;obtain⟨Ar,cr,rfl,_,_,HR⟩:=u64ss_at hr;obtain⟨n,hn⟩:∃n,n=md.n:=⟨_,rfl⟩;rw [<-hn];clear hr hn;by_cases h1:z < n/\n<=64
 ·obtain⟨h2,h3⟩:=h1;go_enter Tryz.func7,Tryz.ntmps7;go_wp2_with fail;go_ret
  first|exact⟨_,rfl,Qz.alloc _⟩|exact⟨.inl rfl,Qz.alloc _⟩|exact⟨.inr rfl,Qz.alloc _⟩
 obtain⟨t,ht⟩:∃t,t=decide (z < n):=⟨_,rfl⟩;by_cases hz:z < n
 all_goals
  (try have h64:¬n<=64:=fun e=>h1 ⟨hz,e⟩)
  clear h1 ht;by_cases hv20:20 < md.val.length
  ·have hi:(20:Int) < (md.val.length:Int):=by omega
   go_enter Tryz.func7,Tryz.ntmps7;go_wp2_with fail;go_ret
   first|exact⟨_,rfl,Qz.alloc _⟩|exact⟨.inl rfl,Qz.alloc _⟩|exact⟨.inr rfl,Qz.alloc _⟩
  have hi20:¬(20:Int) < (md.val.length:Int):=by omega
  by_cases hr10:10 < md.rel.length
  ·have hi:(10:Int) < (md.rel.length:Int):=by omega
   go_enter Tryz.func7,Tryz.ntmps7;go_wp2_with fail;go_ret
   first|exact⟨_,rfl,Qz.alloc _⟩|exact⟨.inl rfl,Qz.alloc _⟩|exact⟨.inr rfl,Qz.alloc _⟩
  have hi10:¬(10:Int) < (md.rel.length:Int):=by omega
  generalize md.rel=rl at *;generalize md.val.length=vl at *;go_enter Tryz.func7,Tryz.ntmps7;go_upto_region 3 with(fail);obtain⟨W0,hW0⟩:∃W,W=w.alloc (.cells #[.int .i64 n,.slice Av vl cv,.slice Ar rl.length cr] 28):=⟨_,rfl⟩;have HX0:=Qq (show Ext w W0 by rw [hW0];exact Qz.alloc _);have HB:=Qq (show W0.heap[w.heap.size]?=some (.cells #[.int .i64 n,.slice Av vl cv,.slice Ar rl.length cr] 28 (0,0)) by rw [hW0];exact heap_alloc_new _ _);rw [<-hW0];clear hW0;obtain⟨b,hb⟩:∃b,b=w.heap.size:=⟨_,rfl⟩;rw [<-hb]at HB⊢;clear hb;go_wp2_with fail;go_loopw [5] (fun v wr=>∃k:Nat,v=.int .i64 (k:Int)/\k<=rl.length/\Hid (Ext W0 wr)) (fun v _=>rl.length - (intOf v).toNat)
  case atStart=>exact⟨0,rfl,Nat.zero_le _,Qq Qz⟩
  case round =>
   obtain⟨k,rfl,hk,HX⟩:=hrel;obtain⟨e0,e1,e2,eb⟩:=cells3y ((HX.out.block (lt_heap HB.out)).trans HB.out);by_cases hlt2:k < rl.length
   ·have hk1:(k:Int) < (rl.length:Int):=by omega
    obtain⟨ad,u,rfl,hadl,hc,hu⟩:=HR.out k hlt2;obtain⟨Au,cu,rfl,_⟩:=hu;have a0:=((HX0.out.trans HX.out).cell (p:=ad.add k) (Qj hadl)).trans hc;have al:(ad.add k).block < wr.heap.size:=by rw [block_of_add];exact Qy hadl (HX0.out.trans HX.out).size
    generalize (rl.getD k []).length=q at a0;clear hc;by_cases hq:70 < q
    ·have hq1:(70:Int) < (q:Int):=by omega
     go_wp2_with fail;go_ret
     first|exact⟨_,rfl,HX0.out.trans HX.out⟩|exact⟨.inl rfl,HX0.out.trans HX.out⟩|exact⟨.inr rfl,HX0.out.trans HX.out⟩
    have hq1:¬(70:Int) < (q:Int):=by omega
    go_wp2_with fail;go_roundw
    case rel=>exact⟨k+1,by go_num,by omega,HX⟩
    case measure=>simp [intOf];omega
   obtain rfl:rl.length=k:=by omega
   go_wp2_with fail;go_ret
   first|exact⟨_,rfl,HX0.out.trans HX.out⟩|exact⟨.inl rfl,HX0.out.trans HX.out⟩|exact⟨.inr rfl,HX0.out.trans HX.out⟩
end Go.Proofs.YtmidgcldljfkcaaGreatDoor
