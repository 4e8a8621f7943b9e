/- relation.mapped. -/
import Derived.Test.YtkmclcmnoicagaaGreatDoorL07
import Derived.Shelf.RegionOpen
namespace Go.Proofs.YtkmclcmnoicagaaGreatDoor
set_option maxRecDepth 100000
set_option maxHeartbeats 128000000
open Go.RowKit
attribute [local go_sem] Oper.semAt_some
def orL(l:List Nat)(ps:List Nat):Nat:=ps.foldl (fun o i=>o|||l.getD i 0) 0
theorem Qe5(l ps:List Nat)(x:Nat):orL l (ps++ [x])=orL l ps|||l.getD x 0:=by
 unfold orL;rw [List.foldl_append];rfl
theorem Fa {l:List Nat}(h:∀s∈l,Qp s)(i:Nat):Qp (l.getD i 0):=by
 rw [Qk];cases e:l[i]? with
 |none=>show(0:Nat) < _;omega
 |some s=>exact h s (List.mem_of_getElem? e)
theorem Qv8 {a b:Nat}(ha:Qp a)(hb:Qp b):Qp (a|||b):=Nat.or_lt_two_pow (n:=64) ha hb
theorem Qd8 {l:List Nat}(h:∀s∈l,Qp s)(ps:List Nat):Qp (orL l ps):=by
 unfold orL
 suffices ∀(ps:List Nat) (a:Nat),Qp a->Qp (ps.foldl (fun o i=>o|||l.getD i 0) a)from this ps 0 (by show(0:Nat) < _;omega)
 intro ps
 induction ps with
 |nil=>intro a ha;exact ha
 |cons x t ih=>intro a ha;exact ih _ (Qv8 ha (Fa h x))
theorem Qzk {l:List Nat}(ps:List Nat)(i:Nat):(orL l ps).testBit i=ps.any fun x=>(l.getD x 0).testBit i:=by
 unfold orL
 suffices ∀(ps:List Nat) (a:Nat),(ps.foldl (fun o i=>o|||l.getD i 0) a).testBit i=(a.testBit i||ps.any fun x=>(l.getD x 0).testBit i) by
  rw [this ps 0,Nat.zero_testBit,Bool.false_or]
 intro ps
 induction ps with
 |nil=>intro a;simp
 |cons x t ih=>intro a;rw [List.foldl_cons,ih,Nat.testBit_or,List.any_cons,Bool.or_assoc]
def Zvh(w:World)(l:List Nat)(A:Option Addr)(c:Nat)(pre:List Nat)(W:World):Prop :=
 Boxed W (w.heap.size+1) 41 (.int .u64 ((orL l pre:Nat):Int))/\Boxed W w.heap.size 23 (.slice A l.length c)/\Qg w W
theorem Ql2(v:Value)(l:List Nat)(s:Nat)(w:World)(h:Jb w v l)(hw:∀s∈l,Qp s)(hs:Qp s)(sB:∀i,s.testBit i=true->i < l.length)(hT:Kk w):
 Calls Tryz.prog 114 #[v,.int .u64 (s:Int)] w fun e w'=>e=.returned (.int .u64 ((orL l (Yq s):Nat):Int))/\Qg w w':=by
 obtain⟨A,c,rfl,_,_,HA⟩:=Vl h;have HW:=Qq hw;have WT:=Qq (show ∀x∈Yq s,x < l.length from fun x hx=>sB x (Nl.1 hx).2);have HT:=Qq hT;have hp:=hT.pos;clear h hw sB hT;refine(callsIn_wide (n:=3)).1 ?_;refine callsIn_of_wp_marks Tryz.func114 rfl trivial ?_ rfl;simp only [Tryz.ntmps114,List.size_toArray,List.length_cons,List.length_nil,Nat.reduceAdd,Nat.reduceSub,Array.replicate_succ,Array.replicate_zero,List.push_toArray,List.append_toArray,List.nil_append,List.cons_append]
 gi_wp2_with (refine⟨trivial,?_⟩;gi_at_call 176;refine(callsIn_wide.2 (Qxl s _)).mono ?_;rintro e w5 ⟨rfl,rfl⟩)
 obtain⟨w1,sY⟩:∃w1,w1=(w.alloc (.cells #[.slice A l.length c] 23)).alloc (.cells #[.int .u64 0] 41):=⟨_,rfl⟩;rw [<-sY];have zP:Qg w w1:=by rw [sY];exact((Qg.refl w).alloc _).alloc _
 have oA:w1.heap.size=w.heap.size+1+1:=by rw [sY];simp
 have yV:Boxed w1 w.heap.size 23 (.slice A l.length c):=by rw [sY];exact(Boxed.new w 23 (.slice A l.length c)).alloc _
 have xC:Boxed w1 (w.heap.size+1) 41 (.int .u64 0):=by
  have:=Boxed.new (w.alloc (.cells #[.slice A l.length c] 23)) 41 (.int .u64 0);rw [World.size_alloc]at this;rw [sY];exact this
 have zT:Qg w (w1.alloc (.cells #[.int .u64 (s:Int)] 41)):=zP.alloc _;have kM:(w1.alloc (.cells #[.int .u64 (s:Int)] 41)).heap.size=w1.heap.size+1:=by simp
 have vR:Boxed (w1.alloc (.cells #[.int .u64 (s:Int)] 41)) w1.heap.size 41 (.int .u64 (s:Int)):=Boxed.new _ _ _;have VD:=yV.alloc (.cells #[.int .u64 (s:Int)] 41);have gO:=xC.alloc (.cells #[.int .u64 (s:Int)] 41);obtain⟨w2,jC⟩:∃w2,w2=w1.alloc (.cells #[.int .u64 (s:Int)] 41):=⟨_,rfl⟩;rw [<-jC]at zT kM vR VD gO⊢;rw [oA]at vR kM;clear sY jC zP oA yV xC
 refine Qhl (n:=3) (gf:=206) (lb:=#[.pointer (some ⟨w.heap.size+1+1,0,none⟩)]) rfl (enters_of Tryz.func206 (by kernel_rfl) rfl) (Qs2 (3 - 1) (w.heap.size+1+1) s w2 hs (HT.out.ext zT) (by omega) vR) (Below.refl _ _) (by omega) (by omega) (fun _=>rfl)
  (Zvh w l A c) (fun _ _=>False) ?own (fun _ _ _ _ h _ _=>h) ?start
  (fun x=> { tmps:=#[.slice A l.length c,.int .u64 (s:Int),.pointer (some ⟨w.heap.size,0,none⟩),undef,.int .u64 0,.pointer (some ⟨w.heap.size+1,0,none⟩),.int .i64 (x:Int),.int .u64 (s:Int),.func (.func 206) #[] #[.pointer (some ⟨w.heap.size+1+1,0,none⟩)],.int .i64 (x:Int),undef,undef,undef,undef,undef,undef,undef],defers:= [] }) ?assign ?body ?done (fun _ _ _ _ h _=>h.elim)
 case own =>
  rintro pre W W' r ⟨h1,h2,h3⟩ hg hr;have bY:r≠w.heap.size+1:=by omega
  have kY:r≠w.heap.size:=by omega
  exact⟨h1.kept hg (fun e=>bY (Option.some.inj e).symm),h2.kept hg (fun e=>kY (Option.some.inj e).symm),h3.grown hg (fun k e=>(by have:=Option.some.inj e;omega))⟩
 case start =>
  intro W hW;exact⟨(hW.block gO.lt).trans gO,(hW.block VD.lt).trans VD,zT.trans hW⟩
 case assign =>
  intro l' x W K hK
  gi_wp2
  exact hK
 case body =>
  rintro l' pre x W ⟨h1,h2,h3⟩ rB;have vD:x < l.length:=WT.out x (rB.subset (by simp));obtain⟨ad,rfl,zV,tK⟩:=HA.out x vD;have c1:=h1.cell;have f1:=h1.frozen;have c2:=h2.cell;have c3:=(h3.cell (p:=ad.add x) (Qj zV)).trans tK;have LH:(x:Int) < (l.length:Int):=by omega
  have uM:=Gq (Qd8 HW.out pre) (Fa HW.out x);have bE:=Qq (Qe5 l pre x);obtain⟨z,hz⟩:∃z,z=l.getD x 0:=⟨_,rfl⟩;obtain⟨o,ho⟩:∃o,o=orL l pre:=⟨_,rfl⟩;rw [<-hz]at c3 uM bE;rw [<-ho]at c1 uM bE;clear hz ho tK;have YD:Tryz.prog.follows .mixedOrders=true:=by kernel_rfl
  gi_wp2
  gi_region_with_o (fail)
  all_goals gi_wp2
  all_goals(try go_bits)
  all_goals exact⟨fun k o' _ ho hc=>(KeepsOthers.setCell W ⟨w.heap.size+1,0,none⟩ _).same k o' ho hc,⟨(grownBy_setCell' W _ _).size,Below.heap_setCell _ _ _ _ (by show w.heap.size+1+1≠w.heap.size+1;omega),Below.heap_setCell _ _ _ _ (by show 0≠w.heap.size+1;omega)⟩,by rw [bE.out];exact h1.set _,(Below.heap_setCell _ _ _ _ (by show w.heap.size≠w.heap.size+1;omega)).trans h2,(h3.setCell (p:=⟨w.heap.size+1,0,none⟩) (by show w.heap.size<=w.heap.size+1;omega) _).drew⟩
 case done =>
  rintro D W hD ⟨h1,h2,h3⟩ hK;have c1:=h1.cell
  gi_wp2
  refine⟨(by simp),.inl ⟨_,_,rfl,run_takeDeferred hK,?_⟩⟩;exact⟨_,results_tmp rfl _ _ _,rfl,h3.grown (grownBy_putObj' W D _) (fun k e=>(by have:=Option.some.inj e;omega))⟩
end Go.Proofs.YtkmclcmnoicagaaGreatDoor
