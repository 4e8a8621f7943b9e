/- relation.mapped. -/
import Derived.Test.YtkmclcmnoicagaaGreatDoorH07
import Derived.Shelf.RegionOpen
namespace Go.Proofs.YtkmclcmnoicagaaGreatDoor
set_option maxRecDepth 100000
set_option maxHeartbeats 128000000
open Go.RowKit
attribute [local go_sem] Oper.semAt_some
def orL(l:List Nat)(ps:List Nat):Nat:=ps.foldl (fun o i=>o|||l.getD i 0) 0
theorem Qwo(l ps:List Nat)(x:Nat):orL l (ps++ [x])=orL l ps|||l.getD x 0:=by
 unfold orL;rw [List.foldl_append];rfl
theorem Bj {l:List Nat}(h:∀s∈l,Qm s)(i:Nat):Qm (l.getD i 0):=by
 rw [Qk];cases e:l[i]? with
 |none=>show(0:Nat) < _;omega
 |some s=>exact h s (List.mem_of_getElem? e)
theorem Qq4 {a b:Nat}(ha:Qm a)(hb:Qm b):Qm (a|||b):=Nat.or_lt_two_pow (n:=64) ha hb
theorem Qnt {l:List Nat}(h:∀s∈l,Qm s)(ps:List Nat):Qm (orL l ps):=by
 unfold orL
 suffices ∀(ps:List Nat) (a:Nat),Qm a->Qm (ps.foldl (fun o i=>o|||l.getD i 0) a)from this ps 0 (by show(0:Nat) < _;omega)
 intro ps
 induction ps with
 |nil=>intro a ha;exact ha
 |cons x t ih=>intro a ha;exact ih _ (Qq4 ha (Bj h x))
theorem Qzp {l:List Nat}(ps:List Nat)(i:Nat):(orL l ps).testBit i=ps.any fun x=>(l.getD x 0).testBit i:=by
 unfold orL
 suffices ∀(ps:List Nat) (a:Nat),(ps.foldl (fun o i=>o|||l.getD i 0) a).testBit i=(a.testBit i||ps.any fun x=>(l.getD x 0).testBit i) by
  rw [this ps 0,Nat.zero_testBit,Bool.false_or]
 intro ps
 induction ps with
 |nil=>intro a;simp
 |cons x t ih=>intro a;rw [List.foldl_cons,ih,Nat.testBit_or,List.any_cons,Bool.or_assoc]
def Zkm(w:World)(l:List Nat)(A:Option Addr)(c:Nat)(pre:List Nat)(W:World):Prop :=
 Boxed W (w.heap.size+1) 41 (.int .u64 ((orL l pre:Nat):Int))/\Boxed W w.heap.size 23 (.slice A l.length c)/\Qg w W
theorem Qmg(v:Value)(l:List Nat)(s:Nat)(w:World)(h:Jn w v l)(hw:∀s∈l,Qm s)(hs:Qm s)(rK:∀i,s.testBit i=true->i < l.length)(hT:Kb w):
 Calls Tryz.prog 114 #[v,.int .u64 (s:Int)] w fun e w'=>e=.returned (.int .u64 ((orL l (Za s):Nat):Int))/\Qg w w':=by
 obtain⟨A,c,rfl,_,_,HA⟩:=Vf h;have HW:=Qq hw;have VD:=Qq (show ∀x∈Za s,x < l.length from fun x hx=>rK x (Ff.1 hx).2);have HT:=Qq hT;have hp:=hT.pos;clear h hw rK hT;refine(callsIn_wide (n:=3)).1 ?_;refine callsIn_of_wp_marks Tryz.func114 rfl trivial ?_ rfl;simp only [Tryz.ntmps114,List.size_toArray,List.length_cons,List.length_nil,Nat.reduceAdd,Nat.reduceSub,Array.replicate_succ,Array.replicate_zero,List.push_toArray,List.append_toArray,List.nil_append,List.cons_append]
 gi_wp2_with (refine⟨trivial,?_⟩;gi_at_call 176;refine(callsIn_wide.2 (Qx5 s _)).mono ?_;rintro e w5 ⟨rfl,rfl⟩)
 obtain⟨w1,tI⟩:∃w1,w1=(w.alloc (.cells #[.slice A l.length c] 23)).alloc (.cells #[.int .u64 0] 41):=⟨_,rfl⟩;rw [<-tI];have zN:Qg w w1:=by rw [tI];exact((Qg.refl w).alloc _).alloc _
 have oE:w1.heap.size=w.heap.size+1+1:=by rw [tI];simp
 have yS:Boxed w1 w.heap.size 23 (.slice A l.length c):=by rw [tI];exact(Boxed.new w 23 (.slice A l.length c)).alloc _
 have xA:Boxed w1 (w.heap.size+1) 41 (.int .u64 0):=by
  have:=Boxed.new (w.alloc (.cells #[.slice A l.length c] 23)) 41 (.int .u64 0);rw [World.size_alloc]at this;rw [tI];exact this
 have zS:Qg w (w1.alloc (.cells #[.int .u64 (s:Int)] 41)):=zN.alloc _;have jR:(w1.alloc (.cells #[.int .u64 (s:Int)] 41)).heap.size=w1.heap.size+1:=by simp
 have vH:Boxed (w1.alloc (.cells #[.int .u64 (s:Int)] 41)) w1.heap.size 41 (.int .u64 (s:Int)):=Boxed.new _ _ _;have TP:=yS.alloc (.cells #[.int .u64 (s:Int)] 41);have fQ:=xA.alloc (.cells #[.int .u64 (s:Int)] 41);obtain⟨w2,mN⟩:∃w2,w2=w1.alloc (.cells #[.int .u64 (s:Int)] 41):=⟨_,rfl⟩;rw [<-mN]at zS jR vH TP fQ⊢;rw [oE]at vH jR;clear tI mN zN oE yS xA
 refine Qaq (n:=3) (gf:=206) (lb:=#[.pointer (some ⟨w.heap.size+1+1,0,none⟩)]) rfl (enters_of Tryz.func206 (by kernel_rfl) rfl) (Qtf (3 - 1) (w.heap.size+1+1) s w2 hs (HT.out.ext zS) (by omega) vH) (Below.refl _ _) (by omega) (by omega) (fun _=>rfl)
  (Zkm w l A c) (fun _ _=>False) ?own (fun _ _ _ _ h _ _=>h) ?start
  (fun x=> { tmps:=#[.slice A l.length c,.int .u64 (s:Int),.pointer (some ⟨w.heap.size,0,none⟩),undef,.int .u64 0,.pointer (some ⟨w.heap.size+1,0,none⟩),.int .i64 (x:Int),.int .u64 (s:Int),.func (.func 206) #[] #[.pointer (some ⟨w.heap.size+1+1,0,none⟩)],.int .i64 (x:Int),undef,undef,undef,undef,undef,undef,undef],defers:= [] }) ?assign ?body ?done (fun _ _ _ _ h _=>h.elim)
 case own =>
  rintro pre W W' r ⟨h1,h2,h3⟩ hg hr;have aV:r≠w.heap.size+1:=by omega
  have kA:r≠w.heap.size:=by omega
  exact⟨h1.kept hg (fun e=>aV (Option.some.inj e).symm),h2.kept hg (fun e=>kA (Option.some.inj e).symm),h3.grown hg (fun k e=>(by have:=Option.some.inj e;omega))⟩
 case start =>
  intro W hW;exact⟨(hW.block fQ.lt).trans fQ,(hW.block TP.lt).trans TP,zS.trans hW⟩
 case assign =>
  intro l' x W K hK
  gi_wp2
  exact hK
 case body =>
  rintro l' pre x W ⟨h1,h2,h3⟩ sS;have uU:x < l.length:=VD.out x (sS.subset (by simp));obtain⟨ad,rfl,zV,uG⟩:=HA.out x uU;have c1:=h1.cell;have f1:=h1.frozen;have c2:=h2.cell;have c3:=(h3.cell (p:=ad.add x) (Qj zV)).trans uG;have JV:(x:Int) < (l.length:Int):=by omega
  have uW:=Xq (Qnt HW.out pre) (Bj HW.out x);have aD:=Qq (Qwo l pre x);obtain⟨z,hz⟩:∃z,z=l.getD x 0:=⟨_,rfl⟩;obtain⟨o,ho⟩:∃o,o=orL l pre:=⟨_,rfl⟩;rw [<-hz]at c3 uW aD;rw [<-ho]at c1 uW aD;clear hz ho uG;have WS:Tryz.prog.follows .mixedOrders=true:=by kernel_rfl
  gi_wp2
  gi_region_with_o (fail)
  all_goals gi_wp2
  all_goals(try go_bits)
  all_goals exact⟨fun k o' _ ho hc=>(KeepsOthers.setCell W ⟨w.heap.size+1,0,none⟩ _).same k o' ho hc,⟨(grownBy_setCell' W _ _).size,Below.heap_setCell _ _ _ _ (by show w.heap.size+1+1≠w.heap.size+1;omega),Below.heap_setCell _ _ _ _ (by show 0≠w.heap.size+1;omega)⟩,by rw [aD.out];exact h1.set _,(Below.heap_setCell _ _ _ _ (by show w.heap.size≠w.heap.size+1;omega)).trans h2,(h3.setCell (p:=⟨w.heap.size+1,0,none⟩) (by show w.heap.size<=w.heap.size+1;omega) _).drew⟩
 case done =>
  rintro D W hD ⟨h1,h2,h3⟩ hK;have c1:=h1.cell
  gi_wp2
  refine⟨(by simp),.inl ⟨_,_,rfl,run_takeDeferred hK,?_⟩⟩;exact⟨_,results_tmp rfl _ _ _,rfl,h3.grown (grownBy_putObj' W D _) (fun k e=>(by have:=Option.some.inj e;omega))⟩
end Go.Proofs.YtkmclcmnoicagaaGreatDoor
