/- The search for a path of types, in memory. -/
import Derived.Test.YtkmclcmnoicagaaGreatDoorM01
import Derived.Test.YtkmclcmnoicagaaGreatDoorM24
import Derived.Test.YtkmclcmnoicagaaGreatDoorM25
import Derived.Test.YtkmclcmnoicagaaGreatDoorM05
namespace Go.Proofs.YtkmclcmnoicagaaGreatDoor
set_option maxRecDepth 100000
set_option maxHeartbeats 128000000
open Go.RowKit
open Go.Maps (Keyed IsMap Tidy has has_put_same has_put_other atKey_put_same atKey_put_other)
def Gt(w:World)(b:Nat)(q ps:List Nat):Prop :=
 ∃(D:D0) (n:Nat),w.ownsMap Tryz.prog 3 (plainElem Tryz.prog 3) b n D/\n<=q.length/\(∀u:Nat,has D (.int .i64 (u:Int))=decide (u∈q.tail))/\
  (∀j:Nat,1<=j->j < q.length->∀z,D.atKey (.int .i64 ((q.getD j 0:Nat):Int)) z=.lit (.int .i64 ((ps.getD j 0:Nat):Int)))
theorem Gt.made(w:World)(t:Nat):Gt (w.alloc (.map #[] 0)) w.heap.size [t] [0]:=
 ⟨.map [],0,World.ownsMap_made w _ _ _,Nat.zero_le _,fun u=>by simp [has],fun j h1 h2=>by simp at h2;omega⟩
theorem Ob {w w':World} {P:Program} {k:TypeId} {R:Value->Option (D0×List MemPlace)} {b n:Nat} {D:D0}(h:w.ownsMap P k R b n D)(hb:w'.heap[b]?=w.heap[b]?):w'.ownsMap P k R b n D:=by
 obtain⟨es,clock,h1,h2⟩:=h;exact⟨es,clock,hb.trans h1,h2⟩
theorem Gt.lt {w:World} {b:Nat} {q ps:List Nat}(h:Gt w b q ps):b < w.heap.size:=by
 obtain⟨D,n,h1,_⟩:=h;exact h1.lt
theorem Gt.kept {w w':World} {b:Nat} {q ps:List Nat}(h:Gt w b q ps)(hb:w'.heap[b]?=w.heap[b]?):Gt w' b q ps:=by
 obtain⟨D,n,h1,h2⟩:=h;exact⟨D,n,Ob h1 hb,h2⟩
theorem Gt.put {w':World} {b:Nat} {q ps:List Nat} {D:D0} {n u i:Nat}(hD:IsMap D)(hn:n<=q.length)(hh:∀u:Nat,has D (.int .i64 (u:Int))=decide (u∈q.tail))
 (ha:∀j:Nat,1<=j->j < q.length->∀z,D.atKey (.int .i64 ((q.getD j 0:Nat):Int)) z=.lit (.int .i64 ((ps.getD j 0:Nat):Int)))(hp:0 < q.length)(hl:ps.length=q.length)(hu:u∉q.tail)
 (h:w'.ownsMap Tryz.prog 3 (plainElem Tryz.prog 3) b (n+1) (D.put (.int .i64 (u:Int)) (.lit (.int .i64 (i:Int))))):Gt w' b (q++ [u]) (ps++ [i]):=by
 have hkey:WideAt.IsKeyLit (.int .i64 (u:Int)):=trivial;have other:∀v:Nat,v≠u->(Lit.int .i64 (v:Int))≠.int .i64 (u:Int):=fun v e e'=>e (by injection e' with _ e';omega)
 refine⟨_,_,h,by simp;omega,fun v=> ?_,fun j h1 h2 z=> ?_⟩
 ·rw [Tp hp];by_cases e:v=u
  ·subst e;rw [has_put_same hD hkey];simp
  rw [has_put_other (other v e),hh v];simp [e]
 by_cases hj:j < q.length
 ·have hm:=Qj2 h1 hj;have hne:q.getD j 0≠u:=fun e=>hu (e▸hm)
  rw [Dk hj,Dk (by omega),atKey_put_other (other _ hne)];exact ha j h1 hj z
 have e:j=q.length:=by simp at h2;omega
 subst e;have e2:(ps++ [i]).getD q.length 0=i:=by rw [<-hl];exact Rx
 rw [Rx,e2];exact atKey_put_same hD hkey _ z
def Gv(l:List Nat):List Value:=l.map fun(u:Nat)=>Value.int .i64 (u:Int)
structure Nx (w wr:World) (cs:Array Value) (vq:Value) (q ps:List Nat):Prop where
 ext:Ext w wr
 box:wr.heap[w.heap.size]?=some (.cells cs 138 (0,0))
 map:Gt wr (w.heap.size+1) q ps
 row:wr.ownsRow (w.heap.size+2) 3 1 vq q.length (Gv q)
section
variable {w wr W:World} {cs:Array Value} {vq:Value} {q ps:List Nat}
theorem Nx.next(h:Nx w wr cs vq q ps)(he:Ext wr W):Nx w W cs vq q ps :=
 ⟨h.ext.trans he,(he.block (Qf h.box)).trans h.box,h.map.kept (he.block h.map.lt),Zf h.row he⟩
theorem Nx.push {w6 w7 W6:World} {v7:Value} {u i:Nat}(h:Nx w wr cs vq q ps)(hg6:wr.grownBy w6 (some (w.heap.size+1)))(hmap:Gt w6 (w.heap.size+1) (q++ [u]) (ps++ [i]))(he:Ext w6 W6)
 (hown:w7.ownsRow (w.heap.size+2) 3 1 v7 (q.length+1) (Gv q++ [.int .i64 (u:Int)]))(hg7:W6.grownBy w7 vq.ownBlock):Nx w w7 cs v7 (q++ [u]) (ps++ [i]):=by
 have hvq:∀g,vq.ownBlock=some g->w.heap.size+2<=g:=fun g hg=>(h.row.lt g hg).1
 have hb6:=Qf h.box;have s6:wr.heap.size<=w6.heap.size:=hg6.size;refine⟨((h.ext.grown hg6 (fun k hk=>by injection hk with hk;omega)).trans he).grown hg7 (fun g hg=>by have:=hvq g hg;omega),?_,?_,?_⟩
 ·rw [hg7.block _ (Qy hb6 (Qx s6 he.size)) (fun e=>by have:=hvq _ e.symm;omega),he.block (Qy hb6 s6),hg6.block _ hb6 (fun e=>by injection e with e;omega)];exact h.box
 ·refine hmap.kept ?_;rw [hg7.block _ (Qy hmap.lt he.size) (fun e=>by have:=hvq _ e.symm;omega),he.block hmap.lt]
 have e:Gv (q++ [u])=Gv q++ [.int .i64 (u:Int)]:=by unfold Gv;rw [List.map_append];rfl
 rw [e,List.length_append,List.length_singleton];exact hown
theorem Nx.row6 {w6:World}(h:Nx w wr cs vq q ps)(hg6:wr.grownBy w6 (some (w.heap.size+1))):w6.ownsRow (w.heap.size+2) 3 1 vq q.length (Gv q):=
 Zs h.row fun g hg=>hg6.block g (h.row.lt g hg).2 (fun e=>by injection e with e;have:=(h.row.lt g hg).1;omega)
theorem Ge {base n:Nat} {v:Value}(h:w.ownsRow base 3 1 v n (Gv q)) {j:Nat}(hj:j < q.length)(hn:n=q.length):∃g cap,v=.slice (some ⟨g,0,none⟩) n cap/\g < w.heap.size/\base<=g/\n<=cap/\cap<=maxLen/\w.cell? ⟨g,j,none⟩=some (.int .i64 ((q.getD j 0:Nat):Int)):=by
 rcases h.2 with⟨_,h0⟩|⟨g,cap,cur,rfl,hb,hg,hnc,hm,hs,ht⟩
 ·omega
 refine⟨g,cap,rfl,Qf hg,hb,hnc,hm,?_⟩;have hz:(Gv q)[j]?=some (.int .i64 ((q.getD j 0:Nat):Int)):=by
  unfold Gv;rw [List.getElem?_map,Qv hj,Qk,Qv hj];rfl
 rw [<-ht,List.getElem?_take]at hz
 split at hz
 ·have h2:cur[j]?=some (.int .i64 ((q.getD j 0:Nat):Int)):=by simpa using hz
  simp [World.cell?,hg,h2]
 cases hz
theorem Qs3(w:World)(base:Nat)(hb:base<=w.heap.size)(t:Nat):(w.alloc (.cells #[.int .i64 (t:Int)] 3)).ownsRow base 3 1 (.slice (some ⟨w.heap.size,0,none⟩) 1 1) 1 (Gv [t]):=
 ⟨rfl,.inr ⟨w.heap.size,1,#[.int .i64 (t:Int)],rfl,hb,heap_alloc_new _ _,Nat.le_refl _,by unfold maxLen;omega,rfl,rfl⟩⟩
end
end Go.Proofs.YtkmclcmnoicagaaGreatDoor
