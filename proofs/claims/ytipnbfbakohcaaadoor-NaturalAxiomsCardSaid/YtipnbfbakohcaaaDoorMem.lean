/- Words for memory: a world that only grew; hidden facts. -/
import Derived.WalkKit
import Derived.Lib.Hide
import Derived.Laws.OwnMore
import Derived.Deep.AppendLies
import Derived.Deep.Draws
namespace Go.Proofs.YtipnbfbakohcaaaDoor
open Go.RowKit

/-- All that was there is as it was. -/
def Ext (w w' : World) : Prop := Below w.heap.size w w'
section
variable {a b c w : World}
theorem Ext.refl (w : World) : Ext w w := Below.refl _ _
theorem Ext.size (h : Ext a b) : a.heap.size ≤ b.heap.size := Below.size h
theorem Ext.trans (h : Ext a b) (k : Ext b c) : Ext a c := Below.trans h (Below.mono k h.size)
theorem Ext.alloc (h : Ext a b) (o : Obj) : Ext a (b.alloc o) := Below.alloc h h.size o
theorem Ext.drew (h : Ext a b) : Ext a b.drew := Below.drew h
theorem Ext.drewN (h : Ext a b) (n : Nat) : Ext a (b.drewN n) := ⟨h.os, h.tape, h.output, h.size, h.block⟩
theorem Ext.setCell (h : Ext a b) {p : Addr} (hp : a.heap.size ≤ p.block) (u : Value) : Ext a (b.setCell p u) := Below.setCell h hp u
theorem Ext.grown (h : Ext a b) {row : Option Nat} (hg : b.grownBy c row) (hr : ∀ k, row = some k → a.heap.size ≤ k) : Ext a c := Below.grown h hg h.size hr
theorem Ext.cell (h : Ext a b) {p : Addr} (hp : p.block < a.heap.size) : b.cell? p = a.cell? p := Below.cell h hp
theorem Ext.frozen (h : Ext a b) {p : Addr} (hp : p.block < a.heap.size) : b.frozen? p = a.frozen? p := Below.frozen h hp
theorem Ext.block (h : Ext a b) {k : Nat} (hk : k < a.heap.size) : b.heap[k]? = a.heap[k]? := Below.block h k hk
theorem Ext.facts (h : Ext a b) : (∀ k o, k < a.heap.size → b.cell? ⟨k, o, none⟩ = a.cell? ⟨k, o, none⟩) ∧ (∀ k o, k < a.heap.size → b.frozen? ⟨k, o, none⟩ = a.frozen? ⟨k, o, none⟩) ∧ a.heap.size ≤ b.heap.size :=
  ⟨fun _ _ hk => h.cell hk, fun _ _ hk => h.frozen hk, h.size⟩
end
end Go.Proofs.YtipnbfbakohcaaaDoor
