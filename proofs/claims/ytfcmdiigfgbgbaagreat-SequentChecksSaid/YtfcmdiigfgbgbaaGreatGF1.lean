/- The formulas of the language as plain Lean data: nodes, the fields that operators use, the error of a node and of a list. No program in sight. -/
import Derived.WalkKit
import Derived.Lib.Hide
import Derived.Laws.OwnMore
import Derived.Deep.AppendLies
import Derived.Deep.Draws
import Derived.OrdersHeld
import Derived.Deep.RegionHeld

namespace Go.Proofs.YtfcmdiigfgbgbaaGreat
open Go.RowKit

structure Nd where
  op : Int
  i : Int
  e : Int
  g : Int
  x : Int
  y : Int
deriving DecidableEq

def Nd.cells (n : Nd) : List Value := [.int .i64 n.op, .int .i64 n.i, .int .i64 n.e, .int .i64 n.g, .int .i64 n.x, .int .i64 n.y]
def Nd.val (n : Nd) : Value := .agg #[.int .i64 n.op, .int .i64 n.i, .int .i64 n.e, .int .i64 n.g, .int .i64 n.x, .int .i64 n.y]

def isOp (op : Int) : Bool := decide (1 ≤ op) && decide (op ≤ 21)
def hasX (op : Int) : Bool := decide (4 ≤ op) && decide (op ≤ 21)
def hasY (op : Int) : Bool := (decide (5 ≤ op) && decide (op ≤ 8)) || op == 13 || op == 14 || op == 16 || op == 19 || op == 21
def hasFact (op : Int) : Bool := op == 3
def hasAgent (op : Int) : Bool := op == 9 || op == 10 || op == 14 || op == 15
def hasGroup (op : Int) : Bool := decide (11 ≤ op) && decide (op ≤ 13)
def hasEvent (op : Int) : Bool := op == 17
def fragOf (op : Int) : Int :=
  if op == 9 || op == 10 then 1 else if op == 11 then 2 else if op == 12 then 4 else if op == 13 then 8 else if op == 14 then 16 else if op == 15 then 32
  else if op == 16 then 64 else if op == 17 then 128 else if decide (18 ≤ op) && decide (op ≤ 21) then 256 else 0
def useV (op : Int) : Value :=
  .agg #[.bool (hasX op), .bool (hasY op), .bool (hasFact op), .bool (hasAgent op), .bool (hasGroup op), .bool (hasEvent op), .int .i64 (fragOf op)]

/-- An operand's field: in range if it is used, else 0. -/
def operandOk (used : Bool) (field at_ : Int) : Bool := bif used then decide (0 ≤ field) && decide (field < at_) else field == 0
def outsideB (used : Bool) (v low high : Int) : Bool := used && (decide (v < low) || decide (high < v))
def formBad (n : Nd) : Bool := (!(hasFact n.op || hasAgent n.op || hasEvent n.op) && n.i != 0) || (!hasEvent n.op && n.e != 0) || (!hasGroup n.op && n.g != 0)
def rangeBad (n : Nd) : Bool :=
  outsideB (hasFact n.op) n.i 0 7 || outsideB (hasAgent n.op) n.i 0 3 || outsideB (hasEvent n.op) n.i 0 7 || outsideB (hasEvent n.op) n.e 0 7 || outsideB (hasGroup n.op) n.g 1 15
/-- The error of a node at a place. -/
def nodeErr (n : Nd) (at_ : Int) : Int :=
  bif !isOp n.op then 10 else bif !operandOk (hasX n.op) n.x at_ || !operandOk (hasY n.op) n.y at_ then 3 else bif formBad n then 3 else bif rangeBad n then 2 else 0

theorem op_cases (op : Int) : op ≤ 0 ∨ 22 ≤ op ∨ op = 1 ∨ op = 2 ∨ op = 3 ∨ op = 4 ∨ op = 5 ∨ op = 6 ∨ op = 7 ∨ op = 8 ∨ op = 9 ∨ op = 10 ∨ op = 11 ∨ op = 12 ∨ op = 13 ∨ op = 14 ∨ op = 15 ∨ op = 16 ∨ op = 17 ∨ op = 18 ∨ op = 19 ∨ op = 20 ∨ op = 21 := by omega

theorem isOp_iff (op : Int) : isOp op = true ↔ 1 ≤ op ∧ op ≤ 21 := by simp [isOp]
/-- At most one of the four kinds of fields is used. -/
theorem kinds (op : Int) : (hasFact op = false ∧ hasAgent op = false ∧ hasGroup op = false ∧ hasEvent op = false) ∨ (hasFact op = true ∧ hasAgent op = false ∧ hasGroup op = false ∧ hasEvent op = false) ∨
    (hasFact op = false ∧ hasAgent op = true ∧ hasGroup op = false ∧ hasEvent op = false) ∨ (hasFact op = false ∧ hasAgent op = false ∧ hasGroup op = true ∧ hasEvent op = false) ∨
    (hasFact op = false ∧ hasAgent op = false ∧ hasGroup op = false ∧ hasEvent op = true) := by
  rcases op_cases op with h | h | h | h | h | h | h | h | h | h | h | h | h | h | h | h | h | h | h | h | h | h | h
  · left; simp [hasFact, hasAgent, hasGroup, hasEvent]; omega
  · left; simp [hasFact, hasAgent, hasGroup, hasEvent]; omega
  all_goals (subst h; decide)

/-- The error of the first wrong node of a list whose first node stands at a place. -/
def checkNodes : List Nd → Int → Int
  | [], _ => 0
  | n :: r, a => bif nodeErr n a != 0 then nodeErr n a else checkNodes r (a + 1)
/-- The error of a formula. -/
def check (l : List Nd) : Int := bif decide (l.length = 0) then 3 else bif decide (200 < l.length) then 8 else checkNodes l 0

theorem checkNodes_step (l : List Nd) (k : Nat) (n : Nd) (h : l[k]? = some n) :
    checkNodes (l.drop k) k = bif nodeErr n k != 0 then nodeErr n k else checkNodes (l.drop (k + 1)) ((k + 1 : Nat) : Int) := by
  obtain ⟨hk, rfl⟩ := List.getElem?_eq_some_iff.1 h
  rw [List.drop_eq_getElem_cons hk]
  rfl
end Go.Proofs.YtfcmdiigfgbgbaaGreat

/- Words for memory: a world that only grew; hidden facts. -/

namespace Go.Proofs.YtfcmdiigfgbgbaaGreat
open Go.RowKit

/-- All that was there is as it was. -/
def Ext (w w' : World) : Prop := Below w.heap.size w w'
section
variable {a b c w : World}
theorem Ext.refl (w : World) : Ext w w := Below.refl _ _
theorem Ext.size (h : Ext a b) : a.heap.size ≤ b.heap.size := Below.size h
theorem Ext.trans (h : Ext a b) (k : Ext b c) : Ext a c := Below.trans h (Below.mono k h.size)
theorem Ext.alloc (h : Ext a b) (o : Obj) : Ext a (b.alloc o) := Below.alloc h h.size o
theorem Ext.drew (h : Ext a b) : Ext a b.drew := Below.drew h
theorem Ext.drewN (h : Ext a b) (n : Nat) : Ext a (b.drewN n) := ⟨h.os, h.tape, h.output, h.size, h.block⟩
theorem Ext.setCell (h : Ext a b) {p : Addr} (hp : a.heap.size ≤ p.block) (u : Value) : Ext a (b.setCell p u) := Below.setCell h hp u
theorem Ext.grown (h : Ext a b) {row : Option Nat} (hg : b.grownBy c row) (hr : ∀ k, row = some k → a.heap.size ≤ k) : Ext a c := Below.grown h hg h.size hr
theorem Ext.cell (h : Ext a b) {p : Addr} (hp : p.block < a.heap.size) : b.cell? p = a.cell? p := Below.cell h hp
theorem Ext.frozen (h : Ext a b) {p : Addr} (hp : p.block < a.heap.size) : b.frozen? p = a.frozen? p := Below.frozen h hp
theorem Ext.block (h : Ext a b) {k : Nat} (hk : k < a.heap.size) : b.heap[k]? = a.heap[k]? := Below.block h k hk
theorem Ext.facts (h : Ext a b) : (∀ k o, k < a.heap.size → b.cell? ⟨k, o, none⟩ = a.cell? ⟨k, o, none⟩) ∧ (∀ k o, k < a.heap.size → b.frozen? ⟨k, o, none⟩ = a.frozen? ⟨k, o, none⟩) ∧ a.heap.size ≤ b.heap.size :=
  ⟨fun _ _ hk => h.cell hk, fun _ _ hk => h.frozen hk, h.size⟩
end
end Go.Proofs.YtfcmdiigfgbgbaaGreat

/- Short forms of the moves of a walk through a region that draws its order. -/

namespace Go.Proofs.YtfcmdiigfgbgbaaGreat
open Go.RowKit

section
variable {P : Program} {md : Region.Mode} {ops : Array Oper} {Q : Exit → Act → World → Prop} {S : World → Prop}
/-- An operation is taken: its value is what it yields in every world that meets S. -/
theorem tk (i : Nat) {oi : Oper} {v : Value} {fuel : Nat} {listed : Array Bool} {a a' : Act} {w : World} (hS : S w)
    (h : wpAnyH P md ops Q S fuel (listed.setIfInBounds i true) a' w)
    (hi : ops[i]? = some oi := by exact rfl) (hs : Region.noSelect ops = true := by kernel_rfl) (hf : Region.free md ops listed i = true := by kernel_rfl) (hr : (Region.ready md ops listed).contains i = true := by kernel_rfl)
    (hy : YieldsIf P ops S oi v a := by refine Or.inl ⟨by rfl, ?_⟩; intro w' hSw; (try dsimp only at hSw); go_simp; (try with_reducible rfl))
    (hQ : ∀ c a w, Q (.panic c) (a.put oi.dst v) w → Q (.panic c) a w := by exact fun _ _ _ h => h)
    (ha : a.put oi.dst v = a' := by (try simp only [Act.put, List.setIfInBounds_toArray, List.set_cons_zero, List.set_cons_succ, List.getElem_toArray, List.getElem_cons_succ, List.getElem_cons_zero]); exact rfl) : wpAnyH P md ops Q S (fuel + 1) listed a w :=
  wpAnyH_take hi hs hf hr hQ hy hS (by rw [ha]; exact h)
/-- An operation that is not wanted is passed over. -/
theorem un (i : Nat) {oi : Oper} {fuel : Nat} {listed : Array Bool} {a a' : Act} {w : World} (hS : S w)
    (h : wpAnyH P md ops Q S fuel (listed.setIfInBounds i true) a' w)
    (hi : ops[i]? = some oi := by exact rfl) (hs : Region.noSelect ops = true := by kernel_rfl) (hf : Region.free md ops listed i = true := by kernel_rfl) (hr : (Region.ready md ops listed).contains i = true := by kernel_rfl)
    (hy : YieldsIf P ops S oi undef a := by exact Or.inr ⟨by rfl, rfl⟩)
    (hQ : ∀ c a w, Q (.panic c) (a.put oi.dst undef) w → Q (.panic c) a w := by exact fun _ _ _ h => h)
    (ha : a.put oi.dst undef = a' := by (try simp only [Act.put, List.setIfInBounds_toArray, List.set_cons_zero, List.set_cons_succ, List.getElem_toArray, List.getElem_cons_succ, List.getElem_cons_zero]); exact rfl) : wpAnyH P md ops Q S (fuel + 1) listed a w :=
  wpAnyH_take hi hs hf hr hQ hy hS (by rw [ha]; exact h)
end
section
variable {a b c : World} {p : Addr} {v : Value}
/-- A cell that was there is as it was. -/
theorem xc (hb : p.block < a.heap.size) (f : a.cell? p = some v) (h : Ext a b := by repeat (first | exact Ext.refl _ | assumption | apply Ext.alloc | apply Ext.drew)) : b.cell? p = some v := (h.cell hb).trans f
/-- A world behind a call. -/
theorem xt (h : Ext b c) (e : Ext a b := by repeat (first | exact Ext.refl _ | assumption | apply Ext.alloc | apply Ext.drew)) : Ext a c := e.trans h
/-- The world as it stands. -/
theorem xw (e : Ext a b := by repeat (first | exact Ext.refl _ | assumption | apply Ext.alloc | apply Ext.drew)) : Ext a b := e
end
end Go.Proofs.YtfcmdiigfgbgbaaGreat
