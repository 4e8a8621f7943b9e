/- A slice that reads as a list of nodes. -/
import Derived.Test.YtipnbfbakohcaaaDoorSpecForm
import Derived.Test.YtipnbfbakohcaaaDoorMem
namespace Go.Proofs.YtipnbfbakohcaaaDoor
open Go.RowKit

theorem block_of_add (a : Addr) (n : Nat) : (a.add n).block = a.block := by unfold Addr.add; split <;> rfl
theorem add_of_add (a : Addr) (i j : Nat) : (a.add i).add j = a.add (i + j) := by
  unfold Addr.add
  by_cases hi : i = 0 <;> by_cases hj : j = 0 <;> simp [hi, hj, Nat.add_assoc]

/-- The cells of a node at an address. -/
def NdAt (w : World) (a : Addr) (n : Nd) : Prop :=
  w.cell? a = some (.int .i64 n.op) ∧ w.cell? ⟨a.block, a.off + 1, none⟩ = some (.int .i64 n.i) ∧ w.cell? ⟨a.block, a.off + 2, none⟩ = some (.int .i64 n.e) ∧ w.cell? ⟨a.block, a.off + 3, none⟩ = some (.int .i64 n.g) ∧
    w.cell? ⟨a.block, a.off + 4, none⟩ = some (.int .i64 n.x) ∧ w.cell? ⟨a.block, a.off + 5, none⟩ = some (.int .i64 n.y)

/-- A slice value that reads as a list of nodes, with its address and its capacity. -/
def NdsAt (w : World) (A : Option Addr) (c : Nat) (l : List Nd) : Prop :=
  l.length ≤ c ∧ c ≤ maxLen ∧ (l ≠ [] → ∃ ad, A = some ad ∧ ad.block < w.heap.size ∧ ∀ k n, l[k]? = some n → NdAt w (ad.add (k * 6)) n)
def Nds (w : World) (v : Value) (l : List Nd) : Prop := ∃ A c, v = .slice A l.length c ∧ NdsAt w A c l

section
variable {w w' : World} {a : Addr} {n : Nd} {l : List Nd} {A : Option Addr} {c : Nat} {v : Value}
theorem NdAt.keep (h : NdAt w a n) (hk : ∀ p : Addr, p.block = a.block → w'.cell? p = w.cell? p) : NdAt w' a n := by
  obtain ⟨h0, h1, h2, h3, h4, h5⟩ := h
  have hk' : ∀ o s, w'.cell? ⟨a.block, o, s⟩ = w.cell? ⟨a.block, o, s⟩ := fun o s => hk ⟨a.block, o, s⟩ rfl
  exact ⟨(hk _ rfl).trans h0, (hk' _ _).trans h1, (hk' _ _).trans h2, (hk' _ _).trans h3, (hk' _ _).trans h4, (hk' _ _).trans h5⟩
theorem NdsAt.ext (h : NdsAt w A c l) (hb : Ext w w') : NdsAt w' A c l :=
  ⟨h.1, h.2.1, fun hn => by
    obtain ⟨ad, e, hlt, hc⟩ := h.2.2 hn
    exact ⟨ad, e, Nat.lt_of_lt_of_le hlt hb.size, fun k n hk => (hc k n hk).keep fun p hp => hb.cell (by rw [hp, block_of_add]; exact hlt)⟩⟩
theorem Nds.ext (h : Nds w v l) (hb : Ext w w') : Nds w' v l := by
  obtain ⟨A, c, e, h⟩ := h
  exact ⟨A, c, e, h.ext hb⟩
end
end Go.Proofs.YtipnbfbakohcaaaDoor
