/- Refutations in memory: steps, sets, the checker behind a pointer. -/
import Derived.Test.YtdpblciohodgcaaGreatDoorS08

namespace Go.Proofs.YtdpblciohodgcaaGreatDoor
open Go.RowKit

def SpAt (w : World) (a : Addr) (n : Stp) : Prop :=
  ∃ ur, w.cell? a = some (.int .u64 (n.set : Int)) ∧ w.cell? ⟨a.block, a.off + 1, none⟩ = some (.int .i64 n.rule) ∧ w.cell? ⟨a.block, a.off + 2, none⟩ = some (.int .i64 n.on) ∧ w.cell? ⟨a.block, a.off + 3, none⟩ = some (.int .i64 n.e) ∧
    w.cell? ⟨a.block, a.off + 4, none⟩ = some ur ∧ Ints w ur n.from_ ∧ n.set < 18446744073709551616
def SpsAt (w : World) (A : Option Addr) (c : Nat) (l : List Stp) : Prop :=
  l.length ≤ c ∧ c ≤ maxLen ∧ (l ≠ [] → ∃ ad, A = some ad ∧ ad.block < w.heap.size ∧ ∀ k n, l[k]? = some n → SpAt w (ad.add (k * 5)) n)
def Sps (w : World) (v : Value) (l : List Stp) : Prop := ∃ A c, v = .slice A l.length c ∧ SpsAt w A c l
def SetsAt (w : World) (A : Option Addr) (c : Nat) (l : List Nat) : Prop :=
  l.length ≤ c ∧ c ≤ maxLen ∧ (l ≠ [] → ∃ ad, A = some ad ∧ ad.block < w.heap.size ∧ ∀ k (z : Nat), l[k]? = some z → w.cell? (ad.add k) = some (.int .u64 (z : Int)) ∧ z < 18446744073709551616)
def Sets (w : World) (v : Value) (l : List Nat) : Prop := ∃ A c, v = .slice A l.length c ∧ SetsAt w A c l
section
variable {w w' : World} {a : Addr} {n : Stp} {v : Value}
theorem SpAt.ext (h : SpAt w a n) (he : Ext w w') (ha : a.block < w.heap.size) : SpAt w' a n := by
  obtain ⟨ur, h0, h1, h2, h3, h4, h5, h6⟩ := h
  have hk : ∀ o s, w'.cell? ⟨a.block, o, s⟩ = w.cell? ⟨a.block, o, s⟩ := fun o s => he.cell (p := ⟨a.block, o, s⟩) ha
  exact ⟨ur, (hk _ _).trans h0, (hk _ _).trans h1, (hk _ _).trans h2, (hk _ _).trans h3, (hk _ _).trans h4, h5.ext he, h6⟩
theorem SpsAt.ext {A : Option Addr} {c : Nat} {l : List Stp} (h : SpsAt w A c l) (he : Ext w w') : SpsAt w' A c l :=
  ⟨h.1, h.2.1, fun hn => by
    obtain ⟨ad, e, hlt, hc⟩ := h.2.2 hn
    exact ⟨ad, e, Nat.lt_of_lt_of_le hlt he.size, fun k n hk => (hc k n hk).ext he (by rw [block_of_add]; exact hlt)⟩⟩
theorem Sps.ext {l : List Stp} (h : Sps w v l) (he : Ext w w') : Sps w' v l := by
  obtain ⟨A, c, e, h⟩ := h
  exact ⟨A, c, e, h.ext he⟩
theorem SetsAt.ext {A : Option Addr} {c : Nat} {l : List Nat} (h : SetsAt w A c l) (he : Ext w w') : SetsAt w' A c l :=
  ⟨h.1, h.2.1, fun hn => by
    obtain ⟨ad, e, hlt, hc⟩ := h.2.2 hn
    exact ⟨ad, e, Nat.lt_of_lt_of_le hlt he.size, fun k z hk => ⟨(he.cell (by rw [block_of_add]; exact hlt)).trans (hc k z hk).1, (hc k z hk).2⟩⟩⟩
theorem Sets.ext {l : List Nat} (h : Sets w v l) (he : Ext w w') : Sets w' v l := by
  obtain ⟨A, c, e, h⟩ := h
  exact ⟨A, c, e, h.ext he⟩
theorem Sets.none_ (w : World) : Sets w (.slice none 0 0) [] := ⟨none, 0, rfl, Nat.le_refl _, by unfold maxLen; omega, fun h => absurd rfl h⟩
end
/-- The checker behind a pointer. -/
structure SChk (w : World) (b : Nat) (lg : Int) (base : List Nd) (steps : List Stp) (opps : List Int) : Prop where
  all : ∃ vb vs vo, w.heap[b]? = some (.cells #[.int .i64 lg, vb, vs, vo] 73 (0, 0)) ∧ Fml w vb base ∧ Sps w vs steps ∧ Ints w vo opps
theorem SChk.ext {w w' : World} {b : Nat} {lg : Int} {base : List Nd} {steps : List Stp} {opps : List Int} (h : SChk w b lg base steps opps) (he : Ext w w') : SChk w' b lg base steps opps := by
  obtain ⟨vb, vs, vo, hb, h1, h2, h3⟩ := h.all
  exact ⟨vb, vs, vo, (he.block (lt_heap hb)).trans hb, h1.ext he, h2.ext he, h3.ext he⟩
theorem cells4s {w : World} {b : Nat} {a0 a1 a2 a3 : Value} {t : TypeId} (h : w.heap[b]? = some (.cells #[a0, a1, a2, a3] t (0, 0))) :
    w.cell? ⟨b, 0, none⟩ = some a0 ∧ w.cell? ⟨b, 1, none⟩ = some a1 ∧ w.cell? ⟨b, 2, none⟩ = some a2 ∧ w.cell? ⟨b, 3, none⟩ = some a3 ∧ (∀ j, w.frozen? ⟨b, j, none⟩ = false) ∧ b < w.heap.size :=
  ⟨by simp [World.cell?, h], by simp [World.cell?, h], by simp [World.cell?, h], by simp [World.cell?, h], fun j => by simp [World.frozen?, h], lt_heap h⟩
theorem cells5s {w : World} {b : Nat} {a0 a1 a2 a3 a4 : Value} {t : TypeId} (h : w.heap[b]? = some (.cells #[a0, a1, a2, a3, a4] t (0, 0))) :
    w.cell? ⟨b, 0, none⟩ = some a0 ∧ w.cell? ⟨b, 1, none⟩ = some a1 ∧ w.cell? ⟨b, 2, none⟩ = some a2 ∧ w.cell? ⟨b, 3, none⟩ = some a3 ∧ w.cell? ⟨b, 4, none⟩ = some a4 ∧ (∀ j, w.frozen? ⟨b, j, none⟩ = false) ∧ b < w.heap.size :=
  ⟨by simp [World.cell?, h], by simp [World.cell?, h], by simp [World.cell?, h], by simp [World.cell?, h], by simp [World.cell?, h], fun j => by simp [World.frozen?, h], lt_heap h⟩
theorem SChk.blt {w : World} {b : Nat} {lg : Int} {base : List Nd} {steps : List Stp} {opps : List Int} (h : SChk w b lg base steps opps) : b < w.heap.size := by
  obtain ⟨vb, vs, vo, hb, _⟩ := h.all
  exact lt_heap hb
/-- The checker's cells: what a walk reads. -/
theorem SChk.cells {w : World} {b : Nat} {lg : Int} {base : List Nd} {steps : List Stp} {opps : List Int} (h : SChk w b lg base steps opps) :
    ∃ Ab cb As cs Ao co, w.cell? ⟨b, 0, none⟩ = some (.int .i64 lg) ∧ w.cell? ⟨b, 1, none⟩ = some (.slice Ab base.length cb) ∧ w.cell? ⟨b, 2, none⟩ = some (.slice As steps.length cs) ∧ w.cell? ⟨b, 3, none⟩ = some (.slice Ao opps.length co) ∧
      Fml w (.slice Ab base.length cb) base ∧ Sps w (.slice As steps.length cs) steps ∧ Ints w (.slice Ao opps.length co) opps := by
  obtain ⟨vb, vs, vo, hb, h1, ⟨As, cs, rfl, h2⟩, ⟨Ao, co, rfl, h3⟩⟩ := h.all
  obtain ⟨d0, d1, d2, d3, _, _⟩ := cells4s hb
  obtain ⟨Ab, cb, rfl, _⟩ := fml_slice h1
  exact ⟨Ab, cb, As, cs, Ao, co, d0, d1, d2, d3, h1, ⟨_, _, rfl, h2⟩, ⟨_, _, rfl, h3⟩⟩
/-- What a walk reads of the checker and of one step. -/
theorem SChk.step {w : World} {b : Nat} {lg : Int} {base : List Nd} {steps : List Stp} {opps : List Int} (h : SChk w b lg base steps opps) {i : Nat} {n : Stp} (hi : steps[i]? = some n) :
    ∃ (ad : Addr) (c : Nat) (ur : Value), steps.length ≤ c ∧ c ≤ 9223372036854775807 ∧ ad.block < w.heap.size ∧ w.cell? ⟨b, 2, none⟩ = some (.slice (some ad) steps.length c) ∧
      w.cell? (ad.add (i * 5)) = some (.int .u64 (n.set : Int)) ∧ w.cell? ⟨(ad.add (i * 5)).block, (ad.add (i * 5)).off + 1, none⟩ = some (.int .i64 n.rule) ∧ w.cell? ⟨(ad.add (i * 5)).block, (ad.add (i * 5)).off + 2, none⟩ = some (.int .i64 n.on) ∧
      w.cell? ⟨(ad.add (i * 5)).block, (ad.add (i * 5)).off + 3, none⟩ = some (.int .i64 n.e) ∧ w.cell? ⟨(ad.add (i * 5)).block, (ad.add (i * 5)).off + 4, none⟩ = some ur ∧ Ints w ur n.from_ ∧ n.set < 18446744073709551616 := by
  obtain ⟨vb, vs, vo, hb, _, ⟨A, c, rfl, h1, h2, h3⟩, _⟩ := h.all
  obtain ⟨d0, d1, d2, d3, _, _⟩ := cells4s hb
  obtain ⟨ad, rfl, hlt, hc⟩ := h3 (by intro e; rw [e] at hi; simp at hi)
  obtain ⟨ur, q0, q1, q2, q3, q4, q5, q6⟩ := hc i n hi
  unfold maxLen at h2
  exact ⟨ad, c, ur, h1, by omega, hlt, d2, q0, q1, q2, q3, q4, q5, q6⟩
end Go.Proofs.YtdpblciohodgcaaGreatDoor
