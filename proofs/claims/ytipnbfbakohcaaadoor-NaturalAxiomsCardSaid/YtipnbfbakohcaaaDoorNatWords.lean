/- Proofs by natural deduction in memory: lines, lists of lists, the checker behind a pointer. -/
import Derived.Test.YtipnbfbakohcaaaDoorInts
namespace Go.Proofs.YtipnbfbakohcaaaDoor
open Go.RowKit

/-- A line of a proof. -/
structure Ln where
  depth : Int
  rule : Int
  f : List Nd
  agent : Int
  from_ : List Int
def LnAt (w : World) (a : Addr) (n : Ln) : Prop :=
  ∃ uf ur, w.cell? a = some (.int .i64 n.depth) ∧ w.cell? ⟨a.block, a.off + 1, none⟩ = some (.int .i64 n.rule) ∧ w.cell? ⟨a.block, a.off + 2, none⟩ = some uf ∧ w.cell? ⟨a.block, a.off + 3, none⟩ = some (.int .i64 n.agent) ∧
    w.cell? ⟨a.block, a.off + 4, none⟩ = some ur ∧ Fml w uf n.f ∧ Ints w ur n.from_
def LnsAt (w : World) (A : Option Addr) (c : Nat) (l : List Ln) : Prop :=
  l.length ≤ c ∧ c ≤ maxLen ∧ (l ≠ [] → ∃ ad, A = some ad ∧ ad.block < w.heap.size ∧ ∀ k n, l[k]? = some n → LnAt w (ad.add (k * 5)) n)
def Lns (w : World) (v : Value) (l : List Ln) : Prop := ∃ A c, v = .slice A l.length c ∧ LnsAt w A c l
def IntsLAt (w : World) (A : Option Addr) (c : Nat) (ls : List (List Int)) : Prop :=
  ls.length ≤ c ∧ c ≤ maxLen ∧ (ls ≠ [] → ∃ ad, A = some ad ∧ ad.block < w.heap.size ∧ ∀ k l, ls[k]? = some l → ∃ u, w.cell? (ad.add k) = some u ∧ Ints w u l)
def IntsL (w : World) (v : Value) (ls : List (List Int)) : Prop := ∃ A c, v = .slice A ls.length c ∧ IntsLAt w A c ls
section
variable {w w' : World} {a : Addr} {n : Ln} {v : Value}
theorem LnAt.ext (h : LnAt w a n) (he : Ext w w') (ha : a.block < w.heap.size) : LnAt w' a n := by
  obtain ⟨uf, ur, h0, h1, h2, h3, h4, h5, h6⟩ := h
  have hk : ∀ o s, w'.cell? ⟨a.block, o, s⟩ = w.cell? ⟨a.block, o, s⟩ := fun o s => he.cell (p := ⟨a.block, o, s⟩) ha
  exact ⟨uf, ur, (hk _ _).trans h0, (hk _ _).trans h1, (hk _ _).trans h2, (hk _ _).trans h3, (hk _ _).trans h4, h5.ext he, h6.ext he⟩
theorem LnsAt.ext {A : Option Addr} {c : Nat} {l : List Ln} (h : LnsAt w A c l) (he : Ext w w') : LnsAt w' A c l :=
  ⟨h.1, h.2.1, fun hn => by
    obtain ⟨ad, e, hlt, hc⟩ := h.2.2 hn
    exact ⟨ad, e, Nat.lt_of_lt_of_le hlt he.size, fun k n hk => (hc k n hk).ext he (by rw [block_of_add]; exact hlt)⟩⟩
theorem Lns.ext {l : List Ln} (h : Lns w v l) (he : Ext w w') : Lns w' v l := by
  obtain ⟨A, c, e, h⟩ := h
  exact ⟨A, c, e, h.ext he⟩
theorem IntsLAt.ext {A : Option Addr} {c : Nat} {ls : List (List Int)} (h : IntsLAt w A c ls) (he : Ext w w') : IntsLAt w' A c ls :=
  ⟨h.1, h.2.1, fun hn => by
    obtain ⟨ad, e, hlt, hc⟩ := h.2.2 hn
    refine ⟨ad, e, Nat.lt_of_lt_of_le hlt he.size, fun k l hk => ?_⟩
    obtain ⟨u, hu, hf⟩ := hc k l hk
    exact ⟨u, (he.cell (by rw [block_of_add]; exact hlt)).trans hu, hf.ext he⟩⟩
theorem IntsL.ext {ls : List (List Int)} (h : IntsL w v ls) (he : Ext w w') : IntsL w' v ls := by
  obtain ⟨A, c, e, h⟩ := h
  exact ⟨A, c, e, h.ext he⟩
end

/-- The checker behind a pointer. -/
structure Chk (w : World) (b : Nat) (lg : Int) (ls : List Ln) (fs : List (List Nd)) (st : List (List Int)) : Prop where
  all : ∃ vl vf vs, w.heap[b]? = some (.cells #[.int .i64 lg, vl, vf, vs] 51 (0, 0)) ∧ Lns w vl ls ∧ Fmls w vf fs ∧ IntsL w vs st
theorem Chk.ext {w w' : World} {b : Nat} {lg : Int} {ls : List Ln} {fs : List (List Nd)} {st : List (List Int)} (h : Chk w b lg ls fs st) (he : Ext w w') : Chk w' b lg ls fs st := by
  obtain ⟨vl, vf, vs, hb, h1, h2, h3⟩ := h.all
  exact ⟨vl, vf, vs, (he.block (lt_heap hb)).trans hb, h1.ext he, h2.ext he, h3.ext he⟩
theorem cells4 {w : World} {b : Nat} {a0 a1 a2 a3 : Value} {t : TypeId} (h : w.heap[b]? = some (.cells #[a0, a1, a2, a3] t (0, 0))) :
    w.cell? ⟨b, 0, none⟩ = some a0 ∧ w.cell? ⟨b, 1, none⟩ = some a1 ∧ w.cell? ⟨b, 2, none⟩ = some a2 ∧ w.cell? ⟨b, 3, none⟩ = some a3 ∧ (∀ j, w.frozen? ⟨b, j, none⟩ = false) ∧ b < w.heap.size :=
  ⟨by simp [World.cell?, h], by simp [World.cell?, h], by simp [World.cell?, h], by simp [World.cell?, h], fun j => by simp [World.frozen?, h], lt_heap h⟩

/-- The checker's cells and a line's: what a walk reads. -/
theorem Chk.line {w : World} {b : Nat} {lg : Int} {ls : List Ln} {fs : List (List Nd)} {st : List (List Int)} (h : Chk w b lg ls fs st) {i : Nat} {n : Ln} (hi : ls[i]? = some n) :
    ∃ (ad : Addr) (c : Nat) (vf vs uf ur : Value), ls.length ≤ c ∧ c ≤ 9223372036854775807 ∧ ad.block < w.heap.size ∧ w.cell? ⟨b, 0, none⟩ = some (.int .i64 lg) ∧ w.cell? ⟨b, 1, none⟩ = some (.slice (some ad) ls.length c) ∧ w.cell? ⟨b, 2, none⟩ = some vf ∧ w.cell? ⟨b, 3, none⟩ = some vs ∧
      w.cell? (ad.add (i * 5)) = some (.int .i64 n.depth) ∧ w.cell? ⟨(ad.add (i * 5)).block, (ad.add (i * 5)).off + 1, none⟩ = some (.int .i64 n.rule) ∧ w.cell? ⟨(ad.add (i * 5)).block, (ad.add (i * 5)).off + 2, none⟩ = some uf ∧
      w.cell? ⟨(ad.add (i * 5)).block, (ad.add (i * 5)).off + 3, none⟩ = some (.int .i64 n.agent) ∧ w.cell? ⟨(ad.add (i * 5)).block, (ad.add (i * 5)).off + 4, none⟩ = some ur ∧ Fml w uf n.f ∧ Ints w ur n.from_ := by
  obtain ⟨vl, vf, vs, hb, ⟨A, c, rfl, h1, h2, h3⟩, _, _⟩ := h.all
  obtain ⟨d0, d1, d2, d3, _, _⟩ := cells4 hb
  obtain ⟨ad, rfl, hlt, hc⟩ := h3 (by intro e; rw [e] at hi; simp at hi)
  obtain ⟨uf, ur, q0, q1, q2, q3, q4, q5, q6⟩ := hc i n hi
  unfold maxLen at h2
  exact ⟨ad, c, vf, vs, uf, ur, h1, by omega, hlt, d0, d1, d2, d3, q0, q1, q2, q3, q4, q5, q6⟩

def opensL (n : Ln) : Bool := n.rule == 1 || n.rule == 2
set_option maxRecDepth 100000 in
set_option maxHeartbeats 1000000 in
theorem opens_any {w : World} {b : Nat} {lg : Int} {ls : List Ln} {fs : List (List Nd)} {st : List (List Int)} (h : Chk w b lg ls fs st) (i : Nat) (n : Ln) (hi : ls[i]? = some n) :
    Calls Tryd.prog 42 #[.pointer (some ⟨b, 0, none⟩), .int .i64 i] w fun e w' => e = .returned (.bool (opensL n)) ∧ Ext w w' := by
  obtain ⟨ad, c, vf, vs, uf, ur, hc1, hc2, hlt, d0, d1, d2, d3, q0, q1, q2, q3, q4, _, _⟩ := h.line hi
  have hil : i < ls.length := (List.getElem?_eq_some_iff.1 hi).1
  clear h hi
  by_cases h1 : n.rule = 1
  · have e1 : (n.rule == 1) = true := by simp [h1]
    clear h1
    go_enter Tryd.func42, Tryd.ntmps42
    go_wp2_with fail
    go_ret
    exact ⟨same_of (by simp [opensL, e1]), Ext.refl _⟩
  · have e1 : (n.rule == 1) = false := by simpa using h1
    clear h1
    go_enter Tryd.func42, Tryd.ntmps42
    go_wp2_with fail
    go_ret
    exact ⟨same_of (by simp [opensL, e1]), Ext.refl _⟩
end Go.Proofs.YtipnbfbakohcaaaDoor
