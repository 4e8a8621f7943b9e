/- The reference's space of types in memory: slices of slices of bools; rows of bools with room to grow. -/
import Derived.Test.YtbfeodammikajaaGreatG19
import Derived.Test.YtbfeodammikajaaGreatG25
import Derived.ArgAppend

namespace Go.Proofs.YtbfeodammikajaaGreat
open Go.RowKit

/-- A slice of slices of bools. -/
def Bls (w : World) (v : Value) (l : List (List Bool)) : Prop :=
  ∃ A c, v = .slice A l.length c ∧ l.length ≤ c ∧ c ≤ maxLen ∧ (l ≠ [] → ∃ ad, A = some ad ∧ ad.block < w.heap.size ∧ ∀ (k : Nat) s, l[k]? = some s → ∃ u, w.cell? (ad.add k) = some u ∧ Bools w u s)
theorem Bls.ext {w w' : World} {v : Value} {l : List (List Bool)} (h : Bls w v l) (he : Ext w w') : Bls w' v l := by
  obtain ⟨A, c, e, h1, h2, h3⟩ := h
  refine ⟨A, c, e, h1, h2, fun hn => ?_⟩
  obtain ⟨ad, e, hlt, hc⟩ := h3 hn
  refine ⟨ad, e, Nat.lt_of_lt_of_le hlt he.size, fun k s hk => ?_⟩
  obtain ⟨u, hu, hb⟩ := hc k s hk
  exact ⟨u, (he.cell (by rw [block_of_add]; exact hlt)).trans hu, hb.ext he⟩
/-- A row of bools that a call has made, with room to grow. -/
def MadeB (base : Nat) (w : World) (v : Value) (l : List Bool) : Prop := w.ownsRow base 4 1 v l.length (l.map Value.bool)
section
variable {base : Nat} {w w' : World} {v : Value} {l : List Bool}
theorem MadeB.nil (base : Nat) (w : World) : MadeB base w (.slice none 0 0) [] := World.ownsRow_nil _ _ _ _
theorem MadeB.ext (h : MadeB base w v l) (he : Ext w w') : MadeB base w' v l := row_ext h he
theorem MadeB.bools (h : MadeB base w v l) : Bools w v l := by
  unfold MadeB at h
  have e : l.map Value.bool = l.flatMap fun b => [Value.bool b] := List.map_eq_flatMap
  rw [e] at h
  obtain ⟨A, cap, rfl, h1, h2, h3⟩ := row_cells (f := fun b => [Value.bool b]) (c := 1) (fun _ => rfl) h
  refine ⟨A, cap, rfl, h1, h2, fun hn => ?_⟩
  obtain ⟨g, rfl, hg, hc⟩ := h3 hn
  refine ⟨_, rfl, hg, fun k z hk => ?_⟩
  have := hc k z hk 0 (by omega) _ rfl
  rw [addr_zero]
  simpa using this
theorem MadeB.slice (h : MadeB base w v l) (h0 : 0 < l.length) : ∃ g cap, v = .slice (some ⟨g, 0, none⟩) l.length cap ∧ g < w.heap.size ∧ base ≤ g ∧ l.length ≤ cap ∧ cap ≤ maxLen ∧ (∀ i z, l[i]? = some z → w.cell? ⟨g, i, none⟩ = some (.bool z)) ∧ ∀ i, w.frozen? ⟨g, i, none⟩ = false := by
  rcases h.2 with ⟨_, e0⟩ | ⟨g, cap, cur, rfl, hb, hg, hnc, hm, hs, ht⟩
  · omega
  · refine ⟨g, cap, rfl, lt_heap hg, hb, hnc, hm, fun i z hz => ?_, fun i => by simp [World.frozen?, hg]⟩
    have h1 : (l.map Value.bool)[i]? = some (.bool z) := by rw [List.getElem?_map, hz]; rfl
    rw [← ht, List.getElem?_take] at h1
    split at h1
    · have h2 : cur[i]? = some (.bool z) := by simpa using h1
      simp [World.cell?, hg, h2]
    · cases h1
theorem MadeB.set {g cap : Nat} (h : MadeB base w (.slice (some ⟨g, 0, none⟩) l.length cap) l) (j : Nat) (b : Bool) : MadeB base (w.setCell ⟨g, j, none⟩ (.bool b)) (.slice (some ⟨g, 0, none⟩) l.length cap) (l.set j b) ∧ w.grownBy (w.setCell ⟨g, j, none⟩ (.bool b)) (some g) := by
  obtain ⟨h1, h2⟩ := World.ownsRow.stored h j (.bool b)
  refine ⟨?_, h2⟩
  unfold MadeB
  rw [List.length_set, List.map_set]
  exact h1
end
theorem frz_of_made {X : Nat → Prop} {base : Nat} {w : World} {v : Value} {l : List Bool} (h : MadeB base w v l) (hg : ∀ g, v.ownBlock = some g → ¬ X g) : Frz X w fun w' => Bools w' v l := fun w2 h2 =>
  MadeB.bools (row_keep h fun k hk => h2.2 k (hg k hk) (h.lt k hk).2 : MadeB base w2 v l)
/-- The space of a base, behind a pointer. -/
structure SpcAt (w : World) (s : Nat) (lg : Int) (base : List (List Nd)) : Prop where
  cells : ∃ vb vo v1 v2 v3, w.heap[s]? = some (.cells #[.int .i64 lg, vb, vo, v1, v2, v3] 108 (0, 0)) ∧ Fmls w vb base ∧ Nds w vo ((List.range base.length).map (topN base)) ∧ Bls w v1 ((List.range base.length).map (bodyN base)) ∧ Bls w v2 ((List.range base.length).map (condN base)) ∧ Bls w v3 ((List.range base.length).map (lastT base))
theorem SpcAt.ext {w w' : World} {s : Nat} {lg : Int} {base : List (List Nd)} (h : SpcAt w s lg base) (he : Ext w w') : SpcAt w' s lg base := by
  obtain ⟨vb, vo, v1, v2, v3, hb, h1, h2, h3, h4, h5⟩ := h.cells
  exact ⟨vb, vo, v1, v2, v3, (he.block (lt_heap hb)).trans hb, h1.ext he, h2.ext he, h3.ext he, h4.ext he, h5.ext he⟩
end Go.Proofs.YtbfeodammikajaaGreat

/- A queue of integers: a slice of a row of the call's own that is cut at its head. -/

namespace Go.Proofs.YtbfeodammikajaaGreat
open Go.RowKit

/-- The queue's slice, somewhere in a block of the call's own. -/
def Que (base : Nat) (w : World) (v : Value) (q : List Nat) : Prop :=
  ∃ g off cap cur, v = .slice (some ⟨g, off, none⟩) q.length cap ∧ base ≤ g ∧ w.heap[g]? = some (.cells cur 3 (0, 0)) ∧ q.length ≤ cap ∧ cap ≤ maxLen ∧ off + cap ≤ cur.size ∧ ∀ (j u : Nat), q[j]? = some u → cur[off + j]? = some (.int .i64 (u : Int))
section
variable {base : Nat} {w w' : World} {v : Value} {q : List Nat}
theorem Que.keep (h : Que base w v q) (hk : ∀ k, v.ownBlock = some k → w'.heap[k]? = w.heap[k]?) : Que base w' v q := by
  obtain ⟨g, off, cap, cur, rfl, h1, h2, h3, h4, h5, h6⟩ := h
  exact ⟨g, off, cap, cur, rfl, h1, (hk g rfl).trans h2, h3, h4, h5, h6⟩
theorem Que.lt (h : Que base w v q) {k : Nat} (hk : v.ownBlock = some k) : base ≤ k ∧ k < w.heap.size := by
  obtain ⟨g, off, cap, cur, rfl, h1, h2, _⟩ := h
  injection hk with hk
  subst hk
  exact ⟨h1, lt_heap h2⟩
theorem Que.ext (h : Que base w v q) (he : Ext w w') : Que base w' v q := h.keep fun _ hk => he.block (h.lt hk).2
/-- What the walk reads. -/
theorem Que.read (h : Que base w v q) : ∃ g off cap, v = .slice (some ⟨g, off, none⟩) q.length cap ∧ g < w.heap.size ∧ base ≤ g ∧ q.length ≤ cap ∧ cap ≤ maxLen ∧ (∀ (j u : Nat), q[j]? = some u → w.cell? ⟨g, off + j, none⟩ = some (.int .i64 (u : Int))) ∧ (∀ j, j < cap → (w.cell? ⟨g, off + j, none⟩).isSome = true) ∧ (∀ j, w.frozen? ⟨g, j, none⟩ = false) := by
  obtain ⟨g, off, cap, cur, rfl, h1, h2, h3, h4, h5, h6⟩ := h
  refine ⟨g, off, cap, rfl, lt_heap h2, h1, h3, h4, fun j u hj => by simp [World.cell?, h2, h6 j u hj], fun j hj => ?_, fun j => by simp [World.frozen?, h2]⟩
  have hlt : off + j < cur.size := by omega
  simp [World.cell?, h2, hlt]
theorem Que.start (hb : base ≤ w.heap.size) (t : Nat) : Que base (w.alloc (.cells #[.int .i64 (t : Int)] 3)) (.slice (some ⟨w.heap.size, 0, none⟩) 1 1) [t] :=
  ⟨w.heap.size, 0, 1, _, rfl, hb, heap_alloc_new _ _, Nat.le_refl _, by unfold maxLen; omega, Nat.le_refl _, fun j u hj => by
    have hl := (List.getElem?_eq_some_iff.1 hj).1
    have : j = 0 := by simpa using hl
    subst this
    obtain rfl : t = u := by simpa using hj
    rfl⟩
/-- The head is cut off. -/
theorem Que.cut {g off cap x : Nat} (h : Que base w (.slice (some ⟨g, off, none⟩) (x :: q).length cap) (x :: q)) : Que base w (.slice (some ⟨g, off + 1, none⟩) q.length (cap - 1)) q := by
  obtain ⟨g', off', cap', cur, e, h1, h2, h3, h4, h5, h6⟩ := h
  injection e with e1 _ e2
  injection e1 with e1
  injection e1 with ea eb
  subst ea eb e2
  rw [List.length_cons] at h3
  refine ⟨g, off + 1, cap - 1, cur, rfl, h1, h2, by omega, by omega, by omega, fun j u hj => ?_⟩
  have := h6 (j + 1) u (by simpa using hj)
  rw [show off + 1 + j = off + (j + 1) by omega]
  exact this
theorem Que.of_row {b : Nat} {n : Nat} (hb : base ≤ b) (hn : n = q.length) (hq : 0 < q.length) (h : w.ownsRow b 3 1 v n (q.map fun (u : Nat) => Value.int .i64 (u : Int))) : Que base w v q := by
  subst hn
  rcases h.2 with ⟨_, e0⟩ | ⟨g, cap, cur, rfl, hg, h2, h3, h4, h5, h6⟩
  · omega
  · refine ⟨g, 0, cap, cur, rfl, Nat.le_trans hb hg, h2, h3, h4, by omega, fun j u hj => ?_⟩
    have h7 : (q.map fun (u : Nat) => Value.int .i64 (u : Int))[j]? = some (.int .i64 (u : Int)) := by rw [List.getElem?_map, hj]; rfl
    rw [← h6, List.getElem?_take] at h7
    split at h7
    · rw [Nat.zero_add]; simpa using h7
    · cases h7
/-- One is appended where there is room. -/
theorem Que.room {g off cap u : Nat} (h : Que base w (.slice (some ⟨g, off, none⟩) q.length cap) q) (hr : q.length + 1 ≤ cap) : Que base (w.setCells g (off + q.length * 1) [.int .i64 (u : Int)]) (.slice (some ⟨g, off, none⟩) (q.length + 1) cap) (q ++ [u]) ∧ w.grownBy (w.setCells g (off + q.length * 1) [.int .i64 (u : Int)]) (some g) := by
  obtain ⟨g', off', cap', cur, e, h1, h2, h3, h4, h5, h6⟩ := h
  injection e with e1 _ e2
  injection e1 with e1
  injection e1 with ea eb
  subst ea eb e2
  have es : w.setCells g (off + q.length * 1) [.int .i64 (u : Int)] = w.setCell ⟨g, off + q.length, none⟩ (.int .i64 (u : Int)) := by rw [Nat.mul_one]; rfl
  rw [es]
  refine ⟨⟨g, off, cap, cur.setIfInBounds (off + q.length) (.int .i64 (u : Int)), by rw [List.length_append]; rfl, h1, ?_, by rw [List.length_append]; exact hr, h4, by rw [Array.size_setIfInBounds]; exact h5, fun j x hj => ?_⟩, ⟨rfl, rfl, rfl, by simp [World.setCell], fun k _ hk => Below.heap_setCell _ _ _ _ (fun e => hk (by rw [e]))⟩⟩
  · simp only [World.setCell, Array.getElem?_modify, h2, if_true, Option.map_some]
    rfl
  · rw [Array.getElem?_setIfInBounds]
    by_cases hj2 : j < q.length
    · rw [if_neg (by omega)]
      rw [List.getElem?_append_left hj2] at hj
      exact h6 j x hj
    · rw [List.getElem?_append_right (by omega)] at hj
      have e0 : j - q.length = 0 := by
        by_cases e : j - q.length = 0
        · exact e
        · rw [List.getElem?_eq_none (by simp; omega)] at hj; cases hj
      rw [e0] at hj
      obtain rfl : u = x := by simpa using hj
      rw [show off + j = off + q.length by omega, if_pos rfl, if_pos (by omega)]
end
end Go.Proofs.YtbfeodammikajaaGreat

/- What the reference's open builds: the space's block and its four rows, while they grow. -/

namespace Go.Proofs.YtbfeodammikajaaGreat
open Go.RowKit

def upd {α : Type} (f : Nat → α) (j : Nat) (x : α) : Nat → α := fun i => if i = j then x else f i
theorem upd_self {α : Type} (f : Nat → α) (j : Nat) (x : α) : upd f j x j = x := if_pos rfl
theorem upd_ne {α : Type} (f : Nat → α) {i j : Nat} (x : α) (h : i ≠ j) : upd f j x i = f i := if_neg h
/-- The blocks that open writes over. -/
def spcO (s : Nat) (v : Nat → Value) (k : Nat) : Prop := k = s ∨ ∃ i, i < 4 ∧ (v i).ownBlock = some k
/-- What the rows of tables hold at a place. -/
def rowN (base : List (List Nd)) (j i : Nat) : List Bool := if j = 1 then bodyN base i else if j = 2 then condN base i else lastT base i
structure OpI (w1 w : World) (s : Nat) (lg : Int) (base : List (List Nd)) (n : Nat → Nat) (v : Nat → Value) : Prop where
  ext : Ext w1 w
  lo : w1.heap.size ≤ s
  cells : ∃ vb, w.heap[s]? = some (.cells #[.int .i64 lg, vb, v 0, v 1, v 2, v 3] 108 (0, 0)) ∧ Fmls w1 vb base
  ops : w.ownsRow w1.heap.size 93 6 (v 0) (n 0) (((List.range (n 0)).map (topN base)).flatMap Nd.cells)
  rows : ∀ j, 1 ≤ j → j < 4 → ∃ us, w.ownsRow w1.heap.size 61 1 (v j) (n j) us ∧ ∀ i, i < n j → ∃ u, us[i]? = some u ∧ Frz (spcO s v) w (fun w' => Bools w' u (rowN base j i))
  apart : ∀ i j, i < 4 → j < 4 → i ≠ j → ∀ b, (v i).ownBlock = some b → (v j).ownBlock ≠ some b
  off : ∀ i, i < 4 → (v i).ownBlock ≠ some s
section
variable {w1 w w' : World} {s : Nat} {lg : Int} {base : List (List Nd)} {n : Nat → Nat} {v : Nat → Value}
theorem OpI.slt (h : OpI w1 w s lg base n v) : s < w.heap.size := by
  obtain ⟨_, hb, _⟩ := h.cells
  exact lt_heap hb
theorem OpI.rlt (h : OpI w1 w s lg base n v) {i b : Nat} (hi : i < 4) (hb : (v i).ownBlock = some b) : w1.heap.size ≤ b ∧ b < w.heap.size := by
  by_cases e : i = 0
  · subst e
    exact h.ops.lt b hb
  · obtain ⟨_, hr, _⟩ := h.rows i (by omega) hi
    exact hr.lt b hb
theorem OpI.next (h : OpI w1 w s lg base n v) (he : Ext w w') : OpI w1 w' s lg base n v := by
  refine ⟨h.ext.trans he, h.lo, ?_, row_ext h.ops he, fun j h1 h2 => ?_, h.apart, h.off⟩
  · obtain ⟨vb, hb, hf⟩ := h.cells
    exact ⟨vb, (he.block (lt_heap hb)).trans hb, hf⟩
  · obtain ⟨us, hr, hu⟩ := h.rows j h1 h2
    refine ⟨us, row_ext hr he, fun i hi => ?_⟩
    obtain ⟨u, e, hz⟩ := hu i hi
    exact ⟨u, e, hz.next (SameX.of_ext he) fun _ _ h => h⟩
/-- A table that was made behind the space. -/
theorem OpI.fresh {w0 : World} {u : Value} {l : List Bool} (h : OpI w1 w0 s lg base n v) (hr : MadeB w0.heap.size w u l) : Frz (spcO s v) w (fun w' => Bools w' u l) :=
  frz_of_made hr fun g hg e => by
    have h1 := (hr.lt g hg).1
    rcases e with e | ⟨i, hi, e⟩
    · have := h.slt; omega
    · have := (h.rlt hi e).2; omega
theorem OpI.none_ : Frz (spcO s v) w (fun w' => Bools w' (.slice none 0 0) []) := fun _ _ => bools_nil _
/-- The cells that a walk reads. -/
theorem OpI.reads (h : OpI w1 w s lg base n v) : w.cell? ⟨s, 2, none⟩ = some (v 0) ∧ w.cell? ⟨s, 3, none⟩ = some (v 1) ∧ w.cell? ⟨s, 4, none⟩ = some (v 2) ∧ w.cell? ⟨s, 5, none⟩ = some (v 3) ∧ (∀ j, w.frozen? ⟨s, j, none⟩ = false) ∧ s < w.heap.size := by
  obtain ⟨_, hb, _⟩ := h.cells
  obtain ⟨⟨_, _, d2, d3, d4, d5⟩, hf, hl⟩ := cells6 hb
  exact ⟨d2, d3, d4, d5, hf, hl⟩
theorem set_space {a0 a1 a2 a3 a4 a5 u : Value} {t : TypeId} (h : w.heap[s]? = some (.cells #[a0, a1, a2, a3, a4, a5] t (0, 0))) :
    (w.setCell ⟨s, 2, none⟩ u).heap[s]? = some (.cells #[a0, a1, u, a3, a4, a5] t (0, 0)) ∧ (w.setCell ⟨s, 3, none⟩ u).heap[s]? = some (.cells #[a0, a1, a2, u, a4, a5] t (0, 0)) ∧ (w.setCell ⟨s, 4, none⟩ u).heap[s]? = some (.cells #[a0, a1, a2, a3, u, a5] t (0, 0)) ∧ (w.setCell ⟨s, 5, none⟩ u).heap[s]? = some (.cells #[a0, a1, a2, a3, a4, u] t (0, 0)) := by
  refine ⟨?_, ?_, ?_, ?_⟩ <;> (simp only [World.setCell, Array.getElem?_modify, h, if_true, Option.map_some]; simp)
/-- A row grows by one, and the space's cell is written. -/
theorem OpI.step {w4 : World} {c : Obj} {j : Nat} {v' : Value} (h : OpI w1 w s lg base n v) (hj : j < 4) (hg : (w.alloc c).grownBy w4 (v j).ownBlock) (ho : v'.ownBlock = (v j).ownBlock ∨ v'.ownBlock = some (w.alloc c).heap.size)
    (h0 : j = 0 → w4.ownsRow w1.heap.size 93 6 v' (n 0 + 1) (((List.range (n 0 + 1)).map (topN base)).flatMap Nd.cells))
    (h1 : 1 ≤ j → ∃ us u, w4.ownsRow w1.heap.size 61 1 v' (n j + 1) (us ++ [u]) ∧ us.length = n j ∧ (∀ i, i < n j → ∃ u, us[i]? = some u ∧ Frz (spcO s v) w (fun w' => Bools w' u (rowN base j i))) ∧ Frz (spcO s v) w (fun w' => Bools w' u (rowN base j (n j)))) :
    OpI w1 (w4.setCell ⟨s, 2 + j, none⟩ v') s lg base (upd n j (n j + 1)) (upd v j v') := by
  have hs1 : SameX (fun x => (v j).ownBlock = some x) w w4 := (SameX.of_ext ((Ext.refl w).alloc c)).trans (grown_same hg) (fun _ _ h => h)
  have hsz : w.heap.size < (w.alloc c).heap.size := by simp
  have hst := set_same (w := w4) (b := s) (2 + j) v'
  have hs2 : SameX (fun x => x = s ∨ (v j).ownBlock = some x) w (w4.setCell ⟨s, 2 + j, none⟩ v') := by
    refine ⟨Nat.le_trans hs1.1 hst.1, fun k hk hl => ?_⟩
    rw [hst.2 k (fun e => hk (.inl e)) (Nat.lt_of_lt_of_le hl hs1.1)]
    exact hs1.2 k (fun e => hk (.inr e)) hl
  have hs3 : SameX (spcO s v) w (w4.setCell ⟨s, 2 + j, none⟩ v') := ⟨hs2.1, fun k hk hl => hs2.2 k (fun e => hk (e.elim .inl fun e => .inr ⟨j, hj, e⟩)) hl⟩
  have hx : ∀ k, k < w.heap.size → spcO s (upd v j v') k → spcO s v k := fun k hl e => by
    rcases e with e | ⟨i, hi, e⟩
    · exact .inl e
    · by_cases hij : i = j
      · subst hij
        rw [upd_self] at e
        rcases ho with ho | ho
        · exact .inr ⟨i, hi, ho ▸ e⟩
        · rw [ho] at e
          injection e with e
          omega
      · rw [upd_ne _ _ hij] at e
        exact .inr ⟨i, hi, e⟩
  have hsl := h.slt
  have hoff : v'.ownBlock ≠ some s := fun e => by
    rcases ho with ho | ho
    · exact h.off j hj (ho ▸ e)
    · rw [ho] at e; injection e with e; omega
  have hrl : ∀ k, (v j).ownBlock = some k → w1.heap.size ≤ k := fun k hk => (h.rlt hj hk).1
  have hbs : w4.heap[s]? = w.heap[s]? := hs1.2 s (fun e => h.off j hj e) hsl
  have keepv : ∀ {e : TypeId} {sz m : Nat} {xs : List Value}, w4.ownsRow w1.heap.size e sz v' m xs → (w4.setCell ⟨s, 2 + j, none⟩ v').ownsRow w1.heap.size e sz v' m xs := fun hr => row_keep hr fun k hk => hst.2 k (fun e => hoff (e ▸ hk)) (hr.lt k hk).2
  have keepo : ∀ {i : Nat} {e : TypeId} {sz m : Nat} {xs : List Value}, i < 4 → i ≠ j → w.ownsRow w1.heap.size e sz (v i) m xs → (w4.setCell ⟨s, 2 + j, none⟩ v').ownsRow w1.heap.size e sz (v i) m xs := fun hi hij hr => row_keep hr fun k hk => hs2.2 k (fun e => e.elim (fun e => h.off _ hi (e ▸ hk)) (fun e => h.apart _ _ hi hj hij k hk e)) (hr.lt k hk).2
  refine ⟨ext_set ((h.ext.alloc c).grown hg hrl) h.lo _ _, h.lo, ?_, ?_, fun i hi1 hi4 => ?_, fun a b ha hb hab k hk hk2 => ?_, fun a ha => ?_⟩
  · obtain ⟨vb, hb, hf⟩ := h.cells
    have hb4 := hbs.trans hb
    obtain ⟨e2, e3, e4, e5⟩ := set_space (u := v') hb4
    refine ⟨vb, ?_, hf⟩
    have hc : j = 0 ∨ j = 1 ∨ j = 2 ∨ j = 3 := by omega
    rcases hc with rfl | rfl | rfl | rfl
    · exact e2
    · exact e3
    · exact e4
    · exact e5
  · by_cases e : j = 0
    · subst e
      rw [upd_self, upd_self]
      exact keepv (h0 rfl)
    · rw [upd_ne _ _ (fun h => e h.symm), upd_ne _ _ (fun h => e h.symm)]
      exact keepo (by omega) (fun h => e h.symm) h.ops
  · by_cases e : i = j
    · subst e
      rw [upd_self, upd_self]
      obtain ⟨us, u, hr, hlen, hold, hnew⟩ := h1 hi1
      refine ⟨us ++ [u], keepv hr, fun q hq => ?_⟩
      by_cases hqn : q < n i
      · obtain ⟨u', e', hz⟩ := hold q hqn
        exact ⟨u', by rw [List.getElem?_append_left (by omega)]; exact e', hz.next hs3 hx⟩
      · have : q = n i := by omega
        subst this
        exact ⟨u, by rw [List.getElem?_append_right (by omega), hlen, Nat.sub_self]; rfl, hnew.next hs3 hx⟩
    · rw [upd_ne _ _ e, upd_ne _ _ e]
      obtain ⟨us, hr, hu⟩ := h.rows i hi1 hi4
      refine ⟨us, keepo hi4 e hr, fun q hq => ?_⟩
      obtain ⟨u', e', hz⟩ := hu q hq
      exact ⟨u', e', hz.next hs3 hx⟩
  · by_cases ea : a = j
    · subst ea
      rw [upd_self] at hk
      rw [upd_ne _ _ (fun h => hab h.symm)] at hk2
      rcases ho with ho | ho
      · exact h.apart a b ha hb hab k (ho ▸ hk) hk2
      · rw [ho] at hk; injection hk with hk
        have := (h.rlt hb hk2).2
        omega
    · rw [upd_ne _ _ ea] at hk
      by_cases eb : b = j
      · subst eb
        rw [upd_self] at hk2
        rcases ho with ho | ho
        · exact h.apart a b ha hb hab k hk (ho ▸ hk2)
        · rw [ho] at hk2; injection hk2 with hk2
          have := (h.rlt ha hk).2
          omega
      · rw [upd_ne _ _ eb] at hk2
        exact h.apart a b ha hb hab k hk hk2
  · by_cases ea : a = j
    · subst ea; rw [upd_self]; exact hoff
    · rw [upd_ne _ _ ea]; exact h.off a ha
/-- The rows' values at hand for an append. -/
theorem OpI.row (h : OpI w1 w s lg base n v) {j : Nat} (h1 : 1 ≤ j) (h2 : j < 4) : ∃ us, w.ownsRow w1.heap.size 61 1 (v j) (n j) us ∧ us.length = n j ∧ ∀ i, i < n j → ∃ u, us[i]? = some u ∧ Frz (spcO s v) w (fun w' => Bools w' u (rowN base j i)) := by
  obtain ⟨us, hr, hu⟩ := h.rows j h1 h2
  exact ⟨us, hr, by simpa using hr.1, hu⟩
theorem OpI.start (he : Ext w1 w) (hlo : w1.heap.size ≤ s) {vb : Value} (hb : w.heap[s]? = some (.cells #[.int .i64 lg, vb, .slice none 0 0, .slice none 0 0, .slice none 0 0, .slice none 0 0] 108 (0, 0))) (hf : Fmls w1 vb base) : OpI w1 w s lg base (fun _ => 0) (fun _ => .slice none 0 0) :=
  ⟨he, hlo, ⟨vb, hb, hf⟩, World.ownsRow_nil _ _ _ _, fun _ _ _ => ⟨[], World.ownsRow_nil _ _ _ _, fun i hi => absurd hi (by omega)⟩, fun _ _ _ _ _ _ hb => (by cases hb), fun _ _ hb => (by cases hb)⟩
theorem bls_of_row {bs m : Nat} {u : Value} {us : List Value} {L : Nat → List Bool} (hr : w.ownsRow bs 61 1 u m us) (hu : ∀ i, i < m → ∃ x, us[i]? = some x ∧ Bools w x (L i)) : Bls w u ((List.range m).map L) := by
  have e : us = us.flatMap fun x => [x] := by rw [← List.map_eq_flatMap]; simp
  have hlen : us.length = m := by simpa using hr.1
  rw [e, ← hlen] at hr
  obtain ⟨A, cap, rfl, h1, h2, h3⟩ := row_cells (f := fun x => [x]) (c := 1) (fun _ => rfl) hr
  refine ⟨A, cap, by simp [hlen], by simpa [hlen] using h1, h2, fun hn => ?_⟩
  obtain ⟨g, rfl, hg, hc⟩ := h3 (fun e => hn (by rw [e] at hlen; rw [← hlen]; rfl))
  refine ⟨_, rfl, hg, fun k l hk => ?_⟩
  rw [List.getElem?_map] at hk
  have hkm : k < m := by
    by_cases e : k < m
    · exact e
    · rw [List.getElem?_eq_none (by simp; omega)] at hk; cases hk
  rw [List.getElem?_range hkm] at hk
  obtain rfl : L k = l := by simpa using hk
  obtain ⟨x, hx, hb⟩ := hu k hkm
  refine ⟨x, ?_, hb⟩
  rw [addr_zero]
  simpa using hc k x hx 0 (by omega) _ rfl
/-- The space as it is left. -/
theorem OpI.space (h : OpI w1 w s lg base n v) (hn : ∀ i, i < 4 → n i = base.length) (hok : ∀ k, k < base.length → (topN base k).ok) : SpcAt w s lg base := by
  obtain ⟨vb, hb, hf⟩ := h.cells
  have ho := h.ops
  rw [hn 0 (by omega)] at ho
  have hm : Made w1 w (v 0) ((List.range base.length).map (topN base)) := ⟨by rw [List.length_map, List.length_range]; exact ho, fun x hx => by
    obtain ⟨k, hk, rfl⟩ := List.mem_map.1 hx
    exact hok k (List.mem_range.1 hk), h.ext⟩
  have hr : ∀ j, 1 ≤ j → j < 4 → Bls w (v j) ((List.range base.length).map (rowN base j)) := fun j h1 h2 => by
    obtain ⟨us, hr, hu⟩ := h.rows j h1 h2
    rw [hn j h2] at hr hu
    exact bls_of_row hr fun i hi => by
      obtain ⟨u, e, hz⟩ := hu i hi
      exact ⟨u, e, hz.here⟩
  exact ⟨vb, v 0, v 1, v 2, v 3, hb, hf.ext h.ext, hm.fml.1, hr 1 (by omega) (by omega), hr 2 (by omega) (by omega), hr 3 (by omega) (by omega)⟩
end
end Go.Proofs.YtbfeodammikajaaGreat

/- Open's rows while one place is written, row by row. -/

namespace Go.Proofs.YtbfeodammikajaaGreat
open Go.RowKit

/-- The rows below j have the place k already. -/
def OpT (w1 w : World) (s : Nat) (lg : Int) (base : List (List Nd)) (k : Nat) (u : Nat → Value) (j : Nat) : Prop :=
  ∃ n v, OpI w1 w s lg base n v ∧ (∀ i, i < 4 → n i = if i < j then k + 1 else k) ∧ ∀ i, 1 ≤ i → i < 4 → Frz (spcO s v) w (fun w' => Bools w' (u i) (rowN base i k))
theorem tInfoBs : (Tryz.prog.info? 61).map (fun i => (i.zero, i.size, i.bytes)) = some (some (.slice none 0 0), 1, 24) := by kernel_rfl
section
variable {w1 w : World} {s : Nat} {lg : Int} {base : List (List Nd)} {n : Nat → Nat} {v : Nat → Value}
theorem OpI.same {w4 : World} {c : Obj} {j : Nat} {v' : Value} (_h : OpI w1 w s lg base n v) (hj : j < 4) (hg : (w.alloc c).grownBy w4 (v j).ownBlock) : SameX (spcO s v) w (w4.setCell ⟨s, 2 + j, none⟩ v') := by
  have hs1 : SameX (fun x => (v j).ownBlock = some x) w w4 := (SameX.of_ext ((Ext.refl w).alloc c)).trans (grown_same hg) (fun _ _ h => h)
  have hst := set_same (w := w4) (b := s) (2 + j) v'
  refine ⟨Nat.le_trans hs1.1 hst.1, fun k hk hl => ?_⟩
  rw [hst.2 k (fun e => hk (.inl e)) (Nat.lt_of_lt_of_le hl hs1.1)]
  exact hs1.2 k (fun e => hk (.inr ⟨j, hj, e⟩)) hl
theorem OpI.sub_ {c : Obj} {j : Nat} {v' : Value} (hj : j < 4) (ho : v'.ownBlock = (v j).ownBlock ∨ v'.ownBlock = some (w.alloc c).heap.size) (k : Nat) (hl : k < w.heap.size) (e : spcO s (upd v j v') k) : spcO s v k := by
  have hsz : w.heap.size < (w.alloc c).heap.size := by simp
  rcases e with e | ⟨i, hi, e⟩
  · exact .inl e
  · by_cases hij : i = j
    · subst hij
      rw [upd_self] at e
      rcases ho with ho | ho
      · exact .inr ⟨i, hi, ho ▸ e⟩
      · rw [ho] at e
        injection e with e
        omega
    · rw [upd_ne _ _ hij] at e
      exact .inr ⟨i, hi, e⟩
end
section
variable {w1 w : World} {s : Nat} {lg : Int} {base : List (List Nd)} {k j : Nat} {u : Nat → Value}
theorem OpT.next {w' : World} (h : OpT w1 w s lg base k u j) (he : Ext w w') : OpT w1 w' s lg base k u j := by
  obtain ⟨n, v, hI, hn, hf⟩ := h
  exact ⟨n, v, hI.next he, hn, fun i h1 h2 => (hf i h1 h2).next (SameX.of_ext he) fun _ _ h => h⟩
theorem OpT.at_ (h : OpT w1 w s lg base k u j) (hj : j < 4) : ∃ A cap us, w.cell? ⟨s, 2 + j, none⟩ = some (.slice A k cap) ∧ (Value.slice A k cap).ownBlock ≠ some s ∧ s < w.heap.size ∧ (∀ i, w.frozen? ⟨s, i, none⟩ = false) ∧ Ext w1 w ∧
    (j = 0 → w.ownsRow w1.heap.size 93 6 (.slice A k cap) k (((List.range k).map (topN base)).flatMap Nd.cells)) ∧ (1 ≤ j → w.ownsRow w1.heap.size 61 1 (.slice A k cap) k us) ∧
    ∀ w0, Ext w w0 → ∀ w4 c v', (w0.alloc c).grownBy w4 (Value.slice A k cap).ownBlock → (v'.ownBlock = (Value.slice A k cap).ownBlock ∨ v'.ownBlock = some (w0.alloc c).heap.size) →
      (j = 0 → w4.ownsRow w1.heap.size 93 6 v' (k + 1) (((List.range k).map (topN base)).flatMap Nd.cells ++ (topN base k).cells)) → (1 ≤ j → w4.ownsRow w1.heap.size 61 1 v' (k + 1) (us ++ [u j])) →
      OpT w1 (w4.setCell ⟨s, 2 + j, none⟩ v') s lg base k u (j + 1) := by
  obtain ⟨n, v, hI, hn, hf⟩ := h
  have hnj : n j = k := by rw [hn j hj, if_neg (Nat.lt_irrefl _)]
  obtain ⟨us, hus⟩ : ∃ us, 1 ≤ j → w.ownsRow w1.heap.size 61 1 (v j) (n j) us ∧ us.length = n j ∧ ∀ i, i < n j → ∃ u, us[i]? = some u ∧ Frz (spcO s v) w (fun w' => Bools w' u (rowN base j i)) := by
    by_cases h1 : 1 ≤ j
    · obtain ⟨us, h⟩ := hI.row h1 hj
      exact ⟨us, fun _ => h⟩
    · exact ⟨[], fun e => absurd e h1⟩
  obtain ⟨A, cap, hv⟩ : ∃ A cap, v j = .slice A k cap := by
    by_cases h1 : 1 ≤ j
    · obtain ⟨A, c, e⟩ := slice_of_row (hus h1).1
      exact ⟨A, c, by rw [e, hnj]⟩
    · have : j = 0 := by omega
      subst this
      obtain ⟨A, c, e⟩ := slice_of_row hI.ops
      exact ⟨A, c, by rw [e, hnj]⟩
  obtain ⟨z2, z3, z4, z5, zf, zl⟩ := hI.reads
  refine ⟨A, cap, us, ?_, fun e => hI.off j hj (by rw [hv]; exact e), zl, zf, hI.ext, fun e => ?_, fun h1 => ?_, fun w0 he w4 c v' hg ho hr0 hr1 => ?_⟩
  · have hc : j = 0 ∨ j = 1 ∨ j = 2 ∨ j = 3 := by omega
    rcases hc with rfl | rfl | rfl | rfl
    · rw [← hv]; exact z2
    · rw [← hv]; exact z3
    · rw [← hv]; exact z4
    · rw [← hv]; exact z5
  · subst e
    have h1 := hI.ops
    rw [hv, hnj] at h1
    exact h1
  · have h2 := (hus h1).1
    rw [hv, hnj] at h2
    exact h2
  · have hI0 := hI.next he
    rw [← hv] at hg ho
    refine ⟨upd n j (n j + 1), upd v j v', hI0.step hj hg ho (fun e => ?_) (fun h1 => ?_), fun i hi => ?_, fun i h1 h2 => ?_⟩
    · subst e
      rw [hnj, List.range_succ, List.map_append, List.flatMap_append]
      have := hr0 rfl
      simpa using this
    · refine ⟨us, u j, by rw [hnj]; exact hr1 h1, (hus h1).2.1, fun i hi => ?_, ?_⟩
      · obtain ⟨x, hx, hz⟩ := (hus h1).2.2 i hi
        exact ⟨x, hx, hz.next (SameX.of_ext he) fun _ _ h => h⟩
      · rw [hnj]
        exact (hf j h1 hj).next (SameX.of_ext he) fun _ _ h => h
    · by_cases e : i = j
      · subst e
        rw [upd_self, hnj, if_pos (Nat.lt_succ_self _)]
      · rw [upd_ne _ _ e, hn i hi]
        by_cases e2 : i < j
        · rw [if_pos e2, if_pos (by omega)]
        · rw [if_neg e2, if_neg (by omega)]
    · exact ((hf i h1 h2).next (SameX.of_ext he) fun _ _ h => h).next (hI0.same hj hg) (OpI.sub_ hj ho)
theorem OpT.done (h : OpT w1 w s lg base k u 4) : ∃ n v, OpI w1 w s lg base n v ∧ ∀ i, i < 4 → n i = k + 1 := by
  obtain ⟨n, v, hI, hn, _⟩ := h
  exact ⟨n, v, hI, fun i hi => by rw [hn i hi, if_pos hi]⟩
theorem OpT.start {n : Nat → Nat} {v : Nat → Value} (h : OpI w1 w s lg base n v) (hn : ∀ i, i < 4 → n i = k) (h1 : Frz (spcO s v) w (fun w' => Bools w' (u 1) (bodyN base k))) (h2 : Frz (spcO s v) w (fun w' => Bools w' (u 2) (condN base k))) (h3 : Frz (spcO s v) w (fun w' => Bools w' (u 3) (lastT base k))) : OpT w1 w s lg base k u 0 :=
  ⟨n, v, h, fun i hi => by rw [hn i hi, if_neg (by omega)], fun i hi1 hi4 => by
    have hc : i = 1 ∨ i = 2 ∨ i = 3 := by omega
    rcases hc with rfl | rfl | rfl
    · exact h1
    · exact h2
    · exact h3⟩
end
theorem grown_blk {w w4 : World} {c : Obj} {r : Option Nat} {b : Nat} (hg : (w.alloc c).grownBy w4 r) (hr : r ≠ some b) (hb : b < w.heap.size) : w4.heap[b]? = w.heap[b]? :=
  (hg.block b (by simp; omega) (fun e => hr e.symm)).trans (((Ext.refl w).alloc c).block hb)
theorem blk_cell {w w4 : World} {p : Addr} (h : w4.heap[p.block]? = w.heap[p.block]?) : w4.cell? p = w.cell? p ∧ w4.frozen? p = w.frozen? p := by
  unfold World.cell? World.frozen?
  rw [h]
  exact ⟨rfl, rfl⟩
end Go.Proofs.YtbfeodammikajaaGreat
