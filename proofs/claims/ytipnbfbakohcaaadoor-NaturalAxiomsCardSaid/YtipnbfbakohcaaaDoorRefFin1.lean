/- The reference's walk from a node: its state. -/
import Derived.Test.YtipnbfbakohcaaaDoorRefPut
namespace Go.Proofs.YtipnbfbakohcaaaDoor
open Go.RowKit

/-- What is done: for each node -1, or its number, at which a walk adds nothing. -/
def DoneL (f o : List Nd) (d : List Int) : Prop := d.length = f.length ∧ ∀ i, i < f.length → d[i]? = some (-1) ∨ (finN f i o = (o, (finN f i o).2) ∧ d[i]? = some (((finN f i o).2 : Nat) : Int))
theorem DoneL.grow {f o o' : List Nd} {d : List Int} (hf : Wf f) (h : DoneL f o d) (hp : o <+: o') : DoneL f o' d := by
  refine ⟨h.1, fun i hi => ?_⟩
  rcases h.2 i hi with h1 | ⟨h1, h2⟩
  · exact .inl h1
  · have hg := finN_again hf i o o' hi (by rw [h1]; exact hp)
    exact .inr ⟨by rw [hg], by rw [hg]; exact h2⟩
theorem DoneL.put {f o : List Nd} {d : List Int} {i : Nat} (h : DoneL f o d) (hi : i < f.length) (hfin : finN f i o = (o, (finN f i o).2)) : DoneL f o (d.set i (((finN f i o).2 : Nat) : Int)) := by
  refine ⟨by simpa using h.1, fun j hj => ?_⟩
  by_cases e : j = i
  · subst e
    exact .inr ⟨hfin, by rw [List.getElem?_set_self (by rw [h.1]; exact hi)]⟩
  · rw [List.getElem?_set_ne (Ne.symm e)]
    exact h.2 j hj

structure RInv (bw : Nat) (W0 w : World) (A : Option Addr) (c : Nat) (f o : List Nd) (d : List Int) (vo vd : Value) : Prop where
  below : Below W0.heap.size W0 w
  nds : NdsAt W0 A c f
  blk : w.heap[bw]? = some (.cells #[vo, vd] 89 (0, 0))
  row : w.ownsRow W0.heap.size 60 6 vo o.length (o.flatMap Nd.cells)
  drow : w.ownsRow W0.heap.size 3 1 vd f.length (d.map (Value.int .i64))
  done : DoneL f o d
  low : W0.heap.size ≤ bw
  oks : ∀ n ∈ o, n.ok
/-- What a call may have changed. -/
structure FStep (bw : Nat) (vd : Value) (w w' : World) (v v' : Value) : Prop where
  os : w'.os = w.os
  tape : w'.tape = w.tape
  output : w'.output = w.output
  size : w.heap.size ≤ w'.heap.size
  block : ∀ k, k < w.heap.size → k ≠ bw → vd.ownBlock ≠ some k → v.ownBlock ≠ some k → w'.heap[k]? = w.heap[k]?
  row : ∀ g, v'.ownBlock = some g → v.ownBlock = some g ∨ w.heap.size ≤ g
section
variable {a b c w w' : World} {va vb vc v v' vd : Value} {bw : Nat}
theorem FStep.refl (w : World) (v : Value) : FStep bw vd w w v v := ⟨rfl, rfl, rfl, Nat.le_refl _, fun _ _ _ _ _ => rfl, fun _ h => .inl h⟩
theorem FStep.trans (h : FStep bw vd a b va vb) (k : FStep bw vd b c vb vc) : FStep bw vd a c va vc :=
  ⟨k.os.trans h.os, k.tape.trans h.tape, k.output.trans h.output, Nat.le_trans h.size k.size,
    fun i hi hb hd h4 => (k.block i (Nat.lt_of_lt_of_le hi h.size) hb hd (fun e => by
      rcases h.row i e with e' | e'
      · exact h4 e'
      · omega)).trans (h.block i hi hb hd h4),
    fun g hg => by
      rcases k.row g hg with e | e
      · exact h.row g e
      · exact .inr (Nat.le_trans h.size e)⟩
theorem FStep.of_ext (e : Ext a b) : FStep bw vd a b v v := ⟨e.os, e.tape, e.output, e.size, fun _ hk _ _ _ => e.block hk, fun _ h => .inl h⟩
theorem FStep.of_p (h : PStep bw a b va vb) : FStep bw vd a b va vb := ⟨h.os, h.tape, h.output, h.size, fun k hk hb _ hv => h.block k hk hb hv, h.row⟩
theorem FStep.set_ (w : World) (v : Value) (p : Addr) (hp : vd.ownBlock = some p.block) (u : Value) : FStep bw vd w (w.setCell p u) v v :=
  ⟨rfl, rfl, rfl, by simp [World.setCell], fun k _ _ hd _ => Below.heap_setCell _ _ _ _ (fun e => hd (by rw [hp, e])), fun _ h => .inl h⟩
end
section
variable {bw : Nat} {W0 we w w' : World} {A : Option Addr} {c : Nat} {f o : List Nd} {d : List Int} {vo vd voe : Value} {bx : Nat} {m : Nd}
theorem row_type {w : World} {base k : Nat} {e t : TypeId} {size n : Nat} {v : Value} {xs : List Value} {cs : Array Value} (h : w.ownsRow base e size v n xs) (hk : w.heap[k]? = some (.cells cs t (0, 0))) (ht : t ≠ e) : v.ownBlock ≠ some k := by
  intro hg
  rcases h.2 with ⟨rfl, _⟩ | ⟨g, cap, cur, rfl, _, hb, _⟩
  · cases hg
  · obtain rfl : g = k := by simpa [Value.ownBlock] using hg
    rw [hb] at hk
    injection hk with hk
    injection hk with _ hk
    exact ht hk.symm
theorem row_row {w : World} {b1 b2 : Nat} {e1 e2 : TypeId} {s1 s2 n1 n2 : Nat} {v1 v2 : Value} {xs1 xs2 : List Value} (h1 : w.ownsRow b1 e1 s1 v1 n1 xs1) (h2 : w.ownsRow b2 e2 s2 v2 n2 xs2) (hne : e1 ≠ e2) :
    ∀ g, v1.ownBlock = some g → v2.ownBlock ≠ some g := by
  intro g hg
  rcases h1.2 with ⟨rfl, _⟩ | ⟨g', cap, cur, rfl, _, hb, _⟩
  · cases hg
  · obtain rfl : g' = g := by simpa [Value.ownBlock] using hg
    exact row_type h2 hb hne
theorem RInv.aparts (h : RInv bw W0 w A c f o d vo vd) : vo.ownBlock ≠ some bw ∧ vd.ownBlock ≠ some bw ∧ (∀ g, vd.ownBlock = some g → vo.ownBlock ≠ some g) :=
  ⟨row_type h.row h.blk (by decide), row_type h.drow h.blk (by decide), row_row h.drow h.row (by decide)⟩
theorem RInv.keep (h : RInv bw W0 w A c f o d vo vd) (hb : Below W0.heap.size W0 w') (hk : ∀ k, k < w.heap.size → (k = bw ∨ vo.ownBlock = some k ∨ vd.ownBlock = some k) → w'.heap[k]? = w.heap[k]?) : RInv bw W0 w' A c f o d vo vd :=
  ⟨hb, h.nds, (hk _ (lt_heap h.blk) (by simp)).trans h.blk, row_keep h.row fun g hg => hk g (h.row.lt g hg).2 (by simp [hg]), row_keep h.drow fun g hg => hk g (h.drow.lt g hg).2 (by simp [hg]), h.done, h.low, h.oks⟩
theorem RInv.ext (h : RInv bw W0 w A c f o d vo vd) (he : Ext w w') : RInv bw W0 w' A c f o d vo vd :=
  h.keep (h.below.trans (Below.mono he h.below.size)) fun _ hk _ => he.block hk

structure RMid (bw : Nat) (W0 we w : World) (A : Option Addr) (c : Nat) (f o : List Nd) (d : List Int) (voe vo vd : Value) (bx : Nat) (m : Nd) : Prop where
  inv : RInv bw W0 w A c f o d vo vd
  step : FStep bw vd we w voe vo
  bwlt : bw < we.heap.size
  dlt : ∀ g, vd.ownBlock = some g → g < we.heap.size
  box : w.heap[bx]? = some (.cells #[.int .i64 m.op, .int .i64 m.i, .int .i64 m.e, .int .i64 m.g, .int .i64 m.x, .int .i64 m.y] 60 (0, 0))
  fresh : we.heap.size ≤ bx ∧ vo.ownBlock ≠ some bx
theorem RMid.start (h : RInv bw W0 we A c f o d vo vd) (n : Nd) : RMid bw W0 we (we.alloc (.cells #[.int .i64 n.op, .int .i64 n.i, .int .i64 n.e, .int .i64 n.g, .int .i64 n.x, .int .i64 n.y] 60)) A c f o d vo vo vd we.heap.size n :=
  ⟨h.ext ((Ext.refl _).alloc _), FStep.of_ext ((Ext.refl _).alloc _), lt_heap h.blk, fun g hg => (h.drow.lt g hg).2, heap_alloc_new _ _, Nat.le_refl _, fun e => absurd (h.row.lt _ e).2 (by omega)⟩
theorem RMid.call {o' : List Nd} {d' : List Int} {vo' : Value} (h : RMid bw W0 we w A c f o d voe vo vd bx m) (he : RInv bw W0 w' A c f o' d' vo' vd) (hs : FStep bw vd w w' vo vo') : RMid bw W0 we w' A c f o' d' voe vo' vd bx m := by
  obtain ⟨f1, f4⟩ := h.fresh
  have hbx := lt_heap h.box
  have hb := h.bwlt
  refine ⟨he, h.step.trans hs, h.bwlt, h.dlt, (hs.block _ hbx (by omega) (fun e => by have := h.dlt _ e; omega) f4).trans h.box, f1, fun e => ?_⟩
  rcases hs.row _ e with e | e
  · exact f4 e
  · omega
theorem RMid.store (h : RMid bw W0 we w A c f o d voe vo vd bx m) (j : Nat) (u : Value) (m' : Nd)
    (hm : (#[.int .i64 m.op, .int .i64 m.i, .int .i64 m.e, .int .i64 m.g, .int .i64 m.x, .int .i64 m.y] : Array Value).setIfInBounds j u = #[.int .i64 m'.op, .int .i64 m'.i, .int .i64 m'.e, .int .i64 m'.g, .int .i64 m'.x, .int .i64 m'.y]) :
    RMid bw W0 we (w.setCell ⟨bx, j, none⟩ u) A c f o d voe vo vd bx m' := by
  obtain ⟨f1, f4⟩ := h.fresh
  have hb := h.bwlt
  have hlow := h.inv.low
  have hoth : ∀ k, k ≠ bx → (w.setCell ⟨bx, j, none⟩ u).heap[k]? = w.heap[k]? := fun k hk => Below.heap_setCell _ _ _ _ hk
  have hsz : (w.setCell ⟨bx, j, none⟩ u).heap.size = w.heap.size := by simp [World.setCell]
  refine ⟨h.inv.keep (h.inv.below.setCell (by show W0.heap.size ≤ bx; omega) _) fun k _ hk => hoth k ?_, ?_, h.bwlt, h.dlt, ?_, f1, f4⟩
  · rcases hk with hk | hk | hk
    · omega
    · exact fun e => f4 (by rw [hk, e])
    · intro e
      have := h.dlt k hk
      omega
  · exact ⟨h.step.os, h.step.tape, h.step.output, by rw [hsz]; exact h.step.size, fun k hk h1 h2 h3 => (hoth k (by omega)).trans (h.step.block k hk h1 h2 h3), h.step.row⟩
  · have hb := h.box
    simp only [World.setCell, Array.getElem?_modify, hb, if_true, Option.map_some]
    simp [hm]
/-- An element of an owned row of single cells is stored. -/
theorem row_set {w : World} {base : Nat} {e : TypeId} {n g cap i : Nat} {xs : List Value} (h : w.ownsRow base e 1 (.slice (some ⟨g, 0, none⟩) n cap) n xs) (u : Value) :
    (w.setCell ⟨g, i, none⟩ u).ownsRow base e 1 (.slice (some ⟨g, 0, none⟩) n cap) n (xs.set i u) := by
  refine ⟨by simpa using h.1, .inr ?_⟩
  rcases h.2 with ⟨he, _⟩ | ⟨g', cap', cur, he, hb, hg, hn, hm, hs, ht⟩
  · cases he
  · injection he with e1 _ e3
    injection e1 with e1
    injection e1 with e1
    subst e1 e3
    refine ⟨g, cap, cur.setIfInBounds i u, rfl, hb, ?_, hn, hm, by simpa using hs, ?_⟩
    · simp only [World.setCell, Array.getElem?_modify, hg, if_true, Option.map_some]
      simp
    · rw [← ht]
      simp only [Array.toList_setIfInBounds]
      rw [List.take_set]
theorem set_get {d : List Int} {i n : Nat} {z : Int} (h : d.length = n) (hi : i < n) : (d.set i z)[i]? = some z := by rw [List.getElem?_set_self (by omega)]
/-- The node was put, and is done. -/
theorem rmid_put {g cap i : Nat} {w5 : World} {vo3 : Value} (hf : Wf f) (h : RMid bw W0 we w A c f o d voe vo (.slice (some ⟨g, 0, none⟩) f.length cap) bx m) {o0 : List Nd} (hfin : finN f i o0 = (addN o m, o.idxOf m)) (hi : i < f.length)
    (hblk : w5.heap[bw]? = some (.cells #[vo3, .slice (some ⟨g, 0, none⟩) f.length cap] 89 (0, 0))) (hrow : w5.ownsRow W0.heap.size 60 6 vo3 (addN o m).length ((addN o m).flatMap Nd.cells)) (hst : PStep bw w w5 vo vo3) (hok : m.ok) :
    d.length = f.length ∧ Hid (RInv bw W0 (w5.setCell ⟨g, i, none⟩ (.int .i64 (o.idxOf m : Nat))) A c f (addN o m) (d.set i (o.idxOf m : Nat)) vo3 (.slice (some ⟨g, 0, none⟩) f.length cap)) ∧
      Hid (FStep bw (.slice (some ⟨g, 0, none⟩) f.length cap) we (w5.setCell ⟨g, i, none⟩ (.int .i64 (o.idxOf m : Nat))) voe vo3) := by
  obtain ⟨a1, a2, a3⟩ := h.inv.aparts
  have hg := (h.inv.drow.lt g rfl)
  have hgb : w5.heap[g]? = w.heap[g]? := hst.block g hg.2 (fun e => a2 (by rw [← e]; rfl)) (a3 g rfl)
  have hgbw : g ≠ bw := fun e => a2 (by rw [← e]; rfl)
  have hvg : vo3.ownBlock ≠ some g := fun e => by
    rcases hst.row g e with e1 | e1
    · exact a3 g rfl e1
    · omega
  have hdrow : w5.ownsRow W0.heap.size 3 1 (.slice (some ⟨g, 0, none⟩) f.length cap) f.length (d.map (Value.int .i64)) := row_keep h.inv.drow fun k hk => by
    injection hk with hk
    subst hk
    exact hgb
  have hag := finN_again hf i o0 (addN o m) hi (by rw [hfin]; exact List.prefix_refl _)
  rw [hfin] at hag
  refine ⟨h.inv.done.1, ⟨?_, h.inv.nds, ?_, ?_, ?_, ?_, h.inv.low, ?_⟩, ?_⟩
  · refine Below.setCell (Below.trans h.inv.below ?_) (by exact hg.1) _
    refine ⟨hst.os, hst.tape, hst.output, hst.size, fun k hk => hst.block k (Nat.lt_of_lt_of_le hk h.inv.below.size) (by have := h.inv.low; omega) (fun e => ?_)⟩
    have := (h.inv.row.lt k e).1
    omega
  · exact (Below.heap_setCell _ _ _ _ (Ne.symm hgbw)).trans hblk
  · exact ownsRow_setCell_other hrow hvg _
  · have h2 := row_set hdrow (i := i) (.int .i64 (o.idxOf m : Nat))
    rw [← List.map_set] at h2
    exact h2
  · have h3 := (h.inv.done.grow hf (addN_prefix o m)).put hi (by rw [hag])
    rw [hag] at h3
    exact h3
  · intro n hn
    unfold addN at hn
    split at hn
    · exact h.inv.oks n hn
    · rcases List.mem_append.1 hn with hn | hn
      · exact h.inv.oks n hn
      · rw [List.mem_singleton.1 hn]; exact hok
  · exact h.step.trans ((FStep.of_p hst).trans (FStep.set_ _ _ ⟨g, i, none⟩ rfl _))
end
end Go.Proofs.YtipnbfbakohcaaaDoor
