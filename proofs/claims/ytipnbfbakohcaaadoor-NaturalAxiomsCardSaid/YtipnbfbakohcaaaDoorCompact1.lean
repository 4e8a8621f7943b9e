/- The closure of formula.compact: its state, and the way on which the node is done. -/
import Derived.Test.YtipnbfbakohcaaaDoorCheck
import Derived.Test.YtipnbfbakohcaaaDoorMapWords
import Derived.OneCell
namespace Go.Proofs.YtipnbfbakohcaaaDoor
open Go.RowKit
open Go.Maps (has)

structure Blks where
  f : Nat
  out : Nat
  done : Nat
  num : Nat
  fin_ : Nat
  mn : Nat
  md : Nat
def Blks.caps (K : Blks) : Array Value := #[.pointer (some ⟨K.done, 0, none⟩), .pointer (some ⟨K.f, 0, none⟩), .pointer (some ⟨K.fin_, 0, none⟩), .pointer (some ⟨K.num, 0, none⟩), .pointer (some ⟨K.out, 0, none⟩)]

/-- The state of the walk: the blocks of the captured variables, the list so far and its slice, the two maps. -/
structure CEnv (K : Blks) (W0 w : World) (A : Option Addr) (c : Nat) (f o : List Nd) (vo : Value) : Prop where
  below : Below W0.heap.size W0 w
  nds : NdsAt W0 A c f
  blk_f : w.heap[K.f]? = some (.cells #[.slice A f.length c] 29 (0, 0))
  blk_out : w.heap[K.out]? = some (.cells #[vo] 29 (0, 0))
  blk_done : w.heap[K.done]? = some (.cells #[.map (some K.md)] 92 (0, 0))
  blk_num : w.heap[K.num]? = some (.cells #[.map (some K.mn)] 91 (0, 0))
  blk_fin : w.heap[K.fin_]? = some (.cells #[.func (Fn.func 78) #[] K.caps] 76 (0, 0))
  row : w.ownsRow W0.heap.size 60 6 vo o.length (o.flatMap Nd.cells)
  nums : NumMap w K.mn o
  dones : DoneMap w K.md f o
  low : W0.heap.size ≤ K.out ∧ W0.heap.size ≤ K.mn ∧ W0.heap.size ≤ K.md
  apart : K.f ≠ K.out
  oks : ∀ n ∈ o, n.ok

/-- What a call may have changed. -/
structure CStep (K : Blks) (w w' : World) (vo vo' : Value) : Prop where
  os : w'.os = w.os
  tape : w'.tape = w.tape
  output : w'.output = w.output
  size : w.heap.size ≤ w'.heap.size
  block : ∀ k, k < w.heap.size → k ≠ K.out → k ≠ K.mn → k ≠ K.md → vo.ownBlock ≠ some k → w'.heap[k]? = w.heap[k]?
  row : ∀ g, vo'.ownBlock = some g → vo.ownBlock = some g ∨ w.heap.size ≤ g

theorem CStep.refl (K : Blks) (w : World) (vo : Value) : CStep K w w vo vo := ⟨rfl, rfl, rfl, Nat.le_refl _, fun _ _ _ _ _ _ => rfl, fun _ h => .inl h⟩
theorem CStep.trans {K : Blks} {a b c : World} {va vb vc : Value} (h : CStep K a b va vb) (k : CStep K b c vb vc) : CStep K a c va vc :=
  ⟨k.os.trans h.os, k.tape.trans h.tape, k.output.trans h.output, Nat.le_trans h.size k.size,
    fun i hi h1 h2 h3 h4 => (k.block i (Nat.lt_of_lt_of_le hi h.size) h1 h2 h3 (fun e => by
      rcases h.row i e with e' | e'
      · exact h4 e'
      · omega)).trans (h.block i hi h1 h2 h3 h4),
    fun g hg => by
      rcases k.row g hg with e | e
      · exact h.row g e
      · exact .inr (Nat.le_trans h.size e)⟩
theorem CStep.of_ext {K : Blks} {a b : World} {vo : Value} (h : Ext a b) : CStep K a b vo vo := ⟨h.os, h.tape, h.output, h.size, fun _ hk _ _ _ _ => h.block hk, fun _ h => .inl h⟩

set_option maxHeartbeats 400000 in
theorem finish_done {K : Blks} {W0 w : World} {A : Option Addr} {c : Nat} {f o : List Nd} {vo : Value} (h : CEnv K W0 w A c f o vo) (hlen : f.length ≤ 1000) (i : Nat) (hi : i < f.length) (D : D0) (m : Nat)
    (hown : w.ownsMap Tryd.prog 3 (plainElem Tryd.prog 3) K.md m D) (hD : DoneIs D f o) (hh : has D (.int .i64 i) = true) :
    Calls Tryd.prog 78 (#[.int .i64 i] ++ K.caps) w fun e w' => e = .returned (.int .i64 (finN f i o).2) ∧ w = w' := by
  have cd := cell_of_one h.blk_done
  have hkey := keyOf_int (a := (i : Int)) ⟨by omega, by omega⟩
  have hval := Lib.hid (hD i hh).2.2
  clear hD h
  unfold Blks.caps
  go_enter Tryd.func78, Tryd.ntmps78
  go_wp2_with (at_lookup; refine wpList_lookup_own_ok_int _ rfl _ _ 92 rfl 3 3 .i64 intKeyed Tryd.underlying92 Tryd.underlying3 (zeroInt _) K.md m D rfl hown _ _ rfl hkey ?_; intro cc hat hwc)
  go_ret
  have e1 := (hval.out (.lit (.int .i64 0))).symm.trans hat
  injection e1 with e2
  injection e2 with _ e3
  exact ⟨ret_int e3.symm, rfl⟩

section
variable {K : Blks} {W0 w w' : World} {A : Option Addr} {c : Nat} {f o : List Nd} {vo : Value}
theorem lt_heap {w : World} {b : Nat} {x : Obj} (h : w.heap[b]? = some x) : b < w.heap.size := (Array.getElem?_eq_some_iff.1 h).1
theorem CEnv.lts (h : CEnv K W0 w A c f o vo) : K.f < w.heap.size ∧ K.out < w.heap.size ∧ K.done < w.heap.size ∧ K.num < w.heap.size ∧ K.fin_ < w.heap.size ∧ K.mn < w.heap.size ∧ K.md < w.heap.size :=
  ⟨lt_heap h.blk_f, lt_heap h.blk_out, lt_heap h.blk_done, lt_heap h.blk_num, lt_heap h.blk_fin, h.nums.lt, h.dones.lt⟩
theorem row_keep {base : Nat} {e : TypeId} {size n : Nat} {xs : List Value} (h : w.ownsRow base e size vo n xs) (hk : ∀ g, vo.ownBlock = some g → w'.heap[g]? = w.heap[g]?) : w'.ownsRow base e size vo n xs := by
  obtain ⟨h1, h2⟩ := h
  refine ⟨h1, ?_⟩
  rcases h2 with h2 | ⟨g, cap, cur, rfl, hb, hc, hr⟩
  · exact .inl h2
  · exact .inr ⟨g, cap, cur, rfl, hb, (hk g rfl).trans hc, hr⟩
/-- The state is kept where its blocks are. -/
theorem CEnv.keep (h : CEnv K W0 w A c f o vo) (hb : Below W0.heap.size W0 w') (hk : ∀ k, k < w.heap.size → (k = K.f ∨ k = K.out ∨ k = K.done ∨ k = K.num ∨ k = K.fin_ ∨ k = K.mn ∨ k = K.md ∨ vo.ownBlock = some k) → w'.heap[k]? = w.heap[k]?) :
    CEnv K W0 w' A c f o vo := by
  obtain ⟨l1, l2, l3, l4, l5, l6, l7⟩ := h.lts
  exact ⟨hb, h.nds, (hk _ l1 (by simp)).trans h.blk_f, (hk _ l2 (by simp)).trans h.blk_out, (hk _ l3 (by simp)).trans h.blk_done, (hk _ l4 (by simp)).trans h.blk_num, (hk _ l5 (by simp)).trans h.blk_fin,
    row_keep h.row fun g hg => hk g (h.row.lt g hg).2 (by simp [hg]), h.nums.kept (hk _ l6 (by simp)), h.dones.kept (hk _ l7 (by simp)), h.low, h.apart, h.oks⟩
theorem CEnv.ext (h : CEnv K W0 w A c f o vo) (he : Ext w w') : CEnv K W0 w' A c f o vo :=
  h.keep (h.below.trans (Below.mono he h.below.size)) fun _ hk _ => he.block hk
end

/-- Between the steps of a call: the state, and the two boxes of the call's own. -/
structure CMid (K : Blks) (W0 we w : World) (A : Option Addr) (c : Nat) (f o : List Nd) (voe vo : Value) (bx bu : Nat) (m : Nd) (ux uy : Bool) : Prop where
  env : CEnv K W0 w A c f o vo
  step : CStep K we w voe vo
  envlt : K.f < we.heap.size ∧ K.out < we.heap.size ∧ K.done < we.heap.size ∧ K.num < we.heap.size ∧ K.fin_ < we.heap.size ∧ K.mn < we.heap.size ∧ K.md < we.heap.size
  box : w.heap[bx]? = some (.cells #[.int .i64 m.op, .int .i64 m.i, .int .i64 m.e, .int .i64 m.g, .int .i64 m.x, .int .i64 m.y] 60 (0, 0))
  use : ∃ u2 u3 u4 u5 u6, w.heap[bu]? = some (.cells #[.bool ux, .bool uy, u2, u3, u4, u5, u6] 64 (0, 0))
  fresh : we.heap.size ≤ bx ∧ we.heap.size ≤ bu ∧ bx ≠ bu ∧ vo.ownBlock ≠ some bx ∧ vo.ownBlock ≠ some bu

section
variable {K : Blks} {W0 we w w' : World} {A : Option Addr} {c : Nat} {f o : List Nd} {voe vo : Value} {bx bu : Nat} {m : Nd} {ux uy : Bool}
theorem cells6 {b : Nat} {a0 a1 a2 a3 a4 a5 : Value} {t : TypeId} (h : w.heap[b]? = some (.cells #[a0, a1, a2, a3, a4, a5] t (0, 0))) :
    (w.cell? ⟨b, 0, none⟩ = some a0 ∧ w.cell? ⟨b, 1, none⟩ = some a1 ∧ w.cell? ⟨b, 2, none⟩ = some a2 ∧ w.cell? ⟨b, 3, none⟩ = some a3 ∧ w.cell? ⟨b, 4, none⟩ = some a4 ∧ w.cell? ⟨b, 5, none⟩ = some a5) ∧ (∀ j, w.frozen? ⟨b, j, none⟩ = false) ∧ b < w.heap.size :=
  ⟨⟨by simp [World.cell?, h], by simp [World.cell?, h], by simp [World.cell?, h], by simp [World.cell?, h], by simp [World.cell?, h], by simp [World.cell?, h]⟩, fun j => by simp [World.frozen?, h], lt_heap h⟩
theorem use2 {b : Nat} {a0 a1 a2 a3 a4 a5 a6 : Value} {t : TypeId} (h : w.heap[b]? = some (.cells #[a0, a1, a2, a3, a4, a5, a6] t (0, 0))) : w.cell? ⟨b, 0, none⟩ = some a0 ∧ w.cell? ⟨b, 1, none⟩ = some a1 ∧ b < w.heap.size :=
  ⟨by simp [World.cell?, h], by simp [World.cell?, h], lt_heap h⟩

/-- The start: two boxes are laid. -/
theorem CMid.start (h : CEnv K W0 we A c f o vo) {w1 : World} (n : Nd) (u2 u3 u4 u5 u6 : Value)
    (he : Ext (we.alloc (.cells #[.int .i64 n.op, .int .i64 n.i, .int .i64 n.e, .int .i64 n.g, .int .i64 n.x, .int .i64 n.y] 60)) w1) :
    CMid K W0 we (w1.alloc (.cells #[.bool ux, .bool uy, u2, u3, u4, u5, u6] 64)) A c f o vo vo we.heap.size w1.heap.size n ux uy := by
  have e0 : Ext we w1 := ((Ext.refl _).alloc _).trans he
  have hlt : we.heap.size < w1.heap.size := Nat.lt_of_lt_of_le (by simp) he.size
  refine ⟨h.ext (e0.alloc _), CStep.of_ext (e0.alloc _), h.lts, ?_, ⟨u2, u3, u4, u5, u6, heap_alloc_new _ _⟩, Nat.le_refl _, e0.size, Nat.ne_of_lt hlt, ?_, ?_⟩
  · rw [((Ext.refl w1).alloc _).block hlt, he.block (by simp)]
    exact heap_alloc_new _ _
  · intro e
    exact absurd (h.row.lt _ e).2 (by omega)
  · intro e
    exact absurd (h.row.lt _ e).2 (by omega)
/-- A call of the closure in between. -/
theorem CMid.call {o' : List Nd} {vo' : Value} (h : CMid K W0 we w A c f o voe vo bx bu m ux uy) (he : CEnv K W0 w' A c f o' vo') (hs : CStep K w w' vo vo') : CMid K W0 we w' A c f o' voe vo' bx bu m ux uy := by
  obtain ⟨l1, l2, l3, l4, l5, l6, l7⟩ := h.envlt
  obtain ⟨f1, f2, f3, f4, f5⟩ := h.fresh
  obtain ⟨u2, u3, u4, u5, u6, hu⟩ := h.use
  have hbx := lt_heap h.box
  have hbu := lt_heap hu
  refine ⟨he, h.step.trans hs, h.envlt, (hs.block _ hbx (by omega) (by omega) (by omega) f4).trans h.box, ⟨u2, u3, u4, u5, u6, (hs.block _ hbu (by omega) (by omega) (by omega) f5).trans hu⟩, f1, f2, f3, ?_, ?_⟩
  · intro e
    rcases hs.row _ e with e | e
    · exact f4 e
    · omega
  · intro e
    rcases hs.row _ e with e | e
    · exact f5 e
    · omega
/-- A store into the box of the node. -/
theorem CMid.store (h : CMid K W0 we w A c f o voe vo bx bu m ux uy) (j : Nat) (u : Value) (m' : Nd)
    (hm : (#[.int .i64 m.op, .int .i64 m.i, .int .i64 m.e, .int .i64 m.g, .int .i64 m.x, .int .i64 m.y] : Array Value).setIfInBounds j u = #[.int .i64 m'.op, .int .i64 m'.i, .int .i64 m'.e, .int .i64 m'.g, .int .i64 m'.x, .int .i64 m'.y]) :
    CMid K W0 we (w.setCell ⟨bx, j, none⟩ u) A c f o voe vo bx bu m' ux uy := by
  obtain ⟨l1, l2, l3, l4, l5, l6, l7⟩ := h.envlt
  obtain ⟨f1, f2, f3, f4, f5⟩ := h.fresh
  obtain ⟨u2, u3, u4, u5, u6, hu⟩ := h.use
  have hbx := lt_heap h.box
  have hW0 : W0.heap.size ≤ we.heap.size := Nat.le_trans h.env.low.1 (Nat.le_of_lt l2)
  have hoth : ∀ k, k ≠ bx → (w.setCell ⟨bx, j, none⟩ u).heap[k]? = w.heap[k]? := fun k hk => Below.heap_setCell _ _ _ _ hk
  have hsz : (w.setCell ⟨bx, j, none⟩ u).heap.size = w.heap.size := by simp [World.setCell]
  refine ⟨h.env.keep (h.env.below.setCell (by show W0.heap.size ≤ bx; omega) _) fun k _ hk => hoth k ?_, ?_, h.envlt, ?_, ⟨u2, u3, u4, u5, u6, (hoth _ (Ne.symm f3)).trans hu⟩, f1, f2, f3, f4, f5⟩
  · rcases hk with hk | hk | hk | hk | hk | hk | hk | hk
    · omega
    · omega
    · omega
    · omega
    · omega
    · omega
    · omega
    · exact fun e => f4 (by rw [hk, e])
  · exact ⟨h.step.os, h.step.tape, h.step.output, by rw [hsz]; exact h.step.size, fun k hk h1 h2 h3 h4 => (hoth k (by omega)).trans (h.step.block k hk h1 h2 h3 h4), h.step.row⟩
  · have hb := h.box
    simp only [World.setCell, Array.getElem?_modify, hb, if_true, Option.map_some]
    simp [hm]
theorem CEnv.row_apart (h : CEnv K W0 w A c f o vo) : ∀ g, vo.ownBlock = some g → g ≠ K.f ∧ g ≠ K.out ∧ g ≠ K.done ∧ g ≠ K.num ∧ g ≠ K.fin_ ∧ g ≠ K.mn ∧ g ≠ K.md := by
  intro g hg
  obtain ⟨_, h2⟩ := h.row
  rcases h2 with ⟨rfl, _⟩ | ⟨g', cap, cur, rfl, _, hb, _⟩
  · cases hg
  · obtain rfl : g' = g := by simpa [Value.ownBlock] using hg
    have no : ∀ {k : Nat} {cs : Array Value} {t : TypeId}, w.heap[k]? = some (.cells cs t (0, 0)) → t ≠ 60 → g' ≠ k := by
      intro k cs t hk ht e
      subst e
      rw [hb] at hk
      injection hk with hk
      injection hk with _ hk
      exact ht hk.symm
    have nomap : ∀ {k : Nat} {es : Array MapEntry} {n : Nat}, w.heap[k]? = some (.map es n) → g' ≠ k := by
      intro k es n hk e
      subst e
      rw [hb] at hk
      cases hk
    obtain ⟨_, _, ⟨_, _, hn, _⟩, _⟩ := h.nums
    obtain ⟨_, _, ⟨_, _, hd, _⟩, _⟩ := h.dones
    exact ⟨no h.blk_f (by decide), no h.blk_out (by decide), no h.blk_done (by decide), no h.blk_num (by decide), no h.blk_fin (by decide), nomap hn, nomap hd⟩
theorem CEnv.blks_apart (h : CEnv K W0 w A c f o vo) : K.out ≠ K.f ∧ K.out ≠ K.done ∧ K.out ≠ K.num ∧ K.out ≠ K.fin_ ∧ K.out ≠ K.mn ∧ K.out ≠ K.md ∧ K.mn ≠ K.f ∧ K.mn ≠ K.done ∧ K.mn ≠ K.num ∧ K.mn ≠ K.fin_ ∧ K.md ≠ K.f ∧ K.md ≠ K.done ∧ K.md ≠ K.num ∧ K.md ≠ K.fin_ := by
  obtain ⟨_, _, ⟨_, _, hn, _⟩, _⟩ := h.nums
  obtain ⟨_, _, ⟨_, _, hd, _⟩, _⟩ := h.dones
  have no : ∀ {k k' : Nat} {cs cs' : Array Value} {t t' : TypeId}, w.heap[k]? = some (.cells cs t (0, 0)) → w.heap[k']? = some (.cells cs' t' (0, 0)) → t ≠ t' → k ≠ k' := by
    intro k k' cs cs' t t' hk hk' ht e
    subst e
    rw [hk] at hk'
    injection hk' with hk'
    injection hk' with _ hk'
    exact ht hk'
  have nomap : ∀ {k k' : Nat} {es : Array MapEntry} {n : Nat} {cs : Array Value} {t : TypeId}, w.heap[k]? = some (.map es n) → w.heap[k']? = some (.cells cs t (0, 0)) → k ≠ k' := by
    intro k k' es n cs t hk hk' e
    subst e
    rw [hk] at hk'
    cases hk'
  exact ⟨h.apart.symm, no h.blk_out h.blk_done (by decide), no h.blk_out h.blk_num (by decide), no h.blk_out h.blk_fin (by decide), (nomap hn h.blk_out).symm, (nomap hd h.blk_out).symm,
    nomap hn h.blk_f, nomap hn h.blk_done, nomap hn h.blk_num, nomap hn h.blk_fin, nomap hd h.blk_f, nomap hd h.blk_done, nomap hd h.blk_num, nomap hd h.blk_fin⟩

/-- A new node was appended, and its number stored. -/
theorem CMid.added (h : CMid K W0 we w A c f o voe vo bx bu m ux uy) (hf : Wf f) (hm : m ∉ o) (hok : m.ok) {w4 w6 : World} {v' : Value} {X : Obj} (hne : K.mn ≠ K.md)
    (hrow : w4.ownsRow W0.heap.size 60 6 v' (o.length + 1) (o.flatMap Nd.cells ++ m.cells)) (hg : (w.alloc X).grownBy w4 vo.ownBlock) (hat : v'.ownBlock = vo.ownBlock ∨ v'.ownBlock = some (w.alloc X).heap.size)
    {D : D0} {k : Nat} (hown : w.ownsMap Tryd.prog 60 (plainElem Tryd.prog 3) K.mn k D) (hk : k ≤ o.length)
    (hD : ∀ n : Nd, n.ok → has D (nkey n) = decide (n ∈ o) ∧ (n ∈ o → ∀ z, D.atKey (nkey n) z = .lit (.int .i64 (o.idxOf n))))
    (hput : w6.ownsMap Tryd.prog 60 (plainElem Tryd.prog 3) K.mn (k + 1) (D.put (nkey m) (.lit (.int .i64 o.length)))) (hg2 : (w4.setCell ⟨K.out, 0, none⟩ v').grownBy w6 (some K.mn)) :
    CMid K W0 we w6 A c f (o ++ [m]) voe v' bx bu m ux uy := by
  obtain ⟨l1, l2, l3, l4, l5, l6, l7⟩ := h.env.lts
  obtain ⟨e1, e2, e3, e4, e5, e6, e7⟩ := h.envlt
  obtain ⟨f1, f2, f3, f4, f5⟩ := h.fresh
  obtain ⟨u2, u3, u4, u5, u6, hu⟩ := h.use
  have hra := h.env.row_apart
  obtain ⟨b1, b2, b3, b4, b5, b6, b7, b8, b9, b10, b11, b12, b13, b14⟩ := h.env.blks_apart
  have ea : Ext w (w.alloc X) := (Ext.refl _).alloc _
  have hs1 : w.heap.size ≤ w4.heap.size := Nat.le_trans ea.size hg.size
  have hsz5 : (w4.setCell ⟨K.out, 0, none⟩ v').heap.size = w4.heap.size := by simp [World.setCell]
  have k4 : ∀ b, b < w.heap.size → some b ≠ vo.ownBlock → w4.heap[b]? = w.heap[b]? := fun b hb hne => (hg.block b (Nat.lt_of_lt_of_le hb ea.size) hne).trans (ea.block hb)
  have k6 : ∀ b, b < w4.heap.size → b ≠ K.out → b ≠ K.mn → w6.heap[b]? = w4.heap[b]? := fun b hb h1 h2 =>
    (hg2.block b (by rw [hsz5]; exact hb) (by simpa using h2)).trans (Below.heap_setCell _ _ _ _ h1)
  have k7 : ∀ b, b < w.heap.size → some b ≠ vo.ownBlock → b ≠ K.out → b ≠ K.mn → w6.heap[b]? = w.heap[b]? := fun b hb h0 h1 h2 => (k6 b (by omega) h1 h2).trans (k4 b hb h0)
  have ro : ∀ b, (∀ g, vo.ownBlock = some g → g ≠ b) → some b ≠ vo.ownBlock := fun b hb e => hb b e.symm rfl
  have hout4 : w4.heap[K.out]? = some (.cells #[vo] 29 (0, 0)) := (k4 _ l2 (ro _ fun g hg => (hra g hg).2.1)).trans h.env.blk_out
  have hnew : ∀ g, v'.ownBlock = some g → g ≠ K.out ∧ g ≠ K.mn := by
    intro g hg
    rcases hat with e | e
    · rw [e] at hg
      exact ⟨(hra g hg).2.1, (hra g hg).2.2.2.2.2.1⟩
    · rw [e] at hg
      have : w.heap.size + 1 = g := by simpa using hg
      omega
  have hbx := lt_heap h.box
  have hbu := lt_heap hu
  have hbelow : Below W0.heap.size W0 w6 := by
    refine ⟨hg2.os.trans (hg.os.trans h.env.below.os), hg2.tape.trans (hg.tape.trans h.env.below.tape), hg2.output.trans (hg.output.trans h.env.below.output), ?_, ?_⟩
    · have := h.env.below.size
      have := hg2.size
      rw [hsz5] at this
      omega
    · intro b hb
      have hlow := h.env.low
      have := h.env.below.size
      refine (k7 b (by omega) (ro _ fun g hg => ?_) (by omega) (by omega)).trans (h.env.below.block b hb)
      have := (h.env.row.lt g hg).1
      omega
  have hs6 : w.heap.size ≤ w6.heap.size := by
    have := hg2.size
    rw [hsz5] at this
    omega
  have henv : CEnv K W0 w6 A c f (o ++ [m]) v' := by
    refine ⟨hbelow, h.env.nds, (k7 _ l1 (ro _ fun g hg => (hra g hg).1) (Ne.symm b1) (Ne.symm b7)).trans h.env.blk_f, ?_, (k7 _ l3 (ro _ fun g hg => (hra g hg).2.2.1) (Ne.symm b2) (Ne.symm b8)).trans h.env.blk_done,
      (k7 _ l4 (ro _ fun g hg => (hra g hg).2.2.2.1) (Ne.symm b3) (Ne.symm b9)).trans h.env.blk_num, (k7 _ l5 (ro _ fun g hg => (hra g hg).2.2.2.2.1) (Ne.symm b4) (Ne.symm b10)).trans h.env.blk_fin,
      ?_, ?_, ?_, h.env.low, h.env.apart, ?_⟩
    · exact (hg2.block _ (by rw [hsz5]; omega) (by simpa using b5)).trans (one_setCell hout4)
    · have := row_keep (w' := w6) hrow fun g hg => k6 g (hrow.lt g hg).2 (hnew g hg).1 (hnew g hg).2
      simpa using this
    · exact NumMap.put hok hm hown hk hD hput
    · exact (h.env.dones.grow hf (List.prefix_append _ _)).kept (k7 _ l7 (ro _ fun g hg => (hra g hg).2.2.2.2.2.2) (Ne.symm b6) (Ne.symm hne))
    · intro n hn
      rcases List.mem_append.1 hn with hn | hn
      · exact h.env.oks n hn
      · rw [List.mem_singleton.1 hn]; exact hok
  refine ⟨henv, h.step.trans ⟨hg2.os.trans hg.os, hg2.tape.trans hg.tape, hg2.output.trans hg.output, hs6, fun b hb h1 h2 _ h4 => k7 b hb (Ne.symm h4) h1 h2, fun g hg => ?_⟩, h.envlt,
    (k7 _ hbx (Ne.symm f4) (by omega) (by omega)).trans h.box, ⟨u2, u3, u4, u5, u6, (k7 _ hbu (Ne.symm f5) (by omega) (by omega)).trans hu⟩, f1, f2, f3, ?_, ?_⟩
  · rcases hat with e | e
    · exact .inl (by rw [← e]; exact hg)
    · rw [e] at hg
      have : w.heap.size + 1 = g := by simpa using hg
      exact .inr (by omega)
  · intro e
    rcases hat with e' | e'
    · exact f4 (by rw [← e']; exact e)
    · rw [e'] at e
      have : w.heap.size + 1 = bx := by simpa using e
      omega
  · intro e
    rcases hat with e' | e'
    · exact f5 (by rw [← e']; exact e)
    · rw [e'] at e
      have : w.heap.size + 1 = bu := by simpa using e
      omega

/-- The end: the node is done. -/
theorem CMid.finish (h : CMid K W0 we w A c f o voe vo bx bu m ux uy) {w7 : World} (hg : w.grownBy w7 (some K.md)) (hd : DoneMap w7 K.md f o) (hne : K.mn ≠ K.md) : CEnv K W0 w7 A c f o vo ∧ CStep K we w7 voe vo := by
  obtain ⟨l1, l2, l3, l4, l5, l6, l7⟩ := h.env.lts
  have hra := h.env.row_apart
  obtain ⟨b1, b2, b3, b4, b5, b6, b7, b8, b9, b10, b11, b12, b13, b14⟩ := h.env.blks_apart
  have k7 : ∀ b, b < w.heap.size → b ≠ K.md → w7.heap[b]? = w.heap[b]? := fun b hb h1 => hg.block b hb (by simpa using h1)
  have hlow := h.env.low
  have hbelow : Below W0.heap.size W0 w7 := ⟨hg.os.trans h.env.below.os, hg.tape.trans h.env.below.tape, hg.output.trans h.env.below.output, Nat.le_trans h.env.below.size hg.size,
    fun b hb => (k7 b (Nat.lt_of_lt_of_le hb h.env.below.size) (by omega)).trans (h.env.below.block b hb)⟩
  refine ⟨⟨hbelow, h.env.nds, (k7 _ l1 (Ne.symm b11)).trans h.env.blk_f, (k7 _ l2 b6).trans h.env.blk_out, (k7 _ l3 (Ne.symm b12)).trans h.env.blk_done, (k7 _ l4 (Ne.symm b13)).trans h.env.blk_num,
    (k7 _ l5 (Ne.symm b14)).trans h.env.blk_fin, row_keep h.env.row fun g hg => k7 g (h.env.row.lt g hg).2 (hra g hg).2.2.2.2.2.2, h.env.nums.kept (k7 _ l6 hne), hd, h.env.low, h.env.apart, h.env.oks⟩, ?_⟩
  exact h.step.trans ⟨hg.os, hg.tape, hg.output, hg.size, fun b hb _ _ h3 _ => k7 b hb h3, fun _ h => .inl h⟩
end
end Go.Proofs.YtipnbfbakohcaaaDoor
