/- The reference's put: a node's number in a list, to which it is appended if it is new. -/
import Derived.Test.YtbfeodammikajaaGreatG28
import Derived.Deep.RegionLaw
import Derived.Maps.AppendAt
import Derived.Test.YtbfeodammikajaaGreatG08
import Derived.Deep.DeepCutAuto
import Derived.Test.YtbfeodammikajaaGreatG09

namespace Go.Proofs.YtbfeodammikajaaGreat
open Go.RowKit

theorem idxOf_first : ∀ {o : List Nd} {k : Nat} {a x : Nd}, o[k]? = some a → a = x → x ∉ o.take k → o.idxOf x = k
  | [], k, a, x, h, _, _ => by simp at h
  | b :: r, 0, a, x, h, hab, _ => by
    simp only [List.getElem?_cons_zero, Option.some.injEq] at h
    subst h hab
    simp
  | b :: r, k + 1, a, x, h, hab, hn => by
    simp only [List.take_succ_cons, List.mem_cons, not_or] at hn
    have ih := idxOf_first (o := r) (k := k) (a := a) (x := x) (by simpa using h) hab hn.2
    have hb : (b == x) = false := by rw [beq_eq_false_iff_ne]; exact fun e => hn.1 e.symm
    rw [List.idxOf_cons, hb, ih]
    rfl
/-- What a call of put may have changed: the struct's block, and the row. -/
structure PStep (bw : Nat) (w w' : World) (v v' : Value) : Prop where
  os : w'.os = w.os
  tape : w'.tape = w.tape
  output : w'.output = w.output
  size : w.heap.size ≤ w'.heap.size
  block : ∀ k, k < w.heap.size → k ≠ bw → v.ownBlock ≠ some k → w'.heap[k]? = w.heap[k]?
  row : ∀ g, v'.ownBlock = some g → v.ownBlock = some g ∨ w.heap.size ≤ g
section
variable {a b c w w' : World} {va vb vc v v' : Value} {bw : Nat}
theorem PStep.refl (w : World) (v : Value) : PStep bw w w v v := ⟨rfl, rfl, rfl, Nat.le_refl _, fun _ _ _ _ => rfl, fun _ h => .inl h⟩
theorem PStep.trans (h : PStep bw a b va vb) (k : PStep bw b c vb vc) : PStep bw a c va vc :=
  ⟨k.os.trans h.os, k.tape.trans h.tape, k.output.trans h.output, Nat.le_trans h.size k.size,
    fun i hi hb h4 => (k.block i (Nat.lt_of_lt_of_le hi h.size) hb (fun e => by
      rcases h.row i e with e' | e'
      · exact h4 e'
      · omega)).trans (h.block i hi hb h4),
    fun g hg => by
      rcases k.row g hg with e | e
      · exact h.row g e
      · exact .inr (Nat.le_trans h.size e)⟩
theorem PStep.of_ext (e : Ext a b) : PStep bw a b v v := ⟨e.os, e.tape, e.output, e.size, fun _ hk _ _ => e.block hk, fun _ h => .inl h⟩
theorem PStep.of_r (h : RStep a b va vb) : PStep bw a b va vb := ⟨h.os, h.tape, h.output, h.size, fun k hk _ hv => h.block k hk hv, h.row⟩
theorem PStep.set_ (w : World) (v : Value) (p : Addr) (hp : p.block = bw) (u : Value) : PStep bw w (w.setCell p u) v v :=
  ⟨rfl, rfl, rfl, by simp [World.setCell], fun k _ hb _ => Below.heap_setCell _ _ _ _ (by rw [hp]; exact hb), fun _ h => .inl h⟩
end

theorem put_keep {w W w4 : World} {bw : Nat} {v v0 vd : Value} {t : TypeId} (hb : w.heap[bw]? = some (.cells #[v0, vd] t (0, 0))) (hne : v.ownBlock ≠ some bw) (he : Ext w W) (hg : W.grownBy w4 v.ownBlock) : w4.heap[bw]? = some (.cells #[v0, vd] t (0, 0)) :=
  ((hg.block bw (Nat.lt_of_lt_of_le (lt_heap hb) he.size) (fun e => hne e.symm)).trans (he.block (lt_heap hb))).trans hb
theorem put_step {w W w4 : World} {bw : Nat} {v v' : Value} (he : Ext w W) (hg : W.grownBy w4 v.ownBlock) (hat : v'.ownBlock = v.ownBlock ∨ v'.ownBlock = some W.heap.size) : PStep bw w w4 v v' :=
  PStep.of_r (((RStep.refl w v).ext he).appended hg hat)

theorem put_row_ne {w w4 : World} {bw : Nat} {v v' : Value} (h : PStep bw w w4 v v') (hne : v.ownBlock ≠ some bw) (hlt : bw < w.heap.size) : v'.ownBlock ≠ some bw := fun e => by
  rcases h.row bw e with h1 | h1
  · exact hne h1
  · omega

set_option maxRecDepth 100000 in
set_option maxHeartbeats 2000000 in
theorem put_any (bw base : Nat) (x : Nd) (o : List Nd) (vo vd : Value) (w : World) (hblk : w.heap[bw]? = some (.cells #[vo, vd] 157 (0, 0))) (hrow : w.ownsRow base 93 6 vo o.length (o.flatMap Nd.cells))
    (hb : base ≤ w.heap.size) (hlen : o.length ≤ 1000) (hne : vo.ownBlock ≠ some bw) :
    Calls Tryz.prog 163 #[.pointer (some ⟨bw, 0, none⟩), .agg #[.int .i64 x.op, .int .i64 x.i, .int .i64 x.e, .int .i64 x.g, .int .i64 x.x, .int .i64 x.y]] w fun e w' => ∃ vo', e = .returned (.int .i64 (o.idxOf x : Nat)) ∧
      w'.heap[bw]? = some (.cells #[vo', vd] 157 (0, 0)) ∧ w'.ownsRow base 93 6 vo' (addN o x).length ((addN o x).flatMap Nd.cells) ∧ PStep bw w w' vo vo' := by
  obtain ⟨i0, hi0, hz0, hz1, hz2⟩ := info_parts tInfo
  obtain ⟨Ao, co, rfl⟩ := slice_of_row hrow
  have HROW := Lib.hid hrow
  have HBLK := Lib.hid hblk
  have HNE := Lib.hid hne
  obtain ⟨A2, c2, e2, hcap, hmax, hread⟩ := nds_of_row hrow
  obtain ⟨rfl, rfl⟩ : A2 = Ao ∧ c2 = co := by injection e2 with e2 _ e3; exact ⟨e2.symm, e3.symm⟩
  have HREAD := Lib.hid hread
  unfold maxLen at hmax
  obtain ⟨d0, d1, dfr, dlt⟩ := cells2 hblk
  clear hrow hblk hne e2 hread
  go_enter Tryz.func163, Tryz.ntmps163
  go_wp2_with fail
  go_loopw [5] (fun i wr => ∃ k : Nat, k ≤ o.length ∧ i = .int .i64 k ∧ Hid (x ∉ o.take k) ∧ Ext w wr ∧ Hid (wr.heap[w.heap.size]? = some (.cells #[.int .i64 x.op, .int .i64 x.i, .int .i64 x.e, .int .i64 x.g, .int .i64 x.x, .int .i64 x.y] 93 (0, 0)))) (fun i _ => o.length - (intOf i).toNat)
  case atStart => exact ⟨0, Nat.zero_le _, rfl, Lib.hid (by simp), (Ext.refl _).alloc _, Lib.hid (heap_alloc_new _ _)⟩
  case round =>
    obtain ⟨k, hk, rfl, HNI, hext, HBX⟩ := hrel
    have k0 := (hext.cell (p := ⟨bw, 0, none⟩) dlt).trans d0
    have k1 := (hext.cell (p := ⟨bw, 1, none⟩) dlt).trans d1
    obtain ⟨⟨b0, b1, b2, b3, b4, b5⟩, bfr, blt⟩ := cells6 HBX.out
    by_cases hlt2 : k < o.length
    · obtain ⟨a, ha⟩ : ∃ a, o[k]? = some a := ⟨_, List.getElem?_eq_getElem hlt2⟩
      obtain ⟨ad, rfl, hb1, hc1⟩ := HREAD.out (by intro e; rw [e] at hlt2; simp at hlt2)
      obtain ⟨a0, a1, a2, a3, a4, a5⟩ := (hc1 k a ha).keep fun p hp => hext.cell (p := p) (by rw [hp, block_of_add]; exact hb1)
      have hi0' : (0 : Int) ≤ (k : Int) := by omega
      have hi1' : (k : Int) < (o.length : Int) := by omega
      have heq := fun W => eqNode a x W
      have HA := Lib.hid ha
      clear ha hc1
      by_cases hab : a = x
      · have hd : decide (a = x) = true := by simpa using hab
        have HIX : Hid (o.idxOf x = k) := Lib.hid (idxOf_first HA.out hab HNI.out)
        have HIN : Hid (addN o x = o) := Lib.hid (by unfold addN; rw [if_pos (by rw [← hab]; exact List.mem_of_getElem? HA.out)])
        clear hab
        go_wp2_with fail
        go_quiet (fail)
        go_wp2_with fail
        go_ret
        refine ⟨_, ret_int (by rw [HIX.out]), ?_, ?_, PStep.of_ext (hext.drewN _)⟩
        · exact ((hext.drewN _).block dlt).trans HBLK.out
        · rw [HIN.out]; exact row_ext HROW.out (hext.drewN _)
      · have hd : decide (a = x) = false := by simpa using hab
        have HT : Hid (x ∉ o.take (k + 1)) := Lib.hid (by rw [take_succ_eq HA.out]; simp [HNI.out, Ne.symm hab])
        clear hab
        go_wp2_with fail
        go_quiet (fail)
        go_wp2_with fail
        go_roundw
        case rel => exact ⟨k + 1, by omega, by go_num, HT, hext.drewN _, Lib.hid HBX.out⟩
        case measure => simp [intOf]; omega
    · obtain rfl : o.length = k := by omega
      have HNOT : Hid (x ∉ o) := Lib.hid (by have := HNI.out; rwa [List.take_of_length_le (Nat.le_refl _)] at this)
      have hc3 : o.length + 1 ≤ maxLen := by unfold maxLen; omega
      have hc4 : (o.length + 1) * 48 ≤ 140737488355328 := by omega
      have blt2 : bw < wr.heap.size := Nat.lt_of_lt_of_le dlt hext.size
      have k2 := (hext.frozen (p := ⟨bw, 0, none⟩) dlt).trans (dfr 0)
      go_wp2_with fail
      go_region_law (refine step_append_at rfl (.tmp 29) (.tmp 31) 22 rfl base 93 i0 Nd.zero.val 6 48 Tryz.underlying22 hi0 hz0 hz1 hz2 rfl (by decide) (.slice A2 o.length c2) _ _ (by simp [Act.eval]) (row_ext HROW.out (by repeat (first | exact hext | apply Ext.alloc | apply Ext.drew | apply Ext.drewN))) ⟨wr.heap.size, 0, none⟩ 1 1 x.cells (by simp [Act.eval]) rfl (row_new_at _ _ _ (by simp)) (node_cells x) hc3 hc4 (Nat.le_trans hb (Ext.size (a := w) (by repeat (first | exact hext | apply Ext.alloc | apply Ext.drew | apply Ext.drewN)))) ?_; intro v' w4 hown4 hgrow4 hat4; obtain ⟨A4, c4, rfl⟩ := slice_of_row hown4; have kb := put_keep HBLK.out HNE.out (by repeat (first | exact hext | apply Ext.alloc | apply Ext.drew | apply Ext.drewN)) hgrow4; obtain ⟨q0, q1, qfr, qlt⟩ := cells2 kb; have ST := Lib.hid (put_step (bw := bw) (by repeat (first | exact hext | apply Ext.alloc | apply Ext.drew | apply Ext.drewN)) hgrow4 (hat4.imp id fun e => by simp [e])); have HROW4 := Lib.hid hown4; have KB := Lib.hid kb; clear hown4 hgrow4 hat4 kb)
      all_goals
        go_wp2_with fail
        go_ret
        refine ⟨.slice A4 (o.length + 1) c4, ret_int (by rw [List.idxOf_eq_length HNOT.out]), ?_, ?_, ?_⟩
        · exact set_first KB.out _
        · rw [show addN o x = o ++ [x] by unfold addN; rw [if_neg HNOT.out]]
          refine ownsRow_setCell_other (a := ⟨bw, 0, none⟩) ?_ (put_row_ne ST.out HNE.out (lt_heap HBLK.out)) _
          have h4 := HROW4.out
          simpa using h4
        · exact ST.out.trans (PStep.set_ _ _ ⟨bw, 0, none⟩ rfl _)
end Go.Proofs.YtbfeodammikajaaGreat

/- The reference's walk from a node: its state. -/

namespace Go.Proofs.YtbfeodammikajaaGreat
open Go.RowKit

/-- What is done: for each node -1, or its number, at which a walk adds nothing. -/
def DoneL (f o : List Nd) (d : List Int) : Prop := d.length = f.length ∧ ∀ i, i < f.length → d[i]? = some (-1) ∨ (finN f i o = (o, (finN f i o).2) ∧ d[i]? = some (((finN f i o).2 : Nat) : Int))
theorem DoneL.grow {f o o' : List Nd} {d : List Int} (hf : Wf f) (h : DoneL f o d) (hp : o <+: o') : DoneL f o' d := by
  refine ⟨h.1, fun i hi => ?_⟩
  rcases h.2 i hi with h1 | ⟨h1, h2⟩
  · exact .inl h1
  · have hg := finN_again hf i o o' hi (by rw [h1]; exact hp)
    exact .inr ⟨by rw [hg], by rw [hg]; exact h2⟩
theorem DoneL.put {f o : List Nd} {d : List Int} {i : Nat} (h : DoneL f o d) (hi : i < f.length) (hfin : finN f i o = (o, (finN f i o).2)) : DoneL f o (d.set i (((finN f i o).2 : Nat) : Int)) := by
  refine ⟨by simpa using h.1, fun j hj => ?_⟩
  by_cases e : j = i
  · subst e
    exact .inr ⟨hfin, by rw [List.getElem?_set_self (by rw [h.1]; exact hi)]⟩
  · rw [List.getElem?_set_ne (Ne.symm e)]
    exact h.2 j hj

structure RInv (bw : Nat) (W0 w : World) (A : Option Addr) (c : Nat) (f o : List Nd) (d : List Int) (vo vd : Value) : Prop where
  below : Go.RowKit.Below W0.heap.size W0 w
  nds : NdsAt W0 A c f
  blk : w.heap[bw]? = some (.cells #[vo, vd] 157 (0, 0))
  row : w.ownsRow W0.heap.size 93 6 vo o.length (o.flatMap Nd.cells)
  drow : w.ownsRow W0.heap.size 3 1 vd f.length (d.map (Value.int .i64))
  done : DoneL f o d
  low : W0.heap.size ≤ bw
  oks : ∀ n ∈ o, n.ok
/-- What a call may have changed. -/
structure FStep (bw : Nat) (vd : Value) (w w' : World) (v v' : Value) : Prop where
  os : w'.os = w.os
  tape : w'.tape = w.tape
  output : w'.output = w.output
  size : w.heap.size ≤ w'.heap.size
  block : ∀ k, k < w.heap.size → k ≠ bw → vd.ownBlock ≠ some k → v.ownBlock ≠ some k → w'.heap[k]? = w.heap[k]?
  row : ∀ g, v'.ownBlock = some g → v.ownBlock = some g ∨ w.heap.size ≤ g
section
variable {a b c w w' : World} {va vb vc v v' vd : Value} {bw : Nat}
theorem FStep.refl (w : World) (v : Value) : FStep bw vd w w v v := ⟨rfl, rfl, rfl, Nat.le_refl _, fun _ _ _ _ _ => rfl, fun _ h => .inl h⟩
theorem FStep.trans (h : FStep bw vd a b va vb) (k : FStep bw vd b c vb vc) : FStep bw vd a c va vc :=
  ⟨k.os.trans h.os, k.tape.trans h.tape, k.output.trans h.output, Nat.le_trans h.size k.size,
    fun i hi hb hd h4 => (k.block i (Nat.lt_of_lt_of_le hi h.size) hb hd (fun e => by
      rcases h.row i e with e' | e'
      · exact h4 e'
      · omega)).trans (h.block i hi hb hd h4),
    fun g hg => by
      rcases k.row g hg with e | e
      · exact h.row g e
      · exact .inr (Nat.le_trans h.size e)⟩
theorem FStep.of_ext (e : Ext a b) : FStep bw vd a b v v := ⟨e.os, e.tape, e.output, e.size, fun _ hk _ _ _ => e.block hk, fun _ h => .inl h⟩
theorem FStep.of_p (h : PStep bw a b va vb) : FStep bw vd a b va vb := ⟨h.os, h.tape, h.output, h.size, fun k hk hb _ hv => h.block k hk hb hv, h.row⟩
theorem FStep.set_ (w : World) (v : Value) (p : Addr) (hp : vd.ownBlock = some p.block) (u : Value) : FStep bw vd w (w.setCell p u) v v :=
  ⟨rfl, rfl, rfl, by simp [World.setCell], fun k _ _ hd _ => Below.heap_setCell _ _ _ _ (fun e => hd (by rw [hp, e])), fun _ h => .inl h⟩
end
section
variable {bw : Nat} {W0 we w w' : World} {A : Option Addr} {c : Nat} {f o : List Nd} {d : List Int} {vo vd voe : Value} {bx : Nat} {m : Nd}
theorem row_type {w : World} {base k : Nat} {e t : TypeId} {size n : Nat} {v : Value} {xs : List Value} {cs : Array Value} (h : w.ownsRow base e size v n xs) (hk : w.heap[k]? = some (.cells cs t (0, 0))) (ht : t ≠ e) : v.ownBlock ≠ some k := by
  intro hg
  rcases h.2 with ⟨rfl, _⟩ | ⟨g, cap, cur, rfl, _, hb, _⟩
  · cases hg
  · obtain rfl : g = k := by simpa [Value.ownBlock] using hg
    rw [hb] at hk
    injection hk with hk
    injection hk with _ hk
    exact ht hk.symm
theorem row_row {w : World} {b1 b2 : Nat} {e1 e2 : TypeId} {s1 s2 n1 n2 : Nat} {v1 v2 : Value} {xs1 xs2 : List Value} (h1 : w.ownsRow b1 e1 s1 v1 n1 xs1) (h2 : w.ownsRow b2 e2 s2 v2 n2 xs2) (hne : e1 ≠ e2) :
    ∀ g, v1.ownBlock = some g → v2.ownBlock ≠ some g := by
  intro g hg
  rcases h1.2 with ⟨rfl, _⟩ | ⟨g', cap, cur, rfl, _, hb, _⟩
  · cases hg
  · obtain rfl : g' = g := by simpa [Value.ownBlock] using hg
    exact row_type h2 hb hne
theorem RInv.aparts (h : RInv bw W0 w A c f o d vo vd) : vo.ownBlock ≠ some bw ∧ vd.ownBlock ≠ some bw ∧ (∀ g, vd.ownBlock = some g → vo.ownBlock ≠ some g) :=
  ⟨row_type h.row h.blk (by decide), row_type h.drow h.blk (by decide), row_row h.drow h.row (by decide)⟩
theorem RInv.keep (h : RInv bw W0 w A c f o d vo vd) (hb : Go.RowKit.Below W0.heap.size W0 w') (hk : ∀ k, k < w.heap.size → (k = bw ∨ vo.ownBlock = some k ∨ vd.ownBlock = some k) → w'.heap[k]? = w.heap[k]?) : RInv bw W0 w' A c f o d vo vd :=
  ⟨hb, h.nds, (hk _ (lt_heap h.blk) (by simp)).trans h.blk, row_keep h.row fun g hg => hk g (h.row.lt g hg).2 (by simp [hg]), row_keep h.drow fun g hg => hk g (h.drow.lt g hg).2 (by simp [hg]), h.done, h.low, h.oks⟩
theorem RInv.ext (h : RInv bw W0 w A c f o d vo vd) (he : Ext w w') : RInv bw W0 w' A c f o d vo vd :=
  h.keep (h.below.trans (Below.mono he h.below.size)) fun _ hk _ => he.block hk

structure RMid (bw : Nat) (W0 we w : World) (A : Option Addr) (c : Nat) (f o : List Nd) (d : List Int) (voe vo vd : Value) (bx : Nat) (m : Nd) : Prop where
  inv : RInv bw W0 w A c f o d vo vd
  step : FStep bw vd we w voe vo
  bwlt : bw < we.heap.size
  dlt : ∀ g, vd.ownBlock = some g → g < we.heap.size
  box : w.heap[bx]? = some (.cells #[.int .i64 m.op, .int .i64 m.i, .int .i64 m.e, .int .i64 m.g, .int .i64 m.x, .int .i64 m.y] 93 (0, 0))
  fresh : we.heap.size ≤ bx ∧ vo.ownBlock ≠ some bx
theorem RMid.start (h : RInv bw W0 we A c f o d vo vd) (n : Nd) : RMid bw W0 we (we.alloc (.cells #[.int .i64 n.op, .int .i64 n.i, .int .i64 n.e, .int .i64 n.g, .int .i64 n.x, .int .i64 n.y] 93)) A c f o d vo vo vd we.heap.size n :=
  ⟨h.ext ((Ext.refl _).alloc _), FStep.of_ext ((Ext.refl _).alloc _), lt_heap h.blk, fun g hg => (h.drow.lt g hg).2, heap_alloc_new _ _, Nat.le_refl _, fun e => absurd (h.row.lt _ e).2 (by omega)⟩
theorem RMid.call {o' : List Nd} {d' : List Int} {vo' : Value} (h : RMid bw W0 we w A c f o d voe vo vd bx m) (he : RInv bw W0 w' A c f o' d' vo' vd) (hs : FStep bw vd w w' vo vo') : RMid bw W0 we w' A c f o' d' voe vo' vd bx m := by
  obtain ⟨f1, f4⟩ := h.fresh
  have hbx := lt_heap h.box
  have hb := h.bwlt
  refine ⟨he, h.step.trans hs, h.bwlt, h.dlt, (hs.block _ hbx (by omega) (fun e => by have := h.dlt _ e; omega) f4).trans h.box, f1, fun e => ?_⟩
  rcases hs.row _ e with e | e
  · exact f4 e
  · omega
theorem RMid.store (h : RMid bw W0 we w A c f o d voe vo vd bx m) (j : Nat) (u : Value) (m' : Nd)
    (hm : (#[.int .i64 m.op, .int .i64 m.i, .int .i64 m.e, .int .i64 m.g, .int .i64 m.x, .int .i64 m.y] : Array Value).setIfInBounds j u = #[.int .i64 m'.op, .int .i64 m'.i, .int .i64 m'.e, .int .i64 m'.g, .int .i64 m'.x, .int .i64 m'.y]) :
    RMid bw W0 we (w.setCell ⟨bx, j, none⟩ u) A c f o d voe vo vd bx m' := by
  obtain ⟨f1, f4⟩ := h.fresh
  have hb := h.bwlt
  have hlow := h.inv.low
  have hoth : ∀ k, k ≠ bx → (w.setCell ⟨bx, j, none⟩ u).heap[k]? = w.heap[k]? := fun k hk => Below.heap_setCell _ _ _ _ hk
  have hsz : (w.setCell ⟨bx, j, none⟩ u).heap.size = w.heap.size := by simp [World.setCell]
  refine ⟨h.inv.keep (h.inv.below.setCell (by show W0.heap.size ≤ bx; omega) _) fun k _ hk => hoth k ?_, ?_, h.bwlt, h.dlt, ?_, f1, f4⟩
  · rcases hk with hk | hk | hk
    · omega
    · exact fun e => f4 (by rw [hk, e])
    · intro e
      have := h.dlt k hk
      omega
  · exact ⟨h.step.os, h.step.tape, h.step.output, by rw [hsz]; exact h.step.size, fun k hk h1 h2 h3 => (hoth k (by omega)).trans (h.step.block k hk h1 h2 h3), h.step.row⟩
  · have hb := h.box
    simp only [World.setCell, Array.getElem?_modify, hb, if_true, Option.map_some]
    simp [hm]
/-- An element of an owned row of single cells is stored. -/
theorem row_set {w : World} {base : Nat} {e : TypeId} {n g cap i : Nat} {xs : List Value} (h : w.ownsRow base e 1 (.slice (some ⟨g, 0, none⟩) n cap) n xs) (u : Value) :
    (w.setCell ⟨g, i, none⟩ u).ownsRow base e 1 (.slice (some ⟨g, 0, none⟩) n cap) n (xs.set i u) := by
  refine ⟨by simpa using h.1, .inr ?_⟩
  rcases h.2 with ⟨he, _⟩ | ⟨g', cap', cur, he, hb, hg, hn, hm, hs, ht⟩
  · cases he
  · injection he with e1 _ e3
    injection e1 with e1
    injection e1 with e1
    subst e1 e3
    refine ⟨g, cap, cur.setIfInBounds i u, rfl, hb, ?_, hn, hm, by simpa using hs, ?_⟩
    · simp only [World.setCell, Array.getElem?_modify, hg, if_true, Option.map_some]
      simp
    · rw [← ht]
      simp only [Array.toList_setIfInBounds]
      rw [List.take_set]
theorem set_get {d : List Int} {i n : Nat} {z : Int} (h : d.length = n) (hi : i < n) : (d.set i z)[i]? = some z := by rw [List.getElem?_set_self (by omega)]
/-- The node was put, and is done. -/
theorem rmid_put {g cap i : Nat} {w5 : World} {vo3 : Value} (hf : Wf f) (h : RMid bw W0 we w A c f o d voe vo (.slice (some ⟨g, 0, none⟩) f.length cap) bx m) {o0 : List Nd} (hfin : finN f i o0 = (addN o m, o.idxOf m)) (hi : i < f.length)
    (hblk : w5.heap[bw]? = some (.cells #[vo3, .slice (some ⟨g, 0, none⟩) f.length cap] 157 (0, 0))) (hrow : w5.ownsRow W0.heap.size 93 6 vo3 (addN o m).length ((addN o m).flatMap Nd.cells)) (hst : PStep bw w w5 vo vo3) (hok : m.ok) :
    d.length = f.length ∧ Hid (RInv bw W0 (w5.setCell ⟨g, i, none⟩ (.int .i64 (o.idxOf m : Nat))) A c f (addN o m) (d.set i (o.idxOf m : Nat)) vo3 (.slice (some ⟨g, 0, none⟩) f.length cap)) ∧
      Hid (FStep bw (.slice (some ⟨g, 0, none⟩) f.length cap) we (w5.setCell ⟨g, i, none⟩ (.int .i64 (o.idxOf m : Nat))) voe vo3) := by
  obtain ⟨a1, a2, a3⟩ := h.inv.aparts
  have hg := (h.inv.drow.lt g rfl)
  have hgb : w5.heap[g]? = w.heap[g]? := hst.block g hg.2 (fun e => a2 (by rw [← e]; rfl)) (a3 g rfl)
  have hgbw : g ≠ bw := fun e => a2 (by rw [← e]; rfl)
  have hvg : vo3.ownBlock ≠ some g := fun e => by
    rcases hst.row g e with e1 | e1
    · exact a3 g rfl e1
    · omega
  have hdrow : w5.ownsRow W0.heap.size 3 1 (.slice (some ⟨g, 0, none⟩) f.length cap) f.length (d.map (Value.int .i64)) := row_keep h.inv.drow fun k hk => by
    injection hk with hk
    subst hk
    exact hgb
  have hag := finN_again hf i o0 (addN o m) hi (by rw [hfin]; exact List.prefix_refl _)
  rw [hfin] at hag
  refine ⟨h.inv.done.1, ⟨?_, h.inv.nds, ?_, ?_, ?_, ?_, h.inv.low, ?_⟩, ?_⟩
  · refine Below.setCell (Below.trans h.inv.below ?_) (by exact hg.1) _
    refine ⟨hst.os, hst.tape, hst.output, hst.size, fun k hk => hst.block k (Nat.lt_of_lt_of_le hk h.inv.below.size) (by have := h.inv.low; omega) (fun e => ?_)⟩
    have := (h.inv.row.lt k e).1
    omega
  · exact (Below.heap_setCell _ _ _ _ (Ne.symm hgbw)).trans hblk
  · exact ownsRow_setCell_other hrow hvg _
  · have h2 := row_set hdrow (i := i) (.int .i64 (o.idxOf m : Nat))
    rw [← List.map_set] at h2
    exact h2
  · have h3 := (h.inv.done.grow hf (addN_prefix o m)).put hi (by rw [hag])
    rw [hag] at h3
    exact h3
  · intro n hn
    unfold addN at hn
    split at hn
    · exact h.inv.oks n hn
    · rcases List.mem_append.1 hn with hn | hn
      · exact h.inv.oks n hn
      · rw [List.mem_singleton.1 hn]; exact hok
  · exact h.step.trans ((FStep.of_p hst).trans (FStep.set_ _ _ ⟨g, i, none⟩ rfl _))
end
end Go.Proofs.YtbfeodammikajaaGreat

/- The reference's walk from a node. -/

namespace Go.Proofs.YtbfeodammikajaaGreat
open Go.RowKit

def RFinSaid (bw : Nat) (W0 : World) (A : Option Addr) (c : Nat) (f : List Nd) (vd : Value) (z : Int) : Prop :=
  ∀ (w : World) (o : List Nd) (d : List Int) (vo : Value), RInv bw W0 w A c f o d vo vd → pot f o ≤ f.length →
    Calls Tryz.prog 147 #[.slice A f.length c, .int .i64 z, .pointer (some ⟨bw, 0, none⟩)] w
      fun e w' => ∃ vo' d', e = .returned (.int .i64 (finN f z.toNat o).2) ∧ RInv bw W0 w' A c f (finN f z.toNat o).1 d' vo' vd ∧ FStep bw vd w w' vo vo'
set_option maxRecDepth 100000 in
set_option maxHeartbeats 1000000 in
theorem rfin_done {bw : Nat} {W0 w : World} {A : Option Addr} {c : Nat} {f o : List Nd} {d : List Int} {vo vd : Value} (h : RInv bw W0 w A c f o d vo vd) (hlen : f.length ≤ 1000) (i k : Nat) (hi : i < f.length) (hd : d[i]? = some (k : Int)) :
    Calls Tryz.prog 147 #[.slice A f.length c, .int .i64 i, .pointer (some ⟨bw, 0, none⟩)] w fun e w' => e = .returned (.int .i64 k) ∧ w = w' := by
  obtain ⟨b0, b1, bfr, blt⟩ := cells2 h.blk
  obtain ⟨g, cap, rfl, hg, hcap, hmax, hcell⟩ := done_cells h.drow (by omega)
  obtain ⟨hc, _⟩ := hcell i k hd
  have hc' : w.cell? ((⟨g, 0, none⟩ : Addr).add i) = some (.int .i64 (k : Int)) := by rw [addr_zero]; exact hc
  unfold maxLen at hmax
  clear hcell h hd
  go_enter Tryz.func147, Tryz.ntmps147
  go_wp2_with fail
  go_ret
  exact ⟨rfl, rfl⟩

theorem PStep.undrew {bw : Nat} {w w' : World} {v v' : Value} (h : PStep bw w.drew w' v v') : PStep bw w w' v v' := ⟨h.os, h.tape, h.output, h.size, h.block, h.row⟩
theorem done_after {bw : Nat} {W0 w w5 : World} {A : Option Addr} {c i g cap : Nat} {f o : List Nd} {d : List Int} {vo vo3 : Value} (h : RInv bw W0 w A c f o d vo (.slice (some ⟨g, 0, none⟩) f.length cap)) (hi : i < f.length) (hst : PStep bw w w5 vo vo3) :
    (∃ z, w5.cell? ⟨g, i, none⟩ = some (.int .i64 z)) ∧ w5.frozen? ⟨g, i, none⟩ = false ∧ g < w5.heap.size := by
  obtain ⟨g', cap', e', hg', _, _, hcell'⟩ := done_cells h.drow (by omega)
  obtain ⟨rfl, rfl⟩ : g = g' ∧ cap = cap' := by injection e' with e1 _ e3; injection e1 with e1; injection e1 with e1; exact ⟨e1, e3⟩
  have hl : i < d.length := by rw [h.done.1]; exact hi
  obtain ⟨c1, c2⟩ := hcell' i _ (List.getElem?_eq_getElem hl)
  obtain ⟨a1, a2, a3⟩ := h.aparts
  have hb := hst.block g hg' (fun e => a2 (by rw [← e]; rfl)) (a3 g rfl)
  exact ⟨⟨_, (World.cell?_of_block (a := ⟨g, i, none⟩) hb).trans c1⟩, (World.frozen?_of_block (a := ⟨g, i, none⟩) hb).trans c2, Nat.lt_of_lt_of_le hg' hst.size⟩

set_option maxRecDepth 100000 in
set_option maxHeartbeats 2000000 in
theorem rfin_new {bw : Nat} {W0 w : World} {A : Option Addr} {c : Nat} {f o : List Nd} {d : List Int} {vo vd : Value} (hf : Wf f) (hok : ∀ n ∈ f, n.ok) (h : RInv bw W0 w A c f o d vo vd) (hlen : f.length ≤ 1000) (i : Nat) (n : Nd) (hn : f[i]? = some n)
    (hd : d[i]? = some (-1)) (hpot : pot f o ≤ f.length) (ih : ∀ z : Int, 0 ≤ z → z < i → RFinSaid bw W0 A c f vd z) (ux uy : Bool) (hux : hasX n.op = ux) (huy : hasY n.op = uy) :
    Calls Tryz.prog 147 #[.slice A f.length c, .int .i64 i, .pointer (some ⟨bw, 0, none⟩)] w
      fun e w' => ∃ vo' d', e = .returned (.int .i64 (finN f i o).2) ∧ RInv bw W0 w' A c f (finN f i o).1 d' vo' vd ∧ FStep bw vd w w' vo vo' := by
  have hi : i < f.length := (List.getElem?_eq_some_iff.1 hn).1
  obtain ⟨b0, b1, bfr, blt⟩ := cells2 h.blk
  obtain ⟨g, cap, rfl, hg, hcap, hmax, hcell⟩ := done_cells h.drow (by omega)
  obtain ⟨hc, _⟩ := hcell i _ hd
  unfold maxLen at hmax
  obtain ⟨ad, rfl, hlt, hcells⟩ := h.nds.2.2 (by intro e; rw [e] at hi; simp at hi)
  have hcapl := h.nds.1
  have hcapm := h.nds.2.1
  unfold maxLen at hcapm
  obtain ⟨c0, c1, c2, c3, c4, c5⟩ := (hcells i n hn).keep fun p hp => h.below.cell (p := p) (by rw [hp, block_of_add]; exact hlt)
  have hadw : (ad.add (i * 6)).block < w.heap.size := by rw [block_of_add]; exact Nat.lt_of_lt_of_le hlt h.below.size
  have HCELLS := Lib.hid (hcells i n hn)
  have H := Lib.hid h; have HN := Lib.hid hn; have HUX := Lib.hid hux; have HUY := Lib.hid huy; have IH := Lib.hid ih; have HF := Lib.hid hf; have HOK := Lib.hid hok; have HP := Lib.hid hpot
  clear h hn hux huy ih hcells hf hok hcell hd hpot
  have HMS := Lib.hid (RMid.start H.out n)
  go_enter Tryz.func147, Tryz.ntmps147
  go_upto_if 29 with (go_at_call 89; refine (usesX_as HUX.out _).mono ?_; rintro e w' ⟨rfl, rfl⟩)
  go_cut [] (fun wx => ∃ vo1 d1, RMid bw W0 w wx (some ad) c f (opX f n o).1 d1 vo vo1 (.slice (some ⟨g, 0, none⟩) f.length cap) w.heap.size (n.with_ (opX f n o).2 n.y.toNat))
  case first =>
    cases ux
    · go_wp2_with fail
      go_meet
      exact ⟨vo, d, by rw [opX_no HUX.out, with_x HUX.out (fun e => ((HF.out i n HN.out).2 e).1)]; exact HMS.out⟩
    · obtain ⟨hx0, hx1⟩ := (HF.out i n HN.out).1 HUX.out
      go_wp2_with fail
      refine (IH.out n.x hx0 hx1 _ _ _ _ HMS.out.inv HP.out).mono ?_
      rintro e w2 ⟨vo1, d1, rfl, hinv, hstep⟩
      have HM2 := Lib.hid (HMS.out.call hinv hstep)
      clear hinv hstep
      obtain ⟨⟨d0, d1', d2, d3, d4, d5⟩, dfr, dlt⟩ := cells6 HM2.out.box
      go_wp2_with fail
      go_meet
      refine ⟨vo1, d1, ?_⟩
      rw [opX_yes HUX.out]
      exact HM2.out.store 4 _ _ (store_x HUX.out (fun e => ((HF.out i n HN.out).2 e).1))
  case rest =>
    obtain ⟨vo1, d1, hmid1⟩ := hcut
    have HP1 : Hid (pot f (opX f n o).1 ≤ f.length) := Lib.hid (Nat.le_trans (pot_opX HF.out HN.out o) HP.out)
    obtain ⟨o1, k1, ho1⟩ : ∃ o1 k1, opX f n o = (o1, k1) := ⟨_, _, rfl⟩
    have HO1 := Lib.hid ho1
    rw [ho1] at hmid1 HP1
    simp only at hmid1 HP1
    clear ho1 b0 b1 bfr blt hc c0 c1 c2 c3 c4 c5 hadw HMS
    obtain ⟨⟨q0, q1, q2, q3, q4, q5⟩, qfr, qlt⟩ := cells6 hmid1.box
    rw [show (n.with_ k1 n.y.toNat).op = n.op from rfl] at q0
    obtain ⟨c0, c1, c2, c3, c4, c5⟩ := HCELLS.out.keep fun p hp => hmid1.inv.below.cell (p := p) (by rw [hp, block_of_add]; exact hlt)
    have HM := Lib.hid hmid1
    clear hmid1
    go_upto_if 41 with (go_at_call 90; refine (usesY_as HUY.out _).mono ?_; rintro e w' ⟨rfl, rfl⟩)
    go_cut [] (fun wx => ∃ vo2 d2, RMid bw W0 w wx (some ad) c f (opY f n o1).1 d2 vo vo2 (.slice (some ⟨g, 0, none⟩) f.length cap) w.heap.size (n.with_ k1 (opY f n o1).2))
    case first =>
      cases uy
      · go_wp2_with fail
        go_meet
        exact ⟨vo1, d1, by rw [opY_no HUY.out, with_y2 HUY.out]; exact HM.out⟩
      · obtain ⟨hy0, hy1⟩ := (HF.out i n HN.out).2 HUY.out
        go_wp2_with fail
        refine (IH.out n.y hy0 hy1 _ _ _ _ HM.out.inv HP1.out).mono ?_
        rintro e w2 ⟨vo2, d2, rfl, hinv, hstep⟩
        have HM2 := Lib.hid (HM.out.call hinv hstep)
        clear hinv hstep q0 q1 q2 q3 q4 q5 qfr qlt c0 c1 c2 c3 c4 c5
        obtain ⟨⟨q0, q1, q2, q3, q4, q5⟩, qfr, qlt⟩ := cells6 HM2.out.box
        go_wp2_with fail
        go_meet
        refine ⟨vo2, d2, ?_⟩
        rw [opY_yes HUY.out]
        exact HM2.out.store 5 _ _ (store_y HUY.out _ rfl)
    case rest =>
      obtain ⟨vo2, d2, hmid2⟩ := hcut
      have HP2 : Hid (pot f (opY f n o1).1 ≤ f.length) := Lib.hid (Nat.le_trans (pot_opY HF.out HN.out o1) HP1.out)
      obtain ⟨o2, k2, ho2⟩ : ∃ o2 k2, opY f n o1 = (o2, k2) := ⟨_, _, rfl⟩
      have HO2 := Lib.hid ho2
      rw [ho2] at hmid2 HP2
      simp only at hmid2 HP2
      clear ho2 q0 q1 q2 q3 q4 q5 qfr qlt c0 c1 c2 c3 c4 c5
      have hk1 : k1 ≤ 1000 := k1_le HF.out HN.out HO1.out hlen HP1.out
      have hk2 : k2 ≤ 1000 := k2_le HF.out HN.out HO2.out hlen HP2.out
      have HMOK := Lib.hid (with_ok (HOK.out n (List.mem_of_getElem? HN.out)) hk1 hk2)
      have HFIN := Lib.hid (fin_is HF.out HN.out HO1.out HO2.out)
      clear hk1 hk2
      generalize n.with_ k1 k2 = mm at hmid2 HMOK HFIN
      obtain ⟨⟨q0, q1, q2, q3, q4, q5⟩, qfr, qlt⟩ := cells6 hmid2.box
      obtain ⟨b0, b1, bfr, blt⟩ := cells2 hmid2.inv.blk
      have HM2 := Lib.hid hmid2
      clear hmid2
      go_upto_region 8 with (fail)
      go_cut [] (fun wx => ∃ vo3 d3, Hid (d3[i]? = some ((o2.idxOf mm : Nat) : Int)) ∧ Hid (RInv bw W0 wx (some ad) c f (addN o2 mm) d3 vo3 (.slice (some ⟨g, 0, none⟩) f.length cap)) ∧ Hid (FStep bw (.slice (some ⟨g, 0, none⟩) f.length cap) w wx vo vo3))
      case first =>
        have hap := HM2.out.inv.aparts
        have HRUN := Lib.hid (put_any bw W0.heap.size mm o2 vo2 (.slice (some ⟨g, 0, none⟩) f.length cap))
        have HAP := Lib.hid hap
        have hp2 : o2.length ≤ 1000 := Nat.le_trans (length_le_pot f o2) (Nat.le_trans HP2.out hlen)
        clear hap
        go_region_with (go_at_call 163; refine (HRUN.out _ (by exact HM2.out.inv.blk) (by exact HM2.out.inv.row) (by exact HM2.out.inv.below.size) hp2 HAP.out.1).mono ?_; rintro e w5 ⟨vo3, rfl, hblk5, hrow5, hst5'⟩; have hst5 : PStep bw wc w5 vo2 vo3 := (by first | exact hst5' | exact PStep.undrew hst5'); obtain ⟨r0, r1, rfr, rlt⟩ := cells2 hblk5; obtain ⟨⟨z0, s0⟩, s1, slt⟩ := done_after HM2.out.inv hi hst5; have H5 := Lib.hid (rmid_put HF.out HM2.out HFIN.out hi hblk5 hrow5 hst5 HMOK.out); clear hblk5 hrow5 hst5 hst5')
        all_goals
          go_wp2_with fail
          go_meet
          exact ⟨vo3, _, Lib.hid (set_get H5.out.1 hi), H5.out.2.1, H5.out.2.2⟩
      case rest =>
        obtain ⟨vo3, d3, HD3, HI3, HS3⟩ := hcut
        obtain ⟨b0', b1', bfr', blt'⟩ := cells2 HI3.out.blk
        obtain ⟨g', cap', e', hg', hcap', hmax', hcell'⟩ := done_cells HI3.out.drow (by omega)
        obtain ⟨rfl, rfl⟩ : g = g' ∧ cap = cap' := by injection e' with e1 _ e3; injection e1 with e1; injection e1 with e1; exact ⟨e1, e3⟩
        have hc3 := (hcell' i _ HD3.out).1
        clear hcell' e'
        go_wp2_with fail
        go_ret
        refine ⟨vo3, d3, ret_int ?_, ?_, HS3.out⟩
        · rw [HFIN.out]
        · rw [HFIN.out]
          exact HI3.out
end Go.Proofs.YtbfeodammikajaaGreat

/- The reference's Check, Sub, Compact and Same. -/

namespace Go.Proofs.YtbfeodammikajaaGreat
open Go.RowKit

theorem rfin_any {bw : Nat} {W0 : World} {A : Option Addr} {c : Nat} {f : List Nd} {vd : Value} (hf : Wf f) (hok : ∀ n ∈ f, n.ok) (hlen : f.length ≤ 1000) :
    ∀ i : Nat, i < f.length → RFinSaid bw W0 A c f vd i := by
  intro i
  induction i using Nat.strongRecOn with
  | _ i ih =>
    intro hi w o d vo hinv hpot
    obtain ⟨n, hn⟩ : ∃ n, f[i]? = some n := ⟨_, List.getElem?_eq_getElem hi⟩
    rw [Int.toNat_natCast]
    rcases hinv.done.2 i hi with hd | ⟨hfin, hd⟩
    · refine rfin_new hf hok hinv hlen i n hn hd hpot (fun z h0 h1 => ?_) _ _ rfl rfl
      obtain ⟨j, rfl⟩ := Int.eq_ofNat_of_zero_le h0
      exact ih j (by omega) (by omega)
    · refine (rfin_done hinv hlen i _ hi hd).mono ?_
      rintro e w' ⟨rfl, rfl⟩
      exact ⟨vo, d, rfl, by rw [hfin]; exact hinv, FStep.refl _ _⟩

set_option maxHeartbeats 400000 in
theorem refCheck_any (v : Value) (l : List Nd) (w : World) (h : Nds w v l) :
    Calls Tryz.prog 54 #[v] w fun e w' => e = .returned (.int .i64 (check l)) ∧ Ext w w' := by
  obtain ⟨A, c, rfl, hcap, hmax, hread⟩ := h
  unfold maxLen at hmax
  by_cases h0 : l.length = 0
  · have hcheck : check l = 3 := by simp [check, h0]
    rw [h0, hcheck]
    clear hcheck hread
    go_enter Tryz.func54, Tryz.ntmps54
    go_wp2_with fail
    go_ret
    exact ⟨rfl, Ext.refl _⟩
  have e0 : ((l.length : Int) == 0) = false := by rw [beq_eq_false_iff_ne]; omega
  by_cases h1 : 200 < l.length
  · have hcheck : check l = 8 := by simp [check, h0, h1]
    rw [hcheck]
    clear hcheck hread
    go_enter Tryz.func54, Tryz.ntmps54
    go_wp2_with fail
    go_ret
    exact ⟨rfl, Ext.refl _⟩
  have hne : l ≠ [] := fun e => h0 (by simp [e])
  obtain ⟨ad, rfl, hlt, hcells⟩ := hread hne
  have HC := Lib.hid hcells; clear hcells
  have HK := Lib.hid (show check l = checkNodes l 0 by simp [check, h0, h1])
  have hl : l.length ≤ 200 := by omega
  clear h0 h1 hread
  go_enter Tryz.func54, Tryz.ntmps54
  go_wp2_with fail
  go_loopw [3] (fun i wr => ∃ k : Nat, k ≤ l.length ∧ i = .int .i64 k ∧ Hid (checkNodes l 0 = checkNodes (l.drop k) k) ∧ Ext w wr) (fun i _ => l.length - (intOf i).toNat)
  case atStart => exact ⟨0, Nat.zero_le _, rfl, Lib.hid rfl, Ext.refl _⟩
  case round =>
    obtain ⟨k, hk, rfl, hrest, hext⟩ := hrel
    by_cases hlt2 : k < l.length
    · obtain ⟨n, hn⟩ : ∃ n, l[k]? = some n := ⟨_, List.getElem?_eq_getElem hlt2⟩
      have hst := checkNodes_step l k n hn
      obtain ⟨c0, c1, c2, c3, c4, c5⟩ := (HC.out k n hn).keep fun p hp => hext.cell (p := p) (by rw [hp, block_of_add]; exact hlt)
      by_cases he : nodeErr n k = 0
      · have hst2 : Hid (checkNodes l 0 = checkNodes (l.drop (k + 1)) ((k + 1 : Nat) : Int)) := Lib.hid (by rw [hrest.out, hst, he]; rfl)
        have hh := Lib.hid he
        clear hst he hn hrest
        go_wp2_with (go_at_call 105; refine (refNode_any n _ _).mono ?_; rintro e w1 ⟨rfl, hb⟩; rw [hh.out])
        go_roundw
        case rel => exact ⟨k + 1, by omega, by go_num, hst2, hext.trans hb⟩
        case measure => simp [intOf]; omega
      · have hh : (nodeErr n k != 0) = true := by simpa using he
        have hst2 : Hid (checkNodes l 0 = nodeErr n k) := Lib.hid (by rw [hrest.out, hst, hh]; rfl)
        clear hst he hn hrest
        go_wp2_with (go_at_call 105; refine (refNode_any n _ _).mono ?_; rintro e w1 ⟨rfl, hb⟩)
        go_ret
        exact ⟨ret_int (by rw [HK.out, hst2.out]), hext.trans hb⟩
    · obtain rfl : l.length = k := by omega
      go_wp2_with fail
      go_ret
      refine ⟨ret_int ?_, hext⟩
      rw [HK.out, hrest.out]
      simp [checkNodes]

theorem put_keep2 {w W w4 : World} {bw : Nat} {v v0 v1 : Value} {t : TypeId} (hb : w.heap[bw]? = some (.cells #[v0, v1] t (0, 0))) (hne : v.ownBlock ≠ some bw) (he : Ext w W) (hg : W.grownBy w4 v.ownBlock) : w4.heap[bw]? = some (.cells #[v0, v1] t (0, 0)) :=
  ((hg.block bw (Nat.lt_of_lt_of_le (lt_heap hb) he.size) (fun e => hne e.symm)).trans (he.block (lt_heap hb))).trans hb
structure RSub (w1 : World) (k : Nat) (vd : Value) (wr : World) : Prop where
  blk : wr.heap[w1.heap.size]? = some (.cells #[.slice none 0 0, vd] 157 (0, 0))
  row : wr.ownsRow (w1.heap.size + 1) 3 1 vd k ((List.replicate k (-1 : Int)).map (Value.int .i64))
  ext : Ext w1 wr
theorem sub_next {w1 w4 : World} {k : Nat} {v' v0 : Value} {xs : List Value} (hb : w4.heap[w1.heap.size]? = some (.cells #[.slice none 0 0, v0] 157 (0, 0))) (hr : w4.ownsRow (w1.heap.size + 1) 3 1 v' (k + 1) (xs ++ [.int .i64 (-1)]))
    (hne : v'.ownBlock ≠ some w1.heap.size) (hx : Ext w1 w4) (hxs : xs = (List.replicate k (-1 : Int)).map (Value.int .i64)) : ∃ vd, RSub w1 (k + 1) vd (w4.setCell ⟨w1.heap.size, 1, none⟩ v') := by
  refine ⟨v', set_second hb _, ownsRow_setCell_other (a := ⟨w1.heap.size, 1, none⟩) ?_ hne _, Ext.setCell hx (Nat.le_refl _) _⟩
  subst hxs
  rw [List.replicate_succ', List.map_append]
  exact hr

set_option maxRecDepth 100000 in
set_option maxHeartbeats 2000000 in
theorem refSub_any (v : Value) (l : List Nd) (z : Int) (w : World) (h : Fml w v l) :
    Calls Tryz.prog 92 #[v, .int .i64 z] w fun e w' => ∃ u, e = .returned u ∧ Made w w' u (subN l z) := by
  have H := Lib.hid h
  obtain ⟨⟨A, c, rfl, hat⟩, hok⟩ := h
  have HAT := Lib.hid hat
  have hcl := hat.1
  have hcm := hat.2.1
  unfold maxLen at hcm
  clear hat hok
  by_cases hc : check l = 0
  · by_cases hz : z < 0
    · have HR := Lib.hid (show subN l z = [] by unfold subN; simp [hz])
      have HC := Lib.hid hc
      clear hc
      go_enter Tryz.func92, Tryz.ntmps92
      go_wp2_with (go_at_call 54; refine (refCheck_any _ l _ H.out.1).mono ?_; rintro e w1 ⟨rfl, hb⟩; rw [HC.out])
      go_ret
      exact ⟨_, rfl, by rw [HR.out]; exact (Made.none_ _).after hb⟩
    by_cases hl : (l.length : Int) ≤ z
    · have HR := Lib.hid (show subN l z = [] by unfold subN; simp [hl])
      have HC := Lib.hid hc
      clear hc
      go_enter Tryz.func92, Tryz.ntmps92
      go_wp2_with (go_at_call 54; refine (refCheck_any _ l _ H.out.1).mono ?_; rintro e w1 ⟨rfl, hb⟩; rw [HC.out])
      go_ret
      exact ⟨_, rfl, by rw [HR.out]; exact (Made.none_ _).after hb⟩
    obtain ⟨r, rfl⟩ := Int.eq_ofNat_of_zero_le (show 0 ≤ z by omega)
    have hr : r < l.length := by omega
    have HR := Lib.hid (show subN l r = (finN l r []).1 by
      unfold subN
      rw [hc]
      have h1 : decide ((r : Int) < 0) = false := by simp
      have h2 : decide ((l.length : Int) ≤ (r : Int)) = false := by simp; omega
      rw [h1, h2]
      rfl)
    have HC := Lib.hid hc
    have HL := (check_parts hc).2.1
    obtain ⟨i3, hi3, hz30, hz31, hz32⟩ := info_parts tInfo3
    have hd0 : decide ((r : Int) < 0) = false := by simp
    have hd1 : decide (l.length ≤ r) = false := by simp; omega
    clear hc
    go_enter Tryz.func92, Tryz.ntmps92
    go_wp2_with (go_at_call 54; refine (refCheck_any _ l _ H.out.1).mono ?_; rintro e w1 ⟨rfl, hb⟩; rw [HC.out]; have HB := Lib.hid hb; clear hb)
    go_loopw [6] (fun i wr => ∃ k : Nat, k ≤ l.length ∧ i = .int .i64 k ∧ Hid (∃ vd, RSub w1 k vd wr)) (fun i _ => l.length - (intOf i).toNat)
    case atStart => exact ⟨0, Nat.zero_le _, rfl, Lib.hid ⟨.slice none 0 0, heap_alloc_new _ _, World.ownsRow_nil _ _ _ _, (Ext.refl _).alloc _⟩⟩
    case round =>
      obtain ⟨k, hk, rfl, hrs⟩ := hrel
      obtain ⟨vd, hblk0, hrow0, hext⟩ := hrs.out
      have HBLK := Lib.hid hblk0; have HROW := Lib.hid hrow0
      clear hblk0 hrow0 hrs
      obtain ⟨Ad, cd, rfl⟩ := slice_of_row HROW.out
      obtain ⟨d0, d1, dfr, dlt⟩ := cells2 HBLK.out
      by_cases hlt2 : k < l.length
      · have hc3 : k + 1 ≤ maxLen := by unfold maxLen; omega
        have hc4 : (k + 1) * 8 ≤ 140737488355328 := by omega
        have hfz := dfr 1
        have HNE := Lib.hid (row_ne HROW.out)
        have hc5 : ∀ X, w1.heap.size + 1 ≤ (wr.alloc X).heap.size := fun X => by simp; omega
        obtain ⟨xs, hxs⟩ : ∃ xs, xs = (List.replicate k (-1 : Int)).map (Value.int .i64) := ⟨_, rfl⟩
        rw [← hxs] at HROW
        have HXS := Lib.hid hxs
        clear hxs
        go_wp2_with (at_builtin; refine wpList_append_own_at _ rfl _ _ 28 rfl (w1.heap.size + 1) 3 i3 (.int .i64 0) 1 8 Tryz.underlying28 hi3 hz30 hz31 hz32 rfl (by decide) _ _ _ rfl (row_ext HROW.out ((Ext.refl _).alloc _)) _ 1 1 [.int .i64 (-1)] rfl rfl (row_new_at _ _ _ (by simp)) (fun u hu => by rw [List.mem_singleton.1 hu]; rfl) hc3 hc4 (hc5 _) ?_)
        intro v' w4 hown4 hgrow4 _ hat4
        obtain ⟨A4, c4, rfl⟩ := slice_of_row hown4
        have HROW4 := Lib.hid hown4
        have kb := put_keep2 HBLK.out HNE.out ((Ext.refl _).alloc _) hgrow4
        have HX4 := Lib.hid ((Ext.alloc hext _).grown hgrow4 (fun g hg => by have := (HROW.out.lt g hg).1; omega))
        have HNE4 := Lib.hid (row_ne hown4)
        obtain ⟨q0, q1, qfr, qlt⟩ := cells2 kb
        have qf1 := qfr 1
        have KB := Lib.hid kb
        clear hown4 hgrow4 hat4 kb d0 d1 dfr dlt hfz
        go_wp2_with fail
        go_roundw
        case rel => exact ⟨k + 1, by omega, by go_num, Lib.hid (sub_next KB.out HROW4.out HNE4.out HX4.out HXS.out)⟩
        case measure => simp [intOf]; omega
      · obtain rfl : l.length = k := by omega
        have HRUN := Lib.hid (rfin_any (bw := w1.heap.size) (W0 := w) (A := A) (c := c) (vd := .slice Ad l.length cd) (check_wf HC.out) H.out.2 (by omega) r hr)
        have HINV : Hid (RInv w1.heap.size w wr A c l [] (List.replicate l.length (-1)) (.slice none 0 0) (.slice Ad l.length cd)) :=
          Lib.hid ⟨HB.out.trans hext, HAT.out, HBLK.out, World.ownsRow_nil _ _ _ _, row_base HROW.out (Nat.le_succ_of_le HB.out.size), ⟨by simp, fun i hi => .inl (by simp [hi])⟩, HB.out.size, by simp⟩
        go_wp2_with fail
        refine (HRUN.out _ _ _ _ HINV.out (pot_nil l)).mono ?_
        rw [Int.toNat_natCast]
        rintro e w5 ⟨vo5, d5, rfl, hinv, hst⟩
        obtain ⟨q0, q1, qfr, qlt⟩ := cells2 hinv.blk
        have HM := Lib.hid (show Made w w5 vo5 (subN l r) by rw [HR.out]; exact ⟨hinv.row, hinv.oks, hinv.below⟩)
        obtain ⟨A6, c6, rfl⟩ := slice_of_row hinv.row
        clear hinv hst
        go_wp2_with fail
        go_ret
        exact ⟨_, rfl, HM.out⟩
  · have hb1 : (check l != 0) = true := by simpa using hc
    have HR := Lib.hid (show subN l z = [] by unfold subN; rw [hb1]; rfl)
    clear hc
    go_enter Tryz.func92, Tryz.ntmps92
    go_wp2_with (go_at_call 54; refine (refCheck_any _ l _ H.out.1).mono ?_; rintro e w1 ⟨rfl, hb⟩)
    go_ret
    exact ⟨_, rfl, by rw [HR.out]; exact (Made.none_ _).after hb⟩

set_option maxHeartbeats 400000 in
theorem refCompact_any (v : Value) (l : List Nd) (w : World) (h : Fml w v l) :
    Calls Tryz.prog 42 #[v] w fun e w' => ∃ u, e = .returned u ∧ Made w w' u (compactN l) := by
  have H := Lib.hid h
  obtain ⟨⟨A, c, rfl, hat⟩, hok⟩ := h
  have hl := hat.1
  have hm := hat.2.1
  unfold maxLen at hm
  clear hat hok
  go_enter Tryz.func42, Tryz.ntmps42
  go_wp2_with fail
  refine (refSub_any _ l _ _ H.out).mono ?_
  rintro e w2 ⟨u, rfl, hm⟩
  have HM := Lib.hid hm
  clear hm
  go_wp2_with fail
  go_ret
  exact ⟨_, rfl, HM.out⟩
end Go.Proofs.YtbfeodammikajaaGreat

/- The reference's constructors of formulas: a short list's canonical form; a node without operands; a node with one. -/

namespace Go.Proofs.YtbfeodammikajaaGreat
open Go.RowKit

set_option maxRecDepth 100000 in
set_option maxHeartbeats 4000000 in
theorem short_any (v : Value) (l : List Nd) (w : World) (h : Fml w v l) (hw : Wf l) (h0 : 0 < l.length) (hl : l.length ≤ 401) :
    Calls Tryz.prog 125 #[v] w fun e w' => ∃ u, e = .returned u ∧ Made w w' u (shortN l) := by
  have H := Lib.hid h
  have HW := Lib.hid hw
  obtain ⟨⟨A, c, rfl, hat⟩, hok⟩ := h
  have HAT := Lib.hid hat
  have hcl := hat.1
  have hcm := hat.2.1
  unfold maxLen at hcm
  obtain ⟨i3, hi3, hz30, hz31, hz32⟩ := info_parts tInfo3
  clear hat hok hw
  go_enter Tryz.func125, Tryz.ntmps125
  go_wp2_with fail
  go_loopw [4] (fun i wr => ∃ k : Nat, k ≤ l.length ∧ i = .int .i64 k ∧ Hid (∃ vd, RSub w k vd wr)) (fun i _ => l.length - (intOf i).toNat)
  case atStart => exact ⟨0, Nat.zero_le _, rfl, Lib.hid ⟨.slice none 0 0, heap_alloc_new _ _, World.ownsRow_nil _ _ _ _, (Ext.refl _).alloc _⟩⟩
  case round =>
    obtain ⟨k, hk, rfl, hrs⟩ := hrel
    obtain ⟨vd, hblk0, hrow0, hext⟩ := hrs.out
    have HBLK := Lib.hid hblk0; have HROW := Lib.hid hrow0
    clear hblk0 hrow0 hrs
    obtain ⟨Ad, cd, rfl⟩ := slice_of_row HROW.out
    obtain ⟨d0, d1, dfr, dlt⟩ := cells2 HBLK.out
    by_cases hlt2 : k < l.length
    · have hc3 : k + 1 ≤ maxLen := by unfold maxLen; omega
      have hc4 : (k + 1) * 8 ≤ 140737488355328 := by omega
      have hfz := dfr 1
      have HNE := Lib.hid (row_ne HROW.out)
      have hc5 : ∀ X, w.heap.size + 1 ≤ (wr.alloc X).heap.size := fun X => by simp; omega
      obtain ⟨xs, hxs⟩ : ∃ xs, xs = (List.replicate k (-1 : Int)).map (Value.int .i64) := ⟨_, rfl⟩
      rw [← hxs] at HROW
      have HXS := Lib.hid hxs
      clear hxs
      go_wp2_with (at_builtin; refine wpList_append_own_at _ rfl _ _ 28 rfl (w.heap.size + 1) 3 i3 (.int .i64 0) 1 8 Tryz.underlying28 hi3 hz30 hz31 hz32 rfl (by decide) _ _ _ rfl (row_ext HROW.out ((Ext.refl _).alloc _)) _ 1 1 [.int .i64 (-1)] rfl rfl (row_new_at _ _ _ (by simp)) (fun u hu => by rw [List.mem_singleton.1 hu]; rfl) hc3 hc4 (hc5 _) ?_)
      intro v' w4 hown4 hgrow4 _ hat4
      obtain ⟨A4, c4, rfl⟩ := slice_of_row hown4
      have HROW4 := Lib.hid hown4
      have kb := put_keep2 HBLK.out HNE.out ((Ext.refl _).alloc _) hgrow4
      have HX4 := Lib.hid ((Ext.alloc hext _).grown hgrow4 (fun g hg => by have := (HROW.out.lt g hg).1; omega))
      have HNE4 := Lib.hid (row_ne hown4)
      obtain ⟨q0, q1, qfr, qlt⟩ := cells2 kb
      have qf1 := qfr 1
      have KB := Lib.hid kb
      clear hown4 hgrow4 hat4 kb d0 d1 dfr dlt hfz
      go_wp2_with fail
      go_roundw
      case rel => exact ⟨k + 1, by omega, by go_num, Lib.hid (sub_next KB.out HROW4.out HNE4.out HX4.out HXS.out)⟩
      case measure => simp [intOf]; omega
    · obtain rfl : l.length = k := by omega
      have HRUN := Lib.hid (rfin_any (bw := w.heap.size) (W0 := w) (A := A) (c := c) (vd := .slice Ad l.length cd) HW.out H.out.2 (by omega) (l.length - 1) (by omega))
      have HINV : Hid (RInv w.heap.size w wr A c l [] (List.replicate l.length (-1)) (.slice none 0 0) (.slice Ad l.length cd)) :=
        Lib.hid ⟨hext, HAT.out, HBLK.out, World.ownsRow_nil _ _ _ _, row_base HROW.out (Nat.le_succ _), ⟨by simp, fun i hi => .inl (by simp [hi])⟩, Nat.le_refl _, by simp⟩
      have hz : ((l.length - 1 : Nat) : Int) = (l.length : Int) - 1 := by omega
      rw [hz] at HRUN
      go_wp2_with fail
      refine (HRUN.out _ _ _ _ HINV.out (pot_nil l)).mono ?_
      rw [← hz, Int.toNat_natCast]
      rintro e w5 ⟨vo5, d5, rfl, hinv, hst⟩
      obtain ⟨q0, q1, qfr, qlt⟩ := cells2 hinv.blk
      have HS : Hid (shortN l = bif decide (200 < (finN l (l.length - 1) []).1.length) then [] else (finN l (l.length - 1) []).1) := Lib.hid rfl
      have HM := Lib.hid (show Made w w5 vo5 (finN l (l.length - 1) []).1 from ⟨hinv.row, hinv.oks, hinv.below⟩)
      obtain ⟨A6, c6, rfl⟩ := slice_of_row hinv.row
      clear hinv hst hz
      generalize (finN l (l.length - 1) []).1 = o at *
      by_cases hlong : 200 < o.length
      · have HR := Lib.hid (show shortN l = [] by rw [HS.out, decide_eq_true hlong]; rfl)
        go_wp2_with fail
        go_ret
        exact ⟨_, rfl, by rw [HR.out]; exact (Made.none_ _).after HM.out.2.2⟩
      · have HR := Lib.hid (show shortN l = o by rw [HS.out, decide_eq_false hlong]; rfl)
        go_wp2_with fail
        go_ret
        exact ⟨_, rfl, by rw [HR.out]; exact HM.out⟩

theorem box_grown {w W w4 : World} {b : Nat} {o : Obj} {v : Value} (hb : w.heap[b]? = some o) (hne : v.ownBlock ≠ some b) (he : Ext w W) (hg : W.grownBy w4 v.ownBlock) : w4.heap[b]? = some o :=
  ((hg.block b (Nat.lt_of_lt_of_le (lt_heap hb) he.size) (fun e => hne e.symm)).trans (he.block (lt_heap hb))).trans hb
set_option maxRecDepth 100000 in
set_option maxHeartbeats 4000000 in
theorem one_any (x : Nd) (w : World) (hx : headOk x) (hxo : x.ok) (h1 : hasX x.op = false) (h2 : hasY x.op = false) :
    Calls Tryz.prog 61 #[x.val] w fun e w' => ∃ u, e = .returned u ∧ Made w w' u [x] := by
  have HE := Lib.hid (build_zero h1 h2 hx).1
  have HXO := Lib.hid hxo
  obtain ⟨o, i, e, g, p, q⟩ := x
  unfold Nd.val
  clear hx hxo h1 h2
  go_enter Tryz.func61, Tryz.ntmps61
  go_wp2_with fail
  refine (refNode_any ⟨o, i, e, g, p, q⟩ _ _).mono ?_
  rintro e1 w1 ⟨rfl, hb⟩
  rw [HE.out]
  have HBX : Hid (w1.heap[w.heap.size]? = some (.cells #[.int .i64 o, .int .i64 i, .int .i64 e, .int .i64 g, .int .i64 p, .int .i64 q] 93 (0, 0))) := Lib.hid ((hb.block (by simp)).trans (heap_alloc_new _ _))
  have HX := Lib.hid (Ext.trans ((Ext.refl _).alloc _) hb)
  obtain ⟨⟨d0, d1, d2, d3, d4, d5⟩, dfr, dlt⟩ := cells6 HBX.out
  clear hb
  go_wp2_with fail
  go_ret
  exact ⟨_, rfl, ⟨by simp [Nd.cells], .inr ⟨w1.heap.size, 1, _, rfl, HX.out.size, heap_alloc_new _ _, Nat.le_refl _, by unfold maxLen; omega, by simp, by simp [Nd.cells]⟩⟩, by simpa using HXO.out, HX.out.alloc _⟩

set_option maxRecDepth 100000 in
set_option maxHeartbeats 4000000 in
theorem unary_any (x : Nd) (v : Value) (f : List Nd) (w : World) (hx : headOk x) (hxo : x.ok) (h1 : hasX x.op = true) (h2 : hasY x.op = false) (h : Fml w v f) :
    Calls Tryz.prog 66 #[x.val, v] w fun e w' => ∃ u, e = .returned u ∧ Made w w' u (buildN x [f]) := by
  have H := Lib.hid h
  obtain ⟨⟨A, c, rfl, hat⟩, hok⟩ := h
  have hcl := hat.1
  have hcm := hat.2.1
  unfold maxLen at hcm
  have HREAD := Lib.hid hat.2.2
  obtain ⟨i0, hi0, hz0', hz1', hz2'⟩ := info_parts tInfo
  clear hat hok
  by_cases hc : check f = 0
  · have HC := Lib.hid hc
    have HUN := Lib.hid (un_short hc h1 h2 hx (m := { x with x := (f.length : Int) - 1 }) rfl)
    obtain ⟨hp0, hl200, _⟩ := check_parts hc
    have HXO := Lib.hid hxo
    obtain ⟨o, i, e, g, p, q⟩ := x
    unfold Nd.val
    clear hc hx hxo h1 h2
    go_enter Tryz.func66, Tryz.ntmps66
    go_wp2_with fail
    refine (refCheck_any _ f _ (H.out.1.ext ((Ext.refl _).alloc _))).mono ?_
    rintro e1 w1 ⟨rfl, hb⟩
    rw [HC.out]
    have HX1 := Lib.hid (Ext.trans ((Ext.refl w).alloc _) hb)
    have HBX : Hid (w1.heap[w.heap.size]? = some (.cells #[.int .i64 o, .int .i64 i, .int .i64 e, .int .i64 g, .int .i64 p, .int .i64 q] 93 (0, 0))) := Lib.hid ((hb.block (by simp)).trans (heap_alloc_new _ _))
    obtain ⟨⟨d0, d1, d2, d3, d4, d5⟩, dfr, dlt⟩ := cells6 HBX.out
    have hfz := dfr 4
    clear hb
    go_wp2_with fail
    refine (refNode_any ⟨o, i, e, g, (f.length : Int) - 1, q⟩ _ _).mono ?_
    rintro e1 w2 ⟨rfl, hb⟩
    rw [HUN.out.1]
    have HX2 := Lib.hid (Ext.trans (HX1.out.setCell (p := ⟨w.heap.size, 4, none⟩) (Nat.le_refl _) (.int .i64 ((f.length : Int) - 1))) hb)
    have HBX2 : Hid (w2.heap[w.heap.size]? = some (.cells #[.int .i64 o, .int .i64 i, .int .i64 e, .int .i64 g, .int .i64 ((f.length : Int) - 1), .int .i64 q] 93 (0, 0))) := Lib.hid ((hb.block (by simp [World.setCell]; exact dlt)).trans (by simp only [World.setCell, Array.getElem?_modify, HBX.out, if_true, Option.map_some]; simp))
    clear hb d0 d1 d2 d3 d4 d5 dfr dlt hfz
    go_wp2_with fail
    go_loopw [5, 6] (fun v5 i5 wr => ∃ k : Nat, k ≤ f.length ∧ i5 = .int .i64 k ∧ Hid (wr.ownsRow (w.heap.size + 1) 93 6 v5 k ((f.take k).flatMap Nd.cells)) ∧ Hid (wr.heap[w.heap.size]? = some (.cells #[.int .i64 o, .int .i64 i, .int .i64 e, .int .i64 g, .int .i64 ((f.length : Int) - 1), .int .i64 q] 93 (0, 0))) ∧ Ext w wr) (fun _ i _ => f.length - (intOf i).toNat)
    case atStart => exact ⟨0, Nat.zero_le _, rfl, Lib.hid (by simpa using World.ownsRow_nil _ _ _ _), HBX2, HX2.out⟩
    case round =>
      obtain ⟨k, hk, rfl, HROW, HBK, hext⟩ := hrel
      obtain ⟨A5, c5, rfl⟩ := slice_of_row HROW.out
      have HNE := Lib.hid (row_ne HROW.out)
      by_cases hlt : k < f.length
      · obtain ⟨a, ha⟩ : ∃ a, f[k]? = some a := ⟨_, List.getElem?_eq_getElem hlt⟩
        obtain ⟨ad, rfl, hb1, hc1⟩ := HREAD.out (by intro e; rw [e] at hlt; simp at hlt)
        obtain ⟨a0, a1, a2, a3, a4, a5⟩ := (hc1 k a ha).keep fun p hp => hext.cell (p := p) (by rw [hp, block_of_add]; exact hb1)
        obtain ⟨xs, hxs⟩ : ∃ xs, xs = (f.take k).flatMap Nd.cells := ⟨_, rfl⟩
        rw [← hxs] at HROW
        have HXS := Lib.hid hxs
        have HTK : Hid (xs ++ a.cells = (f.take (k + 1)).flatMap Nd.cells) := Lib.hid (by rw [hxs, take_succ_eq ha, List.flatMap_append]; simp)
        have hc3 : k + 1 ≤ maxLen := by unfold maxLen; omega
        have hc4 : (k + 1) * 48 ≤ 140737488355328 := by omega
        have hc5 : ∀ X, w.heap.size + 1 ≤ (wr.alloc X).heap.size := fun X => by have := hext.size; simp; omega
        clear hxs hc1 ha
        go_wp2_with (at_builtin; refine wpList_append_own_at _ rfl _ _ 22 rfl (w.heap.size + 1) 93 i0 Nd.zero.val 6 48 Tryz.underlying22 hi0 hz0' hz1' hz2' rfl (by decide) _ _ _ rfl (row_ext HROW.out ((Ext.refl _).alloc _)) _ 1 1 a.cells rfl rfl (row_new_at _ _ _ rfl) (node_cells a) hc3 hc4 (hc5 _) ?_)
        intro v' w4 hown4 hgrow4 _ hat4
        obtain ⟨A4, c4, rfl⟩ := slice_of_row hown4
        have HROW4 : Hid (w4.ownsRow (w.heap.size + 1) 93 6 (.slice A4 (k + 1) c4) (k + 1) ((f.take (k + 1)).flatMap Nd.cells)) := Lib.hid (by rw [← HTK.out]; exact hown4)
        have HBK4 := Lib.hid (box_grown HBK.out HNE.out ((Ext.refl _).alloc _) hgrow4)
        have HX4 := Lib.hid ((Ext.alloc hext _).grown hgrow4 (fun g hg => by have := (HROW.out.lt g hg).1; omega))
        clear hown4 hgrow4 hat4
        go_wp2_with fail
        go_roundw
        case rel => exact ⟨k + 1, by omega, by go_num, HROW4, HBK4, HX4.out⟩
        case measure => simp [intOf]; omega
      · obtain rfl : f.length = k := by omega
        obtain ⟨⟨d0, d1, d2, d3, d4, d5⟩, dfr, dlt⟩ := cells6 HBK.out
        rw [List.take_of_length_le (Nat.le_refl _)] at HROW
        obtain ⟨xs, hxs⟩ : ∃ xs, xs = f.flatMap Nd.cells := ⟨_, rfl⟩
        rw [← hxs] at HROW
        have HXS := Lib.hid hxs
        have hc3 : f.length + 1 ≤ maxLen := by unfold maxLen; omega
        have hc4 : (f.length + 1) * 48 ≤ 140737488355328 := by omega
        have hc5 : ∀ X, w.heap.size + 1 ≤ (wr.alloc X).heap.size := fun X => by have := hext.size; simp; omega
        obtain ⟨m, hm⟩ : ∃ m : Nd, m = ⟨o, i, e, g, (f.length : Int) - 1, q⟩ := ⟨_, rfl⟩
        have HMX := Lib.hid (show m.cells = [.int .i64 o, .int .i64 i, .int .i64 e, .int .i64 g, .int .i64 ((f.length : Int) - 1), .int .i64 q] by rw [hm]; rfl)
        have HMO : Hid (m.ok) := Lib.hid (by obtain ⟨x1, x2, x3, x4, x5, x6⟩ := HXO.out; rw [hm]; exact ⟨x1, x2, x3, x4, ⟨by show (-9223372036854775808 : Int) ≤ (f.length : Int) - 1; omega, by show (f.length : Int) - 1 ≤ 9223372036854775807; omega⟩, x6⟩)
        have HU : Hid (nodeErr m f.length = 0 ∧ Wf (f ++ [m]) ∧ shortN (f ++ [m]) = buildN ⟨o, i, e, g, p, q⟩ [f]) := Lib.hid (by rw [hm]; exact HUN.out)
        clear hxs hm HUN
        go_wp2_with (at_builtin; refine wpList_append_own_at _ rfl _ _ 22 rfl (w.heap.size + 1) 93 i0 Nd.zero.val 6 48 Tryz.underlying22 hi0 hz0' hz1' hz2' rfl (by decide) _ _ _ rfl (row_ext HROW.out ((Ext.refl _).alloc _)) _ 1 1 [.int .i64 o, .int .i64 i, .int .i64 e, .int .i64 g, .int .i64 ((f.length : Int) - 1), .int .i64 q] rfl rfl (row_new_at _ _ _ rfl) (by rw [← HMX.out]; exact node_cells m) hc3 hc4 (hc5 _) ?_)
        intro v' w4 hown4 hgrow4 _ hat4
        have HROW4 : Hid (w4.ownsRow (w.heap.size + 1) 93 6 v' (f ++ [m]).length ((f ++ [m]).flatMap Nd.cells)) := Lib.hid (by rw [HXS.out, ← HMX.out] at hown4; simpa using hown4)
        have HX4 := Lib.hid ((Ext.alloc hext _).grown hgrow4 (fun g hg => by have := (HROW.out.lt g hg).1; omega))
        obtain ⟨A4, c4, rfl⟩ := slice_of_row hown4
        have HFM : Hid (Fml w4 (.slice A4 (f.length + 1) c4) (f ++ [m])) := Lib.hid ⟨nds_of_row HROW4.out, fun n hn => by
          rcases List.mem_append.1 hn with hn | hn
          · exact H.out.2 n hn
          · rw [List.mem_singleton.1 hn]; exact HMO.out⟩
        clear hown4 hgrow4 hat4
        go_wp2_with fail
        refine (short_any _ (f ++ [m]) _ HFM.out HU.out.2.1 (by simp) (by simp; omega)).mono ?_
        rintro e1 w5 ⟨u5, rfl, hm5⟩
        rw [HU.out.2.2] at hm5
        have HM5 := Lib.hid (hm5.before HX4.out)
        obtain ⟨A8, c8, rfl⟩ := slice_of_row hm5.1
        clear hm5
        go_wp2_with fail
        go_ret
        exact ⟨_, rfl, HM5.out⟩
  · have HB0 := Lib.hid (build_bad1 (n := x) hc)
    have hcb : (check f != 0) = true := by simpa using hc
    obtain ⟨o, i, e, g, p, q⟩ := x
    unfold Nd.val
    clear hc hx hxo h1 h2
    go_enter Tryz.func66, Tryz.ntmps66
    go_wp2_with fail
    refine (refCheck_any _ f _ (H.out.1.ext ((Ext.refl _).alloc _))).mono ?_
    rintro e1 w1 ⟨rfl, hb⟩
    have HX1 := Lib.hid (Ext.trans ((Ext.refl w).alloc _) hb)
    clear hb
    go_wp2_with fail
    go_ret
    exact ⟨_, rfl, by rw [HB0.out]; exact (Made.none_ _).after HX1.out⟩
end Go.Proofs.YtbfeodammikajaaGreat
