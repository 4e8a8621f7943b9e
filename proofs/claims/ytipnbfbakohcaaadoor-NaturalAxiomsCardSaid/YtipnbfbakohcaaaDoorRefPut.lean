/- The reference's put: a node's number in a list, to which it is appended if it is new. -/
import Derived.Test.YtipnbfbakohcaaaDoorRefNode
import Derived.Deep.RegionLaw
import Derived.Maps.AppendAt
namespace Go.Proofs.YtipnbfbakohcaaaDoor
open Go.RowKit

/-- append to a row of the call's own, as one step of a region that draws. -/
theorem step_append_at {P : Program} {ops : Array Oper} {o : Oper} {a : Act} {w : World} {K : Act → World → Prop} {Q : Exit → Act → World → Prop} {E : Prop}
    (hgd : o.guard = none) (s x : Operand) (t : TypeId) (ho : o.op = .call { callee := .builtin .append, args := #[s, x], argTypes := #[t, t] })
    (base : Nat) (e : TypeId) (i : TypeInfo) (z : Value) (size bytes : Nat) (ht : P.underlying t = some (.slice e)) (hi : P.info? e = some i) (hz : i.zero = some z)
    (hsize : i.size = size) (hby : i.bytes = bytes) (hzs : z.cells.size = size) (hsz : 0 < size)
    (v : Value) (n : Nat) (xs : List Value) (hs : a.eval s = v) (hown : w.ownsRow base e size v n xs)
    (ad : Addr) (m c : Nat) (news : List Value) (hx : a.eval x = .slice (some ad) m c) (hl : news.length = m * size) (hnews : ∀ j u, news[j]? = some u → w.cell? (ad.add j) = some u) (h1 : ∀ u ∈ news, u.oneCell' = true)
    (h63 : n + m ≤ maxLen) (hbytes : (n + m) * bytes ≤ 140737488355328) (hbase : base ≤ w.heap.size)
    (h : ∀ v' w', w'.ownsRow base e size v' (n + m) (xs ++ news) → w.grownBy w' v.ownBlock → (v'.ownBlock = v.ownBlock ∨ v'.ownBlock = some w.heap.size) → K (a.put o.dst v') w') :
    if Region.wanted o (yielded ops a.tmps) = true then Oper.wp P o a w K Q else E := by
  have hw : Region.wanted o (yielded ops a.tmps) = true := by simp [Region.wanted, hgd]
  rw [if_pos hw]
  obtain ⟨v', w', hr, h2, h3, _, h5⟩ := run_append_own_at (P := P) w base t o.type e i z size bytes ht hi hz hsize hby hzs hsz v n xs hown ad m c news hl hnews h1 h63 hbytes hbase
  unfold Oper.wp execOp
  simp only [ho, resolve, invoke, builtin, Sem.run_bind, Sem.run_pure, Result.andThen_ok, List.map_toArray, List.map_cons, List.map_nil, hs, hx, hr]
  exact h v' w' h2 h3 h5

theorem idxOf_first : ∀ {o : List Nd} {k : Nat} {a x : Nd}, o[k]? = some a → a = x → x ∉ o.take k → o.idxOf x = k
  | [], k, a, x, h, _, _ => by simp at h
  | b :: r, 0, a, x, h, hab, _ => by
    simp only [List.getElem?_cons_zero, Option.some.injEq] at h
    subst h hab
    simp
  | b :: r, k + 1, a, x, h, hab, hn => by
    simp only [List.take_succ_cons, List.mem_cons, not_or] at hn
    have ih := idxOf_first (o := r) (k := k) (a := a) (x := x) (by simpa using h) hab hn.2
    have hb : (b == x) = false := by rw [beq_eq_false_iff_ne]; exact fun e => hn.1 e.symm
    rw [List.idxOf_cons, hb, ih]
    rfl
theorem cells2 {w : World} {b : Nat} {a0 a1 : Value} {t : TypeId} (h : w.heap[b]? = some (.cells #[a0, a1] t (0, 0))) :
    w.cell? ⟨b, 0, none⟩ = some a0 ∧ w.cell? ⟨b, 1, none⟩ = some a1 ∧ (∀ j, w.frozen? ⟨b, j, none⟩ = false) ∧ b < w.heap.size :=
  ⟨by simp [World.cell?, h], by simp [World.cell?, h], fun j => by simp [World.frozen?, h], lt_heap h⟩

/-- What a call of put may have changed: the struct's block, and the row. -/
structure PStep (bw : Nat) (w w' : World) (v v' : Value) : Prop where
  os : w'.os = w.os
  tape : w'.tape = w.tape
  output : w'.output = w.output
  size : w.heap.size ≤ w'.heap.size
  block : ∀ k, k < w.heap.size → k ≠ bw → v.ownBlock ≠ some k → w'.heap[k]? = w.heap[k]?
  row : ∀ g, v'.ownBlock = some g → v.ownBlock = some g ∨ w.heap.size ≤ g
section
variable {a b c w w' : World} {va vb vc v v' : Value} {bw : Nat}
theorem PStep.refl (w : World) (v : Value) : PStep bw w w v v := ⟨rfl, rfl, rfl, Nat.le_refl _, fun _ _ _ _ => rfl, fun _ h => .inl h⟩
theorem PStep.trans (h : PStep bw a b va vb) (k : PStep bw b c vb vc) : PStep bw a c va vc :=
  ⟨k.os.trans h.os, k.tape.trans h.tape, k.output.trans h.output, Nat.le_trans h.size k.size,
    fun i hi hb h4 => (k.block i (Nat.lt_of_lt_of_le hi h.size) hb (fun e => by
      rcases h.row i e with e' | e'
      · exact h4 e'
      · omega)).trans (h.block i hi hb h4),
    fun g hg => by
      rcases k.row g hg with e | e
      · exact h.row g e
      · exact .inr (Nat.le_trans h.size e)⟩
theorem PStep.of_ext (e : Ext a b) : PStep bw a b v v := ⟨e.os, e.tape, e.output, e.size, fun _ hk _ _ => e.block hk, fun _ h => .inl h⟩
theorem PStep.of_r (h : RStep a b va vb) : PStep bw a b va vb := ⟨h.os, h.tape, h.output, h.size, fun k hk _ hv => h.block k hk hv, h.row⟩
theorem PStep.set_ (w : World) (v : Value) (p : Addr) (hp : p.block = bw) (u : Value) : PStep bw w (w.setCell p u) v v :=
  ⟨rfl, rfl, rfl, by simp [World.setCell], fun k _ hb _ => Below.heap_setCell _ _ _ _ (by rw [hp]; exact hb), fun _ h => .inl h⟩
end

theorem put_keep {w W w4 : World} {bw : Nat} {v v0 vd : Value} {t : TypeId} (hb : w.heap[bw]? = some (.cells #[v0, vd] t (0, 0))) (hne : v.ownBlock ≠ some bw) (he : Ext w W) (hg : W.grownBy w4 v.ownBlock) : w4.heap[bw]? = some (.cells #[v0, vd] t (0, 0)) :=
  ((hg.block bw (Nat.lt_of_lt_of_le (lt_heap hb) he.size) (fun e => hne e.symm)).trans (he.block (lt_heap hb))).trans hb
theorem put_step {w W w4 : World} {bw : Nat} {v v' : Value} (he : Ext w W) (hg : W.grownBy w4 v.ownBlock) (hat : v'.ownBlock = v.ownBlock ∨ v'.ownBlock = some W.heap.size) : PStep bw w w4 v v' :=
  PStep.of_r (((RStep.refl w v).ext he).appended hg hat)

theorem set_first {w : World} {b : Nat} {a0 a1 : Value} {t : TypeId} (h : w.heap[b]? = some (.cells #[a0, a1] t (0, 0))) (u : Value) : (w.setCell ⟨b, 0, none⟩ u).heap[b]? = some (.cells #[u, a1] t (0, 0)) := by
  simp only [World.setCell, Array.getElem?_modify, h, if_true, Option.map_some]
  simp
theorem put_row_ne {w w4 : World} {bw : Nat} {v v' : Value} (h : PStep bw w w4 v v') (hne : v.ownBlock ≠ some bw) (hlt : bw < w.heap.size) : v'.ownBlock ≠ some bw := fun e => by
  rcases h.row bw e with h1 | h1
  · exact hne h1
  · omega

set_option maxRecDepth 100000 in
set_option maxHeartbeats 2000000 in
theorem put_any (bw base : Nat) (x : Nd) (o : List Nd) (vo vd : Value) (w : World) (hblk : w.heap[bw]? = some (.cells #[vo, vd] 89 (0, 0))) (hrow : w.ownsRow base 60 6 vo o.length (o.flatMap Nd.cells))
    (hb : base ≤ w.heap.size) (hlen : o.length ≤ 1000) (hne : vo.ownBlock ≠ some bw) :
    Calls Tryd.prog 80 #[.pointer (some ⟨bw, 0, none⟩), .agg #[.int .i64 x.op, .int .i64 x.i, .int .i64 x.e, .int .i64 x.g, .int .i64 x.x, .int .i64 x.y]] w fun e w' => ∃ vo', e = .returned (.int .i64 (o.idxOf x : Nat)) ∧
      w'.heap[bw]? = some (.cells #[vo', vd] 89 (0, 0)) ∧ w'.ownsRow base 60 6 vo' (addN o x).length ((addN o x).flatMap Nd.cells) ∧ PStep bw w w' vo vo' := by
  obtain ⟨i0, hi0, hz0, hz1, hz2⟩ := info_parts tInfo
  obtain ⟨Ao, co, rfl⟩ := slice_of_row hrow
  have HROW := Lib.hid hrow
  have HBLK := Lib.hid hblk
  have HNE := Lib.hid hne
  obtain ⟨A2, c2, e2, hcap, hmax, hread⟩ := nds_of_row hrow
  obtain ⟨rfl, rfl⟩ : A2 = Ao ∧ c2 = co := by injection e2 with e2 _ e3; exact ⟨e2.symm, e3.symm⟩
  have HREAD := Lib.hid hread
  unfold maxLen at hmax
  obtain ⟨d0, d1, dfr, dlt⟩ := cells2 hblk
  clear hrow hblk hne e2 hread
  go_enter Tryd.func80, Tryd.ntmps80
  go_wp2_with fail
  go_loopw [5] (fun i wr => ∃ k : Nat, k ≤ o.length ∧ i = .int .i64 k ∧ Hid (x ∉ o.take k) ∧ Ext w wr ∧ Hid (wr.heap[w.heap.size]? = some (.cells #[.int .i64 x.op, .int .i64 x.i, .int .i64 x.e, .int .i64 x.g, .int .i64 x.x, .int .i64 x.y] 60 (0, 0)))) (fun i _ => o.length - (intOf i).toNat)
  case atStart => exact ⟨0, Nat.zero_le _, rfl, Lib.hid (by simp), (Ext.refl _).alloc _, Lib.hid (heap_alloc_new _ _)⟩
  case round =>
    obtain ⟨k, hk, rfl, HNI, hext, HBX⟩ := hrel
    have k0 := (hext.cell (p := ⟨bw, 0, none⟩) dlt).trans d0
    have k1 := (hext.cell (p := ⟨bw, 1, none⟩) dlt).trans d1
    obtain ⟨⟨b0, b1, b2, b3, b4, b5⟩, bfr, blt⟩ := cells6 HBX.out
    by_cases hlt2 : k < o.length
    · obtain ⟨a, ha⟩ : ∃ a, o[k]? = some a := ⟨_, List.getElem?_eq_getElem hlt2⟩
      obtain ⟨ad, rfl, hb1, hc1⟩ := HREAD.out (by intro e; rw [e] at hlt2; simp at hlt2)
      obtain ⟨a0, a1, a2, a3, a4, a5⟩ := (hc1 k a ha).keep fun p hp => hext.cell (p := p) (by rw [hp, block_of_add]; exact hb1)
      have hi0' : (0 : Int) ≤ (k : Int) := by omega
      have hi1' : (k : Int) < (o.length : Int) := by omega
      have heq := fun W => eqNode a x W
      have HA := Lib.hid ha
      clear ha hc1
      by_cases hab : a = x
      · have hd : decide (a = x) = true := by simpa using hab
        have HIX : Hid (o.idxOf x = k) := Lib.hid (idxOf_first HA.out hab HNI.out)
        have HIN : Hid (addN o x = o) := Lib.hid (by unfold addN; rw [if_pos (by rw [← hab]; exact List.mem_of_getElem? HA.out)])
        clear hab
        go_wp2_with fail
        go_quiet (fail)
        go_wp2_with fail
        go_ret
        refine ⟨_, ret_int (by rw [HIX.out]), ?_, ?_, PStep.of_ext (hext.drewN _)⟩
        · exact ((hext.drewN _).block dlt).trans HBLK.out
        · rw [HIN.out]; exact row_ext HROW.out (hext.drewN _)
      · have hd : decide (a = x) = false := by simpa using hab
        have HT : Hid (x ∉ o.take (k + 1)) := Lib.hid (by rw [take_succ_eq HA.out]; simp [HNI.out, Ne.symm hab])
        clear hab
        go_wp2_with fail
        go_quiet (fail)
        go_wp2_with fail
        go_roundw
        case rel => exact ⟨k + 1, by omega, by go_num, HT, hext.drewN _, Lib.hid HBX.out⟩
        case measure => simp [intOf]; omega
    · obtain rfl : o.length = k := by omega
      have HNOT : Hid (x ∉ o) := Lib.hid (by have := HNI.out; rwa [List.take_of_length_le (Nat.le_refl _)] at this)
      have hc3 : o.length + 1 ≤ maxLen := by unfold maxLen; omega
      have hc4 : (o.length + 1) * 48 ≤ 140737488355328 := by omega
      have blt2 : bw < wr.heap.size := Nat.lt_of_lt_of_le dlt hext.size
      have k2 := (hext.frozen (p := ⟨bw, 0, none⟩) dlt).trans (dfr 0)
      go_wp2_with fail
      go_region_law (refine step_append_at rfl (.tmp 29) (.tmp 31) 29 rfl base 60 i0 Nd.zero.val 6 48 Tryd.underlying29 hi0 hz0 hz1 hz2 rfl (by decide) (.slice A2 o.length c2) _ _ (by simp [Act.eval]) (row_ext HROW.out (by repeat (first | exact hext | apply Ext.alloc | apply Ext.drew | apply Ext.drewN))) ⟨wr.heap.size, 0, none⟩ 1 1 x.cells (by simp [Act.eval]) rfl (row_new_at _ _ _ (by simp)) (node_cells x) hc3 hc4 (Nat.le_trans hb (Ext.size (a := w) (by repeat (first | exact hext | apply Ext.alloc | apply Ext.drew | apply Ext.drewN)))) ?_; intro v' w4 hown4 hgrow4 hat4; obtain ⟨A4, c4, rfl⟩ := slice_of_row hown4; have kb := put_keep HBLK.out HNE.out (by repeat (first | exact hext | apply Ext.alloc | apply Ext.drew | apply Ext.drewN)) hgrow4; obtain ⟨q0, q1, qfr, qlt⟩ := cells2 kb; have ST := Lib.hid (put_step (bw := bw) (by repeat (first | exact hext | apply Ext.alloc | apply Ext.drew | apply Ext.drewN)) hgrow4 (hat4.imp id fun e => by simp [e])); have HROW4 := Lib.hid hown4; have KB := Lib.hid kb; clear hown4 hgrow4 hat4 kb)
      all_goals
        go_wp2_with fail
        go_ret
        refine ⟨.slice A4 (o.length + 1) c4, ret_int (by rw [List.idxOf_eq_length HNOT.out]), ?_, ?_, ?_⟩
        · exact set_first KB.out _
        · rw [show addN o x = o ++ [x] by unfold addN; rw [if_neg HNOT.out]]
          refine ownsRow_setCell_other (a := ⟨bw, 0, none⟩) ?_ (put_row_ne ST.out HNE.out (lt_heap HBLK.out)) _
          have h4 := HROW4.out
          simpa using h4
        · exact ST.out.trans (PStep.set_ _ _ ⟨bw, 0, none⟩ rfl _)
end Go.Proofs.YtipnbfbakohcaaaDoor
