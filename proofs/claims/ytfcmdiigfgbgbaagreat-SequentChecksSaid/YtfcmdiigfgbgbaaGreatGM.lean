/- The reference's constructors of formulas: a short list's canonical form; a node without operands; a node with one. -/
import Derived.Test.YtfcmdiigfgbgbaaGreatGK
import Derived.Test.YtfcmdiigfgbgbaaGreatGL

namespace Go.Proofs.YtfcmdiigfgbgbaaGreat
open Go.RowKit

set_option maxRecDepth 100000 in
set_option maxHeartbeats 4000000 in
theorem short_any (v : Value) (l : List Nd) (w : World) (h : Fml w v l) (hw : Wf l) (h0 : 0 < l.length) (hl : l.length ≤ 401) :
    Calls Tryz.prog 91 #[v] w fun e w' => ∃ u, e = .returned u ∧ Made w w' u (shortN l) := by
  have H := Lib.hid h
  have HW := Lib.hid hw
  obtain ⟨⟨A, c, rfl, hat⟩, hok⟩ := h
  have HAT := Lib.hid hat
  have hcl := hat.1
  have hcm := hat.2.1
  unfold maxLen at hcm
  obtain ⟨i3, hi3, hz30, hz31, hz32⟩ := info_parts tInfo3
  clear hat hok hw
  go_enter Tryz.func91, Tryz.ntmps91
  go_wp2_with fail
  go_loopw [4] (fun i wr => ∃ k : Nat, k ≤ l.length ∧ i = .int .i64 k ∧ Hid (∃ vd, RSub w k vd wr)) (fun i _ => l.length - (intOf i).toNat)
  case atStart => exact ⟨0, Nat.zero_le _, rfl, Lib.hid ⟨.slice none 0 0, heap_alloc_new _ _, World.ownsRow_nil _ _ _ _, (Ext.refl _).alloc _⟩⟩
  case round =>
    obtain ⟨k, hk, rfl, hrs⟩ := hrel
    obtain ⟨vd, hblk0, hrow0, hext⟩ := hrs.out
    have HBLK := Lib.hid hblk0; have HROW := Lib.hid hrow0
    clear hblk0 hrow0 hrs
    obtain ⟨Ad, cd, rfl⟩ := slice_of_row HROW.out
    obtain ⟨d0, d1, dfr, dlt⟩ := cells2 HBLK.out
    by_cases hlt2 : k < l.length
    · have hc3 : k + 1 ≤ maxLen := by unfold maxLen; omega
      have hc4 : (k + 1) * 8 ≤ 140737488355328 := by omega
      have hfz := dfr 1
      have HNE := Lib.hid (row_ne HROW.out)
      have hc5 : ∀ X, w.heap.size + 1 ≤ (wr.alloc X).heap.size := fun X => by simp; omega
      obtain ⟨xs, hxs⟩ : ∃ xs, xs = (List.replicate k (-1 : Int)).map (Value.int .i64) := ⟨_, rfl⟩
      rw [← hxs] at HROW
      have HXS := Lib.hid hxs
      clear hxs
      go_wp2_with (at_builtin; refine wpList_append_own_at _ rfl _ _ 35 rfl (w.heap.size + 1) 3 i3 (.int .i64 0) 1 8 Tryz.underlying35 hi3 hz30 hz31 hz32 rfl (by decide) _ _ _ rfl (row_ext HROW.out ((Ext.refl _).alloc _)) _ 1 1 [.int .i64 (-1)] rfl rfl (row_new_at _ _ _ (by simp)) (fun u hu => by rw [List.mem_singleton.1 hu]; rfl) hc3 hc4 (hc5 _) ?_)
      intro v' w4 hown4 hgrow4 _ hat4
      obtain ⟨A4, c4, rfl⟩ := slice_of_row hown4
      have HROW4 := Lib.hid hown4
      have kb := put_keep2 HBLK.out HNE.out ((Ext.refl _).alloc _) hgrow4
      have HX4 := Lib.hid ((Ext.alloc hext _).grown hgrow4 (fun g hg => by have := (HROW.out.lt g hg).1; omega))
      have HNE4 := Lib.hid (row_ne hown4)
      obtain ⟨q0, q1, qfr, qlt⟩ := cells2 kb
      have qf1 := qfr 1
      have KB := Lib.hid kb
      clear hown4 hgrow4 hat4 kb d0 d1 dfr dlt hfz
      go_wp2_with fail
      go_roundw
      case rel => exact ⟨k + 1, by omega, by go_num, Lib.hid (sub_next KB.out HROW4.out HNE4.out HX4.out HXS.out)⟩
      case measure => simp [intOf]; omega
    · obtain rfl : l.length = k := by omega
      have HRUN := Lib.hid (rfin_any (bw := w.heap.size) (W0 := w) (A := A) (c := c) (vd := .slice Ad l.length cd) HW.out H.out.2 (by omega) (l.length - 1) (by omega))
      have HINV : Hid (RInv w.heap.size w wr A c l [] (List.replicate l.length (-1)) (.slice none 0 0) (.slice Ad l.length cd)) :=
        Lib.hid ⟨hext, HAT.out, HBLK.out, World.ownsRow_nil _ _ _ _, row_base HROW.out (Nat.le_succ _), ⟨by simp, fun i hi => .inl (by simp [hi])⟩, Nat.le_refl _, by simp⟩
      have hz : ((l.length - 1 : Nat) : Int) = (l.length : Int) - 1 := by omega
      rw [hz] at HRUN
      go_wp2_with fail
      refine (HRUN.out _ _ _ _ HINV.out (pot_nil l)).mono ?_
      rw [← hz, Int.toNat_natCast]
      rintro e w5 ⟨vo5, d5, rfl, hinv, hst⟩
      obtain ⟨q0, q1, qfr, qlt⟩ := cells2 hinv.blk
      have HS : Hid (shortN l = bif decide (200 < (finN l (l.length - 1) []).1.length) then [] else (finN l (l.length - 1) []).1) := Lib.hid rfl
      have HM := Lib.hid (show Made w w5 vo5 (finN l (l.length - 1) []).1 from ⟨hinv.row, hinv.oks, hinv.below⟩)
      obtain ⟨A6, c6, rfl⟩ := slice_of_row hinv.row
      clear hinv hst hz
      generalize (finN l (l.length - 1) []).1 = o at *
      by_cases hlong : 200 < o.length
      · have HR := Lib.hid (show shortN l = [] by rw [HS.out, decide_eq_true hlong]; rfl)
        go_wp2_with fail
        go_ret
        exact ⟨_, rfl, by rw [HR.out]; exact (Made.none_ _).after HM.out.2.2⟩
      · have HR := Lib.hid (show shortN l = o by rw [HS.out, decide_eq_false hlong]; rfl)
        go_wp2_with fail
        go_ret
        exact ⟨_, rfl, by rw [HR.out]; exact HM.out⟩

theorem box_grown {w W w4 : World} {b : Nat} {o : Obj} {v : Value} (hb : w.heap[b]? = some o) (hne : v.ownBlock ≠ some b) (he : Ext w W) (hg : W.grownBy w4 v.ownBlock) : w4.heap[b]? = some o :=
  ((hg.block b (Nat.lt_of_lt_of_le (lt_heap hb) he.size) (fun e => hne e.symm)).trans (he.block (lt_heap hb))).trans hb
set_option maxRecDepth 100000 in
set_option maxHeartbeats 4000000 in
theorem one_any (x : Nd) (w : World) (hx : headOk x) (hxo : x.ok) (h1 : hasX x.op = false) (h2 : hasY x.op = false) :
    Calls Tryz.prog 117 #[x.val] w fun e w' => ∃ u, e = .returned u ∧ Made w w' u [x] := by
  have HE := Lib.hid (build_zero h1 h2 hx).1
  have HXO := Lib.hid hxo
  obtain ⟨o, i, e, g, p, q⟩ := x
  unfold Nd.val
  clear hx hxo h1 h2
  go_enter Tryz.func117, Tryz.ntmps117
  go_wp2_with fail
  refine (refNode_any ⟨o, i, e, g, p, q⟩ _ _).mono ?_
  rintro e1 w1 ⟨rfl, hb⟩
  rw [HE.out]
  have HBX : Hid (w1.heap[w.heap.size]? = some (.cells #[.int .i64 o, .int .i64 i, .int .i64 e, .int .i64 g, .int .i64 p, .int .i64 q] 53 (0, 0))) := Lib.hid ((hb.block (by simp)).trans (heap_alloc_new _ _))
  have HX := Lib.hid (Ext.trans ((Ext.refl _).alloc _) hb)
  obtain ⟨⟨d0, d1, d2, d3, d4, d5⟩, dfr, dlt⟩ := cells6 HBX.out
  clear hb
  go_wp2_with fail
  go_ret
  exact ⟨_, rfl, ⟨by simp [Nd.cells], .inr ⟨w1.heap.size, 1, _, rfl, HX.out.size, heap_alloc_new _ _, Nat.le_refl _, by unfold maxLen; omega, by simp, by simp [Nd.cells]⟩⟩, by simpa using HXO.out, HX.out.alloc _⟩

set_option maxRecDepth 100000 in
set_option maxHeartbeats 4000000 in
theorem unary_any (x : Nd) (v : Value) (f : List Nd) (w : World) (hx : headOk x) (hxo : x.ok) (h1 : hasX x.op = true) (h2 : hasY x.op = false) (h : Fml w v f) :
    Calls Tryz.prog 79 #[x.val, v] w fun e w' => ∃ u, e = .returned u ∧ Made w w' u (buildN x [f]) := by
  have H := Lib.hid h
  obtain ⟨⟨A, c, rfl, hat⟩, hok⟩ := h
  have hcl := hat.1
  have hcm := hat.2.1
  unfold maxLen at hcm
  have HREAD := Lib.hid hat.2.2
  obtain ⟨i0, hi0, hz0', hz1', hz2'⟩ := info_parts tInfo
  clear hat hok
  by_cases hc : check f = 0
  · have HC := Lib.hid hc
    have HUN := Lib.hid (un_short hc h1 h2 hx (m := { x with x := (f.length : Int) - 1 }) rfl)
    obtain ⟨hp0, hl200, _⟩ := check_parts hc
    have HXO := Lib.hid hxo
    obtain ⟨o, i, e, g, p, q⟩ := x
    unfold Nd.val
    clear hc hx hxo h1 h2
    go_enter Tryz.func79, Tryz.ntmps79
    go_wp2_with fail
    refine (refCheck_any _ f _ (H.out.1.ext ((Ext.refl _).alloc _))).mono ?_
    rintro e1 w1 ⟨rfl, hb⟩
    rw [HC.out]
    have HX1 := Lib.hid (Ext.trans ((Ext.refl w).alloc _) hb)
    have HBX : Hid (w1.heap[w.heap.size]? = some (.cells #[.int .i64 o, .int .i64 i, .int .i64 e, .int .i64 g, .int .i64 p, .int .i64 q] 53 (0, 0))) := Lib.hid ((hb.block (by simp)).trans (heap_alloc_new _ _))
    obtain ⟨⟨d0, d1, d2, d3, d4, d5⟩, dfr, dlt⟩ := cells6 HBX.out
    have hfz := dfr 4
    clear hb
    go_wp2_with fail
    refine (refNode_any ⟨o, i, e, g, (f.length : Int) - 1, q⟩ _ _).mono ?_
    rintro e1 w2 ⟨rfl, hb⟩
    rw [HUN.out.1]
    have HX2 := Lib.hid (Ext.trans (HX1.out.setCell (p := ⟨w.heap.size, 4, none⟩) (Nat.le_refl _) (.int .i64 ((f.length : Int) - 1))) hb)
    have HBX2 : Hid (w2.heap[w.heap.size]? = some (.cells #[.int .i64 o, .int .i64 i, .int .i64 e, .int .i64 g, .int .i64 ((f.length : Int) - 1), .int .i64 q] 53 (0, 0))) := Lib.hid ((hb.block (by simp [World.setCell]; exact dlt)).trans (by simp only [World.setCell, Array.getElem?_modify, HBX.out, if_true, Option.map_some]; simp))
    clear hb d0 d1 d2 d3 d4 d5 dfr dlt hfz
    go_wp2_with fail
    go_loopw [5, 6] (fun v5 i5 wr => ∃ k : Nat, k ≤ f.length ∧ i5 = .int .i64 k ∧ Hid (wr.ownsRow (w.heap.size + 1) 53 6 v5 k ((f.take k).flatMap Nd.cells)) ∧ Hid (wr.heap[w.heap.size]? = some (.cells #[.int .i64 o, .int .i64 i, .int .i64 e, .int .i64 g, .int .i64 ((f.length : Int) - 1), .int .i64 q] 53 (0, 0))) ∧ Ext w wr) (fun _ i _ => f.length - (intOf i).toNat)
    case atStart => exact ⟨0, Nat.zero_le _, rfl, Lib.hid (by simpa using World.ownsRow_nil _ _ _ _), HBX2, HX2.out⟩
    case round =>
      obtain ⟨k, hk, rfl, HROW, HBK, hext⟩ := hrel
      obtain ⟨A5, c5, rfl⟩ := slice_of_row HROW.out
      have HNE := Lib.hid (row_ne HROW.out)
      by_cases hlt : k < f.length
      · obtain ⟨a, ha⟩ : ∃ a, f[k]? = some a := ⟨_, List.getElem?_eq_getElem hlt⟩
        obtain ⟨ad, rfl, hb1, hc1⟩ := HREAD.out (by intro e; rw [e] at hlt; simp at hlt)
        obtain ⟨a0, a1, a2, a3, a4, a5⟩ := (hc1 k a ha).keep fun p hp => hext.cell (p := p) (by rw [hp, block_of_add]; exact hb1)
        obtain ⟨xs, hxs⟩ : ∃ xs, xs = (f.take k).flatMap Nd.cells := ⟨_, rfl⟩
        rw [← hxs] at HROW
        have HXS := Lib.hid hxs
        have HTK : Hid (xs ++ a.cells = (f.take (k + 1)).flatMap Nd.cells) := Lib.hid (by rw [hxs, take_succ_eq ha, List.flatMap_append]; simp)
        have hc3 : k + 1 ≤ maxLen := by unfold maxLen; omega
        have hc4 : (k + 1) * 48 ≤ 140737488355328 := by omega
        have hc5 : ∀ X, w.heap.size + 1 ≤ (wr.alloc X).heap.size := fun X => by have := hext.size; simp; omega
        clear hxs hc1 ha
        go_wp2_with (at_builtin; refine wpList_append_own_at _ rfl _ _ 22 rfl (w.heap.size + 1) 53 i0 Nd.zero.val 6 48 Tryz.underlying22 hi0 hz0' hz1' hz2' rfl (by decide) _ _ _ rfl (row_ext HROW.out ((Ext.refl _).alloc _)) _ 1 1 a.cells rfl rfl (row_new_at _ _ _ rfl) (node_cells a) hc3 hc4 (hc5 _) ?_)
        intro v' w4 hown4 hgrow4 _ hat4
        obtain ⟨A4, c4, rfl⟩ := slice_of_row hown4
        have HROW4 : Hid (w4.ownsRow (w.heap.size + 1) 53 6 (.slice A4 (k + 1) c4) (k + 1) ((f.take (k + 1)).flatMap Nd.cells)) := Lib.hid (by rw [← HTK.out]; exact hown4)
        have HBK4 := Lib.hid (box_grown HBK.out HNE.out ((Ext.refl _).alloc _) hgrow4)
        have HX4 := Lib.hid ((Ext.alloc hext _).grown hgrow4 (fun g hg => by have := (HROW.out.lt g hg).1; omega))
        clear hown4 hgrow4 hat4
        go_wp2_with fail
        go_roundw
        case rel => exact ⟨k + 1, by omega, by go_num, HROW4, HBK4, HX4.out⟩
        case measure => simp [intOf]; omega
      · obtain rfl : f.length = k := by omega
        obtain ⟨⟨d0, d1, d2, d3, d4, d5⟩, dfr, dlt⟩ := cells6 HBK.out
        rw [List.take_of_length_le (Nat.le_refl _)] at HROW
        obtain ⟨xs, hxs⟩ : ∃ xs, xs = f.flatMap Nd.cells := ⟨_, rfl⟩
        rw [← hxs] at HROW
        have HXS := Lib.hid hxs
        have hc3 : f.length + 1 ≤ maxLen := by unfold maxLen; omega
        have hc4 : (f.length + 1) * 48 ≤ 140737488355328 := by omega
        have hc5 : ∀ X, w.heap.size + 1 ≤ (wr.alloc X).heap.size := fun X => by have := hext.size; simp; omega
        obtain ⟨m, hm⟩ : ∃ m : Nd, m = ⟨o, i, e, g, (f.length : Int) - 1, q⟩ := ⟨_, rfl⟩
        have HMX := Lib.hid (show m.cells = [.int .i64 o, .int .i64 i, .int .i64 e, .int .i64 g, .int .i64 ((f.length : Int) - 1), .int .i64 q] by rw [hm]; rfl)
        have HMO : Hid (m.ok) := Lib.hid (by obtain ⟨x1, x2, x3, x4, x5, x6⟩ := HXO.out; rw [hm]; exact ⟨x1, x2, x3, x4, ⟨by show (-9223372036854775808 : Int) ≤ (f.length : Int) - 1; omega, by show (f.length : Int) - 1 ≤ 9223372036854775807; omega⟩, x6⟩)
        have HU : Hid (nodeErr m f.length = 0 ∧ Wf (f ++ [m]) ∧ shortN (f ++ [m]) = buildN ⟨o, i, e, g, p, q⟩ [f]) := Lib.hid (by rw [hm]; exact HUN.out)
        clear hxs hm HUN
        go_wp2_with (at_builtin; refine wpList_append_own_at _ rfl _ _ 22 rfl (w.heap.size + 1) 53 i0 Nd.zero.val 6 48 Tryz.underlying22 hi0 hz0' hz1' hz2' rfl (by decide) _ _ _ rfl (row_ext HROW.out ((Ext.refl _).alloc _)) _ 1 1 [.int .i64 o, .int .i64 i, .int .i64 e, .int .i64 g, .int .i64 ((f.length : Int) - 1), .int .i64 q] rfl rfl (row_new_at _ _ _ rfl) (by rw [← HMX.out]; exact node_cells m) hc3 hc4 (hc5 _) ?_)
        intro v' w4 hown4 hgrow4 _ hat4
        have HROW4 : Hid (w4.ownsRow (w.heap.size + 1) 53 6 v' (f ++ [m]).length ((f ++ [m]).flatMap Nd.cells)) := Lib.hid (by rw [HXS.out, ← HMX.out] at hown4; simpa using hown4)
        have HX4 := Lib.hid ((Ext.alloc hext _).grown hgrow4 (fun g hg => by have := (HROW.out.lt g hg).1; omega))
        obtain ⟨A4, c4, rfl⟩ := slice_of_row hown4
        have HFM : Hid (Fml w4 (.slice A4 (f.length + 1) c4) (f ++ [m])) := Lib.hid ⟨nds_of_row HROW4.out, fun n hn => by
          rcases List.mem_append.1 hn with hn | hn
          · exact H.out.2 n hn
          · rw [List.mem_singleton.1 hn]; exact HMO.out⟩
        clear hown4 hgrow4 hat4
        go_wp2_with fail
        refine (short_any _ (f ++ [m]) _ HFM.out HU.out.2.1 (by simp) (by simp; omega)).mono ?_
        rintro e1 w5 ⟨u5, rfl, hm5⟩
        rw [HU.out.2.2] at hm5
        have HM5 := Lib.hid (hm5.before HX4.out)
        obtain ⟨A8, c8, rfl⟩ := slice_of_row hm5.1
        clear hm5
        go_wp2_with fail
        go_ret
        exact ⟨_, rfl, HM5.out⟩
  · have HB0 := Lib.hid (build_bad1 (n := x) hc)
    have hcb : (check f != 0) = true := by simpa using hc
    obtain ⟨o, i, e, g, p, q⟩ := x
    unfold Nd.val
    clear hc hx hxo h1 h2
    go_enter Tryz.func79, Tryz.ntmps79
    go_wp2_with fail
    refine (refCheck_any _ f _ (H.out.1.ext ((Ext.refl _).alloc _))).mono ?_
    rintro e1 w1 ⟨rfl, hb⟩
    have HX1 := Lib.hid (Ext.trans ((Ext.refl w).alloc _) hb)
    clear hb
    go_wp2_with fail
    go_ret
    exact ⟨_, rfl, by rw [HB0.out]; exact (Made.none_ _).after HX1.out⟩
end Go.Proofs.YtfcmdiigfgbgbaaGreat

/- The reference's constructor of a node with two operands. -/

namespace Go.Proofs.YtfcmdiigfgbgbaaGreat
open Go.RowKit

set_option maxRecDepth 100000 in
set_option maxHeartbeats 8000000 in
theorem binary_any (x : Nd) (v1 v2 : Value) (f g : List Nd) (w : World) (hx : headOk x) (hxo : x.ok) (h1 : hasX x.op = true) (h2 : hasY x.op = true) (hf : Fml w v1 f) (hg : Fml w v2 g) :
    Calls Tryz.prog 116 #[x.val, v1, v2] w fun e w' => ∃ u, e = .returned u ∧ Made w w' u (buildN x [f, g]) := by
  have H := Lib.hid hf
  have HG := Lib.hid hg
  obtain ⟨⟨A, c, rfl, hat⟩, hok⟩ := hf
  obtain ⟨⟨A2, c2, rfl, hat2⟩, hok2⟩ := hg
  have hcl := hat.1
  have hcm := hat.2.1
  have hcl2 := hat2.1
  have hcm2 := hat2.2.1
  unfold maxLen at hcm hcm2
  have HREAD := Lib.hid hat.2.2
  have HREAD2 := Lib.hid hat2.2.2
  obtain ⟨i0, hi0, hz0', hz1', hz2'⟩ := info_parts tInfo
  clear hat hok hat2 hok2
  by_cases hc : check f = 0
  · by_cases hcg : check g = 0
    · have HC := Lib.hid hc
      have HCG := Lib.hid hcg
      have HUN := Lib.hid (bin_short hc hcg h1 h2 hx (m := { x with x := (f.length : Int) - 1, y := (f.length : Int) + g.length - 1 }) rfl)
      obtain ⟨hp0, hl200, _⟩ := check_parts hc
      obtain ⟨hq0, hm200, _⟩ := check_parts hcg
      have HWG := Lib.hid (check_wf hcg)
      have HXO := Lib.hid hxo
      obtain ⟨o, i, e, k0, p, q⟩ := x
      unfold Nd.val
      clear hc hcg hx hxo h1 h2
      go_enter Tryz.func116, Tryz.ntmps116
      go_wp2_with fail
      refine (refCheck_any _ f _ (H.out.1.ext ((Ext.refl _).alloc _))).mono ?_
      rintro e1 w1 ⟨rfl, hb⟩
      rw [HC.out]
      have HX1 := Lib.hid (Ext.trans ((Ext.refl w).alloc _) hb)
      have HBX : Hid (w1.heap[w.heap.size]? = some (.cells #[.int .i64 o, .int .i64 i, .int .i64 e, .int .i64 k0, .int .i64 p, .int .i64 q] 53 (0, 0))) := Lib.hid ((hb.block (by simp)).trans (heap_alloc_new _ _))
      clear hb
      go_wp2_with fail
      refine (refCheck_any _ g _ (HG.out.1.ext HX1.out)).mono ?_
      rintro e1 w2 ⟨rfl, hb⟩
      rw [HCG.out]
      have HX2 := Lib.hid (Ext.trans HX1.out hb)
      have HBX2 : Hid (w2.heap[w.heap.size]? = some (.cells #[.int .i64 o, .int .i64 i, .int .i64 e, .int .i64 k0, .int .i64 p, .int .i64 q] 53 (0, 0))) := Lib.hid ((hb.block (lt_heap HBX.out)).trans HBX.out)
      clear hb
      go_wp2_with fail
      go_loopw [7, 8] (fun v5 i5 wr => ∃ k : Nat, k ≤ f.length ∧ i5 = .int .i64 k ∧ Hid (wr.ownsRow (w.heap.size + 1) 53 6 v5 k ((f.take k).flatMap Nd.cells)) ∧ Hid (wr.heap[w.heap.size]? = some (.cells #[.int .i64 o, .int .i64 i, .int .i64 e, .int .i64 k0, .int .i64 p, .int .i64 q] 53 (0, 0))) ∧ Ext w wr) (fun _ i _ => f.length - (intOf i).toNat)
      case atStart => exact ⟨0, Nat.zero_le _, rfl, Lib.hid (by simpa using World.ownsRow_nil _ _ _ _), HBX2, HX2.out⟩
      case round =>
        obtain ⟨k, hk, rfl, HROW, HBK, hext⟩ := hrel
        obtain ⟨A5, c5, rfl⟩ := slice_of_row HROW.out
        have HNE := Lib.hid (row_ne HROW.out)
        by_cases hlt : k < f.length
        · obtain ⟨a, ha⟩ : ∃ a, f[k]? = some a := ⟨_, List.getElem?_eq_getElem hlt⟩
          obtain ⟨ad, rfl, hb1, hc1⟩ := HREAD.out (by intro e; rw [e] at hlt; simp at hlt)
          obtain ⟨a0, a1, a2, a3, a4, a5⟩ := (hc1 k a ha).keep fun p hp => hext.cell (p := p) (by rw [hp, block_of_add]; exact hb1)
          obtain ⟨xs, hxs⟩ : ∃ xs, xs = (f.take k).flatMap Nd.cells := ⟨_, rfl⟩
          rw [← hxs] at HROW
          have HTK : Hid (xs ++ a.cells = (f.take (k + 1)).flatMap Nd.cells) := Lib.hid (by rw [hxs, take_succ_eq ha, List.flatMap_append]; simp)
          have hc3 : k + 1 ≤ maxLen := by unfold maxLen; omega
          have hc4 : (k + 1) * 48 ≤ 140737488355328 := by omega
          have hc5 : ∀ X, w.heap.size + 1 ≤ (wr.alloc X).heap.size := fun X => by have := hext.size; simp; omega
          clear hxs hc1 ha
          go_wp2_with (at_builtin; refine wpList_append_own_at _ rfl _ _ 22 rfl (w.heap.size + 1) 53 i0 Nd.zero.val 6 48 Tryz.underlying22 hi0 hz0' hz1' hz2' rfl (by decide) _ _ _ rfl (row_ext HROW.out ((Ext.refl _).alloc _)) _ 1 1 a.cells rfl rfl (row_new_at _ _ _ rfl) (node_cells a) hc3 hc4 (hc5 _) ?_)
          intro v' w4 hown4 hgrow4 _ hat4
          obtain ⟨A4, c4, rfl⟩ := slice_of_row hown4
          have HROW4 : Hid (w4.ownsRow (w.heap.size + 1) 53 6 (.slice A4 (k + 1) c4) (k + 1) ((f.take (k + 1)).flatMap Nd.cells)) := Lib.hid (by rw [← HTK.out]; exact hown4)
          have HBK4 := Lib.hid (box_grown HBK.out HNE.out ((Ext.refl _).alloc _) hgrow4)
          have HX4 := Lib.hid ((Ext.alloc hext _).grown hgrow4 (fun g hg => by have := (HROW.out.lt g hg).1; omega))
          clear hown4 hgrow4 hat4
          go_wp2_with fail
          go_roundw
          case rel => exact ⟨k + 1, by omega, by go_num, HROW4, HBK4, HX4.out⟩
          case measure => simp [intOf]; omega
        · obtain rfl : f.length = k := by omega
          rw [List.take_of_length_le (Nat.le_refl _)] at HROW
          have HRW0 : Hid (wr.ownsRow (w.heap.size + 1) 53 6 (.slice A5 f.length c5) (f.length + 0) ((f ++ (g.take 0).map (shiftN f.length)).flatMap Nd.cells)) := Lib.hid (by simpa using HROW.out)
          have HEXT := Lib.hid hext
          clear HROW HNE hext
          obtain ⟨wq, hwq⟩ : ∃ wq : World, wq = wr := ⟨_, rfl⟩
          rw [← hwq] at HRW0 HBK HEXT ⊢
          clear hwq
          go_wp2_with fail
          go_loopw [7, 9] (fun v5 i5 wr => ∃ j : Nat, j ≤ g.length ∧ i5 = .int .i64 j ∧ Hid (wr.ownsRow (w.heap.size + 1) 53 6 v5 (f.length + j) ((f ++ (g.take j).map (shiftN f.length)).flatMap Nd.cells)) ∧ Hid (wr.heap[w.heap.size]? = some (.cells #[.int .i64 o, .int .i64 i, .int .i64 e, .int .i64 k0, .int .i64 p, .int .i64 q] 53 (0, 0))) ∧ Ext w wr) (fun _ i _ => g.length - (intOf i).toNat)
          case atStart => exact ⟨0, Nat.zero_le _, rfl, HRW0, HBK, HEXT.out⟩
          case round =>
            obtain ⟨j, hj, rfl, HROW2, HBK2, hext⟩ := hrel
            obtain ⟨A6, c6, rfl⟩ := slice_of_row HROW2.out
            have HNE := Lib.hid (row_ne HROW2.out)
            by_cases hlt2 : j < g.length
            · obtain ⟨a, ha⟩ : ∃ a, g[j]? = some a := ⟨_, List.getElem?_eq_getElem hlt2⟩
              obtain ⟨adc, rfl, hbc, hcc2⟩ := HREAD2.out (by intro e; rw [e] at hlt2; simp at hlt2)
              obtain ⟨a0, a1, a2, a3, a4, a5⟩ := (hcc2 j a ha).keep fun p hp => hext.cell (p := p) (by rw [hp, block_of_add]; exact hbc)
              obtain ⟨xs, hxs⟩ : ∃ xs, xs = (f ++ (g.take j).map (shiftN f.length)).flatMap Nd.cells := ⟨_, rfl⟩
              rw [← hxs] at HROW2
              have HXS := Lib.hid hxs
              clear hxs
              have hxy := HWG.out j a ha
              have HTK := Lib.hid (take_succ_eq ha)
              have hc3 : f.length + j + 1 ≤ maxLen := by unfold maxLen; omega
              have hc4 : (f.length + j + 1) * 48 ≤ 140737488355328 := by omega
              have hxb : hasX a.op = true → 0 ≤ a.x ∧ a.x < 200 := fun e => by have := hxy.1 e; omega
              have hyb : hasY a.op = true → 0 ≤ a.y ∧ a.y < 200 := fun e => by have := hxy.2 e; omega
              have HZ := Lib.hid hext.size
              clear hcc2 hxy ha
              rcases xy_cases a.op with ⟨hux, huy⟩ | ⟨hux, huy⟩ | ⟨hux, huy⟩
              · -- no operands
                have HUX := Lib.hid hux; have HUY := Lib.hid huy
                have HN2 : Hid (xs ++ [.int .i64 a.op, .int .i64 a.i, .int .i64 a.e, .int .i64 a.g, .int .i64 (a.x), .int .i64 (a.y)] = (f ++ (g.take (j + 1)).map (shiftN f.length)).flatMap Nd.cells) :=
                  Lib.hid (by rw [HXS.out, HTK.out, List.map_append, ← List.append_assoc, List.flatMap_append]; simp [shiftN, hux, huy, Nd.cells])
                clear hux huy hxb hyb
                go_wp2_with (first | (go_at_call 80; refine (usesX_as HUX.out _).mono ?_; rintro e1 w5 ⟨rfl, rfl⟩) | (go_at_call 81; refine (usesY_as HUY.out _).mono ?_; rintro e1 w5 ⟨rfl, rfl⟩) | (at_builtin; refine wpList_append_own_at _ rfl _ _ 22 rfl (w.heap.size + 1) 53 i0 Nd.zero.val 6 48 Tryz.underlying22 hi0 hz0' hz1' hz2' rfl (by decide) _ _ _ rfl (row_ext HROW2.out ?hx) _ 1 1 [.int .i64 a.op, .int .i64 a.i, .int .i64 a.e, .int .i64 a.g, .int .i64 (a.x), .int .i64 (a.y)] rfl rfl ?c1 ?c2 hc3 hc4 ?c5 ?_))
                case hx => repeat (first | exact Ext.refl _ | apply Ext.alloc | apply Ext.drew | refine Ext.setCell ?_ (Nat.le_refl _) _)
                case c1 => exact row_new_at _ _ _ (by simp)
                case c2 =>
                  intro u hu
                  simp only [List.mem_cons, List.mem_nil_iff, or_false] at hu
                  rcases hu with rfl | rfl | rfl | rfl | rfl | rfl <;> rfl
                case c5 =>
                  have h1 := HZ.out
                  simp
                  omega
                intro v' w4 hown4 hgrow4 _ hat4
                obtain ⟨A4, c4, rfl⟩ := slice_of_row hown4
                have HROW4 : Hid (w4.ownsRow (w.heap.size + 1) 53 6 (.slice A4 (f.length + j + 1) c4) (f.length + (j + 1)) ((f ++ (g.take (j + 1)).map (shiftN f.length)).flatMap Nd.cells)) := Lib.hid (by rw [← HN2.out]; exact hown4)
                have HBK4 := Lib.hid (box_grown HBK2.out HNE.out (by repeat (first | exact Ext.refl _ | apply Ext.alloc | apply Ext.drew | refine Ext.setCell ?_ (Nat.le_refl _) _)) hgrow4)
                have HX4 := Lib.hid (Ext.grown (a := w) (by repeat (first | exact hext | apply Ext.alloc | apply Ext.drew | refine Ext.setCell ?_ HZ.out _)) hgrow4 (fun g hg => by have := (HROW2.out.lt g hg).1; omega))
                clear hown4 hgrow4 hat4
                go_wp2_with fail
                go_roundw
                case rel => exact ⟨j + 1, by omega, by go_num, HROW4, HBK4, HX4.out⟩
                case measure => simp [intOf]; omega
              · -- one operand
                obtain ⟨bx0, bx1⟩ := hxb hux
                have HUX := Lib.hid hux; have HUY := Lib.hid huy
                have HN2 : Hid (xs ++ [.int .i64 a.op, .int .i64 a.i, .int .i64 a.e, .int .i64 a.g, .int .i64 (a.x + (f.length : Int)), .int .i64 (a.y)] = (f ++ (g.take (j + 1)).map (shiftN f.length)).flatMap Nd.cells) :=
                  Lib.hid (by rw [HXS.out, HTK.out, List.map_append, ← List.append_assoc, List.flatMap_append]; simp [shiftN, hux, huy, Nd.cells])
                clear hux huy hxb hyb
                go_wp2_with (first | (go_at_call 80; refine (usesX_as HUX.out _).mono ?_; rintro e1 w5 ⟨rfl, rfl⟩) | (go_at_call 81; refine (usesY_as HUY.out _).mono ?_; rintro e1 w5 ⟨rfl, rfl⟩) | (at_builtin; refine wpList_append_own_at _ rfl _ _ 22 rfl (w.heap.size + 1) 53 i0 Nd.zero.val 6 48 Tryz.underlying22 hi0 hz0' hz1' hz2' rfl (by decide) _ _ _ rfl (row_ext HROW2.out ?hx) _ 1 1 [.int .i64 a.op, .int .i64 a.i, .int .i64 a.e, .int .i64 a.g, .int .i64 (a.x + (f.length : Int)), .int .i64 (a.y)] rfl rfl ?c1 ?c2 hc3 hc4 ?c5 ?_))
                case hx => repeat (first | exact Ext.refl _ | apply Ext.alloc | apply Ext.drew | refine Ext.setCell ?_ (Nat.le_refl _) _)
                case c1 => exact row_new_at _ _ _ (by simp)
                case c2 =>
                  intro u hu
                  simp only [List.mem_cons, List.mem_nil_iff, or_false] at hu
                  rcases hu with rfl | rfl | rfl | rfl | rfl | rfl <;> rfl
                case c5 =>
                  have h1 := HZ.out
                  simp
                  omega
                intro v' w4 hown4 hgrow4 _ hat4
                obtain ⟨A4, c4, rfl⟩ := slice_of_row hown4
                have HROW4 : Hid (w4.ownsRow (w.heap.size + 1) 53 6 (.slice A4 (f.length + j + 1) c4) (f.length + (j + 1)) ((f ++ (g.take (j + 1)).map (shiftN f.length)).flatMap Nd.cells)) := Lib.hid (by rw [← HN2.out]; exact hown4)
                have HBK4 := Lib.hid (box_grown HBK2.out HNE.out (by repeat (first | exact Ext.refl _ | apply Ext.alloc | apply Ext.drew | refine Ext.setCell ?_ (Nat.le_refl _) _)) hgrow4)
                have HX4 := Lib.hid (Ext.grown (a := w) (by repeat (first | exact hext | apply Ext.alloc | apply Ext.drew | refine Ext.setCell ?_ HZ.out _)) hgrow4 (fun g hg => by have := (HROW2.out.lt g hg).1; omega))
                clear hown4 hgrow4 hat4
                go_wp2_with fail
                go_roundw
                case rel => exact ⟨j + 1, by omega, by go_num, HROW4, HBK4, HX4.out⟩
                case measure => simp [intOf]; omega
              · -- two operands
                obtain ⟨bx0, bx1⟩ := hxb hux
                obtain ⟨by0, by1⟩ := hyb huy
                have HUX := Lib.hid hux; have HUY := Lib.hid huy
                have HN2 : Hid (xs ++ [.int .i64 a.op, .int .i64 a.i, .int .i64 a.e, .int .i64 a.g, .int .i64 (a.x + (f.length : Int)), .int .i64 (a.y + (f.length : Int))] = (f ++ (g.take (j + 1)).map (shiftN f.length)).flatMap Nd.cells) :=
                  Lib.hid (by rw [HXS.out, HTK.out, List.map_append, ← List.append_assoc, List.flatMap_append]; simp [shiftN, hux, huy, Nd.cells])
                clear hux huy hxb hyb
                go_wp2_with (first | (go_at_call 80; refine (usesX_as HUX.out _).mono ?_; rintro e1 w5 ⟨rfl, rfl⟩) | (go_at_call 81; refine (usesY_as HUY.out _).mono ?_; rintro e1 w5 ⟨rfl, rfl⟩) | (at_builtin; refine wpList_append_own_at _ rfl _ _ 22 rfl (w.heap.size + 1) 53 i0 Nd.zero.val 6 48 Tryz.underlying22 hi0 hz0' hz1' hz2' rfl (by decide) _ _ _ rfl (row_ext HROW2.out ?hx) _ 1 1 [.int .i64 a.op, .int .i64 a.i, .int .i64 a.e, .int .i64 a.g, .int .i64 (a.x + (f.length : Int)), .int .i64 (a.y + (f.length : Int))] rfl rfl ?c1 ?c2 hc3 hc4 ?c5 ?_))
                case hx => repeat (first | exact Ext.refl _ | apply Ext.alloc | apply Ext.drew | refine Ext.setCell ?_ (Nat.le_refl _) _)
                case c1 => exact row_new_at _ _ _ (by simp)
                case c2 =>
                  intro u hu
                  simp only [List.mem_cons, List.mem_nil_iff, or_false] at hu
                  rcases hu with rfl | rfl | rfl | rfl | rfl | rfl <;> rfl
                case c5 =>
                  have h1 := HZ.out
                  simp
                  omega
                intro v' w4 hown4 hgrow4 _ hat4
                obtain ⟨A4, c4, rfl⟩ := slice_of_row hown4
                have HROW4 : Hid (w4.ownsRow (w.heap.size + 1) 53 6 (.slice A4 (f.length + j + 1) c4) (f.length + (j + 1)) ((f ++ (g.take (j + 1)).map (shiftN f.length)).flatMap Nd.cells)) := Lib.hid (by rw [← HN2.out]; exact hown4)
                have HBK4 := Lib.hid (box_grown HBK2.out HNE.out (by repeat (first | exact Ext.refl _ | apply Ext.alloc | apply Ext.drew | refine Ext.setCell ?_ (Nat.le_refl _) _)) hgrow4)
                have HX4 := Lib.hid (Ext.grown (a := w) (by repeat (first | exact hext | apply Ext.alloc | apply Ext.drew | refine Ext.setCell ?_ HZ.out _)) hgrow4 (fun g hg => by have := (HROW2.out.lt g hg).1; omega))
                clear hown4 hgrow4 hat4
                go_wp2_with fail
                go_roundw
                case rel => exact ⟨j + 1, by omega, by go_num, HROW4, HBK4, HX4.out⟩
                case measure => simp [intOf]; omega
            · obtain rfl : g.length = j := by omega
              rw [List.take_of_length_le (Nat.le_refl _)] at HROW2
              obtain ⟨⟨d0, d1, d2, d3, d4, d5⟩, dfr, dlt⟩ := cells6 HBK2.out
              have hfz4 := dfr 4
              have hfz5 := dfr 5
              obtain ⟨F, hF⟩ : ∃ F, F = f ++ g.map (shiftN f.length) := ⟨_, rfl⟩
              have HFL : Hid (F.length = f.length + g.length) := Lib.hid (by rw [hF]; simp)
              obtain ⟨m, hm⟩ : ∃ m : Nd, m = ⟨o, i, e, k0, (f.length : Int) - 1, (f.length : Int) + g.length - 1⟩ := ⟨_, rfl⟩
              have HMX := Lib.hid (show m.cells = [.int .i64 o, .int .i64 i, .int .i64 e, .int .i64 k0, .int .i64 ((f.length : Int) - 1), .int .i64 ((f.length : Int) + g.length - 1)] by rw [hm]; rfl)
              have HMO : Hid (m.ok) := Lib.hid (by obtain ⟨x1, x2, x3, x4, x5, x6⟩ := HXO.out; rw [hm]; exact ⟨x1, x2, x3, x4, ⟨by show (-9223372036854775808 : Int) ≤ (f.length : Int) - 1; omega, by show (f.length : Int) - 1 ≤ 9223372036854775807; omega⟩, ⟨by show (-9223372036854775808 : Int) ≤ (f.length : Int) + g.length - 1; omega, by show (f.length : Int) + g.length - 1 ≤ 9223372036854775807; omega⟩⟩)
              have HOKF : Hid (∀ n ∈ F, n.ok) := Lib.hid (fun n hn => by
                rw [hF] at hn
                rcases List.mem_append.1 hn with hn | hn
                · exact H.out.2 n hn
                · obtain ⟨n', hn', rfl⟩ := List.mem_map.1 hn
                  obtain ⟨kk, hkk⟩ := List.getElem?_of_mem hn'
                  obtain ⟨x1, x2, x3, x4, x5, x6⟩ := HG.out.2 n' hn'
                  have hlk := (List.getElem?_eq_some_iff.1 hkk).1
                  have hxy := HWG.out kk n' hkk
                  refine ⟨x1, x2, x3, x4, ?_, ?_⟩
                  · show i64ok (bif hasX n'.op then n'.x + f.length else n'.x)
                    cases hh : hasX n'.op
                    · exact x5
                    · have := hxy.1 hh
                      exact ⟨by show (-9223372036854775808 : Int) ≤ n'.x + f.length; omega, by show n'.x + f.length ≤ (9223372036854775807 : Int); omega⟩
                  · show i64ok (bif hasY n'.op then n'.y + f.length else n'.y)
                    cases hh : hasY n'.op
                    · exact x6
                    · have := hxy.2 hh
                      exact ⟨by show (-9223372036854775808 : Int) ≤ n'.y + f.length; omega, by show n'.y + f.length ≤ (9223372036854775807 : Int); omega⟩)
              have HU : Hid (nodeErr m ((f.length : Int) + g.length) = 0 ∧ Wf (F ++ [m]) ∧ shortN (F ++ [m]) = buildN ⟨o, i, e, k0, p, q⟩ [f, g]) := Lib.hid (by rw [hm, hF]; exact HUN.out)
              rw [← hF] at HROW2
              obtain ⟨xs, hxs⟩ : ∃ xs, xs = F.flatMap Nd.cells := ⟨_, rfl⟩
              rw [← hxs] at HROW2
              have HXS := Lib.hid hxs
              have HN0 := Lib.hid HUN.out.1
              clear hxs hm hF HUN
              have hc3 : f.length + g.length + 1 ≤ maxLen := by unfold maxLen; omega
              have hc4 : (f.length + g.length + 1) * 48 ≤ 140737488355328 := by omega
              go_wp2_with fail
              refine (refNode_any ⟨o, i, e, k0, (f.length : Int) - 1, (f.length : Int) + g.length - 1⟩ _ _).mono ?_
              rintro e1 w3 ⟨rfl, hb⟩
              rw [HN0.out]
              have HX3 := Lib.hid (Ext.trans (Ext.setCell (Ext.setCell hext (p := ⟨w.heap.size, 4, none⟩) (Nat.le_refl _) (.int .i64 ((f.length : Int) - 1))) (p := ⟨w.heap.size, 5, none⟩) (Nat.le_refl _) (.int .i64 ((f.length : Int) + g.length - 1))) hb)
              have HBX3 : Hid (w3.heap[w.heap.size]? = some (.cells #[.int .i64 o, .int .i64 i, .int .i64 e, .int .i64 k0, .int .i64 ((f.length : Int) - 1), .int .i64 ((f.length : Int) + g.length - 1)] 53 (0, 0))) := Lib.hid ((hb.block (by simp [World.setCell]; exact dlt)).trans (by simp only [World.setCell, Array.getElem?_modify, HBK2.out, if_true, Option.map_some]; simp))
              have HROW3 := Lib.hid (row_ext (ownsRow_setCell_other (a := ⟨w.heap.size, 5, none⟩) (ownsRow_setCell_other (a := ⟨w.heap.size, 4, none⟩) HROW2.out HNE.out (.int .i64 ((f.length : Int) - 1))) HNE.out (.int .i64 ((f.length : Int) + g.length - 1))) hb)
              have hc5 : ∀ X, w.heap.size + 1 ≤ (w3.alloc X).heap.size := fun X => by have := HX3.out.size; simp; omega
              clear hb d0 d1 d2 d3 d4 d5 dfr dlt hfz4 hfz5
              obtain ⟨⟨d0, d1, d2, d3, d4, d5⟩, dfr, dlt⟩ := cells6 HBX3.out
              go_wp2_with (at_builtin; refine wpList_append_own_at _ rfl _ _ 22 rfl (w.heap.size + 1) 53 i0 Nd.zero.val 6 48 Tryz.underlying22 hi0 hz0' hz1' hz2' rfl (by decide) _ _ _ rfl (row_ext HROW3.out ((Ext.refl _).alloc _)) _ 1 1 [.int .i64 o, .int .i64 i, .int .i64 e, .int .i64 k0, .int .i64 ((f.length : Int) - 1), .int .i64 ((f.length : Int) + g.length - 1)] rfl rfl (row_new_at _ _ _ rfl) (by rw [← HMX.out]; exact node_cells m) hc3 hc4 (hc5 _) ?_)
              intro v' w4 hown4 hgrow4 _ hat4
              have HROW4 : Hid (w4.ownsRow (w.heap.size + 1) 53 6 v' (F ++ [m]).length ((F ++ [m]).flatMap Nd.cells)) := Lib.hid (by rw [HXS.out, ← HMX.out, ← HFL.out] at hown4; simpa using hown4)
              have HX4 := Lib.hid ((Ext.alloc HX3.out _).grown hgrow4 (fun g hg => by have := (HROW3.out.lt g hg).1; omega))
              obtain ⟨A4, c4, rfl⟩ := slice_of_row hown4
              have HFM : Hid (Fml w4 (.slice A4 (f.length + g.length + 1) c4) (F ++ [m])) := Lib.hid ⟨nds_of_row HROW4.out, fun n hn => by
                rcases List.mem_append.1 hn with hn | hn
                · exact HOKF.out n hn
                · rw [List.mem_singleton.1 hn]; exact HMO.out⟩
              clear hown4 hgrow4 hat4
              go_wp2_with fail
              refine (short_any _ (F ++ [m]) _ HFM.out HU.out.2.1 (by simp) (by have := HFL.out; simp; omega)).mono ?_
              rintro e1 w5 ⟨u5, rfl, hm5⟩
              rw [HU.out.2.2] at hm5
              have HM5 := Lib.hid (hm5.before HX4.out)
              obtain ⟨A8, c8, rfl⟩ := slice_of_row hm5.1
              clear hm5
              go_wp2_with fail
              go_ret
              exact ⟨_, rfl, HM5.out⟩
    · have HC := Lib.hid hc
      have HB0 := Lib.hid (build_bad2 (n := x) (f := f) (.inr hcg))
      have hcb : (check g != 0) = true := by simpa using hcg
      obtain ⟨o, i, e, k0, p, q⟩ := x
      unfold Nd.val
      clear hc hcg hx hxo h1 h2
      go_enter Tryz.func116, Tryz.ntmps116
      go_wp2_with fail
      refine (refCheck_any _ f _ (H.out.1.ext ((Ext.refl _).alloc _))).mono ?_
      rintro e1 w1 ⟨rfl, hb⟩
      rw [HC.out]
      have HX1 := Lib.hid (Ext.trans ((Ext.refl w).alloc _) hb)
      clear hb
      go_wp2_with fail
      refine (refCheck_any _ g _ (HG.out.1.ext HX1.out)).mono ?_
      rintro e1 w2 ⟨rfl, hb⟩
      have HX2 := Lib.hid (Ext.trans HX1.out hb)
      clear hb
      go_wp2_with fail
      go_ret
      exact ⟨_, rfl, by rw [HB0.out]; exact (Made.none_ _).after HX2.out⟩
  · have HB0 := Lib.hid (build_bad2 (n := x) (g := g) (.inl hc))
    have hcb : (check f != 0) = true := by simpa using hc
    obtain ⟨o, i, e, k0, p, q⟩ := x
    unfold Nd.val
    clear hc hx hxo h1 h2
    go_enter Tryz.func116, Tryz.ntmps116
    go_wp2_with fail
    refine (refCheck_any _ f _ (H.out.1.ext ((Ext.refl _).alloc _))).mono ?_
    rintro e1 w1 ⟨rfl, hb⟩
    have HX1 := Lib.hid (Ext.trans ((Ext.refl w).alloc _) hb)
    clear hb
    go_wp2_with fail
    go_ret
    exact ⟨_, rfl, by rw [HB0.out]; exact (Made.none_ _).after HX1.out⟩
end Go.Proofs.YtfcmdiigfgbgbaaGreat

/- The reference's constructors by name; a node with other operands. -/

namespace Go.Proofs.YtfcmdiigfgbgbaaGreat
open Go.RowKit

theorem ok0 (k : Int) (h0 : 0 ≤ k) (h1 : k ≤ 1000) : (⟨k, 0, 0, 0, 0, 0⟩ : Nd).ok := small_ok (i64_small h0 h1) (i64_small (by omega) (by omega)) (i64_small (by omega) (by omega)) (i64_small (by omega) (by omega)) (i64_small (by omega) (by omega)) (i64_small (by omega) (by omega))
theorem ok_i (k i : Int) (h0 : 0 ≤ k) (h1 : k ≤ 1000) (hi : i64ok i) : (⟨k, i, 0, 0, 0, 0⟩ : Nd).ok := small_ok (i64_small h0 h1) hi (i64_small (by omega) (by omega)) (i64_small (by omega) (by omega)) (i64_small (by omega) (by omega)) (i64_small (by omega) (by omega))
set_option maxHeartbeats 400000 in
theorem rTrue_any (w : World) :
    Calls Tryz.prog 119 #[] w fun e w' => ∃ u, e = .returned u ∧ Made w w' u trueN := by
  go_enter Tryz.func119, Tryz.ntmps119
  go_wp2_with fail
  refine (one_any ⟨1, 0, 0, 0, 0, 0⟩ _ (head0 1 (by omega)) (ok0 1 (by omega) (by omega)) rfl rfl).mono ?_
  rintro e w1 ⟨u, rfl, hm⟩
  rw [← true_list] at hm
  have HM := Lib.hid hm
  clear hm
  go_wp2_with fail
  go_ret
  exact ⟨_, rfl, HM.out⟩
set_option maxHeartbeats 400000 in
theorem rFalse_any (w : World) :
    Calls Tryz.prog 118 #[] w fun e w' => ∃ u, e = .returned u ∧ Made w w' u falseN := by
  go_enter Tryz.func118, Tryz.ntmps118
  go_wp2_with fail
  refine (one_any ⟨2, 0, 0, 0, 0, 0⟩ _ (head0 2 (by omega)) (ok0 2 (by omega) (by omega)) rfl rfl).mono ?_
  rintro e w1 ⟨u, rfl, hm⟩
  rw [← false_list] at hm
  have HM := Lib.hid hm
  clear hm
  go_wp2_with fail
  go_ret
  exact ⟨_, rfl, HM.out⟩
set_option maxHeartbeats 400000 in
theorem rNot_any (v : Value) (f : List Nd) (w : World) (h : Fml w v f) :
    Calls Tryz.prog 64 #[v] w fun e w' => ∃ u, e = .returned u ∧ Made w w' u (notN f) := by
  have H := Lib.hid h
  obtain ⟨A1, c1, rfl, _⟩ := fml_slice h
  clear h
  go_enter Tryz.func64, Tryz.ntmps64
  go_wp2_with fail
  refine (unary_any ⟨4, 0, 0, 0, 0, 0⟩ _ f _ (head0 4 (by omega)) (ok0 4 (by omega) (by omega)) rfl rfl H.out).mono ?_
  rintro e w1 ⟨u, rfl, hm⟩
  have HM := Lib.hid hm
  clear hm
  go_wp2_with fail
  go_ret
  exact ⟨_, rfl, HM.out⟩
set_option maxHeartbeats 400000 in
theorem rAnd_any (v1 v2 : Value) (f g : List Nd) (w : World) (h1 : Fml w v1 f) (h2 : Fml w v2 g) :
    Calls Tryz.prog 101 #[v1, v2] w fun e w' => ∃ u, e = .returned u ∧ Made w w' u (andN f g) := by
  have H1 := Lib.hid h1
  have H2 := Lib.hid h2
  obtain ⟨A1, c1, rfl, _⟩ := fml_slice h1
  obtain ⟨A2, c2, rfl, _⟩ := fml_slice h2
  clear h1 h2
  go_enter Tryz.func101, Tryz.ntmps101
  go_wp2_with fail
  refine (binary_any ⟨5, 0, 0, 0, 0, 0⟩ _ _ f g _ (head0 5 (by omega)) (ok0 5 (by omega) (by omega)) rfl rfl H1.out H2.out).mono ?_
  rintro e w1 ⟨u, rfl, hm⟩
  have HM := Lib.hid hm
  clear hm
  go_wp2_with fail
  go_ret
  exact ⟨_, rfl, HM.out⟩
set_option maxHeartbeats 400000 in
theorem rOr_any (v1 v2 : Value) (f g : List Nd) (w : World) (h1 : Fml w v1 f) (h2 : Fml w v2 g) :
    Calls Tryz.prog 100 #[v1, v2] w fun e w' => ∃ u, e = .returned u ∧ Made w w' u (orN f g) := by
  have H1 := Lib.hid h1
  have H2 := Lib.hid h2
  obtain ⟨A1, c1, rfl, _⟩ := fml_slice h1
  obtain ⟨A2, c2, rfl, _⟩ := fml_slice h2
  clear h1 h2
  go_enter Tryz.func100, Tryz.ntmps100
  go_wp2_with fail
  refine (binary_any ⟨6, 0, 0, 0, 0, 0⟩ _ _ f g _ (head0 6 (by omega)) (ok0 6 (by omega) (by omega)) rfl rfl H1.out H2.out).mono ?_
  rintro e w1 ⟨u, rfl, hm⟩
  have HM := Lib.hid hm
  clear hm
  go_wp2_with fail
  go_ret
  exact ⟨_, rfl, HM.out⟩
set_option maxHeartbeats 400000 in
theorem rKnow_any (a : Int) (ha : i64ok a) (hh : headOk ⟨9, a, 0, 0, 0, 0⟩) (v : Value) (f : List Nd) (w : World) (h : Fml w v f) :
    Calls Tryz.prog 121 #[.int .i64 a, v] w fun e w' => ∃ u, e = .returned u ∧ Made w w' u (knowN a f) := by
  have H := Lib.hid h
  have HH := Lib.hid hh
  have HA := Lib.hid ha
  obtain ⟨A1, c1, rfl, _⟩ := fml_slice h
  clear h hh ha
  go_enter Tryz.func121, Tryz.ntmps121
  go_wp2_with fail
  refine (unary_any ⟨9, a, 0, 0, 0, 0⟩ _ f _ HH.out (ok_i 9 a (by omega) (by omega) HA.out) rfl rfl H.out).mono ?_
  rintro e w1 ⟨u, rfl, hm⟩
  have HM := Lib.hid hm
  clear hm
  go_wp2_with fail
  go_ret
  exact ⟨_, rfl, HM.out⟩
set_option maxHeartbeats 400000 in
theorem rPoss_any (a : Int) (ha : i64ok a) (hh : headOk ⟨10, a, 0, 0, 0, 0⟩) (v : Value) (f : List Nd) (w : World) (h : Fml w v f) :
    Calls Tryz.prog 120 #[.int .i64 a, v] w fun e w' => ∃ u, e = .returned u ∧ Made w w' u (possN a f) := by
  have H := Lib.hid h
  have HH := Lib.hid hh
  have HA := Lib.hid ha
  obtain ⟨A1, c1, rfl, _⟩ := fml_slice h
  clear h hh ha
  go_enter Tryz.func120, Tryz.ntmps120
  go_wp2_with fail
  refine (unary_any ⟨10, a, 0, 0, 0, 0⟩ _ f _ HH.out (ok_i 10 a (by omega) (by omega) HA.out) rfl rfl H.out).mono ?_
  rintro e w1 ⟨u, rfl, hm⟩
  have HM := Lib.hid hm
  clear hm
  go_wp2_with fail
  go_ret
  exact ⟨_, rfl, HM.out⟩
set_option maxRecDepth 100000 in
set_option maxHeartbeats 2000000 in
theorem rebuild_any (x : Nd) (v1 v2 : Value) (f g : List Nd) (w : World) (hx : headOk x) (hxo : x.ok) (h1 : Fml w v1 f) (h2 : Fml w v2 g) :
    Calls Tryz.prog 102 #[x.val, v1, v2] w fun e w' => ∃ u, e = .returned u ∧ Made w w' u (rebuildN x f g) := by
  have H1 := Lib.hid h1
  have H2 := Lib.hid h2
  obtain ⟨A1, c1, rfl, _⟩ := fml_slice h1
  obtain ⟨A2, c2, rfl, _⟩ := fml_slice h2
  have HX := Lib.hid (head_zero hx)
  have HXO : Hid (({ x with x := 0, y := 0 } : Nd).ok) := Lib.hid (by obtain ⟨x1, x2, x3, x4, x5, x6⟩ := hxo; exact ⟨x1, x2, x3, x4, i64_small (a := 0) (by omega) (by omega), i64_small (a := 0) (by omega) (by omega)⟩)
  have HCS := Lib.hid (xy_cases x.op)
  clear h1 h2 hx hxo
  obtain ⟨o, i, e, k0, p, q⟩ := x
  unfold Nd.val
  have X0 : Hid (Ext w (w.alloc (.cells #[.int .i64 o, .int .i64 i, .int .i64 e, .int .i64 k0, .int .i64 0, .int .i64 0] 53))) := Lib.hid ((Ext.refl _).alloc _)
  rcases HCS.out with ⟨hux, huy⟩ | ⟨hux, huy⟩ | ⟨hux, huy⟩
  · have HUX := Lib.hid hux; have HUY := Lib.hid huy
    have HE : Hid (rebuildN ⟨o, i, e, k0, p, q⟩ f g = [⟨o, i, e, k0, 0, 0⟩]) := Lib.hid (by unfold rebuildN; simp only [hux, huy]; rfl)
    clear hux huy HCS
    go_enter Tryz.func102, Tryz.ntmps102
    go_wp2_with (first | (go_at_call 80; refine (usesX_as HUX.out _).mono ?_; rintro e1 w5 ⟨rfl, rfl⟩) | (go_at_call 81; refine (usesY_as HUY.out _).mono ?_; rintro e1 w5 ⟨rfl, rfl⟩))
    refine (one_any ⟨o, i, e, k0, 0, 0⟩ _ HX.out HXO.out HUX.out HUY.out).mono ?_
    rintro e1 w1 ⟨u, rfl, hm⟩
    have HM := Lib.hid (hm.before X0.out)
    clear hm
    go_wp2_with fail
    go_ret
    rw [HE.out]
    exact ⟨_, rfl, HM.out⟩
  · have HUX := Lib.hid hux; have HUY := Lib.hid huy
    have HE : Hid (rebuildN ⟨o, i, e, k0, p, q⟩ f g = buildN ⟨o, i, e, k0, 0, 0⟩ [f]) := Lib.hid (by unfold rebuildN; simp only [hux, huy]; rfl)
    clear hux huy HCS
    go_enter Tryz.func102, Tryz.ntmps102
    go_wp2_with (first | (go_at_call 80; refine (usesX_as HUX.out _).mono ?_; rintro e1 w5 ⟨rfl, rfl⟩) | (go_at_call 81; refine (usesY_as HUY.out _).mono ?_; rintro e1 w5 ⟨rfl, rfl⟩))
    refine (unary_any ⟨o, i, e, k0, 0, 0⟩ _ f _ HX.out HXO.out HUX.out HUY.out (H1.out.ext X0.out)).mono ?_
    rintro e1 w1 ⟨u, rfl, hm⟩
    have HM := Lib.hid (hm.before X0.out)
    clear hm
    go_wp2_with fail
    go_ret
    rw [HE.out]
    exact ⟨_, rfl, HM.out⟩
  · have HUX := Lib.hid hux; have HUY := Lib.hid huy
    have HE : Hid (rebuildN ⟨o, i, e, k0, p, q⟩ f g = buildN ⟨o, i, e, k0, 0, 0⟩ [f, g]) := Lib.hid (by unfold rebuildN; simp only [hux, huy]; rfl)
    clear hux huy HCS
    go_enter Tryz.func102, Tryz.ntmps102
    go_wp2_with (first | (go_at_call 80; refine (usesX_as HUX.out _).mono ?_; rintro e1 w5 ⟨rfl, rfl⟩) | (go_at_call 81; refine (usesY_as HUY.out _).mono ?_; rintro e1 w5 ⟨rfl, rfl⟩))
    refine (binary_any ⟨o, i, e, k0, 0, 0⟩ _ _ f g _ HX.out HXO.out HUX.out HUY.out (H1.out.ext X0.out) (H2.out.ext X0.out)).mono ?_
    rintro e1 w1 ⟨u, rfl, hm⟩
    have HM := Lib.hid (hm.before X0.out)
    clear hm
    go_wp2_with fail
    go_ret
    rw [HE.out]
    exact ⟨_, rfl, HM.out⟩
end Go.Proofs.YtfcmdiigfgbgbaaGreat
