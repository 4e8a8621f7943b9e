/- types' table: the walk. -/
import Derived.Test.YtbfeodammikajaaGreatS14
import Derived.Test.YtbfeodammikajaaGreatS09
import Derived.Test.YtbfeodammikajaaGreatS12

namespace Go.Proofs.YtbfeodammikajaaGreat
open Go.RowKit

theorem place_lt12 {base : List (List Nd)} (h : base.length ≤ 12) (g : List Nd) : placeN base g < 64 := by
  unfold placeN
  cases hf : base.findIdx? fun f => decide (f = g) with
  | none => show (-1 : Int) < 64; decide
  | some j =>
    have := (List.findIdx?_eq_some_iff_findIdx_eq.1 hf).1
    show (j : Int) < 64
    omega
theorem places_lt {base : List (List Nd)} (h : base.length ≤ 12) (f : List Nd) : ∀ z ∈ placesN base f, z < 64 := by
  intro z hz
  unfold placesN at hz
  obtain ⟨i, _, rfl⟩ := List.mem_map.1 hz
  cases isBase (f.getD i Nd.zero)
  · show (-1 : Int) < 64; decide
  · exact place_lt12 h _
theorem range_map_snoc {α : Type} (g : Nat → α) (k : Nat) : (List.range (k + 1)).map g = (List.range k).map g ++ [g k] := by
  rw [List.range_succ, List.map_append]
  rfl
structure TabI (w1 wr : World) (g B : Nat) (vf ui : Value) (h : Nat → Bool) (m k : Nat) : Prop where
  ext : Ext w1 wr
  box : wr.heap[B]? = some (.cells #[vf, ui] 140 (0, 0))
  row : BRow w1.heap.size wr g ((List.range k).map h ++ List.replicate (m - k) false)
theorem TabI.store {w1 wr W : World} {g B : Nat} {vf ui : Value} {h : Nat → Bool} {m k : Nat} (i : TabI w1 wr g B vf ui h m k) (hk : k < m) (hB : B ≠ g) (he : Ext wr W) {b : Bool} (hb : h k = b) : TabI w1 (W.setCell ⟨g, k, none⟩ (.bool b)) g B vf ui h m (k + 1) := by
  have hg := i.row.lt
  refine ⟨(i.ext.trans he).setCell hg.1 _, ?_, ?_⟩
  · rw [Below.heap_setCell _ _ _ _ hB]
    exact (he.block (lt_heap i.box)).trans i.box
  · have := ((i.row.ext he).set k b).1
    rw [show m - k = (m - (k + 1)) + 1 by omega, pre_set (by simp), ← hb, ← range_map_snoc] at this
    rw [← hb]
    exact this
set_option maxRecDepth 100000 in
set_option maxHeartbeats 16000000 in
theorem table_any (b : Nat) (lg : Int) (base : List (List Nd)) (root : List Bool) (ks : List Kn) (cs : List Cm) (alive : List Bool) (vf : Value) (f : List Nd) (w : World)
    (hE : Eng w b lg base root ks cs alive) (hl : base.length ≤ 12) (hm : alive.length = 2 ^ base.length) (hf : Fml w vf f) (hc : check f = 0) :
    Calls Tryz.prog 71 #[.pointer (some ⟨b, 0, none⟩), vf] w fun e w' => ∃ g, e = .returned (.slice (some ⟨g, 0, none⟩) (2 ^ base.length) (2 ^ base.length)) ∧ Ext w w' ∧ BRow w.heap.size w' g (tabN base f) := by
  obtain ⟨Ab, cb, Ar, cr, Ak, ck, Ac, cc, Aa, ca, d0, d1, d2, d3, d4, d5, hbl, hbase, _, _, _, hal⟩ := hE.cells
  have HBASE := Lib.hid hbase
  have HF := Lib.hid hf
  have HC := Lib.hid hc
  have hp2 := pow12 hl
  have hlp := check_parts hc
  obtain ⟨m, hmm⟩ : ∃ m, m = 2 ^ base.length := ⟨_, rfl⟩
  have HMM := Lib.hid hmm
  rw [← hmm] at hm hp2 ⊢
  obtain ⟨Af, cf, rfl, _⟩ := fml_slice hf
  obtain ⟨iB, hiB, hzB0, hzB1, hzB2⟩ := info_parts tInfoB
  have HP1 := Lib.hid hlp.1
  have HP2 := Lib.hid hlp.2.1
  have hac := hal.1
  have hca := hal.2.1
  unfold maxLen at hca
  rw [hm] at d5 hac
  have HLEN := Lib.hid hl
  have HM := Lib.hid hm
  clear hE hbase hal hf hc hmm hlp hm hl d0 d2 d3 d4
  go_enter Tryz.func71, Tryz.ntmps71
  go_wp2_with fail
  refine (circuitOf_any _ _ base f _ HBASE.out HF.out HP2.out).mono ?_
  rintro e w1 ⟨ui, rfl, hx1, hi1⟩
  have HX1 := Lib.hid hx1
  have HI1 := Lib.hid hi1
  obtain ⟨Ai, ci, rfl, _⟩ := hi1
  have d5' := (hx1.cell (p := ⟨b, 5, none⟩) hbl).trans d5
  have hbl1 : b < w1.heap.size := Nat.lt_of_lt_of_le hbl hx1.size
  clear hx1 d1 d5
  go_wp2_with (refine wpList_make_full _ rfl _ _ 61 rfl (w1.heap.size + 1) 4 iB (.bool false) 1 Tryz.underlying61 hiB hzB0 hzB1 .i64 .i64 (m : Int) (m : Int) m rfl rfl rfl rfl (by rw [hzB2]; omega) (by unfold maxLen; omega) (by simp) ?_)
  intro W1 hrow1 hgr1
  have HXW := Lib.hid (show Ext w1 W1 from ((Ext.refl w1).alloc (.cells #[.slice Af f.length cf, .slice Ai (placesN base f).length ci] 140)).grown hgr1 (fun k e => by cases e))
  have HBX := Lib.hid (show W1.heap[w1.heap.size]? = some (.cells #[.slice Af f.length cf, .slice Ai (placesN base f).length ci] 140 (0, 0)) from (hgr1.block _ (by simp) (fun e => by cases e)).trans (heap_alloc_new _ _))
  have HT := Lib.hid (show BRow (w1.heap.size + 1) W1 (w1.heap.size + 1) (List.replicate m false) by
    have h1 := hrow1
    rw [made_false'] at h1
    unfold BRow
    simp only [List.length_replicate]
    exact h1)
  clear hrow1 hgr1 d5'
  have HTI := Lib.hid (show TabI w1 W1 (w1.heap.size + 1) w1.heap.size (.slice Af f.length cf) (.slice Ai (placesN base f).length ci) (atN f (placesN base f)) m 0 from ⟨HXW.out, HBX.out, by rw [List.range_zero, List.map_nil, List.nil_append, Nat.sub_zero]; exact HT.out.base_ (Nat.le_succ _)⟩)
  go_wp2_with fail
  go_loopw [22] (fun v wr => ∃ k : Nat, v = .int .i64 (k : Int) ∧ k ≤ m ∧ Hid (TabI w1 wr (w1.heap.size + 1) w1.heap.size (.slice Af f.length cf) (.slice Ai (placesN base f).length ci) (atN f (placesN base f)) m k)) (fun v _ => m - (intOf v).toNat)
  case atStart => exact ⟨0, rfl, Nat.zero_le _, HTI⟩
  case round =>
    obtain ⟨k, rfl, hk, HI⟩ := hrel
    obtain ⟨e0, e1, ef, el⟩ := cells2 HI.out.box
    by_cases hlt2 : k < m
    · have hk1 : (k : Int) < (m : Int) := by omega
      have hgl : w1.heap.size + 1 < wr.heap.size := HI.out.row.lt.2
      have gfr := HI.out.row.frozen k
      have gc : wr.cell? ⟨w1.heap.size + 1, k, none⟩ = some (.bool false) := HI.out.row.cell (by rw [List.getElem?_append_right (by simp), List.length_map, List.length_range, Nat.sub_self, List.getElem?_replicate, if_pos (by omega)])
      obtain ⟨wq, hwq⟩ : ∃ v, v = wr := ⟨_, rfl⟩
      subst hwq
      go_wp2_with fail
      refine (at_any _ _ f (placesN base f) k _ (by omega) (HF.out.ext (HX1.out.trans HI.out.ext)) (HI1.out.ext HI.out.ext) (places_len _ _) (places_lt HLEN.out f) (check_wf HC.out) HP1.out HP2.out).mono ?_
      rintro e w2 ⟨rfl, hx2⟩
      have HX2 := Lib.hid hx2
      have gfr2 := (hx2.frozen (p := ⟨w1.heap.size + 1, k, none⟩) hgl).trans gfr
      have gc2 := (hx2.cell (p := ⟨w1.heap.size + 1, k, none⟩) hgl).trans gc
      have hgl2 : w1.heap.size + 1 < w2.heap.size := Nat.lt_of_lt_of_le hgl hx2.size
      clear hx2 gfr gc
      go_wp2_with fail
      go_roundw
      case rel => exact ⟨k + 1, by go_num, by omega, Lib.hid (HI.out.store hlt2 (by omega) HX2.out rfl)⟩
      case measure => simp [intOf]; omega
    · obtain rfl : m = k := by omega
      go_wp2_with fail
      go_ret
      refine ⟨_, rfl, HX1.out.trans HI.out.ext, ?_⟩
      have h1 := HI.out.row.base_ (b' := w.heap.size) HX1.out.size
      rw [Nat.sub_self, List.replicate_zero, List.append_nil] at h1
      unfold tabN
      rw [← HMM.out]
      exact h1
end Go.Proofs.YtbfeodammikajaaGreat

/- What the reference's constructors of formulas come to: the lists that the program's constructors come to. -/

namespace Go.Proofs.YtbfeodammikajaaGreat

/-- The canonical list of a tree, or nothing if it is too long. -/
def shortT (t : Tr) : List Nd := bif decide (200 < (canon t).length) then [] else canon t
theorem short_fit {t : Tr} (h : (canon t).length ≤ 200) : shortT t = canon t := by
  unfold shortT
  rw [decide_eq_false (by omega)]
  rfl
theorem short_long {t : Tr} (h : 200 < (canon t).length) : shortT t = [] := by
  unfold shortT
  rw [decide_eq_true h]
  rfl
theorem check_nil' : check [] ≠ 0 := by decide
/-- The canonical list of a list's last node, or nothing if it is too long. -/
def shortN (l : List Nd) : List Nd := bif decide (200 < (finN l (l.length - 1) []).1.length) then [] else (finN l (l.length - 1) []).1
theorem shortN_tree {l : List Nd} (hw : Wf l) (h0 : 0 < l.length) : shortN l = shortT (treeOf l) := by
  unfold shortN shortT
  rw [finN_ins hw _ _ (by omega)]
  rfl
theorem map_shift0 (f : List Nd) : f.map (shiftN 0) = f := by
  rw [show shiftN 0 = id from by funext m; unfold shiftN; cases hasX m.op <;> cases hasY m.op <;> simp]
  simp
/-- A node with one operand. -/
theorem build_oneS {n : Nd} {f : List Nd} (hf : check f = 0) (h1 : hasX n.op = true) (h2 : hasY n.op = false) (hh : headOk n) : buildN n [f] = shortT (.one n.head (treeOf f)) := by
  obtain ⟨cw, cl, cp, _⟩ := compactN_props hf
  unfold buildN
  have e0 : [f].any (fun o => check o != 0) = false := by simp [hf]
  rw [e0, cond_false]
  have eL : layout [f] 0 [] n = (compactN f, { n with x := ((compactN f).length : Int) - 1 }) := by
    simp only [layout, setOp, List.nil_append, List.length_nil, map_shift0]
    rfl
  rw [eL]
  generalize hm : ({ n with x := ((compactN f).length : Int) - 1 } : Nd) = m
  have mo : m.op = n.op := by rw [← hm]
  have mx : m.x = ((compactN f).length : Int) - 1 := by rw [← hm]
  have mh : m.head = n.head := by
    rw [← hm]
    unfold Nd.head Nd.with_
    simp [h1, h2]
  have hmh : headOk m := by
    rw [← hm]
    exact ⟨hh.1, hh.2.1, hh.2.2.1, fun h => by (rw [h1] at h; cases h), hh.2.2.2.2⟩
  have herr : nodeErr m (compactN f).length = 0 := hmh.err (fun _ => by omega) (fun h => by rw [mo, h2] at h; cases h)
  have hw : Wf (compactN f ++ [m]) := wf_snoc cw (fun _ => by omega) (fun h => by rw [mo, h2] at h; cases h)
  have htr : tr (compactN f ++ [m]) (compactN f).length = .one n.head (treeOf f) := by
    rw [tr_eq hw (n := m) (by simp)]
    unfold mkTr
    rw [mo, h1, h2, mh, mx]
    rw [show (((compactN f).length : Int) - 1).toNat = (compactN f).length - 1 by omega, tr_prefix cw hw (List.prefix_append _ _) _ (by omega)]
    rw [show tr (compactN f) ((compactN f).length - 1) = treeOf (compactN f) from rfl, treeOf_compact hf]
    rfl
  unfold joinN
  have hfin : (finN (compactN f ++ [m]) (compactN f).length []).1 = canon (.one n.head (treeOf f)) := by
    rw [finN_ins hw _ _ (by simp), htr]; rfl
  simp only [herr, hfin]
  rfl
/-- The same, as the reference writes it. -/
theorem un_short {n : Nd} {f : List Nd} (hf : check f = 0) (h1 : hasX n.op = true) (h2 : hasY n.op = false) (hh : headOk n) {m : Nd} (hm : m = { n with x := (f.length : Int) - 1 }) : nodeErr m f.length = 0 ∧ Wf (f ++ [m]) ∧ shortN (f ++ [m]) = buildN n [f] := by
  have fw := check_wf hf
  have fp := (check_parts hf).1
  have mo : m.op = n.op := by rw [hm]
  have mx : m.x = (f.length : Int) - 1 := by rw [hm]
  have mh : m.head = n.head := by
    rw [hm]
    unfold Nd.head Nd.with_
    simp [h1, h2]
  have hmh : headOk m := by
    rw [hm]
    exact ⟨hh.1, hh.2.1, hh.2.2.1, fun h => by (rw [h1] at h; cases h), hh.2.2.2.2⟩
  have hw : Wf (f ++ [m]) := wf_snoc fw (fun _ => by omega) (fun h => by rw [mo, h2] at h; cases h)
  refine ⟨hmh.err (fun _ => by omega) (fun h => by rw [mo, h2] at h; cases h), hw, ?_⟩
  rw [shortN_tree hw (by simp), build_oneS hf h1 h2 hh]
  congr 1
  unfold treeOf
  rw [List.length_append, List.length_singleton, Nat.add_sub_cancel, tr_eq hw (n := m) (by simp)]
  unfold mkTr
  rw [mo, h1, h2, mh, mx]
  rw [show ((f.length : Int) - 1).toNat = f.length - 1 by omega, tr_prefix fw hw (List.prefix_append _ _) _ (by omega)]
  rfl
/-- A node with two operands. -/
theorem build_twoS {n : Nd} {f g : List Nd} (hf : check f = 0) (hg : check g = 0) (h1 : hasX n.op = true) (h2 : hasY n.op = true) (hh : headOk n) : buildN n [f, g] = shortT (.two n.head (treeOf f) (treeOf g)) := by
  obtain ⟨cw, cl, cp, _⟩ := compactN_props hf
  obtain ⟨dw, dl, dp, _⟩ := compactN_props hg
  unfold buildN
  have e0 : [f, g].any (fun o => check o != 0) = false := by simp [hf, hg]
  rw [e0, cond_false]
  have eL : layout [f, g] 0 [] n = (compactN f ++ (compactN g).map (shiftN (compactN f).length), { n with x := ((compactN f).length : Int) - 1, y := ((compactN f).length : Int) + (compactN g).length - 1 }) := by
    simp only [layout, setOp, List.nil_append, List.length_nil, map_shift0]
    simp
  rw [eL]
  have hFw := shift_wf cw dw
  have hFl : (compactN f ++ (compactN g).map (shiftN (compactN f).length)).length = (compactN f).length + (compactN g).length := by simp
  have hF1 : tr (compactN f ++ (compactN g).map (shiftN (compactN f).length)) ((compactN f).length - 1) = treeOf f := by
    rw [tr_prefix cw hFw (List.prefix_append _ _) _ (by omega), show tr (compactN f) ((compactN f).length - 1) = treeOf (compactN f) from rfl, treeOf_compact hf]
  have hF2 : tr (compactN f ++ (compactN g).map (shiftN (compactN f).length)) ((compactN f).length + (compactN g).length - 1) = treeOf g := by
    rw [show (compactN f).length + (compactN g).length - 1 = (compactN f).length + ((compactN g).length - 1) by omega, tr_shift cw dw _ (by omega), show tr (compactN g) ((compactN g).length - 1) = treeOf (compactN g) from rfl, treeOf_compact hg]
  generalize compactN f ++ (compactN g).map (shiftN (compactN f).length) = F at *
  generalize hm : ({ n with x := ((compactN f).length : Int) - 1, y := ((compactN f).length : Int) + (compactN g).length - 1 } : Nd) = m
  have mo : m.op = n.op := by rw [← hm]
  have mx : m.x = ((compactN f).length : Int) - 1 := by rw [← hm]
  have my : m.y = ((compactN f).length : Int) + (compactN g).length - 1 := by rw [← hm]
  have mh : m.head = n.head := by
    rw [← hm]
    unfold Nd.head Nd.with_
    simp [h1, h2]
  have hmh : headOk m := by
    rw [← hm]
    exact ⟨hh.1, hh.2.1, hh.2.2.1, fun h => by (rw [h1] at h; cases h), fun h => by (rw [h2] at h; cases h)⟩
  have herr : nodeErr m F.length = 0 := hmh.err (fun _ => by omega) (fun _ => by omega)
  have hw : Wf (F ++ [m]) := wf_snoc hFw (fun _ => by omega) (fun _ => by omega)
  have htr : tr (F ++ [m]) F.length = .two n.head (treeOf f) (treeOf g) := by
    rw [tr_eq hw (n := m) (by simp)]
    unfold mkTr
    rw [mo, h2, mh, mx, my]
    rw [show (((compactN f).length : Int) - 1).toNat = (compactN f).length - 1 by omega, tr_prefix hFw hw (List.prefix_append _ _) _ (by omega), hF1]
    rw [show (((compactN f).length : Int) + (compactN g).length - 1).toNat = (compactN f).length + (compactN g).length - 1 by omega, tr_prefix hFw hw (List.prefix_append _ _) _ (by omega), hF2]
    rfl
  unfold joinN
  have hfin : (finN (F ++ [m]) F.length []).1 = canon (.two n.head (treeOf f) (treeOf g)) := by
    rw [finN_ins hw _ _ (by simp), htr]; rfl
  simp only [herr, hfin]
  rfl
/-- The same, as the reference writes it. -/
theorem bin_short {n : Nd} {f g : List Nd} (hf : check f = 0) (hg : check g = 0) (h1 : hasX n.op = true) (h2 : hasY n.op = true) (hh : headOk n) {m : Nd} (hm : m = { n with x := (f.length : Int) - 1, y := (f.length : Int) + g.length - 1 }) :
    nodeErr m ((f.length : Int) + g.length) = 0 ∧ Wf (f ++ g.map (shiftN f.length) ++ [m]) ∧ shortN (f ++ g.map (shiftN f.length) ++ [m]) = buildN n [f, g] := by
  have fw := check_wf hf
  have gw := check_wf hg
  have fp := (check_parts hf).1
  have gp := (check_parts hg).1
  rw [build_twoS hf hg h1 h2 hh]
  have hFw := shift_wf fw gw
  have hFl : (f ++ g.map (shiftN f.length)).length = f.length + g.length := by simp
  have hF1 : tr (f ++ g.map (shiftN f.length)) (f.length - 1) = treeOf f := by
    rw [tr_prefix fw hFw (List.prefix_append _ _) _ (by omega)]; rfl
  have hF2 : tr (f ++ g.map (shiftN f.length)) (f.length + g.length - 1) = treeOf g := by
    rw [show f.length + g.length - 1 = f.length + (g.length - 1) by omega, tr_shift fw gw _ (by omega)]; rfl
  generalize f ++ g.map (shiftN f.length) = F at *
  have mo : m.op = n.op := by rw [hm]
  have mx : m.x = (f.length : Int) - 1 := by rw [hm]
  have my : m.y = (f.length : Int) + g.length - 1 := by rw [hm]
  have mh : m.head = n.head := by
    rw [hm]
    unfold Nd.head Nd.with_
    simp [h1, h2]
  have hmh : headOk m := by
    rw [hm]
    exact ⟨hh.1, hh.2.1, hh.2.2.1, fun h => by (rw [h1] at h; cases h), fun h => by (rw [h2] at h; cases h)⟩
  have hw : Wf (F ++ [m]) := wf_snoc hFw (fun _ => by omega) (fun _ => by omega)
  refine ⟨by have := hmh.err (a := f.length + g.length) (fun _ => by omega) (fun _ => by omega); rw [← this]; congr 1, hw, ?_⟩
  rw [shortN_tree hw (by simp)]
  congr 1
  unfold treeOf
  rw [List.length_append, List.length_singleton, Nat.add_sub_cancel, tr_eq hw (n := m) (by simp)]
  unfold mkTr
  rw [mo, h2, mh, mx, my]
  rw [show ((f.length : Int) - 1).toNat = f.length - 1 by omega, tr_prefix hFw hw (List.prefix_append _ _) _ (by omega), hF1]
  rw [show ((f.length : Int) + g.length - 1).toNat = f.length + g.length - 1 by omega, tr_prefix hFw hw (List.prefix_append _ _) _ (by omega), hF2]
  rfl
theorem build_bad1 {n : Nd} {f : List Nd} (hf : check f ≠ 0) : buildN n [f] = [] := by
  unfold buildN
  have e0 : [f].any (fun o => check o != 0) = true := by simpa using hf
  rw [e0, cond_true]
theorem build_bad2 {n : Nd} {f g : List Nd} (hf : check f ≠ 0 ∨ check g ≠ 0) : buildN n [f, g] = [] := by
  unfold buildN
  have e0 : [f, g].any (fun o => check o != 0) = true := by simp; exact hf
  rw [e0, cond_true]
end Go.Proofs.YtbfeodammikajaaGreat

/- Canonical lists: what the constructors come to at leaves; a node with other operands. -/

namespace Go.Proofs.YtbfeodammikajaaGreat

/-- Nothing, or the list of a tree. -/
def Can (l : List Nd) : Prop := l = [] ∨ ∃ t : Tr, t.ok ∧ l = canon t
theorem canon_leaf (n : Nd) : canon (.leaf n) = [n] := by simp [canon, ins, addN]
theorem build_zero {n : Nd} (h1 : hasX n.op = false) (h2 : hasY n.op = false) (hh : headOk n) : nodeErr n 0 = 0 ∧ buildN n [] = [n] := by
  have herr : nodeErr n 0 = 0 := hh.err (a := 0) (fun h => by rw [h1] at h; cases h) (fun h => by rw [h2] at h; cases h)
  refine ⟨herr, ?_⟩
  have hw : Wf ([] ++ [n]) := wf_snoc wf_nil (fun h => by rw [h1] at h; cases h) (fun h => by rw [h2] at h; cases h)
  have hfin : (finN ([] ++ [n]) ([] : List Nd).length []).1 = [n] := by
    rw [finN_ins hw _ _ (by simp), tr_eq hw (n := n) (by simp)]
    unfold mkTr
    rw [h1, h2]
    exact canon_leaf n
  unfold buildN
  show joinN [] n = [n]
  unfold joinN
  have e : nodeErr n (([] : List Nd).length : Int) = 0 := herr
  simp only [hfin, e]
  rfl
theorem head0 (k : Int) (h : k = 1 ∨ k = 2 ∨ k = 4 ∨ k = 5 ∨ k = 6) : headOk ⟨k, 0, 0, 0, 0, 0⟩ := by
  rcases h with rfl | rfl | rfl | rfl | rfl <;> exact ⟨by decide, by decide, by decide, fun _ => rfl, fun _ => rfl⟩
theorem head3 {n : Nd} (h : headOk n) (ho : n.op = 3) : headOk ⟨3, n.i, 0, 0, 0, 0⟩ := by
  obtain ⟨_, _, h3, _, _⟩ := h
  refine ⟨rfl, by simp [formBad, hasFact, hasAgent, hasEvent, hasGroup], ?_, fun _ => rfl, fun _ => rfl⟩
  unfold rangeBad at h3 ⊢
  rw [ho] at h3
  simpa [outsideB, hasFact, hasAgent, hasEvent, hasGroup] using h3
theorem head9 {n : Nd} (h : headOk n) (k : Int) (hk : k = 9 ∨ k = 10) (ho : n.op = 9 ∨ n.op = 10) : headOk ⟨k, n.i, 0, 0, 0, 0⟩ := by
  obtain ⟨_, _, h3, _, _⟩ := h
  have hr : outsideB true n.i 0 3 = false := by
    unfold rangeBad at h3
    rcases ho with ho | ho <;> (rw [ho] at h3; simpa [outsideB, hasFact, hasAgent, hasEvent, hasGroup] using h3)
  rcases hk with rfl | rfl
  · refine ⟨rfl, by simp [formBad, hasFact, hasAgent, hasEvent, hasGroup], ?_, fun _ => rfl, fun _ => rfl⟩
    simpa [rangeBad, outsideB, hasFact, hasAgent, hasEvent, hasGroup] using hr
  · refine ⟨rfl, by simp [formBad, hasFact, hasAgent, hasEvent, hasGroup], ?_, fun _ => rfl, fun _ => rfl⟩
    simpa [rangeBad, outsideB, hasFact, hasAgent, hasEvent, hasGroup] using hr
theorem true_list : trueN = [⟨1, 0, 0, 0, 0, 0⟩] := (build_zero rfl rfl (head0 1 (by omega))).2
theorem false_list : falseN = [⟨2, 0, 0, 0, 0, 0⟩] := (build_zero rfl rfl (head0 2 (by omega))).2
/-- A node with its operands in other lists. -/
def rebuildN (x : Nd) (a b : List Nd) : List Nd :=
  bif hasY x.op then buildN { x with x := 0, y := 0 } [a, b] else bif hasX x.op then buildN { x with x := 0, y := 0 } [a] else [{ x with x := 0, y := 0 }]
theorem head_zero {n : Nd} (h : headOk n) : headOk { n with x := 0, y := 0 } := ⟨h.1, h.2.1, h.2.2.1, fun _ => rfl, fun _ => rfl⟩
end Go.Proofs.YtbfeodammikajaaGreat

/- The expansion of a formula, by trees. -/

namespace Go.Proofs.YtbfeodammikajaaGreat

def andsT : Tr → List Tr → Tr
  | t, [] => t
  | t, u :: r => andsT (.two ⟨5, 0, 0, 0, 0, 0⟩ t u) r
def allT : List Tr → Tr
  | [] => .leaf ⟨1, 0, 0, 0, 0, 0⟩
  | t :: r => andsT t r
def everyT (g : Int) (a : Tr) : List Tr := ((List.range 4).filter fun i => gbit g i).map fun (i : Nat) => .one ⟨9, i, 0, 0, 0, 0⟩ a
/-- The expansion of a node, from those of its operands. -/
def expM (n : Nd) (a b : Tr) : Tr :=
  if n.op = 10 then .one ⟨4, 0, 0, 0, 0, 0⟩ (.one ⟨9, n.i, 0, 0, 0, 0⟩ (.one ⟨4, 0, 0, 0, 0, 0⟩ a))
  else if n.op = 11 then allT (everyT n.g a)
  else mkTr n a b
def expT : Tr → Tr
  | .leaf n => .leaf n
  | .one n a => if n.op = 10 then .one ⟨4, 0, 0, 0, 0, 0⟩ (.one ⟨9, n.i, 0, 0, 0, 0⟩ (.one ⟨4, 0, 0, 0, 0, 0⟩ (expT a))) else if n.op = 11 then allT (everyT n.g (expT a)) else .one n (expT a)
  | .two n a b => .two n (expT a) (expT b)
theorem expT_mk (n : Nd) (a b : Tr) : expT (mkTr n a b) = expM n (expT a) (expT b) := by
  unfold mkTr expM
  cases h2 : hasY n.op
  · cases h1 : hasX n.op
    · have h10 : n.op ≠ 10 := fun e => by rw [e] at h1; cases h1
      have h11 : n.op ≠ 11 := fun e => by rw [e] at h1; cases h1
      rw [if_neg h10, if_neg h11]
      unfold mkTr
      rw [h1, h2]
      rfl
    · unfold mkTr
      rw [h1, h2]
      simp only [cond_false, cond_true, expT, head_op]
      rfl
  · have h10 : n.op ≠ 10 := fun e => by rw [e] at h2; cases h2
    have h11 : n.op ≠ 11 := fun e => by rw [e] at h2; cases h2
    rw [if_neg h10, if_neg h11]
    unfold mkTr
    rw [h2]
    rfl
section
variable {M : KM}
theorem sat_ands : ∀ (r : List Tr) (t : Tr) (w : M.W), M.sat (andsT t r) w ↔ M.sat t w ∧ ∀ u ∈ r, M.sat u w
  | [], t, w => by simp [andsT]
  | u :: r, t, w => by
    rw [andsT, sat_ands r, sat_and]
    simp only [List.mem_cons, forall_eq_or_imp]
    exact and_assoc
theorem sat_all (l : List Tr) (w : M.W) : M.sat (allT l) w ↔ ∀ u ∈ l, M.sat u w := by
  cases l with
  | nil => simp [allT, KM.sat]
  | cons t r => rw [allT, sat_ands]; simp
theorem sat_every (g : Int) (a : Tr) (w : M.W) : M.sat (allT (everyT g a)) w ↔ ∀ i : Nat, i < 4 → gbit g i = true → ∀ v, M.R (i : Int) w v → M.sat a v := by
  rw [sat_all]
  unfold everyT
  constructor
  · intro h i hi hg v hv
    exact (sat_know rfl).1 (h (.one ⟨9, i, 0, 0, 0, 0⟩ a) (List.mem_map.2 ⟨i, List.mem_filter.2 ⟨List.mem_range.2 hi, hg⟩, rfl⟩)) v hv
  · intro h u hu
    obtain ⟨i, hi, rfl⟩ := List.mem_map.1 hu
    obtain ⟨h1, h2⟩ := List.mem_filter.1 hi
    rw [sat_know rfl]
    exact h i (List.mem_range.1 h1) h2
theorem sat_not {a : Tr} {w : M.W} : M.sat (.one ⟨4, 0, 0, 0, 0, 0⟩ a) w ↔ ¬ M.sat a w := by simp [KM.sat]
/-- The expansion says the same. -/
theorem sat_exp : ∀ (t : Tr) (w : M.W), M.sat (expT t) w ↔ M.sat t w
  | .leaf n, w => Iff.rfl
  | .one n a, w => by
    have ih := sat_exp a
    unfold expT
    by_cases h10 : n.op = 10
    · rw [if_pos h10, sat_not, sat_know rfl]
      simp only [ih, KM.sat, h10, show ¬ (10 : Int) = 4 by decide, show ¬ (10 : Int) = 9 by decide, if_false, if_true]
      constructor
      · intro h
        obtain ⟨v, hv⟩ := Classical.not_forall.1 h
        obtain ⟨h1, h2⟩ := Classical.not_imp.1 hv
        exact ⟨v, h1, Classical.not_not.1 h2⟩
      · rintro ⟨v, h1, h2⟩ h
        exact h v h1 h2
    · rw [if_neg h10]
      by_cases h11 : n.op = 11
      · rw [if_pos h11, sat_every]
        simp only [ih, KM.sat, h11, show ¬ (11 : Int) = 4 by decide, show ¬ (11 : Int) = 9 by decide, show ¬ (11 : Int) = 10 by decide, if_false, if_true]
      · rw [if_neg h11]
        simp only [KM.sat, ih, h10, h11, if_false]
  | .two n a b, w => by
    have iha : M.sat (expT a) = M.sat a := funext fun v => propext (sat_exp a v)
    have ihb : M.sat (expT b) = M.sat b := funext fun v => propext (sat_exp b v)
    simp only [expT, KM.sat, iha, ihb]
end
/-- A tree whose nodes are right. -/
def Hd (t : Tr) : Prop := t.ok ∧ t.all headOk
section
variable {n : Nd} {s t u : Tr}
theorem Hd.wf (h : Hd t) : Wf (canon t) := canon_wf h.1
theorem Hd.check (h : Hd t) (hl : (canon t).length ≤ 200) : check (canon t) = 0 := by
  have hp := canon_pos h.1
  exact check_of (by intro e; rw [e] at hp; simp at hp) hl h.wf (fun n hn => ins_all (fun _ k1 k2 h => h.with_ k1 k2) t [] h.2 (fun n hn => by cases hn) n hn)
theorem Hd.one (h1 : hasX n.op = true) (h2 : hasY n.op = false) (hh : headOk n) (hn : n.head = n) (hs : Hd s) : Hd (.one n s) := ⟨⟨h1, h2, hn, hs.1⟩, hh, hs.2⟩
theorem Hd.two (h1 : hasX n.op = true) (h2 : hasY n.op = true) (hh : headOk n) (hn : n.head = n) (hs : Hd s) (ht : Hd t) : Hd (.two n s t) := ⟨⟨h1, h2, hn, hs.1, ht.1⟩, hh, hs.2, ht.2⟩
theorem hsh1 (hs : Hd s) (h1 : hasX n.op = true) (h2 : hasY n.op = false) (hh : headOk n) (hn : n.head = n) : buildN n [shortT s] = shortT (.one n s) := by
  have ho : (Tr.one n s).ok := ⟨h1, h2, hn, hs.1⟩
  by_cases hl : (canon s).length ≤ 200
  · rw [short_fit hl, build_oneS (hs.check hl) h1 h2 hh, hn, treeOf_canon hs.1]
  · have := one_len ho
    rw [short_long (t := s) (by omega), short_long (t := .one n s) (by omega), build_bad1 check_nil']
theorem hsh2 (hs : Hd s) (ht : Hd t) (h1 : hasX n.op = true) (h2 : hasY n.op = true) (hh : headOk n) (hn : n.head = n) : buildN n [shortT s, shortT t] = shortT (.two n s t) := by
  have ho : (Tr.two n s t).ok := ⟨h1, h2, hn, hs.1, ht.1⟩
  have hlen := two_len ho
  by_cases hl : (canon s).length ≤ 200
  · by_cases hm : (canon t).length ≤ 200
    · rw [short_fit hl, short_fit hm, build_twoS (hs.check hl) (ht.check hm) h1 h2 hh, hn, treeOf_canon hs.1, treeOf_canon ht.1]
    · rw [short_long (t := t) (by omega), short_long (t := .two n s t) (by omega), build_bad2 (.inr check_nil')]
  · rw [short_long (t := s) (by omega), short_long (t := .two n s t) (by omega), build_bad2 (.inl check_nil')]
end
theorem comp_short {s : Tr} (hs : Hd s) : compactN (shortT s) = shortT s := by
  by_cases hl : (canon s).length ≤ 200
  · rw [short_fit hl, compactN_tree (hs.check hl), treeOf_canon hs.1]
  · rw [short_long (by omega), compactN_bad check_nil']
theorem comp_canon {s : Tr} (hs : Hd s) (hl : (canon s).length ≤ 200) : compactN (canon s) = canon s := by
  rw [compactN_tree (hs.check hl), treeOf_canon hs.1]
theorem head_k (k : Int) (hk : k = 5 ∨ k = 7) : headOk ⟨k, 0, 0, 0, 0, 0⟩ := by rcases hk with rfl | rfl <;> exact ⟨rfl, rfl, rfl, fun _ => rfl, fun _ => rfl⟩
theorem head_4 : headOk ⟨4, 0, 0, 0, 0, 0⟩ := ⟨rfl, rfl, rfl, fun _ => rfl, fun _ => rfl⟩
theorem head_9 {i : Int} (h0 : 0 ≤ i) (h1 : i < 4) : headOk ⟨9, i, 0, 0, 0, 0⟩ := by
  refine ⟨rfl, by simp [formBad, hasFact, hasAgent, hasEvent, hasGroup], ?_, fun _ => rfl, fun _ => rfl⟩
  simp [rangeBad, outsideB, hasFact, hasAgent, hasEvent, hasGroup]
  omega
theorem hd_not {s : Tr} (hs : Hd s) : Hd (.one ⟨4, 0, 0, 0, 0, 0⟩ s) := hs.one rfl rfl head_4 rfl
theorem hd_know {i : Int} (h0 : 0 ≤ i) (h1 : i < 4) {s : Tr} (hs : Hd s) : Hd (.one ⟨9, i, 0, 0, 0, 0⟩ s) := hs.one rfl rfl (head_9 h0 h1) rfl
theorem hd_and {s t : Tr} (hs : Hd s) (ht : Hd t) : Hd (.two ⟨5, 0, 0, 0, 0, 0⟩ s t) := hs.two rfl rfl (head_k 5 (by omega)) rfl ht
theorem hd_imp {s t : Tr} (hs : Hd s) (ht : Hd t) : Hd (.two ⟨7, 0, 0, 0, 0, 0⟩ s t) := hs.two rfl rfl (head_k 7 (by omega)) rfl ht
theorem hd_true : Hd (.leaf ⟨1, 0, 0, 0, 0, 0⟩) := ⟨⟨rfl, rfl⟩, rfl, rfl, rfl, fun _ => rfl, fun _ => rfl⟩
theorem ands_short : ∀ (r : List Tr) (t : Tr), Hd t → (∀ u ∈ r, Hd u) → (r.map shortT).foldl andN (shortT t) = shortT (andsT t r) ∧ Hd (andsT t r)
  | [], t, ht, _ => ⟨rfl, ht⟩
  | u :: r, t, ht, hr => by
    have hu := hr u (List.mem_cons_self ..)
    rw [List.map_cons, List.foldl_cons, show andN (shortT t) (shortT u) = shortT (.two ⟨5, 0, 0, 0, 0, 0⟩ t u) from hsh2 ht hu rfl rfl (head_k 5 (by omega)) rfl]
    exact ands_short r _ (hd_and ht hu) (fun v hv => hr v (List.mem_cons_of_mem _ hv))
theorem all_short (l : List Tr) (hl : ∀ u ∈ l, Hd u) : allN (l.map shortT) = shortT (allT l) ∧ Hd (allT l) := by
  cases l with
  | nil => exact ⟨by rw [List.map_nil, allN, conjN, true_list, allT, short_fit (by rw [canon_leaf]; simp), canon_leaf], hd_true⟩
  | cons t r =>
    have ht := hl t (List.mem_cons_self ..)
    rw [List.map_cons, allN, conjN, comp_short ht]
    exact ands_short r t ht (fun v hv => hl v (List.mem_cons_of_mem _ hv))
theorem every_short {g : Int} {a : Tr} (ha : Hd a) : everyL g (shortT a) = (everyT g a).map shortT ∧ ∀ u ∈ everyT g a, Hd u := by
  have hi : ∀ i ∈ (List.range 4).filter (fun i => gbit g i), i < 4 := fun i h => List.mem_range.1 (List.mem_filter.1 h).1
  constructor
  · unfold everyL everyT
    rw [List.map_map]
    refine List.map_congr_left fun i h => ?_
    exact hsh1 ha rfl rfl (head_9 (by omega) (by have := hi i h; omega)) rfl
  · intro u hu
    obtain ⟨i, h, rfl⟩ := List.mem_map.1 hu
    exact hd_know (by omega) (by have := hi i h; omega) ha
/-- The operators of the language of types. -/
def tyOp (op : Int) : Prop := (1 ≤ op ∧ op ≤ 11) ∨ op = 13
theorem bare0 {n : Nd} (h : headOk n) (hk : n.op = 1 ∨ n.op = 2 ∨ n.op = 4 ∨ n.op = 5 ∨ n.op = 6 ∨ n.op = 7 ∨ n.op = 8) : n.head = ⟨n.op, 0, 0, 0, 0, 0⟩ := by
  obtain ⟨op, i, e, g, x, y⟩ := n
  obtain ⟨_, h2, _, h4, h5⟩ := h
  unfold formBad at h2
  simp only at hk
  rcases hk with rfl | rfl | rfl | rfl | rfl | rfl | rfl <;> (simp [hasFact, hasAgent, hasEvent, hasGroup] at h2; obtain ⟨⟨a, b⟩, c⟩ := h2; simp [hasX, hasY] at h4 h5; simp [Nd.head, Nd.with_, hasX, hasY, a, b, c]; try first | exact ⟨h4, h5⟩ | exact h5)
theorem barei {n : Nd} (h : headOk n) (hk : n.op = 3 ∨ n.op = 9) : n.head = ⟨n.op, n.i, 0, 0, 0, 0⟩ := by
  obtain ⟨op, i, e, g, x, y⟩ := n
  obtain ⟨_, h2, _, h4, h5⟩ := h
  unfold formBad at h2
  simp only at hk
  rcases hk with rfl | rfl <;> (simp [hasFact, hasAgent, hasEvent, hasGroup] at h2; obtain ⟨b, c⟩ := h2; simp [hasX, hasY] at h4 h5; simp [Nd.head, Nd.with_, hasX, hasY, b, c]; try first | exact ⟨h4, h5⟩ | exact h5)
theorem bareg {n : Nd} (h : headOk n) (hk : n.op = 13) : n.head = ⟨n.op, 0, 0, n.g, 0, 0⟩ := by
  obtain ⟨op, i, e, g, x, y⟩ := n
  obtain ⟨_, h2, _, h4, h5⟩ := h
  unfold formBad at h2
  simp only at hk
  subst hk
  simp [hasFact, hasAgent, hasEvent, hasGroup] at h2
  obtain ⟨a, b⟩ := h2
  simp [Nd.head, Nd.with_, hasX, hasY, a, b]
theorem agent_of {n : Nd} (h : headOk n) (hk : n.op = 9 ∨ n.op = 10) : 0 ≤ n.i ∧ n.i < 4 := by
  obtain ⟨_, _, h3, _, _⟩ := h
  unfold rangeBad at h3
  rcases hk with ho | ho <;> (rw [ho] at h3; simp [outsideB, hasFact, hasAgent, hasEvent, hasGroup] at h3; omega)
theorem headOk.head {n : Nd} (h : headOk n) : headOk n.head := h.with_ 0 0
theorem head_leaf {n : Nd} (h1 : hasX n.op = false) (h2 : hasY n.op = false) : n.head = n := with_leaf h1 h2 0 0
/-- A node's expansion is that of its tree. -/
theorem expS_short {n : Nd} {a b : Tr} (hn : headOk n) (ho : tyOp n.op) (ha : hasX n.op = true → Hd a) (hb : hasY n.op = true → Hd b) : expS n (shortT a) (shortT b) = shortT (expM n a b) ∧ Hd (expM n a b) := by
  have hop : n.op = 1 ∨ n.op = 2 ∨ n.op = 3 ∨ n.op = 4 ∨ n.op = 5 ∨ n.op = 6 ∨ n.op = 7 ∨ n.op = 8 ∨ n.op = 9 ∨ n.op = 10 ∨ n.op = 11 ∨ n.op = 13 := by unfold tyOp at ho; omega
  have leafc : ∀ m : Nd, shortT (.leaf m) = [m] := fun m => by rw [short_fit (by rw [canon_leaf]; simp), canon_leaf]
  have hX : ∀ {k : Int}, n.op = k → hasX k = true → hasX n.op = true := fun h k => by rw [h]; exact k
  have hY : ∀ {k : Int}, n.op = k → hasY k = true → hasY n.op = true := fun h k => by rw [h]; exact k
  have nX : ∀ {k : Int}, n.op = k → hasX k = false → hasX n.op = false := fun h k => by rw [h]; exact k
  have nY : ∀ {k : Int}, n.op = k → hasY k = false → hasY n.op = false := fun h k => by rw [h]; exact k
  have m0 : ∀ {k : Int}, n.op = k → hasX k = false → hasY k = false → k ≠ 10 → k ≠ 11 → expM n a b = .leaf n := fun h h1 h2 h3 h4 => by
    unfold expM mkTr; rw [if_neg (by omega), if_neg (by omega), nX h h1, nY h h2]; rfl
  have m1 : ∀ {k : Int}, n.op = k → hasX k = true → hasY k = false → k ≠ 10 → k ≠ 11 → expM n a b = .one n.head a := fun h h1 h2 h3 h4 => by
    unfold expM mkTr; rw [if_neg (by omega), if_neg (by omega), hX h h1, nY h h2]; rfl
  have m2 : ∀ {k : Int}, n.op = k → hasY k = true → k ≠ 10 → k ≠ 11 → expM n a b = .two n.head a b := fun h h2 h3 h4 => by
    unfold expM mkTr; rw [if_neg (by omega), if_neg (by omega), hY h h2]; rfl
  have two : ∀ {m : Nd}, n.head = m → hasX m.op = true → hasY m.op = true → Hd a → Hd b → buildN m [shortT a, shortT b] = shortT (.two n.head a b) ∧ Hd (.two n.head a b) := fun {m} e h1 h2 h3 h4 => by
    subst e
    exact ⟨hsh2 h3 h4 h1 h2 hn.head (head_head n), h3.two h1 h2 hn.head (head_head n) h4⟩
  have one : ∀ {m : Nd}, n.head = m → hasX m.op = true → hasY m.op = false → Hd a → buildN m [shortT a] = shortT (.one n.head a) ∧ Hd (.one n.head a) := fun {m} e h1 h2 h3 => by
    subst e
    exact ⟨hsh1 h3 h1 h2 hn.head (head_head n), h3.one h1 h2 hn.head (head_head n)⟩
  have leaf : ∀ {k : Int}, n.op = k → hasX k = false → hasY k = false → Hd (.leaf n) := fun h h1 h2 => ⟨⟨nX h h1, nY h h2⟩, hn⟩
  rcases hop with h | h | h | h | h | h | h | h | h | h | h | h
  · rw [m0 h rfl rfl (by omega) (by omega), leafc]
    refine ⟨?_, leaf h rfl rfl⟩
    have e := bare0 hn (by omega)
    rw [head_leaf (nX h rfl) (nY h rfl), h] at e
    simp only [expS, h]
    exact true_list.trans (by rw [← e])
  · rw [m0 h rfl rfl (by omega) (by omega), leafc]
    refine ⟨?_, leaf h rfl rfl⟩
    have e := bare0 hn (by omega)
    rw [head_leaf (nX h rfl) (nY h rfl), h] at e
    simp only [expS, h]
    exact false_list.trans (by rw [← e])
  · rw [m0 h rfl rfl (by omega) (by omega), leafc]
    refine ⟨?_, leaf h rfl rfl⟩
    have e := barei hn (by omega)
    rw [head_leaf (nX h rfl) (nY h rfl), h] at e
    simp only [expS, h]
    refine ((build_zero rfl rfl (head3 hn h)).2).trans ?_
    rw [← e]
  · rw [m1 h rfl rfl (by omega) (by omega)]
    have e := bare0 hn (by omega)
    rw [h] at e
    have := one e rfl rfl (ha (hX h rfl))
    simp only [expS, h]
    exact this
  · rw [m2 h rfl (by omega) (by omega)]
    have e := bare0 hn (by omega)
    rw [h] at e
    have := two e rfl rfl (ha (hX h rfl)) (hb (hY h rfl))
    simp only [expS, h]
    exact this
  · rw [m2 h rfl (by omega) (by omega)]
    have e := bare0 hn (by omega)
    rw [h] at e
    have := two e rfl rfl (ha (hX h rfl)) (hb (hY h rfl))
    simp only [expS, h]
    exact this
  · rw [m2 h rfl (by omega) (by omega)]
    have e := bare0 hn (by omega)
    rw [h] at e
    have := two e rfl rfl (ha (hX h rfl)) (hb (hY h rfl))
    simp only [expS, h]
    exact this
  · rw [m2 h rfl (by omega) (by omega)]
    have e := bare0 hn (by omega)
    rw [h] at e
    have := two e rfl rfl (ha (hX h rfl)) (hb (hY h rfl))
    simp only [expS, h]
    exact this
  · rw [m1 h rfl rfl (by omega) (by omega)]
    have e := barei hn (by omega)
    rw [h] at e
    have := one e rfl rfl (ha (hX h rfl))
    simp only [expS, h]
    exact this
  · have hA := ha (hX h rfl)
    have hi := agent_of hn (.inr h)
    have e1 : notN (shortT a) = shortT (.one ⟨4, 0, 0, 0, 0, 0⟩ a) := hsh1 hA rfl rfl head_4 rfl
    have e2 : knowN n.i (shortT (.one ⟨4, 0, 0, 0, 0, 0⟩ a)) = shortT (.one ⟨9, n.i, 0, 0, 0, 0⟩ (.one ⟨4, 0, 0, 0, 0, 0⟩ a)) := hsh1 (hd_not hA) rfl rfl (head_9 hi.1 hi.2) rfl
    have e3 : notN (shortT (.one ⟨9, n.i, 0, 0, 0, 0⟩ (.one ⟨4, 0, 0, 0, 0, 0⟩ a))) = shortT (.one ⟨4, 0, 0, 0, 0, 0⟩ (.one ⟨9, n.i, 0, 0, 0, 0⟩ (.one ⟨4, 0, 0, 0, 0, 0⟩ a))) := hsh1 (hd_know hi.1 hi.2 (hd_not hA)) rfl rfl head_4 rfl
    have em : expM n a b = .one ⟨4, 0, 0, 0, 0, 0⟩ (.one ⟨9, n.i, 0, 0, 0, 0⟩ (.one ⟨4, 0, 0, 0, 0, 0⟩ a)) := by unfold expM; rw [if_pos h]
    rw [em]
    refine ⟨?_, hd_not (hd_know hi.1 hi.2 (hd_not hA))⟩
    simp only [expS, h]
    show notN (knowN n.i (notN (shortT a))) = _
    rw [e1, e2, e3]
  · have hA := ha (hX h rfl)
    have em : expM n a b = allT (everyT n.g a) := by unfold expM; rw [if_neg (by omega), if_pos h]
    rw [em]
    obtain ⟨e1, e2⟩ := every_short (g := n.g) hA
    obtain ⟨e3, e4⟩ := all_short _ e2
    refine ⟨?_, e4⟩
    simp only [expS, h]
    show allN (everyL n.g (shortT a)) = _
    rw [e1, e3]
  · rw [m2 h rfl (by omega) (by omega)]
    have e := bareg hn h
    rw [h] at e
    have := two e rfl rfl (ha (hX h rfl)) (hb (hY h rfl))
    simp only [expS, h]
    exact this
end Go.Proofs.YtbfeodammikajaaGreat

/- The base of an expansion, by trees: it is closed. -/

namespace Go.Proofs.YtbfeodammikajaaGreat

/-- The operators of an expansion. -/
def exOp (n : Nd) : Prop := (1 ≤ n.op ∧ n.op ≤ 9) ∨ n.op = 13
/-- A tree that is an expansion. -/
def Xp (t : Tr) : Prop := Hd t ∧ t.all exOp
theorem ops_one {op : Int} (h1 : hasX op = true) (h2 : hasY op = false) (h : (1 ≤ op ∧ op ≤ 9) ∨ op = 13) : op = 4 ∨ op = 9 := by
  have : op = 1 ∨ op = 2 ∨ op = 3 ∨ op = 4 ∨ op = 5 ∨ op = 6 ∨ op = 7 ∨ op = 8 ∨ op = 9 ∨ op = 13 := by omega
  rcases this with rfl | rfl | rfl | rfl | rfl | rfl | rfl | rfl | rfl | rfl <;> first | (cases h1; done) | (cases h2; done) | omega
theorem ops_two {op : Int} (h2 : hasY op = true) (h : (1 ≤ op ∧ op ≤ 9) ∨ op = 13) : (5 ≤ op ∧ op ≤ 8) ∨ op = 13 := by
  have : op = 1 ∨ op = 2 ∨ op = 3 ∨ op = 4 ∨ op = 5 ∨ op = 6 ∨ op = 7 ∨ op = 8 ∨ op = 9 ∨ op = 13 := by omega
  rcases this with rfl | rfl | rfl | rfl | rfl | rfl | rfl | rfl | rfl | rfl <;> first | (cases h2; done) | omega
theorem Xp.lang : ∀ {t : Tr}, Xp t → lang t
  | .leaf _, _ => trivial
  | .one _n a, h => ⟨ops_one h.1.1.1 h.1.1.2.1 h.2.1, Xp.lang (t := a) ⟨⟨h.1.1.2.2.2, h.1.2.2⟩, h.2.2⟩⟩
  | .two _n a b, h => ⟨ops_two h.1.1.2.1 h.2.1, Xp.lang (t := a) ⟨⟨h.1.1.2.2.2.1, h.1.2.2.1⟩, h.2.2.1⟩, Xp.lang (t := b) ⟨⟨h.1.1.2.2.2.2, h.1.2.2.2⟩, h.2.2.2⟩⟩
theorem Xp.fact : ∀ {t : Tr}, Xp t → factOk t
  | .leaf n, h => fun ho => by
    have e := barei h.1.2 (.inl ho)
    rw [head_leaf h.1.1.1 h.1.1.2, ho] at e
    exact e
  | .one n a, h => Xp.fact (t := a) ⟨⟨h.1.1.2.2.2, h.1.2.2⟩, h.2.2⟩
  | .two n a b, h => ⟨Xp.fact (t := a) ⟨⟨h.1.1.2.2.2.1, h.1.2.2.1⟩, h.2.2.1⟩, Xp.fact (t := b) ⟨⟨h.1.1.2.2.2.2, h.1.2.2.2⟩, h.2.2.2⟩⟩
theorem Xp.of_one {n : Nd} {a : Tr} (h : Xp (.one n a)) : Xp a := ⟨⟨h.1.1.2.2.2, h.1.2.2⟩, h.2.2⟩
theorem Xp.of_two {n : Nd} {a b : Tr} (h : Xp (.two n a b)) : Xp a ∧ Xp b := ⟨⟨⟨h.1.1.2.2.2.1, h.1.2.2.1⟩, h.2.2.1⟩, ⟨h.1.1.2.2.2.2, h.1.2.2.2⟩, h.2.2.2⟩
theorem Xp.know {i : Int} (h0 : 0 ≤ i) (h1 : i < 4) {s : Tr} (hs : Xp s) : Xp (.one ⟨9, i, 0, 0, 0, 0⟩ s) := ⟨hd_know h0 h1 hs.1, .inl ⟨show (1 : Int) ≤ 9 by decide, show (9 : Int) ≤ 9 by decide⟩, hs.2⟩
theorem Xp.and {s t : Tr} (hs : Xp s) (ht : Xp t) : Xp (.two ⟨5, 0, 0, 0, 0, 0⟩ s t) := ⟨hd_and hs.1 ht.1, .inl ⟨by decide, by decide⟩, hs.2, ht.2⟩
theorem Xp.imp {s t : Tr} (hs : Xp s) (ht : Xp t) : Xp (.two ⟨7, 0, 0, 0, 0, 0⟩ s t) := ⟨hd_imp hs.1 ht.1, .inl ⟨by decide, by decide⟩, hs.2, ht.2⟩
theorem Xp.not {s : Tr} (hs : Xp s) : Xp (.one ⟨4, 0, 0, 0, 0, 0⟩ s) := ⟨hd_not hs.1, .inl ⟨by decide, by decide⟩, hs.2⟩
theorem Xp.unf {i : Nat} (hi : i < 4) {n : Nd} {a b : Tr} (h : Xp (.two n a b)) : Xp (unfT i n a b) :=
  Xp.know (by omega) (by omega) (Xp.imp h.of_two.1 (Xp.and h.of_two.2 h))
theorem Xp.at {t : Tr} (h : Xp t) {i : Nat} (hi : i < (canon t).length) : Xp (tr (canon t) i) :=
  ⟨⟨tr_ok h.1.wf _ hi, tr_all (fun _ k1 k2 h => h.with_ k1 k2) h.1.wf (ins_all (fun _ k1 k2 h => h.with_ k1 k2) t [] h.1.2 (fun n hn => by cases hn)) _ hi⟩,
    tr_all (P := exOp) (fun _ _ _ k => k) h.1.wf (ins_all (P := exOp) (fun _ _ _ k => k) t [] h.2 (fun n hn => by cases hn)) _ hi⟩
/-- The formula of an expansion, of a right length. -/
structure Xf (t : Tr) : Prop where
  xp : Xp t
  len : (canon t).length ≤ 200
section
variable {t : Tr}
theorem Xf.check (h : Xf t) : check (canon t) = 0 := h.xp.1.check h.len
theorem Xf.tree (h : Xf t) : treeOf (canon t) = t := treeOf_canon h.xp.1.1
theorem Xf.at (h : Xf t) {i : Nat} (hi : i < (canon t).length) : Xf (tr (canon t) i) := ⟨h.xp.at hi, Nat.le_trans (part_len h.xp.1.1 hi) h.len⟩
theorem Xf.of_one {n : Nd} {a : Tr} (h : Xf (.one n a)) : Xf a := ⟨h.xp.of_one, Nat.le_trans (one_len h.xp.1.1) h.len⟩
theorem Xf.of_two {n : Nd} {a b : Tr} (h : Xf (.two n a b)) : Xf a ∧ Xf b := ⟨⟨h.xp.of_two.1, Nat.le_trans (two_len h.xp.1.1).1 h.len⟩, ⟨h.xp.of_two.2, Nat.le_trans (two_len h.xp.1.1).2 h.len⟩⟩
theorem Xf.short (h : Xf t) : shortT t = canon t := short_fit h.len
theorem Xf.inj {s : Tr} (hs : Xf s) (h : Xf t) (e : canon s = canon t) : s = t := canon_inj hs.xp.1.1 h.xp.1.1 e
theorem Xf.last (h : Xf t) : (lastN (canon t)).op = t.top.op := by rw [last_op h.check, h.tree]
theorem Xf.base (h : Xf t) : isBase (lastN (canon t)) = isBase t.top := by unfold isBase; rw [h.last]
/-- What is unfolded of common knowledge. -/
theorem Xf.unf {n : Nd} {a b : Tr} (h : Xf (.two n a b)) {i : Nat} (hi : i < 4) : unfN i (canon (.two n a b)) = shortT (unfT i n a b) := by
  obtain ⟨_, _, e1, e2⟩ := last_two h.check h.tree
  have hb := h.of_two.2
  have ha := h.of_two.1
  unfold unfN unfT
  rw [e1, e2, ← ha.short, ← hb.short, ← h.short]
  have h1 : andN (shortT b) (shortT (.two n a b)) = shortT (.two ⟨5, 0, 0, 0, 0, 0⟩ b (.two n a b)) := hsh2 hb.xp.1 h.xp.1 rfl rfl (head_k 5 (by omega)) rfl
  have h2 : impN (shortT a) (shortT (.two ⟨5, 0, 0, 0, 0, 0⟩ b (.two n a b))) = shortT (.two ⟨7, 0, 0, 0, 0, 0⟩ a (.two ⟨5, 0, 0, 0, 0, 0⟩ b (.two n a b))) := hsh2 ha.xp.1 (hb.xp.and h.xp).1 rfl rfl (head_k 7 (by omega)) rfl
  have h3 : knowN (i : Int) (shortT (.two ⟨7, 0, 0, 0, 0, 0⟩ a (.two ⟨5, 0, 0, 0, 0, 0⟩ b (.two n a b)))) = shortT (.one ⟨9, (i : Int), 0, 0, 0, 0⟩ (.two ⟨7, 0, 0, 0, 0, 0⟩ a (.two ⟨5, 0, 0, 0, 0, 0⟩ b (.two n a b)))) := hsh1 (ha.xp.imp (hb.xp.and h.xp)).1 rfl rfl (head_9 (by omega) (by omega)) rfl
  rw [h1, h2, h3]
theorem Xf.subs (h : Xf t) : subsN (canon t) = (List.range (canon t).length).map fun i => canon (tr (canon t) i) := by
  unfold subsN formulasN
  rw [comp_canon h.xp.1 h.len]
  exact List.map_congr_left fun i hi => subN_tree h.check (List.mem_range.1 hi)
theorem Xf.mem_base0 (h : Xf t) {c : List Nd} : c ∈ base0 (canon t) ↔ ∃ i, i < (canon t).length ∧ c = canon (tr (canon t) i) ∧ isBase (tr (canon t) i).top = true := by
  unfold base0
  rw [h.subs, List.mem_filter, List.mem_map]
  constructor
  · rintro ⟨⟨i, hi, rfl⟩, hb⟩
    have hi := List.mem_range.1 hi
    exact ⟨i, hi, rfl, by rw [← (h.at hi).base]; exact hb⟩
  · rintro ⟨i, hi, rfl, hb⟩
    exact ⟨⟨i, List.mem_range.2 hi, rfl⟩, by rw [(h.at hi).base]; exact hb⟩
theorem Xf.base0_nodup (h : Xf t) : (base0 (canon t)).Nodup := by
  unfold base0
  rw [h.subs]
  refine List.Pairwise.filter _ ?_
  rw [List.pairwise_map]
  refine List.Pairwise.imp_of_mem ?_ (List.nodup_iff_pairwise_ne.1 List.nodup_range)
  intro i j hi hj hne e
  have hi := List.mem_range.1 hi
  have hj := List.mem_range.1 hj
  exact hne (canon_dst h.xp.1.1 i j hi hj ((h.at hi).inj (h.at hj) e))
end
theorem place_neg {l : List (List Nd)} {g : List Nd} : placeN l g < 0 ↔ g ∉ l := by
  unfold placeN
  cases h : l.findIdx? fun f => decide (f = g) with
  | none =>
    rw [List.findIdx?_eq_none_iff] at h
    refine ⟨fun _ hm => ?_, fun _ => by decide⟩
    have := h g hm
    simp at this
  | some j =>
    obtain ⟨hj, he, _⟩ := List.findIdx?_eq_some_iff_getElem.1 h
    refine ⟨fun hn => ?_, fun hn => ?_⟩
    · simp only at hn
      omega
    · have e : l[j] = g := by simpa using he
      exact absurd (e ▸ List.getElem_mem hj) hn
theorem place_at {l : List (List Nd)} (hl : l.Nodup) {i : Nat} {g : List Nd} (hi : l[i]? = some g) : placeN l g = i := by
  obtain ⟨hil, he⟩ := List.getElem?_eq_some_iff.1 hi
  unfold placeN
  have : l.findIdx? (fun f => decide (f = g)) = some i := by
    rw [List.findIdx?_eq_some_iff_getElem]
    refine ⟨hil, by simpa using he, fun j hj => ?_⟩
    have hne : l[j] ≠ l[i] := fun e => by
      have := (List.nodup_iff_pairwise_ne.1 hl)
      rw [List.pairwise_iff_getElem] at this
      exact this j i (by omega) hil hj e
    rw [he] at hne
    simpa using hne
  rw [this]
theorem addF_mem {l : List (List Nd)} {g c : List Nd} : c ∈ addF l g ↔ c ∈ l ∨ c = g := by
  unfold addF
  cases h : decide (placeN l g < 0)
  · rw [decide_eq_false_iff_not, place_neg, Classical.not_not] at h
    exact ⟨.inl, fun k => k.elim id fun e => e ▸ h⟩
  · simp
theorem addF_nodup {l : List (List Nd)} {g : List Nd} (h : l.Nodup) : (addF l g).Nodup := by
  unfold addF
  cases k : decide (placeN l g < 0)
  · exact h
  · rw [decide_eq_true_iff, place_neg] at k
    rw [cond_true, List.nodup_append]
    exact ⟨h, by simp, fun a ha b hb e => k (by rw [List.mem_singleton.1 hb] at e; exact e ▸ ha)⟩
theorem fold_mem : ∀ (us : List (List Nd)) (l : List (List Nd)) (c : List Nd), c ∈ us.foldl addF l ↔ c ∈ l ∨ c ∈ us
  | [], l, c => by simp
  | u :: r, l, c => by
    rw [List.foldl_cons, fold_mem r, addF_mem, List.mem_cons]
    exact or_assoc
theorem fold_nodup : ∀ (us : List (List Nd)) (l : List (List Nd)), l.Nodup → (us.foldl addF l).Nodup
  | [], _, h => h
  | _ :: r, _, h => fold_nodup r _ (addF_nodup h)
/-- A base of an expansion. -/
structure BaseOk (l : List (List Nd)) (t : Tr) : Prop where
  can : ∀ c ∈ l, ∃ s, Xf s ∧ c = canon s ∧ isBase s.top = true
  nodup : l.Nodup
  closed : Closed (l.map treeOf)
  cov : cov (l.map treeOf) t
  len : l.length ≤ 12
theorem mem_trees {l : List (List Nd)} (hl : ∀ c ∈ l, ∃ s, Xf s ∧ c = canon s ∧ isBase s.top = true) {s : Tr} : s ∈ l.map treeOf ↔ Xf s ∧ canon s ∈ l := by
  rw [List.mem_map]
  constructor
  · rintro ⟨c, hc, rfl⟩
    obtain ⟨u, hu, rfl, _⟩ := hl c hc
    rw [hu.tree]
    exact ⟨hu, hc⟩
  · rintro ⟨h1, h2⟩
    exact ⟨_, h2, h1.tree⟩
theorem unfs_mem {n : Nd} {a b : Tr} (h : Xf (.two n a b)) (ho : n.op = 13) {c : List Nd} : c ∈ unfsN (canon (.two n a b)) ↔ ∃ i, i < 4 ∧ gbit n.g i = true ∧ c = shortT (unfT i n a b) := by
  obtain ⟨e1, e2, _, _⟩ := last_two h.check h.tree
  unfold unfsN
  rw [e1, ho, e2]
  simp only [beq_self_eq_true, cond_true, List.mem_map, List.mem_filter, List.mem_range]
  constructor
  · rintro ⟨i, ⟨h1, h2⟩, rfl⟩
    exact ⟨i, h1, h2, h.unf h1⟩
  · rintro ⟨i, h1, h2, rfl⟩
    exact ⟨i, ⟨h1, h2⟩, h.unf h1⟩
theorem unfs_other {s : Tr} (h : Xf s) (ho : s.top.op ≠ 13) : unfsN (canon s) = [] := by
  unfold unfsN
  rw [h.last]
  have : (s.top.op == 13) = false := by simpa using ho
  rw [this]
  rfl
theorem top_two {s : Tr} (h : Xf s) (ho : s.top.op = 13) : ∃ n a b, s = .two n a b ∧ n.op = 13 := by
  cases s with
  | leaf n => have := h.xp.1.1.2; rw [show n.op = 13 from ho] at this; cases this
  | one n a => have := h.xp.1.1.2.1; rw [show n.op = 13 from ho] at this; cases this
  | two n a b => exact ⟨n, a, b, rfl, ho⟩
/-- The base of an expansion is closed. -/
theorem base_ok {t : Tr} (h : Xf t) (he : (baseOfN (canon t)).2 = 0) : BaseOk (baseOfN (canon t)).1 t := by
  unfold baseOfN at he ⊢
  cases hc : ((base0 (canon t)).flatMap unfsN).any (fun u => decide (u.length = 0)) || decide (12 < (((base0 (canon t)).flatMap unfsN).foldl addF (base0 (canon t))).length)
  case true => rw [hc] at he; cases he
  rw [cond_false]
  rw [Bool.or_eq_false_iff] at hc
  obtain ⟨hc1, hc2⟩ := hc
  generalize hl : ((base0 (canon t)).flatMap unfsN).foldl addF (base0 (canon t)) = l at hc2
  have hmem : ∀ c, c ∈ l ↔ c ∈ base0 (canon t) ∨ c ∈ (base0 (canon t)).flatMap unfsN := fun c => by rw [← hl]; exact fold_mem _ _ _
  have hne : ∀ u ∈ (base0 (canon t)).flatMap unfsN, u.length ≠ 0 := fun u hu => by
    have := List.any_eq_false.1 hc1 u hu
    simpa using this
  have hun : ∀ u ∈ (base0 (canon t)).flatMap unfsN, ∃ i n a b k, k < (canon t).length ∧ tr (canon t) k = .two n a b ∧ Xf (.two n a b) ∧ n.op = 13 ∧ i < 4 ∧ gbit n.g i = true ∧ Xf (unfT i n a b) ∧ u = canon (unfT i n a b) := fun u hu => by
    obtain ⟨c, hcb, huc⟩ := List.mem_flatMap.1 hu
    obtain ⟨k, hk, rfl, _⟩ := h.mem_base0.1 hcb
    have hx := h.at hk
    by_cases ho : (tr (canon t) k).top.op = 13
    · obtain ⟨n, a, b, e, ho'⟩ := top_two hx ho
      rw [e] at hx huc
      obtain ⟨i, hi, hg, rfl⟩ := (unfs_mem hx ho').1 huc
      have hl0 := hne _ hu
      have hlen : (canon (unfT i n a b)).length ≤ 200 := by
        by_cases e2 : (canon (unfT i n a b)).length ≤ 200
        · exact e2
        · rw [short_long (by omega)] at hl0; simp at hl0
      exact ⟨i, n, a, b, k, hk, e, hx, ho', hi, hg, ⟨hx.xp.unf hi, hlen⟩, short_fit hlen⟩
    · rw [unfs_other hx ho] at huc; cases huc
  have hcan : ∀ c ∈ l, ∃ s, Xf s ∧ c = canon s ∧ isBase s.top = true := fun c hc => by
    rcases (hmem c).1 hc with h1 | h1
    · obtain ⟨k, hk, rfl, hb⟩ := h.mem_base0.1 h1
      exact ⟨_, h.at hk, rfl, hb⟩
    · obtain ⟨i, n, a, b, _, _, _, _, _, _, _, hX, rfl⟩ := hun c h1
      exact ⟨_, hX, rfl, rfl⟩
  have hsub : ∀ k, k < (canon t).length → isBase (tr (canon t) k).top = true → tr (canon t) k ∈ l.map treeOf := fun k hk hb =>
    (mem_trees hcan).2 ⟨h.at hk, (hmem _).2 (.inl (h.mem_base0.2 ⟨k, hk, rfl, hb⟩))⟩
  have hcov : ∀ k, k < (canon t).length → cov (l.map treeOf) (tr (canon t) k) := by
    intro k
    induction k using Nat.strongRecOn with
    | _ k ih =>
      intro hk
      obtain ⟨n, hn⟩ : ∃ n, (canon t)[k]? = some n := ⟨_, List.getElem?_eq_getElem hk⟩
      obtain ⟨hx, hy⟩ := h.xp.1.wf k n hn
      have hs := hsub k hk
      rw [tr_eq h.xp.1.wf hn] at hs ⊢
      unfold mkTr at hs ⊢
      cases h2 : hasY n.op
      · cases h1 : hasX n.op
        · rw [h1, h2] at hs
          exact fun h3 => hs (by simp [isBase, Tr.top, h3])
        · rw [h1, h2] at hs
          have := hx h1
          simp only [cond_false, cond_true, _root_.Go.Proofs.YtbfeodammikajaaGreat.cov] at hs ⊢
          by_cases h9 : n.head.op = 9
          · rw [if_pos h9]; exact hs (by simp [isBase, Tr.top, h9])
          · rw [if_neg h9]; exact ih _ (by omega) (by omega)
      · rw [h2] at hs
        have := hx (hasX_of_hasY h2)
        have := hy h2
        simp only [cond_true, _root_.Go.Proofs.YtbfeodammikajaaGreat.cov] at hs ⊢
        by_cases h13 : n.head.op = 13
        · rw [if_pos h13]; exact hs (by simp [isBase, Tr.top, h13])
        · rw [if_neg h13]; exact ⟨ih _ (by omega) (by omega), ih _ (by omega) (by omega)⟩
  have hpart : ∀ k, k < (canon t).length → ∀ n a b, tr (canon t) k = .two n a b → cov (l.map treeOf) a ∧ cov (l.map treeOf) b := fun k hk n a b e => by
    obtain ⟨m, hm⟩ : ∃ m, (canon t)[k]? = some m := ⟨_, List.getElem?_eq_getElem hk⟩
    obtain ⟨hx, hy⟩ := h.xp.1.wf k m hm
    rw [tr_eq h.xp.1.wf hm] at e
    obtain ⟨h2, _, rfl, rfl⟩ := mk_two e
    have := hx (hasX_of_hasY h2)
    have := hy h2
    exact ⟨hcov _ (by omega), hcov _ (by omega)⟩
  have hpart1 : ∀ k, k < (canon t).length → ∀ n a, tr (canon t) k = .one n a → cov (l.map treeOf) a := fun k hk n a e => by
    obtain ⟨m, hm⟩ : ∃ m, (canon t)[k]? = some m := ⟨_, List.getElem?_eq_getElem hk⟩
    obtain ⟨hx, hy⟩ := h.xp.1.wf k m hm
    rw [tr_eq h.xp.1.wf hm] at e
    obtain ⟨h1, _, _, rfl⟩ := mk_one e
    have := hx h1
    exact hcov _ (by omega)
  refine ⟨hcan, by rw [← hl]; exact fold_nodup _ _ h.base0_nodup, ⟨fun n a hm => ?_, fun n a b hm => ?_⟩, ?_, by have := of_decide_eq_false hc2; show l.length ≤ 12; omega⟩
  · obtain ⟨hX, hm'⟩ := (mem_trees hcan).1 hm
    have hop : n.op = 9 := by
      obtain ⟨s, hs, e, hb⟩ := hcan _ hm'
      have h4 := ops_one hX.xp.1.1.1 hX.xp.1.1.2.1 hX.xp.2.1
      rw [← hX.inj hs e] at hb
      simp only [isBase, Tr.top, Bool.or_eq_true, beq_iff_eq] at hb
      omega
    refine ⟨hop, ?_, hX.of_one.xp.lang, agent_of hX.xp.1.2.1 (.inl hop)⟩
    rcases (hmem _).1 hm' with h1 | h1
    · obtain ⟨k, hk, e, _⟩ := h.mem_base0.1 h1
      exact hpart1 k hk n a ((hX.inj (h.at hk) e).symm)
    · obtain ⟨i, n', a', b', k, hk, e, hX', ho, hi, hg, hU, eu⟩ := hun _ h1
      have := hX.inj hU eu
      unfold unfT at this
      injection this with _ e2
      subst e2
      obtain ⟨c1, c2⟩ := hpart k hk _ _ _ e
      have hm2 := hsub k hk (by rw [e]; simp [isBase, Tr.top, ho])
      rw [e] at hm2
      simp only [_root_.Go.Proofs.YtbfeodammikajaaGreat.cov, show ¬ (7 : Int) = 13 by decide, show ¬ (5 : Int) = 13 by decide, if_false, ho, if_true]
      exact ⟨c1, c2, hm2⟩
  · obtain ⟨hX, hm'⟩ := (mem_trees hcan).1 hm
    rcases (hmem _).1 hm' with h1 | h1
    · obtain ⟨k, hk, e, hb⟩ := h.mem_base0.1 h1
      have et := hX.inj (h.at hk) e
      have hop : n.op = 13 := by
        have h5 := ops_two hX.xp.1.1.2.1 hX.xp.2.1
        rw [← et] at hb
        simp only [isBase, Tr.top, Bool.or_eq_true, beq_iff_eq] at hb
        omega
      obtain ⟨c1, c2⟩ := hpart k hk n a b et.symm
      refine ⟨hop, c1, c2, hX.of_two.1.xp.lang, hX.of_two.2.xp.lang, fun i hi hg => ?_⟩
      have hu : shortT (unfT i n a b) ∈ (base0 (canon t)).flatMap unfsN := List.mem_flatMap.2 ⟨_, h1, (unfs_mem hX hop).2 ⟨i, hi, hg, rfl⟩⟩
      have hl0 := hne _ hu
      have hlen : (canon (unfT i n a b)).length ≤ 200 := by
        by_cases e2 : (canon (unfT i n a b)).length ≤ 200
        · exact e2
        · rw [short_long (by omega)] at hl0; simp at hl0
      refine (mem_trees hcan).2 ⟨⟨hX.xp.unf hi, hlen⟩, (hmem _).2 (.inr ?_)⟩
      rw [← short_fit hlen]
      exact hu
    · obtain ⟨i, n', a', b', k, hk, e, hX', ho, hi, hg, hU, eu⟩ := hun _ h1
      have := hX.inj hU eu
      unfold unfT at this
      cases this
  · have hp := canon_pos h.xp.1.1
    have := hcov ((canon t).length - 1) (by omega)
    rw [show tr (canon t) ((canon t).length - 1) = t from h.tree] at this
    exact this
end Go.Proofs.YtbfeodammikajaaGreat

/- The expansion of a formula is that of its tree. -/

namespace Go.Proofs.YtbfeodammikajaaGreat

theorem take_snoc' {α : Type} {l : List α} {k : Nat} {a : α} (h : l[k]? = some a) : l.take (k + 1) = l.take k ++ [a] := by
  obtain ⟨hk, e⟩ := List.getElem?_eq_some_iff.1 h
  rw [List.take_succ_eq_append_getElem hk, e]
theorem expGo_step {l : List Nd} {k : Nat} {n : Nd} (hn : l[k]? = some n) {d d' : List (List Nd)} (h : expGo (l.take k) d = some d') :
    expGo (l.take (k + 1)) d = bif decide ((expS n (d'.getD n.x.toNat []) (d'.getD n.y.toNat [])).length = 0) then none else some (d' ++ [expS n (d'.getD n.x.toNat []) (d'.getD n.y.toNat [])]) := by
  have key : ∀ (a b : List Nd) (d d' : List (List Nd)), expGo a d = some d' → expGo (a ++ b) d = expGo b d' := by
    intro a
    induction a with
    | nil => intro b d d' h; injection h with h; subst h; rfl
    | cons x r ih =>
      intro b d d' h
      simp only [expGo, List.cons_append] at h ⊢
      cases hz : decide ((expS x (d.getD x.x.toNat []) (d.getD x.y.toNat [])).length = 0)
      · rw [hz] at h; exact ih b _ _ h
      · rw [hz] at h; cases h
  rw [take_snoc' hn, key _ _ _ _ h]
  simp only [expGo]
theorem expGo_none {l : List Nd} {k : Nat} {d : List (List Nd)} (h : expGo (l.take k) d = none) : expGo l d = none := by
  have key : ∀ (a b : List Nd) (d : List (List Nd)), expGo a d = none → expGo (a ++ b) d = none := by
    intro a
    induction a with
    | nil => intro b d h; cases h
    | cons x r ih =>
      intro b d h
      simp only [expGo, List.cons_append] at h ⊢
      cases hz : decide ((expS x (d.getD x.x.toNat []) (d.getD x.y.toNat [])).length = 0)
      · rw [hz] at h; exact ih b _ h
      · rfl
  have := key _ (l.drop k) d h
  rwa [List.take_append_drop] at this

theorem expS_congr {n : Nd} {a a' b b' : List Nd} (hx : hasX n.op = true → a = a') (hy : hasY n.op = true → b = b') (ho : tyOp n.op) : expS n a b = expS n a' b' := by
  have hop : n.op = 1 ∨ n.op = 2 ∨ n.op = 3 ∨ n.op = 4 ∨ n.op = 5 ∨ n.op = 6 ∨ n.op = 7 ∨ n.op = 8 ∨ n.op = 9 ∨ n.op = 10 ∨ n.op = 11 ∨ n.op = 13 := by unfold tyOp at ho; omega
  unfold expS
  rcases hop with h | h | h | h | h | h | h | h | h | h | h | h
  · simp [h]
  · simp [h]
  · simp [h]
  · rw [hx (by rw [h]; rfl)]; simp [h]
  · rw [hx (by rw [h]; rfl), hy (by rw [h]; rfl)]
  · rw [hx (by rw [h]; rfl), hy (by rw [h]; rfl)]
  · rw [hx (by rw [h]; rfl), hy (by rw [h]; rfl)]
  · rw [hx (by rw [h]; rfl), hy (by rw [h]; rfl)]
  · rw [hx (by rw [h]; rfl)]; simp [h]
  · rw [hx (by rw [h]; rfl)]; simp [h]
  · rw [hx (by rw [h]; rfl)]; simp [h]
  · rw [hx (by rw [h]; rfl), hy (by rw [h]; rfl)]
theorem ands_ex : ∀ (r : List Tr) (t : Tr), t.all exOp → (∀ u ∈ r, u.all exOp) → (andsT t r).all exOp
  | [], _, ht, _ => ht
  | u :: r, t, ht, hr => ands_ex r _ ⟨.inl ⟨by decide, by decide⟩, ht, hr u (List.mem_cons_self ..)⟩ (fun v hv => hr v (List.mem_cons_of_mem _ hv))
theorem all_ex : ∀ (l : List Tr), (∀ u ∈ l, u.all exOp) → (allT l).all exOp
  | [], _ => .inl ⟨by decide, by decide⟩
  | t :: r, h => ands_ex r t (h t (List.mem_cons_self ..)) (fun v hv => h v (List.mem_cons_of_mem _ hv))
theorem expM_ex {n : Nd} {a b : Tr} (ho : tyOp n.op) (ha : hasX n.op = true → a.all exOp) (hb : hasY n.op = true → b.all exOp) : (expM n a b).all exOp := by
  unfold expM
  by_cases h10 : n.op = 10
  · rw [if_pos h10]
    have h := ha (by rw [h10]; rfl)
    exact ⟨.inl ⟨by decide, by decide⟩, .inl ⟨show (1 : Int) ≤ 9 by decide, show (9 : Int) ≤ 9 by decide⟩, .inl ⟨by decide, by decide⟩, h⟩
  · rw [if_neg h10]
    by_cases h11 : n.op = 11
    · rw [if_pos h11]
      have h := ha (by rw [h11]; rfl)
      refine all_ex _ fun u hu => ?_
      obtain ⟨i, _, rfl⟩ := List.mem_map.1 hu
      exact ⟨.inl ⟨show (1 : Int) ≤ 9 by decide, show (9 : Int) ≤ 9 by decide⟩, h⟩
    · rw [if_neg h11]
      have hn : exOp n := by unfold tyOp at ho; unfold exOp; omega
      unfold mkTr
      cases h2 : hasY n.op
      · cases h1 : hasX n.op
        · exact hn
        · exact ⟨hn, ha h1⟩
      · exact ⟨hn, ha (hasX_of_hasY h2), hb h2⟩
theorem getD_range {α : Type} (g : Nat → α) (d : α) {k j : Nat} (h : j < k) : ((List.range k).map g).getD j d = g j := by
  rw [List.getD_eq_getElem?_getD, List.getElem?_map, List.getElem?_range h]
  rfl
/-- What the expansions of a list's nodes come to. -/
theorem expGo_trees {c : List Nd} (hw : Wf c) (hh : ∀ n ∈ c, headOk n) (hl : ∀ n ∈ c, tyOp n.op) : ∀ (k : Nat) (d : List (List Nd)), k ≤ c.length → expGo (c.take k) [] = some d →
    d = (List.range k).map (fun j => canon (expT (tr c j))) ∧ ∀ j, j < k → Xf (expT (tr c j))
  | 0, d, _, h => by
    injection h with h
    exact ⟨h.symm, fun j hj => absurd hj (by omega)⟩
  | k + 1, d, hk, h => by
    obtain ⟨n, hn⟩ : ∃ n, c[k]? = some n := ⟨_, List.getElem?_eq_getElem (by omega)⟩
    cases hd : expGo (c.take k) [] with
    | none =>
      have hp : c.take k = (c.take (k + 1)).take k := by rw [List.take_take]; congr 1; omega
      rw [hp] at hd
      rw [expGo_none hd] at h
      cases h
    | some d' =>
      obtain ⟨e1, e2⟩ := expGo_trees hw hh hl k d' (by omega) hd
      rw [expGo_step hn hd] at h
      have hm := List.mem_of_getElem? hn
      obtain ⟨hx, hy⟩ := hw k n hn
      have gx : hasX n.op = true → d'.getD n.x.toNat [] = shortT (expT (tr c n.x.toNat)) := fun h1 => by
        have := hx h1
        rw [e1, getD_range (fun j => canon (expT (tr c j))) [] (by omega), (e2 _ (by omega)).short]
      have gy : hasY n.op = true → d'.getD n.y.toNat [] = shortT (expT (tr c n.y.toNat)) := fun h1 => by
        have := hy h1
        rw [e1, getD_range (fun j => canon (expT (tr c j))) [] (by omega), (e2 _ (by omega)).short]
      have hE := expS_short (a := expT (tr c n.x.toNat)) (b := expT (tr c n.y.toNat)) (hh n hm) (hl n hm) (fun h1 => by have := hx h1; exact (e2 _ (by omega)).xp.1) (fun h1 => by have := hy h1; exact (e2 _ (by omega)).xp.1)
      have hX := expM_ex (a := expT (tr c n.x.toNat)) (b := expT (tr c n.y.toNat)) (hl n hm) (fun h1 => by have := hx h1; exact (e2 _ (by omega)).xp.2) (fun h1 => by have := hy h1; exact (e2 _ (by omega)).xp.2)
      have ht : expM n (expT (tr c n.x.toNat)) (expT (tr c n.y.toNat)) = expT (tr c k) := by rw [tr_eq hw hn, expT_mk]
      rw [expS_congr gx gy (hl n hm), hE.1, ht] at h
      rw [ht] at hE hX
      cases hz : decide ((shortT (expT (tr c k))).length = 0)
      · rw [hz] at h
        injection h with h
        have hlen : (canon (expT (tr c k))).length ≤ 200 := by
          by_cases e : (canon (expT (tr c k))).length ≤ 200
          · exact e
          · have := of_decide_eq_false hz
            rw [short_long (by omega)] at this
            exact absurd rfl this
        rw [short_fit hlen, e1] at h
        refine ⟨?_, fun j hj => ?_⟩
        · rw [← h, List.range_succ, List.map_append]
          rfl
        · by_cases e : j < k
          · exact e2 j e
          · have : j = k := by omega
            subst this
            exact ⟨⟨hE.2, hX⟩, hlen⟩
      · rw [hz] at h; cases h
theorem mask_bits {l : List Nd} (h : fragMask l &&& 500 = 0) : ∀ n ∈ l, (fragOf n.op).toNat &&& 500 = 0 := by
  have key : ∀ (l : List Nd) (m : Nat), (l.foldl (fun m n => m ||| (fragOf n.op).toNat) m) &&& 500 = 0 → m &&& 500 = 0 ∧ ∀ n ∈ l, (fragOf n.op).toNat &&& 500 = 0 := by
    intro l
    induction l with
    | nil => intro m h; exact ⟨h, fun n hn => by cases hn⟩
    | cons a r ih =>
      intro m h
      obtain ⟨h1, h2⟩ := ih _ h
      rw [Nat.and_or_distrib_right] at h1
      have l1 : m &&& 500 ≤ m &&& 500 ||| (fragOf a.op).toNat &&& 500 := Nat.left_le_or
      have l2 : (fragOf a.op).toNat &&& 500 ≤ m &&& 500 ||| (fragOf a.op).toNat &&& 500 := Nat.right_le_or
      refine ⟨by omega, fun n hn => ?_⟩
      rcases List.mem_cons.1 hn with rfl | hn
      · omega
      · exact h2 n hn
  exact (key l 0 h).2
theorem lang_ops {f : List Nd} (hc : check f = 0) (hl : langBad f = false) : ∀ n ∈ compactN f, tyOp n.op := by
  intro n hn
  unfold langBad fragsN at hl
  have hb := mask_bits (by simpa using hl) n hn
  have ho := (isOp_iff n.op).1 ((compactN_props hc).2.2.2 n hn).1
  have : n.op = 1 ∨ n.op = 2 ∨ n.op = 3 ∨ n.op = 4 ∨ n.op = 5 ∨ n.op = 6 ∨ n.op = 7 ∨ n.op = 8 ∨ n.op = 9 ∨ n.op = 10 ∨ n.op = 11 ∨ n.op = 12 ∨ n.op = 13 ∨ n.op = 14 ∨ n.op = 15 ∨ n.op = 16 ∨ n.op = 17 ∨ n.op = 18 ∨ n.op = 19 ∨ n.op = 20 ∨ n.op = 21 := by omega
  unfold tyOp
  rcases this with h | h | h | h | h | h | h | h | h | h | h | h | h | h | h | h | h | h | h | h | h <;> first | omega | (rw [h] at hb; exact absurd hb (by decide))
/-- The expansion of a formula. -/
theorem expand_tree {f : List Nd} (hc : check f = 0) (hl : langBad f = false) (hne : (expandN f).length ≠ 0) : Xf (expT (treeOf f)) ∧ expandN f = canon (expT (treeOf f)) := by
  obtain ⟨hw, _, hp, hh⟩ := compactN_props hc
  unfold expandN at hne ⊢
  cases hd : expGo (compactN f) [] with
  | none => rw [hd] at hne; exact absurd rfl hne
  | some d =>
    have h := expGo_trees hw hh (lang_ops hc hl) (compactN f).length d (Nat.le_refl _) (by rw [List.take_of_length_le (Nat.le_refl _)]; exact hd)
    obtain ⟨e1, e2⟩ := h
    have et : tr (compactN f) ((compactN f).length - 1) = treeOf f := treeOf_compact hc
    have hx := e2 ((compactN f).length - 1) (by omega)
    rw [et] at hx
    refine ⟨hx, ?_⟩
    show d.getLastD [] = _
    obtain ⟨m, hm⟩ : ∃ m, (compactN f).length = m + 1 := ⟨(compactN f).length - 1, by omega⟩
    rw [e1, hm, List.range_succ, List.map_append]
    rw [hm] at et
    simp only [List.map_cons, List.map_nil, List.getLastD_concat]
    rw [← et]
    rfl
end Go.Proofs.YtbfeodammikajaaGreat
