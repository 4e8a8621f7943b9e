/- The reference's constructor of a node with two operands. -/
import Derived.Test.YtbfeodammikajaaGreatG29
import Derived.Test.YtbfeodammikajaaGreatG11
import Derived.Test.YtbfeodammikajaaGreatG12

namespace Go.Proofs.YtbfeodammikajaaGreat
open Go.RowKit

set_option maxRecDepth 100000 in
set_option maxHeartbeats 8000000 in
theorem binary_any (x : Nd) (v1 v2 : Value) (f g : List Nd) (w : World) (hx : headOk x) (hxo : x.ok) (h1 : hasX x.op = true) (h2 : hasY x.op = true) (hf : Fml w v1 f) (hg : Fml w v2 g) :
    Calls Tryz.prog 67 #[x.val, v1, v2] w fun e w' => ∃ u, e = .returned u ∧ Made w w' u (buildN x [f, g]) := by
  have H := Lib.hid hf
  have HG := Lib.hid hg
  obtain ⟨⟨A, c, rfl, hat⟩, hok⟩ := hf
  obtain ⟨⟨A2, c2, rfl, hat2⟩, hok2⟩ := hg
  have hcl := hat.1
  have hcm := hat.2.1
  have hcl2 := hat2.1
  have hcm2 := hat2.2.1
  unfold maxLen at hcm hcm2
  have HREAD := Lib.hid hat.2.2
  have HREAD2 := Lib.hid hat2.2.2
  obtain ⟨i0, hi0, hz0', hz1', hz2'⟩ := info_parts tInfo
  clear hat hok hat2 hok2
  by_cases hc : check f = 0
  · by_cases hcg : check g = 0
    · have HC := Lib.hid hc
      have HCG := Lib.hid hcg
      have HUN := Lib.hid (bin_short hc hcg h1 h2 hx (m := { x with x := (f.length : Int) - 1, y := (f.length : Int) + g.length - 1 }) rfl)
      obtain ⟨hp0, hl200, _⟩ := check_parts hc
      obtain ⟨hq0, hm200, _⟩ := check_parts hcg
      have HWG := Lib.hid (check_wf hcg)
      have HXO := Lib.hid hxo
      obtain ⟨o, i, e, k0, p, q⟩ := x
      unfold Nd.val
      clear hc hcg hx hxo h1 h2
      go_enter Tryz.func67, Tryz.ntmps67
      go_wp2_with fail
      refine (refCheck_any _ f _ (H.out.1.ext ((Ext.refl _).alloc _))).mono ?_
      rintro e1 w1 ⟨rfl, hb⟩
      rw [HC.out]
      have HX1 := Lib.hid (Ext.trans ((Ext.refl w).alloc _) hb)
      have HBX : Hid (w1.heap[w.heap.size]? = some (.cells #[.int .i64 o, .int .i64 i, .int .i64 e, .int .i64 k0, .int .i64 p, .int .i64 q] 93 (0, 0))) := Lib.hid ((hb.block (by simp)).trans (heap_alloc_new _ _))
      clear hb
      go_wp2_with fail
      refine (refCheck_any _ g _ (HG.out.1.ext HX1.out)).mono ?_
      rintro e1 w2 ⟨rfl, hb⟩
      rw [HCG.out]
      have HX2 := Lib.hid (Ext.trans HX1.out hb)
      have HBX2 : Hid (w2.heap[w.heap.size]? = some (.cells #[.int .i64 o, .int .i64 i, .int .i64 e, .int .i64 k0, .int .i64 p, .int .i64 q] 93 (0, 0))) := Lib.hid ((hb.block (lt_heap HBX.out)).trans HBX.out)
      clear hb
      go_wp2_with fail
      go_loopw [7, 8] (fun v5 i5 wr => ∃ k : Nat, k ≤ f.length ∧ i5 = .int .i64 k ∧ Hid (wr.ownsRow (w.heap.size + 1) 93 6 v5 k ((f.take k).flatMap Nd.cells)) ∧ Hid (wr.heap[w.heap.size]? = some (.cells #[.int .i64 o, .int .i64 i, .int .i64 e, .int .i64 k0, .int .i64 p, .int .i64 q] 93 (0, 0))) ∧ Ext w wr) (fun _ i _ => f.length - (intOf i).toNat)
      case atStart => exact ⟨0, Nat.zero_le _, rfl, Lib.hid (by simpa using World.ownsRow_nil _ _ _ _), HBX2, HX2.out⟩
      case round =>
        obtain ⟨k, hk, rfl, HROW, HBK, hext⟩ := hrel
        obtain ⟨A5, c5, rfl⟩ := slice_of_row HROW.out
        have HNE := Lib.hid (row_ne HROW.out)
        by_cases hlt : k < f.length
        · obtain ⟨a, ha⟩ : ∃ a, f[k]? = some a := ⟨_, List.getElem?_eq_getElem hlt⟩
          obtain ⟨ad, rfl, hb1, hc1⟩ := HREAD.out (by intro e; rw [e] at hlt; simp at hlt)
          obtain ⟨a0, a1, a2, a3, a4, a5⟩ := (hc1 k a ha).keep fun p hp => hext.cell (p := p) (by rw [hp, block_of_add]; exact hb1)
          obtain ⟨xs, hxs⟩ : ∃ xs, xs = (f.take k).flatMap Nd.cells := ⟨_, rfl⟩
          rw [← hxs] at HROW
          have HTK : Hid (xs ++ a.cells = (f.take (k + 1)).flatMap Nd.cells) := Lib.hid (by rw [hxs, take_succ_eq ha, List.flatMap_append]; simp)
          have hc3 : k + 1 ≤ maxLen := by unfold maxLen; omega
          have hc4 : (k + 1) * 48 ≤ 140737488355328 := by omega
          have hc5 : ∀ X, w.heap.size + 1 ≤ (wr.alloc X).heap.size := fun X => by have := hext.size; simp; omega
          clear hxs hc1 ha
          go_wp2_with (at_builtin; refine wpList_append_own_at _ rfl _ _ 22 rfl (w.heap.size + 1) 93 i0 Nd.zero.val 6 48 Tryz.underlying22 hi0 hz0' hz1' hz2' rfl (by decide) _ _ _ rfl (row_ext HROW.out ((Ext.refl _).alloc _)) _ 1 1 a.cells rfl rfl (row_new_at _ _ _ rfl) (node_cells a) hc3 hc4 (hc5 _) ?_)
          intro v' w4 hown4 hgrow4 _ hat4
          obtain ⟨A4, c4, rfl⟩ := slice_of_row hown4
          have HROW4 : Hid (w4.ownsRow (w.heap.size + 1) 93 6 (.slice A4 (k + 1) c4) (k + 1) ((f.take (k + 1)).flatMap Nd.cells)) := Lib.hid (by rw [← HTK.out]; exact hown4)
          have HBK4 := Lib.hid (box_grown HBK.out HNE.out ((Ext.refl _).alloc _) hgrow4)
          have HX4 := Lib.hid ((Ext.alloc hext _).grown hgrow4 (fun g hg => by have := (HROW.out.lt g hg).1; omega))
          clear hown4 hgrow4 hat4
          go_wp2_with fail
          go_roundw
          case rel => exact ⟨k + 1, by omega, by go_num, HROW4, HBK4, HX4.out⟩
          case measure => simp [intOf]; omega
        · obtain rfl : f.length = k := by omega
          rw [List.take_of_length_le (Nat.le_refl _)] at HROW
          have HRW0 : Hid (wr.ownsRow (w.heap.size + 1) 93 6 (.slice A5 f.length c5) (f.length + 0) ((f ++ (g.take 0).map (shiftN f.length)).flatMap Nd.cells)) := Lib.hid (by simpa using HROW.out)
          have HEXT := Lib.hid hext
          clear HROW HNE hext
          obtain ⟨wq, hwq⟩ : ∃ wq : World, wq = wr := ⟨_, rfl⟩
          rw [← hwq] at HRW0 HBK HEXT ⊢
          clear hwq
          go_wp2_with fail
          go_loopw [7, 9] (fun v5 i5 wr => ∃ j : Nat, j ≤ g.length ∧ i5 = .int .i64 j ∧ Hid (wr.ownsRow (w.heap.size + 1) 93 6 v5 (f.length + j) ((f ++ (g.take j).map (shiftN f.length)).flatMap Nd.cells)) ∧ Hid (wr.heap[w.heap.size]? = some (.cells #[.int .i64 o, .int .i64 i, .int .i64 e, .int .i64 k0, .int .i64 p, .int .i64 q] 93 (0, 0))) ∧ Ext w wr) (fun _ i _ => g.length - (intOf i).toNat)
          case atStart => exact ⟨0, Nat.zero_le _, rfl, HRW0, HBK, HEXT.out⟩
          case round =>
            obtain ⟨j, hj, rfl, HROW2, HBK2, hext⟩ := hrel
            obtain ⟨A6, c6, rfl⟩ := slice_of_row HROW2.out
            have HNE := Lib.hid (row_ne HROW2.out)
            by_cases hlt2 : j < g.length
            · obtain ⟨a, ha⟩ : ∃ a, g[j]? = some a := ⟨_, List.getElem?_eq_getElem hlt2⟩
              obtain ⟨adc, rfl, hbc, hcc2⟩ := HREAD2.out (by intro e; rw [e] at hlt2; simp at hlt2)
              obtain ⟨a0, a1, a2, a3, a4, a5⟩ := (hcc2 j a ha).keep fun p hp => hext.cell (p := p) (by rw [hp, block_of_add]; exact hbc)
              obtain ⟨xs, hxs⟩ : ∃ xs, xs = (f ++ (g.take j).map (shiftN f.length)).flatMap Nd.cells := ⟨_, rfl⟩
              rw [← hxs] at HROW2
              have HXS := Lib.hid hxs
              clear hxs
              have hxy := HWG.out j a ha
              have HTK := Lib.hid (take_succ_eq ha)
              have hc3 : f.length + j + 1 ≤ maxLen := by unfold maxLen; omega
              have hc4 : (f.length + j + 1) * 48 ≤ 140737488355328 := by omega
              have hxb : hasX a.op = true → 0 ≤ a.x ∧ a.x < 200 := fun e => by have := hxy.1 e; omega
              have hyb : hasY a.op = true → 0 ≤ a.y ∧ a.y < 200 := fun e => by have := hxy.2 e; omega
              have HZ := Lib.hid hext.size
              clear hcc2 hxy ha
              rcases xy_cases a.op with ⟨hux, huy⟩ | ⟨hux, huy⟩ | ⟨hux, huy⟩
              · -- no operands
                have HUX := Lib.hid hux; have HUY := Lib.hid huy
                have HN2 : Hid (xs ++ [.int .i64 a.op, .int .i64 a.i, .int .i64 a.e, .int .i64 a.g, .int .i64 (a.x), .int .i64 (a.y)] = (f ++ (g.take (j + 1)).map (shiftN f.length)).flatMap Nd.cells) :=
                  Lib.hid (by rw [HXS.out, HTK.out, List.map_append, ← List.append_assoc, List.flatMap_append]; simp [shiftN, hux, huy, Nd.cells])
                clear hux huy hxb hyb
                go_wp2_with (first | (go_at_call 89; refine (usesX_as HUX.out _).mono ?_; rintro e1 w5 ⟨rfl, rfl⟩) | (go_at_call 90; refine (usesY_as HUY.out _).mono ?_; rintro e1 w5 ⟨rfl, rfl⟩) | (at_builtin; refine wpList_append_own_at _ rfl _ _ 22 rfl (w.heap.size + 1) 93 i0 Nd.zero.val 6 48 Tryz.underlying22 hi0 hz0' hz1' hz2' rfl (by decide) _ _ _ rfl (row_ext HROW2.out ?hx) _ 1 1 [.int .i64 a.op, .int .i64 a.i, .int .i64 a.e, .int .i64 a.g, .int .i64 (a.x), .int .i64 (a.y)] rfl rfl ?c1 ?c2 hc3 hc4 ?c5 ?_))
                case hx => repeat (first | exact Ext.refl _ | apply Ext.alloc | apply Ext.drew | refine Ext.setCell ?_ (Nat.le_refl _) _)
                case c1 => exact row_new_at _ _ _ (by simp)
                case c2 =>
                  intro u hu
                  simp only [List.mem_cons, List.mem_nil_iff, or_false] at hu
                  rcases hu with rfl | rfl | rfl | rfl | rfl | rfl <;> rfl
                case c5 =>
                  have h1 := HZ.out
                  simp
                  omega
                intro v' w4 hown4 hgrow4 _ hat4
                obtain ⟨A4, c4, rfl⟩ := slice_of_row hown4
                have HROW4 : Hid (w4.ownsRow (w.heap.size + 1) 93 6 (.slice A4 (f.length + j + 1) c4) (f.length + (j + 1)) ((f ++ (g.take (j + 1)).map (shiftN f.length)).flatMap Nd.cells)) := Lib.hid (by rw [← HN2.out]; exact hown4)
                have HBK4 := Lib.hid (box_grown HBK2.out HNE.out (by repeat (first | exact Ext.refl _ | apply Ext.alloc | apply Ext.drew | refine Ext.setCell ?_ (Nat.le_refl _) _)) hgrow4)
                have HX4 := Lib.hid (Ext.grown (a := w) (by repeat (first | exact hext | apply Ext.alloc | apply Ext.drew | refine Ext.setCell ?_ HZ.out _)) hgrow4 (fun g hg => by have := (HROW2.out.lt g hg).1; omega))
                clear hown4 hgrow4 hat4
                go_wp2_with fail
                go_roundw
                case rel => exact ⟨j + 1, by omega, by go_num, HROW4, HBK4, HX4.out⟩
                case measure => simp [intOf]; omega
              · -- one operand
                obtain ⟨bx0, bx1⟩ := hxb hux
                have HUX := Lib.hid hux; have HUY := Lib.hid huy
                have HN2 : Hid (xs ++ [.int .i64 a.op, .int .i64 a.i, .int .i64 a.e, .int .i64 a.g, .int .i64 (a.x + (f.length : Int)), .int .i64 (a.y)] = (f ++ (g.take (j + 1)).map (shiftN f.length)).flatMap Nd.cells) :=
                  Lib.hid (by rw [HXS.out, HTK.out, List.map_append, ← List.append_assoc, List.flatMap_append]; simp [shiftN, hux, huy, Nd.cells])
                clear hux huy hxb hyb
                go_wp2_with (first | (go_at_call 89; refine (usesX_as HUX.out _).mono ?_; rintro e1 w5 ⟨rfl, rfl⟩) | (go_at_call 90; refine (usesY_as HUY.out _).mono ?_; rintro e1 w5 ⟨rfl, rfl⟩) | (at_builtin; refine wpList_append_own_at _ rfl _ _ 22 rfl (w.heap.size + 1) 93 i0 Nd.zero.val 6 48 Tryz.underlying22 hi0 hz0' hz1' hz2' rfl (by decide) _ _ _ rfl (row_ext HROW2.out ?hx) _ 1 1 [.int .i64 a.op, .int .i64 a.i, .int .i64 a.e, .int .i64 a.g, .int .i64 (a.x + (f.length : Int)), .int .i64 (a.y)] rfl rfl ?c1 ?c2 hc3 hc4 ?c5 ?_))
                case hx => repeat (first | exact Ext.refl _ | apply Ext.alloc | apply Ext.drew | refine Ext.setCell ?_ (Nat.le_refl _) _)
                case c1 => exact row_new_at _ _ _ (by simp)
                case c2 =>
                  intro u hu
                  simp only [List.mem_cons, List.mem_nil_iff, or_false] at hu
                  rcases hu with rfl | rfl | rfl | rfl | rfl | rfl <;> rfl
                case c5 =>
                  have h1 := HZ.out
                  simp
                  omega
                intro v' w4 hown4 hgrow4 _ hat4
                obtain ⟨A4, c4, rfl⟩ := slice_of_row hown4
                have HROW4 : Hid (w4.ownsRow (w.heap.size + 1) 93 6 (.slice A4 (f.length + j + 1) c4) (f.length + (j + 1)) ((f ++ (g.take (j + 1)).map (shiftN f.length)).flatMap Nd.cells)) := Lib.hid (by rw [← HN2.out]; exact hown4)
                have HBK4 := Lib.hid (box_grown HBK2.out HNE.out (by repeat (first | exact Ext.refl _ | apply Ext.alloc | apply Ext.drew | refine Ext.setCell ?_ (Nat.le_refl _) _)) hgrow4)
                have HX4 := Lib.hid (Ext.grown (a := w) (by repeat (first | exact hext | apply Ext.alloc | apply Ext.drew | refine Ext.setCell ?_ HZ.out _)) hgrow4 (fun g hg => by have := (HROW2.out.lt g hg).1; omega))
                clear hown4 hgrow4 hat4
                go_wp2_with fail
                go_roundw
                case rel => exact ⟨j + 1, by omega, by go_num, HROW4, HBK4, HX4.out⟩
                case measure => simp [intOf]; omega
              · -- two operands
                obtain ⟨bx0, bx1⟩ := hxb hux
                obtain ⟨by0, by1⟩ := hyb huy
                have HUX := Lib.hid hux; have HUY := Lib.hid huy
                have HN2 : Hid (xs ++ [.int .i64 a.op, .int .i64 a.i, .int .i64 a.e, .int .i64 a.g, .int .i64 (a.x + (f.length : Int)), .int .i64 (a.y + (f.length : Int))] = (f ++ (g.take (j + 1)).map (shiftN f.length)).flatMap Nd.cells) :=
                  Lib.hid (by rw [HXS.out, HTK.out, List.map_append, ← List.append_assoc, List.flatMap_append]; simp [shiftN, hux, huy, Nd.cells])
                clear hux huy hxb hyb
                go_wp2_with (first | (go_at_call 89; refine (usesX_as HUX.out _).mono ?_; rintro e1 w5 ⟨rfl, rfl⟩) | (go_at_call 90; refine (usesY_as HUY.out _).mono ?_; rintro e1 w5 ⟨rfl, rfl⟩) | (at_builtin; refine wpList_append_own_at _ rfl _ _ 22 rfl (w.heap.size + 1) 93 i0 Nd.zero.val 6 48 Tryz.underlying22 hi0 hz0' hz1' hz2' rfl (by decide) _ _ _ rfl (row_ext HROW2.out ?hx) _ 1 1 [.int .i64 a.op, .int .i64 a.i, .int .i64 a.e, .int .i64 a.g, .int .i64 (a.x + (f.length : Int)), .int .i64 (a.y + (f.length : Int))] rfl rfl ?c1 ?c2 hc3 hc4 ?c5 ?_))
                case hx => repeat (first | exact Ext.refl _ | apply Ext.alloc | apply Ext.drew | refine Ext.setCell ?_ (Nat.le_refl _) _)
                case c1 => exact row_new_at _ _ _ (by simp)
                case c2 =>
                  intro u hu
                  simp only [List.mem_cons, List.mem_nil_iff, or_false] at hu
                  rcases hu with rfl | rfl | rfl | rfl | rfl | rfl <;> rfl
                case c5 =>
                  have h1 := HZ.out
                  simp
                  omega
                intro v' w4 hown4 hgrow4 _ hat4
                obtain ⟨A4, c4, rfl⟩ := slice_of_row hown4
                have HROW4 : Hid (w4.ownsRow (w.heap.size + 1) 93 6 (.slice A4 (f.length + j + 1) c4) (f.length + (j + 1)) ((f ++ (g.take (j + 1)).map (shiftN f.length)).flatMap Nd.cells)) := Lib.hid (by rw [← HN2.out]; exact hown4)
                have HBK4 := Lib.hid (box_grown HBK2.out HNE.out (by repeat (first | exact Ext.refl _ | apply Ext.alloc | apply Ext.drew | refine Ext.setCell ?_ (Nat.le_refl _) _)) hgrow4)
                have HX4 := Lib.hid (Ext.grown (a := w) (by repeat (first | exact hext | apply Ext.alloc | apply Ext.drew | refine Ext.setCell ?_ HZ.out _)) hgrow4 (fun g hg => by have := (HROW2.out.lt g hg).1; omega))
                clear hown4 hgrow4 hat4
                go_wp2_with fail
                go_roundw
                case rel => exact ⟨j + 1, by omega, by go_num, HROW4, HBK4, HX4.out⟩
                case measure => simp [intOf]; omega
            · obtain rfl : g.length = j := by omega
              rw [List.take_of_length_le (Nat.le_refl _)] at HROW2
              obtain ⟨⟨d0, d1, d2, d3, d4, d5⟩, dfr, dlt⟩ := cells6 HBK2.out
              have hfz4 := dfr 4
              have hfz5 := dfr 5
              obtain ⟨F, hF⟩ : ∃ F, F = f ++ g.map (shiftN f.length) := ⟨_, rfl⟩
              have HFL : Hid (F.length = f.length + g.length) := Lib.hid (by rw [hF]; simp)
              obtain ⟨m, hm⟩ : ∃ m : Nd, m = ⟨o, i, e, k0, (f.length : Int) - 1, (f.length : Int) + g.length - 1⟩ := ⟨_, rfl⟩
              have HMX := Lib.hid (show m.cells = [.int .i64 o, .int .i64 i, .int .i64 e, .int .i64 k0, .int .i64 ((f.length : Int) - 1), .int .i64 ((f.length : Int) + g.length - 1)] by rw [hm]; rfl)
              have HMO : Hid (m.ok) := Lib.hid (by obtain ⟨x1, x2, x3, x4, x5, x6⟩ := HXO.out; rw [hm]; exact ⟨x1, x2, x3, x4, ⟨by show (-9223372036854775808 : Int) ≤ (f.length : Int) - 1; omega, by show (f.length : Int) - 1 ≤ 9223372036854775807; omega⟩, ⟨by show (-9223372036854775808 : Int) ≤ (f.length : Int) + g.length - 1; omega, by show (f.length : Int) + g.length - 1 ≤ 9223372036854775807; omega⟩⟩)
              have HOKF : Hid (∀ n ∈ F, n.ok) := Lib.hid (fun n hn => by
                rw [hF] at hn
                rcases List.mem_append.1 hn with hn | hn
                · exact H.out.2 n hn
                · obtain ⟨n', hn', rfl⟩ := List.mem_map.1 hn
                  obtain ⟨kk, hkk⟩ := List.getElem?_of_mem hn'
                  obtain ⟨x1, x2, x3, x4, x5, x6⟩ := HG.out.2 n' hn'
                  have hlk := (List.getElem?_eq_some_iff.1 hkk).1
                  have hxy := HWG.out kk n' hkk
                  refine ⟨x1, x2, x3, x4, ?_, ?_⟩
                  · show i64ok (bif hasX n'.op then n'.x + f.length else n'.x)
                    cases hh : hasX n'.op
                    · exact x5
                    · have := hxy.1 hh
                      exact ⟨by show (-9223372036854775808 : Int) ≤ n'.x + f.length; omega, by show n'.x + f.length ≤ (9223372036854775807 : Int); omega⟩
                  · show i64ok (bif hasY n'.op then n'.y + f.length else n'.y)
                    cases hh : hasY n'.op
                    · exact x6
                    · have := hxy.2 hh
                      exact ⟨by show (-9223372036854775808 : Int) ≤ n'.y + f.length; omega, by show n'.y + f.length ≤ (9223372036854775807 : Int); omega⟩)
              have HU : Hid (nodeErr m ((f.length : Int) + g.length) = 0 ∧ Wf (F ++ [m]) ∧ shortN (F ++ [m]) = buildN ⟨o, i, e, k0, p, q⟩ [f, g]) := Lib.hid (by rw [hm, hF]; exact HUN.out)
              rw [← hF] at HROW2
              obtain ⟨xs, hxs⟩ : ∃ xs, xs = F.flatMap Nd.cells := ⟨_, rfl⟩
              rw [← hxs] at HROW2
              have HXS := Lib.hid hxs
              have HN0 := Lib.hid HUN.out.1
              clear hxs hm hF HUN
              have hc3 : f.length + g.length + 1 ≤ maxLen := by unfold maxLen; omega
              have hc4 : (f.length + g.length + 1) * 48 ≤ 140737488355328 := by omega
              go_wp2_with fail
              refine (refNode_any ⟨o, i, e, k0, (f.length : Int) - 1, (f.length : Int) + g.length - 1⟩ _ _).mono ?_
              rintro e1 w3 ⟨rfl, hb⟩
              rw [HN0.out]
              have HX3 := Lib.hid (Ext.trans (Ext.setCell (Ext.setCell hext (p := ⟨w.heap.size, 4, none⟩) (Nat.le_refl _) (.int .i64 ((f.length : Int) - 1))) (p := ⟨w.heap.size, 5, none⟩) (Nat.le_refl _) (.int .i64 ((f.length : Int) + g.length - 1))) hb)
              have HBX3 : Hid (w3.heap[w.heap.size]? = some (.cells #[.int .i64 o, .int .i64 i, .int .i64 e, .int .i64 k0, .int .i64 ((f.length : Int) - 1), .int .i64 ((f.length : Int) + g.length - 1)] 93 (0, 0))) := Lib.hid ((hb.block (by simp [World.setCell]; exact dlt)).trans (by simp only [World.setCell, Array.getElem?_modify, HBK2.out, if_true, Option.map_some]; simp))
              have HROW3 := Lib.hid (row_ext (ownsRow_setCell_other (a := ⟨w.heap.size, 5, none⟩) (ownsRow_setCell_other (a := ⟨w.heap.size, 4, none⟩) HROW2.out HNE.out (.int .i64 ((f.length : Int) - 1))) HNE.out (.int .i64 ((f.length : Int) + g.length - 1))) hb)
              have hc5 : ∀ X, w.heap.size + 1 ≤ (w3.alloc X).heap.size := fun X => by have := HX3.out.size; simp; omega
              clear hb d0 d1 d2 d3 d4 d5 dfr dlt hfz4 hfz5
              obtain ⟨⟨d0, d1, d2, d3, d4, d5⟩, dfr, dlt⟩ := cells6 HBX3.out
              go_wp2_with (at_builtin; refine wpList_append_own_at _ rfl _ _ 22 rfl (w.heap.size + 1) 93 i0 Nd.zero.val 6 48 Tryz.underlying22 hi0 hz0' hz1' hz2' rfl (by decide) _ _ _ rfl (row_ext HROW3.out ((Ext.refl _).alloc _)) _ 1 1 [.int .i64 o, .int .i64 i, .int .i64 e, .int .i64 k0, .int .i64 ((f.length : Int) - 1), .int .i64 ((f.length : Int) + g.length - 1)] rfl rfl (row_new_at _ _ _ rfl) (by rw [← HMX.out]; exact node_cells m) hc3 hc4 (hc5 _) ?_)
              intro v' w4 hown4 hgrow4 _ hat4
              have HROW4 : Hid (w4.ownsRow (w.heap.size + 1) 93 6 v' (F ++ [m]).length ((F ++ [m]).flatMap Nd.cells)) := Lib.hid (by rw [HXS.out, ← HMX.out, ← HFL.out] at hown4; simpa using hown4)
              have HX4 := Lib.hid ((Ext.alloc HX3.out _).grown hgrow4 (fun g hg => by have := (HROW3.out.lt g hg).1; omega))
              obtain ⟨A4, c4, rfl⟩ := slice_of_row hown4
              have HFM : Hid (Fml w4 (.slice A4 (f.length + g.length + 1) c4) (F ++ [m])) := Lib.hid ⟨nds_of_row HROW4.out, fun n hn => by
                rcases List.mem_append.1 hn with hn | hn
                · exact HOKF.out n hn
                · rw [List.mem_singleton.1 hn]; exact HMO.out⟩
              clear hown4 hgrow4 hat4
              go_wp2_with fail
              refine (short_any _ (F ++ [m]) _ HFM.out HU.out.2.1 (by simp) (by have := HFL.out; simp; omega)).mono ?_
              rintro e1 w5 ⟨u5, rfl, hm5⟩
              rw [HU.out.2.2] at hm5
              have HM5 := Lib.hid (hm5.before HX4.out)
              obtain ⟨A8, c8, rfl⟩ := slice_of_row hm5.1
              clear hm5
              go_wp2_with fail
              go_ret
              exact ⟨_, rfl, HM5.out⟩
    · have HC := Lib.hid hc
      have HB0 := Lib.hid (build_bad2 (n := x) (f := f) (.inr hcg))
      have hcb : (check g != 0) = true := by simpa using hcg
      obtain ⟨o, i, e, k0, p, q⟩ := x
      unfold Nd.val
      clear hc hcg hx hxo h1 h2
      go_enter Tryz.func67, Tryz.ntmps67
      go_wp2_with fail
      refine (refCheck_any _ f _ (H.out.1.ext ((Ext.refl _).alloc _))).mono ?_
      rintro e1 w1 ⟨rfl, hb⟩
      rw [HC.out]
      have HX1 := Lib.hid (Ext.trans ((Ext.refl w).alloc _) hb)
      clear hb
      go_wp2_with fail
      refine (refCheck_any _ g _ (HG.out.1.ext HX1.out)).mono ?_
      rintro e1 w2 ⟨rfl, hb⟩
      have HX2 := Lib.hid (Ext.trans HX1.out hb)
      clear hb
      go_wp2_with fail
      go_ret
      exact ⟨_, rfl, by rw [HB0.out]; exact (Made.none_ _).after HX2.out⟩
  · have HB0 := Lib.hid (build_bad2 (n := x) (g := g) (.inl hc))
    have hcb : (check f != 0) = true := by simpa using hc
    obtain ⟨o, i, e, k0, p, q⟩ := x
    unfold Nd.val
    clear hc hx hxo h1 h2
    go_enter Tryz.func67, Tryz.ntmps67
    go_wp2_with fail
    refine (refCheck_any _ f _ (H.out.1.ext ((Ext.refl _).alloc _))).mono ?_
    rintro e1 w1 ⟨rfl, hb⟩
    have HX1 := Lib.hid (Ext.trans ((Ext.refl w).alloc _) hb)
    clear hb
    go_wp2_with fail
    go_ret
    exact ⟨_, rfl, by rw [HB0.out]; exact (Made.none_ _).after HX1.out⟩
end Go.Proofs.YtbfeodammikajaaGreat

/- The reference's constructors by name; a node with other operands. -/

namespace Go.Proofs.YtbfeodammikajaaGreat
open Go.RowKit

theorem okn (k i g : Int) (h0 : 0 ≤ k) (h1 : k ≤ 1000) (hi : i64ok i) (hg : i64ok g) : (⟨k, i, 0, g, 0, 0⟩ : Nd).ok := small_ok (i64_small h0 h1) hi (i64_small (by omega) (by omega)) hg (i64_small (by omega) (by omega)) (i64_small (by omega) (by omega))
theorem ok_z : i64ok 0 := i64_small (by omega) (by omega)
set_option maxHeartbeats 400000 in
theorem rTrue_any (w : World) :
    Calls Tryz.prog 28 #[] w fun e w' => ∃ u, e = .returned u ∧ Made w w' u (trueN) := by
  go_enter Tryz.func28, Tryz.ntmps28
  go_wp2_with fail
  refine (one_any ⟨1, 0, 0, 0, 0, 0⟩ _ (head0 1 (by omega)) (okn 1 0 0 (by omega) (by omega) ok_z ok_z) rfl rfl).mono ?_
  rintro e w1 ⟨u, rfl, hm⟩
  rw [← true_list] at hm
  have HM := Lib.hid hm
  clear hm
  go_wp2_with fail
  go_ret
  exact ⟨_, rfl, HM.out⟩
set_option maxHeartbeats 400000 in
theorem rFact_any (a : Int) (ha : i64ok a) (hh : headOk ⟨3, a, 0, 0, 0, 0⟩) (w : World) :
    Calls Tryz.prog 22 #[.int .i64 a] w fun e w' => ∃ u, e = .returned u ∧ Made w w' u (factN a) := by
  have HH := Lib.hid hh
  have HA := Lib.hid ha
  clear hh ha
  go_enter Tryz.func22, Tryz.ntmps22
  go_wp2_with fail
  refine (one_any ⟨3, a, 0, 0, 0, 0⟩ _ HH.out (okn 3 a 0 (by omega) (by omega) HA.out ok_z) rfl rfl).mono ?_
  rintro e w1 ⟨u, rfl, hm⟩
  rw [show [(⟨3, a, 0, 0, 0, 0⟩ : Nd)] = factN a from ((build_zero (n := ⟨3, a, 0, 0, 0, 0⟩) rfl rfl HH.out).2).symm] at hm
  have HM := Lib.hid hm
  clear hm
  go_wp2_with fail
  go_ret
  exact ⟨_, rfl, HM.out⟩
set_option maxHeartbeats 400000 in
theorem rNot_any (v : Value) (f : List Nd) (w : World) (h : Fml w v f) :
    Calls Tryz.prog 26 #[v] w fun e w' => ∃ u, e = .returned u ∧ Made w w' u (notN f) := by
  have H := Lib.hid h
  obtain ⟨A1, c1, rfl, _⟩ := fml_slice h
  clear h
  go_enter Tryz.func26, Tryz.ntmps26
  go_wp2_with fail
  refine (unary_any ⟨4, 0, 0, 0, 0, 0⟩ _ f _ (head0 4 (by omega)) (okn 4 0 0 (by omega) (by omega) ok_z ok_z) rfl rfl H.out).mono ?_
  rintro e w1 ⟨u, rfl, hm⟩
  have HM := Lib.hid hm
  clear hm
  go_wp2_with fail
  go_ret
  exact ⟨_, rfl, HM.out⟩
set_option maxHeartbeats 400000 in
theorem rKnow_any (a : Int) (ha : i64ok a) (hh : headOk ⟨9, a, 0, 0, 0, 0⟩) (v : Value) (f : List Nd) (w : World) (h : Fml w v f) :
    Calls Tryz.prog 24 #[.int .i64 a, v] w fun e w' => ∃ u, e = .returned u ∧ Made w w' u (knowN a f) := by
  have H := Lib.hid h
  have HH := Lib.hid hh
  have HA := Lib.hid ha
  clear hh ha
  obtain ⟨A1, c1, rfl, _⟩ := fml_slice h
  clear h
  go_enter Tryz.func24, Tryz.ntmps24
  go_wp2_with fail
  refine (unary_any ⟨9, a, 0, 0, 0, 0⟩ _ f _ HH.out (okn 9 a 0 (by omega) (by omega) HA.out ok_z) rfl rfl H.out).mono ?_
  rintro e w1 ⟨u, rfl, hm⟩
  have HM := Lib.hid hm
  clear hm
  go_wp2_with fail
  go_ret
  exact ⟨_, rfl, HM.out⟩
set_option maxHeartbeats 400000 in
theorem rAnd_any (v1 v2 : Value) (f g : List Nd) (w : World) (h1 : Fml w v1 f) (h2 : Fml w v2 g) :
    Calls Tryz.prog 25 #[v1, v2] w fun e w' => ∃ u, e = .returned u ∧ Made w w' u (andN f g) := by
  have H1 := Lib.hid h1
  have H2 := Lib.hid h2
  obtain ⟨A1, c1, rfl, _⟩ := fml_slice h1
  obtain ⟨A2, c2, rfl, _⟩ := fml_slice h2
  clear h1 h2
  go_enter Tryz.func25, Tryz.ntmps25
  go_wp2_with fail
  refine (binary_any ⟨5, 0, 0, 0, 0, 0⟩ _ _ f g _ (head0 5 (by omega)) (okn 5 0 0 (by omega) (by omega) ok_z ok_z) rfl rfl H1.out H2.out).mono ?_
  rintro e w1 ⟨u, rfl, hm⟩
  have HM := Lib.hid hm
  clear hm
  go_wp2_with fail
  go_ret
  exact ⟨_, rfl, HM.out⟩
set_option maxHeartbeats 400000 in
theorem rImp_any (v1 v2 : Value) (f g : List Nd) (w : World) (h1 : Fml w v1 f) (h2 : Fml w v2 g) :
    Calls Tryz.prog 108 #[v1, v2] w fun e w' => ∃ u, e = .returned u ∧ Made w w' u (impN f g) := by
  have H1 := Lib.hid h1
  have H2 := Lib.hid h2
  obtain ⟨A1, c1, rfl, _⟩ := fml_slice h1
  obtain ⟨A2, c2, rfl, _⟩ := fml_slice h2
  clear h1 h2
  go_enter Tryz.func108, Tryz.ntmps108
  go_wp2_with fail
  refine (binary_any ⟨7, 0, 0, 0, 0, 0⟩ _ _ f g _ (head_78 7 (by omega)) (okn 7 0 0 (by omega) (by omega) ok_z ok_z) rfl rfl H1.out H2.out).mono ?_
  rintro e w1 ⟨u, rfl, hm⟩
  have HM := Lib.hid hm
  clear hm
  go_wp2_with fail
  go_ret
  exact ⟨_, rfl, HM.out⟩
set_option maxHeartbeats 400000 in
theorem rCommon_any (a : Int) (ha : i64ok a) (hh : headOk ⟨13, 0, 0, a, 0, 0⟩) (v1 v2 : Value) (f g : List Nd) (w : World) (h1 : Fml w v1 f) (h2 : Fml w v2 g) :
    Calls Tryz.prog 27 #[.int .i64 a, v1, v2] w fun e w' => ∃ u, e = .returned u ∧ Made w w' u (commonN a f g) := by
  have H1 := Lib.hid h1
  have H2 := Lib.hid h2
  have HH := Lib.hid hh
  have HA := Lib.hid ha
  clear hh ha
  obtain ⟨A1, c1, rfl, _⟩ := fml_slice h1
  obtain ⟨A2, c2, rfl, _⟩ := fml_slice h2
  clear h1 h2
  go_enter Tryz.func27, Tryz.ntmps27
  go_wp2_with fail
  refine (binary_any ⟨13, 0, 0, a, 0, 0⟩ _ _ f g _ HH.out (okn 13 0 a (by omega) (by omega) ok_z HA.out) rfl rfl H1.out H2.out).mono ?_
  rintro e w1 ⟨u, rfl, hm⟩
  have HM := Lib.hid hm
  clear hm
  go_wp2_with fail
  go_ret
  exact ⟨_, rfl, HM.out⟩
set_option maxRecDepth 100000 in
set_option maxHeartbeats 2000000 in
theorem rebuild_any (x : Nd) (v1 v2 : Value) (f g : List Nd) (w : World) (hx : headOk x) (hxo : x.ok) (h1 : Fml w v1 f) (h2 : Fml w v2 g) :
    Calls Tryz.prog 106 #[x.val, v1, v2] w fun e w' => ∃ u, e = .returned u ∧ Made w w' u (rebuildN x f g) := by
  have H1 := Lib.hid h1
  have H2 := Lib.hid h2
  obtain ⟨A1, c1, rfl, _⟩ := fml_slice h1
  obtain ⟨A2, c2, rfl, _⟩ := fml_slice h2
  have HX := Lib.hid (head_zero hx)
  have HXO : Hid (({ x with x := 0, y := 0 } : Nd).ok) := Lib.hid (by obtain ⟨x1, x2, x3, x4, x5, x6⟩ := hxo; exact ⟨x1, x2, x3, x4, i64_small (a := 0) (by omega) (by omega), i64_small (a := 0) (by omega) (by omega)⟩)
  have HCS := Lib.hid (xy_cases x.op)
  clear h1 h2 hx hxo
  obtain ⟨o, i, e, k0, p, q⟩ := x
  unfold Nd.val
  have X0 : Hid (Ext w (w.alloc (.cells #[.int .i64 o, .int .i64 i, .int .i64 e, .int .i64 k0, .int .i64 0, .int .i64 0] 93))) := Lib.hid ((Ext.refl _).alloc _)
  rcases HCS.out with ⟨hux, huy⟩ | ⟨hux, huy⟩ | ⟨hux, huy⟩
  · have HUX := Lib.hid hux; have HUY := Lib.hid huy
    have HE : Hid (rebuildN ⟨o, i, e, k0, p, q⟩ f g = [⟨o, i, e, k0, 0, 0⟩]) := Lib.hid (by unfold rebuildN; simp only [hux, huy]; rfl)
    clear hux huy HCS
    go_enter Tryz.func106, Tryz.ntmps106
    go_wp2_with (first | (go_at_call 89; refine (usesX_as HUX.out _).mono ?_; rintro e1 w5 ⟨rfl, rfl⟩) | (go_at_call 90; refine (usesY_as HUY.out _).mono ?_; rintro e1 w5 ⟨rfl, rfl⟩))
    refine (one_any ⟨o, i, e, k0, 0, 0⟩ _ HX.out HXO.out HUX.out HUY.out).mono ?_
    rintro e1 w1 ⟨u, rfl, hm⟩
    have HM := Lib.hid (hm.before X0.out)
    clear hm
    go_wp2_with fail
    go_ret
    rw [HE.out]
    exact ⟨_, rfl, HM.out⟩
  · have HUX := Lib.hid hux; have HUY := Lib.hid huy
    have HE : Hid (rebuildN ⟨o, i, e, k0, p, q⟩ f g = buildN ⟨o, i, e, k0, 0, 0⟩ [f]) := Lib.hid (by unfold rebuildN; simp only [hux, huy]; rfl)
    clear hux huy HCS
    go_enter Tryz.func106, Tryz.ntmps106
    go_wp2_with (first | (go_at_call 89; refine (usesX_as HUX.out _).mono ?_; rintro e1 w5 ⟨rfl, rfl⟩) | (go_at_call 90; refine (usesY_as HUY.out _).mono ?_; rintro e1 w5 ⟨rfl, rfl⟩))
    refine (unary_any ⟨o, i, e, k0, 0, 0⟩ _ f _ HX.out HXO.out HUX.out HUY.out (H1.out.ext X0.out)).mono ?_
    rintro e1 w1 ⟨u, rfl, hm⟩
    have HM := Lib.hid (hm.before X0.out)
    clear hm
    go_wp2_with fail
    go_ret
    rw [HE.out]
    exact ⟨_, rfl, HM.out⟩
  · have HUX := Lib.hid hux; have HUY := Lib.hid huy
    have HE : Hid (rebuildN ⟨o, i, e, k0, p, q⟩ f g = buildN ⟨o, i, e, k0, 0, 0⟩ [f, g]) := Lib.hid (by unfold rebuildN; simp only [hux, huy]; rfl)
    clear hux huy HCS
    go_enter Tryz.func106, Tryz.ntmps106
    go_wp2_with (first | (go_at_call 89; refine (usesX_as HUX.out _).mono ?_; rintro e1 w5 ⟨rfl, rfl⟩) | (go_at_call 90; refine (usesY_as HUY.out _).mono ?_; rintro e1 w5 ⟨rfl, rfl⟩))
    refine (binary_any ⟨o, i, e, k0, 0, 0⟩ _ _ f g _ HX.out HXO.out HUX.out HUY.out (H1.out.ext X0.out) (H2.out.ext X0.out)).mono ?_
    rintro e1 w1 ⟨u, rfl, hm⟩
    have HM := Lib.hid (hm.before X0.out)
    clear hm
    go_wp2_with fail
    go_ret
    rw [HE.out]
    exact ⟨_, rfl, HM.out⟩
end Go.Proofs.YtbfeodammikajaaGreat

/- The reference of types: what its base is made by. -/

namespace Go.Proofs.YtbfeodammikajaaGreat
open Go.RowKit

theorem shr_mod_two (s k : Nat) : (((s : Int) / 2 ^ k).tmod 2 == 1) = s.testBit k := by
  rw [shr_nat, testBit_int]
  generalize s / 2 ^ k = r
  rw [show ((r : Nat) : Int).tmod 2 = ((r % 2 : Nat) : Int) from rfl, Bool.eq_iff_iff, beq_iff_eq, beq_iff_eq]
  omega
theorem addr_same (ad : Addr) : ad.add 0 = ad := by unfold Addr.add; rfl
set_option maxRecDepth 100000 in
set_option maxHeartbeats 4000000 in
theorem refAll_any (v : Value) (l : List (List Nd)) (w : World) (h : Fmls w v l) (hl1 : l.length ≤ 1000) :
    Calls Tryz.prog 152 #[v] w fun e w' => ∃ u, e = .returned u ∧ Made w w' u (allN l) := by
  have H := Lib.hid h
  obtain ⟨A, c, rfl, hcap, hmax, hr⟩ := h
  have HR := Lib.hid hr
  clear hr
  cases l with
  | nil =>
    go_enter Tryz.func152, Tryz.ntmps152
    go_wp2_with fail
    refine (rTrue_any _).mono ?_
    rintro e w1 ⟨u, rfl, hm⟩
    have HM := Lib.hid hm
    clear hm
    go_wp2_with fail
    go_ret
    exact ⟨_, rfl, HM.out⟩
  | cons f r =>
    obtain ⟨ad, rfl, hb1, hc1⟩ := HR.out (by simp)
    obtain ⟨u0, hu0, hf0⟩ := hc1 0 f rfl
    have HC := Lib.hid hc1
    have HF0 := Lib.hid hf0
    have hu0' : w.cell? ad = some u0 := by rw [← hu0, addr_same]
    have HX0 := hf0
    obtain ⟨A0, c0, rfl, _⟩ := fml_slice hf0
    clear hc1 hf0 HR H hu0
    obtain ⟨m, hm⟩ : ∃ m, m = r.length := ⟨_, rfl⟩
    rw [show (f :: r).length = m + 1 by simp [hm]] at hcap hl1 ⊢
    have HM := Lib.hid hm
    have hl0 : (((m + 1 : Nat) : Int) == 0) = false := by rw [beq_eq_false_iff_ne]; omega
    have hl4 : (((m : Nat) : Int) + 1 == 0) = false := by rw [beq_eq_false_iff_ne]; omega
    have hl2 : (0 : Int) < ((m + 1 : Nat) : Int) := by omega
    clear hm HX0
    go_enter Tryz.func152, Tryz.ntmps152
    go_wp2_with fail
    refine (refCompact_any _ f _ HF0.out).mono ?_
    rintro e w1 ⟨u, rfl, hm⟩
    have HM1 := Lib.hid hm
    clear hm
    go_wp2_with fail
    go_loopw [3, 4] (fun vf vi wr => ∃ k : Nat, k ≤ m ∧ vi = .int .i64 ((k : Int) + 1) ∧ Hid (Made w wr vf ((r.take k).foldl andN (compactN f)))) (fun _ i _ => m + 1 - (intOf i).toNat)
    case atStart => exact ⟨0, Nat.zero_le _, rfl, HM1⟩
    case round =>
      obtain ⟨k, hk, rfl, HREL⟩ := hrel
      have HX := Lib.hid HREL.out.ext
      have HF := Lib.hid HREL.out.fml
      obtain ⟨Af, cf, rfl, _⟩ := fml_slice HREL.out.fml
      by_cases hlt2 : k < m
      · obtain ⟨s, hs⟩ : ∃ s, r[k]? = some s := ⟨_, List.getElem?_eq_getElem (by rw [← HM.out]; exact hlt2)⟩
        obtain ⟨us, hus, hfs⟩ := HC.out (k + 1) s (drop_get hs)
        rw [show ad.add (k + 1) = ⟨ad.block, ad.off + (k + 1), none⟩ by simp [Addr.add]] at hus
        have a0 := (HX.out.cell (p := ⟨ad.block, ad.off + (k + 1), none⟩) hb1).trans hus
        have HFS := Lib.hid (hfs.ext HX.out)
        have HS := Lib.hid hs
        have hk1 : ((k : Int) + 1) < ((m + 1 : Nat) : Int) := by omega
        have hk2 : ((k : Int) + 1) < (m : Int) + 1 := by omega
        have hk3 : ((k : Int) + 1).toNat = k + 1 := by omega
        have hk4 : (0 : Int) ≤ (k : Int) + 1 := by omega
        obtain ⟨As, cs, rfl, _⟩ := fml_slice hfs
        clear hs hfs hus
        go_wp2_with fail
        refine (rAnd_any _ _ _ _ _ HF.out HFS.out).mono ?_
        rintro e w2 ⟨u2, rfl, hm2⟩
        have HM2 := Lib.hid hm2
        clear hm2
        go_wp2_with fail
        go_roundw
        case rel => exact ⟨k + 1, by omega, by go_num, Lib.hid (by rw [fold_step HS.out]; exact HM2.out.before HX.out)⟩
        case measure => simp [intOf]; omega
      · obtain rfl : m = k := by omega
        have HE := Lib.hid (show r.take m = r by rw [HM.out]; exact List.take_of_length_le (Nat.le_refl _))
        go_wp2_with fail
        go_ret
        refine ⟨.slice Af ((r.take m).foldl andN (compactN f)).length cf, rfl, ?_⟩
        have := HREL.out
        rw [HE.out] at this ⊢
        exact this
theorem headg_know {q : Nat} (hq : q < 4) : headOk ⟨9, (q : Int), 0, 0, 0, 0⟩ := head_9 (by omega) (by omega)
set_option maxRecDepth 100000 in
set_option maxHeartbeats 8000000 in
theorem everybody_any (gn : Nat) (v : Value) (f : List Nd) (w : World) (h : Fml w v f) :
    Calls Tryz.prog 107 #[.int .i64 (gn : Int), v] w fun e w' => ∃ u, e = .returned u ∧ Made w w' u (allN (everyL (gn : Int) f)) := by
  have H := Lib.hid h
  obtain ⟨iI, hiI, hzI0, hzI1, hzI2⟩ := info_parts tInfoF2
  obtain ⟨A, c, rfl, _⟩ := fml_slice h
  clear h
  go_enter Tryz.func107, Tryz.ntmps107
  go_wp2_with fail
  go_loopw [5, 6] (fun vo vi wr => ∃ q : Nat, vi = .int .i64 (q : Int) ∧ q ≤ 4 ∧ Hid (∃ ol, ol = ((List.range q).filter fun i => gbit (gn : Int) i).map (fun (i : Nat) => knowN (i : Int) f) ∧ FRow w wr vo ol)) (fun _ v _ => 4 - (intOf v).toNat)
  case atStart => exact ⟨0, rfl, Nat.zero_le _, Lib.hid ⟨[], rfl, FRow.nil _⟩⟩
  case round =>
    obtain ⟨q, rfl, hq, HREL⟩ := hrel
    obtain ⟨ol, hol', hfr⟩ := HREL.out
    obtain ⟨us2, hrow2, hus2⟩ := hfr.row
    obtain ⟨Ao2, co2, rfl⟩ := slice_of_row hrow2
    have HOL := Lib.hid hol'
    have HFR2 := Lib.hid hfr
    have HROW2 := Lib.hid hrow2
    have HUS2 := Lib.hid hus2
    have holen : ol.length ≤ 4 := by rw [hol']; refine Nat.le_trans (by rw [List.length_map]; exact List.length_filter_le _ _) (by simp; omega)
    clear HREL hol' hfr hrow2 hus2
    by_cases hq4 : q < 4
    · have hq1 : (q : Int) < 4 := by omega
      have hbt := shr_mod_two gn q
      cases hgb : gn.testBit q
      case true =>
        rw [hgb] at hbt
        have HGB := Lib.hid (show ((List.range (q + 1)).filter fun i => gbit (gn : Int) i).map (fun (i : Nat) => knowN (i : Int) f) = ol ++ [knowN (q : Int) f] by rw [List.range_succ, List.filter_append, List.map_append, ← HOL.out, List.filter_cons, show gbit (gn : Int) q = true from hgb]; rfl)
        clear hgb
        go_wp2_with fail
        refine (rKnow_any (q : Int) ⟨by omega, by omega⟩ (headg_know hq4) _ f _ (H.out.ext HFR2.out.ext)).mono ?_
        rintro e w2 ⟨u, rfl, hm⟩
        have HM := Lib.hid hm
        have Y1 := Lib.hid hm.ext
        obtain ⟨Au, cu, rfl, _⟩ := fml_slice hm.fml
        clear hm
        have hc3 : ol.length + 1 ≤ maxLen := by unfold maxLen; omega
        have hc4 : (ol.length + 1) * 24 ≤ 140737488355328 := by omega
        go_wp2_with (at_builtin; refine wpList_append_own_at _ rfl _ _ 49 rfl w.heap.size 22 iI (.slice none 0 0) 1 24 Tryz.underlying49 hiI hzI0 hzI1 hzI2 rfl (by decide) _ ol.length us2 rfl (row_ext HROW2.out (Y1.out.alloc _)) ⟨_, 0, none⟩ 1 1 [.slice Au (knowN (q : Int) f).length cu] rfl rfl (row_new_at _ _ _ (by simp)) (fun u hu => by rw [List.mem_singleton.1 hu]; rfl) hc3 hc4 (Nat.le_trans HFR2.out.ext.size (Y1.out.alloc _).size) ?_)
        intro v7 w7 hown7 hgrow7 _ hat7
        have HPS := Lib.hid (FRow.push (s := knowN (q : Int) f) ((HFR2.out.ext.trans Y1.out).alloc _) (row_ext HROW2.out (Y1.out.alloc _)) (fun k s hk => by
          obtain ⟨u, a, b, c⟩ := HUS2.out k s hk
          exact ⟨u, a, b.ext (Y1.out.alloc _), c.ext (Y1.out.alloc _)⟩) hown7 hgrow7 (hat7.imp id (fun e => e.trans (by simp))) (HM.out.fml.ext ((Ext.refl _).alloc _)) (made_away (Nat.le_refl _) (row_ext HM.out.1 ((Ext.refl _).alloc _)) HROW2.out HFR2.out.ext.size))
        obtain ⟨A7, c7, rfl⟩ := slice_of_row hown7
        clear hown7 hgrow7 hat7
        go_wp2_with fail
        go_roundw
        case rel => exact ⟨q + 1, by go_num, by omega, Lib.hid ⟨_, HGB.out.symm, HPS.out⟩⟩
        case measure => simp [intOf]; omega
      case false =>
        rw [hgb] at hbt
        have HGB := Lib.hid (show ((List.range (q + 1)).filter fun i => gbit (gn : Int) i).map (fun (i : Nat) => knowN (i : Int) f) = ol by rw [List.range_succ, List.filter_append, List.map_append, ← HOL.out, List.filter_cons, show gbit (gn : Int) q = false from hgb]; exact List.append_nil _)
        clear hgb
        go_wp2_with fail
        go_roundw
        case rel => exact ⟨q + 1, by go_num, by omega, Lib.hid ⟨_, HGB.out.symm, HFR2.out⟩⟩
        case measure => simp [intOf]; omega
    · obtain rfl : q = 4 := by omega
      have HOE := Lib.hid (show everyL (gn : Int) f = ol from HOL.out.symm)
      go_wp2_with fail
      refine (refAll_any _ ol _ HFR2.out.fmls (by omega)).mono ?_
      rintro e w3 ⟨u3, rfl, hm3⟩
      have HM3 := Lib.hid hm3
      clear hm3
      go_wp2_with fail
      go_ret
      exact ⟨_, rfl, by rw [HOE.out]; exact HM3.out.before HFR2.out.ext⟩
/-- Every operator is of the language. -/
def langOk (f : List Nd) : Bool := (compactN f).all fun n => !(decide (11 < n.op) && n.op != 13)
theorem all_take {l : List Nd} {p : Nd → Bool} {k : Nat} {n : Nd} (hn : l[k]? = some n) (h : ∀ x ∈ l.take k, p x = true) (hp : p n = true) : ∀ x ∈ l.take (k + 1), p x = true := by
  obtain ⟨hk, e⟩ := List.getElem?_eq_some_iff.1 hn
  rw [List.take_succ_eq_append_getElem hk, e]
  intro x hx
  rcases List.mem_append.1 hx with hx | hx
  · exact h x hx
  · rw [List.mem_singleton.1 hx]; exact hp
set_option maxRecDepth 100000 in
set_option maxHeartbeats 4000000 in
theorem language_any (v : Value) (f : List Nd) (w : World) (h : Fml w v f) (hc : check f = 0) :
    Calls Tryz.prog 55 #[v] w fun e w' => e = .returned (.bool (langOk f)) ∧ Ext w w' := by
  have H := Lib.hid h
  obtain ⟨A, c, rfl, _⟩ := fml_slice h
  have hlen : (compactN f).length ≤ 200 := Nat.le_trans (compactN_props hc).2.1 (check_parts hc).2.1
  obtain ⟨cf, hcf⟩ : ∃ c, c = compactN f := ⟨_, rfl⟩
  have HCF := Lib.hid hcf
  have HL := Lib.hid (show langOk f = cf.all fun n => !(decide (11 < n.op) && n.op != 13) by rw [hcf]; rfl)
  rw [← hcf] at hlen
  clear h hcf hc
  go_enter Tryz.func55, Tryz.ntmps55
  go_wp2_with fail
  refine (refCompact_any _ f _ H.out).mono ?_
  rintro e w1 ⟨u, rfl, hm⟩
  rw [← HCF.out] at hm
  have HM := Lib.hid hm
  obtain ⟨A1, c1, rfl, hat⟩ := fml_slice hm.fml
  have HAT := Lib.hid hat
  clear hm hat
  go_wp2_with fail
  go_loopw [8] (fun vi wr => ∃ k : Nat, vi = .int .i64 (k : Int) ∧ k ≤ cf.length ∧ Hid (Ext w1 wr ∧ ∀ n ∈ cf.take k, (!(decide (11 < n.op) && n.op != 13)) = true)) (fun v _ => cf.length - (intOf v).toNat)
  case atStart => exact ⟨0, rfl, Nat.zero_le _, Lib.hid ⟨Ext.refl _, by simp⟩⟩
  case round =>
    obtain ⟨k, rfl, hk, HREL⟩ := hrel
    by_cases hlt2 : k < cf.length
    · have hk1 : (k : Int) < (cf.length : Int) := by omega
      obtain ⟨n, hn⟩ : ∃ n, cf[k]? = some n := ⟨_, List.getElem?_eq_getElem hlt2⟩
      obtain ⟨ad, rfl, hblk, hcells⟩ := HAT.out.2.2 (by intro e; rw [e] at hlt2; simp at hlt2)
      obtain ⟨a0, a1, a2, a3, a4, a5⟩ := (hcells k n hn).keep fun p hp => HREL.out.1.cell (p := p) (by rw [hp, block_of_add]; exact hblk)
      have HN := Lib.hid hn
      clear hn hcells
      by_cases ho : 11 < n.op
      · by_cases h13 : n.op = 13
        · have hd : (n.op != 13) = false := by simp [h13]
          have HP := Lib.hid (all_take HN.out HREL.out.2 (by rw [hd, Bool.and_false]; rfl))
          clear h13
          go_wp2_with fail
          go_roundw
          case rel => exact ⟨k + 1, by go_num, by omega, Lib.hid ⟨HREL.out.1.alloc _, HP.out⟩⟩
          case measure => simp [intOf]; omega
        · have hd : (n.op != 13) = true := by simpa using h13
          have HP := Lib.hid (show langOk f = false by
            rw [HL.out, List.all_eq_false]
            exact ⟨n, List.mem_of_getElem? HN.out, by rw [hd, decide_eq_true ho]; decide⟩)
          clear h13
          go_wp2_with fail
          go_ret
          exact ⟨by rw [HP.out] <;> rfl, HM.out.ext.trans (HREL.out.1.alloc _)⟩
      · have HP := Lib.hid (all_take HN.out HREL.out.2 (by rw [decide_eq_false ho]; rfl))
        go_wp2_with fail
        go_roundw
        case rel => exact ⟨k + 1, by go_num, by omega, Lib.hid ⟨HREL.out.1.alloc _, HP.out⟩⟩
        case measure => simp [intOf]; omega
    · obtain rfl : cf.length = k := by omega
      have HP := Lib.hid (show langOk f = true by
        have h1 := HREL.out.2
        rw [List.take_of_length_le (Nat.le_refl _)] at h1
        rw [HL.out, List.all_eq_true]; exact h1)
      go_wp2_with fail
      go_ret
      exact ⟨by rw [HP.out] <;> rfl, HM.out.ext.trans HREL.out.1⟩
set_option maxRecDepth 100000 in
set_option maxHeartbeats 4000000 in
theorem refIndex_any (v gv : Value) (l : List (List Nd)) (g : List Nd) (w : World) (hl : Fmls w v l) (hg : Fml w gv g) :
    Calls Tryz.prog 60 #[v, gv] w fun e w' => e = .returned (.int .i64 (placeN l g)) ∧ Ext w w' := by
  obtain ⟨A, c, rfl, hcap, hmax, hr⟩ := hl
  unfold maxLen at hmax
  have HR := Lib.hid hr
  have HG := Lib.hid hg
  obtain ⟨A2, c2, rfl, _⟩ := fml_slice hg
  clear hr hg
  go_enter Tryz.func60, Tryz.ntmps60
  go_wp2_with fail
  go_loopw [9] (fun i wr => ∃ k : Nat, k ≤ l.length ∧ i = .int .i64 (k : Int) ∧ Hid (∀ t ∈ l.take k, decide (t = g) = false) ∧ Hid (Ext w wr)) (fun i _ => l.length - (intOf i).toNat)
  case atStart => exact ⟨0, Nat.zero_le _, rfl, Lib.hid (by simp), Lib.hid (Ext.refl _)⟩
  case round =>
    obtain ⟨k, hk, rfl, HNI, HX⟩ := hrel
    by_cases hlt2 : k < l.length
    · obtain ⟨s, hs⟩ : ∃ s, l[k]? = some s := ⟨_, List.getElem?_eq_getElem hlt2⟩
      obtain ⟨ad, rfl, hb1, hc1⟩ := HR.out (by intro e; rw [e] at hlt2; simp at hlt2)
      obtain ⟨u, hu, hf⟩ := hc1 k s hs
      have a0 := (HX.out.cell (p := ad.add k) (by rw [block_of_add]; exact hb1)).trans hu
      have HF := Lib.hid (hf.ext HX.out)
      have HA := Lib.hid hs
      have hk1 : (k : Int) < (l.length : Int) := by omega
      obtain ⟨Au, cu, rfl, _⟩ := fml_slice hf
      clear hs hc1 hf hu
      have HEQ := Lib.hid (show decide (s = g) = decide (g = s) by rw [decide_eq_decide]; exact eq_comm)
      cases hps : decide (g = s)
      · have HT : Hid (∀ t ∈ l.take (k + 1), decide (t = g) = false) := Lib.hid (by
          rw [take_succ_eq HA.out]
          intro t ht
          rcases List.mem_append.1 ht with ht | ht
          · exact HNI.out t ht
          · rw [List.mem_singleton.1 ht, HEQ.out]; exact hps)
        have HPS := Lib.hid hps
        clear hps
        go_wp2_with fail
        refine (refEqual_any _ _ g s _ (HG.out.ext HX.out).1 HF.out.1).mono ?_
        rintro e w1 ⟨rfl, hx⟩
        rw [HPS.out]
        have HX1 := Lib.hid (HX.out.trans hx)
        clear hx
        go_wp2_with fail
        go_roundw
        case rel => exact ⟨k + 1, by omega, by go_num, HT, HX1⟩
        case measure => simp [intOf]; omega
      · have HE := Lib.hid (show placeN l g = (k : Int) by unfold placeN; rw [findIdx_hit (fun s => decide (s = g)) l k s HA.out (by rw [HEQ.out]; exact hps) HNI.out])
        have HPS := Lib.hid hps
        clear hps
        go_wp2_with fail
        refine (refEqual_any _ _ g s _ (HG.out.ext HX.out).1 HF.out.1).mono ?_
        rintro e w1 ⟨rfl, hx⟩
        rw [HPS.out]
        have HX1 := Lib.hid (HX.out.trans hx)
        clear hx
        go_wp2_with fail
        go_ret
        exact ⟨by rw [HE.out] <;> rfl, HX1.out⟩
    · obtain rfl : l.length = k := by omega
      have HE := Lib.hid (show placeN l g = -1 by
        unfold placeN
        rw [findIdx_miss (fun s => decide (s = g)) l (fun t ht => HNI.out t (by rw [List.take_of_length_le (Nat.le_refl _)]; exact ht))])
      go_wp2_with fail
      go_ret
      exact ⟨by rw [HE.out] <;> rfl, HX.out⟩
end Go.Proofs.YtbfeodammikajaaGreat

/- The reference of types: top, unfold, Subs, SameLists. -/

namespace Go.Proofs.YtbfeodammikajaaGreat
open Go.RowKit

theorem range6 {w : World} {b : Nat} {a0 a1 a2 a3 a4 a5 : Value} {t : TypeId} (h : w.heap[b]? = some (.cells #[a0, a1, a2, a3, a4, a5] t (0, 0))) : w.rangeAt b 0 [a0, a1, a2, a3, a4, a5] := range_of h
set_option maxRecDepth 100000 in
set_option maxHeartbeats 4000000 in
theorem rtop_any (v : Value) (f : List Nd) (w : World) (h : Fml w v f) (h0 : 0 < f.length) :
    Calls Tryz.prog 58 #[v] w fun e w' => e = .returned (lastN f).val ∧ Ext w w' := by
  obtain ⟨⟨A, c, rfl, hcap, hmax, hread⟩, hok⟩ := h
  have hlt : f.length - 1 < f.length := by omega
  have hget := lastN_get h0
  obtain ⟨ad, rfl, hblk, hcells⟩ := hread (by intro e; rw [e] at h0; simp at h0)
  have HR := hcells _ _ hget
  obtain ⟨c0, c1, c2, c3, c4, c5⟩ := HR
  have hi1 : ((f.length : Int) - 1) < (f.length : Int) := by omega
  have hi0 : (0 : Int) ≤ (f.length : Int) - 1 := by omega
  have e1 : ((f.length : Int) - 1).toNat = f.length - 1 := by omega
  have i2 : ((f.length : Int) == 0) = false := beq_eq_false_iff_ne.2 (by omega)
  have hw : wrap64 ((f.length : Int) - 1) = (f.length : Int) - 1 := by
    unfold maxLen at hmax
    unfold wrap64
    omega
  have HA := Lib.hid (show Ext w (w.alloc (.cells #[.int .i64 0, .int .i64 0, .int .i64 0, .int .i64 0, .int .i64 0, .int .i64 0] 93)) from (Ext.refl _).alloc _)
  have d0 := (HA.out.cell (by rw [block_of_add]; exact hblk)).trans c0
  have d1 := (HA.out.cell (by show (ad.add _).block < _; rw [block_of_add]; exact hblk)).trans c1
  have d2 := (HA.out.cell (by show (ad.add _).block < _; rw [block_of_add]; exact hblk)).trans c2
  have d3 := (HA.out.cell (by show (ad.add _).block < _; rw [block_of_add]; exact hblk)).trans c3
  have d4 := (HA.out.cell (by show (ad.add _).block < _; rw [block_of_add]; exact hblk)).trans c4
  have d5 := (HA.out.cell (by show (ad.add _).block < _; rw [block_of_add]; exact hblk)).trans c5
  clear hread hok hcells hget c0 c1 c2 c3 c4 c5 hlt
  go_enter Tryz.func58, Tryz.ntmps58
  go_wp2_with fail
  (try simp only [Exit.inBlock, Exit.then])
  refine bodyPost_ret (results_cell Tryz.results58 _ _ rfl (range6 (heap_alloc_new _ _)) Tryz.underlying93 rfl (by kernel_rfl)) rfl ?_
  exact ⟨rfl, (Ext.refl _).alloc _⟩
set_option maxRecDepth 100000 in
set_option maxHeartbeats 4000000 in
theorem runfold_any (q : Nat) (hq : q < 4) (v : Value) (f : List Nd) (w : World) (h : Fml w v f) (h0 : 0 < f.length) :
    Calls Tryz.prog 59 #[v, .int .i64 (q : Int)] w fun e w' => ∃ u, e = .returned u ∧ Made w w' u (unfN q f) := by
  have H := Lib.hid h
  obtain ⟨A, c, rfl, _⟩ := fml_slice h
  clear h
  have hx4 : ∀ w1, Sem.run Tryz.prog (Instr.field 93 (.agg #[.int .i64 (lastN f).op, .int .i64 (lastN f).i, .int .i64 (lastN f).e, .int .i64 (lastN f).g, .int .i64 (lastN f).x, .int .i64 (lastN f).y]) 4) w1 = .ok (.int .i64 (lastN f).x) w1 := fun _ => rfl
  have hx5 : ∀ w1, Sem.run Tryz.prog (Instr.field 93 (.agg #[.int .i64 (lastN f).op, .int .i64 (lastN f).i, .int .i64 (lastN f).e, .int .i64 (lastN f).g, .int .i64 (lastN f).x, .int .i64 (lastN f).y]) 5) w1 = .ok (.int .i64 (lastN f).y) w1 := fun _ => rfl
  go_enter Tryz.func59, Tryz.ntmps59
  go_wp2_with fail
  refine (rtop_any _ f _ H.out h0).mono ?_
  rintro e w1 ⟨rfl, hx1⟩
  have HX1 := Lib.hid hx1
  have hfe := hx4 w1
  unfold Nd.val
  clear hx1
  go_wp2_with fail
  refine (refSub_any _ f _ _ (H.out.ext HX1.out)).mono ?_
  rintro e w2 ⟨ua, rfl, hm2⟩
  have HM2 := Lib.hid hm2
  obtain ⟨Aa, ca, rfl, _⟩ := fml_slice hm2.fml
  clear hm2 hfe
  go_wp2_with fail
  refine (rtop_any _ f _ (H.out.ext (HX1.out.trans HM2.out.ext)) h0).mono ?_
  rintro e w3 ⟨rfl, hx3⟩
  have HX3 := Lib.hid hx3
  have hfe := hx5 w3
  unfold Nd.val
  clear hx3
  go_wp2_with fail
  refine (refSub_any _ f _ _ (H.out.ext (HX1.out.trans (HM2.out.ext.trans HX3.out)))).mono ?_
  rintro e w4 ⟨ub, rfl, hm4⟩
  have HM4 := Lib.hid hm4
  obtain ⟨Ab, cb, rfl, _⟩ := fml_slice hm4.fml
  clear hm4 hfe hx4 hx5
  go_wp2_with fail
  refine (rAnd_any _ _ _ _ _ HM4.out.fml (H.out.ext (HX1.out.trans (HM2.out.ext.trans (HX3.out.trans HM4.out.ext))))).mono ?_
  rintro e w5 ⟨u5, rfl, hm5⟩
  have HM5 := Lib.hid hm5
  obtain ⟨A5, c5, rfl, _⟩ := fml_slice hm5.fml
  clear hm5
  go_wp2_with fail
  refine (rImp_any _ _ _ _ _ (HM2.out.fml.ext (HX3.out.trans (HM4.out.ext.trans HM5.out.ext))) HM5.out.fml).mono ?_
  rintro e w6 ⟨u6, rfl, hm6⟩
  have HM6 := Lib.hid hm6
  obtain ⟨A6, c6, rfl, _⟩ := fml_slice hm6.fml
  clear hm6
  go_wp2_with fail
  refine (rKnow_any (q : Int) ⟨by omega, by omega⟩ (headg_know hq) _ _ _ HM6.out.fml).mono ?_
  rintro e w7 ⟨u7, rfl, hm7⟩
  have HM7 := Lib.hid hm7
  clear hm7
  go_wp2_with fail
  go_ret
  exact ⟨_, rfl, HM7.out.before (HX1.out.trans (HM2.out.ext.trans (HX3.out.trans (HM4.out.ext.trans (HM5.out.ext.trans HM6.out.ext)))))⟩
set_option maxRecDepth 100000 in
set_option maxHeartbeats 8000000 in
theorem refSubs_any (v : Value) (f : List Nd) (w : World) (h : Fml w v f) (hc : check f = 0) :
    Calls Tryz.prog 57 #[v] w fun e w' => ∃ u, e = .returned u ∧ FRow w w' u (subsN f) := by
  have H := Lib.hid h
  obtain ⟨iI, hiI, hzI0, hzI1, hzI2⟩ := info_parts tInfoF2
  obtain ⟨A, c, rfl, _⟩ := fml_slice h
  have hp := compactN_props hc
  obtain ⟨base, hbase⟩ : ∃ b, b = compactN f := ⟨_, rfl⟩
  have hcb : check base = 0 := hbase ▸ compactN_check hc
  have hlen : base.length ≤ 200 := hbase ▸ Nat.le_trans hp.2.1 (check_parts hc).2.1
  have HB := Lib.hid (show subsN f = formulasN base by rw [hbase]; rfl)
  have HBB := Lib.hid hbase
  clear h hp hbase hcb hc
  go_enter Tryz.func57, Tryz.ntmps57
  go_wp2_with fail
  refine (refCompact_any _ f _ H.out).mono ?_
  rintro e w0 ⟨uc, rfl, hm0⟩
  rw [← HBB.out] at hm0
  have HM0 := Lib.hid hm0
  obtain ⟨Ac, cc, rfl, _⟩ := fml_slice hm0.fml
  clear hm0
  go_wp2_with fail
  go_loopw [4, 5] (fun vo vi wr => ∃ k : Nat, vi = .int .i64 (k : Int) ∧ k ≤ base.length ∧ Hid (∃ out, out = (List.range k).map (fun (i : Nat) => subN base i) ∧ FRow w0 wr vo out)) (fun _ v _ => base.length - (intOf v).toNat)
  case atStart => exact ⟨0, rfl, Nat.zero_le _, Lib.hid ⟨[], rfl, FRow.nil _⟩⟩
  case round =>
    obtain ⟨k, rfl, hk, HREL⟩ := hrel
    obtain ⟨out, ho, hfr⟩ := HREL.out
    obtain ⟨us, hrow, hus⟩ := hfr.row
    obtain ⟨Ao, co, rfl⟩ := slice_of_row hrow
    have HO := Lib.hid ho
    have HFR := Lib.hid hfr
    have HROW := Lib.hid hrow
    have HUS := Lib.hid hus
    have hol : out.length ≤ 1000 := by rw [ho]; simp; omega
    clear HREL ho hfr hrow hus
    by_cases hlt2 : k < base.length
    · have hk1 : (k : Int) < (base.length : Int) := by omega
      have hc3 : out.length + 1 ≤ maxLen := by unfold maxLen; omega
      have hc4 : (out.length + 1) * 24 ≤ 140737488355328 := by omega
      go_wp2_with fail
      refine (refSub_any _ base (k : Int) _ (HM0.out.fml.ext HFR.out.ext)).mono ?_
      rintro e w1 ⟨u, rfl, hm⟩
      have X1 := Lib.hid (HFR.out.ext.trans hm.ext)
      have Y1 := Lib.hid hm.ext
      have HM := Lib.hid hm
      obtain ⟨Au, cu, rfl, _⟩ := fml_slice hm.fml
      clear hm
      go_wp2_with (at_builtin; refine wpList_append_own_at _ rfl _ _ 49 rfl w0.heap.size 22 iI (.slice none 0 0) 1 24 Tryz.underlying49 hiI hzI0 hzI1 hzI2 rfl (by decide) _ out.length us rfl (row_ext HROW.out (Y1.out.alloc _)) ⟨_, 0, none⟩ 1 1 [.slice Au (subN base (k : Int)).length cu] rfl rfl (row_new_at _ _ _ (by simp)) (fun u hu => by rw [List.mem_singleton.1 hu]; rfl) hc3 hc4 (Nat.le_trans HFR.out.ext.size (Y1.out.alloc _).size) ?_)
      intro v7 w7 hown7 hgrow7 _ hat7
      have HPS := Lib.hid (FRow.push (s := subN base (k : Int)) (X1.out.alloc _) (row_ext HROW.out (Y1.out.alloc _)) (fun k s hk => by
        obtain ⟨u, a, b, c⟩ := HUS.out k s hk
        exact ⟨u, a, b.ext (Y1.out.alloc _), c.ext (Y1.out.alloc _)⟩) hown7 hgrow7 (hat7.imp id (fun e => e.trans (by simp))) (HM.out.fml.ext ((Ext.refl _).alloc _)) (made_away (Nat.le_refl _) (row_ext HM.out.1 ((Ext.refl _).alloc _)) HROW.out HFR.out.ext.size))
      obtain ⟨A7, c7, rfl⟩ := slice_of_row hown7
      clear hown7 hgrow7 hat7
      go_wp2_with fail
      go_roundw
      case rel => exact ⟨k + 1, by go_num, by omega, Lib.hid ⟨_, by rw [range_step', ← HO.out], HPS.out⟩⟩
      case measure => simp [intOf]; omega
    · obtain rfl : base.length = k := by omega
      go_wp2_with fail
      go_ret
      exact ⟨_, rfl, by rw [HB.out, show formulasN base = out from HO.out.symm]; exact HFR.out.before HM0.out.ext⟩
end Go.Proofs.YtbfeodammikajaaGreat
