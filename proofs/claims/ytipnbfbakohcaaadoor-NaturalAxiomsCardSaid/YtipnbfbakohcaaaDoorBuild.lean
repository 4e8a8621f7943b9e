/- formula.build: the canonical list of a node with operands. -/
import Derived.Test.YtipnbfbakohcaaaDoorRows2
namespace Go.Proofs.YtipnbfbakohcaaaDoor
open Go.RowKit

theorem compact_len (f : List Nd) (A : Option Addr) (c r n : Nat) (w : World) (hn : f.length = n) (hf : Wf f) (hok : ∀ n ∈ f, n.ok) (hlen : f.length ≤ 1000) (hr : r < f.length) (h : NdsAt w A c f) :
    Calls Tryd.prog 59 #[.slice A n c, .int .i64 r] w fun e w' => ∃ v, e = .returned v ∧ w'.ownsRow w.heap.size 60 6 v (finN f r []).1.length ((finN f r []).1.flatMap Nd.cells) ∧ (∀ n ∈ (finN f r []).1, n.ok) ∧ Ext w w' := by
  subst hn
  exact compact_any f A c r w hf hok hlen hr h

set_option maxRecDepth 100000 in
set_option maxHeartbeats 4000000 in
theorem build_any (x : Nd) (v : Value) (ops : List (List Nd)) (w : World) (hx : x.ok) (hops : Fmls w v ops) (hn : ops.length ≤ 2) :
    Calls Tryd.prog 39 #[.agg #[.int .i64 x.op, .int .i64 x.i, .int .i64 x.e, .int .i64 x.g, .int .i64 x.x, .int .i64 x.y], v] w fun e w' => ∃ u, e = .returned u ∧ Made w w' u (buildN x ops) := by
  obtain ⟨A, c, rfl, hcap, hmax, hread⟩ := hops
  unfold maxLen at hmax
  have HREAD := Lib.hid hread
  have HXOK := Lib.hid hx
  obtain ⟨i0, hi0, hz0', hz1', hz2'⟩ := info_parts tInfo
  clear hread hx
  go_enter Tryd.func39, Tryd.ntmps39
  go_wp2_with fail
  go_loopw [5, 16] (fun v5 i wr => ∃ (k : Nat) (f : List Nd) (y : Nd), k ≤ ops.length ∧ i = .int .i64 k ∧ Hid (BOut w wr ops x k f y v5)) (fun _ i _ => ops.length - (intOf i).toNat)
  case atStart => exact ⟨0, [], x, Nat.zero_le _, rfl, Lib.hid ⟨World.ownsRow_nil _ _ _ _, (Ext.refl _).alloc _, heap_alloc_new _ _, rfl, rfl, wf_nil, by simp, HXOK.out, Nat.le_refl _⟩⟩
  case round =>
    obtain ⟨wo, rfl⟩ : ∃ wo : World, wo = wr := ⟨_, rfl⟩
    obtain ⟨k, f, y, hk, rfl, HO⟩ := hrel
    obtain ⟨A5, c5, rfl⟩ := slice_of_row HO.out.row
    have hflen := HO.out.len
    by_cases hlt : k < ops.length
    · obtain ⟨o, ho⟩ : ∃ o, ops[k]? = some o := ⟨_, List.getElem?_eq_getElem hlt⟩
      obtain ⟨ad, rfl, hb1, hc1⟩ := HREAD.out (by intro e; rw [e] at hlt; simp at hlt)
      obtain ⟨u, hu, hfu⟩ := hc1 k o ho
      have cu := (HO.out.ext.cell (p := ad.add k) (by rw [block_of_add]; exact hb1)).trans hu
      have HFU := Lib.hid (hfu.ext HO.out.ext)
      have HLAY := Lib.hid (layout_step ops k o f y ho)
      have HANY := Lib.hid (any_step ops k o ho)
      obtain ⟨Au, cuu, rfl, _⟩ := fml_slice hfu
      clear hc1 hu hfu ho
      by_cases hc : check o = 0
      · have HC := Lib.hid hc
        clear hc
        go_wp2_with fail
        refine (check_any _ o _ HFU.out.1).mono ?_
        rintro e w1 ⟨rfl, hb⟩
        rw [HC.out]
        have HX1 := Lib.hid hb
        clear hb cu
        go_wp2_with fail
        refine (compactF_any _ o _ (HFU.out.ext HX1.out)).mono ?_
        rintro e wi ⟨uc, rfl, hm⟩
        have HM := Lib.hid hm
        obtain ⟨Ac, cc, rfl, hcc⟩ := fml_slice hm.fml
        have hclr := hcc.2.2
        have hccap := hcc.1
        have hccm := hcc.2.1
        unfold maxLen at hccm
        have HCLR := Lib.hid hclr
        have hp := compactN_props HC.out
        have hlen200 := (check_parts HC.out).2.1
        have hcl1 : (compactN o).length ≤ 200 := by omega
        have hcl0 := hp.2.2.1
        have HWFC := Lib.hid hp.1
        have HOKC := Lib.hid hm.2.1
        have HX2 := Lib.hid (HO.out.ext.trans (HX1.out.trans hm.2.2))
        have HROWI : Hid (wi.ownsRow (w.heap.size + 1) 60 6 (.slice A5 f.length c5) f.length (f.flatMap Nd.cells)) := Lib.hid (row_ext HO.out.row (HX1.out.trans hm.2.2))
        have HBOXI : Hid (wi.heap[w.heap.size]? = some (.cells #[.int .i64 y.op, .int .i64 y.i, .int .i64 y.e, .int .i64 y.g, .int .i64 y.x, .int .i64 y.y] 60 (0, 0))) :=
          Lib.hid (((HX1.out.trans hm.2.2).block (lt_heap HO.out.box)).trans HO.out.box)
        have HNEW := Lib.hid (new_apart hm HO.out.row HX1.out)
        obtain ⟨cl, hcl⟩ : ∃ cl, cl = compactN o := ⟨_, rfl⟩
        have HCL := Lib.hid hcl
        rw [← hcl] at HCLR hccap hcl1 hcl0 HWFC HOKC
        rw [← hcl]
        clear hm hcc hclr hp hcl
        go_wp2_with fail
        go_loopw [5, 29] (fun v5 i wr => ∃ j : Nat, j ≤ cl.length ∧ i = .int .i64 j ∧ Hid (wr.ownsRow (w.heap.size + 1) 60 6 v5 (f.length + j) ((f ++ (cl.take j).map (shiftN f.length)).flatMap Nd.cells)) ∧ Hid (RStep wi wr (.slice A5 f.length c5) v5)) (fun _ i _ => cl.length - (intOf i).toNat)
        case atStart => exact ⟨0, Nat.zero_le _, rfl, Lib.hid (by simpa using HROWI.out), Lib.hid (RStep.refl _ _)⟩
        case round =>
          obtain ⟨j, hj, rfl, HROW2, HST⟩ := hrel
          obtain ⟨A6, c6, rfl⟩ := slice_of_row HROW2.out
          by_cases hlt2 : j < cl.length
          · obtain ⟨a, ha⟩ : ∃ a, cl[j]? = some a := ⟨_, List.getElem?_eq_getElem hlt2⟩
            obtain ⟨adc, rfl, hbc, hcc2⟩ := HCLR.out (by intro e; rw [e] at hlt2; simp at hlt2)
            obtain ⟨a0, a1, a2, a3, a4, a5⟩ := (hcc2 j a ha).keep fun p hp => HST.out.cell (p := p) (by rw [hp, block_of_add]; exact hbc) (by rw [hp, block_of_add]; exact (HNEW.out adc rfl).1)
            obtain ⟨xs, hxs⟩ : ∃ xs, xs = (f ++ (cl.take j).map (shiftN f.length)).flatMap Nd.cells := ⟨_, rfl⟩
            rw [← hxs] at HROW2
            have HXS := Lib.hid hxs
            clear hxs
            have hxy := HWFC.out j a ha
            have haok := HOKC.out a (List.mem_of_getElem? ha)
            have HTK := Lib.hid (take_succ_eq ha)
            have hc3 : f.length + j + 1 ≤ maxLen := by unfold maxLen; omega
            have hc4 : (f.length + j + 1) * 48 ≤ 140737488355328 := by omega
            have HX3 : Hid (w.heap.size + 1 ≤ wr.heap.size) := Lib.hid (Nat.le_trans (Nat.succ_le_of_lt (lt_heap HBOXI.out)) HST.out.size)
            have hxb : hasX a.op = true → 0 ≤ a.x ∧ a.x < 200 := fun e => by have := hxy.1 e; omega
            have hyb : hasY a.op = true → 0 ≤ a.y ∧ a.y < 200 := fun e => by have := hxy.2 e; omega
            clear hcc2 hxy haok ha
            rcases xy_cases a.op with ⟨hux, huy⟩ | ⟨hux, huy⟩ | ⟨hux, huy⟩

            · -- no operands
              have HUX := Lib.hid hux; have HUY := Lib.hid huy
              have HN2 : Hid (xs ++ [.int .i64 a.op, .int .i64 a.i, .int .i64 a.e, .int .i64 a.g, .int .i64 (a.x), .int .i64 (a.y)] = (f ++ (cl.take (j + 1)).map (shiftN f.length)).flatMap Nd.cells) :=
                Lib.hid (by rw [HXS.out, HTK.out, List.map_append, ← List.append_assoc, List.flatMap_append]; simp [shiftN, hux, huy, Nd.cells])
              clear hux huy hxb hyb
              go_wp2_with (first | (go_at_call 56; refine (uses_as _ _ _ _ _ _ _ _ HUX.out HUY.out rfl rfl rfl rfl rfl _).mono ?_; rintro e w2 ⟨rfl, hb⟩; have HB := Lib.hid hb; obtain ⟨hc, hfz, hz0⟩ := hb.facts; clear hb; have hz : wr.heap.size < w2.heap.size := by { simp at hz0; omega }; clear hz0) | (at_builtin; refine wpList_append_own_at _ rfl _ _ 29 rfl (w.heap.size + 1) 60 i0 Nd.zero.val 6 48 Tryd.underlying29 hi0 hz0' hz1' hz2' rfl (by decide) _ _ _ rfl (row_ext HROW2.out ?hx) _ 1 1 [.int .i64 a.op, .int .i64 a.i, .int .i64 a.e, .int .i64 a.g, .int .i64 (a.x), .int .i64 (a.y)] rfl rfl ?c1 ?c2 hc3 hc4 ?c5 ?_))
              case hx => exact (((((Ext.refl _).alloc _).trans HB.out).alloc _).alloc _)
              case c1 => exact row_new_at _ _ _ (by simp)
              case c2 =>
                intro u hu
                simp only [List.mem_cons, List.mem_nil_iff, or_false] at hu
                rcases hu with rfl | rfl | rfl | rfl | rfl | rfl <;> rfl
              case c5 =>
                have h1 := HX3.out
                have h2 := HB.out.size
                simp at h2 ⊢
                omega
              intro v' w4 hown4 hgrow4 _ hat4
              have HROW4 := Lib.hid hown4
              have HST4 := Lib.hid ((HST.out.ext (((((Ext.refl _).alloc _).trans HB.out).alloc _).alloc _)).appended hgrow4 (hat4.imp id fun e => by rw [e]; simp))
              obtain ⟨A4, c4', rfl⟩ := slice_of_row hown4
              clear hown4 hgrow4 hat4
              go_wp2_with fail
              go_roundw
              case rel => exact ⟨j + 1, by omega, by go_num, Lib.hid (by rw [← HN2.out]; exact HROW4.out), HST4⟩
              case measure => simp [intOf]; omega

            · -- one operand
              obtain ⟨bx0, bx1⟩ := hxb hux
              have HUX := Lib.hid hux; have HUY := Lib.hid huy
              have HN2 : Hid (xs ++ [.int .i64 a.op, .int .i64 a.i, .int .i64 a.e, .int .i64 a.g, .int .i64 (a.x + (f.length : Int)), .int .i64 (a.y)] = (f ++ (cl.take (j + 1)).map (shiftN f.length)).flatMap Nd.cells) :=
                Lib.hid (by rw [HXS.out, HTK.out, List.map_append, ← List.append_assoc, List.flatMap_append]; simp [shiftN, hux, huy, Nd.cells])
              clear hux huy hxb hyb
              go_wp2_with (first | (go_at_call 56; refine (uses_as _ _ _ _ _ _ _ _ HUX.out HUY.out rfl rfl rfl rfl rfl _).mono ?_; rintro e w2 ⟨rfl, hb⟩; have HB := Lib.hid hb; obtain ⟨hc, hfz, hz0⟩ := hb.facts; clear hb; have hz : wr.heap.size < w2.heap.size := by { simp at hz0; omega }; clear hz0) | (at_builtin; refine wpList_append_own_at _ rfl _ _ 29 rfl (w.heap.size + 1) 60 i0 Nd.zero.val 6 48 Tryd.underlying29 hi0 hz0' hz1' hz2' rfl (by decide) _ _ _ rfl (row_ext HROW2.out ?hx) _ 1 1 [.int .i64 a.op, .int .i64 a.i, .int .i64 a.e, .int .i64 a.g, .int .i64 (a.x + (f.length : Int)), .int .i64 (a.y)] rfl rfl ?c1 ?c2 hc3 hc4 ?c5 ?_))
              case hx => exact (((Ext.setCell (p := ⟨wr.heap.size, 4, none⟩) (((Ext.refl _).alloc _).trans HB.out) (Nat.le_refl _) _).alloc _).alloc _)
              case c1 => exact row_new_at _ _ _ (by simp)
              case c2 =>
                intro u hu
                simp only [List.mem_cons, List.mem_nil_iff, or_false] at hu
                rcases hu with rfl | rfl | rfl | rfl | rfl | rfl <;> rfl
              case c5 =>
                have h1 := HX3.out
                have h2 := HB.out.size
                simp at h2 ⊢
                omega
              intro v' w4 hown4 hgrow4 _ hat4
              have HROW4 := Lib.hid hown4
              have HST4 := Lib.hid ((HST.out.ext (((Ext.setCell (p := ⟨wr.heap.size, 4, none⟩) (((Ext.refl _).alloc _).trans HB.out) (Nat.le_refl _) _).alloc _).alloc _)).appended hgrow4 (hat4.imp id fun e => by rw [e]; simp))
              obtain ⟨A4, c4', rfl⟩ := slice_of_row hown4
              clear hown4 hgrow4 hat4
              go_wp2_with fail
              go_roundw
              case rel => exact ⟨j + 1, by omega, by go_num, Lib.hid (by rw [← HN2.out]; exact HROW4.out), HST4⟩
              case measure => simp [intOf]; omega

            · -- two operands
              obtain ⟨bx0, bx1⟩ := hxb hux
              obtain ⟨by0, by1⟩ := hyb huy
              have HUX := Lib.hid hux; have HUY := Lib.hid huy
              have HN2 : Hid (xs ++ [.int .i64 a.op, .int .i64 a.i, .int .i64 a.e, .int .i64 a.g, .int .i64 (a.x + (f.length : Int)), .int .i64 (a.y + (f.length : Int))] = (f ++ (cl.take (j + 1)).map (shiftN f.length)).flatMap Nd.cells) :=
                Lib.hid (by rw [HXS.out, HTK.out, List.map_append, ← List.append_assoc, List.flatMap_append]; simp [shiftN, hux, huy, Nd.cells])
              clear hux huy hxb hyb
              go_wp2_with (first | (go_at_call 56; refine (uses_as _ _ _ _ _ _ _ _ HUX.out HUY.out rfl rfl rfl rfl rfl _).mono ?_; rintro e w2 ⟨rfl, hb⟩; have HB := Lib.hid hb; obtain ⟨hc, hfz, hz0⟩ := hb.facts; clear hb; have hz : wr.heap.size < w2.heap.size := by { simp at hz0; omega }; clear hz0) | (at_builtin; refine wpList_append_own_at _ rfl _ _ 29 rfl (w.heap.size + 1) 60 i0 Nd.zero.val 6 48 Tryd.underlying29 hi0 hz0' hz1' hz2' rfl (by decide) _ _ _ rfl (row_ext HROW2.out ?hx) _ 1 1 [.int .i64 a.op, .int .i64 a.i, .int .i64 a.e, .int .i64 a.g, .int .i64 (a.x + (f.length : Int)), .int .i64 (a.y + (f.length : Int))] rfl rfl ?c1 ?c2 hc3 hc4 ?c5 ?_))
              case hx => exact (((Ext.setCell (p := ⟨wr.heap.size, 5, none⟩) (Ext.setCell (p := ⟨wr.heap.size, 4, none⟩) (((Ext.refl _).alloc _).trans HB.out) (Nat.le_refl _) _) (Nat.le_refl _) _).alloc _).alloc _)
              case c1 => exact row_new_at _ _ _ (by simp)
              case c2 =>
                intro u hu
                simp only [List.mem_cons, List.mem_nil_iff, or_false] at hu
                rcases hu with rfl | rfl | rfl | rfl | rfl | rfl <;> rfl
              case c5 =>
                have h1 := HX3.out
                have h2 := HB.out.size
                simp at h2 ⊢
                omega
              intro v' w4 hown4 hgrow4 _ hat4
              have HROW4 := Lib.hid hown4
              have HST4 := Lib.hid ((HST.out.ext (((Ext.setCell (p := ⟨wr.heap.size, 5, none⟩) (Ext.setCell (p := ⟨wr.heap.size, 4, none⟩) (((Ext.refl _).alloc _).trans HB.out) (Nat.le_refl _) _) (Nat.le_refl _) _).alloc _).alloc _)).appended hgrow4 (hat4.imp id fun e => by rw [e]; simp))
              obtain ⟨A4, c4', rfl⟩ := slice_of_row hown4
              clear hown4 hgrow4 hat4
              go_wp2_with fail
              go_roundw
              case rel => exact ⟨j + 1, by omega, by go_num, Lib.hid (by rw [← HN2.out]; exact HROW4.out), HST4⟩
              case measure => simp [intOf]; omega

          · obtain rfl : cl.length = j := by omega
            clear hlt2
            have hlast : 1 ≤ f.length + cl.length := by omega
            have HBX : Hid (wr.heap[w.heap.size]? = some (.cells #[.int .i64 y.op, .int .i64 y.i, .int .i64 y.e, .int .i64 y.g, .int .i64 y.x, .int .i64 y.y] 60 (0, 0))) :=
              Lib.hid ((HST.out.block _ (lt_heap HBOXI.out) (row_ne HROWI.out)).trans HBOXI.out)
            obtain ⟨⟨d0, d1, d2, d3, d4, d5⟩, dfr, dlt⟩ := cells6 HBX.out
            by_cases hk0 : k = 0
            · -- the first operand
              obtain rfl : k = 0 := hk0
              go_wp2_with fail
              go_roundw
              case rel => exact ⟨0 + 1, _, _, by omega, by go_num, Lib.hid (HO.out.next (by omega) HX2.out HROWI.out HST.out HROW2.out HBOXI.out HLAY.out HANY.out HC.out HCL.out HWFC.out hcl1 HOKC.out 4 rfl _ (by go_num))⟩
              case measure => simp [intOf]; omega
            · -- the second
              have hkb : ((k : Int) == 0) = false := by rw [beq_eq_false_iff_ne]; omega
              have HKB := Lib.hid hk0
              clear hk0
              go_wp2_with fail
              go_roundw
              case rel => exact ⟨k + 1, _, _, by omega, by go_num, Lib.hid (HO.out.next (by omega) HX2.out HROWI.out HST.out HROW2.out HBOXI.out HLAY.out HANY.out HC.out HCL.out HWFC.out hcl1 HOKC.out 5 (by have e : (k == 0) = false := by { rw [beq_eq_false_iff_ne]; exact HKB.out }; rw [e]; rfl) _ (by go_num))⟩
              case measure => simp [intOf]; omega
      · have HB0 := Lib.hid (HO.out.bad hc HANY.out)
        have hcb : (check o != 0) = true := by simpa using hc
        clear hc
        go_wp2_with fail
        refine (check_any _ o _ HFU.out.1).mono ?_
        rintro e w1 ⟨rfl, hb⟩
        have HX1 := Lib.hid (HO.out.ext.trans hb)
        clear hb
        go_wp2_with fail
        go_ret
        exact ⟨_, rfl, by rw [HB0.out]; exact (Made.none_ _).after HX1.out⟩
    · obtain rfl : ops.length = k := by omega
      have HJ := Lib.hid HO.out.end_
      obtain ⟨⟨d0, d1, d2, d3, d4, d5⟩, dfr, dlt⟩ := cells6 HO.out.box
      by_cases hne : nodeErr y f.length = 0
      · have HNE := Lib.hid hne
        clear hne
        go_wp2_with fail
        refine (nodeError_any y _ _).mono ?_
        rintro e w1 ⟨rfl, hb⟩
        rw [HNE.out]
        have HX1 := Lib.hid hb
        have HROW1 := Lib.hid (row_ext HO.out.row hb)
        have HBX : Hid (w1.heap[w.heap.size]? = some (.cells #[.int .i64 y.op, .int .i64 y.i, .int .i64 y.e, .int .i64 y.g, .int .i64 y.x, .int .i64 y.y] 60 (0, 0))) := Lib.hid ((hb.block (lt_heap HO.out.box)).trans HO.out.box)
        clear hb d0 d1 d2 d3 d4 d5 dfr dlt
        obtain ⟨⟨d0, d1, d2, d3, d4, d5⟩, dfr, dlt⟩ := cells6 HBX.out
        obtain ⟨xs, hxs⟩ : ∃ xs, xs = f.flatMap Nd.cells := ⟨_, rfl⟩
        rw [← hxs] at HROW1
        have HXS := Lib.hid hxs
        clear hxs
        have hc3 : f.length + 1 ≤ maxLen := by unfold maxLen; omega
        have hc4 : (f.length + 1) * 48 ≤ 140737488355328 := by omega
        go_wp2_with (at_builtin; refine wpList_append_own_at _ rfl _ _ 29 rfl (w.heap.size + 1) 60 i0 Nd.zero.val 6 48 Tryd.underlying29 hi0 hz0' hz1' hz2' rfl (by decide) _ _ _ rfl (row_ext HROW1.out ?hx) _ 1 1 y.cells rfl rfl ?c1 (node_cells y) hc3 hc4 ?c5 ?_)
        case hx => exact (Ext.refl _).alloc _
        case c1 => exact row_new_at _ _ _ rfl
        case c5 => simp; omega
        intro v' w4 hown4 hgrow4 _ hat4
        have HROW4 : Hid (w4.ownsRow (w.heap.size + 1) 60 6 v' (f ++ [y]).length ((f ++ [y]).flatMap Nd.cells)) := Lib.hid (by rw [HXS.out] at hown4; simpa using hown4)
        have HX4 : Hid (Ext w w4) := Lib.hid ((((HO.out.ext.trans HX1.out).alloc _).grown hgrow4 (fun g hg => by have := (HO.out.row.lt g hg).1; omega)))
        obtain ⟨A7, c7, hv7, hat7⟩ := nds_of_row HROW4.out
        have HAT7 := Lib.hid hat7
        have e7 : (f ++ [y]).length = f.length + 1 := by simp
        rw [e7] at hv7
        have HWF := Lib.hid (join_wf HO.out.wf HNE.out)
        have HOKS : Hid (∀ n ∈ f ++ [y], n.ok) := Lib.hid (fun n hn => by
          rcases List.mem_append.1 hn with hn | hn
          · exact HO.out.oks n hn
          · rw [List.mem_singleton.1 hn]; exact HO.out.yok)
        have HE7 := Lib.hid e7
        subst hv7
        clear hown4 hgrow4 hat4 hat7 e7
        go_wp2_with fail
        refine (compact_len (f ++ [y]) A7 c7 f.length (f.length + 1) _ HE7.out HWF.out HOKS.out (by rw [HE7.out]; omega) (by rw [HE7.out]; omega) HAT7.out).mono ?_
        rintro e w5 ⟨u5, rfl, hrow5, hoks5, hext5⟩
        have HM5 := Lib.hid (show Made w w5 u5 (finN (f ++ [y]) f.length []).1 from Made.before ⟨hrow5, hoks5, hext5⟩ HX4.out)
        obtain ⟨A8, c8, rfl⟩ := slice_of_row hrow5
        clear hrow5 hoks5 hext5
        by_cases hlong : 200 < (finN (f ++ [y]) f.length []).1.length
        · have HLJ := Lib.hid (join_long HNE.out hlong)
          generalize (finN (f ++ [y]) f.length []).1 = cf at HM5 hlong
          go_wp2_with fail
          go_ret
          exact ⟨_, rfl, by rw [HJ.out, HLJ.out]; exact (Made.none_ _).after HM5.out.2.2⟩
        · have HLJ := Lib.hid (join_ok HNE.out hlong)
          generalize (finN (f ++ [y]) f.length []).1 = cf at HM5 hlong HLJ
          go_wp2_with fail
          go_ret
          exact ⟨_, rfl, by rw [HJ.out, HLJ.out]; exact HM5.out⟩
      · have HB0 := Lib.hid (join_bad hne)
        have hcb : (nodeErr y f.length != 0) = true := by simpa using hne
        clear hne
        go_wp2_with fail
        refine (nodeError_any y _ _).mono ?_
        rintro e w1 ⟨rfl, hb⟩
        have HX1 := Lib.hid (HO.out.ext.trans hb)
        clear hb
        go_wp2_with fail
        go_ret
        exact ⟨_, rfl, by rw [HJ.out, HB0.out]; exact (Made.none_ _).after HX1.out⟩
end Go.Proofs.YtipnbfbakohcaaaDoor
