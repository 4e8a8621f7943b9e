/- The reference of types: Expand. -/
import Derived.Test.YtbfeodammikajaaGreatG30
import Derived.Test.YtbfeodammikajaaGreatG13
import Derived.Test.YtbfeodammikajaaGreatG14

namespace Go.Proofs.YtbfeodammikajaaGreat
open Go.RowKit

theorem zero_head {n : Nd} (h : headOk n) : ({ n with x := 0, y := 0 } : Nd) = n.head := by
  obtain ⟨_, _, _, hx, hy⟩ := h
  unfold Nd.head Nd.with_
  cases h1 : hasX n.op
  · cases h2 : hasY n.op
    · rw [hx h1, hy h2]; rfl
    · rw [hx h1]; rfl
  · cases h2 : hasY n.op
    · rw [hy h2]; rfl
    · rfl
/-- Rebuild is the expansion, but for two operators. -/
theorem rebuild_exp {n : Nd} (h : headOk n) (ho : (1 ≤ n.op ∧ n.op ≤ 11) ∨ n.op = 13) (h10 : n.op ≠ 10) (h11 : n.op ≠ 11) (a b : List Nd) : rebuildN n a b = expS n a b := by
  have hop : (n.op = 1 ∨ n.op = 2 ∨ n.op = 4 ∨ n.op = 5 ∨ n.op = 6 ∨ n.op = 7 ∨ n.op = 8) ∨ (n.op = 3 ∨ n.op = 9) ∨ n.op = 13 := by omega
  unfold rebuildN
  rw [zero_head h]
  rcases hop with hop | hop | hop
  · rw [bare0 h hop]
    rcases hop with e | e | e | e | e | e | e
    all_goals (unfold expS; rw [e])
    · exact true_list.symm
    · exact false_list.symm
    all_goals rfl
  · rw [barei h hop]
    rcases hop with e | e
    all_goals (unfold expS; rw [e])
    · exact (build_zero (n := ⟨3, n.i, 0, 0, 0, 0⟩) rfl rfl (head3 h e)).2.symm
    · rfl
  · rw [bareg h hop]
    unfold expS
    rw [hop]
    rfl
set_option maxRecDepth 100000 in
set_option maxHeartbeats 16000000 in
theorem rexpand_any (v : Value) (f : List Nd) (w : World) (h : Fml w v f) (hc : check f = 0) (hl : ∀ n ∈ compactN f, (1 ≤ n.op ∧ n.op ≤ 11) ∨ n.op = 13) :
    Calls Tryz.prog 56 #[v] w fun e w' => ∃ u, e = .returned u ∧ Fml w' u (expandN f) ∧ Ext w w' := by
  have H := Lib.hid h
  obtain ⟨iI, hiI, hzI0, hzI1, hzI2⟩ := info_parts tInfoF2
  obtain ⟨A, c, rfl, _⟩ := fml_slice h
  obtain ⟨hwf, hlen0, hpos, hheads⟩ := compactN_props hc
  have hl200 : (compactN f).length ≤ 200 := Nat.le_trans hlen0 (check_parts hc).2.1
  obtain ⟨cl, hcl⟩ : ∃ b, b = compactN f := ⟨_, rfl⟩
  rw [← hcl] at hwf hpos hheads hl200 hl
  have HCL := Lib.hid hcl
  have HWF := Lib.hid hwf
  have HHD := Lib.hid hheads
  have HLG := Lib.hid hl
  clear h hc hwf hlen0 hheads hcl hl
  go_enter Tryz.func56, Tryz.ntmps56
  go_wp2_with fail
  refine (refCompact_any _ f _ H.out).mono ?_
  rintro e w0 ⟨uc, rfl, hm0⟩
  rw [← HCL.out] at hm0
  have HM0 := Lib.hid hm0
  obtain ⟨Ac, cc, rfl, hcap, hmax, hread⟩ := fml_slice hm0.fml
  obtain ⟨ad, rfl, hblk, hcells⟩ := hread (by intro e; rw [e] at hpos; simp at hpos)
  have HCELLS := Lib.hid hcells
  unfold maxLen at hmax
  clear hm0 hread hcells
  go_wp2_with fail
  go_loopw [3, 12] (fun vo vi wr => ∃ k : Nat, vi = .int .i64 (k : Int) ∧ k ≤ cl.length ∧ Hid (∃ out, expGo (cl.take k) [] = some out ∧ out.length = k ∧ FRow w0 wr vo out)) (fun _ v _ => cl.length - (intOf v).toNat)
  case atStart => exact ⟨0, rfl, Nat.zero_le _, Lib.hid ⟨[], rfl, rfl, FRow.nil _⟩⟩
  case round =>
    obtain ⟨k, rfl, hk, HREL⟩ := hrel
    obtain ⟨out, ho, hok, hfr⟩ := HREL.out
    obtain ⟨us, hrow, hus⟩ := hfr.row
    obtain ⟨Ao, co, rfl⟩ := slice_of_row hrow
    have HO := Lib.hid ho
    have HOK := Lib.hid hok
    have HFR := Lib.hid hfr
    have HROW := Lib.hid hrow
    have HUS := Lib.hid hus
    have hol : out.length ≤ 1000 := by omega
    clear HREL ho hfr hrow hus hok
    by_cases hlt2 : k < cl.length
    · have hk1 : (k : Int) < (cl.length : Int) := by omega
      obtain ⟨n, hn⟩ : ∃ n, cl[k]? = some n := ⟨_, List.getElem?_eq_getElem hlt2⟩
      obtain ⟨c0, c1, c2, c3, c4, c5⟩ := (HCELLS.out k n hn).keep fun p hp => HFR.out.ext.cell (p := p) (by rw [hp, block_of_add]; exact hblk)
      have hblk2 : (ad.add (k * 6)).block < wr.heap.size := by rw [block_of_add]; exact Nat.lt_of_lt_of_le hblk HFR.out.ext.size
      have HN := Lib.hid hn
      have HOPS := Lib.hid (HLG.out n (List.mem_of_getElem? hn))
      have HHN := Lib.hid (HHD.out n (List.mem_of_getElem? hn))
      have HXY := Lib.hid (HWF.out k n hn)
      have HNO := Lib.hid (show n.ok from HM0.out.2.1 n (List.mem_of_getElem? hn))
      clear hn
      obtain ⟨wq, hwq⟩ : ∃ v, v = wr := ⟨_, rfl⟩
      subst hwq
      obtain ⟨o, i1, e1, gq, px, py⟩ := n
      have HCS := Lib.hid (xy_cases o)
      rcases HCS.out with ⟨hux, huy⟩ | ⟨hux, huy⟩ | ⟨hux, huy⟩
      · have HUX := Lib.hid hux
        have HUY := Lib.hid huy
        clear hux huy HCS
        have HW0 := Lib.hid (show (wq.alloc (.cells #[.int .i64 o, .int .i64 i1, .int .i64 e1, .int .i64 gq, .int .i64 px, .int .i64 py] 93)).heap[wq.heap.size]? = some (.cells #[.int .i64 o, .int .i64 i1, .int .i64 e1, .int .i64 gq, .int .i64 px, .int .i64 py] 93 (0, 0)) from heap_alloc_new _ _)
        have HX0 := Lib.hid (show Ext wq (wq.alloc (.cells #[.int .i64 o, .int .i64 i1, .int .i64 e1, .int .i64 gq, .int .i64 px, .int .i64 py] 93)) from (Ext.refl _).alloc _)
        obtain ⟨⟨d0, d1, d2, d3, d4, d5⟩, dfr, dlt⟩ := cells6 HW0.out
        have h10 : o ≠ 10 := fun e => by have h1 := HUX.out; have h2 := HUY.out; rw [e] at h1 h2; revert h1 h2; decide
        have h11 : o ≠ 11 := fun e => by have h1 := HUX.out; have h2 := HUY.out; rw [e] at h1 h2; revert h1 h2; decide
        have HEX := Lib.hid (show expS ⟨o, i1, e1, gq, px, py⟩ (out.getD (px).toNat []) (out.getD (py).toNat []) = rebuildN ⟨o, i1, e1, gq, px, py⟩ [] [] by
          rw [rebuild_exp HHN.out HOPS.out h10 h11]
          exact expS_congr (fun h => absurd (HUX.out.symm.trans h) (by decide)) (fun h => absurd (HUY.out.symm.trans h) (by decide)) HOPS.out)
        have t10 : (o == 10) = false := by rw [beq_eq_false_iff_ne]; exact h10
        have t11 : (o == 11) = false := by rw [beq_eq_false_iff_ne]; exact h11
        clear h10 h11
        go_wp2_with (first | (go_at_call 89; refine (usesX_as HUX.out _).mono ?_; rintro e1 w5 ⟨rfl, rfl⟩) | (go_at_call 90; refine (usesY_as HUY.out _).mono ?_; rintro e1 w5 ⟨rfl, rfl⟩))
        refine (rebuild_any ⟨o, i1, e1, gq, px, py⟩ _ _ [] [] _ HHN.out HNO.out (fml_none _) (fml_none _)).mono ?_
        rintro e w2 ⟨u, rfl, hm⟩
        have HM := Lib.hid hm
        obtain ⟨⟨d0, d1, d2, d3, d4, d5⟩, dfr, dlt⟩ := cells6 ((hm.ext.block dlt).trans HW0.out)
        have HG : Hid (Made wq w2 u (expS ⟨o, i1, e1, gq, px, py⟩ (out.getD (px).toNat []) (out.getD (py).toNat []))) := Lib.hid (by rw [HEX.out]; exact hm.before HX0.out)
        clear hm HEX
        obtain ⟨As8, cs8, rfl, _⟩ := fml_slice HG.out.fml
        have HX8 := Lib.hid HG.out.ext
        by_cases hz : (expS ⟨o, i1, e1, gq, px, py⟩ (out.getD (px).toNat []) (out.getD (py).toNat [])).length = 0
        · have HE := Lib.hid (show expandN f = [] by
            unfold expandN
            rw [← HCL.out, expGo_none (k := k + 1) (by rw [expGo_step HN.out HO.out, decide_eq_true hz]; rfl)])
          have hzb : (((expS ⟨o, i1, e1, gq, px, py⟩ (out.getD (px).toNat []) (out.getD (py).toNat [])).length : Int) == 0) = true := by rw [hz]; rfl
          generalize (expS ⟨o, i1, e1, gq, px, py⟩ (out.getD (px).toNat []) (out.getD (py).toNat [])).length = m8 at hz hzb
          clear hz
          go_wp2_with fail
          go_ret
          exact ⟨_, rfl, by rw [HE.out]; exact fml_none _, HM0.out.ext.trans (HFR.out.ext.trans HX8.out)⟩
        · have hzb : (((expS ⟨o, i1, e1, gq, px, py⟩ (out.getD (px).toNat []) (out.getD (py).toNat [])).length : Int) == 0) = false := by rw [beq_eq_false_iff_ne]; omega
          have HSTEP := Lib.hid (show expGo (cl.take (k + 1)) [] = some (out ++ [expS ⟨o, i1, e1, gq, px, py⟩ (out.getD (px).toNat []) (out.getD (py).toNat [])]) by rw [expGo_step HN.out HO.out, decide_eq_false hz]; rfl)
          clear hz
          generalize expS ⟨o, i1, e1, gq, px, py⟩ (out.getD (px).toNat []) (out.getD (py).toNat []) = g8 at HG hzb HSTEP
          have hc3 : out.length + 1 ≤ maxLen := by unfold maxLen; omega
          have hc4 : (out.length + 1) * 24 ≤ 140737488355328 := by omega
          go_wp2_with (at_builtin; refine wpList_append_own_at _ rfl _ _ 49 rfl w0.heap.size 22 iI (.slice none 0 0) 1 24 Tryz.underlying49 hiI hzI0 hzI1 hzI2 rfl (by decide) _ out.length us rfl (row_ext HROW.out (HX8.out.alloc _)) ⟨_, 0, none⟩ 1 1 [.slice As8 g8.length cs8] rfl rfl (row_new_at _ _ _ (by simp)) (fun u hu => by rw [List.mem_singleton.1 hu]; rfl) hc3 hc4 (Nat.le_trans HFR.out.ext.size (HX8.out.alloc _).size) ?_)
          intro v7 w7 hown7 hgrow7 _ hat7
          have HPS := Lib.hid (FRow.push (s := g8) ((HFR.out.ext.trans HX8.out).alloc _) (row_ext HROW.out (HX8.out.alloc _)) (fun k s hk => by
            obtain ⟨u, a, b, c⟩ := HUS.out k s hk
            exact ⟨u, a, b.ext (HX8.out.alloc _), c.ext (HX8.out.alloc _)⟩) hown7 hgrow7 (hat7.imp id (fun e => e.trans (by simp))) (HG.out.fml.ext ((Ext.refl _).alloc _)) (made_away (Nat.le_refl _) (row_ext HG.out.1 ((Ext.refl _).alloc _)) HROW.out HFR.out.ext.size))
          obtain ⟨A7, c7, rfl⟩ := slice_of_row hown7
          clear hown7 hgrow7 hat7
          go_wp2_with fail
          go_roundw
          case rel => exact ⟨k + 1, by go_num, by omega, Lib.hid ⟨_, HSTEP.out, by rw [List.length_append, HOK.out]; rfl, HPS.out⟩⟩
          case measure => simp [intOf]; omega
      · have HUX := Lib.hid hux
        have HUY := Lib.hid huy
        clear hux huy HCS
        obtain ⟨g0, cap0, hsl, hs1, hs2⟩ := HFR.out.slice (by rw [HOK.out]; have := (HXY.out.1 HUX.out); omega)
        injection hsl with hsl1 _ hsl2
        subst hsl1 hsl2
        unfold maxLen at hs2
        have hXx : 0 ≤ px ∧ px < k := HXY.out.1 HUX.out
        obtain ⟨jx, hjx⟩ := Int.eq_ofNat_of_zero_le hXx.1
        subst hjx
        obtain ⟨sx, hsx⟩ : ∃ s, out[jx]? = some s := ⟨_, List.getElem?_eq_getElem (by rw [HOK.out]; omega)⟩
        obtain ⟨ux, hux, hfx, hglx⟩ := HFR.out.get hsx
        have HSx := Lib.hid (show out.getD (jx : Int).toNat [] = sx by rw [Int.toNat_natCast, List.getD_eq_getElem?_getD, hsx]; rfl)
        have HFx := Lib.hid hfx
        obtain ⟨Ax, cx, rfl, _⟩ := fml_slice hfx
        have hjlx : (jx : Int) < (out.length : Int) := by rw [HOK.out]; omega
        clear hsx hfx hXx
        have HW0 := Lib.hid (show (wq.alloc (.cells #[.int .i64 o, .int .i64 i1, .int .i64 e1, .int .i64 gq, .int .i64 (jx : Int), .int .i64 py] 93)).heap[wq.heap.size]? = some (.cells #[.int .i64 o, .int .i64 i1, .int .i64 e1, .int .i64 gq, .int .i64 (jx : Int), .int .i64 py] 93 (0, 0)) from heap_alloc_new _ _)
        have HX0 := Lib.hid (show Ext wq (wq.alloc (.cells #[.int .i64 o, .int .i64 i1, .int .i64 e1, .int .i64 gq, .int .i64 (jx : Int), .int .i64 py] 93)) from (Ext.refl _).alloc _)
        obtain ⟨⟨d0, d1, d2, d3, d4, d5⟩, dfr, dlt⟩ := cells6 HW0.out
        by_cases h10 : o = 10
        · subst h10
          have HEX := Lib.hid (show expS ⟨10, i1, e1, gq, (jx : Int), py⟩ (out.getD (jx : Int).toNat []) (out.getD (py).toNat []) = notN (knowN i1 (notN sx)) by unfold expS; rw [HSx.out]; rfl)
          go_wp2_with (first | (go_at_call 89; refine (usesX_as HUX.out _).mono ?_; rintro e1 w5 ⟨rfl, rfl⟩) | (go_at_call 90; refine (usesY_as HUY.out _).mono ?_; rintro e1 w5 ⟨rfl, rfl⟩))
          refine (rebuild_any ⟨10, i1, e1, gq, (jx : Int), py⟩ _ _ sx [] _ HHN.out HNO.out (HFx.out.ext HX0.out) (fml_none _)).mono ?_
          rintro e w2 ⟨u, rfl, hm⟩
          have HM := Lib.hid hm
          obtain ⟨⟨d0, d1, d2, d3, d4, d5⟩, dfr, dlt⟩ := cells6 ((hm.ext.block dlt).trans HW0.out)
          go_upto_region 12 with (fail)
          have HFX2 := Lib.hid (HFx.out.ext (HX0.out.trans hm.ext))
          have hxw : Ext wq w2 := HX0.out.trans hm.ext
          have HHK := Lib.hid (head9 HHN.out 9 (.inl rfl) (.inr rfl))
          have HI1 := Lib.hid HNO.out.2.1
          clear hm d0 d2 d3 d4 d5 dfr
          refine wp_region_held_drew (S := fun w' => w'.cell? (⟨wq.heap.size, 1, none⟩) = some (.int .i64 i1)) (by kernel_rfl) ((Ext.cell (p := ⟨wq.heap.size, 1, none⟩) (by repeat (first | exact Ext.refl _ | assumption | apply Ext.alloc | apply Ext.drew)) dlt).trans d1) (fun hHeld => ?_)
          refine' wpAnyH_take (i := 0) (v := _) rfl (by kernel_rfl) (by kernel_rfl) (by kernel_rfl) (fun _ _ _ h => h) (Or.inl ⟨by rfl, ?hybw10⟩) hHeld ?restbw10
          case hybw10 => (intro w' hSw; (try dsimp only at hSw); go_simp; (try with_reducible rfl))
          try simp only [Act.put, List.setIfInBounds_toArray, List.set_cons_zero, List.set_cons_succ, List.getElem_toArray, List.getElem_cons_zero]
          refine' wpAnyH_take (i := 1) (v := _) rfl (by kernel_rfl) (by kernel_rfl) (by kernel_rfl) (fun _ _ _ h => h) (Or.inl ⟨by rfl, ?hybw11⟩) hHeld ?restbw11
          case hybw11 => (intro w' hSw; (try dsimp only at hSw); go_simp; (try with_reducible rfl))
          try simp only [Act.put, List.setIfInBounds_toArray, List.set_cons_zero, List.set_cons_succ, List.getElem_toArray, List.getElem_cons_succ, List.getElem_cons_zero]
          refine' wpAnyH_take (i := 2) (v := _) rfl (by kernel_rfl) (by kernel_rfl) (by kernel_rfl) (fun _ _ _ h => h) (Or.inl ⟨by rfl, ?hybw12⟩) hHeld ?restbw12
          case hybw12 => (intro w' hSw; (try dsimp only at hSw); go_simp; (try with_reducible rfl))
          try simp only [Act.put, List.setIfInBounds_toArray, List.set_cons_zero, List.set_cons_succ, List.getElem_toArray, List.getElem_cons_succ, List.getElem_cons_zero]
          refine wpAnyH_ready (rs := [3]) (by kernel_rfl) (by simp) ?_
          refine AllReadyH.cons rfl (fun K hK => ?_) AllReadyH.nil
          go_simp
          refine (rNot_any _ sx _ (HFX2.out.ext (by exact (by repeat (first | exact Ext.refl _ | assumption | apply Ext.alloc | apply Ext.drew))))).mono ?_
          rintro e w3 ⟨u3, rfl, hm3⟩
          have hx3 : Ext w2 w3 := Ext.trans (by repeat (first | exact Ext.refl _ | assumption | apply Ext.alloc | apply Ext.drew)) hm3.ext
          have HM3 := Lib.hid (hm3.before (w0 := w2) (by repeat (first | exact Ext.refl _ | assumption | apply Ext.alloc | apply Ext.drew)))
          obtain ⟨A3, c3, rfl, _⟩ := fml_slice hm3.fml
          clear hm3
          go_wp2_with fail
          refine hK.out _ _ ((Ext.cell (p := ⟨wq.heap.size, 1, none⟩) (by repeat (first | exact Ext.refl _ | assumption | apply Ext.alloc | apply Ext.drew)) dlt).trans d1) (fun hHeld => ?_)
          clear hK K
          try simp only [Act.put, List.setIfInBounds_toArray, List.set_cons_zero, List.set_cons_succ, List.getElem_toArray, List.getElem_cons_succ, List.getElem_cons_zero]
          refine wpAnyH_ready (rs := [4]) (by kernel_rfl) (by simp) ?_
          refine AllReadyH.cons rfl (fun K hK => ?_) AllReadyH.nil
          go_simp
          refine (rKnow_any i1 HI1.out HHK.out _ _ _ (HM3.out.fml.ext (by repeat (first | exact Ext.refl _ | assumption | apply Ext.alloc | apply Ext.drew)))).mono ?_
          rintro e w4 ⟨u4, rfl, hm4⟩
          have hx4 : Ext w2 w4 := Ext.trans (by repeat (first | exact Ext.refl _ | assumption | apply Ext.alloc | apply Ext.drew)) hm4.ext
          have HM4 := Lib.hid (hm4.before (w0 := w2) (by repeat (first | exact Ext.refl _ | assumption | apply Ext.alloc | apply Ext.drew)))
          obtain ⟨A4, c4, rfl, _⟩ := fml_slice hm4.fml
          clear hm4
          go_wp2_with fail
          refine hK.out _ _ ((Ext.cell (p := ⟨wq.heap.size, 1, none⟩) (by repeat (first | exact Ext.refl _ | assumption | apply Ext.alloc | apply Ext.drew)) dlt).trans d1) (fun hHeld => ?_)
          clear hK K
          try simp only [Act.put, List.setIfInBounds_toArray, List.set_cons_zero, List.set_cons_succ, List.getElem_toArray, List.getElem_cons_succ, List.getElem_cons_zero]
          refine wpAnyH_ready (rs := [5]) (by kernel_rfl) (by simp) ?_
          refine AllReadyH.cons rfl (fun K hK => ?_) AllReadyH.nil
          go_simp
          refine (rNot_any _ _ _ (HM4.out.fml.ext (by repeat (first | exact Ext.refl _ | assumption | apply Ext.alloc | apply Ext.drew)))).mono ?_
          rintro e w5 ⟨u5, rfl, hm5⟩
          have hx5 : Ext w2 w5 := Ext.trans (by repeat (first | exact Ext.refl _ | assumption | apply Ext.alloc | apply Ext.drew)) hm5.ext
          have HM5 := Lib.hid (hm5.before (w0 := w2) (by repeat (first | exact Ext.refl _ | assumption | apply Ext.alloc | apply Ext.drew)))
          clear hm5
          go_wp2_with fail
          refine hK.out _ _ ((Ext.cell (p := ⟨wq.heap.size, 1, none⟩) (by repeat (first | exact Ext.refl _ | assumption | apply Ext.alloc | apply Ext.drew)) dlt).trans d1) (fun hHeld => ?_)
          clear hK K
          try simp only [Act.put, List.setIfInBounds_toArray, List.set_cons_zero, List.set_cons_succ, List.getElem_toArray, List.getElem_cons_succ, List.getElem_cons_zero]
          refine' wpAnyH_take (i := 6) (v := _) rfl (by kernel_rfl) (by kernel_rfl) (by kernel_rfl) (fun _ _ _ h => h) (Or.inl ⟨by rfl, ?hybw16⟩) hHeld ?restbw16
          case hybw16 => (intro w' hSw; (try dsimp only at hSw); go_simp; (try with_reducible rfl))
          try simp only [Act.put, List.setIfInBounds_toArray, List.set_cons_zero, List.set_cons_succ, List.getElem_toArray, List.getElem_cons_succ, List.getElem_cons_zero]
          refine wpAnyH_done (by kernel_rfl) ?_ _
          have HG : Hid (Made wq w5 u5 (expS ⟨10, i1, e1, gq, (jx : Int), py⟩ (out.getD (jx : Int).toNat []) (out.getD (py).toNat []))) := Lib.hid (by rw [HEX.out]; exact HM5.out.before hxw)
          obtain ⟨⟨y0, y1, y2, y3, y4, y5⟩, yfr, ylt⟩ := cells6 ((hx5.block dlt).trans ((HM.out.ext.block (lt_heap HW0.out)).trans HW0.out))
          clear HEX
          obtain ⟨As8, cs8, rfl, _⟩ := fml_slice HG.out.fml
          have HX8 := Lib.hid HG.out.ext
          by_cases hz : (expS ⟨10, i1, e1, gq, (jx : Int), py⟩ (out.getD (jx : Int).toNat []) (out.getD (py).toNat [])).length = 0
          · have HE := Lib.hid (show expandN f = [] by
              unfold expandN
              rw [← HCL.out, expGo_none (k := k + 1) (by rw [expGo_step HN.out HO.out, decide_eq_true hz]; rfl)])
            have hzb : (((expS ⟨10, i1, e1, gq, (jx : Int), py⟩ (out.getD (jx : Int).toNat []) (out.getD (py).toNat [])).length : Int) == 0) = true := by rw [hz]; rfl
            generalize (expS ⟨10, i1, e1, gq, (jx : Int), py⟩ (out.getD (jx : Int).toNat []) (out.getD (py).toNat [])).length = m8 at hz hzb
            clear hz
            go_wp2_with fail
            go_ret
            exact ⟨_, rfl, by rw [HE.out]; exact fml_none _, HM0.out.ext.trans (HFR.out.ext.trans HX8.out)⟩
          · have hzb : (((expS ⟨10, i1, e1, gq, (jx : Int), py⟩ (out.getD (jx : Int).toNat []) (out.getD (py).toNat [])).length : Int) == 0) = false := by rw [beq_eq_false_iff_ne]; omega
            have HSTEP := Lib.hid (show expGo (cl.take (k + 1)) [] = some (out ++ [expS ⟨10, i1, e1, gq, (jx : Int), py⟩ (out.getD (jx : Int).toNat []) (out.getD (py).toNat [])]) by rw [expGo_step HN.out HO.out, decide_eq_false hz]; rfl)
            clear hz
            generalize expS ⟨10, i1, e1, gq, (jx : Int), py⟩ (out.getD (jx : Int).toNat []) (out.getD (py).toNat []) = g8 at HG hzb HSTEP
            have hc3 : out.length + 1 ≤ maxLen := by unfold maxLen; omega
            have hc4 : (out.length + 1) * 24 ≤ 140737488355328 := by omega
            go_wp2_with (at_builtin; refine wpList_append_own_at _ rfl _ _ 49 rfl w0.heap.size 22 iI (.slice none 0 0) 1 24 Tryz.underlying49 hiI hzI0 hzI1 hzI2 rfl (by decide) _ out.length us rfl (row_ext HROW.out (HX8.out.alloc _)) ⟨_, 0, none⟩ 1 1 [.slice As8 g8.length cs8] rfl rfl (row_new_at _ _ _ (by simp)) (fun u hu => by rw [List.mem_singleton.1 hu]; rfl) hc3 hc4 (Nat.le_trans HFR.out.ext.size (HX8.out.alloc _).size) ?_)
            intro v7 w7 hown7 hgrow7 _ hat7
            have HPS := Lib.hid (FRow.push (s := g8) ((HFR.out.ext.trans HX8.out).alloc _) (row_ext HROW.out (HX8.out.alloc _)) (fun k s hk => by
              obtain ⟨u, a, b, c⟩ := HUS.out k s hk
              exact ⟨u, a, b.ext (HX8.out.alloc _), c.ext (HX8.out.alloc _)⟩) hown7 hgrow7 (hat7.imp id (fun e => e.trans (by simp))) (HG.out.fml.ext ((Ext.refl _).alloc _)) (made_away (Nat.le_refl _) (row_ext HG.out.1 ((Ext.refl _).alloc _)) HROW.out HFR.out.ext.size))
            obtain ⟨A7, c7, rfl⟩ := slice_of_row hown7
            clear hown7 hgrow7 hat7
            go_wp2_with fail
            go_roundw
            case rel => exact ⟨k + 1, by go_num, by omega, Lib.hid ⟨_, HSTEP.out, by rw [List.length_append, HOK.out]; rfl, HPS.out⟩⟩
            case measure => simp [intOf]; omega
        · by_cases h11 : o = 11
          · subst h11
            have hgr := group_of HHN.out (.inl rfl)
            obtain ⟨gn, hgn⟩ := Int.eq_ofNat_of_zero_le (show 0 ≤ gq from hgr.1)
            subst hgn
            clear h10 hgr
            have HEX := Lib.hid (show expS ⟨11, i1, e1, (gn : Int), (jx : Int), py⟩ (out.getD (jx : Int).toNat []) (out.getD (py).toNat []) = allN (everyL (gn : Int) sx) by unfold expS; rw [HSx.out]; rfl)
            go_wp2_with (first | (go_at_call 89; refine (usesX_as HUX.out _).mono ?_; rintro e1 w5 ⟨rfl, rfl⟩) | (go_at_call 90; refine (usesY_as HUY.out _).mono ?_; rintro e1 w5 ⟨rfl, rfl⟩))
            refine (rebuild_any ⟨11, i1, e1, (gn : Int), (jx : Int), py⟩ _ _ sx [] _ HHN.out HNO.out (HFx.out.ext HX0.out) (fml_none _)).mono ?_
            rintro e w2 ⟨u, rfl, hm⟩
            have HM := Lib.hid hm
            obtain ⟨⟨d0, d1, d2, d3, d4, d5⟩, dfr, dlt⟩ := cells6 ((hm.ext.block dlt).trans HW0.out)
            go_wp2_with fail
            refine (everybody_any gn _ sx _ (HFx.out.ext (HX0.out.trans hm.ext))).mono ?_
            rintro e w3 ⟨u3, rfl, hm3⟩
            have HG : Hid (Made wq w3 u3 (expS ⟨11, i1, e1, (gn : Int), (jx : Int), py⟩ (out.getD (jx : Int).toNat []) (out.getD (py).toNat []))) := Lib.hid (by rw [HEX.out]; exact hm3.before (HX0.out.trans hm.ext))
            clear HEX hm hm3
            obtain ⟨As8, cs8, rfl, _⟩ := fml_slice HG.out.fml
            have HX8 := Lib.hid HG.out.ext
            by_cases hz : (expS ⟨11, i1, e1, (gn : Int), (jx : Int), py⟩ (out.getD (jx : Int).toNat []) (out.getD (py).toNat [])).length = 0
            · have HE := Lib.hid (show expandN f = [] by
                unfold expandN
                rw [← HCL.out, expGo_none (k := k + 1) (by rw [expGo_step HN.out HO.out, decide_eq_true hz]; rfl)])
              have hzb : (((expS ⟨11, i1, e1, (gn : Int), (jx : Int), py⟩ (out.getD (jx : Int).toNat []) (out.getD (py).toNat [])).length : Int) == 0) = true := by rw [hz]; rfl
              generalize (expS ⟨11, i1, e1, (gn : Int), (jx : Int), py⟩ (out.getD (jx : Int).toNat []) (out.getD (py).toNat [])).length = m8 at hz hzb
              clear hz
              go_wp2_with fail
              go_ret
              exact ⟨_, rfl, by rw [HE.out]; exact fml_none _, HM0.out.ext.trans (HFR.out.ext.trans HX8.out)⟩
            · have hzb : (((expS ⟨11, i1, e1, (gn : Int), (jx : Int), py⟩ (out.getD (jx : Int).toNat []) (out.getD (py).toNat [])).length : Int) == 0) = false := by rw [beq_eq_false_iff_ne]; omega
              have HSTEP := Lib.hid (show expGo (cl.take (k + 1)) [] = some (out ++ [expS ⟨11, i1, e1, (gn : Int), (jx : Int), py⟩ (out.getD (jx : Int).toNat []) (out.getD (py).toNat [])]) by rw [expGo_step HN.out HO.out, decide_eq_false hz]; rfl)
              clear hz
              generalize expS ⟨11, i1, e1, (gn : Int), (jx : Int), py⟩ (out.getD (jx : Int).toNat []) (out.getD (py).toNat []) = g8 at HG hzb HSTEP
              have hc3 : out.length + 1 ≤ maxLen := by unfold maxLen; omega
              have hc4 : (out.length + 1) * 24 ≤ 140737488355328 := by omega
              go_wp2_with (at_builtin; refine wpList_append_own_at _ rfl _ _ 49 rfl w0.heap.size 22 iI (.slice none 0 0) 1 24 Tryz.underlying49 hiI hzI0 hzI1 hzI2 rfl (by decide) _ out.length us rfl (row_ext HROW.out (HX8.out.alloc _)) ⟨_, 0, none⟩ 1 1 [.slice As8 g8.length cs8] rfl rfl (row_new_at _ _ _ (by simp)) (fun u hu => by rw [List.mem_singleton.1 hu]; rfl) hc3 hc4 (Nat.le_trans HFR.out.ext.size (HX8.out.alloc _).size) ?_)
              intro v7 w7 hown7 hgrow7 _ hat7
              have HPS := Lib.hid (FRow.push (s := g8) ((HFR.out.ext.trans HX8.out).alloc _) (row_ext HROW.out (HX8.out.alloc _)) (fun k s hk => by
                obtain ⟨u, a, b, c⟩ := HUS.out k s hk
                exact ⟨u, a, b.ext (HX8.out.alloc _), c.ext (HX8.out.alloc _)⟩) hown7 hgrow7 (hat7.imp id (fun e => e.trans (by simp))) (HG.out.fml.ext ((Ext.refl _).alloc _)) (made_away (Nat.le_refl _) (row_ext HG.out.1 ((Ext.refl _).alloc _)) HROW.out HFR.out.ext.size))
              obtain ⟨A7, c7, rfl⟩ := slice_of_row hown7
              clear hown7 hgrow7 hat7
              go_wp2_with fail
              go_roundw
              case rel => exact ⟨k + 1, by go_num, by omega, Lib.hid ⟨_, HSTEP.out, by rw [List.length_append, HOK.out]; rfl, HPS.out⟩⟩
              case measure => simp [intOf]; omega
          · skip
            have HEX := Lib.hid (show expS ⟨o, i1, e1, gq, (jx : Int), py⟩ (out.getD (jx : Int).toNat []) (out.getD (py).toNat []) = rebuildN ⟨o, i1, e1, gq, (jx : Int), py⟩ sx [] by
              rw [rebuild_exp HHN.out HOPS.out h10 h11]
              exact expS_congr (fun _ => HSx.out) (fun h => absurd (HUY.out.symm.trans h) (by decide)) HOPS.out)
            have t10 : (o == 10) = false := by rw [beq_eq_false_iff_ne]; exact h10
            have t11 : (o == 11) = false := by rw [beq_eq_false_iff_ne]; exact h11
            clear h10 h11
            go_wp2_with (first | (go_at_call 89; refine (usesX_as HUX.out _).mono ?_; rintro e1 w5 ⟨rfl, rfl⟩) | (go_at_call 90; refine (usesY_as HUY.out _).mono ?_; rintro e1 w5 ⟨rfl, rfl⟩))
            refine (rebuild_any ⟨o, i1, e1, gq, (jx : Int), py⟩ _ _ sx [] _ HHN.out HNO.out (HFx.out.ext HX0.out) (fml_none _)).mono ?_
            rintro e w2 ⟨u, rfl, hm⟩
            have HM := Lib.hid hm
            obtain ⟨⟨d0, d1, d2, d3, d4, d5⟩, dfr, dlt⟩ := cells6 ((hm.ext.block dlt).trans HW0.out)
            have HG : Hid (Made wq w2 u (expS ⟨o, i1, e1, gq, (jx : Int), py⟩ (out.getD (jx : Int).toNat []) (out.getD (py).toNat []))) := Lib.hid (by rw [HEX.out]; exact hm.before HX0.out)
            clear hm HEX
            obtain ⟨As8, cs8, rfl, _⟩ := fml_slice HG.out.fml
            have HX8 := Lib.hid HG.out.ext
            by_cases hz : (expS ⟨o, i1, e1, gq, (jx : Int), py⟩ (out.getD (jx : Int).toNat []) (out.getD (py).toNat [])).length = 0
            · have HE := Lib.hid (show expandN f = [] by
                unfold expandN
                rw [← HCL.out, expGo_none (k := k + 1) (by rw [expGo_step HN.out HO.out, decide_eq_true hz]; rfl)])
              have hzb : (((expS ⟨o, i1, e1, gq, (jx : Int), py⟩ (out.getD (jx : Int).toNat []) (out.getD (py).toNat [])).length : Int) == 0) = true := by rw [hz]; rfl
              generalize (expS ⟨o, i1, e1, gq, (jx : Int), py⟩ (out.getD (jx : Int).toNat []) (out.getD (py).toNat [])).length = m8 at hz hzb
              clear hz
              go_wp2_with fail
              go_ret
              exact ⟨_, rfl, by rw [HE.out]; exact fml_none _, HM0.out.ext.trans (HFR.out.ext.trans HX8.out)⟩
            · have hzb : (((expS ⟨o, i1, e1, gq, (jx : Int), py⟩ (out.getD (jx : Int).toNat []) (out.getD (py).toNat [])).length : Int) == 0) = false := by rw [beq_eq_false_iff_ne]; omega
              have HSTEP := Lib.hid (show expGo (cl.take (k + 1)) [] = some (out ++ [expS ⟨o, i1, e1, gq, (jx : Int), py⟩ (out.getD (jx : Int).toNat []) (out.getD (py).toNat [])]) by rw [expGo_step HN.out HO.out, decide_eq_false hz]; rfl)
              clear hz
              generalize expS ⟨o, i1, e1, gq, (jx : Int), py⟩ (out.getD (jx : Int).toNat []) (out.getD (py).toNat []) = g8 at HG hzb HSTEP
              have hc3 : out.length + 1 ≤ maxLen := by unfold maxLen; omega
              have hc4 : (out.length + 1) * 24 ≤ 140737488355328 := by omega
              go_wp2_with (at_builtin; refine wpList_append_own_at _ rfl _ _ 49 rfl w0.heap.size 22 iI (.slice none 0 0) 1 24 Tryz.underlying49 hiI hzI0 hzI1 hzI2 rfl (by decide) _ out.length us rfl (row_ext HROW.out (HX8.out.alloc _)) ⟨_, 0, none⟩ 1 1 [.slice As8 g8.length cs8] rfl rfl (row_new_at _ _ _ (by simp)) (fun u hu => by rw [List.mem_singleton.1 hu]; rfl) hc3 hc4 (Nat.le_trans HFR.out.ext.size (HX8.out.alloc _).size) ?_)
              intro v7 w7 hown7 hgrow7 _ hat7
              have HPS := Lib.hid (FRow.push (s := g8) ((HFR.out.ext.trans HX8.out).alloc _) (row_ext HROW.out (HX8.out.alloc _)) (fun k s hk => by
                obtain ⟨u, a, b, c⟩ := HUS.out k s hk
                exact ⟨u, a, b.ext (HX8.out.alloc _), c.ext (HX8.out.alloc _)⟩) hown7 hgrow7 (hat7.imp id (fun e => e.trans (by simp))) (HG.out.fml.ext ((Ext.refl _).alloc _)) (made_away (Nat.le_refl _) (row_ext HG.out.1 ((Ext.refl _).alloc _)) HROW.out HFR.out.ext.size))
              obtain ⟨A7, c7, rfl⟩ := slice_of_row hown7
              clear hown7 hgrow7 hat7
              go_wp2_with fail
              go_roundw
              case rel => exact ⟨k + 1, by go_num, by omega, Lib.hid ⟨_, HSTEP.out, by rw [List.length_append, HOK.out]; rfl, HPS.out⟩⟩
              case measure => simp [intOf]; omega
      · have HUX := Lib.hid hux
        have HUY := Lib.hid huy
        clear hux huy HCS
        obtain ⟨g0, cap0, hsl, hs1, hs2⟩ := HFR.out.slice (by rw [HOK.out]; have := (HXY.out.1 HUX.out); omega)
        injection hsl with hsl1 _ hsl2
        subst hsl1 hsl2
        unfold maxLen at hs2
        have hXx : 0 ≤ px ∧ px < k := HXY.out.1 HUX.out
        obtain ⟨jx, hjx⟩ := Int.eq_ofNat_of_zero_le hXx.1
        subst hjx
        obtain ⟨sx, hsx⟩ : ∃ s, out[jx]? = some s := ⟨_, List.getElem?_eq_getElem (by rw [HOK.out]; omega)⟩
        obtain ⟨ux, hux, hfx, hglx⟩ := HFR.out.get hsx
        have HSx := Lib.hid (show out.getD (jx : Int).toNat [] = sx by rw [Int.toNat_natCast, List.getD_eq_getElem?_getD, hsx]; rfl)
        have HFx := Lib.hid hfx
        obtain ⟨Ax, cx, rfl, _⟩ := fml_slice hfx
        have hjlx : (jx : Int) < (out.length : Int) := by rw [HOK.out]; omega
        clear hsx hfx hXx
        have hXy : 0 ≤ py ∧ py < k := HXY.out.2 HUY.out
        obtain ⟨jy, hjy⟩ := Int.eq_ofNat_of_zero_le hXy.1
        subst hjy
        obtain ⟨sy, hsy⟩ : ∃ s, out[jy]? = some s := ⟨_, List.getElem?_eq_getElem (by rw [HOK.out]; omega)⟩
        obtain ⟨uy, huy, hfy, hgly⟩ := HFR.out.get hsy
        have HSy := Lib.hid (show out.getD (jy : Int).toNat [] = sy by rw [Int.toNat_natCast, List.getD_eq_getElem?_getD, hsy]; rfl)
        have HFy := Lib.hid hfy
        obtain ⟨Ay, cy, rfl, _⟩ := fml_slice hfy
        have hjly : (jy : Int) < (out.length : Int) := by rw [HOK.out]; omega
        clear hsy hfy hXy
        have HW0 := Lib.hid (show (wq.alloc (.cells #[.int .i64 o, .int .i64 i1, .int .i64 e1, .int .i64 gq, .int .i64 (jx : Int), .int .i64 (jy : Int)] 93)).heap[wq.heap.size]? = some (.cells #[.int .i64 o, .int .i64 i1, .int .i64 e1, .int .i64 gq, .int .i64 (jx : Int), .int .i64 (jy : Int)] 93 (0, 0)) from heap_alloc_new _ _)
        have HX0 := Lib.hid (show Ext wq (wq.alloc (.cells #[.int .i64 o, .int .i64 i1, .int .i64 e1, .int .i64 gq, .int .i64 (jx : Int), .int .i64 (jy : Int)] 93)) from (Ext.refl _).alloc _)
        obtain ⟨⟨d0, d1, d2, d3, d4, d5⟩, dfr, dlt⟩ := cells6 HW0.out
        have h10 : o ≠ 10 := fun e => by have h1 := HUX.out; have h2 := HUY.out; rw [e] at h1 h2; revert h1 h2; decide
        have h11 : o ≠ 11 := fun e => by have h1 := HUX.out; have h2 := HUY.out; rw [e] at h1 h2; revert h1 h2; decide
        have HEX := Lib.hid (show expS ⟨o, i1, e1, gq, (jx : Int), (jy : Int)⟩ (out.getD (jx : Int).toNat []) (out.getD (jy : Int).toNat []) = rebuildN ⟨o, i1, e1, gq, (jx : Int), (jy : Int)⟩ sx sy by
          rw [rebuild_exp HHN.out HOPS.out h10 h11]
          exact expS_congr (fun _ => HSx.out) (fun _ => HSy.out) HOPS.out)
        have t10 : (o == 10) = false := by rw [beq_eq_false_iff_ne]; exact h10
        have t11 : (o == 11) = false := by rw [beq_eq_false_iff_ne]; exact h11
        clear h10 h11
        go_wp2_with (first | (go_at_call 89; refine (usesX_as HUX.out _).mono ?_; rintro e1 w5 ⟨rfl, rfl⟩) | (go_at_call 90; refine (usesY_as HUY.out _).mono ?_; rintro e1 w5 ⟨rfl, rfl⟩))
        refine (rebuild_any ⟨o, i1, e1, gq, (jx : Int), (jy : Int)⟩ _ _ sx sy _ HHN.out HNO.out (HFx.out.ext HX0.out) (HFy.out.ext HX0.out)).mono ?_
        rintro e w2 ⟨u, rfl, hm⟩
        have HM := Lib.hid hm
        obtain ⟨⟨d0, d1, d2, d3, d4, d5⟩, dfr, dlt⟩ := cells6 ((hm.ext.block dlt).trans HW0.out)
        have HG : Hid (Made wq w2 u (expS ⟨o, i1, e1, gq, (jx : Int), (jy : Int)⟩ (out.getD (jx : Int).toNat []) (out.getD (jy : Int).toNat []))) := Lib.hid (by rw [HEX.out]; exact hm.before HX0.out)
        clear hm HEX
        obtain ⟨As8, cs8, rfl, _⟩ := fml_slice HG.out.fml
        have HX8 := Lib.hid HG.out.ext
        by_cases hz : (expS ⟨o, i1, e1, gq, (jx : Int), (jy : Int)⟩ (out.getD (jx : Int).toNat []) (out.getD (jy : Int).toNat [])).length = 0
        · have HE := Lib.hid (show expandN f = [] by
            unfold expandN
            rw [← HCL.out, expGo_none (k := k + 1) (by rw [expGo_step HN.out HO.out, decide_eq_true hz]; rfl)])
          have hzb : (((expS ⟨o, i1, e1, gq, (jx : Int), (jy : Int)⟩ (out.getD (jx : Int).toNat []) (out.getD (jy : Int).toNat [])).length : Int) == 0) = true := by rw [hz]; rfl
          generalize (expS ⟨o, i1, e1, gq, (jx : Int), (jy : Int)⟩ (out.getD (jx : Int).toNat []) (out.getD (jy : Int).toNat [])).length = m8 at hz hzb
          clear hz
          go_wp2_with fail
          go_ret
          exact ⟨_, rfl, by rw [HE.out]; exact fml_none _, HM0.out.ext.trans (HFR.out.ext.trans HX8.out)⟩
        · have hzb : (((expS ⟨o, i1, e1, gq, (jx : Int), (jy : Int)⟩ (out.getD (jx : Int).toNat []) (out.getD (jy : Int).toNat [])).length : Int) == 0) = false := by rw [beq_eq_false_iff_ne]; omega
          have HSTEP := Lib.hid (show expGo (cl.take (k + 1)) [] = some (out ++ [expS ⟨o, i1, e1, gq, (jx : Int), (jy : Int)⟩ (out.getD (jx : Int).toNat []) (out.getD (jy : Int).toNat [])]) by rw [expGo_step HN.out HO.out, decide_eq_false hz]; rfl)
          clear hz
          generalize expS ⟨o, i1, e1, gq, (jx : Int), (jy : Int)⟩ (out.getD (jx : Int).toNat []) (out.getD (jy : Int).toNat []) = g8 at HG hzb HSTEP
          have hc3 : out.length + 1 ≤ maxLen := by unfold maxLen; omega
          have hc4 : (out.length + 1) * 24 ≤ 140737488355328 := by omega
          go_wp2_with (at_builtin; refine wpList_append_own_at _ rfl _ _ 49 rfl w0.heap.size 22 iI (.slice none 0 0) 1 24 Tryz.underlying49 hiI hzI0 hzI1 hzI2 rfl (by decide) _ out.length us rfl (row_ext HROW.out (HX8.out.alloc _)) ⟨_, 0, none⟩ 1 1 [.slice As8 g8.length cs8] rfl rfl (row_new_at _ _ _ (by simp)) (fun u hu => by rw [List.mem_singleton.1 hu]; rfl) hc3 hc4 (Nat.le_trans HFR.out.ext.size (HX8.out.alloc _).size) ?_)
          intro v7 w7 hown7 hgrow7 _ hat7
          have HPS := Lib.hid (FRow.push (s := g8) ((HFR.out.ext.trans HX8.out).alloc _) (row_ext HROW.out (HX8.out.alloc _)) (fun k s hk => by
            obtain ⟨u, a, b, c⟩ := HUS.out k s hk
            exact ⟨u, a, b.ext (HX8.out.alloc _), c.ext (HX8.out.alloc _)⟩) hown7 hgrow7 (hat7.imp id (fun e => e.trans (by simp))) (HG.out.fml.ext ((Ext.refl _).alloc _)) (made_away (Nat.le_refl _) (row_ext HG.out.1 ((Ext.refl _).alloc _)) HROW.out HFR.out.ext.size))
          obtain ⟨A7, c7, rfl⟩ := slice_of_row hown7
          clear hown7 hgrow7 hat7
          go_wp2_with fail
          go_roundw
          case rel => exact ⟨k + 1, by go_num, by omega, Lib.hid ⟨_, HSTEP.out, by rw [List.length_append, HOK.out]; rfl, HPS.out⟩⟩
          case measure => simp [intOf]; omega
    · obtain rfl : cl.length = k := by omega
      have hok := HOK.out
      obtain ⟨g0, cap0, hsl, hs1, hs2⟩ := HFR.out.slice (by omega)
      injection hsl with hsl1 _ hsl2
      subst hsl1 hsl2
      unfold maxLen at hs2
      have HE := Lib.hid (show expandN f = out.getLastD [] by
        unfold expandN
        have h1 := HO.out
        rw [List.take_of_length_le (Nat.le_refl _)] at h1
        rw [← HCL.out, h1])
      obtain ⟨m, hm⟩ : ∃ m, out.length = m + 1 := ⟨out.length - 1, by omega⟩
      obtain ⟨s, hs⟩ : ∃ s, out[m]? = some s := ⟨_, List.getElem?_eq_getElem (by omega)⟩
      obtain ⟨us, hus, hfs, hgl⟩ := HFR.out.get hs
      have HLS := Lib.hid (show out.getLastD [] = s by rw [List.getLastD_eq_getLast?, List.getLast?_eq_getElem?, hm, Nat.add_sub_cancel, hs]; rfl)
      have HFS := Lib.hid hfs
      obtain ⟨As, cs, rfl, _⟩ := fml_slice hfs
      have i1 : ((out.length : Int) - 1) = (m : Int) := by omega
      have i2 : (m : Int) < (out.length : Int) := by omega
      have i3 : ((out.length : Int) - 1).toNat = m := by omega
      have i4 : ((out.length : Int) - 1) < (out.length : Int) := by omega
      have i5 : (0 : Int) ≤ (out.length : Int) - 1 := by omega
      have i6 : wrap64 ((out.length : Int) - 1) = (m : Int) := by unfold wrap64; omega
      clear hs hfs hok hm
      go_wp2_with fail
      go_ret
      exact ⟨_, rfl, by rw [HE.out, HLS.out]; exact HFS.out, HM0.out.ext.trans HFR.out.ext⟩
    end Go.Proofs.YtbfeodammikajaaGreat
