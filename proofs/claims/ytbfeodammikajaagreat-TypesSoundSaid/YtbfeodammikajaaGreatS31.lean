/- The reference of types: Expand. -/
import Derived.Test.YtbfeodammikajaaGreatS30
import Derived.Test.YtbfeodammikajaaGreatS16
import Derived.Test.YtbfeodammikajaaGreatS09
import Derived.Test.YtbfeodammikajaaGreatS17
import Derived.Test.YtbfeodammikajaaGreatS25
import Derived.Test.YtbfeodammikajaaGreatS24

namespace Go.Proofs.YtbfeodammikajaaGreat
open Go.RowKit

theorem zero_head {n : Nd} (h : headOk n) : ({ n with x := 0, y := 0 } : Nd) = n.head := by
  obtain ⟨_, _, _, hx, hy⟩ := h
  unfold Nd.head Nd.with_
  cases h1 : hasX n.op
  · cases h2 : hasY n.op
    · rw [hx h1, hy h2]; rfl
    · rw [hx h1]; rfl
  · cases h2 : hasY n.op
    · rw [hy h2]; rfl
    · rfl
/-- Rebuild is the expansion, but for two operators. -/
theorem rebuild_exp {n : Nd} (h : headOk n) (ho : (1 ≤ n.op ∧ n.op ≤ 11) ∨ n.op = 13) (h10 : n.op ≠ 10) (h11 : n.op ≠ 11) (a b : List Nd) : rebuildN n a b = expS n a b := by
  have hop : (n.op = 1 ∨ n.op = 2 ∨ n.op = 4 ∨ n.op = 5 ∨ n.op = 6 ∨ n.op = 7 ∨ n.op = 8) ∨ (n.op = 3 ∨ n.op = 9) ∨ n.op = 13 := by omega
  unfold rebuildN
  rw [zero_head h]
  rcases hop with hop | hop | hop
  · rw [bare0 h hop]
    rcases hop with e | e | e | e | e | e | e
    all_goals (unfold expS; rw [e])
    · exact true_list.symm
    · exact false_list.symm
    all_goals rfl
  · rw [barei h hop]
    rcases hop with e | e
    all_goals (unfold expS; rw [e])
    · exact (build_zero (n := ⟨3, n.i, 0, 0, 0, 0⟩) rfl rfl (head3 h e)).2.symm
    · rfl
  · rw [bareg h hop]
    unfold expS
    rw [hop]
    rfl
set_option maxRecDepth 100000 in
set_option maxHeartbeats 16000000 in
theorem rexpand_any (v : Value) (f : List Nd) (w : World) (h : Fml w v f) (hc : check f = 0) (hl : ∀ n ∈ compactN f, (1 ≤ n.op ∧ n.op ≤ 11) ∨ n.op = 13) :
    Calls Tryz.prog 56 #[v] w fun e w' => ∃ u, e = .returned u ∧ Fml w' u (expandN f) ∧ Ext w w' := by
  have H := Lib.hid h
  obtain ⟨iI, hiI, hzI0, hzI1, hzI2⟩ := info_parts tInfoF2
  obtain ⟨A, c, rfl, _⟩ := fml_slice h
  obtain ⟨hwf, hlen0, hpos, hheads⟩ := compactN_props hc
  have hl200 : (compactN f).length ≤ 200 := Nat.le_trans hlen0 (check_parts hc).2.1
  obtain ⟨cl, hcl⟩ : ∃ b, b = compactN f := ⟨_, rfl⟩
  rw [← hcl] at hwf hpos hheads hl200 hl
  have HCL := Lib.hid hcl
  have HWF := Lib.hid hwf
  have HHD := Lib.hid hheads
  have HLG := Lib.hid hl
  clear h hc hwf hlen0 hheads hcl hl
  go_enter Tryz.func56, Tryz.ntmps56
  go_wp2_with fail
  refine (refCompact_any _ f _ H.out).mono ?_
  rintro e w0 ⟨uc, rfl, hm0⟩
  rw [← HCL.out] at hm0
  have HM0 := Lib.hid hm0
  obtain ⟨Ac, cc, rfl, hcap, hmax, hread⟩ := fml_slice hm0.fml
  obtain ⟨ad, rfl, hblk, hcells⟩ := hread (by intro e; rw [e] at hpos; simp at hpos)
  have HCELLS := Lib.hid hcells
  unfold maxLen at hmax
  clear hm0 hread hcells
  go_wp2_with fail
  go_loopw [3, 12] (fun vo vi wr => ∃ k : Nat, vi = .int .i64 (k : Int) ∧ k ≤ cl.length ∧ Hid (∃ out, expGo (cl.take k) [] = some out ∧ out.length = k ∧ FRow w0 wr vo out)) (fun _ v _ => cl.length - (intOf v).toNat)
  case atStart => exact ⟨0, rfl, Nat.zero_le _, Lib.hid ⟨[], rfl, rfl, FRow.nil _⟩⟩
  case round =>
    obtain ⟨k, rfl, hk, HREL⟩ := hrel
    obtain ⟨out, ho, hok, hfr⟩ := HREL.out
    obtain ⟨us, hrow, hus⟩ := hfr.row
    obtain ⟨Ao, co, rfl⟩ := slice_of_row hrow
    have HO := Lib.hid ho
    have HOK := Lib.hid hok
    have HFR := Lib.hid hfr
    have HROW := Lib.hid hrow
    have HUS := Lib.hid hus
    have hol : out.length ≤ 1000 := by omega
    clear HREL ho hfr hrow hus hok
    by_cases hlt2 : k < cl.length
    · have hk1 : (k : Int) < (cl.length : Int) := by omega
      obtain ⟨n, hn⟩ : ∃ n, cl[k]? = some n := ⟨_, List.getElem?_eq_getElem hlt2⟩
      obtain ⟨c0, c1, c2, c3, c4, c5⟩ := (HCELLS.out k n hn).keep fun p hp => HFR.out.ext.cell (p := p) (by rw [hp, block_of_add]; exact hblk)
      have hblk2 : (ad.add (k * 6)).block < wr.heap.size := by rw [block_of_add]; exact Nat.lt_of_lt_of_le hblk HFR.out.ext.size
      have HN := Lib.hid hn
      have HOPS := Lib.hid (HLG.out n (List.mem_of_getElem? hn))
      have HHN := Lib.hid (HHD.out n (List.mem_of_getElem? hn))
      have HXY := Lib.hid (HWF.out k n hn)
      have HNO := Lib.hid (show n.ok from HM0.out.2.1 n (List.mem_of_getElem? hn))
      clear hn
      obtain ⟨wq, hwq⟩ : ∃ v, v = wr := ⟨_, rfl⟩
      subst hwq
      obtain ⟨o, i1, e1, gq, px, py⟩ := n
      have HCS := Lib.hid (xy_cases o)
      rcases HCS.out with ⟨hux, huy⟩ | ⟨hux, huy⟩ | ⟨hux, huy⟩
      · have HUX := Lib.hid hux
        have HUY := Lib.hid huy
        clear hux huy HCS
        have HW0 := Lib.hid (show (wq.alloc (.cells #[.int .i64 o, .int .i64 i1, .int .i64 e1, .int .i64 gq, .int .i64 px, .int .i64 py] 93)).heap[wq.heap.size]? = some (.cells #[.int .i64 o, .int .i64 i1, .int .i64 e1, .int .i64 gq, .int .i64 px, .int .i64 py] 93 (0, 0)) from heap_alloc_new _ _)
        have HX0 := Lib.hid (show Ext wq (wq.alloc (.cells #[.int .i64 o, .int .i64 i1, .int .i64 e1, .int .i64 gq, .int .i64 px, .int .i64 py] 93)) from (Ext.refl _).alloc _)
        obtain ⟨⟨d0, d1, d2, d3, d4, d5⟩, dfr, dlt⟩ := cells6 HW0.out
        have h10 : o ≠ 10 := fun e => by have h1 := HUX.out; have h2 := HUY.out; rw [e] at h1 h2; revert h1 h2; decide
        have h11 : o ≠ 11 := fun e => by have h1 := HUX.out; have h2 := HUY.out; rw [e] at h1 h2; revert h1 h2; decide
        have HEX := Lib.hid (show expS ⟨o, i1, e1, gq, px, py⟩ (out.getD (px).toNat []) (out.getD (py).toNat []) = rebuildN ⟨o, i1, e1, gq, px, py⟩ [] [] by
          rw [rebuild_exp HHN.out HOPS.out h10 h11]
          exact expS_congr (fun h => absurd (HUX.out.symm.trans h) (by decide)) (fun h => absurd (HUY.out.symm.trans h) (by decide)) HOPS.out)
        have t10 : (o == 10) = false := by rw [beq_eq_false_iff_ne]; exact h10
        have t11 : (o == 11) = false := by rw [beq_eq_false_iff_ne]; exact h11
        clear h10 h11
        go_wp2_with (first | (go_at_call 89; refine (usesX_as HUX.out _).mono ?_; rintro e1 w5 ⟨rfl, rfl⟩) | (go_at_call 90; refine (usesY_as HUY.out _).mono ?_; rintro e1 w5 ⟨rfl, rfl⟩))
        refine (rebuild_any ⟨o, i1, e1, gq, px, py⟩ _ _ [] [] _ HHN.out HNO.out (fml_none _) (fml_none _)).mono ?_
        rintro e w2 ⟨u, rfl, hm⟩
        have HM := Lib.hid hm
        obtain ⟨⟨d0, d1, d2, d3, d4, d5⟩, dfr, dlt⟩ := cells6 ((hm.ext.block dlt).trans HW0.out)
        have HG : Hid (Made wq w2 u (expS ⟨o, i1, e1, gq, px, py⟩ (out.getD (px).toNat []) (out.getD (py).toNat []))) := Lib.hid (by rw [HEX.out]; exact hm.before HX0.out)
        clear hm HEX
        obtain ⟨As8, cs8, rfl, _⟩ := fml_slice HG.out.fml
        have HX8 := Lib.hid HG.out.ext
        by_cases hz : (expS ⟨o, i1, e1, gq, px, py⟩ (out.getD (px).toNat []) (out.getD (py).toNat [])).length = 0
        · have HE := Lib.hid (show expandN f = [] by
            unfold expandN
            rw [← HCL.out, expGo_none (k := k + 1) (by rw [expGo_step HN.out HO.out, decide_eq_true hz]; rfl)])
          have hzb : (((expS ⟨o, i1, e1, gq, px, py⟩ (out.getD (px).toNat []) (out.getD (py).toNat [])).length : Int) == 0) = true := by rw [hz]; rfl
          generalize (expS ⟨o, i1, e1, gq, px, py⟩ (out.getD (px).toNat []) (out.getD (py).toNat [])).length = m8 at hz hzb
          clear hz
          go_wp2_with fail
          go_ret
          exact ⟨_, rfl, by rw [HE.out]; exact fml_none _, HM0.out.ext.trans (HFR.out.ext.trans HX8.out)⟩
        · have hzb : (((expS ⟨o, i1, e1, gq, px, py⟩ (out.getD (px).toNat []) (out.getD (py).toNat [])).length : Int) == 0) = false := by rw [beq_eq_false_iff_ne]; omega
          have HSTEP := Lib.hid (show expGo (cl.take (k + 1)) [] = some (out ++ [expS ⟨o, i1, e1, gq, px, py⟩ (out.getD (px).toNat []) (out.getD (py).toNat [])]) by rw [expGo_step HN.out HO.out, decide_eq_false hz]; rfl)
          clear hz
          generalize expS ⟨o, i1, e1, gq, px, py⟩ (out.getD (px).toNat []) (out.getD (py).toNat []) = g8 at HG hzb HSTEP
          have hc3 : out.length + 1 ≤ maxLen := by unfold maxLen; omega
          have hc4 : (out.length + 1) * 24 ≤ 140737488355328 := by omega
          go_wp2_with (at_builtin; refine wpList_append_own_at _ rfl _ _ 49 rfl w0.heap.size 22 iI (.slice none 0 0) 1 24 Tryz.underlying49 hiI hzI0 hzI1 hzI2 rfl (by decide) _ out.length us rfl (row_ext HROW.out (HX8.out.alloc _)) ⟨_, 0, none⟩ 1 1 [.slice As8 g8.length cs8] rfl rfl (row_new_at _ _ _ (by simp)) (fun u hu => by rw [List.mem_singleton.1 hu]; rfl) hc3 hc4 (Nat.le_trans HFR.out.ext.size (HX8.out.alloc _).size) ?_)
          intro v7 w7 hown7 hgrow7 _ hat7
          have HPS := Lib.hid (FRow.push (s := g8) ((HFR.out.ext.trans HX8.out).alloc _) (row_ext HROW.out (HX8.out.alloc _)) (fun k s hk => by
            obtain ⟨u, a, b, c⟩ := HUS.out k s hk
            exact ⟨u, a, b.ext (HX8.out.alloc _), c.ext (HX8.out.alloc _)⟩) hown7 hgrow7 (hat7.imp id (fun e => e.trans (by simp))) (HG.out.fml.ext ((Ext.refl _).alloc _)) (made_away (Nat.le_refl _) (row_ext HG.out.1 ((Ext.refl _).alloc _)) HROW.out HFR.out.ext.size))
          obtain ⟨A7, c7, rfl⟩ := slice_of_row hown7
          clear hown7 hgrow7 hat7
          go_wp2_with fail
          go_roundw
          case rel => exact ⟨k + 1, by go_num, by omega, Lib.hid ⟨_, HSTEP.out, by rw [List.length_append, HOK.out]; rfl, HPS.out⟩⟩
          case measure => simp [intOf]; omega
      · have HUX := Lib.hid hux
        have HUY := Lib.hid huy
        clear hux huy HCS
        obtain ⟨g0, cap0, hsl, hs1, hs2⟩ := HFR.out.slice (by rw [HOK.out]; have := (HXY.out.1 HUX.out); omega)
        injection hsl with hsl1 _ hsl2
        subst hsl1 hsl2
        unfold maxLen at hs2
        have hXx : 0 ≤ px ∧ px < k := HXY.out.1 HUX.out
        obtain ⟨jx, hjx⟩ := Int.eq_ofNat_of_zero_le hXx.1
        subst hjx
        obtain ⟨sx, hsx⟩ : ∃ s, out[jx]? = some s := ⟨_, List.getElem?_eq_getElem (by rw [HOK.out]; omega)⟩
        obtain ⟨ux, hux, hfx, hglx⟩ := HFR.out.get hsx
        have HSx := Lib.hid (show out.getD (jx : Int).toNat [] = sx by rw [Int.toNat_natCast, List.getD_eq_getElem?_getD, hsx]; rfl)
        have HFx := Lib.hid hfx
        obtain ⟨Ax, cx, rfl, _⟩ := fml_slice hfx
        have hjlx : (jx : Int) < (out.length : Int) := by rw [HOK.out]; omega
        clear hsx hfx hXx
        have HW0 := Lib.hid (show (wq.alloc (.cells #[.int .i64 o, .int .i64 i1, .int .i64 e1, .int .i64 gq, .int .i64 (jx : Int), .int .i64 py] 93)).heap[wq.heap.size]? = some (.cells #[.int .i64 o, .int .i64 i1, .int .i64 e1, .int .i64 gq, .int .i64 (jx : Int), .int .i64 py] 93 (0, 0)) from heap_alloc_new _ _)
        have HX0 := Lib.hid (show Ext wq (wq.alloc (.cells #[.int .i64 o, .int .i64 i1, .int .i64 e1, .int .i64 gq, .int .i64 (jx : Int), .int .i64 py] 93)) from (Ext.refl _).alloc _)
        obtain ⟨⟨d0, d1, d2, d3, d4, d5⟩, dfr, dlt⟩ := cells6 HW0.out
        by_cases h10 : o = 10
        · subst h10
          have HEX := Lib.hid (show expS ⟨10, i1, e1, gq, (jx : Int), py⟩ (out.getD (jx : Int).toNat []) (out.getD (py).toNat []) = notN (knowN i1 (notN sx)) by unfold expS; rw [HSx.out]; rfl)
          go_wp2_with (first | (go_at_call 89; refine (usesX_as HUX.out _).mono ?_; rintro e1 w5 ⟨rfl, rfl⟩) | (go_at_call 90; refine (usesY_as HUY.out _).mono ?_; rintro e1 w5 ⟨rfl, rfl⟩))
          refine (rebuild_any ⟨10, i1, e1, gq, (jx : Int), py⟩ _ _ sx [] _ HHN.out HNO.out (HFx.out.ext HX0.out) (fml_none _)).mono ?_
          rintro e w2 ⟨u, rfl, hm⟩
          have HM := Lib.hid hm
          obtain ⟨⟨d0, d1, d2, d3, d4, d5⟩, dfr, dlt⟩ := cells6 ((hm.ext.block dlt).trans HW0.out)
          go_upto_region 12 with (fail)
          have HFX2 := Lib.hid (HFx.out.ext (HX0.out.trans hm.ext))
          have hxw : Ext wq w2 := HX0.out.trans hm.ext
          have HHK := Lib.hid (head9 HHN.out 9 (.inl rfl) (.inr rfl))
          have HI1 := Lib.hid HNO.out.2.1
          clear hm d0 d2 d3 d4 d5 dfr
          refine wp_region_held_drew (S := fun w' => w'.cell? (⟨wq.heap.size, 1, none⟩) = some (.int .i64 i1)) (by kernel_rfl) ((Ext.cell (p := ⟨wq.heap.size, 1, none⟩) (by repeat (first | exact Ext.refl _ | assumption | apply Ext.alloc | apply Ext.drew)) dlt).trans d1) (fun hHeld => ?_)
          refine' wpAnyH_take (i := 0) (v := _) rfl (by kernel_rfl) (by kernel_rfl) (by kernel_rfl) (fun _ _ _ h => h) (Or.inl ⟨by rfl, ?hybw10⟩) hHeld ?restbw10
          case hybw10 => (intro w' hSw; (try dsimp only at hSw); go_simp; (try with_reducible rfl))
          try simp only [Act.put, List.setIfInBounds_toArray, List.set_cons_zero, List.set_cons_succ, List.getElem_toArray, List.getElem_cons_zero]
          refine' wpAnyH_take (i := 1) (v := _) rfl (by kernel_rfl) (by kernel_rfl) (by kernel_rfl) (fun _ _ _ h => h) (Or.inl ⟨by rfl, ?hybw11⟩) hHeld ?restbw11
          case hybw11 => (intro w' hSw; (try dsimp only at hSw); go_simp; (try with_reducible rfl))
          try simp only [Act.put, List.setIfInBounds_toArray, List.set_cons_zero, List.set_cons_succ, List.getElem_toArray, List.getElem_cons_succ, List.getElem_cons_zero]
          refine' wpAnyH_take (i := 2) (v := _) rfl (by kernel_rfl) (by kernel_rfl) (by kernel_rfl) (fun _ _ _ h => h) (Or.inl ⟨by rfl, ?hybw12⟩) hHeld ?restbw12
          case hybw12 => (intro w' hSw; (try dsimp only at hSw); go_simp; (try with_reducible rfl))
          try simp only [Act.put, List.setIfInBounds_toArray, List.set_cons_zero, List.set_cons_succ, List.getElem_toArray, List.getElem_cons_succ, List.getElem_cons_zero]
          refine wpAnyH_ready (rs := [3]) (by kernel_rfl) (by simp) ?_
          refine AllReadyH.cons rfl (fun K hK => ?_) AllReadyH.nil
          go_simp
          refine (rNot_any _ sx _ (HFX2.out.ext (by exact (by repeat (first | exact Ext.refl _ | assumption | apply Ext.alloc | apply Ext.drew))))).mono ?_
          rintro e w3 ⟨u3, rfl, hm3⟩
          have hx3 : Ext w2 w3 := Ext.trans (by repeat (first | exact Ext.refl _ | assumption | apply Ext.alloc | apply Ext.drew)) hm3.ext
          have HM3 := Lib.hid (hm3.before (w0 := w2) (by repeat (first | exact Ext.refl _ | assumption | apply Ext.alloc | apply Ext.drew)))
          obtain ⟨A3, c3, rfl, _⟩ := fml_slice hm3.fml
          clear hm3
          go_wp2_with fail
          refine hK.out _ _ ((Ext.cell (p := ⟨wq.heap.size, 1, none⟩) (by repeat (first | exact Ext.refl _ | assumption | apply Ext.alloc | apply Ext.drew)) dlt).trans d1) (fun hHeld => ?_)
          clear hK K
          try simp only [Act.put, List.setIfInBounds_toArray, List.set_cons_zero, List.set_cons_succ, List.getElem_toArray, List.getElem_cons_succ, List.getElem_cons_zero]
          refine wpAnyH_ready (rs := [4]) (by kernel_rfl) (by simp) ?_
          refine AllReadyH.cons rfl (fun K hK => ?_) AllReadyH.nil
          go_simp
          refine (rKnow_any i1 HI1.out HHK.out _ _ _ (HM3.out.fml.ext (by repeat (first | exact Ext.refl _ | assumption | apply Ext.alloc | apply Ext.drew)))).mono ?_
          rintro e w4 ⟨u4, rfl, hm4⟩
          have hx4 : Ext w2 w4 := Ext.trans (by repeat (first | exact Ext.refl _ | assumption | apply Ext.alloc | apply Ext.drew)) hm4.ext
          have HM4 := Lib.hid (hm4.before (w0 := w2) (by repeat (first | exact Ext.refl _ | assumption | apply Ext.alloc | apply Ext.drew)))
          obtain ⟨A4, c4, rfl, _⟩ := fml_slice hm4.fml
          clear hm4
          go_wp2_with fail
          refine hK.out _ _ ((Ext.cell (p := ⟨wq.heap.size, 1, none⟩) (by repeat (first | exact Ext.refl _ | assumption | apply Ext.alloc | apply Ext.drew)) dlt).trans d1) (fun hHeld => ?_)
          clear hK K
          try simp only [Act.put, List.setIfInBounds_toArray, List.set_cons_zero, List.set_cons_succ, List.getElem_toArray, List.getElem_cons_succ, List.getElem_cons_zero]
          refine wpAnyH_ready (rs := [5]) (by kernel_rfl) (by simp) ?_
          refine AllReadyH.cons rfl (fun K hK => ?_) AllReadyH.nil
          go_simp
          refine (rNot_any _ _ _ (HM4.out.fml.ext (by repeat (first | exact Ext.refl _ | assumption | apply Ext.alloc | apply Ext.drew)))).mono ?_
          rintro e w5 ⟨u5, rfl, hm5⟩
          have hx5 : Ext w2 w5 := Ext.trans (by repeat (first | exact Ext.refl _ | assumption | apply Ext.alloc | apply Ext.drew)) hm5.ext
          have HM5 := Lib.hid (hm5.before (w0 := w2) (by repeat (first | exact Ext.refl _ | assumption | apply Ext.alloc | apply Ext.drew)))
          clear hm5
          go_wp2_with fail
          refine hK.out _ _ ((Ext.cell (p := ⟨wq.heap.size, 1, none⟩) (by repeat (first | exact Ext.refl _ | assumption | apply Ext.alloc | apply Ext.drew)) dlt).trans d1) (fun hHeld => ?_)
          clear hK K
          try simp only [Act.put, List.setIfInBounds_toArray, List.set_cons_zero, List.set_cons_succ, List.getElem_toArray, List.getElem_cons_succ, List.getElem_cons_zero]
          refine' wpAnyH_take (i := 6) (v := _) rfl (by kernel_rfl) (by kernel_rfl) (by kernel_rfl) (fun _ _ _ h => h) (Or.inl ⟨by rfl, ?hybw16⟩) hHeld ?restbw16
          case hybw16 => (intro w' hSw; (try dsimp only at hSw); go_simp; (try with_reducible rfl))
          try simp only [Act.put, List.setIfInBounds_toArray, List.set_cons_zero, List.set_cons_succ, List.getElem_toArray, List.getElem_cons_succ, List.getElem_cons_zero]
          refine wpAnyH_done (by kernel_rfl) ?_ _
          have HG : Hid (Made wq w5 u5 (expS ⟨10, i1, e1, gq, (jx : Int), py⟩ (out.getD (jx : Int).toNat []) (out.getD (py).toNat []))) := Lib.hid (by rw [HEX.out]; exact HM5.out.before hxw)
          obtain ⟨⟨y0, y1, y2, y3, y4, y5⟩, yfr, ylt⟩ := cells6 ((hx5.block dlt).trans ((HM.out.ext.block (lt_heap HW0.out)).trans HW0.out))
          clear HEX
          obtain ⟨As8, cs8, rfl, _⟩ := fml_slice HG.out.fml
          have HX8 := Lib.hid HG.out.ext
          by_cases hz : (expS ⟨10, i1, e1, gq, (jx : Int), py⟩ (out.getD (jx : Int).toNat []) (out.getD (py).toNat [])).length = 0
          · have HE := Lib.hid (show expandN f = [] by
              unfold expandN
              rw [← HCL.out, expGo_none (k := k + 1) (by rw [expGo_step HN.out HO.out, decide_eq_true hz]; rfl)])
            have hzb : (((expS ⟨10, i1, e1, gq, (jx : Int), py⟩ (out.getD (jx : Int).toNat []) (out.getD (py).toNat [])).length : Int) == 0) = true := by rw [hz]; rfl
            generalize (expS ⟨10, i1, e1, gq, (jx : Int), py⟩ (out.getD (jx : Int).toNat []) (out.getD (py).toNat [])).length = m8 at hz hzb
            clear hz
            go_wp2_with fail
            go_ret
            exact ⟨_, rfl, by rw [HE.out]; exact fml_none _, HM0.out.ext.trans (HFR.out.ext.trans HX8.out)⟩
          · have hzb : (((expS ⟨10, i1, e1, gq, (jx : Int), py⟩ (out.getD (jx : Int).toNat []) (out.getD (py).toNat [])).length : Int) == 0) = false := by rw [beq_eq_false_iff_ne]; omega
            have HSTEP := Lib.hid (show expGo (cl.take (k + 1)) [] = some (out ++ [expS ⟨10, i1, e1, gq, (jx : Int), py⟩ (out.getD (jx : Int).toNat []) (out.getD (py).toNat [])]) by rw [expGo_step HN.out HO.out, decide_eq_false hz]; rfl)
            clear hz
            generalize expS ⟨10, i1, e1, gq, (jx : Int), py⟩ (out.getD (jx : Int).toNat []) (out.getD (py).toNat []) = g8 at HG hzb HSTEP
            have hc3 : out.length + 1 ≤ maxLen := by unfold maxLen; omega
            have hc4 : (out.length + 1) * 24 ≤ 140737488355328 := by omega
            go_wp2_with (at_builtin; refine wpList_append_own_at _ rfl _ _ 49 rfl w0.heap.size 22 iI (.slice none 0 0) 1 24 Tryz.underlying49 hiI hzI0 hzI1 hzI2 rfl (by decide) _ out.length us rfl (row_ext HROW.out (HX8.out.alloc _)) ⟨_, 0, none⟩ 1 1 [.slice As8 g8.length cs8] rfl rfl (row_new_at _ _ _ (by simp)) (fun u hu => by rw [List.mem_singleton.1 hu]; rfl) hc3 hc4 (Nat.le_trans HFR.out.ext.size (HX8.out.alloc _).size) ?_)
            intro v7 w7 hown7 hgrow7 _ hat7
            have HPS := Lib.hid (FRow.push (s := g8) ((HFR.out.ext.trans HX8.out).alloc _) (row_ext HROW.out (HX8.out.alloc _)) (fun k s hk => by
              obtain ⟨u, a, b, c⟩ := HUS.out k s hk
              exact ⟨u, a, b.ext (HX8.out.alloc _), c.ext (HX8.out.alloc _)⟩) hown7 hgrow7 (hat7.imp id (fun e => e.trans (by simp))) (HG.out.fml.ext ((Ext.refl _).alloc _)) (made_away (Nat.le_refl _) (row_ext HG.out.1 ((Ext.refl _).alloc _)) HROW.out HFR.out.ext.size))
            obtain ⟨A7, c7, rfl⟩ := slice_of_row hown7
            clear hown7 hgrow7 hat7
            go_wp2_with fail
            go_roundw
            case rel => exact ⟨k + 1, by go_num, by omega, Lib.hid ⟨_, HSTEP.out, by rw [List.length_append, HOK.out]; rfl, HPS.out⟩⟩
            case measure => simp [intOf]; omega
        · by_cases h11 : o = 11
          · subst h11
            have hgr := group_of HHN.out (.inl rfl)
            obtain ⟨gn, hgn⟩ := Int.eq_ofNat_of_zero_le (show 0 ≤ gq from hgr.1)
            subst hgn
            clear h10 hgr
            have HEX := Lib.hid (show expS ⟨11, i1, e1, (gn : Int), (jx : Int), py⟩ (out.getD (jx : Int).toNat []) (out.getD (py).toNat []) = allN (everyL (gn : Int) sx) by unfold expS; rw [HSx.out]; rfl)
            go_wp2_with (first | (go_at_call 89; refine (usesX_as HUX.out _).mono ?_; rintro e1 w5 ⟨rfl, rfl⟩) | (go_at_call 90; refine (usesY_as HUY.out _).mono ?_; rintro e1 w5 ⟨rfl, rfl⟩))
            refine (rebuild_any ⟨11, i1, e1, (gn : Int), (jx : Int), py⟩ _ _ sx [] _ HHN.out HNO.out (HFx.out.ext HX0.out) (fml_none _)).mono ?_
            rintro e w2 ⟨u, rfl, hm⟩
            have HM := Lib.hid hm
            obtain ⟨⟨d0, d1, d2, d3, d4, d5⟩, dfr, dlt⟩ := cells6 ((hm.ext.block dlt).trans HW0.out)
            go_wp2_with fail
            refine (everybody_any gn _ sx _ (HFx.out.ext (HX0.out.trans hm.ext))).mono ?_
            rintro e w3 ⟨u3, rfl, hm3⟩
            have HG : Hid (Made wq w3 u3 (expS ⟨11, i1, e1, (gn : Int), (jx : Int), py⟩ (out.getD (jx : Int).toNat []) (out.getD (py).toNat []))) := Lib.hid (by rw [HEX.out]; exact hm3.before (HX0.out.trans hm.ext))
            clear HEX hm hm3
            obtain ⟨As8, cs8, rfl, _⟩ := fml_slice HG.out.fml
            have HX8 := Lib.hid HG.out.ext
            by_cases hz : (expS ⟨11, i1, e1, (gn : Int), (jx : Int), py⟩ (out.getD (jx : Int).toNat []) (out.getD (py).toNat [])).length = 0
            · have HE := Lib.hid (show expandN f = [] by
                unfold expandN
                rw [← HCL.out, expGo_none (k := k + 1) (by rw [expGo_step HN.out HO.out, decide_eq_true hz]; rfl)])
              have hzb : (((expS ⟨11, i1, e1, (gn : Int), (jx : Int), py⟩ (out.getD (jx : Int).toNat []) (out.getD (py).toNat [])).length : Int) == 0) = true := by rw [hz]; rfl
              generalize (expS ⟨11, i1, e1, (gn : Int), (jx : Int), py⟩ (out.getD (jx : Int).toNat []) (out.getD (py).toNat [])).length = m8 at hz hzb
              clear hz
              go_wp2_with fail
              go_ret
              exact ⟨_, rfl, by rw [HE.out]; exact fml_none _, HM0.out.ext.trans (HFR.out.ext.trans HX8.out)⟩
            · have hzb : (((expS ⟨11, i1, e1, (gn : Int), (jx : Int), py⟩ (out.getD (jx : Int).toNat []) (out.getD (py).toNat [])).length : Int) == 0) = false := by rw [beq_eq_false_iff_ne]; omega
              have HSTEP := Lib.hid (show expGo (cl.take (k + 1)) [] = some (out ++ [expS ⟨11, i1, e1, (gn : Int), (jx : Int), py⟩ (out.getD (jx : Int).toNat []) (out.getD (py).toNat [])]) by rw [expGo_step HN.out HO.out, decide_eq_false hz]; rfl)
              clear hz
              generalize expS ⟨11, i1, e1, (gn : Int), (jx : Int), py⟩ (out.getD (jx : Int).toNat []) (out.getD (py).toNat []) = g8 at HG hzb HSTEP
              have hc3 : out.length + 1 ≤ maxLen := by unfold maxLen; omega
              have hc4 : (out.length + 1) * 24 ≤ 140737488355328 := by omega
              go_wp2_with (at_builtin; refine wpList_append_own_at _ rfl _ _ 49 rfl w0.heap.size 22 iI (.slice none 0 0) 1 24 Tryz.underlying49 hiI hzI0 hzI1 hzI2 rfl (by decide) _ out.length us rfl (row_ext HROW.out (HX8.out.alloc _)) ⟨_, 0, none⟩ 1 1 [.slice As8 g8.length cs8] rfl rfl (row_new_at _ _ _ (by simp)) (fun u hu => by rw [List.mem_singleton.1 hu]; rfl) hc3 hc4 (Nat.le_trans HFR.out.ext.size (HX8.out.alloc _).size) ?_)
              intro v7 w7 hown7 hgrow7 _ hat7
              have HPS := Lib.hid (FRow.push (s := g8) ((HFR.out.ext.trans HX8.out).alloc _) (row_ext HROW.out (HX8.out.alloc _)) (fun k s hk => by
                obtain ⟨u, a, b, c⟩ := HUS.out k s hk
                exact ⟨u, a, b.ext (HX8.out.alloc _), c.ext (HX8.out.alloc _)⟩) hown7 hgrow7 (hat7.imp id (fun e => e.trans (by simp))) (HG.out.fml.ext ((Ext.refl _).alloc _)) (made_away (Nat.le_refl _) (row_ext HG.out.1 ((Ext.refl _).alloc _)) HROW.out HFR.out.ext.size))
              obtain ⟨A7, c7, rfl⟩ := slice_of_row hown7
              clear hown7 hgrow7 hat7
              go_wp2_with fail
              go_roundw
              case rel => exact ⟨k + 1, by go_num, by omega, Lib.hid ⟨_, HSTEP.out, by rw [List.length_append, HOK.out]; rfl, HPS.out⟩⟩
              case measure => simp [intOf]; omega
          · skip
            have HEX := Lib.hid (show expS ⟨o, i1, e1, gq, (jx : Int), py⟩ (out.getD (jx : Int).toNat []) (out.getD (py).toNat []) = rebuildN ⟨o, i1, e1, gq, (jx : Int), py⟩ sx [] by
              rw [rebuild_exp HHN.out HOPS.out h10 h11]
              exact expS_congr (fun _ => HSx.out) (fun h => absurd (HUY.out.symm.trans h) (by decide)) HOPS.out)
            have t10 : (o == 10) = false := by rw [beq_eq_false_iff_ne]; exact h10
            have t11 : (o == 11) = false := by rw [beq_eq_false_iff_ne]; exact h11
            clear h10 h11
            go_wp2_with (first | (go_at_call 89; refine (usesX_as HUX.out _).mono ?_; rintro e1 w5 ⟨rfl, rfl⟩) | (go_at_call 90; refine (usesY_as HUY.out _).mono ?_; rintro e1 w5 ⟨rfl, rfl⟩))
            refine (rebuild_any ⟨o, i1, e1, gq, (jx : Int), py⟩ _ _ sx [] _ HHN.out HNO.out (HFx.out.ext HX0.out) (fml_none _)).mono ?_
            rintro e w2 ⟨u, rfl, hm⟩
            have HM := Lib.hid hm
            obtain ⟨⟨d0, d1, d2, d3, d4, d5⟩, dfr, dlt⟩ := cells6 ((hm.ext.block dlt).trans HW0.out)
            have HG : Hid (Made wq w2 u (expS ⟨o, i1, e1, gq, (jx : Int), py⟩ (out.getD (jx : Int).toNat []) (out.getD (py).toNat []))) := Lib.hid (by rw [HEX.out]; exact hm.before HX0.out)
            clear hm HEX
            obtain ⟨As8, cs8, rfl, _⟩ := fml_slice HG.out.fml
            have HX8 := Lib.hid HG.out.ext
            by_cases hz : (expS ⟨o, i1, e1, gq, (jx : Int), py⟩ (out.getD (jx : Int).toNat []) (out.getD (py).toNat [])).length = 0
            · have HE := Lib.hid (show expandN f = [] by
                unfold expandN
                rw [← HCL.out, expGo_none (k := k + 1) (by rw [expGo_step HN.out HO.out, decide_eq_true hz]; rfl)])
              have hzb : (((expS ⟨o, i1, e1, gq, (jx : Int), py⟩ (out.getD (jx : Int).toNat []) (out.getD (py).toNat [])).length : Int) == 0) = true := by rw [hz]; rfl
              generalize (expS ⟨o, i1, e1, gq, (jx : Int), py⟩ (out.getD (jx : Int).toNat []) (out.getD (py).toNat [])).length = m8 at hz hzb
              clear hz
              go_wp2_with fail
              go_ret
              exact ⟨_, rfl, by rw [HE.out]; exact fml_none _, HM0.out.ext.trans (HFR.out.ext.trans HX8.out)⟩
            · have hzb : (((expS ⟨o, i1, e1, gq, (jx : Int), py⟩ (out.getD (jx : Int).toNat []) (out.getD (py).toNat [])).length : Int) == 0) = false := by rw [beq_eq_false_iff_ne]; omega
              have HSTEP := Lib.hid (show expGo (cl.take (k + 1)) [] = some (out ++ [expS ⟨o, i1, e1, gq, (jx : Int), py⟩ (out.getD (jx : Int).toNat []) (out.getD (py).toNat [])]) by rw [expGo_step HN.out HO.out, decide_eq_false hz]; rfl)
              clear hz
              generalize expS ⟨o, i1, e1, gq, (jx : Int), py⟩ (out.getD (jx : Int).toNat []) (out.getD (py).toNat []) = g8 at HG hzb HSTEP
              have hc3 : out.length + 1 ≤ maxLen := by unfold maxLen; omega
              have hc4 : (out.length + 1) * 24 ≤ 140737488355328 := by omega
              go_wp2_with (at_builtin; refine wpList_append_own_at _ rfl _ _ 49 rfl w0.heap.size 22 iI (.slice none 0 0) 1 24 Tryz.underlying49 hiI hzI0 hzI1 hzI2 rfl (by decide) _ out.length us rfl (row_ext HROW.out (HX8.out.alloc _)) ⟨_, 0, none⟩ 1 1 [.slice As8 g8.length cs8] rfl rfl (row_new_at _ _ _ (by simp)) (fun u hu => by rw [List.mem_singleton.1 hu]; rfl) hc3 hc4 (Nat.le_trans HFR.out.ext.size (HX8.out.alloc _).size) ?_)
              intro v7 w7 hown7 hgrow7 _ hat7
              have HPS := Lib.hid (FRow.push (s := g8) ((HFR.out.ext.trans HX8.out).alloc _) (row_ext HROW.out (HX8.out.alloc _)) (fun k s hk => by
                obtain ⟨u, a, b, c⟩ := HUS.out k s hk
                exact ⟨u, a, b.ext (HX8.out.alloc _), c.ext (HX8.out.alloc _)⟩) hown7 hgrow7 (hat7.imp id (fun e => e.trans (by simp))) (HG.out.fml.ext ((Ext.refl _).alloc _)) (made_away (Nat.le_refl _) (row_ext HG.out.1 ((Ext.refl _).alloc _)) HROW.out HFR.out.ext.size))
              obtain ⟨A7, c7, rfl⟩ := slice_of_row hown7
              clear hown7 hgrow7 hat7
              go_wp2_with fail
              go_roundw
              case rel => exact ⟨k + 1, by go_num, by omega, Lib.hid ⟨_, HSTEP.out, by rw [List.length_append, HOK.out]; rfl, HPS.out⟩⟩
              case measure => simp [intOf]; omega
      · have HUX := Lib.hid hux
        have HUY := Lib.hid huy
        clear hux huy HCS
        obtain ⟨g0, cap0, hsl, hs1, hs2⟩ := HFR.out.slice (by rw [HOK.out]; have := (HXY.out.1 HUX.out); omega)
        injection hsl with hsl1 _ hsl2
        subst hsl1 hsl2
        unfold maxLen at hs2
        have hXx : 0 ≤ px ∧ px < k := HXY.out.1 HUX.out
        obtain ⟨jx, hjx⟩ := Int.eq_ofNat_of_zero_le hXx.1
        subst hjx
        obtain ⟨sx, hsx⟩ : ∃ s, out[jx]? = some s := ⟨_, List.getElem?_eq_getElem (by rw [HOK.out]; omega)⟩
        obtain ⟨ux, hux, hfx, hglx⟩ := HFR.out.get hsx
        have HSx := Lib.hid (show out.getD (jx : Int).toNat [] = sx by rw [Int.toNat_natCast, List.getD_eq_getElem?_getD, hsx]; rfl)
        have HFx := Lib.hid hfx
        obtain ⟨Ax, cx, rfl, _⟩ := fml_slice hfx
        have hjlx : (jx : Int) < (out.length : Int) := by rw [HOK.out]; omega
        clear hsx hfx hXx
        have hXy : 0 ≤ py ∧ py < k := HXY.out.2 HUY.out
        obtain ⟨jy, hjy⟩ := Int.eq_ofNat_of_zero_le hXy.1
        subst hjy
        obtain ⟨sy, hsy⟩ : ∃ s, out[jy]? = some s := ⟨_, List.getElem?_eq_getElem (by rw [HOK.out]; omega)⟩
        obtain ⟨uy, huy, hfy, hgly⟩ := HFR.out.get hsy
        have HSy := Lib.hid (show out.getD (jy : Int).toNat [] = sy by rw [Int.toNat_natCast, List.getD_eq_getElem?_getD, hsy]; rfl)
        have HFy := Lib.hid hfy
        obtain ⟨Ay, cy, rfl, _⟩ := fml_slice hfy
        have hjly : (jy : Int) < (out.length : Int) := by rw [HOK.out]; omega
        clear hsy hfy hXy
        have HW0 := Lib.hid (show (wq.alloc (.cells #[.int .i64 o, .int .i64 i1, .int .i64 e1, .int .i64 gq, .int .i64 (jx : Int), .int .i64 (jy : Int)] 93)).heap[wq.heap.size]? = some (.cells #[.int .i64 o, .int .i64 i1, .int .i64 e1, .int .i64 gq, .int .i64 (jx : Int), .int .i64 (jy : Int)] 93 (0, 0)) from heap_alloc_new _ _)
        have HX0 := Lib.hid (show Ext wq (wq.alloc (.cells #[.int .i64 o, .int .i64 i1, .int .i64 e1, .int .i64 gq, .int .i64 (jx : Int), .int .i64 (jy : Int)] 93)) from (Ext.refl _).alloc _)
        obtain ⟨⟨d0, d1, d2, d3, d4, d5⟩, dfr, dlt⟩ := cells6 HW0.out
        have h10 : o ≠ 10 := fun e => by have h1 := HUX.out; have h2 := HUY.out; rw [e] at h1 h2; revert h1 h2; decide
        have h11 : o ≠ 11 := fun e => by have h1 := HUX.out; have h2 := HUY.out; rw [e] at h1 h2; revert h1 h2; decide
        have HEX := Lib.hid (show expS ⟨o, i1, e1, gq, (jx : Int), (jy : Int)⟩ (out.getD (jx : Int).toNat []) (out.getD (jy : Int).toNat []) = rebuildN ⟨o, i1, e1, gq, (jx : Int), (jy : Int)⟩ sx sy by
          rw [rebuild_exp HHN.out HOPS.out h10 h11]
          exact expS_congr (fun _ => HSx.out) (fun _ => HSy.out) HOPS.out)
        have t10 : (o == 10) = false := by rw [beq_eq_false_iff_ne]; exact h10
        have t11 : (o == 11) = false := by rw [beq_eq_false_iff_ne]; exact h11
        clear h10 h11
        go_wp2_with (first | (go_at_call 89; refine (usesX_as HUX.out _).mono ?_; rintro e1 w5 ⟨rfl, rfl⟩) | (go_at_call 90; refine (usesY_as HUY.out _).mono ?_; rintro e1 w5 ⟨rfl, rfl⟩))
        refine (rebuild_any ⟨o, i1, e1, gq, (jx : Int), (jy : Int)⟩ _ _ sx sy _ HHN.out HNO.out (HFx.out.ext HX0.out) (HFy.out.ext HX0.out)).mono ?_
        rintro e w2 ⟨u, rfl, hm⟩
        have HM := Lib.hid hm
        obtain ⟨⟨d0, d1, d2, d3, d4, d5⟩, dfr, dlt⟩ := cells6 ((hm.ext.block dlt).trans HW0.out)
        have HG : Hid (Made wq w2 u (expS ⟨o, i1, e1, gq, (jx : Int), (jy : Int)⟩ (out.getD (jx : Int).toNat []) (out.getD (jy : Int).toNat []))) := Lib.hid (by rw [HEX.out]; exact hm.before HX0.out)
        clear hm HEX
        obtain ⟨As8, cs8, rfl, _⟩ := fml_slice HG.out.fml
        have HX8 := Lib.hid HG.out.ext
        by_cases hz : (expS ⟨o, i1, e1, gq, (jx : Int), (jy : Int)⟩ (out.getD (jx : Int).toNat []) (out.getD (jy : Int).toNat [])).length = 0
        · have HE := Lib.hid (show expandN f = [] by
            unfold expandN
            rw [← HCL.out, expGo_none (k := k + 1) (by rw [expGo_step HN.out HO.out, decide_eq_true hz]; rfl)])
          have hzb : (((expS ⟨o, i1, e1, gq, (jx : Int), (jy : Int)⟩ (out.getD (jx : Int).toNat []) (out.getD (jy : Int).toNat [])).length : Int) == 0) = true := by rw [hz]; rfl
          generalize (expS ⟨o, i1, e1, gq, (jx : Int), (jy : Int)⟩ (out.getD (jx : Int).toNat []) (out.getD (jy : Int).toNat [])).length = m8 at hz hzb
          clear hz
          go_wp2_with fail
          go_ret
          exact ⟨_, rfl, by rw [HE.out]; exact fml_none _, HM0.out.ext.trans (HFR.out.ext.trans HX8.out)⟩
        · have hzb : (((expS ⟨o, i1, e1, gq, (jx : Int), (jy : Int)⟩ (out.getD (jx : Int).toNat []) (out.getD (jy : Int).toNat [])).length : Int) == 0) = false := by rw [beq_eq_false_iff_ne]; omega
          have HSTEP := Lib.hid (show expGo (cl.take (k + 1)) [] = some (out ++ [expS ⟨o, i1, e1, gq, (jx : Int), (jy : Int)⟩ (out.getD (jx : Int).toNat []) (out.getD (jy : Int).toNat [])]) by rw [expGo_step HN.out HO.out, decide_eq_false hz]; rfl)
          clear hz
          generalize expS ⟨o, i1, e1, gq, (jx : Int), (jy : Int)⟩ (out.getD (jx : Int).toNat []) (out.getD (jy : Int).toNat []) = g8 at HG hzb HSTEP
          have hc3 : out.length + 1 ≤ maxLen := by unfold maxLen; omega
          have hc4 : (out.length + 1) * 24 ≤ 140737488355328 := by omega
          go_wp2_with (at_builtin; refine wpList_append_own_at _ rfl _ _ 49 rfl w0.heap.size 22 iI (.slice none 0 0) 1 24 Tryz.underlying49 hiI hzI0 hzI1 hzI2 rfl (by decide) _ out.length us rfl (row_ext HROW.out (HX8.out.alloc _)) ⟨_, 0, none⟩ 1 1 [.slice As8 g8.length cs8] rfl rfl (row_new_at _ _ _ (by simp)) (fun u hu => by rw [List.mem_singleton.1 hu]; rfl) hc3 hc4 (Nat.le_trans HFR.out.ext.size (HX8.out.alloc _).size) ?_)
          intro v7 w7 hown7 hgrow7 _ hat7
          have HPS := Lib.hid (FRow.push (s := g8) ((HFR.out.ext.trans HX8.out).alloc _) (row_ext HROW.out (HX8.out.alloc _)) (fun k s hk => by
            obtain ⟨u, a, b, c⟩ := HUS.out k s hk
            exact ⟨u, a, b.ext (HX8.out.alloc _), c.ext (HX8.out.alloc _)⟩) hown7 hgrow7 (hat7.imp id (fun e => e.trans (by simp))) (HG.out.fml.ext ((Ext.refl _).alloc _)) (made_away (Nat.le_refl _) (row_ext HG.out.1 ((Ext.refl _).alloc _)) HROW.out HFR.out.ext.size))
          obtain ⟨A7, c7, rfl⟩ := slice_of_row hown7
          clear hown7 hgrow7 hat7
          go_wp2_with fail
          go_roundw
          case rel => exact ⟨k + 1, by go_num, by omega, Lib.hid ⟨_, HSTEP.out, by rw [List.length_append, HOK.out]; rfl, HPS.out⟩⟩
          case measure => simp [intOf]; omega
    · obtain rfl : cl.length = k := by omega
      have hok := HOK.out
      obtain ⟨g0, cap0, hsl, hs1, hs2⟩ := HFR.out.slice (by omega)
      injection hsl with hsl1 _ hsl2
      subst hsl1 hsl2
      unfold maxLen at hs2
      have HE := Lib.hid (show expandN f = out.getLastD [] by
        unfold expandN
        have h1 := HO.out
        rw [List.take_of_length_le (Nat.le_refl _)] at h1
        rw [← HCL.out, h1])
      obtain ⟨m, hm⟩ : ∃ m, out.length = m + 1 := ⟨out.length - 1, by omega⟩
      obtain ⟨s, hs⟩ : ∃ s, out[m]? = some s := ⟨_, List.getElem?_eq_getElem (by omega)⟩
      obtain ⟨us, hus, hfs, hgl⟩ := HFR.out.get hs
      have HLS := Lib.hid (show out.getLastD [] = s by rw [List.getLastD_eq_getLast?, List.getLast?_eq_getElem?, hm, Nat.add_sub_cancel, hs]; rfl)
      have HFS := Lib.hid hfs
      obtain ⟨As, cs, rfl, _⟩ := fml_slice hfs
      have i1 : ((out.length : Int) - 1) = (m : Int) := by omega
      have i2 : (m : Int) < (out.length : Int) := by omega
      have i3 : ((out.length : Int) - 1).toNat = m := by omega
      have i4 : ((out.length : Int) - 1) < (out.length : Int) := by omega
      have i5 : (0 : Int) ≤ (out.length : Int) - 1 := by omega
      have i6 : wrap64 ((out.length : Int) - 1) = (m : Int) := by unfold wrap64; omega
      clear hs hfs hok hm
      go_wp2_with fail
      go_ret
      exact ⟨_, rfl, by rw [HE.out, HLS.out]; exact HFS.out, HM0.out.ext.trans HFR.out.ext⟩
    end Go.Proofs.YtbfeodammikajaaGreat

/- The reference of types: Base. -/

namespace Go.Proofs.YtbfeodammikajaaGreat
open Go.RowKit

theorem shr_mod_zero (s k : Nat) : (((s : Int) / 2 ^ k).tmod 2 == 0) = !s.testBit k := by
  rw [shr_nat, testBit_int]
  generalize s / 2 ^ k = r
  rw [show ((r : Nat) : Int).tmod 2 = ((r % 2 : Nat) : Int) from rfl]
  rcases Nat.mod_two_eq_zero_or_one r with h | h <;> rw [h] <;> rfl
theorem unfs_len (c : List Nd) : (unfsN c).length ≤ 4 := by
  unfold unfsN
  cases (lastN c).op == 13
  · exact Nat.zero_le _
  · simp only [cond_true, List.length_map]
    exact Nat.le_trans (List.length_filter_le _ _) (by simp)
theorem usK_le : ∀ (l : List (List Nd)), (l.flatMap unfsN).length ≤ 4 * l.length
  | [] => Nat.le_refl _
  | c :: r => by
    rw [List.flatMap_cons, List.length_append, List.length_cons]
    have := usK_le r
    have := unfs_len c
    omega
theorem fold_len2 : ∀ (us l : List (List Nd)), (us.foldl addF l).length ≤ l.length + us.length
  | [], _ => Nat.le_refl _
  | u :: r, l => by
    rw [List.foldl_cons, List.length_cons]
    have h1 := fold_len2 r (addF l u)
    have h2 : (addF l u).length ≤ l.length + 1 := by
      unfold addF
      cases decide (placeN l u < 0)
      · exact Nat.le_succ _
      · simp
    omega
theorem usK_len {l0 : List (List Nd)} (h : l0.length ≤ 200) (k : Nat) : ((usK l0 k).foldl addF l0).length ≤ 1000 := by
  have h1 := fold_len2 (usK l0 k) l0
  have h2 : (usK l0 k).length ≤ 4 * (l0.take k).length := usK_le _
  rw [List.length_take] at h2
  omega
theorem langOk_bad {f : List Nd} (hc : check f = 0) : langOk f = !langBad f := by
  have h1 : langBad f = false ↔ ∀ n ∈ compactN f, tyOp n.op := ⟨lang_ops hc, lang_of⟩
  have h2 : langOk f = true ↔ ∀ n ∈ compactN f, tyOp n.op := by
    unfold langOk
    rw [List.all_eq_true]
    constructor
    · intro h n hn
      have h3 := h n hn
      have h4 := (isOp_iff n.op).1 ((compactN_props hc).2.2.2 n hn).1
      unfold tyOp
      by_cases e : n.op = 13
      · exact .inr e
      · left
        rw [show (n.op != 13) = true by simpa using e, Bool.and_true, Bool.not_eq_true', decide_eq_false_iff_not] at h3
        omega
    · intro h n hn
      have h3 := h n hn
      unfold tyOp at h3
      by_cases e : n.op = 13
      · rw [e]; rfl
      · rw [decide_eq_false (by omega)]; rfl
  cases hb : langBad f
  · exact h2.2 (h1.1 hb)
  · cases hk : langOk f
    · rfl
    · rw [h1.2 (h2.1 hk)] at hb; cases hb
set_option maxRecDepth 100000 in
set_option maxHeartbeats 32000000 in
theorem rbase_any (v : Value) (f : List Nd) (w : World) (h : Fml w v f) :
    Calls Tryz.prog 21 #[v] w (BaseRes w (baseN f)) := by
  have H := Lib.hid h
  obtain ⟨iI, hiI, hzI0, hzI1, hzI2⟩ := info_parts tInfoF2
  obtain ⟨A, c, rfl, _⟩ := fml_slice h
  clear h
  by_cases hc : check f ≠ 0
  · have hb1 : (check f != 0) = true := by simpa using hc
    have HB := Lib.hid (show baseN f = ([], check f) by unfold baseN; rw [hb1]; rfl)
    clear hc
    go_enter Tryz.func21, Tryz.ntmps21
    go_wp2_with fail
    refine (refCheck_any _ f _ H.out.1).mono ?_
    rintro e w1 ⟨rfl, hb⟩
    have HX := Lib.hid hb
    clear hb
    go_wp2_with fail
    go_ret2
    exact ⟨.slice none 0 0, by rw [HB.out] <;> rfl, HX.out, by rw [HB.out]; exact (FRow.nil _).before HX.out⟩
  have hc : check f = 0 := Classical.not_not.1 hc
  have hb1 : (check f != 0) = false := by simpa using hc
  have HC := Lib.hid hc
  have HLO := Lib.hid (langOk_bad hc)
  clear hc
  cases hl : langBad f
  case true =>
    have HB := Lib.hid (show baseN f = ([], 10) by unfold baseN; rw [hb1, hl]; rfl)
    rw [hl] at HLO
    clear hl
    go_enter Tryz.func21, Tryz.ntmps21
    go_wp2_with fail
    refine (refCheck_any _ f _ H.out.1).mono ?_
    rintro e w1 ⟨rfl, hb⟩
    rw [HC.out]
    have HX := Lib.hid hb
    clear hb
    go_wp2_with fail
    refine (language_any _ f _ (H.out.ext HX.out) HC.out).mono ?_
    rintro e w2 ⟨rfl, hb⟩
    rw [HLO.out]
    have HX2 := Lib.hid (HX.out.trans hb)
    clear hb
    go_wp2_with fail
    go_ret2
    exact ⟨.slice none 0 0, by rw [HB.out] <;> rfl, HX2.out, by rw [HB.out]; exact (FRow.nil _).before HX2.out⟩
  case false =>
    rw [hl] at HLO
    have HL := Lib.hid hl
    clear hl
    by_cases hz : (expandN f).length = 0
    · have HB := Lib.hid (show baseN f = ([], 8) by unfold baseN; rw [hb1, HL.out, decide_eq_true hz]; rfl)
      have hzb : (((expandN f).length : Int) == 0) = true := by rw [hz]; rfl
      clear hz
      go_enter Tryz.func21, Tryz.ntmps21
      go_wp2_with fail
      refine (refCheck_any _ f _ H.out.1).mono ?_
      rintro e w1 ⟨rfl, hb⟩
      rw [HC.out]
      have HX := Lib.hid hb
      clear hb
      go_wp2_with fail
      refine (language_any _ f _ (H.out.ext HX.out) HC.out).mono ?_
      rintro e w2 ⟨rfl, hb⟩
      rw [HLO.out]
      have HX2 := Lib.hid (HX.out.trans hb)
      clear hb
      go_wp2_with fail
      refine (rexpand_any _ f _ (H.out.ext HX2.out) HC.out (lang_ops HC.out HL.out)).mono ?_
      rintro e w3 ⟨u, rfl, hf, hb⟩
      have HF := Lib.hid hf
      have HX3 := Lib.hid (HX2.out.trans hb)
      obtain ⟨A3, c3, rfl, _⟩ := fml_slice hf
      clear hb hf
      go_wp2_with fail
      go_ret2
      exact ⟨.slice none 0 0, by rw [HB.out] <;> rfl, HX3.out, by rw [HB.out]; exact (FRow.nil _).before HX3.out⟩
    · have hzb : (((expandN f).length : Int) == 0) = false := by rw [beq_eq_false_iff_ne]; omega
      obtain ⟨hxt, het⟩ := expand_tree HC.out HL.out hz
      obtain ⟨t, ht⟩ : ∃ t, t = expT (treeOf f) := ⟨_, rfl⟩
      rw [← ht] at hxt het
      have HBN := Lib.hid (show baseN f = baseOfN (canon t) by unfold baseN; rw [hb1, HL.out, decide_eq_false hz, het]; rfl)
      have HT := Lib.hid hxt
      have HET := Lib.hid het
      clear hz hxt het ht
      go_enter Tryz.func21, Tryz.ntmps21
      go_wp2_with fail
      refine (refCheck_any _ f _ H.out.1).mono ?_
      rintro e w1 ⟨rfl, hb⟩
      rw [HC.out]
      have HX := Lib.hid hb
      clear hb
      go_wp2_with fail
      refine (language_any _ f _ (H.out.ext HX.out) HC.out).mono ?_
      rintro e w2 ⟨rfl, hb⟩
      rw [HLO.out]
      have HX2 := Lib.hid (HX.out.trans hb)
      clear hb
      go_wp2_with fail
      refine (rexpand_any _ f _ (H.out.ext HX2.out) HC.out (lang_ops HC.out HL.out)).mono ?_
      rintro e wE ⟨u, rfl, hf, hb⟩
      have HXE := Lib.hid (HX2.out.trans hb)
      rw [HET.out] at hf hzb
      have HFE := Lib.hid hf
      obtain ⟨A3, c3, rfl, _⟩ := fml_slice hf
      obtain ⟨sl, hsl⟩ : ∃ b, b = subsN (canon t) := ⟨_, rfl⟩
      have hsl200 : sl.length ≤ 200 := by rw [hsl, HT.out.subs]; simpa using HT.out.len
      have HSL := Lib.hid hsl
      have HSX := Lib.hid (show ∀ s ∈ sl, ∃ u, Xf u ∧ s = canon u by
        rw [hsl, HT.out.subs]
        intro s hs
        obtain ⟨i, hi, rfl⟩ := List.mem_map.1 hs
        exact ⟨_, HT.out.at (List.mem_range.1 hi), rfl⟩)
      clear hb hf hsl HX HX2 HLO
      go_wp2_with fail
      refine (refSubs_any _ (canon t) _ HFE.out HT.out.check).mono ?_
      rintro e w1 ⟨uc, rfl, hm0⟩
      rw [← HSL.out] at hm0
      have HM0 := Lib.hid hm0
      obtain ⟨As, cs, rfl, hcap, hmax, hread⟩ := hm0.fmls
      have HREAD := Lib.hid hread
      unfold maxLen at hmax
      have HUS0 := Lib.hid hm0.row
      clear hm0 hread
      go_wp2_with fail
      go_loopw [6, 30] (fun vo vi wr => ∃ k : Nat, vi = .int .i64 (k : Int) ∧ k ≤ sl.length ∧ Hid (∃ ol, ol = (sl.take k).filter (fun s => isBase (lastN s)) ∧ FRow wE wr vo ol ∧ Ext w1 wr ∧ From w1.heap.size vo)) (fun _ v _ => sl.length - (intOf v).toNat)
      case atStart => exact ⟨0, rfl, Nat.zero_le _, Lib.hid ⟨[], rfl, (FRow.nil _).before HM0.out.ext, Ext.refl _, fun g hg => by cases hg⟩⟩
      case round =>
        obtain ⟨k, rfl, hk, HREL⟩ := hrel
        obtain ⟨ol, hol, hfr, hx, hfm⟩ := HREL.out
        obtain ⟨us, hrow, hus⟩ := hfr.row
        obtain ⟨Ao, co, rfl⟩ := slice_of_row hrow
        have HOL := Lib.hid hol
        have HFR := Lib.hid hfr
        have HROW := Lib.hid hrow
        have HUS := Lib.hid hus
        have HX := Lib.hid hx
        have HFM := Lib.hid hfm
        have hol2 : ol.length ≤ 200 := by
          rw [hol]
          refine Nat.le_trans (List.length_filter_le _ _) ?_
          rw [List.length_take]
          omega
        clear HREL hol hfr hrow hus hx hfm
        by_cases hlt2 : k < sl.length
        · have hk1 : (k : Int) < (sl.length : Int) := by omega
          obtain ⟨s, hs⟩ : ∃ s, sl[k]? = some s := ⟨_, List.getElem?_eq_getElem hlt2⟩
          obtain ⟨ad, rfl, hblk, hcells⟩ := HREAD.out (by intro e; rw [e] at hlt2; simp at hlt2)
          obtain ⟨u, hu, hf⟩ := hcells k s hs
          have a0 := (HX.out.cell (p := ad.add k) (by rw [block_of_add]; exact hblk)).trans hu
          have hblk2 : (ad.add k).block < wr.heap.size := by rw [block_of_add]; exact Nat.lt_of_lt_of_le hblk HX.out.size
          have HF := Lib.hid (hf.ext HX.out)
          have HS := Lib.hid hs
          obtain ⟨su, hsu, hse⟩ := HSX.out s (List.mem_of_getElem? hs)
          have hs0 : 0 < s.length := by rw [hse]; exact canon_pos hsu.xp.1.1
          obtain ⟨Au, cu, rfl, _⟩ := fml_slice hf
          have HAW := Lib.hid (show ∀ g, (Value.slice Au s.length cu).ownBlock = some g → g < w1.heap.size ∧ wE.heap.size ≤ g by
            obtain ⟨us0, hr0, hu0⟩ := HUS0.out
            obtain ⟨u', hu', _, haw⟩ := hu0 k s hs
            have h0 : 0 < sl.length := by omega
            obtain ⟨g', cap', e', _, _, _, hc'⟩ := row1_cellsF hr0 h0
            injection e' with e1 _ _
            injection e1 with e1
            subst e1
            have hcell := hc' k u' hu'
            rw [show ((⟨g', 0, none⟩ : Addr).add k) = ⟨g', k, none⟩ from addr_zero g' k] at hu
            rw [hcell] at hu
            injection hu with hu
            subst hu
            exact fun g hg => ⟨(haw g hg).1, (haw g hg).2.2⟩)
          clear hs hcells hf hu hsu hse
          obtain ⟨wq, hwq⟩ : ∃ v, v = wr := ⟨_, rfl⟩
          subst hwq
          go_wp2_with fail
          refine (rtop_any _ s _ HF.out hs0).mono ?_
          rintro e w2 ⟨rfl, hx2⟩
          have HX2 := Lib.hid hx2
          obtain ⟨n, hn⟩ : ∃ n, n = lastN s := ⟨_, rfl⟩
          rw [← hn]
          have HN := Lib.hid hn
          have hfe : Sem.run Tryz.prog (Instr.field 93 (.agg #[.int .i64 n.op, .int .i64 n.i, .int .i64 n.e, .int .i64 n.g, .int .i64 n.x, .int .i64 n.y]) 0) w2 = .ok (.int .i64 n.op) w2 := rfl
          unfold Nd.val
          clear hx2 hn
          have HXW := Lib.hid (show Ext wq w2 from HX2.out)
          have HSTEP := Lib.hid (filt_step HS.out)
          rw [← HN.out, ← HOL.out] at HSTEP
          rcases base_cases n with hop | ⟨t3, t9, t13⟩
          · have hb := Lib.hid (show isBase n = true by unfold isBase; rcases hop with e | e | e <;> rw [e] <;> rfl)
            have hc3 : ol.length + 1 ≤ maxLen := by unfold maxLen; omega
            have hc4 : (ol.length + 1) * 24 ≤ 140737488355328 := by omega
            have HTT := Lib.hid (show ((n.op == 3) = true) ∨ ((n.op == 3) = false ∧ (n.op == 9) = true) ∨ ((n.op == 3) = false ∧ (n.op == 9) = false ∧ (n.op == 13) = true) by rcases hop with e | e | e <;> rw [e] <;> simp)
            clear hop
            rcases HTT.out with t3 | ⟨t3, t9⟩ | ⟨t3, t9, t13⟩
            all_goals
              go_wp2_with (at_builtin; refine wpList_append_own_at _ rfl _ _ 49 rfl wE.heap.size 22 iI (.slice none 0 0) 1 24 Tryz.underlying49 hiI hzI0 hzI1 hzI2 rfl (by decide) _ ol.length us rfl (row_ext HROW.out (HXW.out.alloc _)) ⟨_, 0, none⟩ 1 1 [.slice Au s.length cu] rfl rfl (row_new_at _ _ _ (by simp)) (fun u hu => by rw [List.mem_singleton.1 hu]; rfl) hc3 hc4 (Nat.le_trans HFR.out.ext.size (HXW.out.alloc _).size) ?_)
              intro v7 w7 hown7 hgrow7 _ hat7
              have HFM7 := Lib.hid (HFM.out.next (by have := HX.out.size; have := HXW.out.size; omega) hat7)
              have HX7 := Lib.hid (Ext.grown (HX.out.trans (HXW.out.alloc (.cells #[.slice Au s.length cu] 22))) hgrow7 HFM.out)
              have HPS := Lib.hid (FRow.push (s := s) ((HFR.out.ext.trans HXW.out).alloc _) (row_ext HROW.out (HXW.out.alloc _)) (fun k s hk => by
                obtain ⟨u, a, b, c⟩ := HUS.out k s hk
                exact ⟨u, a, b.ext (HXW.out.alloc _), c.ext (HXW.out.alloc _)⟩) hown7 hgrow7 (hat7.imp id (fun e => e.trans (by simp))) (HF.out.ext (HXW.out.alloc _)) (away_of HAW.out (Nat.le_refl _) HFM.out (Nat.le_trans HX.out.size (HXW.out.alloc _).size)))
              obtain ⟨A7, c7, rfl⟩ := slice_of_row hown7
              clear hown7 hgrow7 hat7
              go_wp2_with fail
              go_roundw
              case rel => exact ⟨k + 1, by go_num, by omega, Lib.hid ⟨_, by rw [HSTEP.out, hb.out]; rfl, HPS.out, HX7.out, HFM7.out⟩⟩
              case measure => simp [intOf]; omega
          · have hb := Lib.hid (show isBase n = false by unfold isBase; rw [t3, t9, t13]; rfl)
            go_wp2_with fail
            go_roundw
            case rel => exact ⟨k + 1, by go_num, by omega, Lib.hid ⟨_, by rw [HSTEP.out, hb.out]; exact (List.append_nil _).symm, HFR.out.ext_ HXW.out, HX.out.trans HXW.out, HFM.out⟩⟩
            case measure => simp [intOf]; omega
        · obtain rfl : sl.length = k := by omega
          obtain ⟨l0, hl0⟩ : ∃ l, l = base0 (canon t) := ⟨_, rfl⟩
          have HL0 := Lib.hid hl0
          have HOL0 := Lib.hid (show ol = l0 by rw [HOL.out, hl0, List.take_of_length_le (Nat.le_refl _), HSL.out]; rfl)
          have HL200 := Lib.hid (show l0.length ≤ 200 by rw [← HOL0.out]; exact hol2)
          clear hl0
          go_wp2_with fail
          go_loopw [6, 10] (fun vo vi wr => ∃ k : Nat, vi = .int .i64 (k : Int) ∧ k ≤ 1000 ∧ Hid (∃ ol, ol = (usK l0 k).foldl addF l0 ∧ (∀ u ∈ usK l0 k, u.length ≠ 0) ∧ k ≤ ol.length ∧ FRow wE wr vo ol)) (fun _ v _ => 1001 - (intOf v).toNat)
          case atStart => exact ⟨0, rfl, Nat.zero_le _, Lib.hid ⟨ol, HOL0.out, (fun u hu => by cases hu), Nat.zero_le _, HFR.out⟩⟩
          case round =>
            clear HOL HFR HROW HUS HX HFM HOL0 hol2
            obtain ⟨k, rfl, hk, HREL⟩ := hrel
            obtain ⟨ol, hol, hne, hkl, hfr⟩ := HREL.out
            have hol2 : ol.length ≤ 1000 := by rw [hol]; exact usK_len HL200.out k
            have HOL := Lib.hid hol
            have HNE := Lib.hid hne
            have HFR := Lib.hid hfr
            obtain ⟨Ao, co, rfl⟩ := slice_of_row hfr.row.choose_spec.1
            clear HREL hol hne hfr
            by_cases hlt2 : k < ol.length
            · have hk1 : (k : Int) < (ol.length : Int) := by omega
              · skip
                obtain ⟨s, hs⟩ : ∃ s, ol[k]? = some s := ⟨_, List.getElem?_eq_getElem hlt2⟩
                obtain ⟨g0, cap0, hsl, hs1, hs2⟩ := HFR.out.slice (by omega)
                injection hsl with hsl1 _ hsl2
                subst hsl1 hsl2
                unfold maxLen at hs2
                obtain ⟨u, hu, hf, hgl⟩ := HFR.out.get hs
                have HF := Lib.hid hf
                have HBS := Lib.hid (base_step HT.out (k := k) (ol := ol) (c := s) (by rw [← HL0.out]; exact HOL.out) (by rw [← HL0.out]; exact HNE.out) hs)
                have HS := Lib.hid hs
                obtain ⟨su, hsu, hse⟩ := HBS.out.2
                have hs0 : 0 < s.length := by rw [hse]; exact canon_pos hsu.xp.1.1
                have HHD := Lib.hid (show headOk (lastN s) by
                  have hck := hsu.check
                  rw [← hse] at hck
                  exact heads_of hck _ (List.mem_of_getElem? (lastN_get hs0)))
                obtain ⟨Au, cu, rfl, _⟩ := fml_slice hf
                clear hs hf hsu hse
                obtain ⟨wq, hwq⟩ : ∃ v, v = wr := ⟨_, rfl⟩
                subst hwq
                go_wp2_with fail
                refine (rtop_any _ s _ HF.out hs0).mono ?_
                rintro e w2 ⟨rfl, hx2⟩
                have HX2 := Lib.hid hx2
                obtain ⟨n, hn⟩ : ∃ n, n = lastN s := ⟨_, rfl⟩
                rw [← hn]
                have HN := Lib.hid hn
                unfold Nd.val
                clear hx2 hn
                go_wp2_with fail
                have hg2 : g0 < w2.heap.size := Nat.lt_of_lt_of_le hgl HX2.out.size
                obtain ⟨W0, hW0⟩ : ∃ v, v = w2.alloc (.cells #[.int .i64 n.op, .int .i64 n.i, .int .i64 n.e, .int .i64 n.g, .int .i64 n.x, .int .i64 n.y] 93) := ⟨_, rfl⟩
                have HBOX := Lib.hid (show W0.heap[w2.heap.size]? = some (.cells #[.int .i64 n.op, .int .i64 n.i, .int .i64 n.e, .int .i64 n.g, .int .i64 n.x, .int .i64 n.y] 93 (0, 0)) by rw [hW0]; exact heap_alloc_new _ _)
                have HXW := Lib.hid (show Ext wq W0 by rw [hW0]; exact HX2.out.alloc _)
                rw [← hW0]
                clear hW0
                by_cases hop : n.op = 13
                · have hgr := group_of (by rw [HN.out]; exact HHD.out) (.inr hop)
                  obtain ⟨gn, hgn⟩ := Int.eq_ofNat_of_zero_le hgr.1
                  have hg16 : gn < 16 := by omega
                  have HGN := Lib.hid hgn
                  have hb13 : (n.op != 13) = false := by rw [hop]; rfl
                  have HOP := Lib.hid (show (lastN s).op = 13 by rw [← HN.out]; exact hop)
                  rw [hgn] at HBOX
                  clear hgr hgn hop
                  go_loopw [6, 12] (fun vo vi wr => ∃ q : Nat, vi = .int .i64 (q : Int) ∧ q ≤ 4 ∧ Hid (∃ ol2, ol2 = (unfQ s q).foldl addF ol ∧ (∀ u ∈ unfQ s q, u.length ≠ 0) ∧ ol2.length ≤ ol.length + q ∧ FRow wE wr vo ol2 ∧ Ext wE wr ∧ wr.heap[w2.heap.size]? = some (.cells #[.int .i64 n.op, .int .i64 n.i, .int .i64 n.e, .int .i64 (gn : Int), .int .i64 n.x, .int .i64 n.y] 93 (0, 0)) ∧ vo.ownBlock ≠ some w2.heap.size)) (fun _ v _ => 4 - (intOf v).toNat)
                  case atStart => exact ⟨0, rfl, Nat.zero_le _, Lib.hid ⟨ol, by rw [unfQ_zero]; rfl, (by intro u hu; rw [unfQ_zero] at hu; cases hu), Nat.le_refl _, HFR.out.ext_ HXW.out, HFR.out.ext.trans HXW.out, HBOX.out, (fun e => by injection e with e; simp at e; omega)⟩⟩
                  case round =>
                    obtain ⟨q, rfl, hq, HREL2⟩ := hrel
                    obtain ⟨ol2, hol2', hne2, hlen2, hfr2, hx2', hbox2, hnb2⟩ := HREL2.out
                    obtain ⟨us2, hrow2, hus2⟩ := hfr2.row
                    have HOL2 := Lib.hid hol2'
                    have HNE2 := Lib.hid hne2
                    have HFR2 := Lib.hid hfr2
                    have HROW2 := Lib.hid hrow2
                    have HUS2 := Lib.hid hus2
                    have HBOX2 := Lib.hid hbox2
                    have HNB2 := Lib.hid hnb2
                    have HPF := Lib.hid (show ol <+: ol2 by rw [hol2']; exact fold_prefix _ _)
                    have hlt3 : k < ol2.length := Nat.lt_of_lt_of_le hlt2 HPF.out.length_le
                    have HS2 := Lib.hid (show ol2[k]? = some s by
                      obtain ⟨r, hr⟩ := HPF.out
                      rw [← hr, List.getElem?_append_left hlt2]; exact HS.out)
                    obtain ⟨g2, cap2, hsl2, hs12, hs22⟩ := HFR2.out.slice (by omega)
                    subst hsl2
                    unfold maxLen at hs22
                    obtain ⟨uu, huu, hff, hgl2⟩ := HFR2.out.get HS2.out
                    have HFF := Lib.hid hff
                    obtain ⟨Au2, cu2, rfl, _⟩ := fml_slice hff
                    obtain ⟨⟨q0, q1, q2, q3, q4, q5⟩, _, qb⟩ := cells6 hbox2
                    clear HREL2 hol2' hne2 hfr2 hrow2 hus2 hbox2 hnb2 hff hx2'
                    have hk3 : (k : Int) < (ol2.length : Int) := by omega
                    by_cases hq4 : q < 4
                    · have hq1 : (q : Int) < 4 := by omega
                      have hbt := shr_mod_zero gn q
                      cases hgb : gn.testBit q
                      case false =>
                        rw [hgb] at hbt
                        simp only [Bool.not_false] at hbt
                        have HQ := Lib.hid (unfQ_no (c := s) (q := q) (by rw [← HN.out, HGN.out, show gbit (gn : Int) q = false from hgb, Bool.and_false]))
                        clear hgb
                        go_wp2_with fail
                        go_roundw
                        case rel => exact ⟨q + 1, by go_num, by omega, Lib.hid ⟨ol2, by rw [HQ.out]; exact HOL2.out, by rw [HQ.out]; exact HNE2.out, by omega, HFR2.out, HFR2.out.ext, HBOX2.out, HNB2.out⟩⟩
                        case measure => simp [intOf]; omega
                      case true =>
                        rw [hgb] at hbt
                        simp only [Bool.not_true] at hbt
                        have HQ := Lib.hid (unfQ_yes (c := s) (q := q) (by rw [HOP.out]; rfl) (by rw [← HN.out, HGN.out]; exact hgb))
                        clear hgb
                        go_wp2_with fail
                        refine (runfold_any q hq4 _ s _ HFF.out hs0).mono ?_
                        rintro e w3 ⟨u3, rfl, hm3⟩
                        have HM3 := Lib.hid hm3
                        obtain ⟨A3, c3, rfl, _⟩ := fml_slice hm3.fml
                        clear hm3
                        by_cases hz : (unfN q s).length = 0
                        · have hzb : (((unfN q s).length : Int) == 0) = true := by rw [hz]; rfl
                          have HB := Lib.hid (show baseOfN (canon t) = ([], 8) from baseOf_bad (.inl (by
                            rw [← HL0.out]
                            refine base_bad (k := k + 1) (u := unfN q s) ?_ hz
                            rw [HL0.out, HBS.out.1]
                            refine List.mem_append_right _ (unfQ_sub (q := q + 1) (by omega) ?_)
                            rw [HQ.out]
                            simp)))
                          generalize (unfN q s).length = m8 at hz hzb
                          clear hz
                          go_wp2_with fail
                          go_ret2
                          exact ⟨.slice none 0 0, by rw [HBN.out, HB.out] <;> rfl, HXE.out.trans (HFR2.out.ext.trans HM3.out.ext), by rw [HBN.out, HB.out]; exact (FRow.nil _).before (HXE.out.trans (HFR2.out.ext.trans HM3.out.ext))⟩
                        · have hzb : (((unfN q s).length : Int) == 0) = false := by rw [beq_eq_false_iff_ne]; omega
                          have HZ := Lib.hid hz
                          have HNE3 := Lib.hid (show ∀ u ∈ unfQ s (q + 1), u.length ≠ 0 by
                            rw [HQ.out]
                            intro u hu
                            rcases List.mem_append.1 hu with hu | hu
                            · exact HNE2.out u hu
                            · rw [List.mem_singleton.1 hu]; exact hz)
                          have HOL3 := Lib.hid (show addF ol2 (unfN q s) = (unfQ s (q + 1)).foldl addF ol by rw [HQ.out, List.foldl_append, ← HOL2.out]; rfl)
                          clear hz
                          generalize unfN q s = g8 at HM3 hzb HOL3
                          go_wp2_with fail
                          refine (refIndex_any _ _ ol2 g8 _ (HFR2.out.fmls.ext HM3.out.ext) HM3.out.fml).mono ?_
                          rintro e w4 ⟨rfl, hx4⟩
                          have HX4 := Lib.hid (HM3.out.ext.trans hx4)
                          have HX34 := Lib.hid hx4
                          clear hx4
                          by_cases hp : placeN ol2 g8 < 0
                          · have HAD := Lib.hid (show addF ol2 g8 = ol2 ++ [g8] by unfold addF; rw [decide_eq_true hp]; rfl)
                            generalize placeN ol2 g8 = pz at hp
                            have hc3 : ol2.length + 1 ≤ maxLen := by unfold maxLen; omega
                            have hc4 : (ol2.length + 1) * 24 ≤ 140737488355328 := by omega
                            go_wp2_with (at_builtin; refine wpList_append_own_at _ rfl _ _ 49 rfl wE.heap.size 22 iI (.slice none 0 0) 1 24 Tryz.underlying49 hiI hzI0 hzI1 hzI2 rfl (by decide) _ ol2.length us2 rfl (row_ext HROW2.out (HX4.out.alloc _)) ⟨_, 0, none⟩ 1 1 [.slice A3 g8.length c3] rfl rfl (row_new_at _ _ _ (by simp)) (fun u hu => by rw [List.mem_singleton.1 hu]; rfl) hc3 hc4 (Nat.le_trans HFR2.out.ext.size (HX4.out.alloc _).size) ?_)
                            intro v7 w7 hown7 hgrow7 _ hat7
                            have HBOX7 := Lib.hid (show w7.heap[w2.heap.size]? = some (.cells #[.int .i64 n.op, .int .i64 n.i, .int .i64 n.e, .int .i64 (gn : Int), .int .i64 n.x, .int .i64 n.y] 93 (0, 0)) from (hgrow7.block _ (Nat.lt_of_lt_of_le qb (HX4.out.alloc _).size) (fun e => HNB2.out e.symm)).trans (((HX4.out.alloc _).block qb).trans HBOX2.out))
                            have HNB7 := Lib.hid (show v7.ownBlock ≠ some w2.heap.size from fun e => by
                              rcases hat7 with e1 | e1
                              · exact HNB2.out (e1 ▸ e)
                              · rw [e1] at e; injection e with e; have := (HX4.out).size; omega)
                            have HPS := Lib.hid (FRow.push (s := g8) ((HFR2.out.ext.trans HX4.out).alloc _) (row_ext HROW2.out (HX4.out.alloc _)) (fun k s hk => by
                              obtain ⟨u, a, b, c⟩ := HUS2.out k s hk
                              exact ⟨u, a, b.ext (HX4.out.alloc _), c.ext (HX4.out.alloc _)⟩) hown7 hgrow7 (hat7.imp id (fun e => e.trans (by simp))) (HM3.out.fml.ext (HX34.out.alloc _)) (made_away (Nat.le_refl _) (row_ext HM3.out.1 (HX34.out.alloc _)) HROW2.out HFR2.out.ext.size))
                            obtain ⟨A7, c7, rfl⟩ := slice_of_row hown7
                            clear hown7 hgrow7 hat7
                            go_wp2_with fail
                            go_roundw
                            case rel => exact ⟨q + 1, by go_num, by omega, Lib.hid ⟨_, by rw [← HOL3.out, HAD.out], HNE3.out, by rw [List.length_append, List.length_singleton]; omega, HPS.out, HPS.out.ext, HBOX7.out, HNB7.out⟩⟩
                            case measure => simp [intOf]; omega
                          · have HAD := Lib.hid (show addF ol2 g8 = ol2 by unfold addF; rw [decide_eq_false hp]; rfl)
                            generalize placeN ol2 g8 = pz at hp
                            go_wp2_with fail
                            go_roundw
                            case rel => exact ⟨q + 1, by go_num, by omega, Lib.hid ⟨ol2, by rw [← HOL3.out, HAD.out], HNE3.out, by omega, HFR2.out.ext_ HX4.out, HFR2.out.ext.trans HX4.out, (HX4.out.block qb).trans HBOX2.out, HNB2.out⟩⟩
                            case measure => simp [intOf]; omega
                    · obtain rfl : 4 = q := by omega
                      go_wp2_with fail
                      go_roundw
                      case rel => exact ⟨k + 1, by go_num, by omega, Lib.hid ⟨ol2, by rw [HL0.out, HBS.out.1, List.foldl_append, ← HL0.out, ← HOL.out, ← unfQ_four]; exact HOL2.out, (by
                        rw [HL0.out, HBS.out.1]
                        intro u hu
                        rcases List.mem_append.1 hu with hu | hu
                        · exact HNE.out u (by rw [HL0.out]; exact hu)
                        · exact HNE2.out u (by rw [unfQ_four]; exact hu)), by omega, HFR2.out⟩⟩
                      case measure => simp [intOf]; omega
                · have hb13 : (n.op != 13) = true := by simpa using hop
                  have HUE := Lib.hid (show unfsN s = [] by unfold unfsN; rw [← HN.out, show (n.op == 13) = false by simpa using hop]; rfl)
                  obtain ⟨⟨q0, q1, q2, q3, q4, q5⟩, _, qb⟩ := cells6 HBOX.out
                  clear hop
                  go_loopw [6, 12] (fun vo vi wr => ∃ q : Nat, vi = .int .i64 (q : Int) ∧ q ≤ 4 ∧ vo = .slice (some ⟨g0, 0, none⟩) ol.length co ∧ wr = W0) (fun _ v _ => 4 - (intOf v).toNat)
                  case atStart => exact ⟨0, rfl, Nat.zero_le _, rfl, rfl⟩
                  case round =>
                    obtain ⟨q, rfl, hq, rfl, rfl⟩ := hrel
                    by_cases hq4 : q < 4
                    · have hq1 : (q : Int) < 4 := by omega
                      go_wp2_with fail
                      go_roundw
                      case rel => exact ⟨q + 1, by go_num, by omega, by first | rfl | trivial, by first | rfl | trivial⟩
                      case measure => simp [intOf]; omega
                    · obtain rfl : 4 = q := by omega
                      go_wp2_with fail
                      go_roundw
                      case rel => exact ⟨k + 1, by go_num, by omega, Lib.hid ⟨ol, by rw [HL0.out, HBS.out.1, HUE.out, List.append_nil, ← HL0.out]; exact HOL.out, (by
                        rw [HL0.out, HBS.out.1, HUE.out, List.append_nil, ← HL0.out]; exact HNE.out), by omega, HFR.out.ext_ HXW.out⟩⟩
                      case measure => simp [intOf]; omega
            · obtain rfl : ol.length = k := by omega
              have HUS2 := Lib.hid (show usK l0 ol.length = l0.flatMap unfsN from usK_all (by rw [HOL.out]; exact fold_len _ _))
              by_cases h12 : 12 < ol.length
              · have h12i : (12 : Int) < (ol.length : Int) := by omega
                have HB := Lib.hid (show baseOfN (canon t) = ([], 8) from baseOf_bad (.inr (by rw [← HL0.out]; exact base_long (k := ol.length) (by rw [← HOL.out]; exact h12))))
                go_wp2_with fail
                go_ret2
                exact ⟨.slice none 0 0, by rw [HBN.out, HB.out] <;> rfl, HXE.out.trans HFR.out.ext, by rw [HBN.out, HB.out]; exact (FRow.nil _).before (HXE.out.trans HFR.out.ext)⟩
              · have h12i : (ol.length : Int) ≤ 12 := by omega
                have HB := Lib.hid (show baseOfN (canon t) = (ol, 0) by
                  have h1 := HOL.out
                  rw [HUS2.out] at h1
                  rw [baseOf_good, ← HL0.out, ← h1]
                  · rw [← HL0.out, ← HUS2.out]; exact HNE.out
                  · rw [← HL0.out, ← h1]; omega)
                go_wp2_with fail
                go_ret2
                exact ⟨_, by rw [HBN.out, HB.out] <;> rfl, HXE.out.trans HFR.out.ext, by rw [HBN.out, HB.out]; exact HFR.out.before HXE.out⟩
end Go.Proofs.YtbfeodammikajaaGreat

/- The law's few and awake; the reference's SameLists and Few. -/

namespace Go.Proofs.YtbfeodammikajaaGreat
open Go.RowKit

theorem refFew_any (v : Value) (f : List Nd) (k : Int) (w : World) (h : Fml w v f) :
    Calls Tryz.prog 20 #[v, .int .i64 k] w fun e w' => e = .returned (.bool (decide ((f.length : Int) ≤ k))) ∧ w = w' := by
  obtain ⟨A, c, rfl, _⟩ := fml_slice h
  clear h
  go_enter Tryz.func20, Tryz.ntmps20
  go_wp2_with fail
  go_ret
  exact ⟨by first | rfl | (congr 2), rfl⟩
/-- The law's guard. -/
def fewB (f : List Nd) (k : Int) : Bool := decide ((f.length : Int) ≤ 30) && ((baseN f).2 != 0 || decide (((baseN f).1.length : Int) ≤ k))
theorem frow_slice {w0 w : World} {v : Value} {out : List (List Nd)} (h : FRow w0 w v out) : ∃ A c, v = .slice A out.length c := by
  obtain ⟨_, hr, _⟩ := h.row
  exact slice_of_row hr
set_option maxRecDepth 100000 in
set_option maxHeartbeats 2000000 in
theorem few_any (v : Value) (f : List Nd) (k : Int) (w : World) (h : Fml w v f) :
    Calls Tryz.prog 7 #[v, .int .i64 k] w fun e w' => e = .returned (.bool (fewB f k)) ∧ Ext w w' := by
  have H := Lib.hid h
  obtain ⟨A, c, rfl, _⟩ := fml_slice h
  clear h
  by_cases hl : (f.length : Int) ≤ 30
  · obtain ⟨er, her⟩ : ∃ e, e = (baseN f).2 := ⟨_, rfl⟩
    obtain ⟨bl, hbl⟩ : ∃ e, e = (baseN f).1.length := ⟨_, rfl⟩
    have HE := Lib.hid (show fewB f k = ((er != 0) || decide ((bl : Int) ≤ k)) by unfold fewB; rw [decide_eq_true hl, ← her, ← hbl]; rfl)
    have HER := Lib.hid her
    have HBL := Lib.hid hbl
    clear her hbl
    cases h1 : er != 0
    · by_cases h2 : (bl : Int) ≤ k
      · have HR := Lib.hid (show fewB f k = true by rw [HE.out, h1, decide_eq_true h2]; rfl)
        go_enter Tryz.func7, Tryz.ntmps7
        go_wp2_with fail
        refine (refFew_any _ f 30 _ H.out).mono ?_
        rintro e w1 ⟨rfl, rfl⟩
        rw [decide_eq_true hl]
        go_wp2_with fail
        refine (rbase_any _ f _ H.out).mono ?_
        rintro e w2 ⟨u, rfl, hx, hr⟩
        obtain ⟨Ar, cr, rfl⟩ := frow_slice hr
        rw [← HER.out, ← HBL.out]
        have HX := Lib.hid hx
        clear hx hr
        go_wp2_with fail
        go_ret
        exact ⟨by rw [HR.out] <;> rfl, HX.out⟩
      · have HR := Lib.hid (show fewB f k = false by rw [HE.out, h1, decide_eq_false h2]; rfl)
        have HD := Lib.hid (decide_eq_false h2)
        go_enter Tryz.func7, Tryz.ntmps7
        go_wp2_with fail
        refine (refFew_any _ f 30 _ H.out).mono ?_
        rintro e w1 ⟨rfl, rfl⟩
        rw [decide_eq_true hl]
        go_wp2_with fail
        refine (rbase_any _ f _ H.out).mono ?_
        rintro e w2 ⟨u, rfl, hx, hr⟩
        obtain ⟨Ar, cr, rfl⟩ := frow_slice hr
        rw [← HER.out, ← HBL.out]
        have HX := Lib.hid hx
        have h3 : k < (bl : Int) := by omega
        clear hx hr
        go_wp2_with fail
        go_ret
        exact ⟨by rw [HR.out]; exact congrArg (fun b => Ending.returned (.bool b)) HD.out, HX.out⟩
    · have HR := Lib.hid (show fewB f k = true by rw [HE.out, h1]; rfl)
      go_enter Tryz.func7, Tryz.ntmps7
      go_wp2_with fail
      refine (refFew_any _ f 30 _ H.out).mono ?_
      rintro e w1 ⟨rfl, rfl⟩
      rw [decide_eq_true hl]
      go_wp2_with fail
      refine (rbase_any _ f _ H.out).mono ?_
      rintro e w2 ⟨u, rfl, hx, hr⟩
      obtain ⟨Ar, cr, rfl⟩ := frow_slice hr
      rw [← HER.out, ← HBL.out]
      have HX := Lib.hid hx
      clear hx hr
      go_wp2_with fail
      go_ret
      exact ⟨by rw [HR.out] <;> rfl, HX.out⟩
  · have HR := Lib.hid (show fewB f k = false by unfold fewB; rw [decide_eq_false hl]; rfl)
    go_enter Tryz.func7, Tryz.ntmps7
    go_wp2_with fail
    refine (refFew_any _ f 30 _ H.out).mono ?_
    rintro e w1 ⟨rfl, rfl⟩
    rw [decide_eq_false (by omega)]
    go_wp2_with fail
    go_ret
    exact ⟨by rw [HR.out] <;> rfl, Ext.refl _⟩
set_option maxRecDepth 100000 in
set_option maxHeartbeats 16000000 in
theorem awake_any (w : World) :
    Calls Tryz.prog 8 #[] w fun e w' => e = .returned (.bool true) ∧ Ext w w' := by
  have HH0 := Lib.hid (show headOk ⟨3, 0, 0, 0, 0, 0⟩ from ⟨rfl, rfl, rfl, fun _ => rfl, fun _ => rfl⟩)
  have HH1 := Lib.hid (show headOk ⟨3, 1, 0, 0, 0, 0⟩ from ⟨rfl, rfl, rfl, fun _ => rfl, fun _ => rfl⟩)
  go_enter Tryz.func8, Tryz.ntmps8
  go_wp2_with fail
  refine (rFact_any 0 ok_z HH0.out _).mono ?_
  rintro e w1 ⟨u1, rfl, hm⟩
  obtain ⟨A1, c1, rfl, _⟩ := fml_slice hm.fml
  have HP1 := Lib.hid hm.fml
  have HX1 := Lib.hid ((Ext.refl w).trans hm.ext)
  clear hm
  go_wp2_with fail
  refine (rFact_any 1 (i64_small (by omega) (by omega)) HH1.out _).mono ?_
  rintro e w2 ⟨u2, rfl, hm⟩
  obtain ⟨A2, c2, rfl, _⟩ := fml_slice hm.fml
  have HP2 := Lib.hid (HP1.out.ext hm.ext)
  have HQ2 := Lib.hid hm.fml
  have HX2 := Lib.hid (HX1.out.trans hm.ext)
  clear hm HP1
  go_wp2_with fail
  refine (rKnow_any 0 ok_z (head_9 (by omega) (by omega)) _ _ _ HP2.out).mono ?_
  rintro e w3 ⟨u3, rfl, hm⟩
  obtain ⟨A3, c3, rfl, _⟩ := fml_slice hm.fml
  have HP3 := Lib.hid (HP2.out.ext hm.ext)
  have HQ3 := Lib.hid (HQ2.out.ext hm.ext)
  have HK3 := Lib.hid hm.fml
  have HX3 := Lib.hid (HX2.out.trans hm.ext)
  clear hm HP2 HQ2
  go_wp2_with fail
  refine (base_any _ _ _ HK3.out).mono ?_
  rintro e w4 ⟨u4, rfl, hx, hr⟩
  obtain ⟨A4, c4, rfl⟩ := frow_slice hr
  rw [show (baseN (knowN 0 (factN 0))).2 = 0 from ex_base.1, show (baseN (knowN 0 (factN 0))).1.length = 2 from ex_base.2]
  have HP4 := Lib.hid (HP3.out.ext hx)
  have HQ4 := Lib.hid (HQ3.out.ext hx)
  have HK4 := Lib.hid (HK3.out.ext hx)
  have HX4 := Lib.hid (HX3.out.trans hx)
  clear hx hr HP3 HQ3 HK3
  go_wp2_with fail
  refine (rKnow_any 0 ok_z (head_9 (by omega) (by omega)) _ _ _ HP4.out).mono ?_
  rintro e w5 ⟨u5, rfl, hm⟩
  obtain ⟨A5, c5, rfl, _⟩ := fml_slice hm.fml
  have HP5 := Lib.hid (HP4.out.ext hm.ext)
  have HQ5 := Lib.hid (HQ4.out.ext hm.ext)
  have HK5 := Lib.hid hm.fml
  have HX5 := Lib.hid (HX4.out.trans hm.ext)
  clear hm HP4 HQ4
  go_wp2_with fail
  refine (rNot_any _ _ _ HP5.out).mono ?_
  rintro e w6 ⟨u6, rfl, hm⟩
  obtain ⟨A6, c6, rfl, _⟩ := fml_slice hm.fml
  have HP6 := Lib.hid (HP5.out.ext hm.ext)
  have HQ6 := Lib.hid (HQ5.out.ext hm.ext)
  have HK6 := Lib.hid (HK5.out.ext hm.ext)
  have HN6 := Lib.hid hm.fml
  have HX6 := Lib.hid (HX5.out.trans hm.ext)
  clear hm HP5 HQ5 HK5
  go_wp2_with fail
  refine (rAnd_any _ _ _ _ _ HK6.out HN6.out).mono ?_
  rintro e w7 ⟨u7, rfl, hm⟩
  obtain ⟨A7, c7, rfl, _⟩ := fml_slice hm.fml
  have HP7 := Lib.hid (HP6.out.ext hm.ext)
  have HQ7 := Lib.hid (HQ6.out.ext hm.ext)
  have HK7 := Lib.hid (HK6.out.ext hm.ext)
  have HN7 := Lib.hid (HN6.out.ext hm.ext)
  have HF7 := Lib.hid hm.fml
  have HX7 := Lib.hid (HX6.out.trans hm.ext)
  clear hm HP6 HQ6 HK6 HN6
  go_wp2_with fail
  refine (sat_any 0 _ _ _ HF7.out).mono ?_
  rintro e w8 ⟨rfl, hx⟩
  rw [show satN 0 (andN (knowN 0 (factN 0)) (notN (factN 0))) = (true, 0) from ex_x]
  have HP8 := Lib.hid (HP7.out.ext hx)
  have HQ8 := Lib.hid (HQ7.out.ext hx)
  have HF8 := Lib.hid (HF7.out.ext hx)
  have HX8 := Lib.hid (HX7.out.trans hx)
  clear hx HP7 HQ7 HF7
  go_wp2_with fail
  refine (sat_any 2 _ _ _ HF8.out).mono ?_
  rintro e w9 ⟨rfl, hx⟩
  rw [show satN 2 (andN (knowN 0 (factN 0)) (notN (factN 0))) = (false, 0) from ex_y]
  have HP9 := Lib.hid (HP8.out.ext hx)
  have HQ9 := Lib.hid (HQ8.out.ext hx)
  have HF9 := Lib.hid (HF8.out.ext hx)
  have HX9 := Lib.hid (HX8.out.trans hx)
  clear hx HP8 HQ8 HF8
  go_wp2_with fail
  refine (rTrue_any _).mono ?_
  rintro e w10 ⟨u10, rfl, hm⟩
  obtain ⟨A10, c10, rfl, _⟩ := fml_slice hm.fml
  have HP10 := Lib.hid (HP9.out.ext hm.ext)
  have HQ10 := Lib.hid (HQ9.out.ext hm.ext)
  have HF10 := Lib.hid (HF9.out.ext hm.ext)
  have HT10 := Lib.hid hm.fml
  have HX10 := Lib.hid (HX9.out.trans hm.ext)
  clear hm HP9 HQ9 HF9
  go_wp2_with fail
  refine (rCommon_any 1 (i64_small (by omega) (by omega)) (head_g 13 (.inr rfl) (by omega) (by omega)) _ _ _ _ _ HT10.out HP10.out).mono ?_
  rintro e w11 ⟨u11, rfl, hm⟩
  obtain ⟨A11, c11, rfl, _⟩ := fml_slice hm.fml
  have HP11 := Lib.hid (HP10.out.ext hm.ext)
  have HQ11 := Lib.hid (HQ10.out.ext hm.ext)
  have HF11 := Lib.hid (HF10.out.ext hm.ext)
  have HT11 := Lib.hid (HT10.out.ext hm.ext)
  have HC11 := Lib.hid hm.fml
  have HX11 := Lib.hid (HX10.out.trans hm.ext)
  clear hm HP10 HQ10 HF10 HT10
  go_wp2_with fail
  refine (rKnow_any 0 ok_z (head_9 (by omega) (by omega)) _ _ _ HP11.out).mono ?_
  rintro e w12 ⟨u12, rfl, hm⟩
  obtain ⟨A12, c12, rfl, _⟩ := fml_slice hm.fml
  have HP12 := Lib.hid (HP11.out.ext hm.ext)
  have HQ12 := Lib.hid (HQ11.out.ext hm.ext)
  have HF12 := Lib.hid (HF11.out.ext hm.ext)
  have HC12 := Lib.hid (HC11.out.ext hm.ext)
  have HK12 := Lib.hid hm.fml
  have HX12 := Lib.hid (HX11.out.trans hm.ext)
  clear hm HP11 HQ11 HF11 HC11
  go_wp2_with fail
  refine (rNot_any _ _ _ HK12.out).mono ?_
  rintro e w13 ⟨u13, rfl, hm⟩
  obtain ⟨A13, c13, rfl, _⟩ := fml_slice hm.fml
  have HP13 := Lib.hid (HP12.out.ext hm.ext)
  have HQ13 := Lib.hid (HQ12.out.ext hm.ext)
  have HF13 := Lib.hid (HF12.out.ext hm.ext)
  have HC13 := Lib.hid (HC12.out.ext hm.ext)
  have HK13 := Lib.hid (HK12.out.ext hm.ext)
  have HN13 := Lib.hid hm.fml
  have HX13 := Lib.hid (HX12.out.trans hm.ext)
  clear hm HP12 HQ12 HF12 HC12 HK12
  go_wp2_with fail
  refine (rAnd_any _ _ _ _ _ HC13.out HN13.out).mono ?_
  rintro e w14 ⟨u14, rfl, hm⟩
  obtain ⟨A14, c14, rfl, _⟩ := fml_slice hm.fml
  have HP14 := Lib.hid (HP13.out.ext hm.ext)
  have HQ14 := Lib.hid (HQ13.out.ext hm.ext)
  have HF14 := Lib.hid (HF13.out.ext hm.ext)
  have HC14 := Lib.hid (HC13.out.ext hm.ext)
  have HN14 := Lib.hid (HN13.out.ext hm.ext)
  have HZ14 := Lib.hid hm.fml
  have HX14 := Lib.hid (HX13.out.trans hm.ext)
  clear hm HP13 HQ13 HF13 HC13 HN13
  go_wp2_with fail
  refine (sat_any 0 _ _ _ HZ14.out).mono ?_
  rintro e w15 ⟨rfl, hx⟩
  rw [show satN 0 (andN (commonN 1 trueN (factN 0)) (notN (knowN 0 (factN 0)))) = (false, 0) from ex_z]
  have HP15 := Lib.hid (HP14.out.ext hx)
  have HQ15 := Lib.hid (HQ14.out.ext hx)
  have HF15 := Lib.hid (HF14.out.ext hx)
  have HZ15 := Lib.hid (HZ14.out.ext hx)
  have HX15 := Lib.hid (HX14.out.trans hx)
  clear hx HP14 HQ14 HF14 HZ14
  go_wp2_with fail
  refine (rCommon_any 1 (i64_small (by omega) (by omega)) (head_g 13 (.inr rfl) (by omega) (by omega)) _ _ _ _ _ HP15.out HQ15.out).mono ?_
  rintro e w16 ⟨u16, rfl, hm⟩
  obtain ⟨A16, c16, rfl, _⟩ := fml_slice hm.fml
  have HP16 := Lib.hid (HP15.out.ext hm.ext)
  have HQ16 := Lib.hid (HQ15.out.ext hm.ext)
  have HF16 := Lib.hid (HF15.out.ext hm.ext)
  have HC16 := Lib.hid hm.fml
  have HX16 := Lib.hid (HX15.out.trans hm.ext)
  clear hm HP15 HQ15 HF15
  go_wp2_with fail
  refine (rNot_any _ _ _ HC16.out).mono ?_
  rintro e w17 ⟨u17, rfl, hm⟩
  obtain ⟨A17, c17, rfl, _⟩ := fml_slice hm.fml
  have HP17 := Lib.hid (HP16.out.ext hm.ext)
  have HQ17 := Lib.hid (HQ16.out.ext hm.ext)
  have HF17 := Lib.hid (HF16.out.ext hm.ext)
  have HC17 := Lib.hid (HC16.out.ext hm.ext)
  have HN17 := Lib.hid hm.fml
  have HX17 := Lib.hid (HX16.out.trans hm.ext)
  clear hm HP16 HQ16 HF16 HC16
  go_wp2_with fail
  refine (rAnd_any _ _ _ _ _ HP17.out HN17.out).mono ?_
  rintro e w18 ⟨u18, rfl, hm⟩
  obtain ⟨A18, c18, rfl, _⟩ := fml_slice hm.fml
  have HP18 := Lib.hid (HP17.out.ext hm.ext)
  have HQ18 := Lib.hid (HQ17.out.ext hm.ext)
  have HF18 := Lib.hid (HF17.out.ext hm.ext)
  have HN18 := Lib.hid (HN17.out.ext hm.ext)
  have HZ18 := Lib.hid hm.fml
  have HX18 := Lib.hid (HX17.out.trans hm.ext)
  clear hm HP17 HQ17 HF17 HN17
  go_wp2_with fail
  refine (sat_any 6 _ _ _ HZ18.out).mono ?_
  rintro e w19 ⟨rfl, hx⟩
  rw [show satN 6 (andN (factN 0) (notN (commonN 1 (factN 0) (factN 1)))) = (true, 0) from ex_w]
  have HP19 := Lib.hid (HP18.out.ext hx)
  have HQ19 := Lib.hid (HQ18.out.ext hx)
  have HF19 := Lib.hid (HF18.out.ext hx)
  have HZ19 := Lib.hid (HZ18.out.ext hx)
  have HX19 := Lib.hid (HX18.out.trans hx)
  clear hx HP18 HQ18 HF18 HZ18
  go_wp2_with fail
  refine (checkT_any 2 _ [] [] _ _ _ HF19.out ⟨_, _, rfl, u64s_nil _, Ints.none_ _⟩ (by simp)).mono ?_
  rintro e w20 ⟨rfl, hx⟩
  rw [show checkT 2 (andN (knowN 0 (factN 0)) (notN (factN 0))) [] [] = 0 from ex_chk2]
  have HP20 := Lib.hid (HP19.out.ext hx)
  have HQ20 := Lib.hid (HQ19.out.ext hx)
  have HF20 := Lib.hid (HF19.out.ext hx)
  have HX20 := Lib.hid (HX19.out.trans hx)
  clear hx HP19 HQ19 HF19
  go_wp2_with fail
  refine (checkT_any 0 _ [] [] _ _ _ HF20.out ⟨_, _, rfl, u64s_nil _, Ints.none_ _⟩ (by simp)).mono ?_
  rintro e w21 ⟨rfl, hx⟩
  rw [show checkT 0 (andN (knowN 0 (factN 0)) (notN (factN 0))) [] [] = 13 from ex_chk0]
  have HP21 := Lib.hid (HP20.out.ext hx)
  have HQ21 := Lib.hid (HQ20.out.ext hx)
  have HF21 := Lib.hid (HF20.out.ext hx)
  have HX21 := Lib.hid (HX20.out.trans hx)
  clear hx HP20 HQ20 HF20
  go_wp2_with fail
  go_ret
  exact ⟨rfl, HX21.out⟩
end Go.Proofs.YtbfeodammikajaaGreat

/- The law TypesSound: the walk. -/

namespace Go.Proofs.YtbfeodammikajaaGreat
open Go.RowKit

set_option maxRecDepth 100000 in
set_option maxHeartbeats 16000000 in
theorem typesSound_any (v vm ve : Value) (f : List Nd) (md : Md) (lg : Int) (ts : List Nat) (ws : List Int) (w : World) (h : Fml w v f) (hm : MdV w vm md) (hok : md.ok) (he : Elm w ve lg ts ws) (hws : ∀ i ∈ ws, i64ok i) :
    Calls Tryz.prog 5 #[v, vm, ve] w fun e w' => e = .returned (.bool true) ∧ Ext w w' := by
  have H := Lib.hid h
  have HM := Lib.hid hm
  have HOK := Lib.hid hok
  have HE := Lib.hid he
  have HWS := Lib.hid hws
  obtain ⟨A, c, rfl, _⟩ := fml_slice h
  obtain ⟨vv, vr, rfl, ⟨Av, cv, rfl, _⟩, ⟨Ar, cr, rfl, _⟩⟩ := hm
  obtain ⟨vt, vw, rfl, ⟨At, ct, rfl, _⟩, ⟨Aw, cw, rfl, _⟩⟩ := he
  obtain ⟨W0, hW0⟩ : ∃ W, W = (w.alloc (.cells #[.int .i64 md.n, .slice Av md.val.length cv, .slice Ar md.rel.length cr] 38)).alloc (.cells #[.int .i64 lg, .slice At ts.length ct, .slice Aw ws.length cw] 30) := ⟨_, rfl⟩
  have HX00 := Lib.hid (show Ext w W0 by rw [hW0]; exact ((Ext.refl _).alloc _).alloc _)
  obtain ⟨b, hb⟩ : ∃ b, b = w.heap.size := ⟨_, rfl⟩
  have HBM := Lib.hid (show W0.heap[b]? = some (.cells #[.int .i64 md.n, .slice Av md.val.length cv, .slice Ar md.rel.length cr] 38 (0, 0)) by rw [hW0, hb]; exact (((Ext.refl _).alloc _).block (by simp)).trans (heap_alloc_new _ _))
  have HBE := Lib.hid (show W0.heap[b + 1]? = some (.cells #[.int .i64 lg, .slice At ts.length ct, .slice Aw ws.length cw] 30 (0, 0)) by
    have h1 := heap_alloc_new (w.alloc (.cells #[.int .i64 md.n, .slice Av md.val.length cv, .slice Ar md.rel.length cr] 38)) (.cells #[.int .i64 lg, .slice At ts.length ct, .slice Aw ws.length cw] 30)
    rw [hW0, hb]
    simpa using h1)
  have HS0 := Lib.hid (show b + 1 < W0.heap.size from lt_heap HBE.out)
  have H1 := Lib.hid (H.out.ext HX00.out)
  have HM1 := Lib.hid (HM.out.ext HX00.out)
  have HE1 := Lib.hid (HE.out.ext HX00.out)
  obtain ⟨e0, e1, e2, eb⟩ := cells3y HBM.out
  obtain ⟨d0, d1, d2, db⟩ := cells3y HBE.out
  obtain ⟨fw, hfw⟩ : ∃ fw, fw = fewB f 6 := ⟨_, rfl⟩
  have HFW := Lib.hid hfw
  clear h hok hws hfw
  go_enter Tryz.func5, Tryz.ntmps5
  go_upto_region 1 with (fail)
  rw [← hW0, ← hb]
  clear hW0 hb
  go_wp2_with fail
  refine (few_any _ f 6 _ H1.out).mono ?_
  rintro e w1 ⟨rfl, hx⟩
  rw [← HFW.out]
  have HX1 := Lib.hid hx
  clear hx HFW
  cases fw
  · go_wp2_with fail
    refine (awake_any _).mono ?_
    rintro e w9 ⟨rfl, hx⟩
    have HX9 := Lib.hid (HX1.out.trans hx)
    clear hx
    go_wp2_with fail
    go_ret
    exact ⟨rfl, HX00.out.trans HX9.out⟩
  have hsz := HS0.out
  have sb1 := HX1.out.size
  obtain ⟨e0, e1, e2, eb⟩ := cells3y ((HX1.out.block (lt_heap HBM.out)).trans HBM.out)
  obtain ⟨d0, d1, d2, db⟩ := cells3y ((HX1.out.block (lt_heap HBE.out)).trans HBE.out)
  go_wp2_with fail
  refine (few13_any _ md 8 _ (HM1.out.ext HX1.out)).mono ?_
  rintro e w2 ⟨b1, rfl, hx⟩
  have HX2 := Lib.hid (HX1.out.trans hx)
  clear hx
  cases b1
  · go_wp2_with fail
    refine (awake_any _).mono ?_
    rintro e w9 ⟨rfl, hx⟩
    have HX9 := Lib.hid (HX2.out.trans hx)
    clear hx
    go_wp2_with fail
    go_ret
    exact ⟨rfl, HX00.out.trans HX9.out⟩
  have sb2 := HX2.out.size
  obtain ⟨e0, e1, e2, eb⟩ := cells3y ((HX2.out.block (lt_heap HBM.out)).trans HBM.out)
  obtain ⟨d0, d1, d2, db⟩ := cells3y ((HX2.out.block (lt_heap HBE.out)).trans HBE.out)
  go_wp2_with fail
  refine (in15_any _ md lg _ (HM1.out.ext HX2.out) HOK.out).mono ?_
  rintro e w3 ⟨b2, rfl, hx, hgood⟩
  have HX3 := Lib.hid (HX2.out.trans hx)
  clear hx
  cases b2
  · go_wp2_with fail
    refine (awake_any _).mono ?_
    rintro e w9 ⟨rfl, hx⟩
    have HX9 := Lib.hid (HX3.out.trans hx)
    clear hx
    go_wp2_with fail
    go_ret
    exact ⟨rfl, HX00.out.trans HX9.out⟩
  have HGD := Lib.hid (hgood.out.1 rfl)
  clear hgood
  have sb3 := HX3.out.size
  obtain ⟨e0, e1, e2, eb⟩ := cells3y ((HX3.out.block (lt_heap HBM.out)).trans HBM.out)
  obtain ⟨d0, d1, d2, db⟩ := cells3y ((HX3.out.block (lt_heap HBE.out)).trans HBE.out)
  by_cases ht40 : 40 < ts.length
  · have h40 : (40 : Int) < (ts.length : Int) := by omega
    go_wp2_with fail
    refine (awake_any _).mono ?_
    rintro e w9 ⟨rfl, hx⟩
    have HX9 := Lib.hid (HX3.out.trans hx)
    clear hx
    go_wp2_with fail
    go_ret
    exact ⟨rfl, HX00.out.trans HX9.out⟩
  have h40 : ¬ (40 : Int) < (ts.length : Int) := by omega
  go_wp2_with fail
  refine (holds17_any _ _ md f _ (HM1.out.ext HX3.out) HOK.out (H1.out.ext HX3.out)).mono ?_
  rintro e w4 ⟨rfl, hx⟩
  have HX4 := Lib.hid (HX3.out.trans hx)
  clear hx
  obtain ⟨he, hhe⟩ : ∃ he, he = holdE md f := ⟨_, rfl⟩
  obtain ⟨hs, hhs⟩ : ∃ s, s = hold17 md f := ⟨_, rfl⟩
  have HHS := Lib.hid hhs
  rw [← hhe, ← hhs]
  clear hhe hhs
  by_cases hz : he = 0
  case neg =>
    have hz1 : (he == 0) = false := by rw [beq_eq_false_iff_ne]; exact hz
    go_wp2_with fail
    refine (awake_any _).mono ?_
    rintro e w9 ⟨rfl, hx⟩
    have HX9 := Lib.hid (HX4.out.trans hx)
    clear hx
    go_wp2_with fail
    go_ret
    exact ⟨rfl, HX00.out.trans HX9.out⟩
  subst hz
  by_cases hs0 : hs = 0
  · subst hs0
    go_wp2_with fail
    refine (awake_any _).mono ?_
    rintro e w9 ⟨rfl, hx⟩
    have HX9 := Lib.hid (HX4.out.trans hx)
    clear hx
    go_wp2_with fail
    go_ret
    exact ⟨rfl, HX00.out.trans HX9.out⟩
  have hs1 : ((hs : Int) == 0) = false := by rw [beq_eq_false_iff_ne]; omega
  have HNZ := Lib.hid (show hold17 md f ≠ 0 by rw [← HHS.out]; exact hs0)
  have HER := Lib.hid (sound_err HGD.out.lgr HNZ.out)
  clear HHS hs0
  have sb4 := HX4.out.size
  obtain ⟨e0, e1, e2, eb⟩ := cells3y ((HX4.out.block (lt_heap HBM.out)).trans HBM.out)
  obtain ⟨d0, d1, d2, db⟩ := cells3y ((HX4.out.block (lt_heap HBE.out)).trans HBE.out)
  obtain ⟨er, her⟩ : ∃ er, er = engErr lg f := ⟨_, rfl⟩
  have HEE := Lib.hid her
  rw [← her] at HER
  clear her
  by_cases he0 : er = 0
  · subst he0
    have HPL := Lib.hid (sound_plain HGD.out HNZ.out HEE.out.symm)
    have HSO := Lib.hid (show satN lg f = (true, 0) by rw [sat_ok HEE.out.symm, HPL.out.1])
    obtain ⟨ct1, hct⟩ : ∃ z, z = checkT lg f ts ws := ⟨_, rfl⟩
    have HCT := Lib.hid hct
    have hc1 : (ct1 != 0) = true := by rw [bne_iff_ne, hct]; exact HPL.out.2 ts ws
    clear hct
    go_wp2_with fail
    refine (sat_any lg _ f _ (H1.out.ext HX4.out)).mono ?_
    rintro e w5 ⟨rfl, hx⟩
    rw [HSO.out]
    have HX5 := Lib.hid (HX4.out.trans hx)
    clear hx
    have sb5 := HX5.out.size
    obtain ⟨e0, e1, e2, eb⟩ := cells3y ((HX5.out.block (lt_heap HBM.out)).trans HBM.out)
    obtain ⟨d0, d1, d2, db⟩ := cells3y ((HX5.out.block (lt_heap HBE.out)).trans HBE.out)
    go_wp2_with fail
    refine (checkT_any lg _ ts ws _ f _ (H1.out.ext HX5.out) (HE1.out.ext HX5.out) HWS.out).mono ?_
    rintro e w6 ⟨rfl, hx⟩
    rw [← HCT.out]
    have HX6 := Lib.hid (HX5.out.trans hx)
    clear hx
    go_wp2_with fail
    refine (awake_any _).mono ?_
    rintro e w9 ⟨rfl, hx⟩
    have HX9 := Lib.hid (HX6.out.trans hx)
    clear hx
    go_wp2_with fail
    go_ret
    exact ⟨rfl, HX00.out.trans HX9.out⟩
  · have HSO := Lib.hid (show satN lg f = (false, er) by rw [sat_err (by rw [← HEE.out]; exact he0), HEE.out])
    have h10 : er = 10 ∨ er = 8 := HER.out.resolve_left he0
    go_wp2_with fail
    refine (sat_any lg _ f _ (H1.out.ext HX4.out)).mono ?_
    rintro e w5 ⟨rfl, hx⟩
    rw [HSO.out]
    have HX5 := Lib.hid (HX4.out.trans hx)
    clear hx he0
    rcases h10 with rfl | rfl
    · go_wp2_with fail
      refine (awake_any _).mono ?_
      rintro e w9 ⟨rfl, hx⟩
      have HX9 := Lib.hid (HX5.out.trans hx)
      clear hx
      go_wp2_with fail
      go_ret
      exact ⟨rfl, HX00.out.trans HX9.out⟩
    · go_wp2_with fail
      refine (awake_any _).mono ?_
      rintro e w9 ⟨rfl, hx⟩
      have HX9 := Lib.hid (HX5.out.trans hx)
      clear hx
      go_wp2_with fail
      go_ret
      exact ⟨rfl, HX00.out.trans HX9.out⟩
end Go.Proofs.YtbfeodammikajaaGreat

/- TypesSound: a formula that is true at a world of a model of the logic is satisfiable, and no elimination of it is accepted: for every formula, model and elimination. -/

namespace Go.Proofs.YtbfeodammikajaaGreat
open Go.ChangeShapes Go.WideShapes Go.ChangeAt Go.RowKit Go.Joins

theorem laidOutP : laidOutB Tryz.prog = true := by kernel_rfl
theorem own : ownKnob Tryz.prog.godebug = none := by kernel_rfl
set_option maxRecDepth 100000 in
theorem typesSound_lifted (os : Os) (started : os.Started) (H : Type) (enc : TypeId × Value → H) :
    ReturnsInHanded {} Tryz.checked os 5 .any (Rows.typesSoundSpec.pre6 enc Tryz.prog Tryz.f5 Rows.typesSoundRow.domain false)
      (Rows.typesSoundSpec.post enc Tryz.prog Tryz.f5 false true false false) := by
  refine returnsInHanded_of_change (C := Tryz.checked) own started (by kernel_rfl) Tryz.func5
    (ChangeSpec.witness6 (enc := enc) (C := Tryz.checked) false ⟨#[], #[.slice none 0 0, .agg #[.int .i64 0, .slice none 0 0, .slice none 0 0], .agg #[.int .i64 0, .slice none 0 0, .slice none 0 0]], []⟩ 8 (by kernel_rfl) (by kernel_rfl) (by kernel_rfl) (by kernel_rfl)) ?_
  intro W base args ds gs before hval0 hW hcnd _
  have hval : ∀ (j : Nat) t v, Tryz.f5.params[j]? = some t → args[j]? = some v → Value.okWide Tryz.prog W .any base t v := hval0
  have hW' := hW
  obtain ⟨p, q, hA0, hV, rfl, hfz, hnd⟩ := hW
  have hA : DataW.TrodAll enc Tryz.prog W 0 (fun _ => true) true Tryz.f5.params.toList args.toList ds p := hA0
  rw [Tryz.params5] at hA hval
  obtain ⟨v0, vs0, d0, ds0, p0, q0, hargs, rfl, rfl, h0, r0⟩ := trodAll_cons hA
  obtain ⟨v1, vs1, d1, ds1, p1, q1, rfl, rfl, rfl, h1, r1⟩ := trodAll_cons r0
  obtain ⟨v2, vs2, d2, ds2, p2, q2, rfl, rfl, rfl, h2, r2⟩ := trodAll_cons r1
  obtain ⟨rfl, rfl, rfl⟩ := trodAll_nil r2
  obtain rfl : args = #[v0, v1, v2] := by cases args; simp_all
  obtain ⟨rfl, rfl⟩ := trodVars_none hV
  obtain ⟨f0, hf0⟩ := fml_of_arg h0 (okWide_slice Tryz.underlying22 (hval 0 22 v0 rfl rfl))
  obtain ⟨md1, hm1, mo1⟩ := md_of_arg (hval 1 38 v1 rfl rfl) h1
  obtain ⟨lg2, ts2, ws2, he2, ho2⟩ := elm_of_arg (hval 2 30 v2 rfl rfl) h2
  simp only [List.append_nil] at hW'
  clear hA0 hval0
  refine (typesSound_any _ _ _ f0 md1 lg2 ts2 ws2 _ hf0 hm1 mo1 he2 ho2).mono ?_
  rintro e W' ⟨rfl, hx⟩
  have hlt : ∀ x ∈ p0 ++ (p1 ++ p2), x.block < W.heap.size := fun x hx' => hW'.lt x hx'
  refine ⟨_, rfl, post_of_below (pa := p0 ++ (p1 ++ p2)) (pv := []) hW' (fun _ _ _ => trodAll_mk1 (shut_bool Tryz.underlying4 _)) (fun sp hsp => ?_) (fun _ _ => rfl) (by simp) hx (ok_one (by kernel_rfl) rfl (okWide_bool_mk Tryz.underlying4 _))⟩
  have ht := (trodAll_cons_mk (WideElems.Trod_stays laidOutP (by kernel_rfl) (of_decide_eq_true (by kernel_rfl)) h0 (fun x hx' => hx.same (hlt x (List.mem_append.2 (Or.inl hx')))) (fun x hx' => hsp x (List.mem_append.2 (Or.inl hx')))) (trodAll_cons_mk (WideElems.Trod_stays laidOutP (by kernel_rfl) (of_decide_eq_true (by kernel_rfl)) h1 (fun x hx' => hx.same (hlt x (List.mem_append.2 (Or.inr (List.mem_append.2 (Or.inl hx')))))) (fun x hx' => hsp x (List.mem_append.2 (Or.inr (List.mem_append.2 (Or.inl hx')))))) (trodAll_cons_mk (WideElems.Trod_stays laidOutP (by kernel_rfl) (of_decide_eq_true (by kernel_rfl)) h2 (fun x hx' => hx.same (hlt x (List.mem_append.2 (Or.inr (List.mem_append.2 (Or.inr hx')))))) (fun x hx' => hsp x (List.mem_append.2 (Or.inr (List.mem_append.2 (Or.inr hx')))))) trodAll_mk0)))
  simp only [List.append_nil] at ht
  exact ht
theorem typesSound_said : Rows.TypesSoundSaid :=
  OpenClaim.holds_of_wide 5 Tryz.f5 rfl rfl rfl rfl rfl rfl rfl ⟨rfl, rfl, rfl, rfl, rfl⟩ rfl rfl rfl rfl rfl (by kernel_rfl) Tryz.func5 (by kernel_rfl)
    (of_decide_eq_true (by kernel_rfl)) (by unfold Func.isWrapper; first | (rw [if_pos (by decide +kernel)]; kernel_rfl) | (rw [if_neg (by decide +kernel)]; exact ⟨rfl, rfl⟩))
    (fun os started H enc _ => typesSound_lifted os started H enc)
end Go.Proofs.YtbfeodammikajaaGreat
