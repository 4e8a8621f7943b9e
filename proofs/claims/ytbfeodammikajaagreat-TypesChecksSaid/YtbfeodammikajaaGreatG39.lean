/- The reference of types: open. -/
import Derived.Test.YtbfeodammikajaaGreatG37
import Derived.Test.YtbfeodammikajaaGreatG38
import Derived.Test.YtbfeodammikajaaGreatG26
import Derived.Test.YtbfeodammikajaaGreatG19

namespace Go.Proofs.YtbfeodammikajaaGreat
open Go.RowKit

theorem at_none (base : List (List Nd)) (k : Nat) (h : (topN base k).op ≠ 9) : bodyN base k = [] := by
  unfold bodyN
  rw [show ((topN base k).op == 9) = false by simpa using h]; rfl
theorem at_none2 (base : List (List Nd)) (k : Nat) (h : (topN base k).op ≠ 13) : condN base k = [] ∧ lastT base k = [] := by
  unfold condN lastT
  rw [show ((topN base k).op == 13) = false by simpa using h]; exact ⟨rfl, rfl⟩
set_option maxRecDepth 100000 in
set_option maxHeartbeats 64000000 in
theorem ropen_any (lg : Int) (vb : Value) (base : List (List Nd)) (w : World) (hb : Fmls w vb base) (hbl : base.length ≤ 12) (hok : SpcOk base) :
    Calls Tryz.prog 68 #[.int .i64 lg, vb] w fun e w' => ∃ s, e = .returned (.pointer (some ⟨s, 0, none⟩)) ∧ Ext w w' ∧ SpcAt w' s lg base := by
  have HFMS := Lib.hid hb
  have HOK := Lib.hid hok
  obtain ⟨iN, hiN, hzN0, hzN1, hzN2⟩ := info_parts tInfo
  obtain ⟨iS, hiS, hzS0, hzS1, hzS2⟩ := info_parts tInfoBs
  have HNDS := Lib.hid (show ∀ k, k < base.length → (topN base k).ok from fun k hk => by
    obtain ⟨_, _, _, _, _, hbr⟩ := hb
    obtain ⟨ad, _, _, hbc⟩ := hbr (by intro e; rw [e] at hk; simp at hk)
    obtain ⟨u, _, hfm⟩ := hbc k (base.getD k []) (by rw [List.getD_eq_getElem?_getD, List.getElem?_eq_getElem hk]; rfl)
    exact hfm.2 _ (List.mem_of_getElem? (lastN_get (hok.pos k hk))))
  obtain ⟨Ab, cb, rfl, hbc1, hbm, hbr⟩ := hb
  have HBR := Lib.hid hbr
  clear hok hbr
  go_enter Tryz.func68, Tryz.ntmps68
  go_upto_region 2 with (fail)
  obtain ⟨W0, hW0⟩ : ∃ W, W = w.alloc (.cells #[.int .i64 lg, .slice Ab base.length cb, .slice none 0 0, .slice none 0 0, .slice none 0 0, .slice none 0 0] 108) := ⟨_, rfl⟩
  have HO0 := Lib.hid (show OpI w W0 w.heap.size lg base (fun _ => 0) (fun _ => .slice none 0 0) by rw [hW0]; exact OpI.start ((Ext.refl _).alloc _) (Nat.le_refl _) (heap_alloc_new _ _) HFMS.out)
  rw [← hW0]
  clear hW0
  obtain ⟨s, hs⟩ : ∃ s, s = w.heap.size := ⟨_, rfl⟩
  have HO1 := Lib.hid (show OpI w W0 s lg base (fun _ => 0) (fun _ => .slice none 0 0) by rw [hs]; exact HO0.out)
  rw [← hs]
  clear hs HO0
  go_wp2_with fail
  go_loopw [18] (fun v wr => ∃ k : Nat, v = .int .i64 (k : Int) ∧ k ≤ base.length ∧ Hid (∃ n v, OpI w wr s lg base n v ∧ ∀ i, i < 4 → n i = k)) (fun v _ => base.length - (intOf v).toNat)
  case atStart => exact ⟨0, rfl, Nat.zero_le _, Lib.hid ⟨_, _, HO1.out, fun _ _ => rfl⟩⟩
  case round =>
    clear HO1
    obtain ⟨k, rfl, hk, HREL⟩ := hrel
    by_cases hlt2 : k < base.length
    · have hk1 : (k : Int) < (base.length : Int) := by omega
      obtain ⟨nn, vv, hoi, hni⟩ := HREL.out
      have HO := Lib.hid hoi
      have HNI := Lib.hid hni
      have HX := Lib.hid hoi.ext
      clear HREL hoi hni
      obtain ⟨f, hf⟩ : ∃ f, f = base.getD k [] := ⟨_, rfl⟩
      have hf0 : 0 < f.length := by rw [hf]; exact HOK.out.pos k hlt2
      obtain ⟨ad, rfl, hadl, hbc⟩ := HBR.out (by intro e; rw [e] at hlt2; simp at hlt2)
      obtain ⟨u, hu, hfm⟩ := hbc k f (by rw [hf, List.getD_eq_getElem?_getD, List.getElem?_eq_getElem hlt2]; rfl)
      obtain ⟨Au, cu, rfl, _⟩ := fml_slice hfm
      have u0 := (HX.out.cell (p := ad.add k) (by rw [block_of_add]; exact hadl)).trans hu
      have adl : (ad.add k).block < wr.heap.size := by rw [block_of_add]; exact Nat.lt_of_lt_of_le hadl HX.out.size
      have HF := Lib.hid (hfm.ext HX.out)
      have HFE := Lib.hid hf
      clear hf hu hfm hbc
      go_wp2_with fail
      refine (rtop_any _ f _ HF.out hf0).mono ?_
      rintro e w2 ⟨rfl, hx2⟩
      have HX2 := Lib.hid hx2
      obtain ⟨n, hn⟩ : ∃ n, n = lastN f := ⟨_, rfl⟩
      rw [← hn]
      unfold Nd.val
      have HN := Lib.hid (show n = topN base k by rw [hn, HFE.out]; rfl)
      clear hx2 hn u0 adl
      go_upto_region 6 with (fail)
      obtain ⟨W3, hW3⟩ : ∃ W, W = w2.alloc (.cells #[.int .i64 n.op, .int .i64 n.i, .int .i64 n.e, .int .i64 n.g, .int .i64 n.x, .int .i64 n.y] 93) := ⟨_, rfl⟩
      have HX3 := Lib.hid (show Ext wr W3 by rw [hW3]; exact HX2.out.alloc _)
      obtain ⟨x0, x1, x2, x3, x4, x5, xl⟩ := cells6t (w := W3) (b := w2.heap.size) (by rw [hW3]; exact heap_alloc_new _ _)
      rw [← hW3]
      obtain ⟨xb, hxb⟩ : ∃ b, b = w2.heap.size := ⟨_, rfl⟩
      have HOX := Lib.hid (show OpI w W3 s lg base nn vv ∧ ∀ i, i < 4 → (vv i).ownBlock ≠ some xb from ⟨HO.out.next HX3.out, fun i hi e => by have h1 := (HO.out.rlt hi e).2; have h2 := HX2.out.size; omega⟩)
      have HSX := Lib.hid (show s ≠ xb from fun e => by have h1 := HO.out.slt; have h2 := HX2.out.size; omega)
      rw [← hxb] at x0 x1 x2 x3 x4 x5 xl ⊢
      have XC := Lib.hid (show xb < W3.heap.size ∧ W3.cell? ⟨xb, 0, none⟩ = some (.int .i64 n.op) ∧ W3.cell? ⟨xb, 1, none⟩ = some (.int .i64 n.i) ∧ W3.cell? ⟨xb, 2, none⟩ = some (.int .i64 n.e) ∧ W3.cell? ⟨xb, 3, none⟩ = some (.int .i64 n.g) ∧ W3.cell? ⟨xb, 4, none⟩ = some (.int .i64 n.x) ∧ W3.cell? ⟨xb, 5, none⟩ = some (.int .i64 n.y) from ⟨xl, x0, x1, x2, x3, x4, x5⟩)
      clear hxb hW3
      by_cases h9 : n.op = 9
      · have HB := Lib.hid (show bodyN base k = tabN base (subN f n.x) by unfold bodyN; rw [← HN.out, h9, ← HFE.out]; rfl)
        have HC9 := Lib.hid (show check (subN f n.x) = 0 by rw [HFE.out, HN.out]; exact HOK.out.ck9 k hlt2 (by rw [← HN.out]; exact h9))
        have HNO := Lib.hid (at_none2 base k (by rw [← HN.out, h9]; decide))
        rw [h9] at x0
        go_wp2_with fail
        refine (refSub_any _ f n.x _ (HF.out.ext (HX3.out.trans (Ext.refl W3)))).mono ?_
        rintro e w4 ⟨uw4, rfl, hm⟩
        have HM4 := Lib.hid hm
        have HX4 := Lib.hid ((Ext.refl W3).trans hm.ext)
        obtain ⟨As, cs4, rfl, _⟩ := fml_slice hm.fml
        clear hm
        go_wp2_with fail
        refine (column_any _ _ base (subN f n.x) _ (HFMS.out.ext (HX.out.trans (HX3.out.trans HX4.out))) HM4.out.fml HC9.out hbl).mono ?_
        rintro e w5 ⟨vw5, rfl, hx, hmb⟩
        have HX5 := Lib.hid (HX4.out.trans hx)
        have HM5 := Lib.hid hmb
        obtain ⟨A5, c5, rfl⟩ := slice_of_row hmb
        have HCw5 := Lib.hid hx
        clear hx hmb
        clear x0 x1 x2 x3 x4 x5 xl
        have x0 := (HX5.out.cell (p := ⟨xb, 0, none⟩) XC.out.1).trans XC.out.2.1
        have x1 := (HX5.out.cell (p := ⟨xb, 1, none⟩) XC.out.1).trans XC.out.2.2.1
        have x2 := (HX5.out.cell (p := ⟨xb, 2, none⟩) XC.out.1).trans XC.out.2.2.2.1
        have x3 := (HX5.out.cell (p := ⟨xb, 3, none⟩) XC.out.1).trans XC.out.2.2.2.2.1
        have x4 := (HX5.out.cell (p := ⟨xb, 4, none⟩) XC.out.1).trans XC.out.2.2.2.2.2.1
        have x5 := (HX5.out.cell (p := ⟨xb, 5, none⟩) XC.out.1).trans XC.out.2.2.2.2.2.2
        have xl := Nat.lt_of_lt_of_le XC.out.1 HX5.out.size
        rw [h9] at x0
        have HF1 := Lib.hid ((HOX.out.1.next HX4.out).fresh HM5.out)
        go_upto_region 12 with (fail)
        clear x0 x1 x2 x3 x4 x5 xl
        obtain ⟨W, hWe⟩ : ∃ v, v = w5 := ⟨_, rfl⟩
        have HWX := Lib.hid (show Ext W3 W by rw [hWe]; exact HX5.out)
        have HT0 := Lib.hid (show OpT w W s lg base k (fun i => if i = 1 then (.slice A5 (tabN base (subN f n.x)).length c5) else if i = 2 then (.slice none 0 0) else (.slice none 0 0)) 0 by rw [hWe]; exact OpT.start (HOX.out.1.next HX5.out) HNI.out (by rw [HB.out]; exact HF1.out) (by rw [HNO.out.1]; exact OpI.none_) (by rw [HNO.out.2]; exact OpI.none_))
        have HW2 := Lib.hid (show ∀ v, W.cell? ⟨s, 2, none⟩ = some v → v.ownBlock ≠ some xb from fun v hv => by
          have h1 := (HOX.out.1.next HWX.out).reads.1
          rw [h1] at hv
          injection hv with hv
          rw [← hv]
          exact HOX.out.2 0 (by omega))
        rw [← hWe]
        clear hWe
        obtain ⟨A0, ca0, us0, z2, zo, zl, zf, hxz, zr, _, zst⟩ := HT0.out.at_ (by omega)
        have HZ2 := Lib.hid z2
        have HZO := Lib.hid (show (Value.slice A0 k ca0).ownBlock ≠ some s ∧ (Value.slice A0 k ca0).ownBlock ≠ some xb from ⟨zo, HW2.out _ z2⟩)
        have HZR := Lib.hid (zr rfl)
        have HZS := Lib.hid zst
        have HZX := Lib.hid hxz
        have HZF := Lib.hid zf
        clear zo zf hxz zr zst
        (try clear h9)
        (try clear h13)
        have x0 := (HWX.out.cell (p := ⟨xb, 0, none⟩) XC.out.1).trans XC.out.2.1
        have x1 := (HWX.out.cell (p := ⟨xb, 1, none⟩) XC.out.1).trans XC.out.2.2.1
        have x2 := (HWX.out.cell (p := ⟨xb, 2, none⟩) XC.out.1).trans XC.out.2.2.2.1
        have x3 := (HWX.out.cell (p := ⟨xb, 3, none⟩) XC.out.1).trans XC.out.2.2.2.2.1
        have x4 := (HWX.out.cell (p := ⟨xb, 4, none⟩) XC.out.1).trans XC.out.2.2.2.2.2.1
        have x5 := (HWX.out.cell (p := ⟨xb, 5, none⟩) XC.out.1).trans XC.out.2.2.2.2.2.2
        have xl := Nat.lt_of_lt_of_le XC.out.1 HWX.out.size
        have hlk : k + 1 ≤ maxLen := by unfold maxLen; omega
        refine ordU_region 10 (fun w' => w'.cell? (⟨s, 2, none⟩) = some (.slice A0 k ca0) ∧ w'.cell? (⟨xb, 0, none⟩) = some (.int .i64 n.op) ∧ w'.cell? (⟨xb, 1, none⟩) = some (.int .i64 n.i) ∧ w'.cell? (⟨xb, 2, none⟩) = some (.int .i64 n.e) ∧ w'.cell? (⟨xb, 3, none⟩) = some (.int .i64 n.g) ∧ w'.cell? (⟨xb, 4, none⟩) = some (.int .i64 n.x) ∧ w'.cell? (⟨xb, 5, none⟩) = some (.int .i64 n.y)) (by kernel_rfl) ⟨xd zl z2, xd xl x0, xd xl x1, xd xl x2, xd xl x3, xd xl x4, xd xl x5⟩ (fun hHeld => ?_)
        refine utk 0 hHeld ?_
        refine utk 1 hHeld ?_
        refine utk 2 hHeld ?_
        refine utk 3 hHeld ?_
        refine utk 4 hHeld ?_
        refine utk 5 hHeld ?_
        refine ordU_ready (rs := [6]) (by kernel_rfl) (by simp) ?_
        refine AllU.cons rfl (fun K hK => ?_) AllU.nil
        go_simp
        refine hK.out _ _ ⟨xd zl z2, xd xl x0, xd xl x1, xd xl x2, xd xl x3, xd xl x4, xd xl x5⟩ (fun hHeld => ?_)
        clear hK K
        try simp only [Act.put, List.setIfInBounds_toArray, List.set_cons_zero, List.set_cons_succ, List.getElem_toArray, List.getElem_cons_succ, List.getElem_cons_zero]
        refine ordU_ready (rs := [7]) (by kernel_rfl) (by simp) ?_
        refine AllU.cons rfl (fun K hK => ?_) AllU.nil
        refine step_append_at rfl (.tmp 52) (.tmp 54) 22 rfl w.heap.size 93 iN Nd.zero.val 6 48 Tryz.underlying22 hiN hzN0 hzN1 hzN2 rfl (by decide) (.slice A0 k ca0) k (((List.range k).map (topN base)).flatMap Nd.cells) (by simp [Act.eval]) (row_ext HZR.out xv) ⟨W.heap.size, 0, none⟩ 1 1 n.cells (by simp [Act.eval]) rfl (by exact row_new_at _ _ _ rfl) (node_cells n) (by unfold maxLen; omega) (by omega) (Nat.le_trans HZX.out.size (by simp)) ?_
        intro v7 w7 hown7 hgrow7 hat7
        obtain ⟨A7, c7, hv7⟩ := slice_of_row hown7
        subst hv7
        have ks := grown_blk (w := W.drew) hgrow7 HZO.out.1 zl
        have kx := grown_blk (w := W.drew) hgrow7 HZO.out.2 xl
        have y2 := (blk_cell (p := ⟨s, 2, none⟩) ks).1.trans z2
        have yf := (blk_cell (p := ⟨s, 2, none⟩) ks).2.trans (HZF.out 2)
        have yl : s < w7.heap.size := Nat.lt_of_lt_of_le zl (by have h1 := hgrow7.size; simp at h1; omega)
        have X0 := (blk_cell (p := ⟨xb, 0, none⟩) kx).1.trans x0
        have X1 := (blk_cell (p := ⟨xb, 1, none⟩) kx).1.trans x1
        have X2 := (blk_cell (p := ⟨xb, 2, none⟩) kx).1.trans x2
        have X3 := (blk_cell (p := ⟨xb, 3, none⟩) kx).1.trans x3
        have X4 := (blk_cell (p := ⟨xb, 4, none⟩) kx).1.trans x4
        have X5 := (blk_cell (p := ⟨xb, 5, none⟩) kx).1.trans x5
        have HT1 := Lib.hid (HZS.out W.drew (Ext.refl _).drew w7 _ (.slice A7 (k + 1) c7) hgrow7 hat7 (fun _ => by rw [← HN.out]; exact hown7) (fun e => absurd e (by omega)))
        clear hown7 hgrow7 hat7 ks kx
        refine hK.out _ _ ⟨y2, X0, X1, X2, X3, X4, X5⟩ (fun hHeld => ?_)
        clear hK K
        try simp only [Act.put, List.setIfInBounds_toArray, List.set_cons_zero, List.set_cons_succ, List.getElem_toArray, List.getElem_cons_succ, List.getElem_cons_zero]
        refine ordU_ready (rs := [8]) (by kernel_rfl) (by simp) ?_
        refine AllU.cons rfl (fun K hK => ?_) AllU.nil
        go_simp
        refine hK.out _ _ ⟨y2, X0, X1, X2, X3, X4, X5⟩ (fun hHeld => ?_)
        clear hK K
        try simp only [Act.put, List.setIfInBounds_toArray, List.set_cons_zero, List.set_cons_succ, List.getElem_toArray, List.getElem_cons_succ, List.getElem_cons_zero]
        refine utk 9 hHeld ?_
        refine ordU_last (by kernel_rfl) rfl (fun K hK => ?_)
        go_simp
        refine hK.out _ _ ?_
        clear hK K
        try simp only [Act.put, List.setIfInBounds_toArray, List.set_cons_zero, List.set_cons_succ, List.getElem_toArray, List.getElem_cons_succ, List.getElem_cons_zero]
        refine ordU_done (by kernel_rfl) ?_ _
        obtain ⟨Y, hY⟩ : ∃ Y, Y = w7.setCell ⟨s, 2, none⟩ (.slice A7 (k + 1) c7) := ⟨_, rfl⟩
        have HT1' := Lib.hid (show OpT w Y s lg base k _ 1 by rw [hY]; exact HT1.out)
        rw [← hY]
        clear hY HT1 y2 yf yl X0 X1 X2 X3 X4 X5
        obtain ⟨A1, ca1, us1, z2, zo, zl, zf, hxz, _, zr, zst⟩ := HT1'.out.at_ (by omega)
        have HR1 := Lib.hid (zr (by omega))
        have HS1 := Lib.hid zst
        have HX1 := Lib.hid hxz
        have HO1 := Lib.hid zo
        have ZF1 := Lib.hid zf
        have ZZ1 := Lib.hid z2
        clear zo zf hxz zr zst
        go_wp2_with (at_builtin; refine wpList_append_own_at _ rfl _ _ 106 rfl w.heap.size 61 iS (.slice none 0 0) 1 24 Tryz.underlying106 hiS hzS0 hzS1 hzS2 rfl (by decide) _ k us1 rfl (row_ext HR1.out ((Ext.refl _).alloc _)) ⟨_, 0, none⟩ 1 1 [(.slice A5 (tabN base (subN f n.x)).length c5)] rfl rfl (row_new_at _ _ _ (by simp)) (fun u hu => by rw [List.mem_singleton.1 hu]; rfl) hlk (by omega) (Nat.le_trans HX1.out.size (by simp)) ?_)
        intro v9 w9 hown9 hgrow9 _ hat9
        obtain ⟨A9, c9, hv9⟩ := slice_of_row hown9
        subst hv9
        have ks := grown_blk hgrow9 HO1.out zl
        have y2 := (blk_cell (p := ⟨s, 3, none⟩) ks).1.trans ZZ1.out
        have yf := (blk_cell (p := ⟨s, 3, none⟩) ks).2.trans (ZF1.out 3)
        have yl : s < w9.heap.size := Nat.lt_of_lt_of_le zl (by have h1 := hgrow9.size; simp at h1; omega)
        have HTN := Lib.hid (HS1.out _ (Ext.refl _) w9 _ (.slice A9 (k + 1) c9) hgrow9 (hat9.imp_right fun h => by rw [h]; simp) (fun e => absurd e (by omega)) (fun _ => hown9))
        clear hown9 hgrow9 hat9 ks z2 zl
        go_upto_region 14 with (fail)
        obtain ⟨Y1, hY⟩ : ∃ Y, Y = w9.setCell ⟨s, 3, none⟩ (.slice A9 (k + 1) c9) := ⟨_, rfl⟩
        have HT2' := Lib.hid (show OpT w Y1 s lg base k _ 2 by rw [hY]; exact HTN.out)
        rw [← hY]
        clear hY HTN y2 yf yl
        obtain ⟨A2, ca2, us2, z2, zo, zl, zf, hxz, _, zr, zst⟩ := HT2'.out.at_ (by omega)
        have HR2 := Lib.hid (zr (by omega))
        have HS2 := Lib.hid zst
        have HX2 := Lib.hid hxz
        have HO2 := Lib.hid zo
        have ZF2 := Lib.hid zf
        have ZZ2 := Lib.hid z2
        clear zo zf hxz zr zst
        go_wp2_with (at_builtin; refine wpList_append_own_at _ rfl _ _ 106 rfl w.heap.size 61 iS (.slice none 0 0) 1 24 Tryz.underlying106 hiS hzS0 hzS1 hzS2 rfl (by decide) _ k us2 rfl (row_ext HR2.out ((Ext.refl _).alloc _)) ⟨_, 0, none⟩ 1 1 [(.slice none 0 0)] rfl rfl (row_new_at _ _ _ (by simp)) (fun u hu => by rw [List.mem_singleton.1 hu]; rfl) hlk (by omega) (Nat.le_trans HX2.out.size (by simp)) ?_)
        intro v9 w9 hown9 hgrow9 _ hat9
        obtain ⟨A9, c9, hv9⟩ := slice_of_row hown9
        subst hv9
        have ks := grown_blk hgrow9 HO2.out zl
        have y2 := (blk_cell (p := ⟨s, 4, none⟩) ks).1.trans ZZ2.out
        have yf := (blk_cell (p := ⟨s, 4, none⟩) ks).2.trans (ZF2.out 4)
        have yl : s < w9.heap.size := Nat.lt_of_lt_of_le zl (by have h1 := hgrow9.size; simp at h1; omega)
        have HTN := Lib.hid (HS2.out _ (Ext.refl _) w9 _ (.slice A9 (k + 1) c9) hgrow9 (hat9.imp_right fun h => by rw [h]; simp) (fun e => absurd e (by omega)) (fun _ => hown9))
        clear hown9 hgrow9 hat9 ks z2 zl
        go_upto_region 15 with (fail)
        obtain ⟨Y2, hY⟩ : ∃ Y, Y = w9.setCell ⟨s, 4, none⟩ (.slice A9 (k + 1) c9) := ⟨_, rfl⟩
        have HT3' := Lib.hid (show OpT w Y2 s lg base k _ 3 by rw [hY]; exact HTN.out)
        rw [← hY]
        clear hY HTN y2 yf yl
        obtain ⟨A3, ca3, us3, z2, zo, zl, zf, hxz, _, zr, zst⟩ := HT3'.out.at_ (by omega)
        have HR3 := Lib.hid (zr (by omega))
        have HS3 := Lib.hid zst
        have HX3 := Lib.hid hxz
        have HO3 := Lib.hid zo
        have ZF3 := Lib.hid zf
        have ZZ3 := Lib.hid z2
        clear zo zf hxz zr zst
        go_wp2_with (at_builtin; refine wpList_append_own_at _ rfl _ _ 106 rfl w.heap.size 61 iS (.slice none 0 0) 1 24 Tryz.underlying106 hiS hzS0 hzS1 hzS2 rfl (by decide) _ k us3 rfl (row_ext HR3.out ((Ext.refl _).alloc _)) ⟨_, 0, none⟩ 1 1 [(.slice none 0 0)] rfl rfl (row_new_at _ _ _ (by simp)) (fun u hu => by rw [List.mem_singleton.1 hu]; rfl) hlk (by omega) (Nat.le_trans HX3.out.size (by simp)) ?_)
        intro v9 w9 hown9 hgrow9 _ hat9
        obtain ⟨A9, c9, hv9⟩ := slice_of_row hown9
        subst hv9
        have ks := grown_blk hgrow9 HO3.out zl
        have y2 := (blk_cell (p := ⟨s, 5, none⟩) ks).1.trans ZZ3.out
        have yf := (blk_cell (p := ⟨s, 5, none⟩) ks).2.trans (ZF3.out 5)
        have yl : s < w9.heap.size := Nat.lt_of_lt_of_le zl (by have h1 := hgrow9.size; simp at h1; omega)
        have HTN := Lib.hid (HS3.out _ (Ext.refl _) w9 _ (.slice A9 (k + 1) c9) hgrow9 (hat9.imp_right fun h => by rw [h]; simp) (fun e => absurd e (by omega)) (fun _ => hown9))
        clear hown9 hgrow9 hat9 ks z2 zl
        go_wp2_with fail
        go_roundw
        case rel => exact ⟨k + 1, by go_num, by omega, Lib.hid HTN.out.done⟩
        case measure => simp [intOf]; omega
      · by_cases h13 : n.op = 13
        · have HB := Lib.hid (show condN base k = tabN base (subN f n.x) ∧ lastT base k = tabN base (subN f n.y) by unfold condN lastT; rw [← HN.out, h13, ← HFE.out]; exact ⟨rfl, rfl⟩)
          have HC13 := Lib.hid (show check (subN f n.x) = 0 ∧ check (subN f n.y) = 0 by rw [HFE.out, HN.out]; exact HOK.out.ck13 k hlt2 (by rw [← HN.out]; exact h13))
          have HNO := Lib.hid (at_none base k (by rw [← HN.out, h13]; decide))
          rw [h13] at x0
          go_wp2_with fail
          refine (refSub_any _ f n.x _ (HF.out.ext (HX3.out.trans (Ext.refl W3)))).mono ?_
          rintro e w4 ⟨uw4, rfl, hm⟩
          have HM4 := Lib.hid hm
          have HX4 := Lib.hid ((Ext.refl W3).trans hm.ext)
          obtain ⟨As, cs4, rfl, _⟩ := fml_slice hm.fml
          clear hm
          go_wp2_with fail
          refine (column_any _ _ base (subN f n.x) _ (HFMS.out.ext (HX.out.trans (HX3.out.trans HX4.out))) HM4.out.fml HC13.out.1 hbl).mono ?_
          rintro e w5 ⟨vw5, rfl, hx, hmb⟩
          have HX5 := Lib.hid (HX4.out.trans hx)
          have HM5 := Lib.hid hmb
          obtain ⟨A5, c5, rfl⟩ := slice_of_row hmb
          have HCw5 := Lib.hid hx
          clear hx hmb
          clear x0 x1 x2 x3 x4 x5 xl
          have x0 := (HX5.out.cell (p := ⟨xb, 0, none⟩) XC.out.1).trans XC.out.2.1
          have x1 := (HX5.out.cell (p := ⟨xb, 1, none⟩) XC.out.1).trans XC.out.2.2.1
          have x2 := (HX5.out.cell (p := ⟨xb, 2, none⟩) XC.out.1).trans XC.out.2.2.2.1
          have x3 := (HX5.out.cell (p := ⟨xb, 3, none⟩) XC.out.1).trans XC.out.2.2.2.2.1
          have x4 := (HX5.out.cell (p := ⟨xb, 4, none⟩) XC.out.1).trans XC.out.2.2.2.2.2.1
          have x5 := (HX5.out.cell (p := ⟨xb, 5, none⟩) XC.out.1).trans XC.out.2.2.2.2.2.2
          have xl := Nat.lt_of_lt_of_le XC.out.1 HX5.out.size
          rw [h13] at x0
          have HF1 := Lib.hid ((HOX.out.1.next HX4.out).fresh HM5.out)
          go_wp2_with fail
          refine (refSub_any _ f n.y _ (HF.out.ext (HX3.out.trans HX5.out))).mono ?_
          rintro e w6 ⟨uw6, rfl, hm⟩
          have HM6 := Lib.hid hm
          have HX6 := Lib.hid (HX5.out.trans hm.ext)
          obtain ⟨As6, cs6, rfl, _⟩ := fml_slice hm.fml
          clear hm
          go_wp2_with fail
          refine (column_any _ _ base (subN f n.y) _ (HFMS.out.ext (HX.out.trans (HX3.out.trans HX6.out))) HM6.out.fml HC13.out.2 hbl).mono ?_
          rintro e w7 ⟨vw7, rfl, hx, hmb⟩
          have HX7 := Lib.hid (HX6.out.trans hx)
          have HM7 := Lib.hid hmb
          obtain ⟨B7, d7, rfl⟩ := slice_of_row hmb
          have HCw7 := Lib.hid hx
          clear hx hmb
          clear x0 x1 x2 x3 x4 x5 xl
          have x0 := (HX7.out.cell (p := ⟨xb, 0, none⟩) XC.out.1).trans XC.out.2.1
          have x1 := (HX7.out.cell (p := ⟨xb, 1, none⟩) XC.out.1).trans XC.out.2.2.1
          have x2 := (HX7.out.cell (p := ⟨xb, 2, none⟩) XC.out.1).trans XC.out.2.2.2.1
          have x3 := (HX7.out.cell (p := ⟨xb, 3, none⟩) XC.out.1).trans XC.out.2.2.2.2.1
          have x4 := (HX7.out.cell (p := ⟨xb, 4, none⟩) XC.out.1).trans XC.out.2.2.2.2.2.1
          have x5 := (HX7.out.cell (p := ⟨xb, 5, none⟩) XC.out.1).trans XC.out.2.2.2.2.2.2
          have xl := Nat.lt_of_lt_of_le XC.out.1 HX7.out.size
          rw [h13] at x0
          have HF2 := Lib.hid (HF1.out.next (SameX.of_ext (HM6.out.ext.trans HCw7.out)) fun _ _ h => h)
          have HF3 := Lib.hid ((HOX.out.1.next HX6.out).fresh HM7.out)
          go_upto_region 12 with (fail)
          clear x0 x1 x2 x3 x4 x5 xl
          obtain ⟨W, hWe⟩ : ∃ v, v = w7 := ⟨_, rfl⟩
          have HWX := Lib.hid (show Ext W3 W by rw [hWe]; exact HX7.out)
          have HT0 := Lib.hid (show OpT w W s lg base k (fun i => if i = 1 then (.slice none 0 0) else if i = 2 then (.slice A5 (tabN base (subN f n.x)).length c5) else (.slice B7 (tabN base (subN f n.y)).length d7)) 0 by rw [hWe]; exact OpT.start (HOX.out.1.next HX7.out) HNI.out (by rw [HNO.out]; exact OpI.none_) (by rw [HB.out.1]; exact HF2.out) (by rw [HB.out.2]; exact HF3.out))
          have HW2 := Lib.hid (show ∀ v, W.cell? ⟨s, 2, none⟩ = some v → v.ownBlock ≠ some xb from fun v hv => by
            have h1 := (HOX.out.1.next HWX.out).reads.1
            rw [h1] at hv
            injection hv with hv
            rw [← hv]
            exact HOX.out.2 0 (by omega))
          rw [← hWe]
          clear hWe
          obtain ⟨A0, ca0, us0, z2, zo, zl, zf, hxz, zr, _, zst⟩ := HT0.out.at_ (by omega)
          have HZ2 := Lib.hid z2
          have HZO := Lib.hid (show (Value.slice A0 k ca0).ownBlock ≠ some s ∧ (Value.slice A0 k ca0).ownBlock ≠ some xb from ⟨zo, HW2.out _ z2⟩)
          have HZR := Lib.hid (zr rfl)
          have HZS := Lib.hid zst
          have HZX := Lib.hid hxz
          have HZF := Lib.hid zf
          clear zo zf hxz zr zst
          (try clear h9)
          (try clear h13)
          have x0 := (HWX.out.cell (p := ⟨xb, 0, none⟩) XC.out.1).trans XC.out.2.1
          have x1 := (HWX.out.cell (p := ⟨xb, 1, none⟩) XC.out.1).trans XC.out.2.2.1
          have x2 := (HWX.out.cell (p := ⟨xb, 2, none⟩) XC.out.1).trans XC.out.2.2.2.1
          have x3 := (HWX.out.cell (p := ⟨xb, 3, none⟩) XC.out.1).trans XC.out.2.2.2.2.1
          have x4 := (HWX.out.cell (p := ⟨xb, 4, none⟩) XC.out.1).trans XC.out.2.2.2.2.2.1
          have x5 := (HWX.out.cell (p := ⟨xb, 5, none⟩) XC.out.1).trans XC.out.2.2.2.2.2.2
          have xl := Nat.lt_of_lt_of_le XC.out.1 HWX.out.size
          have hlk : k + 1 ≤ maxLen := by unfold maxLen; omega
          refine ordU_region 10 (fun w' => w'.cell? (⟨s, 2, none⟩) = some (.slice A0 k ca0) ∧ w'.cell? (⟨xb, 0, none⟩) = some (.int .i64 n.op) ∧ w'.cell? (⟨xb, 1, none⟩) = some (.int .i64 n.i) ∧ w'.cell? (⟨xb, 2, none⟩) = some (.int .i64 n.e) ∧ w'.cell? (⟨xb, 3, none⟩) = some (.int .i64 n.g) ∧ w'.cell? (⟨xb, 4, none⟩) = some (.int .i64 n.x) ∧ w'.cell? (⟨xb, 5, none⟩) = some (.int .i64 n.y)) (by kernel_rfl) ⟨xd zl z2, xd xl x0, xd xl x1, xd xl x2, xd xl x3, xd xl x4, xd xl x5⟩ (fun hHeld => ?_)
          refine utk 0 hHeld ?_
          refine utk 1 hHeld ?_
          refine utk 2 hHeld ?_
          refine utk 3 hHeld ?_
          refine utk 4 hHeld ?_
          refine utk 5 hHeld ?_
          refine ordU_ready (rs := [6]) (by kernel_rfl) (by simp) ?_
          refine AllU.cons rfl (fun K hK => ?_) AllU.nil
          go_simp
          refine hK.out _ _ ⟨xd zl z2, xd xl x0, xd xl x1, xd xl x2, xd xl x3, xd xl x4, xd xl x5⟩ (fun hHeld => ?_)
          clear hK K
          try simp only [Act.put, List.setIfInBounds_toArray, List.set_cons_zero, List.set_cons_succ, List.getElem_toArray, List.getElem_cons_succ, List.getElem_cons_zero]
          refine ordU_ready (rs := [7]) (by kernel_rfl) (by simp) ?_
          refine AllU.cons rfl (fun K hK => ?_) AllU.nil
          refine step_append_at rfl (.tmp 52) (.tmp 54) 22 rfl w.heap.size 93 iN Nd.zero.val 6 48 Tryz.underlying22 hiN hzN0 hzN1 hzN2 rfl (by decide) (.slice A0 k ca0) k (((List.range k).map (topN base)).flatMap Nd.cells) (by simp [Act.eval]) (row_ext HZR.out xv) ⟨W.heap.size, 0, none⟩ 1 1 n.cells (by simp [Act.eval]) rfl (by exact row_new_at _ _ _ rfl) (node_cells n) (by unfold maxLen; omega) (by omega) (Nat.le_trans HZX.out.size (by simp)) ?_
          intro v7 w7 hown7 hgrow7 hat7
          obtain ⟨A7, c7, hv7⟩ := slice_of_row hown7
          subst hv7
          have ks := grown_blk (w := W.drew) hgrow7 HZO.out.1 zl
          have kx := grown_blk (w := W.drew) hgrow7 HZO.out.2 xl
          have y2 := (blk_cell (p := ⟨s, 2, none⟩) ks).1.trans z2
          have yf := (blk_cell (p := ⟨s, 2, none⟩) ks).2.trans (HZF.out 2)
          have yl : s < w7.heap.size := Nat.lt_of_lt_of_le zl (by have h1 := hgrow7.size; simp at h1; omega)
          have X0 := (blk_cell (p := ⟨xb, 0, none⟩) kx).1.trans x0
          have X1 := (blk_cell (p := ⟨xb, 1, none⟩) kx).1.trans x1
          have X2 := (blk_cell (p := ⟨xb, 2, none⟩) kx).1.trans x2
          have X3 := (blk_cell (p := ⟨xb, 3, none⟩) kx).1.trans x3
          have X4 := (blk_cell (p := ⟨xb, 4, none⟩) kx).1.trans x4
          have X5 := (blk_cell (p := ⟨xb, 5, none⟩) kx).1.trans x5
          have HT1 := Lib.hid (HZS.out W.drew (Ext.refl _).drew w7 _ (.slice A7 (k + 1) c7) hgrow7 hat7 (fun _ => by rw [← HN.out]; exact hown7) (fun e => absurd e (by omega)))
          clear hown7 hgrow7 hat7 ks kx
          refine hK.out _ _ ⟨y2, X0, X1, X2, X3, X4, X5⟩ (fun hHeld => ?_)
          clear hK K
          try simp only [Act.put, List.setIfInBounds_toArray, List.set_cons_zero, List.set_cons_succ, List.getElem_toArray, List.getElem_cons_succ, List.getElem_cons_zero]
          refine ordU_ready (rs := [8]) (by kernel_rfl) (by simp) ?_
          refine AllU.cons rfl (fun K hK => ?_) AllU.nil
          go_simp
          refine hK.out _ _ ⟨y2, X0, X1, X2, X3, X4, X5⟩ (fun hHeld => ?_)
          clear hK K
          try simp only [Act.put, List.setIfInBounds_toArray, List.set_cons_zero, List.set_cons_succ, List.getElem_toArray, List.getElem_cons_succ, List.getElem_cons_zero]
          refine utk 9 hHeld ?_
          refine ordU_last (by kernel_rfl) rfl (fun K hK => ?_)
          go_simp
          refine hK.out _ _ ?_
          clear hK K
          try simp only [Act.put, List.setIfInBounds_toArray, List.set_cons_zero, List.set_cons_succ, List.getElem_toArray, List.getElem_cons_succ, List.getElem_cons_zero]
          refine ordU_done (by kernel_rfl) ?_ _
          obtain ⟨Y, hY⟩ : ∃ Y, Y = w7.setCell ⟨s, 2, none⟩ (.slice A7 (k + 1) c7) := ⟨_, rfl⟩
          have HT1' := Lib.hid (show OpT w Y s lg base k _ 1 by rw [hY]; exact HT1.out)
          rw [← hY]
          clear hY HT1 y2 yf yl X0 X1 X2 X3 X4 X5
          obtain ⟨A1, ca1, us1, z2, zo, zl, zf, hxz, _, zr, zst⟩ := HT1'.out.at_ (by omega)
          have HR1 := Lib.hid (zr (by omega))
          have HS1 := Lib.hid zst
          have HX1 := Lib.hid hxz
          have HO1 := Lib.hid zo
          have ZF1 := Lib.hid zf
          have ZZ1 := Lib.hid z2
          clear zo zf hxz zr zst
          go_wp2_with (at_builtin; refine wpList_append_own_at _ rfl _ _ 106 rfl w.heap.size 61 iS (.slice none 0 0) 1 24 Tryz.underlying106 hiS hzS0 hzS1 hzS2 rfl (by decide) _ k us1 rfl (row_ext HR1.out ((Ext.refl _).alloc _)) ⟨_, 0, none⟩ 1 1 [(.slice none 0 0)] rfl rfl (row_new_at _ _ _ (by simp)) (fun u hu => by rw [List.mem_singleton.1 hu]; rfl) hlk (by omega) (Nat.le_trans HX1.out.size (by simp)) ?_)
          intro v9 w9 hown9 hgrow9 _ hat9
          obtain ⟨A9, c9, hv9⟩ := slice_of_row hown9
          subst hv9
          have ks := grown_blk hgrow9 HO1.out zl
          have y2 := (blk_cell (p := ⟨s, 3, none⟩) ks).1.trans ZZ1.out
          have yf := (blk_cell (p := ⟨s, 3, none⟩) ks).2.trans (ZF1.out 3)
          have yl : s < w9.heap.size := Nat.lt_of_lt_of_le zl (by have h1 := hgrow9.size; simp at h1; omega)
          have HTN := Lib.hid (HS1.out _ (Ext.refl _) w9 _ (.slice A9 (k + 1) c9) hgrow9 (hat9.imp_right fun h => by rw [h]; simp) (fun e => absurd e (by omega)) (fun _ => hown9))
          clear hown9 hgrow9 hat9 ks z2 zl
          go_upto_region 14 with (fail)
          obtain ⟨Y1, hY⟩ : ∃ Y, Y = w9.setCell ⟨s, 3, none⟩ (.slice A9 (k + 1) c9) := ⟨_, rfl⟩
          have HT2' := Lib.hid (show OpT w Y1 s lg base k _ 2 by rw [hY]; exact HTN.out)
          rw [← hY]
          clear hY HTN y2 yf yl
          obtain ⟨A2, ca2, us2, z2, zo, zl, zf, hxz, _, zr, zst⟩ := HT2'.out.at_ (by omega)
          have HR2 := Lib.hid (zr (by omega))
          have HS2 := Lib.hid zst
          have HX2 := Lib.hid hxz
          have HO2 := Lib.hid zo
          have ZF2 := Lib.hid zf
          have ZZ2 := Lib.hid z2
          clear zo zf hxz zr zst
          go_wp2_with (at_builtin; refine wpList_append_own_at _ rfl _ _ 106 rfl w.heap.size 61 iS (.slice none 0 0) 1 24 Tryz.underlying106 hiS hzS0 hzS1 hzS2 rfl (by decide) _ k us2 rfl (row_ext HR2.out ((Ext.refl _).alloc _)) ⟨_, 0, none⟩ 1 1 [(.slice A5 (tabN base (subN f n.x)).length c5)] rfl rfl (row_new_at _ _ _ (by simp)) (fun u hu => by rw [List.mem_singleton.1 hu]; rfl) hlk (by omega) (Nat.le_trans HX2.out.size (by simp)) ?_)
          intro v9 w9 hown9 hgrow9 _ hat9
          obtain ⟨A9, c9, hv9⟩ := slice_of_row hown9
          subst hv9
          have ks := grown_blk hgrow9 HO2.out zl
          have y2 := (blk_cell (p := ⟨s, 4, none⟩) ks).1.trans ZZ2.out
          have yf := (blk_cell (p := ⟨s, 4, none⟩) ks).2.trans (ZF2.out 4)
          have yl : s < w9.heap.size := Nat.lt_of_lt_of_le zl (by have h1 := hgrow9.size; simp at h1; omega)
          have HTN := Lib.hid (HS2.out _ (Ext.refl _) w9 _ (.slice A9 (k + 1) c9) hgrow9 (hat9.imp_right fun h => by rw [h]; simp) (fun e => absurd e (by omega)) (fun _ => hown9))
          clear hown9 hgrow9 hat9 ks z2 zl
          go_upto_region 15 with (fail)
          obtain ⟨Y2, hY⟩ : ∃ Y, Y = w9.setCell ⟨s, 4, none⟩ (.slice A9 (k + 1) c9) := ⟨_, rfl⟩
          have HT3' := Lib.hid (show OpT w Y2 s lg base k _ 3 by rw [hY]; exact HTN.out)
          rw [← hY]
          clear hY HTN y2 yf yl
          obtain ⟨A3, ca3, us3, z2, zo, zl, zf, hxz, _, zr, zst⟩ := HT3'.out.at_ (by omega)
          have HR3 := Lib.hid (zr (by omega))
          have HS3 := Lib.hid zst
          have HX3 := Lib.hid hxz
          have HO3 := Lib.hid zo
          have ZF3 := Lib.hid zf
          have ZZ3 := Lib.hid z2
          clear zo zf hxz zr zst
          go_wp2_with (at_builtin; refine wpList_append_own_at _ rfl _ _ 106 rfl w.heap.size 61 iS (.slice none 0 0) 1 24 Tryz.underlying106 hiS hzS0 hzS1 hzS2 rfl (by decide) _ k us3 rfl (row_ext HR3.out ((Ext.refl _).alloc _)) ⟨_, 0, none⟩ 1 1 [(.slice B7 (tabN base (subN f n.y)).length d7)] rfl rfl (row_new_at _ _ _ (by simp)) (fun u hu => by rw [List.mem_singleton.1 hu]; rfl) hlk (by omega) (Nat.le_trans HX3.out.size (by simp)) ?_)
          intro v9 w9 hown9 hgrow9 _ hat9
          obtain ⟨A9, c9, hv9⟩ := slice_of_row hown9
          subst hv9
          have ks := grown_blk hgrow9 HO3.out zl
          have y2 := (blk_cell (p := ⟨s, 5, none⟩) ks).1.trans ZZ3.out
          have yf := (blk_cell (p := ⟨s, 5, none⟩) ks).2.trans (ZF3.out 5)
          have yl : s < w9.heap.size := Nat.lt_of_lt_of_le zl (by have h1 := hgrow9.size; simp at h1; omega)
          have HTN := Lib.hid (HS3.out _ (Ext.refl _) w9 _ (.slice A9 (k + 1) c9) hgrow9 (hat9.imp_right fun h => by rw [h]; simp) (fun e => absurd e (by omega)) (fun _ => hown9))
          clear hown9 hgrow9 hat9 ks z2 zl
          go_wp2_with fail
          go_roundw
          case rel => exact ⟨k + 1, by go_num, by omega, Lib.hid HTN.out.done⟩
          case measure => simp [intOf]; omega
        · have HNO := Lib.hid (at_none base k (by rw [← HN.out]; exact h9))
          have HNO2 := Lib.hid (at_none2 base k (by rw [← HN.out]; exact h13))
          have t9 : (n.op == 9) = false := by simpa using h9
          have t13 : (n.op == 13) = false := by simpa using h13
          go_upto_region 12 with (fail)
          clear x0 x1 x2 x3 x4 x5 xl h9 h13 t9 t13
          obtain ⟨W, hWe⟩ : ∃ v, v = W3 := ⟨_, rfl⟩
          have HWX := Lib.hid (show Ext W3 W by rw [hWe]; exact (Ext.refl W3))
          have HT0 := Lib.hid (show OpT w W s lg base k (fun i => if i = 1 then (.slice none 0 0) else if i = 2 then (.slice none 0 0) else (.slice none 0 0)) 0 by rw [hWe]; exact OpT.start (HOX.out.1.next (Ext.refl W3)) HNI.out (by rw [HNO.out]; exact OpI.none_) (by rw [HNO2.out.1]; exact OpI.none_) (by rw [HNO2.out.2]; exact OpI.none_))
          have HW2 := Lib.hid (show ∀ v, W.cell? ⟨s, 2, none⟩ = some v → v.ownBlock ≠ some xb from fun v hv => by
            have h1 := (HOX.out.1.next HWX.out).reads.1
            rw [h1] at hv
            injection hv with hv
            rw [← hv]
            exact HOX.out.2 0 (by omega))
          rw [← hWe]
          clear hWe
          obtain ⟨A0, ca0, us0, z2, zo, zl, zf, hxz, zr, _, zst⟩ := HT0.out.at_ (by omega)
          have HZ2 := Lib.hid z2
          have HZO := Lib.hid (show (Value.slice A0 k ca0).ownBlock ≠ some s ∧ (Value.slice A0 k ca0).ownBlock ≠ some xb from ⟨zo, HW2.out _ z2⟩)
          have HZR := Lib.hid (zr rfl)
          have HZS := Lib.hid zst
          have HZX := Lib.hid hxz
          have HZF := Lib.hid zf
          clear zo zf hxz zr zst
          (try clear h9)
          (try clear h13)
          have x0 := (HWX.out.cell (p := ⟨xb, 0, none⟩) XC.out.1).trans XC.out.2.1
          have x1 := (HWX.out.cell (p := ⟨xb, 1, none⟩) XC.out.1).trans XC.out.2.2.1
          have x2 := (HWX.out.cell (p := ⟨xb, 2, none⟩) XC.out.1).trans XC.out.2.2.2.1
          have x3 := (HWX.out.cell (p := ⟨xb, 3, none⟩) XC.out.1).trans XC.out.2.2.2.2.1
          have x4 := (HWX.out.cell (p := ⟨xb, 4, none⟩) XC.out.1).trans XC.out.2.2.2.2.2.1
          have x5 := (HWX.out.cell (p := ⟨xb, 5, none⟩) XC.out.1).trans XC.out.2.2.2.2.2.2
          have xl := Nat.lt_of_lt_of_le XC.out.1 HWX.out.size
          have hlk : k + 1 ≤ maxLen := by unfold maxLen; omega
          refine ordU_region 10 (fun w' => w'.cell? (⟨s, 2, none⟩) = some (.slice A0 k ca0) ∧ w'.cell? (⟨xb, 0, none⟩) = some (.int .i64 n.op) ∧ w'.cell? (⟨xb, 1, none⟩) = some (.int .i64 n.i) ∧ w'.cell? (⟨xb, 2, none⟩) = some (.int .i64 n.e) ∧ w'.cell? (⟨xb, 3, none⟩) = some (.int .i64 n.g) ∧ w'.cell? (⟨xb, 4, none⟩) = some (.int .i64 n.x) ∧ w'.cell? (⟨xb, 5, none⟩) = some (.int .i64 n.y)) (by kernel_rfl) ⟨xd zl z2, xd xl x0, xd xl x1, xd xl x2, xd xl x3, xd xl x4, xd xl x5⟩ (fun hHeld => ?_)
          refine utk 0 hHeld ?_
          refine utk 1 hHeld ?_
          refine utk 2 hHeld ?_
          refine utk 3 hHeld ?_
          refine utk 4 hHeld ?_
          refine utk 5 hHeld ?_
          refine ordU_ready (rs := [6]) (by kernel_rfl) (by simp) ?_
          refine AllU.cons rfl (fun K hK => ?_) AllU.nil
          go_simp
          refine hK.out _ _ ⟨xd zl z2, xd xl x0, xd xl x1, xd xl x2, xd xl x3, xd xl x4, xd xl x5⟩ (fun hHeld => ?_)
          clear hK K
          try simp only [Act.put, List.setIfInBounds_toArray, List.set_cons_zero, List.set_cons_succ, List.getElem_toArray, List.getElem_cons_succ, List.getElem_cons_zero]
          refine ordU_ready (rs := [7]) (by kernel_rfl) (by simp) ?_
          refine AllU.cons rfl (fun K hK => ?_) AllU.nil
          refine step_append_at rfl (.tmp 52) (.tmp 54) 22 rfl w.heap.size 93 iN Nd.zero.val 6 48 Tryz.underlying22 hiN hzN0 hzN1 hzN2 rfl (by decide) (.slice A0 k ca0) k (((List.range k).map (topN base)).flatMap Nd.cells) (by simp [Act.eval]) (row_ext HZR.out xv) ⟨W.heap.size, 0, none⟩ 1 1 n.cells (by simp [Act.eval]) rfl (by exact row_new_at _ _ _ rfl) (node_cells n) (by unfold maxLen; omega) (by omega) (Nat.le_trans HZX.out.size (by simp)) ?_
          intro v7 w7 hown7 hgrow7 hat7
          obtain ⟨A7, c7, hv7⟩ := slice_of_row hown7
          subst hv7
          have ks := grown_blk (w := W.drew) hgrow7 HZO.out.1 zl
          have kx := grown_blk (w := W.drew) hgrow7 HZO.out.2 xl
          have y2 := (blk_cell (p := ⟨s, 2, none⟩) ks).1.trans z2
          have yf := (blk_cell (p := ⟨s, 2, none⟩) ks).2.trans (HZF.out 2)
          have yl : s < w7.heap.size := Nat.lt_of_lt_of_le zl (by have h1 := hgrow7.size; simp at h1; omega)
          have X0 := (blk_cell (p := ⟨xb, 0, none⟩) kx).1.trans x0
          have X1 := (blk_cell (p := ⟨xb, 1, none⟩) kx).1.trans x1
          have X2 := (blk_cell (p := ⟨xb, 2, none⟩) kx).1.trans x2
          have X3 := (blk_cell (p := ⟨xb, 3, none⟩) kx).1.trans x3
          have X4 := (blk_cell (p := ⟨xb, 4, none⟩) kx).1.trans x4
          have X5 := (blk_cell (p := ⟨xb, 5, none⟩) kx).1.trans x5
          have HT1 := Lib.hid (HZS.out W.drew (Ext.refl _).drew w7 _ (.slice A7 (k + 1) c7) hgrow7 hat7 (fun _ => by rw [← HN.out]; exact hown7) (fun e => absurd e (by omega)))
          clear hown7 hgrow7 hat7 ks kx
          refine hK.out _ _ ⟨y2, X0, X1, X2, X3, X4, X5⟩ (fun hHeld => ?_)
          clear hK K
          try simp only [Act.put, List.setIfInBounds_toArray, List.set_cons_zero, List.set_cons_succ, List.getElem_toArray, List.getElem_cons_succ, List.getElem_cons_zero]
          refine ordU_ready (rs := [8]) (by kernel_rfl) (by simp) ?_
          refine AllU.cons rfl (fun K hK => ?_) AllU.nil
          go_simp
          refine hK.out _ _ ⟨y2, X0, X1, X2, X3, X4, X5⟩ (fun hHeld => ?_)
          clear hK K
          try simp only [Act.put, List.setIfInBounds_toArray, List.set_cons_zero, List.set_cons_succ, List.getElem_toArray, List.getElem_cons_succ, List.getElem_cons_zero]
          refine utk 9 hHeld ?_
          refine ordU_last (by kernel_rfl) rfl (fun K hK => ?_)
          go_simp
          refine hK.out _ _ ?_
          clear hK K
          try simp only [Act.put, List.setIfInBounds_toArray, List.set_cons_zero, List.set_cons_succ, List.getElem_toArray, List.getElem_cons_succ, List.getElem_cons_zero]
          refine ordU_done (by kernel_rfl) ?_ _
          obtain ⟨Y, hY⟩ : ∃ Y, Y = w7.setCell ⟨s, 2, none⟩ (.slice A7 (k + 1) c7) := ⟨_, rfl⟩
          have HT1' := Lib.hid (show OpT w Y s lg base k _ 1 by rw [hY]; exact HT1.out)
          rw [← hY]
          clear hY HT1 y2 yf yl X0 X1 X2 X3 X4 X5
          obtain ⟨A1, ca1, us1, z2, zo, zl, zf, hxz, _, zr, zst⟩ := HT1'.out.at_ (by omega)
          have HR1 := Lib.hid (zr (by omega))
          have HS1 := Lib.hid zst
          have HX1 := Lib.hid hxz
          have HO1 := Lib.hid zo
          have ZF1 := Lib.hid zf
          have ZZ1 := Lib.hid z2
          clear zo zf hxz zr zst
          go_wp2_with (at_builtin; refine wpList_append_own_at _ rfl _ _ 106 rfl w.heap.size 61 iS (.slice none 0 0) 1 24 Tryz.underlying106 hiS hzS0 hzS1 hzS2 rfl (by decide) _ k us1 rfl (row_ext HR1.out ((Ext.refl _).alloc _)) ⟨_, 0, none⟩ 1 1 [(.slice none 0 0)] rfl rfl (row_new_at _ _ _ (by simp)) (fun u hu => by rw [List.mem_singleton.1 hu]; rfl) hlk (by omega) (Nat.le_trans HX1.out.size (by simp)) ?_)
          intro v9 w9 hown9 hgrow9 _ hat9
          obtain ⟨A9, c9, hv9⟩ := slice_of_row hown9
          subst hv9
          have ks := grown_blk hgrow9 HO1.out zl
          have y2 := (blk_cell (p := ⟨s, 3, none⟩) ks).1.trans ZZ1.out
          have yf := (blk_cell (p := ⟨s, 3, none⟩) ks).2.trans (ZF1.out 3)
          have yl : s < w9.heap.size := Nat.lt_of_lt_of_le zl (by have h1 := hgrow9.size; simp at h1; omega)
          have HTN := Lib.hid (HS1.out _ (Ext.refl _) w9 _ (.slice A9 (k + 1) c9) hgrow9 (hat9.imp_right fun h => by rw [h]; simp) (fun e => absurd e (by omega)) (fun _ => hown9))
          clear hown9 hgrow9 hat9 ks z2 zl
          go_upto_region 14 with (fail)
          obtain ⟨Y1, hY⟩ : ∃ Y, Y = w9.setCell ⟨s, 3, none⟩ (.slice A9 (k + 1) c9) := ⟨_, rfl⟩
          have HT2' := Lib.hid (show OpT w Y1 s lg base k _ 2 by rw [hY]; exact HTN.out)
          rw [← hY]
          clear hY HTN y2 yf yl
          obtain ⟨A2, ca2, us2, z2, zo, zl, zf, hxz, _, zr, zst⟩ := HT2'.out.at_ (by omega)
          have HR2 := Lib.hid (zr (by omega))
          have HS2 := Lib.hid zst
          have HX2 := Lib.hid hxz
          have HO2 := Lib.hid zo
          have ZF2 := Lib.hid zf
          have ZZ2 := Lib.hid z2
          clear zo zf hxz zr zst
          go_wp2_with (at_builtin; refine wpList_append_own_at _ rfl _ _ 106 rfl w.heap.size 61 iS (.slice none 0 0) 1 24 Tryz.underlying106 hiS hzS0 hzS1 hzS2 rfl (by decide) _ k us2 rfl (row_ext HR2.out ((Ext.refl _).alloc _)) ⟨_, 0, none⟩ 1 1 [(.slice none 0 0)] rfl rfl (row_new_at _ _ _ (by simp)) (fun u hu => by rw [List.mem_singleton.1 hu]; rfl) hlk (by omega) (Nat.le_trans HX2.out.size (by simp)) ?_)
          intro v9 w9 hown9 hgrow9 _ hat9
          obtain ⟨A9, c9, hv9⟩ := slice_of_row hown9
          subst hv9
          have ks := grown_blk hgrow9 HO2.out zl
          have y2 := (blk_cell (p := ⟨s, 4, none⟩) ks).1.trans ZZ2.out
          have yf := (blk_cell (p := ⟨s, 4, none⟩) ks).2.trans (ZF2.out 4)
          have yl : s < w9.heap.size := Nat.lt_of_lt_of_le zl (by have h1 := hgrow9.size; simp at h1; omega)
          have HTN := Lib.hid (HS2.out _ (Ext.refl _) w9 _ (.slice A9 (k + 1) c9) hgrow9 (hat9.imp_right fun h => by rw [h]; simp) (fun e => absurd e (by omega)) (fun _ => hown9))
          clear hown9 hgrow9 hat9 ks z2 zl
          go_upto_region 15 with (fail)
          obtain ⟨Y2, hY⟩ : ∃ Y, Y = w9.setCell ⟨s, 4, none⟩ (.slice A9 (k + 1) c9) := ⟨_, rfl⟩
          have HT3' := Lib.hid (show OpT w Y2 s lg base k _ 3 by rw [hY]; exact HTN.out)
          rw [← hY]
          clear hY HTN y2 yf yl
          obtain ⟨A3, ca3, us3, z2, zo, zl, zf, hxz, _, zr, zst⟩ := HT3'.out.at_ (by omega)
          have HR3 := Lib.hid (zr (by omega))
          have HS3 := Lib.hid zst
          have HX3 := Lib.hid hxz
          have HO3 := Lib.hid zo
          have ZF3 := Lib.hid zf
          have ZZ3 := Lib.hid z2
          clear zo zf hxz zr zst
          go_wp2_with (at_builtin; refine wpList_append_own_at _ rfl _ _ 106 rfl w.heap.size 61 iS (.slice none 0 0) 1 24 Tryz.underlying106 hiS hzS0 hzS1 hzS2 rfl (by decide) _ k us3 rfl (row_ext HR3.out ((Ext.refl _).alloc _)) ⟨_, 0, none⟩ 1 1 [(.slice none 0 0)] rfl rfl (row_new_at _ _ _ (by simp)) (fun u hu => by rw [List.mem_singleton.1 hu]; rfl) hlk (by omega) (Nat.le_trans HX3.out.size (by simp)) ?_)
          intro v9 w9 hown9 hgrow9 _ hat9
          obtain ⟨A9, c9, hv9⟩ := slice_of_row hown9
          subst hv9
          have ks := grown_blk hgrow9 HO3.out zl
          have y2 := (blk_cell (p := ⟨s, 5, none⟩) ks).1.trans ZZ3.out
          have yf := (blk_cell (p := ⟨s, 5, none⟩) ks).2.trans (ZF3.out 5)
          have yl : s < w9.heap.size := Nat.lt_of_lt_of_le zl (by have h1 := hgrow9.size; simp at h1; omega)
          have HTN := Lib.hid (HS3.out _ (Ext.refl _) w9 _ (.slice A9 (k + 1) c9) hgrow9 (hat9.imp_right fun h => by rw [h]; simp) (fun e => absurd e (by omega)) (fun _ => hown9))
          clear hown9 hgrow9 hat9 ks z2 zl
          go_wp2_with fail
          go_roundw
          case rel => exact ⟨k + 1, by go_num, by omega, Lib.hid HTN.out.done⟩
          case measure => simp [intOf]; omega
    · obtain rfl : base.length = k := by omega
      obtain ⟨nn, vv, hoi, hni⟩ := HREL.out
      have HSP := Lib.hid (hoi.space hni HNDS.out)
      have HX := Lib.hid hoi.ext
      clear HREL hoi hni
      go_wp2_with fail
      go_ret
      exact ⟨s, rfl, HX.out, HSP.out⟩
end Go.Proofs.YtbfeodammikajaaGreat
