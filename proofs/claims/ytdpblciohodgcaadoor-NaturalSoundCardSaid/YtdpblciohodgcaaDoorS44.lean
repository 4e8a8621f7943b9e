/- The program's Sets. -/
import Derived.Test.YtdpblciohodgcaaDoorS43
import Derived.Test.YtdpblciohodgcaaDoorS42
import Derived.Test.YtdpblciohodgcaaDoorS40
import Derived.Test.YtdpblciohodgcaaDoorS08
import Derived.Deep.Cut

namespace Go.Proofs.YtdpblciohodgcaaDoor
open Go.RowKit

theorem szU_word {md : Md} {f : List Nd} {k : Nat} (hck : checkM md = 0) (hN : md.n.toNat ≤ 64) (i : Nat) : word ((szU md f k).getD i 0) := by
  rw [szU_get]
  exact Nat.lt_of_lt_of_le (getD_low (setsP_low hck f k) (Nat.two_pow_pos _) i) (two64 hN)
theorem head_grp {n : Nd} (h : headOk n) (ha : 11 ≤ n.op) (hb : n.op ≤ 13) : 1 ≤ n.g := by
  obtain ⟨_, _, h3, _, _⟩ := h
  have hg : hasGroup n.op = true := by unfold hasGroup; rw [decide_eq_true ha, decide_eq_true hb]; rfl
  unfold rangeBad at h3
  simp only [outsideB, hg, Bool.or_eq_false_iff] at h3
  simp at h3
  omega
theorem cells6n {w : World} {b : Nat} {a0 a1 a2 a3 a4 a5 : Value} {t : TypeId} (h : w.heap[b]? = some (.cells #[a0, a1, a2, a3, a4, a5] t (0, 0))) : w.cell? ⟨b, 0, none⟩ = some a0 ∧ w.cell? ⟨b, 1, none⟩ = some a1 ∧ w.cell? ⟨b, 2, none⟩ = some a2 ∧ w.cell? ⟨b, 3, none⟩ = some a3 ∧ w.cell? ⟨b, 4, none⟩ = some a4 ∧ w.cell? ⟨b, 5, none⟩ = some a5 ∧ b < w.heap.size :=
  ⟨by simp [World.cell?, h], by simp [World.cell?, h], by simp [World.cell?, h], by simp [World.cell?, h], by simp [World.cell?, h], by simp [World.cell?, h], lt_heap h⟩
set_option maxRecDepth 100000 in
set_option maxHeartbeats 64000000 in
theorem sets_said : SetsSaid := by
  intro vm v md f w hm hok h
  have H := Lib.hid h
  have HM := Lib.hid hm
  have HOK := Lib.hid hok
  obtain ⟨iU, hiU, hzU0, hzU1, hzU2⟩ := info_parts tInfoU8
  obtain ⟨iB, hiB, hzB0, hzB1, hzB2⟩ := info_parts tInfoBo
  obtain ⟨vv, vr, rfl, ⟨Av, cv, rfl, _⟩, ⟨Ar, cr, rfl, _⟩⟩ := hm
  obtain ⟨⟨A, c, rfl, hfc, hfm, hread⟩, hfi⟩ := h
  have HREAD := Lib.hid hread
  unfold maxLen at hfm
  clear hok hread
  have HX0 := Lib.hid (show Ext w (w.alloc (.cells #[.int .i64 md.n, .slice Av md.val.length cv, .slice Ar md.rel.length cr] 28)) from (Ext.refl _).alloc _)
  have HB0 := Lib.hid (show (w.alloc (.cells #[.int .i64 md.n, .slice Av md.val.length cv, .slice Ar md.rel.length cr] 28)).heap[w.heap.size]? = some (.cells #[.int .i64 md.n, .slice Av md.val.length cv, .slice Ar md.rel.length cr] 28 (0, 0)) from heap_alloc_new _ _)
  obtain ⟨er, her⟩ : ∃ er, er = chk17 md f := ⟨_, rfl⟩
  have HER := Lib.hid her
  rw [← her]
  clear her hfi
  by_cases hz : er = 0
  · subst hz
    obtain ⟨hcm, hcf, _, _⟩ := chk17_zero HER.out.symm
    have HCM := Lib.hid hcm
    have HCF := Lib.hid hcf
    obtain ⟨hn1, hn64, hr4, hv8, _, _, _⟩ := checkM_zero hcm
    have HN64 := Lib.hid (show md.n.toNat ≤ 64 by omega)
    have hfl := (check_parts hcf).2.1
    clear hcm hcf hn1 hn64 hr4 hv8
    go_enter Tryd.func40, Tryd.ntmps40
    go_wp2_with fail
    refine (pReq_any _ _ md f _ (HM.out.ext HX0.out) HOK.out (H.out.ext HX0.out)).mono ?_
    rintro e w1 ⟨rfl, hx1⟩
    rw [← HER.out]
    have HX1 := Lib.hid (HX0.out.trans hx1)
    have HB1 := Lib.hid ((hx1.block (lt_heap HB0.out)).trans HB0.out)
    clear hx1 HB0
    obtain ⟨b, hb⟩ : ∃ b, b = w.heap.size := ⟨_, rfl⟩
    rw [← hb] at HB1 ⊢
    have HBL := Lib.hid (show b < w1.heap.size from lt_heap HB1.out)
    clear hb
    go_wp2_with (refine wpList_make_full _ rfl _ _ 25 rfl w1.heap.size 56 iU (.int .u64 0) 1 Tryd.underlying25 hiU hzU0 hzU1 .i64 .i64 _ _ f.length rfl rfl rfl rfl (by rw [hzU2]; omega) (by unfold maxLen; omega) (by simp) ?_)
    intro W1 hrow1 hgr1
    have HT1 := Lib.hid (show URow w1.heap.size W1 w1.heap.size (szU md f 0) by
      have h1 := hrow1
      rw [made_zeros'] at h1
      unfold URow
      rw [szU_zero, List.length_replicate]
      exact h1)
    have HXW1 := Lib.hid (show Ext w1 W1 from (Ext.refl w1).grown hgr1 (fun k e => by cases e))
    clear hrow1 hgr1
    go_wp2_with (refine wpList_make_full _ rfl _ _ 102 rfl w1.heap.size 4 iB (.bool false) 1 Tryd.underlying102 hiB hzB0 hzB1 .i64 .i64 _ _ f.length rfl rfl rfl rfl (by rw [hzB2]; omega) (by unfold maxLen; omega) HXW1.out.size ?_)
    intro W2 hrow2 hgr2
    have HT2 := Lib.hid (show FlRow w1.heap.size W2 W1.heap.size (szF md f 0) by
      have h1 := hrow2
      rw [made_falses'] at h1
      unfold FlRow
      rw [szF_zero, List.length_replicate]
      exact h1)
    have HXW2 := Lib.hid (show Ext W1 W2 from (Ext.refl W1).grown hgr2 (fun k e => by cases e))
    have HT3 := Lib.hid (HT1.out.ext HXW2.out)
    have HXX := Lib.hid (HXW1.out.trans HXW2.out)
    have HGN := Lib.hid (show w1.heap.size ≠ W1.heap.size by have := HT1.out.lt.2; omega)
    have HGS := Lib.hid HXW1.out.size
    clear hrow2 hgr2 HT1 HXW1 HXW2
    obtain ⟨g, hg⟩ : ∃ g, g = w1.heap.size := ⟨_, rfl⟩
    obtain ⟨h, hh⟩ : ∃ h, h = W1.heap.size := ⟨_, rfl⟩
    rw [← hh] at HT2 HGN HGS ⊢
    rw [← hg] at HT2 HT3 HGN HGS ⊢
    have HG := Lib.hid hg
    clear hg hh
    go_wp2_with fail
    go_loopw [26] (fun vi wr => ∃ k : Nat, vi = .int .i64 (k : Int) ∧ k ≤ f.length ∧ Hid (Ext w1 wr ∧ URow w1.heap.size wr g (szU md f k) ∧ FlRow w1.heap.size wr h (szF md f k))) (fun v _ => f.length - (intOf v).toNat)
    case atStart => exact ⟨0, rfl, Nat.zero_le _, Lib.hid ⟨HXX.out, by rw [← HG.out]; exact HT3.out, by rw [← HG.out]; exact HT2.out⟩⟩
    case round =>
      obtain ⟨k, rfl, hk, HREL⟩ := hrel
      have HX := Lib.hid HREL.out.1
      have HU := Lib.hid HREL.out.2.1
      have HF := Lib.hid HREL.out.2.2
      have HXW := Lib.hid (HX1.out.trans HX.out)
      clear HREL
      by_cases hlt2 : k < f.length
      · have hk1 : (k : Int) < (f.length : Int) := by omega
        obtain ⟨n, hn⟩ : ∃ n, f[k]? = some n := ⟨_, List.getElem?_eq_getElem hlt2⟩
        have HND := Lib.hid (getD_ofP hn)
        have HWF := Lib.hid (check_wf HCF.out k n hn)
        have HHD := Lib.hid (heads_of HCF.out n (List.mem_of_getElem? hn))
        obtain ⟨ad, rfl, hadl, hcells⟩ := HREAD.out (by intro e; rw [e] at hlt2; simp at hlt2)
        obtain ⟨c0, c1, c2, c3, c4, c5⟩ := (hcells k n hn).keep fun p hp => HXW.out.cell (p := p) (by rw [hp, block_of_add]; exact hadl)
        have hbl : (ad.add (k * 6)).block < wr.heap.size := by rw [block_of_add]; exact Nat.lt_of_lt_of_le hadl HXW.out.size
        clear hn hcells
        obtain ⟨ix, hix, hxl⟩ : ∃ ix : Nat, n.x = (ix : Int) ∧ ix < f.length := opd_lt hlt2 HWF.out.1 HHD.out.2.2.2.1
        obtain ⟨iy, hiy, hyl⟩ : ∃ iy : Nat, n.y = (iy : Int) ∧ iy < f.length := opd_lt hlt2 HWF.out.2 HHD.out.2.2.2.2
        have HIX := Lib.hid hix
        have HIY := Lib.hid hiy
        rw [hix] at c4
        rw [hiy] at c5
        have hxl1 : (ix : Int) < (f.length : Int) := by omega
        have hyl1 : (iy : Int) < (f.length : Int) := by omega
        clear hix hiy
        obtain ⟨op, hop⟩ : ∃ z, z = n.op := ⟨_, rfl⟩
        have HOP := Lib.hid hop
        rw [← hop] at c0
        clear hop
        obtain ⟨fx, hfx⟩ : ∃ z, z = (szF md f k).getD ix false := ⟨_, rfl⟩
        obtain ⟨fy, hfy⟩ : ∃ z, z = (szF md f k).getD iy false := ⟨_, rfl⟩
        obtain ⟨sx, hsx⟩ : ∃ z, z = (szU md f k).getD ix 0 := ⟨_, rfl⟩
        obtain ⟨sy, hsy⟩ : ∃ z, z = (szU md f k).getD iy 0 := ⟨_, rfl⟩
        have HFX := Lib.hid hfx
        have HFY := Lib.hid hfy
        have HSX := Lib.hid hsx
        have HSY := Lib.hid hsy
        have hlU := szU_len (md := md) (f := f) hk
        have hlF := szF_len (md := md) (f := f) hk
        have HLU := Lib.hid hlU
        have HLF := Lib.hid hlF
        have HFCX := Lib.hid (HF.out.cell (j := ix) (by rw [hlF]; exact hxl))
        have HFCY := Lib.hid (HF.out.cell (j := iy) (by rw [hlF]; exact hyl))
        have HUCX := Lib.hid (HU.out.cell (j := ix) (by rw [hlU]; exact hxl))
        have HUCY := Lib.hid (HU.out.cell (j := iy) (by rw [hlU]; exact hyl))
        rw [← hfx] at HFCX
        rw [← hfy] at HFCY
        rw [← hsx] at HUCX
        rw [← hsy] at HUCY
        have HHL := Lib.hid HF.out.lt.2
        have HGL := Lib.hid HU.out.lt.2
        clear hfx hfy hsx hsy hlU hlF
        go_upto_region 10 with (fail)
        have HXA := Lib.hid (show Ext wr (wr.alloc (.cells #[.int .i64 op, .int .i64 n.i, .int .i64 n.e, .int .i64 n.g, .int .i64 (ix : Int), .int .i64 (iy : Int)] 61)) from (Ext.refl wr).alloc _)
        have HBN := Lib.hid (show (wr.alloc (.cells #[.int .i64 op, .int .i64 n.i, .int .i64 n.e, .int .i64 n.g, .int .i64 (ix : Int), .int .i64 (iy : Int)] 61)).heap[wr.heap.size]? = some (.cells #[.int .i64 op, .int .i64 n.i, .int .i64 n.e, .int .i64 n.g, .int .i64 (ix : Int), .int .i64 (iy : Int)] 61 (0, 0)) from heap_alloc_new _ _)
        obtain ⟨W3, hW3⟩ : ∃ z, z = wr.alloc (.cells #[.int .i64 op, .int .i64 n.i, .int .i64 n.e, .int .i64 n.g, .int .i64 (ix : Int), .int .i64 (iy : Int)] 61) := ⟨_, rfl⟩
        rw [← hW3] at HXA HBN ⊢
        obtain ⟨q, hq⟩ : ∃ z, z = wr.heap.size := ⟨_, rfl⟩
        rw [← hq] at HBN ⊢
        have HQN := Lib.hid hq
        clear hW3 hq c0 c1 c2 c3 c4 c5 hbl
        obtain ⟨d0, d1, d2, d3, d4, d5, dl⟩ := cells6n HBN.out
        have x0 := (HXA.out.cell (p := ⟨h, ix, none⟩) HHL.out).trans HFCX.out
        have y0 := (HXA.out.cell (p := ⟨h, iy, none⟩) HHL.out).trans HFCY.out
        have xl : h < W3.heap.size := Nat.lt_of_lt_of_le HHL.out HXA.out.size
        obtain ⟨b1, hb1⟩ : ∃ z, z = (!decide (4 ≤ op) || fx) := ⟨_, rfl⟩
        have HB1V := Lib.hid hb1
        clear hb1
        go_upto_if 33 with (fail)
        go_cut [11] (fun s wx => s = .bool b1 ∧ wx = W3)
        case first =>
          by_cases h4 : 4 ≤ op
          · go_wp2_with fail
            go_meet
            exact ⟨by rw [HB1V.out, decide_eq_true h4] <;> rfl, rfl⟩
          · go_wp2_with fail
            go_meet
            exact ⟨by rw [HB1V.out, decide_eq_false (by omega)] <;> rfl, rfl⟩
        case rest =>
          obtain ⟨rfl, hwc⟩ := hcut
          obtain rfl : W3 = wc := hwc.symm
          obtain ⟨b2, hb2⟩ : ∃ z, z = ((decide (5 ≤ op) && decide (op ≤ 8)) || op == 13) := ⟨_, rfl⟩
          have HB2V := Lib.hid hb2
          obtain ⟨b3, hb3⟩ : ∃ z, z = (b1 && (!b2 || fy)) := ⟨_, rfl⟩
          have HB3V := Lib.hid hb3
          clear hb2 hb3
          go_upto_region 12 with (fail)
          go_cut [51] (fun s wx => s = .bool b2 ∧ wx = W3)
          case first =>
            by_cases h5 : 5 ≤ op
            · by_cases h8 : op ≤ 8
              · go_wp2_with fail
                go_meet
                exact ⟨by rw [HB2V.out, decide_eq_true h5, decide_eq_true h8] <;> rfl, rfl⟩
              · by_cases h13 : op = 13
                · have h13b : (op == 13) = true := by simpa using h13
                  go_wp2_with fail
                  go_meet
                  exact ⟨by rw [HB2V.out, h13b, Bool.or_true] <;> rfl, rfl⟩
                · have h13b : (op == 13) = false := by simpa using h13
                  clear h13
                  go_wp2_with fail
                  go_meet
                  exact ⟨by rw [HB2V.out, h13b, decide_eq_false (show ¬ op ≤ 8 by omega), Bool.and_false] <;> rfl, rfl⟩
            · have h13b : (op == 13) = false := by rw [beq_eq_false_iff_ne]; omega
              go_wp2_with fail
              go_meet
              exact ⟨by rw [HB2V.out, h13b, decide_eq_false (show ¬ 5 ≤ op by omega)] <;> rfl, rfl⟩
          case rest =>
            obtain ⟨rfl, hwc⟩ := hcut
            obtain rfl : W3 = wc := hwc.symm
            go_upto_if 51 with (fail)
            go_cut [11] (fun s wx => s = .bool b3 ∧ wx = W3)
            case first =>
              cases b2
              · go_wp2_with fail
                go_meet
                exact ⟨by rw [HB3V.out] <;> simp, rfl⟩
              · cases b1
                · go_wp2_with fail
                  go_meet
                  exact ⟨by rw [HB3V.out] <;> rfl, rfl⟩
                · go_wp2_with fail
                  go_meet
                  exact ⟨by rw [HB3V.out] <;> rfl, rfl⟩
            case rest =>
              obtain ⟨rfl, hwc⟩ := hcut
              obtain rfl : W3 = wc := hwc.symm
              have HOK2 := Lib.hid (show okP n (setsP md f k).2 = b3 by
                unfold okP
                rw [HB3V.out, HB1V.out, HB2V.out, HFX.out, HFY.out, HIX.out, HIY.out, ← HOP.out, szF_get, szF_get]
                rfl)
              cases b3
              · obtain ⟨hs1, hs2⟩ := sz_skip (md := md) hlt2 (by rw [HND.out]; exact HOK2.out)
                have HS1 := Lib.hid hs1
                have HS2 := Lib.hid hs2
                clear hs1 hs2
                go_wp2_with fail
                go_roundw
                case rel => exact ⟨k + 1, by go_num, by omega, Lib.hid ⟨HX.out.trans HXA.out, by rw [HS1.out]; exact HU.out.ext HXA.out, by rw [HS2.out]; exact HF.out.ext HXA.out⟩⟩
                case measure => simp [intOf]; omega
              · obtain ⟨hs1, hs2⟩ := sz_ok (md := md) hlt2 HND.out HOK2.out
                have HS1 := Lib.hid hs1
                have HS2 := Lib.hid hs2
                clear hs1 hs2
                go_upto_region 15 with (fail)
                obtain ⟨e0, e1, e2, eb⟩ := cells3p (((HX.out.trans HXA.out).block HBL.out).trans HB1.out)
                have u0 := (HXA.out.cell (p := ⟨g, ix, none⟩) HGL.out).trans HUCX.out
                have v0 := (HXA.out.cell (p := ⟨g, iy, none⟩) HGL.out).trans HUCY.out
                have gl : g < W3.heap.size := Nat.lt_of_lt_of_le HGL.out HXA.out.size
                have HUA := Lib.hid (HU.out.ext HXA.out)
                have HFA := Lib.hid (HF.out.ext HXA.out)
                have HSXW := Lib.hid (show word sx by rw [HSX.out]; exact szU_word HCM.out HN64.out ix)
                have HSYW := Lib.hid (show word sy by rw [HSY.out]; exact szU_word HCM.out HN64.out iy)
                have HNB := Lib.hid (show b ≠ g by have h1 := HBL.out; have h2 := HG.out; omega)
                have HNB2 := Lib.hid (show b ≠ h by have h1 := HBL.out; have h2 := HG.out; have h3 := HGS.out; omega)
                have HNQ := Lib.hid (show q ≠ g by have h1 := HQN.out; have h2 := HGL.out; omega)
                have HNQ2 := Lib.hid (show q ≠ h by have h1 := HQN.out; have h2 := HHL.out; omega)
                have HGN2 := Lib.hid (show g ≠ h from fun e => HGN.out (by rw [← e]))
                have HGN3 := Lib.hid (show h ≠ g from fun e => HGN.out (by rw [e]))
                clear x0 y0 xl
                refine ordU_region 23 (fun w' => w'.cell? (⟨b, 0, none⟩) = some (.int .i64 md.n) ∧ w'.cell? (⟨b, 1, none⟩) = some (.slice Av md.val.length cv) ∧ w'.cell? (⟨b, 2, none⟩) = some (.slice Ar md.rel.length cr) ∧ w'.cell? (⟨q, 0, none⟩) = some (.int .i64 op) ∧ w'.cell? (⟨q, 1, none⟩) = some (.int .i64 n.i) ∧ w'.cell? (⟨q, 2, none⟩) = some (.int .i64 n.e) ∧ w'.cell? (⟨q, 3, none⟩) = some (.int .i64 n.g) ∧ w'.cell? (⟨q, 4, none⟩) = some (.int .i64 (ix : Int)) ∧ w'.cell? (⟨q, 5, none⟩) = some (.int .i64 (iy : Int))) (by kernel_rfl) ⟨(Ext.cell (p := ⟨b, 0, none⟩) (by repeat (first | exact Ext.refl _ | assumption | apply Ext.alloc | apply Ext.drew | apply Ext.setCell)) eb).trans e0, (Ext.cell (p := ⟨b, 1, none⟩) (by repeat (first | exact Ext.refl _ | assumption | apply Ext.alloc | apply Ext.drew | apply Ext.setCell)) eb).trans e1, (Ext.cell (p := ⟨b, 2, none⟩) (by repeat (first | exact Ext.refl _ | assumption | apply Ext.alloc | apply Ext.drew | apply Ext.setCell)) eb).trans e2, (Ext.cell (p := ⟨q, 0, none⟩) (by repeat (first | exact Ext.refl _ | assumption | apply Ext.alloc | apply Ext.drew | apply Ext.setCell)) dl).trans d0, (Ext.cell (p := ⟨q, 1, none⟩) (by repeat (first | exact Ext.refl _ | assumption | apply Ext.alloc | apply Ext.drew | apply Ext.setCell)) dl).trans d1, (Ext.cell (p := ⟨q, 2, none⟩) (by repeat (first | exact Ext.refl _ | assumption | apply Ext.alloc | apply Ext.drew | apply Ext.setCell)) dl).trans d2, (Ext.cell (p := ⟨q, 3, none⟩) (by repeat (first | exact Ext.refl _ | assumption | apply Ext.alloc | apply Ext.drew | apply Ext.setCell)) dl).trans d3, (Ext.cell (p := ⟨q, 4, none⟩) (by repeat (first | exact Ext.refl _ | assumption | apply Ext.alloc | apply Ext.drew | apply Ext.setCell)) dl).trans d4, (Ext.cell (p := ⟨q, 5, none⟩) (by repeat (first | exact Ext.refl _ | assumption | apply Ext.alloc | apply Ext.drew | apply Ext.setCell)) dl).trans d5⟩ (fun hHeld => ?_)
                refine' ordU_take (i := 0) (v := _) rfl (by kernel_rfl) (by kernel_rfl) (by kernel_rfl) (by kernel_rfl) (fun _ _ _ h => h) (Or.inl ⟨by rfl, ?hybu11⟩) hHeld ?restbu11
                case hybu11 => (intro w' hSw; (try dsimp only at hSw); go_simp; (try with_reducible rfl))
                try simp only [Act.put, List.setIfInBounds_toArray, List.set_cons_zero, List.set_cons_succ, List.getElem_toArray, List.getElem_cons_zero]
                refine' ordU_take (i := 1) (v := _) rfl (by kernel_rfl) (by kernel_rfl) (by kernel_rfl) (by kernel_rfl) (fun _ _ _ h => h) (Or.inl ⟨by rfl, ?hybu12⟩) hHeld ?restbu12
                case hybu12 => (intro w' hSw; (try dsimp only at hSw); go_simp; (try with_reducible rfl))
                try simp only [Act.put, List.setIfInBounds_toArray, List.set_cons_zero, List.set_cons_succ, List.getElem_toArray, List.getElem_cons_succ, List.getElem_cons_zero]
                refine' ordU_take (i := 2) (v := _) rfl (by kernel_rfl) (by kernel_rfl) (by kernel_rfl) (by kernel_rfl) (fun _ _ _ h => h) (Or.inl ⟨by rfl, ?hybu13⟩) hHeld ?restbu13
                case hybu13 => (intro w' hSw; (try dsimp only at hSw); go_simp; (try with_reducible rfl))
                try simp only [Act.put, List.setIfInBounds_toArray, List.set_cons_zero, List.set_cons_succ, List.getElem_toArray, List.getElem_cons_succ, List.getElem_cons_zero]
                refine' ordU_take (i := 3) (v := _) rfl (by kernel_rfl) (by kernel_rfl) (by kernel_rfl) (by kernel_rfl) (fun _ _ _ h => h) (Or.inl ⟨by rfl, ?hybu14⟩) hHeld ?restbu14
                case hybu14 => (intro w' hSw; (try dsimp only at hSw); go_simp; (try with_reducible rfl))
                try simp only [Act.put, List.setIfInBounds_toArray, List.set_cons_zero, List.set_cons_succ, List.getElem_toArray, List.getElem_cons_succ, List.getElem_cons_zero]
                refine' ordU_take (i := 4) (v := _) rfl (by kernel_rfl) (by kernel_rfl) (by kernel_rfl) (by kernel_rfl) (fun _ _ _ h => h) (Or.inl ⟨by rfl, ?hybu15⟩) hHeld ?restbu15
                case hybu15 => (intro w' hSw; (try dsimp only at hSw); go_simp; (try with_reducible rfl))
                try simp only [Act.put, List.setIfInBounds_toArray, List.set_cons_zero, List.set_cons_succ, List.getElem_toArray, List.getElem_cons_succ, List.getElem_cons_zero]
                refine' ordU_take (i := 5) (v := _) rfl (by kernel_rfl) (by kernel_rfl) (by kernel_rfl) (by kernel_rfl) (fun _ _ _ h => h) (Or.inl ⟨by rfl, ?hybu16⟩) hHeld ?restbu16
                case hybu16 => (intro w' hSw; (try dsimp only at hSw); go_simp; (try with_reducible rfl))
                try simp only [Act.put, List.setIfInBounds_toArray, List.set_cons_zero, List.set_cons_succ, List.getElem_toArray, List.getElem_cons_succ, List.getElem_cons_zero]
                refine' ordU_take (i := 6) (v := _) rfl (by kernel_rfl) (by kernel_rfl) (by kernel_rfl) (by kernel_rfl) (fun _ _ _ h => h) (Or.inl ⟨by rfl, ?hybu17⟩) hHeld ?restbu17
                case hybu17 => (intro w' hSw; (try dsimp only at hSw); go_simp; (try with_reducible rfl))
                try simp only [Act.put, List.setIfInBounds_toArray, List.set_cons_zero, List.set_cons_succ, List.getElem_toArray, List.getElem_cons_succ, List.getElem_cons_zero]
                refine' ordU_take (i := 7) (v := _) rfl (by kernel_rfl) (by kernel_rfl) (by kernel_rfl) (by kernel_rfl) (fun _ _ _ h => h) (Or.inl ⟨by rfl, ?hybu18⟩) hHeld ?restbu18
                case hybu18 => (intro w' hSw; (try dsimp only at hSw); go_simp; (try with_reducible rfl))
                try simp only [Act.put, List.setIfInBounds_toArray, List.set_cons_zero, List.set_cons_succ, List.getElem_toArray, List.getElem_cons_succ, List.getElem_cons_zero]
                refine' ordU_take (i := 8) (v := _) rfl (by kernel_rfl) (by kernel_rfl) (by kernel_rfl) (by kernel_rfl) (fun _ _ _ h => h) (Or.inl ⟨by rfl, ?hybu19⟩) hHeld ?restbu19
                case hybu19 => (intro w' hSw; (try dsimp only at hSw); go_simp; (try with_reducible rfl))
                try simp only [Act.put, List.setIfInBounds_toArray, List.set_cons_zero, List.set_cons_succ, List.getElem_toArray, List.getElem_cons_succ, List.getElem_cons_zero]
                refine' ordU_take (i := 9) (v := _) rfl (by kernel_rfl) (by kernel_rfl) (by kernel_rfl) (by kernel_rfl) (fun _ _ _ h => h) (Or.inl ⟨by rfl, ?hybu110⟩) hHeld ?restbu110
                case hybu110 => (intro w' hSw; (try dsimp only at hSw); go_simp; (try with_reducible rfl))
                try simp only [Act.put, List.setIfInBounds_toArray, List.set_cons_zero, List.set_cons_succ, List.getElem_toArray, List.getElem_cons_succ, List.getElem_cons_zero]
                refine' ordU_take (i := 11) (v := _) rfl (by kernel_rfl) (by kernel_rfl) (by kernel_rfl) (by kernel_rfl) (fun _ _ _ h => h) (Or.inl ⟨by rfl, ?hybu111⟩) hHeld ?restbu111
                case hybu111 => (intro w' hSw; (try dsimp only at hSw); go_simp; (try with_reducible rfl))
                try simp only [Act.put, List.setIfInBounds_toArray, List.set_cons_zero, List.set_cons_succ, List.getElem_toArray, List.getElem_cons_succ, List.getElem_cons_zero]
                refine' ordU_take (i := 12) (v := _) rfl (by kernel_rfl) (by kernel_rfl) (by kernel_rfl) (by kernel_rfl) (fun _ _ _ h => h) (Or.inl ⟨by rfl, ?hybu112⟩) hHeld ?restbu112
                case hybu112 => (intro w' hSw; (try dsimp only at hSw); go_simp; (try with_reducible rfl))
                try simp only [Act.put, List.setIfInBounds_toArray, List.set_cons_zero, List.set_cons_succ, List.getElem_toArray, List.getElem_cons_succ, List.getElem_cons_zero]
                refine' ordU_take (i := 13) (v := _) rfl (by kernel_rfl) (by kernel_rfl) (by kernel_rfl) (by kernel_rfl) (fun _ _ _ h => h) (Or.inl ⟨by rfl, ?hybu113⟩) hHeld ?restbu113
                case hybu113 => (intro w' hSw; (try dsimp only at hSw); go_simp; (try with_reducible rfl))
                try simp only [Act.put, List.setIfInBounds_toArray, List.set_cons_zero, List.set_cons_succ, List.getElem_toArray, List.getElem_cons_succ, List.getElem_cons_zero]
                refine' ordU_take (i := 14) (v := _) rfl (by kernel_rfl) (by kernel_rfl) (by kernel_rfl) (by kernel_rfl) (fun _ _ _ h => h) (Or.inl ⟨by rfl, ?hybu114⟩) hHeld ?restbu114
                case hybu114 => (intro w' hSw; (try dsimp only at hSw); go_simp; (try with_reducible rfl))
                try simp only [Act.put, List.setIfInBounds_toArray, List.set_cons_zero, List.set_cons_succ, List.getElem_toArray, List.getElem_cons_succ, List.getElem_cons_zero]
                refine ordU_ready (rs := [10, 15]) (by kernel_rfl) (by simp) ?_
                refine AllU.cons rfl (fun K hK => ?_) (AllU.cons rfl (fun K hK => ?_) AllU.nil)
                · skip
                  go_simp
                  refine hK.out _ _ ⟨(Ext.cell (p := ⟨b, 0, none⟩) (by repeat (first | exact Ext.refl _ | assumption | apply Ext.alloc | apply Ext.drew | apply Ext.setCell)) eb).trans e0, (Ext.cell (p := ⟨b, 1, none⟩) (by repeat (first | exact Ext.refl _ | assumption | apply Ext.alloc | apply Ext.drew | apply Ext.setCell)) eb).trans e1, (Ext.cell (p := ⟨b, 2, none⟩) (by repeat (first | exact Ext.refl _ | assumption | apply Ext.alloc | apply Ext.drew | apply Ext.setCell)) eb).trans e2, (Ext.cell (p := ⟨q, 0, none⟩) (by repeat (first | exact Ext.refl _ | assumption | apply Ext.alloc | apply Ext.drew | apply Ext.setCell)) dl).trans d0, (Ext.cell (p := ⟨q, 1, none⟩) (by repeat (first | exact Ext.refl _ | assumption | apply Ext.alloc | apply Ext.drew | apply Ext.setCell)) dl).trans d1, (Ext.cell (p := ⟨q, 2, none⟩) (by repeat (first | exact Ext.refl _ | assumption | apply Ext.alloc | apply Ext.drew | apply Ext.setCell)) dl).trans d2, (Ext.cell (p := ⟨q, 3, none⟩) (by repeat (first | exact Ext.refl _ | assumption | apply Ext.alloc | apply Ext.drew | apply Ext.setCell)) dl).trans d3, (Ext.cell (p := ⟨q, 4, none⟩) (by repeat (first | exact Ext.refl _ | assumption | apply Ext.alloc | apply Ext.drew | apply Ext.setCell)) dl).trans d4, (Ext.cell (p := ⟨q, 5, none⟩) (by repeat (first | exact Ext.refl _ | assumption | apply Ext.alloc | apply Ext.drew | apply Ext.setCell)) dl).trans d5⟩ (fun hHeld => ?_)
                  clear hK K
                  try simp only [Act.put, List.setIfInBounds_toArray, List.set_cons_zero, List.set_cons_succ, List.getElem_toArray, List.getElem_cons_succ, List.getElem_cons_zero]
                  refine ordU_ready (rs := [15]) (by kernel_rfl) (by simp) ?_
                  refine AllU.cons rfl (fun K hK => ?_) AllU.nil
                  go_simp
                  refine hK.out _ _ ⟨(Ext.cell (p := ⟨b, 0, none⟩) (by repeat (first | exact Ext.refl _ | assumption | apply Ext.alloc | apply Ext.drew | apply Ext.setCell)) eb).trans e0, (Ext.cell (p := ⟨b, 1, none⟩) (by repeat (first | exact Ext.refl _ | assumption | apply Ext.alloc | apply Ext.drew | apply Ext.setCell)) eb).trans e1, (Ext.cell (p := ⟨b, 2, none⟩) (by repeat (first | exact Ext.refl _ | assumption | apply Ext.alloc | apply Ext.drew | apply Ext.setCell)) eb).trans e2, (Ext.cell (p := ⟨q, 0, none⟩) (by repeat (first | exact Ext.refl _ | assumption | apply Ext.alloc | apply Ext.drew | apply Ext.setCell)) dl).trans d0, (Ext.cell (p := ⟨q, 1, none⟩) (by repeat (first | exact Ext.refl _ | assumption | apply Ext.alloc | apply Ext.drew | apply Ext.setCell)) dl).trans d1, (Ext.cell (p := ⟨q, 2, none⟩) (by repeat (first | exact Ext.refl _ | assumption | apply Ext.alloc | apply Ext.drew | apply Ext.setCell)) dl).trans d2, (Ext.cell (p := ⟨q, 3, none⟩) (by repeat (first | exact Ext.refl _ | assumption | apply Ext.alloc | apply Ext.drew | apply Ext.setCell)) dl).trans d3, (Ext.cell (p := ⟨q, 4, none⟩) (by repeat (first | exact Ext.refl _ | assumption | apply Ext.alloc | apply Ext.drew | apply Ext.setCell)) dl).trans d4, (Ext.cell (p := ⟨q, 5, none⟩) (by repeat (first | exact Ext.refl _ | assumption | apply Ext.alloc | apply Ext.drew | apply Ext.setCell)) dl).trans d5⟩ (fun hHeld => ?_)
                  clear hK K
                  try simp only [Act.put, List.setIfInBounds_toArray, List.set_cons_zero, List.set_cons_succ, List.getElem_toArray, List.getElem_cons_succ, List.getElem_cons_zero]
                  refine ordU_ready (rs := [16]) (by kernel_rfl) (by simp) ?_
                  refine AllU.cons rfl (fun K hK => ?_) AllU.nil
                  go_simp
                  have h1 := pVal_any (.agg #[.int .i64 md.n, .slice Av md.val.length cv, .slice Ar md.rel.length cr]) md n sx sy W3.drew (HM.out.ext ((HXW.out.trans HXA.out).trans ((Ext.refl _).drew))) HOK.out HCM.out HHD.out HSXW.out HSYW.out (fun ha hb => (head_grp HHD.out ha hb))
                  unfold Nd.val at h1
                  obtain ⟨ov, hov⟩ : ∃ o, o = valP md n sx sy := ⟨_, rfl⟩
                  obtain ⟨fv, hfv⟩ : ∃ o, o = fineP md n := ⟨_, rfl⟩
                  have HOV := Lib.hid hov
                  have HFV := Lib.hid hfv
                  rw [← hov, ← hfv, ← HOP.out, HIX.out, HIY.out] at h1
                  clear hov hfv
                  refine h1.mono ?_
                  clear h1
                  rintro e w5 ⟨rfl, hx0⟩
                  have hx5 : Ext W3 w5 := Ext.trans ((Ext.refl _).drew) hx0
                  have HX5 := Lib.hid hx5
                  have HU5 := Lib.hid (HUA.out.ext hx5)
                  have HF5 := Lib.hid (HFA.out.ext hx5)
                  have cg := HU5.out.cell (j := k) (by rw [HLU.out]; exact hlt2)
                  have fg := HU5.out.frozen k
                  clear hx0
                  go_wp2_with fail
                  refine hK.out _ _ ⟨(Ext.cell (p := ⟨b, 0, none⟩) (by repeat (first | exact Ext.refl _ | assumption | apply Ext.alloc | apply Ext.drew | apply Ext.setCell)) eb).trans e0, (Ext.cell (p := ⟨b, 1, none⟩) (by repeat (first | exact Ext.refl _ | assumption | apply Ext.alloc | apply Ext.drew | apply Ext.setCell)) eb).trans e1, (Ext.cell (p := ⟨b, 2, none⟩) (by repeat (first | exact Ext.refl _ | assumption | apply Ext.alloc | apply Ext.drew | apply Ext.setCell)) eb).trans e2, (Ext.cell (p := ⟨q, 0, none⟩) (by repeat (first | exact Ext.refl _ | assumption | apply Ext.alloc | apply Ext.drew | apply Ext.setCell)) dl).trans d0, (Ext.cell (p := ⟨q, 1, none⟩) (by repeat (first | exact Ext.refl _ | assumption | apply Ext.alloc | apply Ext.drew | apply Ext.setCell)) dl).trans d1, (Ext.cell (p := ⟨q, 2, none⟩) (by repeat (first | exact Ext.refl _ | assumption | apply Ext.alloc | apply Ext.drew | apply Ext.setCell)) dl).trans d2, (Ext.cell (p := ⟨q, 3, none⟩) (by repeat (first | exact Ext.refl _ | assumption | apply Ext.alloc | apply Ext.drew | apply Ext.setCell)) dl).trans d3, (Ext.cell (p := ⟨q, 4, none⟩) (by repeat (first | exact Ext.refl _ | assumption | apply Ext.alloc | apply Ext.drew | apply Ext.setCell)) dl).trans d4, (Ext.cell (p := ⟨q, 5, none⟩) (by repeat (first | exact Ext.refl _ | assumption | apply Ext.alloc | apply Ext.drew | apply Ext.setCell)) dl).trans d5⟩ (fun hHeld => ?_)
                  clear hK K
                  try simp only [Act.put, List.setIfInBounds_toArray, List.set_cons_zero, List.set_cons_succ, List.getElem_toArray, List.getElem_cons_succ, List.getElem_cons_zero]
                  refine' ordU_take (i := 17) (v := _) rfl (by kernel_rfl) (by kernel_rfl) (by kernel_rfl) (by kernel_rfl) (fun _ _ _ h => h) (Or.inl ⟨by rfl, ?hybu115⟩) hHeld ?restbu115
                  case hybu115 => (intro w' hSw; (try dsimp only at hSw); go_simp; (try with_reducible rfl))
                  try simp only [Act.put, List.setIfInBounds_toArray, List.set_cons_zero, List.set_cons_succ, List.getElem_toArray, List.getElem_cons_succ, List.getElem_cons_zero]
                  refine' ordU_take (i := 18) (v := _) rfl (by kernel_rfl) (by kernel_rfl) (by kernel_rfl) (by kernel_rfl) (fun _ _ _ h => h) (Or.inl ⟨by rfl, ?hybu116⟩) hHeld ?restbu116
                  case hybu116 => (intro w' hSw; (try dsimp only at hSw); go_simp; (try with_reducible rfl))
                  try simp only [Act.put, List.setIfInBounds_toArray, List.set_cons_zero, List.set_cons_succ, List.getElem_toArray, List.getElem_cons_succ, List.getElem_cons_zero]
                  refine' ordU_take (i := 19) (v := _) rfl (by kernel_rfl) (by kernel_rfl) (by kernel_rfl) (by kernel_rfl) (fun _ _ _ h => h) (Or.inl ⟨by rfl, ?hybu117⟩) hHeld ?restbu117
                  case hybu117 => (intro w' hSw; (try dsimp only at hSw); go_simp; (try with_reducible rfl))
                  try simp only [Act.put, List.setIfInBounds_toArray, List.set_cons_zero, List.set_cons_succ, List.getElem_toArray, List.getElem_cons_succ, List.getElem_cons_zero]
                  refine' ordU_take (i := 20) (v := _) rfl (by kernel_rfl) (by kernel_rfl) (by kernel_rfl) (by kernel_rfl) (fun _ _ _ h => h) (Or.inl ⟨by rfl, ?hybu118⟩) hHeld ?restbu118
                  case hybu118 => (intro w' hSw; (try dsimp only at hSw); go_simp; (try with_reducible rfl))
                  try simp only [Act.put, List.setIfInBounds_toArray, List.set_cons_zero, List.set_cons_succ, List.getElem_toArray, List.getElem_cons_succ, List.getElem_cons_zero]
                  refine ordU_ready (rs := [21]) (by kernel_rfl) (by simp) ?_
                  refine AllU.cons rfl (fun K hK => ?_) AllU.nil
                  go_simp
                  obtain ⟨HU6a, HU6b⟩ := HU5.out.set k ov
                  have HU6 := Lib.hid HU6a
                  have HF6 := Lib.hid (HF5.out.kept HU6b HGN2.out)
                  have ch := HF6.out.cell (j := k) (by rw [HLF.out]; exact hlt2)
                  have fh := HF6.out.frozen k
                  have HX6 := Lib.hid (((HX.out.trans HXA.out).trans HX5.out).setCell (p := ⟨g, k, none⟩) (by have h2 := HG.out; show w1.heap.size ≤ g; omega) (.int .u64 (ov : Int)))
                  clear HU6a HU6b
                  refine hK.out _ _ ⟨(World.cell?_of_block (a := ⟨b, 0, none⟩) (Below.heap_setCell _ _ _ _ HNB.out)).trans ((HX5.out.cell (p := ⟨b, 0, none⟩) eb).trans e0), (World.cell?_of_block (a := ⟨b, 1, none⟩) (Below.heap_setCell _ _ _ _ HNB.out)).trans ((HX5.out.cell (p := ⟨b, 1, none⟩) eb).trans e1), (World.cell?_of_block (a := ⟨b, 2, none⟩) (Below.heap_setCell _ _ _ _ HNB.out)).trans ((HX5.out.cell (p := ⟨b, 2, none⟩) eb).trans e2), (World.cell?_of_block (a := ⟨q, 0, none⟩) (Below.heap_setCell _ _ _ _ HNQ.out)).trans ((HX5.out.cell (p := ⟨q, 0, none⟩) dl).trans d0), (World.cell?_of_block (a := ⟨q, 1, none⟩) (Below.heap_setCell _ _ _ _ HNQ.out)).trans ((HX5.out.cell (p := ⟨q, 1, none⟩) dl).trans d1), (World.cell?_of_block (a := ⟨q, 2, none⟩) (Below.heap_setCell _ _ _ _ HNQ.out)).trans ((HX5.out.cell (p := ⟨q, 2, none⟩) dl).trans d2), (World.cell?_of_block (a := ⟨q, 3, none⟩) (Below.heap_setCell _ _ _ _ HNQ.out)).trans ((HX5.out.cell (p := ⟨q, 3, none⟩) dl).trans d3), (World.cell?_of_block (a := ⟨q, 4, none⟩) (Below.heap_setCell _ _ _ _ HNQ.out)).trans ((HX5.out.cell (p := ⟨q, 4, none⟩) dl).trans d4), (World.cell?_of_block (a := ⟨q, 5, none⟩) (Below.heap_setCell _ _ _ _ HNQ.out)).trans ((HX5.out.cell (p := ⟨q, 5, none⟩) dl).trans d5)⟩ (fun hHeld => ?_)
                  clear hK K
                  try simp only [Act.put, List.setIfInBounds_toArray, List.set_cons_zero, List.set_cons_succ, List.getElem_toArray, List.getElem_cons_succ, List.getElem_cons_zero]
                  refine' ordU_take (i := 22) (v := _) rfl (by kernel_rfl) (by kernel_rfl) (by kernel_rfl) (by kernel_rfl) (fun _ _ _ h => h) (Or.inl ⟨by rfl, ?hybu119⟩) hHeld ?restbu119
                  case hybu119 => (intro w' hSw; (try dsimp only at hSw); go_simp; (try with_reducible rfl))
                  try simp only [Act.put, List.setIfInBounds_toArray, List.set_cons_zero, List.set_cons_succ, List.getElem_toArray, List.getElem_cons_succ, List.getElem_cons_zero]
                  refine ordU_last (by kernel_rfl) rfl (fun K hK => ?_)
                  go_simp
                  refine hK.out _ _ ?_
                  clear hK K
                  try simp only [Act.put, List.setIfInBounds_toArray, List.set_cons_zero, List.set_cons_succ, List.getElem_toArray, List.getElem_cons_succ, List.getElem_cons_zero]
                  refine ordU_done (by kernel_rfl) ?_ _
                  obtain ⟨HF7a, HF7b⟩ := HF6.out.set k fv
                  have HS1' := Lib.hid (show szU md f (k + 1) = (szU md f k).set k ov by rw [HS1.out, HOV.out, HSX.out, HSY.out, HIX.out, HIY.out]; rfl)
                  have HS2' := Lib.hid (show szF md f (k + 1) = (szF md f k).set k fv by rw [HS2.out, HFV.out])
                  have HF7 := Lib.hid HF7a
                  have HU7 := Lib.hid (HU6.out.kept HF7b HGN3.out)
                  have HX7 := Lib.hid (HX6.out.setCell (p := ⟨h, k, none⟩) (by have h2 := HG.out; have h3 := HGS.out; show w1.heap.size ≤ h; omega) (.bool fv))
                  clear HF7a HF7b
                  go_wp2_with fail
                  go_roundw
                  case rel => exact ⟨k + 1, by go_num, by omega, Lib.hid ⟨HX7.out, by rw [HS1'.out]; exact HU7.out, by rw [HS2'.out]; exact HF7.out⟩⟩
                  case measure => simp [intOf]; omega
                · skip
                  go_simp
                  refine hK.out _ _ ⟨(Ext.cell (p := ⟨b, 0, none⟩) (by repeat (first | exact Ext.refl _ | assumption | apply Ext.alloc | apply Ext.drew | apply Ext.setCell)) eb).trans e0, (Ext.cell (p := ⟨b, 1, none⟩) (by repeat (first | exact Ext.refl _ | assumption | apply Ext.alloc | apply Ext.drew | apply Ext.setCell)) eb).trans e1, (Ext.cell (p := ⟨b, 2, none⟩) (by repeat (first | exact Ext.refl _ | assumption | apply Ext.alloc | apply Ext.drew | apply Ext.setCell)) eb).trans e2, (Ext.cell (p := ⟨q, 0, none⟩) (by repeat (first | exact Ext.refl _ | assumption | apply Ext.alloc | apply Ext.drew | apply Ext.setCell)) dl).trans d0, (Ext.cell (p := ⟨q, 1, none⟩) (by repeat (first | exact Ext.refl _ | assumption | apply Ext.alloc | apply Ext.drew | apply Ext.setCell)) dl).trans d1, (Ext.cell (p := ⟨q, 2, none⟩) (by repeat (first | exact Ext.refl _ | assumption | apply Ext.alloc | apply Ext.drew | apply Ext.setCell)) dl).trans d2, (Ext.cell (p := ⟨q, 3, none⟩) (by repeat (first | exact Ext.refl _ | assumption | apply Ext.alloc | apply Ext.drew | apply Ext.setCell)) dl).trans d3, (Ext.cell (p := ⟨q, 4, none⟩) (by repeat (first | exact Ext.refl _ | assumption | apply Ext.alloc | apply Ext.drew | apply Ext.setCell)) dl).trans d4, (Ext.cell (p := ⟨q, 5, none⟩) (by repeat (first | exact Ext.refl _ | assumption | apply Ext.alloc | apply Ext.drew | apply Ext.setCell)) dl).trans d5⟩ (fun hHeld => ?_)
                  clear hK K
                  try simp only [Act.put, List.setIfInBounds_toArray, List.set_cons_zero, List.set_cons_succ, List.getElem_toArray, List.getElem_cons_succ, List.getElem_cons_zero]
                  refine ordU_ready (rs := [10]) (by kernel_rfl) (by simp) ?_
                  refine AllU.cons rfl (fun K hK => ?_) AllU.nil
                  go_simp
                  refine hK.out _ _ ⟨(Ext.cell (p := ⟨b, 0, none⟩) (by repeat (first | exact Ext.refl _ | assumption | apply Ext.alloc | apply Ext.drew | apply Ext.setCell)) eb).trans e0, (Ext.cell (p := ⟨b, 1, none⟩) (by repeat (first | exact Ext.refl _ | assumption | apply Ext.alloc | apply Ext.drew | apply Ext.setCell)) eb).trans e1, (Ext.cell (p := ⟨b, 2, none⟩) (by repeat (first | exact Ext.refl _ | assumption | apply Ext.alloc | apply Ext.drew | apply Ext.setCell)) eb).trans e2, (Ext.cell (p := ⟨q, 0, none⟩) (by repeat (first | exact Ext.refl _ | assumption | apply Ext.alloc | apply Ext.drew | apply Ext.setCell)) dl).trans d0, (Ext.cell (p := ⟨q, 1, none⟩) (by repeat (first | exact Ext.refl _ | assumption | apply Ext.alloc | apply Ext.drew | apply Ext.setCell)) dl).trans d1, (Ext.cell (p := ⟨q, 2, none⟩) (by repeat (first | exact Ext.refl _ | assumption | apply Ext.alloc | apply Ext.drew | apply Ext.setCell)) dl).trans d2, (Ext.cell (p := ⟨q, 3, none⟩) (by repeat (first | exact Ext.refl _ | assumption | apply Ext.alloc | apply Ext.drew | apply Ext.setCell)) dl).trans d3, (Ext.cell (p := ⟨q, 4, none⟩) (by repeat (first | exact Ext.refl _ | assumption | apply Ext.alloc | apply Ext.drew | apply Ext.setCell)) dl).trans d4, (Ext.cell (p := ⟨q, 5, none⟩) (by repeat (first | exact Ext.refl _ | assumption | apply Ext.alloc | apply Ext.drew | apply Ext.setCell)) dl).trans d5⟩ (fun hHeld => ?_)
                  clear hK K
                  try simp only [Act.put, List.setIfInBounds_toArray, List.set_cons_zero, List.set_cons_succ, List.getElem_toArray, List.getElem_cons_succ, List.getElem_cons_zero]
                  refine ordU_ready (rs := [16]) (by kernel_rfl) (by simp) ?_
                  refine AllU.cons rfl (fun K hK => ?_) AllU.nil
                  go_simp
                  have h1 := pVal_any (.agg #[.int .i64 md.n, .slice Av md.val.length cv, .slice Ar md.rel.length cr]) md n sx sy W3.drew (HM.out.ext ((HXW.out.trans HXA.out).trans ((Ext.refl _).drew))) HOK.out HCM.out HHD.out HSXW.out HSYW.out (fun ha hb => (head_grp HHD.out ha hb))
                  unfold Nd.val at h1
                  obtain ⟨ov, hov⟩ : ∃ o, o = valP md n sx sy := ⟨_, rfl⟩
                  obtain ⟨fv, hfv⟩ : ∃ o, o = fineP md n := ⟨_, rfl⟩
                  have HOV := Lib.hid hov
                  have HFV := Lib.hid hfv
                  rw [← hov, ← hfv, ← HOP.out, HIX.out, HIY.out] at h1
                  clear hov hfv
                  refine h1.mono ?_
                  clear h1
                  rintro e w5 ⟨rfl, hx0⟩
                  have hx5 : Ext W3 w5 := Ext.trans ((Ext.refl _).drew) hx0
                  have HX5 := Lib.hid hx5
                  have HU5 := Lib.hid (HUA.out.ext hx5)
                  have HF5 := Lib.hid (HFA.out.ext hx5)
                  have cg := HU5.out.cell (j := k) (by rw [HLU.out]; exact hlt2)
                  have fg := HU5.out.frozen k
                  clear hx0
                  go_wp2_with fail
                  refine hK.out _ _ ⟨(Ext.cell (p := ⟨b, 0, none⟩) (by repeat (first | exact Ext.refl _ | assumption | apply Ext.alloc | apply Ext.drew | apply Ext.setCell)) eb).trans e0, (Ext.cell (p := ⟨b, 1, none⟩) (by repeat (first | exact Ext.refl _ | assumption | apply Ext.alloc | apply Ext.drew | apply Ext.setCell)) eb).trans e1, (Ext.cell (p := ⟨b, 2, none⟩) (by repeat (first | exact Ext.refl _ | assumption | apply Ext.alloc | apply Ext.drew | apply Ext.setCell)) eb).trans e2, (Ext.cell (p := ⟨q, 0, none⟩) (by repeat (first | exact Ext.refl _ | assumption | apply Ext.alloc | apply Ext.drew | apply Ext.setCell)) dl).trans d0, (Ext.cell (p := ⟨q, 1, none⟩) (by repeat (first | exact Ext.refl _ | assumption | apply Ext.alloc | apply Ext.drew | apply Ext.setCell)) dl).trans d1, (Ext.cell (p := ⟨q, 2, none⟩) (by repeat (first | exact Ext.refl _ | assumption | apply Ext.alloc | apply Ext.drew | apply Ext.setCell)) dl).trans d2, (Ext.cell (p := ⟨q, 3, none⟩) (by repeat (first | exact Ext.refl _ | assumption | apply Ext.alloc | apply Ext.drew | apply Ext.setCell)) dl).trans d3, (Ext.cell (p := ⟨q, 4, none⟩) (by repeat (first | exact Ext.refl _ | assumption | apply Ext.alloc | apply Ext.drew | apply Ext.setCell)) dl).trans d4, (Ext.cell (p := ⟨q, 5, none⟩) (by repeat (first | exact Ext.refl _ | assumption | apply Ext.alloc | apply Ext.drew | apply Ext.setCell)) dl).trans d5⟩ (fun hHeld => ?_)
                  clear hK K
                  try simp only [Act.put, List.setIfInBounds_toArray, List.set_cons_zero, List.set_cons_succ, List.getElem_toArray, List.getElem_cons_succ, List.getElem_cons_zero]
                  refine' ordU_take (i := 17) (v := _) rfl (by kernel_rfl) (by kernel_rfl) (by kernel_rfl) (by kernel_rfl) (fun _ _ _ h => h) (Or.inl ⟨by rfl, ?hybu120⟩) hHeld ?restbu120
                  case hybu120 => (intro w' hSw; (try dsimp only at hSw); go_simp; (try with_reducible rfl))
                  try simp only [Act.put, List.setIfInBounds_toArray, List.set_cons_zero, List.set_cons_succ, List.getElem_toArray, List.getElem_cons_succ, List.getElem_cons_zero]
                  refine' ordU_take (i := 18) (v := _) rfl (by kernel_rfl) (by kernel_rfl) (by kernel_rfl) (by kernel_rfl) (fun _ _ _ h => h) (Or.inl ⟨by rfl, ?hybu121⟩) hHeld ?restbu121
                  case hybu121 => (intro w' hSw; (try dsimp only at hSw); go_simp; (try with_reducible rfl))
                  try simp only [Act.put, List.setIfInBounds_toArray, List.set_cons_zero, List.set_cons_succ, List.getElem_toArray, List.getElem_cons_succ, List.getElem_cons_zero]
                  refine' ordU_take (i := 19) (v := _) rfl (by kernel_rfl) (by kernel_rfl) (by kernel_rfl) (by kernel_rfl) (fun _ _ _ h => h) (Or.inl ⟨by rfl, ?hybu122⟩) hHeld ?restbu122
                  case hybu122 => (intro w' hSw; (try dsimp only at hSw); go_simp; (try with_reducible rfl))
                  try simp only [Act.put, List.setIfInBounds_toArray, List.set_cons_zero, List.set_cons_succ, List.getElem_toArray, List.getElem_cons_succ, List.getElem_cons_zero]
                  refine' ordU_take (i := 20) (v := _) rfl (by kernel_rfl) (by kernel_rfl) (by kernel_rfl) (by kernel_rfl) (fun _ _ _ h => h) (Or.inl ⟨by rfl, ?hybu123⟩) hHeld ?restbu123
                  case hybu123 => (intro w' hSw; (try dsimp only at hSw); go_simp; (try with_reducible rfl))
                  try simp only [Act.put, List.setIfInBounds_toArray, List.set_cons_zero, List.set_cons_succ, List.getElem_toArray, List.getElem_cons_succ, List.getElem_cons_zero]
                  refine ordU_ready (rs := [21]) (by kernel_rfl) (by simp) ?_
                  refine AllU.cons rfl (fun K hK => ?_) AllU.nil
                  go_simp
                  obtain ⟨HU6a, HU6b⟩ := HU5.out.set k ov
                  have HU6 := Lib.hid HU6a
                  have HF6 := Lib.hid (HF5.out.kept HU6b HGN2.out)
                  have ch := HF6.out.cell (j := k) (by rw [HLF.out]; exact hlt2)
                  have fh := HF6.out.frozen k
                  have HX6 := Lib.hid (((HX.out.trans HXA.out).trans HX5.out).setCell (p := ⟨g, k, none⟩) (by have h2 := HG.out; show w1.heap.size ≤ g; omega) (.int .u64 (ov : Int)))
                  clear HU6a HU6b
                  refine hK.out _ _ ⟨(World.cell?_of_block (a := ⟨b, 0, none⟩) (Below.heap_setCell _ _ _ _ HNB.out)).trans ((HX5.out.cell (p := ⟨b, 0, none⟩) eb).trans e0), (World.cell?_of_block (a := ⟨b, 1, none⟩) (Below.heap_setCell _ _ _ _ HNB.out)).trans ((HX5.out.cell (p := ⟨b, 1, none⟩) eb).trans e1), (World.cell?_of_block (a := ⟨b, 2, none⟩) (Below.heap_setCell _ _ _ _ HNB.out)).trans ((HX5.out.cell (p := ⟨b, 2, none⟩) eb).trans e2), (World.cell?_of_block (a := ⟨q, 0, none⟩) (Below.heap_setCell _ _ _ _ HNQ.out)).trans ((HX5.out.cell (p := ⟨q, 0, none⟩) dl).trans d0), (World.cell?_of_block (a := ⟨q, 1, none⟩) (Below.heap_setCell _ _ _ _ HNQ.out)).trans ((HX5.out.cell (p := ⟨q, 1, none⟩) dl).trans d1), (World.cell?_of_block (a := ⟨q, 2, none⟩) (Below.heap_setCell _ _ _ _ HNQ.out)).trans ((HX5.out.cell (p := ⟨q, 2, none⟩) dl).trans d2), (World.cell?_of_block (a := ⟨q, 3, none⟩) (Below.heap_setCell _ _ _ _ HNQ.out)).trans ((HX5.out.cell (p := ⟨q, 3, none⟩) dl).trans d3), (World.cell?_of_block (a := ⟨q, 4, none⟩) (Below.heap_setCell _ _ _ _ HNQ.out)).trans ((HX5.out.cell (p := ⟨q, 4, none⟩) dl).trans d4), (World.cell?_of_block (a := ⟨q, 5, none⟩) (Below.heap_setCell _ _ _ _ HNQ.out)).trans ((HX5.out.cell (p := ⟨q, 5, none⟩) dl).trans d5)⟩ (fun hHeld => ?_)
                  clear hK K
                  try simp only [Act.put, List.setIfInBounds_toArray, List.set_cons_zero, List.set_cons_succ, List.getElem_toArray, List.getElem_cons_succ, List.getElem_cons_zero]
                  refine' ordU_take (i := 22) (v := _) rfl (by kernel_rfl) (by kernel_rfl) (by kernel_rfl) (by kernel_rfl) (fun _ _ _ h => h) (Or.inl ⟨by rfl, ?hybu124⟩) hHeld ?restbu124
                  case hybu124 => (intro w' hSw; (try dsimp only at hSw); go_simp; (try with_reducible rfl))
                  try simp only [Act.put, List.setIfInBounds_toArray, List.set_cons_zero, List.set_cons_succ, List.getElem_toArray, List.getElem_cons_succ, List.getElem_cons_zero]
                  refine ordU_last (by kernel_rfl) rfl (fun K hK => ?_)
                  go_simp
                  refine hK.out _ _ ?_
                  clear hK K
                  try simp only [Act.put, List.setIfInBounds_toArray, List.set_cons_zero, List.set_cons_succ, List.getElem_toArray, List.getElem_cons_succ, List.getElem_cons_zero]
                  refine ordU_done (by kernel_rfl) ?_ _
                  obtain ⟨HF7a, HF7b⟩ := HF6.out.set k fv
                  have HS1' := Lib.hid (show szU md f (k + 1) = (szU md f k).set k ov by rw [HS1.out, HOV.out, HSX.out, HSY.out, HIX.out, HIY.out]; rfl)
                  have HS2' := Lib.hid (show szF md f (k + 1) = (szF md f k).set k fv by rw [HS2.out, HFV.out])
                  have HF7 := Lib.hid HF7a
                  have HU7 := Lib.hid (HU6.out.kept HF7b HGN3.out)
                  have HX7 := Lib.hid (HX6.out.setCell (p := ⟨h, k, none⟩) (by have h2 := HG.out; have h3 := HGS.out; show w1.heap.size ≤ h; omega) (.bool fv))
                  clear HF7a HF7b
                  go_wp2_with fail
                  go_roundw
                  case rel => exact ⟨k + 1, by go_num, by omega, Lib.hid ⟨HX7.out, by rw [HS1'.out]; exact HU7.out, by rw [HS2'.out]; exact HF7.out⟩⟩
                  case measure => simp [intOf]; omega
      · obtain rfl : f.length = k := by omega
        go_wp2_with fail
        go_ret2
        exact ⟨_, rfl, HXW.out, Lib.hid fun _ => by have h1 := HU.out.u64s; rw [szU_all, (setsP_len md f f.length).1] at h1; exact h1⟩
  · have hzb : (er == 0) = false := by rw [beq_eq_false_iff_ne]; exact hz
    have HZ := Lib.hid hz
    clear hz
    go_enter Tryd.func40, Tryd.ntmps40
    go_wp2_with fail
    refine (pReq_any _ _ md f _ (HM.out.ext HX0.out) HOK.out (H.out.ext HX0.out)).mono ?_
    rintro e w1 ⟨rfl, hx1⟩
    rw [← HER.out]
    have HX1 := Lib.hid (HX0.out.trans hx1)
    clear hx1
    go_wp2_with fail
    go_ret2
    exact ⟨_, rfl, HX1.out, Lib.hid fun e => absurd e HZ.out⟩
end Go.Proofs.YtdpblciohodgcaaDoor
