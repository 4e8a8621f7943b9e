/- The reference's checker: Sets, the walk. -/
import Derived.Test.YtbfeodammikajaaGreatS28
import Derived.Test.YtbfeodammikajaaGreatS09
import Derived.Test.YtbfeodammikajaaGreatS17

namespace Go.Proofs.YtbfeodammikajaaGreat
open Go.RowKit

set_option maxRecDepth 100000 in
set_option maxHeartbeats 64000000 in
theorem sets_any (vm v : Value) (md : Md) (f : List Nd) (w : World) (hm : MdV w vm md) (hok : md.ok) (h : Fml w v f) :
    Calls Tryz.prog 41 #[vm, v] w fun e w' => ∃ u, e = .returned (.tuple #[u, .int .i64 (chk17 md f)]) ∧ Ext w w' ∧ Hid (MadeU w.heap.size w' u (if chk17 md f = 0 then setsK md f f.length else [])) := by
  have H := Lib.hid h
  have HM := Lib.hid hm
  have HOK := Lib.hid hok
  obtain ⟨iU, hiU, hzU0, hzU1, hzU2⟩ := info_parts tInfoU8
  obtain ⟨vv, vr, rfl, ⟨Av, cv, rfl, _⟩, ⟨Ar, cr, rfl, _⟩⟩ := hm
  obtain ⟨⟨A, c, rfl, hfc, hfm, hread⟩, _⟩ := h
  have HREAD := Lib.hid hread
  unfold maxLen at hfm
  clear hok hread
  have HX0 := Lib.hid (show Ext w (w.alloc (.cells #[.int .i64 md.n, .slice Av md.val.length cv, .slice Ar md.rel.length cr] 38)) from (Ext.refl _).alloc _)
  have HB0 := Lib.hid (show (w.alloc (.cells #[.int .i64 md.n, .slice Av md.val.length cv, .slice Ar md.rel.length cr] 38)).heap[w.heap.size]? = some (.cells #[.int .i64 md.n, .slice Av md.val.length cv, .slice Ar md.rel.length cr] 38 (0, 0)) from heap_alloc_new _ _)
  obtain ⟨er, her⟩ : ∃ er, er = chk17 md f := ⟨_, rfl⟩
  have HER := Lib.hid her
  rw [← her]
  clear her
  by_cases hz : er = 0
  · subst hz
    obtain ⟨hcm, hcf, _, _⟩ := chk17_zero HER.out.symm
    have HCM := Lib.hid hcm
    have HCF := Lib.hid hcf
    obtain ⟨hn1, hn64, hr4, hv8, _, _, _⟩ := checkM_zero hcm
    have HN64 := Lib.hid (show md.n.toNat ≤ 64 by omega)
    have HR4 := Lib.hid hr4
    have hfl := (check_parts hcf).2.1
    clear hcm hcf hn1 hn64 hr4 hv8
    go_enter Tryz.func41, Tryz.ntmps41
    go_wp2_with fail
    refine (chk17_any _ _ md f _ (HM.out.ext HX0.out) HOK.out (H.out.ext HX0.out)).mono ?_
    rintro e w1 ⟨rfl, hx1⟩
    rw [← HER.out]
    have HX1 := Lib.hid (HX0.out.trans hx1)
    have HB1 := Lib.hid ((hx1.block (lt_heap HB0.out)).trans HB0.out)
    obtain ⟨b, hb⟩ : ∃ b, b = w.heap.size := ⟨_, rfl⟩
    rw [← hb] at HB1 ⊢
    have HBL := Lib.hid (show b < w1.heap.size from lt_heap HB1.out)
    clear hx1 HB0 hb
    go_wp2_with fail
    go_loopw [7, 8] (fun vo vi wr => ∃ k : Nat, vi = .int .i64 (k : Int) ∧ k ≤ f.length ∧ Hid (Ext w1 wr ∧ MadeU w1.heap.size wr vo (setsK md f k))) (fun _ v _ => f.length - (intOf v).toNat)
    case atStart => exact ⟨0, rfl, Nat.zero_le _, Lib.hid ⟨Ext.refl _, MadeU.nil _ _⟩⟩
    case round =>
      obtain ⟨k, rfl, hk, HREL⟩ := hrel
      have HX := Lib.hid HREL.out.1
      have HRW := Lib.hid HREL.out.2
      obtain ⟨out, hout⟩ : ∃ o, o = setsK md f k := ⟨_, rfl⟩
      have hol : out.length ≤ f.length := by rw [hout, setsK_len]; exact hk
      have HOL := Lib.hid (show out.length = k by rw [hout, setsK_len])
      have HOW := Lib.hid (show ∀ s ∈ out, word s by rw [hout]; exact setsK_word HOK.out HN64.out f k)
      have HOUT := Lib.hid hout
      rw [← hout] at HRW
      obtain ⟨Ax, cx, rfl⟩ := slice_of_row HRW.out
      obtain ⟨e0, e1, e2, eb⟩ := cells3y ((HX.out.block HBL.out).trans HB1.out)
      have HXW := Lib.hid (HX1.out.trans HX.out)
      clear HREL hout
      by_cases hlt2 : k < f.length
      · have hk1 : (k : Int) < (f.length : Int) := by omega
        have hc3 : out.length + 1 ≤ maxLen := by unfold maxLen; omega
        have hc4 : (out.length + 1) * 8 ≤ 140737488355328 := by omega
        obtain ⟨wq, hwq⟩ : ∃ v, v = wr := ⟨_, rfl⟩
        subst hwq
        obtain ⟨ft, hft⟩ : ∃ t, t = fit17 md f (k : Int) := ⟨_, rfl⟩
        have HFT := Lib.hid hft
        clear hft
        go_wp2_with fail
        refine (fits17_any _ _ md f (k : Int) _ (HM.out.ext HXW.out) (H.out.ext HXW.out)).mono ?_
        rintro e w2 ⟨rfl, hx2⟩
        rw [← HFT.out]
        have HX2 := Lib.hid (HX.out.trans hx2)
        have HRX := Lib.hid (HRW.out.ext hx2)
        have HXW2 := Lib.hid (HXW.out.trans hx2)
        clear hx2 e0 e1 e2 eb
        cases ft
        · have HSK := Lib.hid (show setsK md f (k + 1) = out ++ [0] by
            show setsK md f k ++ [setS md f (setsK md f k) k] = _
            rw [← HOUT.out]
            unfold setS
            rw [← HFT.out]
            rfl)
          go_wp2_with (at_builtin; refine wpList_append_own_at _ rfl _ _ 27 rfl w1.heap.size 40 iU (.int .u64 0) 1 8 Tryz.underlying27 hiU hzU0 hzU1 hzU2 rfl (by decide) _ out.length (uV out) rfl (row_ext HRX.out ((Ext.refl _).alloc _)) ⟨_, 0, none⟩ 1 1 [.int .u64 0] rfl rfl (row_new_at _ _ _ (by simp)) (fun u hu => by rw [List.mem_singleton.1 hu]; rfl) hc3 hc4 (Nat.le_trans HX2.out.size (by simp)) ?_)
          intro v7 w7 hown7 hgrow7 _ _
          have HX7 := Lib.hid (show Ext w1 w7 from (HX2.out.alloc _).grown hgrow7 (fun k hk => (HRX.out.lt k hk).1))
          have HM7 := Lib.hid (show MadeU w1.heap.size w7 v7 (setsK md f (k + 1)) by
            rw [HSK.out]
            unfold MadeU uV
            rw [List.map_append, List.length_append]
            exact hown7)
          obtain ⟨A7, c7, rfl⟩ := slice_of_row hown7
          clear hown7 hgrow7
          go_wp2_with fail
          go_roundw
          case rel => exact ⟨k + 1, by go_num, by omega, Lib.hid ⟨HX7.out, HM7.out⟩⟩
          case measure => simp [intOf]; omega
        · obtain ⟨n, hn⟩ : ∃ n, f[k]? = some n := ⟨_, List.getElem?_eq_getElem hlt2⟩
          have HFN := Lib.hid (fit_nd HCF.out hn HFT.out.symm HR4.out)
          have HND := Lib.hid (show f.getD k Nd.zero = n by rw [List.getD_eq_getElem?_getD, hn]; rfl)
          have HWF := Lib.hid (check_wf HCF.out k n hn)
          obtain ⟨ad, rfl, hadl, hcells⟩ := HREAD.out (by intro e; rw [e] at hlt2; simp at hlt2)
          have HNA := Lib.hid (hcells k n hn)
          obtain ⟨c0, c1, c2, c3, c4, c5⟩ := (hcells k n hn).keep fun p hp => HXW2.out.cell (p := p) (by rw [hp, block_of_add]; exact hadl)
          have hbl : (ad.add (k * 6)).block < w2.heap.size := by rw [block_of_add]; exact Nat.lt_of_lt_of_le hadl HXW2.out.size
          have HSK := Lib.hid (show setsK md f (k + 1) = out ++ [oneN md n (if hasX n.op then out.getD n.x.toNat 0 else 0) (if hasY n.op then out.getD n.y.toNat 0 else 0)] by
            show setsK md f k ++ [setS md f (setsK md f k) k] = _
            rw [← HOUT.out]
            unfold setS
            rw [← HFT.out, HND.out]
            rfl)
          clear hn hcells
          obtain ⟨bx, hbx⟩ : ∃ t, t = hasX n.op := ⟨_, rfl⟩
          obtain ⟨by_, hby⟩ : ∃ t, t = hasY n.op := ⟨_, rfl⟩
          have HBXE := Lib.hid hbx
          have HBYE := Lib.hid hby
          rw [← hbx, ← hby] at HSK HWF
          clear hbx hby
          cases bx
          · cases by_
            · skip
              obtain ⟨xval, hxv⟩ : ∃ v : Nat, v = 0 := ⟨_, rfl⟩
              have HXV := Lib.hid (show word xval by rw [hxv]; show (0 : Nat) < _; omega)
              obtain ⟨yv, hyv⟩ : ∃ v : Nat, v = 0 := ⟨_, rfl⟩
              have HYV := Lib.hid (show word yv by rw [hyv]; show (0 : Nat) < _; omega)
              have HSK2 := Lib.hid (show setsK md f (k + 1) = out ++ [oneN md n xval yv] by rw [HSK.out]; simp only [if_false, Bool.false_eq_true]; rw [hxv]; rw [hyv])
              have HXZ := Lib.hid hxv
              clear hxv
              have HYZ := Lib.hid hyv
              clear hyv
              go_wp2_with fail
              refine (usesX_any n.op _).mono ?_
              rintro e w3 ⟨rfl, rfl⟩
              rw [← HBXE.out]
              go_wp2_with fail
              refine (usesY_any n.op _).mono ?_
              rintro e w4 ⟨rfl, rfl⟩
              rw [← HBYE.out]
              go_upto_region 15 with (fail)
              obtain ⟨e0, e1, e2, eb⟩ := cells3y ((HX2.out.block HBL.out).trans HB1.out)
              have hbx : (Value.slice Ax out.length cx).ownBlock ≠ some b := fun e => by
                have h1 := (HRX.out.lt b e).1
                have h2 := HBL.out
                omega
              have HBX := Lib.hid hbx
              have HNX := Lib.hid (show (Value.slice Ax out.length cx).ownBlock ≠ some (ad.add (k * 6)).block from fun e => by
                have h1 := (HRX.out.lt _ e).1
                rw [block_of_add] at h1
                have h2 := HX1.out.size
                omega)
              clear hbx
              refine ordU_region 11 (fun w' => w'.cell? (⟨b, 0, none⟩) = some (.int .i64 md.n) ∧ w'.cell? (⟨b, 1, none⟩) = some (.slice Av md.val.length cv) ∧ w'.cell? (⟨b, 2, none⟩) = some (.slice Ar md.rel.length cr) ∧ w'.cell? (ad.add (k * 6)) = some (.int .i64 n.op) ∧ w'.cell? (⟨(ad.add (k * 6)).block, (ad.add (k * 6)).off + 1, none⟩) = some (.int .i64 n.i) ∧ w'.cell? (⟨(ad.add (k * 6)).block, (ad.add (k * 6)).off + 2, none⟩) = some (.int .i64 n.e) ∧ w'.cell? (⟨(ad.add (k * 6)).block, (ad.add (k * 6)).off + 3, none⟩) = some (.int .i64 n.g) ∧ w'.cell? (⟨(ad.add (k * 6)).block, (ad.add (k * 6)).off + 4, none⟩) = some (.int .i64 n.x) ∧ w'.cell? (⟨(ad.add (k * 6)).block, (ad.add (k * 6)).off + 5, none⟩) = some (.int .i64 n.y)) (by kernel_rfl) ⟨xd eb e0, xd eb e1, xd eb e2, xd hbl c0, xd hbl c1, xd hbl c2, xd hbl c3, xd hbl c4, xd hbl c5⟩ (fun hHeld => ?_)
              refine utk 0 hHeld ?_
              refine utk 1 hHeld ?_
              refine utk 2 hHeld ?_
              refine utk 3 hHeld ?_
              refine utk 4 hHeld ?_
              refine utk 5 hHeld ?_
              refine utk 6 hHeld ?_
              refine utk 7 hHeld ?_
              refine ordU_ready (rs := [8]) (by kernel_rfl) (by simp) ?_
              refine AllU.cons rfl (fun K hK => ?_) AllU.nil
              go_simp
              have h1 := one17_any (.agg #[.int .i64 md.n, .slice Av md.val.length cv, .slice Ar md.rel.length cr]) md n xval yv w2.drew (HM.out.ext (HXW2.out.trans ((Ext.refl _).drew))) HOK.out HCM.out HFN.out HXV.out HYV.out
              unfold Nd.val at h1
              obtain ⟨ov, hov⟩ : ∃ o, o = oneN md n xval yv := ⟨_, rfl⟩
              have HOV := Lib.hid hov
              rw [← hov] at h1
              clear hov
              rw [HXZ.out, HYZ.out] at h1
              refine h1.mono ?_
              clear h1
              rintro e w3 ⟨rfl, hx0⟩
              have hx3 : Ext w2 w3 := Ext.trans ((Ext.refl _).drew) hx0
              have HX3 := Lib.hid hx3
              have HR3 := Lib.hid (HRX.out.ext hx3)
              clear hx0
              go_wp2_with fail
              refine hK.out _ _ ⟨xd eb e0, xd eb e1, xd eb e2, xd hbl c0, xd hbl c1, xd hbl c2, xd hbl c3, xd hbl c4, xd hbl c5⟩ (fun hHeld => ?_)
              clear hK K
              try simp only [Act.put, List.setIfInBounds_toArray, List.set_cons_zero, List.set_cons_succ, List.getElem_toArray, List.getElem_cons_succ, List.getElem_cons_zero]
              refine ordU_ready (rs := [9]) (by kernel_rfl) (by simp) ?_
              refine AllU.cons rfl (fun K hK => ?_) AllU.nil
              go_simp
              refine hK.out _ _ ⟨xd eb e0, xd eb e1, xd eb e2, xd hbl c0, xd hbl c1, xd hbl c2, xd hbl c3, xd hbl c4, xd hbl c5⟩ (fun hHeld => ?_)
              clear hK K
              try simp only [Act.put, List.setIfInBounds_toArray, List.set_cons_zero, List.set_cons_succ, List.getElem_toArray, List.getElem_cons_succ, List.getElem_cons_zero]
              refine ordU_ready (rs := [10]) (by kernel_rfl) (by simp) ?_
              refine AllU.cons rfl (fun K hK => ?_) AllU.nil
              refine step_append_at rfl (.tmp 59) (.tmp 68) 27 rfl w1.heap.size 40 iU (.int .u64 0) 1 8 Tryz.underlying27 hiU hzU0 hzU1 hzU2 rfl (by decide) (.slice Ax out.length cx) out.length (uV out) (by simp [Act.eval]) (row_ext HR3.out xv) ⟨w3.heap.size, 0, none⟩ 1 1 [.int .u64 (ov : Int)] (by simp [Act.eval]) rfl (by exact row_new_at _ _ _ rfl) (fun u hu => by rw [List.mem_singleton.1 hu]; rfl) hc3 hc4 (Nat.le_trans (HX2.out.trans HX3.out).size (by simp)) ?_
              intro v7 w7 hown7 hgrow7 hat7
              have HX7 := Lib.hid (show Ext w1 w7 from ((HX2.out.trans HX3.out).alloc _).grown hgrow7 (fun k hk => (HR3.out.lt k hk).1))
              have HM7 := Lib.hid (show MadeU w1.heap.size w7 v7 (setsK md f (k + 1)) by
                rw [HSK2.out, ← HOV.out]
                unfold MadeU uV
                rw [List.map_append, List.length_append]
                exact hown7)
              obtain ⟨A7, c7, hv7⟩ := slice_of_row hown7
              subst hv7
              have kb := (grown_blkM hgrow7 HBX.out (Nat.lt_of_lt_of_le eb hx3.size)).trans (hx3.block eb)
              have kn := (grown_blkM hgrow7 HNX.out (Nat.lt_of_lt_of_le hbl hx3.size)).trans (hx3.block hbl)
              have E0 := (blk_cellM (p := ⟨b, 0, none⟩) kb).trans e0
              have E1 := (blk_cellM (p := ⟨b, 1, none⟩) kb).trans e1
              have E2' := (blk_cellM (p := ⟨b, 2, none⟩) kb).trans e2
              have C0 := (blk_cellM (p := ad.add (k * 6)) kn).trans c0
              have C1 := (blk_cellM (p := ⟨(ad.add (k * 6)).block, (ad.add (k * 6)).off + 1, none⟩) kn).trans c1
              have C2 := (blk_cellM (p := ⟨(ad.add (k * 6)).block, (ad.add (k * 6)).off + 2, none⟩) kn).trans c2
              have C3 := (blk_cellM (p := ⟨(ad.add (k * 6)).block, (ad.add (k * 6)).off + 3, none⟩) kn).trans c3
              have C4 := (blk_cellM (p := ⟨(ad.add (k * 6)).block, (ad.add (k * 6)).off + 4, none⟩) kn).trans c4
              have C5 := (blk_cellM (p := ⟨(ad.add (k * 6)).block, (ad.add (k * 6)).off + 5, none⟩) kn).trans c5
              clear hown7 hgrow7 hat7 kb kn
              refine hK.out _ _ ⟨E0, E1, E2', C0, C1, C2, C3, C4, C5⟩ (fun hHeld => ?_)
              clear hK K
              try simp only [Act.put, List.setIfInBounds_toArray, List.set_cons_zero, List.set_cons_succ, List.getElem_toArray, List.getElem_cons_succ, List.getElem_cons_zero]
              refine ordU_last (by kernel_rfl) rfl (fun K hK => ?_)
              go_simp
              refine hK.out _ _ ?_
              clear hK K
              try simp only [Act.put, List.setIfInBounds_toArray, List.set_cons_zero, List.set_cons_succ, List.getElem_toArray, List.getElem_cons_succ, List.getElem_cons_zero]
              refine ordU_done (by kernel_rfl) ?_ _
              go_wp2_with fail
              go_roundw
              case rel => exact ⟨k + 1, by go_num, by omega, Lib.hid ⟨HX7.out, HM7.out⟩⟩
              case measure => simp [intOf]; omega
            · (have hyx := hasX_of_hasY HBYE.out.symm; rw [← HBXE.out] at hyx; cases hyx)
          · cases by_
            · skip
              obtain ⟨h0x, hltx⟩ := HWF.out.1 rfl
              obtain ⟨ix, hix⟩ := Int.eq_ofNat_of_zero_le h0x
              have hikx : ix < out.length := by rw [HOL.out]; omega
              have hikx1 : (ix : Int) < (out.length : Int) := by omega
              obtain ⟨gx, cpx, hge, gxl, _, _, _, hclx, _⟩ := HRX.out.slice (by omega)
              injection hge with hge1 _ hge2
              subst hge1 hge2
              have ox := hclx ix hikx
              rw [hix] at c4
              obtain ⟨xval, hxv⟩ : ∃ v, v = out.getD ix 0 := ⟨_, rfl⟩
              rw [← hxv] at ox
              have HXV := Lib.hid (show word xval by rw [hxv]; exact getD_word HOW.out ix)
              have HXVE := Lib.hid (show out.getD n.x.toNat 0 = xval by rw [hxv, hix]; rfl)
              clear hclx hxv h0x hltx
              obtain ⟨yv, hyv⟩ : ∃ v : Nat, v = 0 := ⟨_, rfl⟩
              have HYV := Lib.hid (show word yv by rw [hyv]; show (0 : Nat) < _; omega)
              have HSK2 := Lib.hid (show setsK md f (k + 1) = out ++ [oneN md n xval yv] by rw [HSK.out]; simp only [if_true, if_false, Bool.false_eq_true]; rw [HXVE.out]; rw [hyv])
              have HYZ := Lib.hid hyv
              clear hyv
              go_wp2_with fail
              refine (usesX_any n.op _).mono ?_
              rintro e w3 ⟨rfl, rfl⟩
              rw [← HBXE.out]
              go_wp2_with fail
              refine (usesY_any n.op _).mono ?_
              rintro e w4 ⟨rfl, rfl⟩
              rw [← HBYE.out]
              go_upto_region 15 with (fail)
              obtain ⟨e0, e1, e2, eb⟩ := cells3y ((HX2.out.block HBL.out).trans HB1.out)
              have hbx : (Value.slice (some ⟨gx, 0, none⟩) out.length cx).ownBlock ≠ some b := fun e => by
                have h1 := (HRX.out.lt b e).1
                have h2 := HBL.out
                omega
              have HBX := Lib.hid hbx
              have HNX := Lib.hid (show (Value.slice (some ⟨gx, 0, none⟩) out.length cx).ownBlock ≠ some (ad.add (k * 6)).block from fun e => by
                have h1 := (HRX.out.lt _ e).1
                rw [block_of_add] at h1
                have h2 := HX1.out.size
                omega)
              clear hbx
              refine ordU_region 11 (fun w' => w'.cell? (⟨b, 0, none⟩) = some (.int .i64 md.n) ∧ w'.cell? (⟨b, 1, none⟩) = some (.slice Av md.val.length cv) ∧ w'.cell? (⟨b, 2, none⟩) = some (.slice Ar md.rel.length cr) ∧ w'.cell? (ad.add (k * 6)) = some (.int .i64 n.op) ∧ w'.cell? (⟨(ad.add (k * 6)).block, (ad.add (k * 6)).off + 1, none⟩) = some (.int .i64 n.i) ∧ w'.cell? (⟨(ad.add (k * 6)).block, (ad.add (k * 6)).off + 2, none⟩) = some (.int .i64 n.e) ∧ w'.cell? (⟨(ad.add (k * 6)).block, (ad.add (k * 6)).off + 3, none⟩) = some (.int .i64 n.g) ∧ w'.cell? (⟨(ad.add (k * 6)).block, (ad.add (k * 6)).off + 4, none⟩) = some (.int .i64 (ix : Int)) ∧ w'.cell? (⟨(ad.add (k * 6)).block, (ad.add (k * 6)).off + 5, none⟩) = some (.int .i64 n.y)) (by kernel_rfl) ⟨xd eb e0, xd eb e1, xd eb e2, xd hbl c0, xd hbl c1, xd hbl c2, xd hbl c3, xd hbl c4, xd hbl c5⟩ (fun hHeld => ?_)
              refine utk 0 hHeld ?_
              refine utk 1 hHeld ?_
              refine utk 2 hHeld ?_
              refine utk 3 hHeld ?_
              refine utk 4 hHeld ?_
              refine utk 5 hHeld ?_
              refine utk 6 hHeld ?_
              refine utk 7 hHeld ?_
              refine ordU_ready (rs := [8]) (by kernel_rfl) (by simp) ?_
              refine AllU.cons rfl (fun K hK => ?_) AllU.nil
              go_simp
              have h1 := one17_any (.agg #[.int .i64 md.n, .slice Av md.val.length cv, .slice Ar md.rel.length cr]) md n xval yv w2.drew (HM.out.ext (HXW2.out.trans ((Ext.refl _).drew))) HOK.out HCM.out HFN.out HXV.out HYV.out
              unfold Nd.val at h1
              obtain ⟨ov, hov⟩ : ∃ o, o = oneN md n xval yv := ⟨_, rfl⟩
              have HOV := Lib.hid hov
              rw [← hov] at h1
              clear hov
              rw [hix, HYZ.out] at h1
              refine h1.mono ?_
              clear h1
              rintro e w3 ⟨rfl, hx0⟩
              have hx3 : Ext w2 w3 := Ext.trans ((Ext.refl _).drew) hx0
              have HX3 := Lib.hid hx3
              have HR3 := Lib.hid (HRX.out.ext hx3)
              clear hx0
              go_wp2_with fail
              refine hK.out _ _ ⟨xd eb e0, xd eb e1, xd eb e2, xd hbl c0, xd hbl c1, xd hbl c2, xd hbl c3, xd hbl c4, xd hbl c5⟩ (fun hHeld => ?_)
              clear hK K
              try simp only [Act.put, List.setIfInBounds_toArray, List.set_cons_zero, List.set_cons_succ, List.getElem_toArray, List.getElem_cons_succ, List.getElem_cons_zero]
              refine ordU_ready (rs := [9]) (by kernel_rfl) (by simp) ?_
              refine AllU.cons rfl (fun K hK => ?_) AllU.nil
              go_simp
              refine hK.out _ _ ⟨xd eb e0, xd eb e1, xd eb e2, xd hbl c0, xd hbl c1, xd hbl c2, xd hbl c3, xd hbl c4, xd hbl c5⟩ (fun hHeld => ?_)
              clear hK K
              try simp only [Act.put, List.setIfInBounds_toArray, List.set_cons_zero, List.set_cons_succ, List.getElem_toArray, List.getElem_cons_succ, List.getElem_cons_zero]
              refine ordU_ready (rs := [10]) (by kernel_rfl) (by simp) ?_
              refine AllU.cons rfl (fun K hK => ?_) AllU.nil
              refine step_append_at rfl (.tmp 59) (.tmp 68) 27 rfl w1.heap.size 40 iU (.int .u64 0) 1 8 Tryz.underlying27 hiU hzU0 hzU1 hzU2 rfl (by decide) (.slice (some ⟨gx, 0, none⟩) out.length cx) out.length (uV out) (by simp [Act.eval]) (row_ext HR3.out xv) ⟨w3.heap.size, 0, none⟩ 1 1 [.int .u64 (ov : Int)] (by simp [Act.eval]) rfl (by exact row_new_at _ _ _ rfl) (fun u hu => by rw [List.mem_singleton.1 hu]; rfl) hc3 hc4 (Nat.le_trans (HX2.out.trans HX3.out).size (by simp)) ?_
              intro v7 w7 hown7 hgrow7 hat7
              have HX7 := Lib.hid (show Ext w1 w7 from ((HX2.out.trans HX3.out).alloc _).grown hgrow7 (fun k hk => (HR3.out.lt k hk).1))
              have HM7 := Lib.hid (show MadeU w1.heap.size w7 v7 (setsK md f (k + 1)) by
                rw [HSK2.out, ← HOV.out]
                unfold MadeU uV
                rw [List.map_append, List.length_append]
                exact hown7)
              obtain ⟨A7, c7, hv7⟩ := slice_of_row hown7
              subst hv7
              have kb := (grown_blkM hgrow7 HBX.out (Nat.lt_of_lt_of_le eb hx3.size)).trans (hx3.block eb)
              have kn := (grown_blkM hgrow7 HNX.out (Nat.lt_of_lt_of_le hbl hx3.size)).trans (hx3.block hbl)
              have E0 := (blk_cellM (p := ⟨b, 0, none⟩) kb).trans e0
              have E1 := (blk_cellM (p := ⟨b, 1, none⟩) kb).trans e1
              have E2' := (blk_cellM (p := ⟨b, 2, none⟩) kb).trans e2
              have C0 := (blk_cellM (p := ad.add (k * 6)) kn).trans c0
              have C1 := (blk_cellM (p := ⟨(ad.add (k * 6)).block, (ad.add (k * 6)).off + 1, none⟩) kn).trans c1
              have C2 := (blk_cellM (p := ⟨(ad.add (k * 6)).block, (ad.add (k * 6)).off + 2, none⟩) kn).trans c2
              have C3 := (blk_cellM (p := ⟨(ad.add (k * 6)).block, (ad.add (k * 6)).off + 3, none⟩) kn).trans c3
              have C4 := (blk_cellM (p := ⟨(ad.add (k * 6)).block, (ad.add (k * 6)).off + 4, none⟩) kn).trans c4
              have C5 := (blk_cellM (p := ⟨(ad.add (k * 6)).block, (ad.add (k * 6)).off + 5, none⟩) kn).trans c5
              clear hown7 hgrow7 hat7 kb kn
              refine hK.out _ _ ⟨E0, E1, E2', C0, C1, C2, C3, C4, C5⟩ (fun hHeld => ?_)
              clear hK K
              try simp only [Act.put, List.setIfInBounds_toArray, List.set_cons_zero, List.set_cons_succ, List.getElem_toArray, List.getElem_cons_succ, List.getElem_cons_zero]
              refine ordU_last (by kernel_rfl) rfl (fun K hK => ?_)
              go_simp
              refine hK.out _ _ ?_
              clear hK K
              try simp only [Act.put, List.setIfInBounds_toArray, List.set_cons_zero, List.set_cons_succ, List.getElem_toArray, List.getElem_cons_succ, List.getElem_cons_zero]
              refine ordU_done (by kernel_rfl) ?_ _
              go_wp2_with fail
              go_roundw
              case rel => exact ⟨k + 1, by go_num, by omega, Lib.hid ⟨HX7.out, HM7.out⟩⟩
              case measure => simp [intOf]; omega
            · skip
              obtain ⟨h0x, hltx⟩ := HWF.out.1 rfl
              obtain ⟨ix, hix⟩ := Int.eq_ofNat_of_zero_le h0x
              have hikx : ix < out.length := by rw [HOL.out]; omega
              have hikx1 : (ix : Int) < (out.length : Int) := by omega
              obtain ⟨gx, cpx, hge, gxl, _, _, _, hclx, _⟩ := HRX.out.slice (by omega)
              injection hge with hge1 _ hge2
              subst hge1 hge2
              have ox := hclx ix hikx
              rw [hix] at c4
              obtain ⟨xval, hxv⟩ : ∃ v, v = out.getD ix 0 := ⟨_, rfl⟩
              rw [← hxv] at ox
              have HXV := Lib.hid (show word xval by rw [hxv]; exact getD_word HOW.out ix)
              have HXVE := Lib.hid (show out.getD n.x.toNat 0 = xval by rw [hxv, hix]; rfl)
              clear hclx hxv h0x hltx
              obtain ⟨h0y, hlty⟩ := HWF.out.2 rfl
              obtain ⟨iy, hiy⟩ := Int.eq_ofNat_of_zero_le h0y
              have hiky : iy < out.length := by rw [HOL.out]; omega
              have hiky1 : (iy : Int) < (out.length : Int) := by omega
              have oy := (HRX.out.at_ (by omega)).2.2.2.2.2.1 iy hiky
              rw [hiy] at c5
              obtain ⟨yv, hyv⟩ : ∃ v, v = out.getD iy 0 := ⟨_, rfl⟩
              rw [← hyv] at oy
              have HYV := Lib.hid (show word yv by rw [hyv]; exact getD_word HOW.out iy)
              have HYVE := Lib.hid (show out.getD n.y.toNat 0 = yv by rw [hyv, hiy]; rfl)
              clear hyv h0y hlty
              have HSK2 := Lib.hid (show setsK md f (k + 1) = out ++ [oneN md n xval yv] by rw [HSK.out]; simp only [if_true]; rw [HXVE.out]; rw [HYVE.out])
              go_wp2_with fail
              refine (usesX_any n.op _).mono ?_
              rintro e w3 ⟨rfl, rfl⟩
              rw [← HBXE.out]
              go_wp2_with fail
              refine (usesY_any n.op _).mono ?_
              rintro e w4 ⟨rfl, rfl⟩
              rw [← HBYE.out]
              go_upto_region 15 with (fail)
              obtain ⟨e0, e1, e2, eb⟩ := cells3y ((HX2.out.block HBL.out).trans HB1.out)
              have hbx : (Value.slice (some ⟨gx, 0, none⟩) out.length cx).ownBlock ≠ some b := fun e => by
                have h1 := (HRX.out.lt b e).1
                have h2 := HBL.out
                omega
              have HBX := Lib.hid hbx
              have HNX := Lib.hid (show (Value.slice (some ⟨gx, 0, none⟩) out.length cx).ownBlock ≠ some (ad.add (k * 6)).block from fun e => by
                have h1 := (HRX.out.lt _ e).1
                rw [block_of_add] at h1
                have h2 := HX1.out.size
                omega)
              clear hbx
              refine ordU_region 11 (fun w' => w'.cell? (⟨b, 0, none⟩) = some (.int .i64 md.n) ∧ w'.cell? (⟨b, 1, none⟩) = some (.slice Av md.val.length cv) ∧ w'.cell? (⟨b, 2, none⟩) = some (.slice Ar md.rel.length cr) ∧ w'.cell? (ad.add (k * 6)) = some (.int .i64 n.op) ∧ w'.cell? (⟨(ad.add (k * 6)).block, (ad.add (k * 6)).off + 1, none⟩) = some (.int .i64 n.i) ∧ w'.cell? (⟨(ad.add (k * 6)).block, (ad.add (k * 6)).off + 2, none⟩) = some (.int .i64 n.e) ∧ w'.cell? (⟨(ad.add (k * 6)).block, (ad.add (k * 6)).off + 3, none⟩) = some (.int .i64 n.g) ∧ w'.cell? (⟨(ad.add (k * 6)).block, (ad.add (k * 6)).off + 4, none⟩) = some (.int .i64 (ix : Int)) ∧ w'.cell? (⟨(ad.add (k * 6)).block, (ad.add (k * 6)).off + 5, none⟩) = some (.int .i64 (iy : Int))) (by kernel_rfl) ⟨xd eb e0, xd eb e1, xd eb e2, xd hbl c0, xd hbl c1, xd hbl c2, xd hbl c3, xd hbl c4, xd hbl c5⟩ (fun hHeld => ?_)
              refine utk 0 hHeld ?_
              refine utk 1 hHeld ?_
              refine utk 2 hHeld ?_
              refine utk 3 hHeld ?_
              refine utk 4 hHeld ?_
              refine utk 5 hHeld ?_
              refine utk 6 hHeld ?_
              refine utk 7 hHeld ?_
              refine ordU_ready (rs := [8]) (by kernel_rfl) (by simp) ?_
              refine AllU.cons rfl (fun K hK => ?_) AllU.nil
              go_simp
              have h1 := one17_any (.agg #[.int .i64 md.n, .slice Av md.val.length cv, .slice Ar md.rel.length cr]) md n xval yv w2.drew (HM.out.ext (HXW2.out.trans ((Ext.refl _).drew))) HOK.out HCM.out HFN.out HXV.out HYV.out
              unfold Nd.val at h1
              obtain ⟨ov, hov⟩ : ∃ o, o = oneN md n xval yv := ⟨_, rfl⟩
              have HOV := Lib.hid hov
              rw [← hov] at h1
              clear hov
              rw [hix, hiy] at h1
              refine h1.mono ?_
              clear h1
              rintro e w3 ⟨rfl, hx0⟩
              have hx3 : Ext w2 w3 := Ext.trans ((Ext.refl _).drew) hx0
              have HX3 := Lib.hid hx3
              have HR3 := Lib.hid (HRX.out.ext hx3)
              clear hx0
              go_wp2_with fail
              refine hK.out _ _ ⟨xd eb e0, xd eb e1, xd eb e2, xd hbl c0, xd hbl c1, xd hbl c2, xd hbl c3, xd hbl c4, xd hbl c5⟩ (fun hHeld => ?_)
              clear hK K
              try simp only [Act.put, List.setIfInBounds_toArray, List.set_cons_zero, List.set_cons_succ, List.getElem_toArray, List.getElem_cons_succ, List.getElem_cons_zero]
              refine ordU_ready (rs := [9]) (by kernel_rfl) (by simp) ?_
              refine AllU.cons rfl (fun K hK => ?_) AllU.nil
              go_simp
              refine hK.out _ _ ⟨xd eb e0, xd eb e1, xd eb e2, xd hbl c0, xd hbl c1, xd hbl c2, xd hbl c3, xd hbl c4, xd hbl c5⟩ (fun hHeld => ?_)
              clear hK K
              try simp only [Act.put, List.setIfInBounds_toArray, List.set_cons_zero, List.set_cons_succ, List.getElem_toArray, List.getElem_cons_succ, List.getElem_cons_zero]
              refine ordU_ready (rs := [10]) (by kernel_rfl) (by simp) ?_
              refine AllU.cons rfl (fun K hK => ?_) AllU.nil
              refine step_append_at rfl (.tmp 59) (.tmp 68) 27 rfl w1.heap.size 40 iU (.int .u64 0) 1 8 Tryz.underlying27 hiU hzU0 hzU1 hzU2 rfl (by decide) (.slice (some ⟨gx, 0, none⟩) out.length cx) out.length (uV out) (by simp [Act.eval]) (row_ext HR3.out xv) ⟨w3.heap.size, 0, none⟩ 1 1 [.int .u64 (ov : Int)] (by simp [Act.eval]) rfl (by exact row_new_at _ _ _ rfl) (fun u hu => by rw [List.mem_singleton.1 hu]; rfl) hc3 hc4 (Nat.le_trans (HX2.out.trans HX3.out).size (by simp)) ?_
              intro v7 w7 hown7 hgrow7 hat7
              have HX7 := Lib.hid (show Ext w1 w7 from ((HX2.out.trans HX3.out).alloc _).grown hgrow7 (fun k hk => (HR3.out.lt k hk).1))
              have HM7 := Lib.hid (show MadeU w1.heap.size w7 v7 (setsK md f (k + 1)) by
                rw [HSK2.out, ← HOV.out]
                unfold MadeU uV
                rw [List.map_append, List.length_append]
                exact hown7)
              obtain ⟨A7, c7, hv7⟩ := slice_of_row hown7
              subst hv7
              have kb := (grown_blkM hgrow7 HBX.out (Nat.lt_of_lt_of_le eb hx3.size)).trans (hx3.block eb)
              have kn := (grown_blkM hgrow7 HNX.out (Nat.lt_of_lt_of_le hbl hx3.size)).trans (hx3.block hbl)
              have E0 := (blk_cellM (p := ⟨b, 0, none⟩) kb).trans e0
              have E1 := (blk_cellM (p := ⟨b, 1, none⟩) kb).trans e1
              have E2' := (blk_cellM (p := ⟨b, 2, none⟩) kb).trans e2
              have C0 := (blk_cellM (p := ad.add (k * 6)) kn).trans c0
              have C1 := (blk_cellM (p := ⟨(ad.add (k * 6)).block, (ad.add (k * 6)).off + 1, none⟩) kn).trans c1
              have C2 := (blk_cellM (p := ⟨(ad.add (k * 6)).block, (ad.add (k * 6)).off + 2, none⟩) kn).trans c2
              have C3 := (blk_cellM (p := ⟨(ad.add (k * 6)).block, (ad.add (k * 6)).off + 3, none⟩) kn).trans c3
              have C4 := (blk_cellM (p := ⟨(ad.add (k * 6)).block, (ad.add (k * 6)).off + 4, none⟩) kn).trans c4
              have C5 := (blk_cellM (p := ⟨(ad.add (k * 6)).block, (ad.add (k * 6)).off + 5, none⟩) kn).trans c5
              clear hown7 hgrow7 hat7 kb kn
              refine hK.out _ _ ⟨E0, E1, E2', C0, C1, C2, C3, C4, C5⟩ (fun hHeld => ?_)
              clear hK K
              try simp only [Act.put, List.setIfInBounds_toArray, List.set_cons_zero, List.set_cons_succ, List.getElem_toArray, List.getElem_cons_succ, List.getElem_cons_zero]
              refine ordU_last (by kernel_rfl) rfl (fun K hK => ?_)
              go_simp
              refine hK.out _ _ ?_
              clear hK K
              try simp only [Act.put, List.setIfInBounds_toArray, List.set_cons_zero, List.set_cons_succ, List.getElem_toArray, List.getElem_cons_succ, List.getElem_cons_zero]
              refine ordU_done (by kernel_rfl) ?_ _
              go_wp2_with fail
              go_roundw
              case rel => exact ⟨k + 1, by go_num, by omega, Lib.hid ⟨HX7.out, HM7.out⟩⟩
              case measure => simp [intOf]; omega
      · obtain rfl : f.length = k := by omega
        go_wp2_with fail
        go_ret2
        exact ⟨_, rfl, HXW.out, Lib.hid (by (try rw [if_pos rfl]); (try rw [← HOUT.out]); exact row_base HRW.out HX1.out.size)⟩
  · have hzb : (er == 0) = false := by rw [beq_eq_false_iff_ne]; exact hz
    have HZ := Lib.hid hz
    clear hz
    go_enter Tryz.func41, Tryz.ntmps41
    go_wp2_with fail
    refine (chk17_any _ _ md f _ (HM.out.ext HX0.out) HOK.out (H.out.ext HX0.out)).mono ?_
    rintro e w1 ⟨rfl, hx1⟩
    rw [← HER.out]
    have HX1 := Lib.hid (HX0.out.trans hx1)
    clear hx1
    go_wp2_with fail
    go_ret2
    exact ⟨_, rfl, HX1.out, Lib.hid (by (try rw [if_neg HZ.out]); exact MadeU.nil _ _)⟩
end Go.Proofs.YtbfeodammikajaaGreat
