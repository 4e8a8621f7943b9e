/- The reference of types: coherent. -/
import Derived.Test.YtbfeodammikajaaGreatG36
import Derived.Test.YtbfeodammikajaaGreatG14

namespace Go.Proofs.YtbfeodammikajaaGreat
open Go.RowKit

/-- What the reference asks of a base. -/
structure SpcOk (base : List (List Nd)) : Prop where
  ag : AgOk base
  un : ∀ i q, i < base.length → (topN base i).op = 13 → q < 4 → gbit (topN base i).g q = true → ∃ j : Nat, j < 12 ∧ placeN base (unfN q (base.getD i [])) = (j : Int)
  pos : ∀ i, i < base.length → 0 < (base.getD i []).length
  ck9 : ∀ i, i < base.length → (topN base i).op = 9 → check (subN (base.getD i []) (topN base i).x) = 0
  ck13 : ∀ i, i < base.length → (topN base i).op = 13 → check (subN (base.getD i []) (topN base i).x) = 0 ∧ check (subN (base.getD i []) (topN base i).y) = 0
theorem know_top {t : Tr} (ht : Xf t) (h : (lastN (canon t)).op = 9) : 0 ≤ (lastN (canon t)).i ∧ (lastN (canon t)).i < 4 := by
  have h1 := heads_of ht.check (lastN (canon t)) (List.mem_of_getElem? (lastN_get (canon_pos ht.xp.1.1)))
  obtain ⟨_, _, h3, _, _⟩ := h1
  unfold rangeBad at h3
  rw [h] at h3
  simp [outsideB, hasFact, hasAgent, hasEvent, hasGroup] at h3
  omega
theorem spc_ok {base : List (List Nd)} {t : Tr} (h : BaseOk base t) : SpcOk base := by
  have hget : ∀ i, i < base.length → ∃ u, Xf u ∧ base.getD i [] = canon u ∧ base.getD i [] ∈ base := fun i hi => by
    have hm : base.getD i [] ∈ base := by rw [List.getD_eq_getElem?_getD, List.getElem?_eq_getElem hi]; exact List.getElem_mem hi
    obtain ⟨u, h1, h2, _⟩ := h.can _ hm
    exact ⟨u, h1, h2, hm⟩
  refine ⟨⟨fun i hi ho => ?_, fun i hi ho => ?_⟩, fun i q hi ho hq hg => ?_, fun i hi => ?_, fun i hi ho => ?_, fun i hi ho => ?_⟩
  · obtain ⟨u, h1, h2, _⟩ := hget i hi
    unfold topN at ho ⊢
    rw [h2] at ho ⊢
    exact know_top h1 ho
  · obtain ⟨u, h1, h2, _⟩ := hget i hi
    unfold topN at ho ⊢
    rw [h2] at ho ⊢
    exact group_top h1 ho
  · obtain ⟨u, h1, h2, hm⟩ := hget i hi
    exact unf_in h hm ho hq hg
  · obtain ⟨u, h1, h2, _⟩ := hget i hi
    rw [h2]
    exact canon_pos h1.xp.1.1
  · obtain ⟨u, h1, h2, _⟩ := hget i hi
    unfold topN at ho ⊢
    rw [h2] at ho ⊢
    have h3 := top_check h1 ho
    unfold topA at h3
    rw [ho] at h3
    exact h3
  · obtain ⟨u, h1, h2, _⟩ := hget i hi
    unfold topN at ho ⊢
    rw [h2] at ho ⊢
    have h3 := top_check2 h1 ho
    unfold topA topB at h3
    rw [ho] at h3
    exact h3
theorem coh_hit {lg : Int} {base : List (List Nd)} {t i : Nat} (hi : i < base.length) (h : cohAt lg base t i = false) : coherentN lg (knowsN base) (commsN base) t = false := by
  cases e : coherentN lg (knowsN base) (commsN base) t
  · rfl
  · rw [coh_places.1 e i hi] at h; cases h
theorem all_snoc {P : Nat → Bool} {q : Nat} : (List.range (q + 1)).all P = ((List.range q).all P && P q) := by rw [List.range_succ, List.all_append]; simp
set_option maxRecDepth 100000 in
set_option maxHeartbeats 64000000 in
theorem rcoherent_any (s : Nat) (lg : Int) (base : List (List Nd)) (t : Nat) (w : World) (hS : SpcAt w s lg base) (hbl : base.length ≤ 12) (hok : SpcOk base) (ht : t < 2 ^ base.length) :
    Calls Tryz.prog 69 #[.pointer (some ⟨s, 0, none⟩), .int .i64 (t : Int)] w fun e w' => e = .returned (.bool (coherentN lg (knowsN base) (commsN base) t)) ∧ Ext w w' := by
  obtain ⟨vb, Ao, co, A1, c1, A2, c2, A3, c3, hs, d0, d1, d2, d3, d4, d5, HFM, HNO, HKN, HCO, HLA⟩ := hS.reads
  obtain ⟨Ab, cb, rfl, _, _, hbr⟩ := HFM.out
  have HBR := Lib.hid hbr
  have D0 := Lib.hid d0
  have D1 := Lib.hid d1
  have D3 := Lib.hid d3
  have HT := Lib.hid ht
  have HOK := Lib.hid hok
  clear hS d0 d1 d3 d4 d5 HCO HLA ht hok hbr
  go_enter Tryz.func69, Tryz.ntmps69
  go_wp2_with fail
  clear d2
  go_loopw [14] (fun v wr => ∃ k : Nat, v = .int .i64 (k : Int) ∧ k ≤ base.length ∧ Hid (Ext w wr ∧ ∀ j, j < k → cohAt lg base t j = true)) (fun v _ => base.length - (intOf v).toNat)
  case atStart => exact ⟨0, rfl, Nat.zero_le _, Lib.hid ⟨Ext.refl _, fun j hj => absurd hj (by omega)⟩⟩
  case round =>
    obtain ⟨k, rfl, hk, HREL⟩ := hrel
    have HX := Lib.hid HREL.out.1
    have HALL := Lib.hid HREL.out.2
    clear HREL
    by_cases hlt2 : k < base.length
    · have hk1 : (k : Int) < (base.length : Int) := by omega
      have hk64 : k < 64 := by omega
      obtain ⟨ad, rfl, hadl, hnd⟩ := HNO.out k hlt2
      obtain ⟨c0, c1, c2, c3, c4, c5⟩ := hnd.keep fun p hp => HX.out.cell (p := p) (by rw [hp, block_of_add]; exact hadl)
      have hblk2 : (ad.add (k * 6)).block < wr.heap.size := by rw [block_of_add]; exact Nat.lt_of_lt_of_le hadl HX.out.size
      have hs2 := Nat.lt_of_lt_of_le hs HX.out.size
      clear hnd
      obtain ⟨n, hn⟩ : ∃ n, n = topN base k := ⟨_, rfl⟩
      rw [← hn] at c0 c1 c2 c3 c4 c5
      have HN := Lib.hid hn
      have HALL2 := Lib.hid (show cohAt lg base t k = true → ∀ j, j < k + 1 → cohAt lg base t j = true from fun h => upto HALL.out h)
      clear hn
      obtain ⟨wq, hwq⟩ : ∃ v, v = wr := ⟨_, rfl⟩
      subst hwq
      by_cases h13 : n.op = 13
      · have HCA := Lib.hid (show cohAt lg base t k = ((List.range 4).all (unfIn base t k) == t.testBit k) by unfold cohAt; rw [← HN.out, h13]; rfl)
        have HUN := Lib.hid (fun q hq hg => HOK.out.un k q hlt2 (by rw [← HN.out]; exact h13) hq hg)
        obtain ⟨gn, hgn, hg16⟩ := HOK.out.ag.cm k hlt2 (by rw [← HN.out]; exact h13)
        have HGB := Lib.hid (show ∀ q, gbit (topN base k).g q = gn.testBit q from fun q => by rw [hgn]; rfl)
        rw [← HN.out] at hgn
        rw [h13] at c0
        rw [hgn] at c3
        obtain ⟨f, hf⟩ : ∃ f, f = base.getD k [] := ⟨_, rfl⟩
        have hf0 : 0 < f.length := by rw [hf]; exact HOK.out.pos k hlt2
        obtain ⟨ab, rfl, habl, hbc⟩ := HBR.out (by intro e; rw [e] at hlt2; simp at hlt2)
        obtain ⟨u, hu, hfm⟩ := hbc k f (by rw [hf, List.getD_eq_getElem?_getD, List.getElem?_eq_getElem hlt2]; rfl)
        obtain ⟨Au, cu, rfl, _⟩ := fml_slice hfm
        have HU := Lib.hid hu
        have HF := Lib.hid hfm
        have HFE := Lib.hid hf
        clear h13 hgn hf hbc hu hfm
        go_upto_region 4 with (fail)
        obtain ⟨W3, hW3⟩ : ∃ W, W = wq.alloc (.cells #[.int .i64 13, .int .i64 n.i, .int .i64 n.e, .int .i64 (gn : Int), .int .i64 n.x, .int .i64 n.y] 93) := ⟨_, rfl⟩
        have HX3 := Lib.hid (show Ext w W3 by rw [hW3]; exact HX.out.alloc _)
        obtain ⟨x0, _, _, x3, _, _, xl⟩ := cells6t (w := W3) (b := wq.heap.size) (by rw [hW3]; exact heap_alloc_new _ _)
        rw [← hW3]
        clear hW3
        obtain ⟨xb, hxb⟩ : ∃ b, b = wq.heap.size := ⟨_, rfl⟩
        rw [← hxb] at x0 x3 xl ⊢
        clear hxb
        have XB := Lib.hid (show xb < W3.heap.size ∧ W3.cell? ⟨xb, 0, none⟩ = some (.int .i64 13) ∧ W3.cell? ⟨xb, 3, none⟩ = some (.int .i64 (gn : Int)) from ⟨xl, x0, x3⟩)
        go_wp2_with fail
        clear x0 x3 xl
        go_loopw [7, 8] (fun va v wr => ∃ q : Nat, v = .int .i64 (q : Int) ∧ q ≤ 4 ∧ ∃ b : Bool, va = .bool b ∧ Hid (Ext W3 wr ∧ b = (List.range q).all (unfIn base t k))) (fun _ v _ => 4 - (intOf v).toNat)
        case atStart => exact ⟨0, rfl, Nat.zero_le _, true, rfl, Lib.hid ⟨Ext.refl _, rfl⟩⟩
        case round =>
          obtain ⟨q, rfl, hq, b, rfl, HREL⟩ := hrel
          have HX4 := Lib.hid HREL.out.1
          have HB := Lib.hid HREL.out.2
          clear HREL
          have x0 := (HX4.out.cell (p := ⟨xb, 0, none⟩) XB.out.1).trans XB.out.2.1
          have x3 := (HX4.out.cell (p := ⟨xb, 3, none⟩) XB.out.1).trans XB.out.2.2
          have xl := Nat.lt_of_lt_of_le XB.out.1 HX4.out.size
          have HXW := Lib.hid (HX3.out.trans HX4.out)
          by_cases hq4 : q < 4
          · have hq1 : (q : Int) < 4 := by omega
            have hmin : min q 64 = q := by omega
            have hbt := shr_mod_two gn q
            have HSN := Lib.hid (show (List.range (q + 1)).all (unfIn base t k) = (b && unfIn base t k q) by rw [all_snoc, HB.out])
            have HUQ := Lib.hid (show unfIn base t k q = (!gn.testBit q || t.testBit (placeN base (unfN q f)).toNat) by unfold unfIn; rw [HGB.out, HFE.out])
            cases hgb : gn.testBit q
            · rw [hgb] at hbt HUQ
              clear hgb
              go_wp2_with fail
              go_roundw
              case rel => exact ⟨q + 1, by go_num, by omega, _, rfl, Lib.hid ⟨HX4.out, by rw [HSN.out, HUQ.out, Bool.not_false, Bool.true_or, Bool.and_true]⟩⟩
              case measure => simp [intOf]; omega
            · obtain ⟨j, hj12, hpl⟩ := HUN.out q hq4 (by rw [HGB.out]; exact hgb)
              rw [← HFE.out] at hpl
              have HPL := Lib.hid hpl
              have hj64 : j < 64 := by omega
              rw [hgb, hpl, Int.toNat_natCast] at HUQ
              rw [hgb] at hbt
              clear hgb hpl
              have d1 := (HXW.out.cell (p := ⟨s, 1, none⟩) hs).trans D1.out
              have u0 := (HXW.out.cell (p := ab.add k) (by rw [block_of_add]; exact habl)).trans HU.out
              have hsl := Nat.lt_of_lt_of_le hs HXW.out.size
              have abl : (ab.add k).block < wr.heap.size := by rw [block_of_add]; exact Nat.lt_of_lt_of_le habl HXW.out.size
              go_upto_region 10 with (fail)
              cases b
              · skip
                refine wp_region_held_drew (S := fun w' => w'.cell? (⟨s, 1, none⟩) = some (.slice (some ab) base.length cb) ∧ w'.cell? (ab.add k) = some (.slice Au f.length cu)) (by kernel_rfl) ⟨xc hsl d1, xc abl u0⟩ (fun hHeld => ?_)
                refine tk 0 hHeld ?_
                refine tk 1 hHeld ?_
                refine un 2 hHeld ?_
                refine un 3 hHeld ?_
                refine un 4 hHeld ?_
                refine un 5 hHeld ?_
                refine un 6 hHeld ?_
                refine un 7 hHeld ?_
                refine un 8 hHeld ?_
                refine un 9 hHeld ?_
                refine un 10 hHeld ?_
                refine un 11 hHeld ?_
                refine un 12 hHeld ?_
                refine un 13 hHeld ?_
                refine un 14 hHeld ?_
                refine un 15 hHeld ?_
                refine un 16 hHeld ?_
                refine un 17 hHeld ?_
                refine tk 18 hHeld ?_
                refine tk 19 hHeld ?_
                refine wpAnyH_done (by kernel_rfl) ?_ _
                go_wp2_with fail
                go_roundw
                case rel => exact ⟨q + 1, by go_num, by omega, _, rfl, Lib.hid ⟨HX4.out.trans (Ext.refl _).drew, by rw [HSN.out, Bool.false_and]⟩⟩
                case measure => simp [intOf]; omega
              · skip
                refine wp_region_held_drew (S := fun w' => w'.cell? (⟨s, 1, none⟩) = some (.slice (some ab) base.length cb) ∧ w'.cell? (ab.add k) = some (.slice Au f.length cu)) (by kernel_rfl) ⟨xc hsl d1, xc abl u0⟩ (fun hHeld => ?_)
                refine tk 0 hHeld ?_
                refine tk 1 hHeld ?_
                refine tk 2 hHeld ?_
                refine tk 3 hHeld ?_
                refine tk 4 hHeld ?_
                refine tk 5 hHeld ?_
                refine tk 6 hHeld ?_
                refine tk 7 hHeld ?_
                refine tk 8 hHeld ?_
                refine tk 9 hHeld ?_
                refine tk 10 hHeld ?_
                refine tk 11 hHeld ?_
                refine tk 12 hHeld ?_
                refine tk 13 hHeld ?_
                refine tk 14 hHeld ?_
                refine wpAnyH_ready (rs := [15]) (by kernel_rfl) (by simp) ?_
                refine AllReadyH.cons rfl (fun K hK => ?_) AllReadyH.nil
                go_simp
                refine (runfold_any q hq4 _ f _ (HF.out.ext (Ext.trans HXW.out (by repeat (first | exact Ext.refl _ | assumption | apply Ext.alloc | apply Ext.drew | apply Ext.setCell)))) hf0).mono ?_
                rintro e w6 ⟨u6, rfl, hm6⟩
                have HM6 := Lib.hid hm6
                have hx6 : Ext wr w6 := Ext.trans (by repeat (first | exact Ext.refl _ | assumption | apply Ext.alloc | apply Ext.drew | apply Ext.setCell)) hm6.ext
                obtain ⟨A6, c6, rfl, _⟩ := fml_slice hm6.fml
                clear hm6
                go_wp2_with fail
                refine hK.out _ _ ⟨xc hsl d1, xc abl u0⟩ (fun hHeld => ?_)
                clear hK K
                try simp only [Act.put, List.setIfInBounds_toArray, List.set_cons_zero, List.set_cons_succ, List.getElem_toArray, List.getElem_cons_succ, List.getElem_cons_zero]
                refine wpAnyH_ready (rs := [16]) (by kernel_rfl) (by simp) ?_
                refine AllReadyH.cons rfl (fun K hK => ?_) AllReadyH.nil
                go_simp
                refine (refIndex_any _ _ base (unfN q f) _ (HFM.out.ext (HXW.out.trans hx6)) HM6.out.fml).mono ?_
                rintro e w7 ⟨rfl, hx0⟩
                have hx7 : Ext wr w7 := hx6.trans hx0
                rw [HPL.out]
                have HX7 := Lib.hid hx7
                clear hx0
                go_wp2_with fail
                refine hK.out _ _ ⟨xc hsl d1, xc abl u0⟩ (fun hHeld => ?_)
                clear hK K
                try simp only [Act.put, List.setIfInBounds_toArray, List.set_cons_zero, List.set_cons_succ, List.getElem_toArray, List.getElem_cons_succ, List.getElem_cons_zero]
                refine wpAnyH_ready (rs := [17]) (by kernel_rfl) (by simp) ?_
                refine AllReadyH.cons rfl (fun K hK => ?_) AllReadyH.nil
                go_simp
                refine (in_any t j _ _ hj64 rfl).mono ?_
                rintro e w8 ⟨rfl, rfl⟩
                go_wp2_with fail
                refine hK.out _ _ ⟨xc hsl d1, xc abl u0⟩ (fun hHeld => ?_)
                clear hK K
                try simp only [Act.put, List.setIfInBounds_toArray, List.set_cons_zero, List.set_cons_succ, List.getElem_toArray, List.getElem_cons_succ, List.getElem_cons_zero]
                refine tk 18 hHeld ?_
                refine tk 19 hHeld ?_
                refine wpAnyH_done (by kernel_rfl) ?_ _
                go_wp2_with fail
                go_roundw
                case rel => exact ⟨q + 1, by go_num, by omega, _, rfl, Lib.hid ⟨HX4.out.trans HX7.out, by rw [HSN.out, HUQ.out]; rfl⟩⟩
                case measure => simp [intOf]; omega
          · obtain rfl : q = 4 := by omega
            rw [← HB.out] at HCA
            cases hkt : t.testBit k
            · have HKT := Lib.hid hkt
              rw [hkt] at HCA
              clear hkt
              cases b
              · have HP := Lib.hid (HALL2.out (by rw [HCA.out]; rfl))
                go_wp2_with fail
                refine (in_any t k _ _ hk64 HKT.out).mono ?_
                rintro e w2 ⟨rfl, rfl⟩
                go_wp2_with fail
                go_roundw
                case rel => exact ⟨k + 1, by go_num, by omega, Lib.hid ⟨HXW.out, HP.out⟩⟩
                case measure => simp [intOf]; omega
              · have HE := Lib.hid (coh_hit hlt2 (HCA.out.trans rfl))
                go_wp2_with fail
                refine (in_any t k _ _ hk64 HKT.out).mono ?_
                rintro e w2 ⟨rfl, rfl⟩
                go_wp2_with fail
                go_ret
                exact ⟨by rw [HE.out] <;> rfl, HXW.out⟩
            · have HKT := Lib.hid hkt
              rw [hkt] at HCA
              clear hkt
              cases b
              · have HE := Lib.hid (coh_hit hlt2 (HCA.out.trans rfl))
                go_wp2_with fail
                refine (in_any t k _ _ hk64 HKT.out).mono ?_
                rintro e w2 ⟨rfl, rfl⟩
                go_wp2_with fail
                go_ret
                exact ⟨by rw [HE.out] <;> rfl, HXW.out⟩
              · have HP := Lib.hid (HALL2.out (by rw [HCA.out]; rfl))
                go_wp2_with fail
                refine (in_any t k _ _ hk64 HKT.out).mono ?_
                rintro e w2 ⟨rfl, rfl⟩
                go_wp2_with fail
                go_roundw
                case rel => exact ⟨k + 1, by go_num, by omega, Lib.hid ⟨HXW.out, HP.out⟩⟩
                case measure => simp [intOf]; omega
      · by_cases h9 : n.op = 9
        · have HCA := Lib.hid (show cohAt lg base t k = !(reflN lg && (t.testBit k && !(bodyN base k).getD t false)) by unfold cohAt; rw [← HN.out, h9]; rfl)
          have hbl2 : (bodyN base k).length = 2 ^ base.length := body_len (by rw [← HN.out]; exact h9)
          rw [h9] at c0
          obtain ⟨ak, vk, rfl, hakl, hvk, ⟨Ab2, cb2, rfl, hbo⟩⟩ := HKN.out k hlt2
          have k0 := (HX.out.cell (p := ak.add k) (by rw [block_of_add]; exact hakl)).trans hvk
          have hakl2 : (ak.add k).block < wq.heap.size := by rw [block_of_add]; exact Nat.lt_of_lt_of_le hakl HX.out.size
          obtain ⟨ab, rfl, habl, hab⟩ := bools_get hbo (k := t) (by rw [hbl2]; exact HT.out)
          have b0 := (HX.out.cell (p := ab.add t) (by rw [block_of_add]; exact habl)).trans hab
          have habl2 : (ab.add t).block < wq.heap.size := by rw [block_of_add]; exact Nat.lt_of_lt_of_le habl HX.out.size
          have ht1 : (t : Int) < ((bodyN base k).length : Int) := by rw [hbl2]; exact Int.ofNat_lt.2 HT.out
          obtain ⟨bl, hbl3⟩ : ∃ m, m = (bodyN base k).length := ⟨_, rfl⟩
          rw [← hbl3] at k0 ht1
          have d0 := (HX.out.cell (p := ⟨s, 0, none⟩) hs).trans D0.out
          have d3 := (HX.out.cell (p := ⟨s, 3, none⟩) hs).trans D3.out
          clear h9 h13 hvk hab hbo hbl2 hbl3
          cases hr : reflN lg
          · have HP := Lib.hid (HALL2.out (by rw [HCA.out, hr]; rfl))
            have HRE := Lib.hid hr
            clear hr
            go_wp2_with fail
            refine (rrefl_any lg _).mono ?_
            rintro e w2 ⟨rfl, rfl⟩
            rw [HRE.out]
            go_wp2_with fail
            go_roundw
            case rel => exact ⟨k + 1, by go_num, by omega, Lib.hid ⟨HX.out.trans ((Ext.refl _).alloc _), HP.out⟩⟩
            case measure => simp [intOf]; omega
          · have HRE := Lib.hid hr
            rw [hr] at HCA
            clear hr
            cases hkt : t.testBit k
            · have HP := Lib.hid (HALL2.out (by rw [HCA.out, hkt]; rfl))
              have HKT := Lib.hid hkt
              clear hkt
              go_wp2_with fail
              refine (rrefl_any lg _).mono ?_
              rintro e w2 ⟨rfl, rfl⟩
              rw [HRE.out]
              go_wp2_with fail
              refine (in_any t k _ _ hk64 HKT.out).mono ?_
              rintro e w2 ⟨rfl, rfl⟩
              go_wp2_with fail
              go_roundw
              case rel => exact ⟨k + 1, by go_num, by omega, Lib.hid ⟨HX.out.trans ((Ext.refl _).alloc _), HP.out⟩⟩
              case measure => simp [intOf]; omega
            · have HKT := Lib.hid hkt
              rw [hkt] at HCA
              clear hkt
              cases hbv : (bodyN base k).getD t false
              · rw [hbv] at b0 HCA
                have HE := Lib.hid (coh_hit hlt2 (HCA.out.trans rfl))
                clear hbv
                go_wp2_with fail
                refine (rrefl_any lg _).mono ?_
                rintro e w2 ⟨rfl, rfl⟩
                rw [HRE.out]
                go_wp2_with fail
                refine (in_any t k _ _ hk64 HKT.out).mono ?_
                rintro e w2 ⟨rfl, rfl⟩
                go_wp2_with fail
                go_ret
                exact ⟨by rw [HE.out] <;> rfl, HX.out.trans ((Ext.refl _).alloc _)⟩
              · rw [hbv] at b0 HCA
                have HP := Lib.hid (HALL2.out (HCA.out.trans rfl))
                clear hbv
                go_wp2_with fail
                refine (rrefl_any lg _).mono ?_
                rintro e w2 ⟨rfl, rfl⟩
                rw [HRE.out]
                go_wp2_with fail
                refine (in_any t k _ _ hk64 HKT.out).mono ?_
                rintro e w2 ⟨rfl, rfl⟩
                go_wp2_with fail
                go_roundw
                case rel => exact ⟨k + 1, by go_num, by omega, Lib.hid ⟨HX.out.trans ((Ext.refl _).alloc _), HP.out⟩⟩
                case measure => simp [intOf]; omega
        · have t13 : (n.op == 13) = false := by simpa using h13
          have t9 : (n.op == 9) = false := by simpa using h9
          have HP := Lib.hid (HALL2.out (by unfold cohAt; rw [← HN.out, t13, t9]; rfl))
          clear h9 h13
          go_wp2_with fail
          go_roundw
          case rel => exact ⟨k + 1, by go_num, by omega, Lib.hid ⟨HX.out.trans ((Ext.refl _).alloc _), HP.out⟩⟩
          case measure => simp [intOf]; omega
    · obtain rfl : base.length = k := by omega
      have HE := Lib.hid (coh_places.2 HALL.out)
      go_wp2_with fail
      go_ret
      exact ⟨by rw [HE.out] <;> rfl, HX.out⟩
end Go.Proofs.YtbfeodammikajaaGreat
