/- The reference's Check and Few of models; Same and Reflexive of relations. -/
import Derived.Test.YtdpblciohodgcaaGreatDoorS40
import Derived.Test.YtdpblciohodgcaaGreatDoorS35
import Derived.Test.YtdpblciohodgcaaGreatDoorS13
import Derived.Test.YtdpblciohodgcaaGreatDoorS31

namespace Go.Proofs.YtdpblciohodgcaaGreatDoor
open Go.RowKit

theorem cells3y {w : World} {b : Nat} {a0 a1 a2 : Value} {t : TypeId} (h : w.heap[b]? = some (.cells #[a0, a1, a2] t (0, 0))) : w.cell? ⟨b, 0, none⟩ = some a0 ∧ w.cell? ⟨b, 1, none⟩ = some a1 ∧ w.cell? ⟨b, 2, none⟩ = some a2 ∧ b < w.heap.size :=
  ⟨by simp [World.cell?, h], by simp [World.cell?, h], by simp [World.cell?, h], lt_heap h⟩
set_option maxRecDepth 100000 in
set_option maxHeartbeats 16000000 in
theorem check13_any (v : Value) (md : Md) (w : World) (h : MdV w v md) (hok : md.ok) :
    Calls Tryz.prog 8 #[v] w fun e w' => e = .returned (.int .i64 (checkM md)) ∧ Ext w w' := by
  obtain ⟨vv, vr, rfl, hv, hr⟩ := h
  have HV := Lib.hid hv
  have HOK := Lib.hid hok
  obtain ⟨Av, cv, rfl, _⟩ := hv
  obtain ⟨Ar, cr, rfl, _, _, HR⟩ := u64ss_at hr
  obtain ⟨n, hn⟩ : ∃ n, n = md.n := ⟨_, rfl⟩
  have HN := Lib.hid hn
  rw [← hn]
  clear hr hok hn
  by_cases h1 : n < 1
  · have HE := Lib.hid (show checkM md = 2 by unfold checkM; rw [← HN.out, if_pos (.inl h1)])
    go_enter Tryz.func8, Tryz.ntmps8
    go_wp2_with fail
    go_ret
    exact ⟨by rw [HE.out] <;> rfl, (Ext.refl _).alloc _⟩
  by_cases h64 : 64 < n
  · have HE := Lib.hid (show checkM md = 2 by unfold checkM; rw [← HN.out, if_pos (.inr h64)])
    go_enter Tryz.func8, Tryz.ntmps8
    go_wp2_with fail
    go_ret
    exact ⟨by rw [HE.out] <;> rfl, (Ext.refl _).alloc _⟩
  obtain ⟨m, rfl⟩ := Int.eq_ofNat_of_zero_le (show 0 ≤ n by omega)
  have hm64 : m ≤ 64 := by omega
  have HCM := Lib.hid (show checkM md = if 4 < md.rel.length ∨ 8 < md.val.length then 8 else if md.rel.any (fun r => !decide ((r.length : Int) = (m : Int))) then 3 else if beyondN md.val m then 2 else if md.rel.any (fun r => beyondN r m) then 2 else 0 by unfold checkM; rw [← HN.out, if_neg (by omega)]; rfl)
  by_cases hr4 : 4 < md.rel.length
  · have HE := Lib.hid (show checkM md = 8 by rw [HCM.out, if_pos (.inl hr4)])
    have hi : (4 : Int) < (md.rel.length : Int) := by omega
    go_enter Tryz.func8, Tryz.ntmps8
    go_wp2_with fail
    go_ret
    exact ⟨by rw [HE.out] <;> rfl, (Ext.refl _).alloc _⟩
  have hi4 : ¬ (4 : Int) < (md.rel.length : Int) := by omega
  by_cases hv8 : 8 < md.val.length
  · have HE := Lib.hid (show checkM md = 8 by rw [HCM.out, if_pos (.inr hv8)])
    have hi : (8 : Int) < (md.val.length : Int) := by omega
    go_enter Tryz.func8, Tryz.ntmps8
    go_wp2_with fail
    go_ret
    exact ⟨by rw [HE.out] <;> rfl, (Ext.refl _).alloc _⟩
  have hi8 : ¬ (8 : Int) < (md.val.length : Int) := by omega
  have HC2 := Lib.hid (show checkM md = if md.rel.any (fun r => !decide ((r.length : Int) = (m : Int))) then 3 else if beyondN md.val m then 2 else if md.rel.any (fun r => beyondN r m) then 2 else 0 by rw [HCM.out, if_neg (by omega)])
  obtain ⟨rl, hrl⟩ : ∃ l, l = md.rel := ⟨_, rfl⟩
  have HRO := Lib.hid (show ∀ r ∈ rl, ∀ s ∈ r, word s by rw [hrl]; exact HOK.out.rel)
  rw [← hrl] at HC2 HR hi4 hr4 ⊢
  clear HCM hrl
  go_enter Tryz.func8, Tryz.ntmps8
  go_upto_region 5 with (fail)
  obtain ⟨W0, hW0⟩ : ∃ W, W = w.alloc (.cells #[.int .i64 (m : Int), .slice Av md.val.length cv, .slice Ar rl.length cr] 29) := ⟨_, rfl⟩
  have HX0 := Lib.hid (show Ext w W0 by rw [hW0]; exact (Ext.refl _).alloc _)
  have HB := Lib.hid (show W0.heap[w.heap.size]? = some (.cells #[.int .i64 (m : Int), .slice Av md.val.length cv, .slice Ar rl.length cr] 29 (0, 0)) by rw [hW0]; exact heap_alloc_new _ _)
  rw [← hW0]
  clear hW0
  obtain ⟨b, hb⟩ : ∃ b, b = w.heap.size := ⟨_, rfl⟩
  rw [← hb] at HB ⊢
  clear hb
  go_wp2_with fail
  go_loopw [3] (fun v wr => ∃ k : Nat, v = .int .i64 (k : Int) ∧ k ≤ rl.length ∧ Hid (Ext W0 wr ∧ ∀ j, j < k → (!decide (((rl.getD j []).length : Int) = (m : Int))) = false)) (fun v _ => rl.length - (intOf v).toNat)
  case atStart => exact ⟨0, rfl, Nat.zero_le _, Lib.hid ⟨Ext.refl _, fun j hj => absurd hj (by omega)⟩⟩
  case round =>
    obtain ⟨k, rfl, hk, HREL⟩ := hrel
    have HX := Lib.hid HREL.out.1
    have HJ := Lib.hid HREL.out.2
    obtain ⟨e0, e1, e2, eb⟩ := cells3y ((HX.out.block (lt_heap HB.out)).trans HB.out)
    clear HREL
    by_cases hlt2 : k < rl.length
    · have hk1 : (k : Int) < (rl.length : Int) := by omega
      obtain ⟨ad, u, rfl, hadl, hc, hu⟩ := HR.out k hlt2
      obtain ⟨Au, cu, rfl, _⟩ := hu
      have a0 := (HX.out.cell (p := ad.add k) (by rw [block_of_add]; exact Nat.lt_of_lt_of_le hadl HX0.out.size)).trans ((HX0.out.cell (p := ad.add k) (by rw [block_of_add]; exact hadl)).trans hc)
      have al : (ad.add k).block < wr.heap.size := by rw [block_of_add]; exact Nat.lt_of_lt_of_le hadl (HX0.out.trans HX.out).size
      have HNX := Lib.hid (show (!decide (((rl.getD k []).length : Int) = (m : Int))) = false → ∀ j, j < k + 1 → (!decide (((rl.getD j []).length : Int) = (m : Int))) = false from fun h => upto2 (P := fun j => (!decide (((rl.getD j []).length : Int) = (m : Int))) = false) HJ.out h)
      have HHT := Lib.hid (show (!decide (((rl.getD k []).length : Int) = (m : Int))) = true → checkM md = 3 from fun h => by rw [HC2.out, if_pos (any_hitR hlt2 h)])
      obtain ⟨q, hq⟩ : ∃ q, q = (rl.getD k []).length := ⟨_, rfl⟩
      rw [← hq] at a0 HNX HHT
      clear hc hq
      go_upto_region 8 with (fail)
      by_cases hd : q = m
      · subst hd
        have hqq : ((q : Int) != (q : Int)) = false := by simp
        have HP := Lib.hid (HNX.out (by simp))
        refine wp_region_held_drew (S := fun w' => w'.cell? (⟨b, 0, none⟩) = some (.int .i64 (q : Int)) ∧ w'.cell? (⟨b, 2, none⟩) = some (.slice (some ad) rl.length cr) ∧ w'.cell? (ad.add k) = some (.slice Au q cu)) (by kernel_rfl) ⟨xc eb e0, xc eb e2, xc al a0⟩ (fun hHeld => ?_)
        refine tk 0 hHeld ?_
        refine tk 1 hHeld ?_
        refine tk 2 hHeld ?_
        refine tk 3 hHeld ?_
        refine tk 4 hHeld ?_
        refine tk 5 hHeld ?_
        refine tk 6 hHeld ?_
        refine tk 7 hHeld ?_
        refine tk 8 hHeld ?_
        refine wpAnyH_done (by kernel_rfl) ?_ _
        go_wp2_with fail
        go_roundw
        case rel => exact ⟨k + 1, by go_num, by omega, Lib.hid ⟨HX.out.trans (Ext.refl _).drew, HP.out⟩⟩
        case measure => simp [intOf]; omega
      · have hqq : ((q : Int) != (m : Int)) = true := by simp; omega
        have HE := Lib.hid (HHT.out (by simp; omega))
        refine wp_region_held_drew (S := fun w' => w'.cell? (⟨b, 0, none⟩) = some (.int .i64 (m : Int)) ∧ w'.cell? (⟨b, 2, none⟩) = some (.slice (some ad) rl.length cr) ∧ w'.cell? (ad.add k) = some (.slice Au q cu)) (by kernel_rfl) ⟨xc eb e0, xc eb e2, xc al a0⟩ (fun hHeld => ?_)
        refine tk 0 hHeld ?_
        refine tk 1 hHeld ?_
        refine tk 2 hHeld ?_
        refine tk 3 hHeld ?_
        refine tk 4 hHeld ?_
        refine tk 5 hHeld ?_
        refine tk 6 hHeld ?_
        refine tk 7 hHeld ?_
        refine tk 8 hHeld ?_
        refine wpAnyH_done (by kernel_rfl) ?_ _
        go_wp2_with fail
        go_ret
        exact ⟨by rw [HE.out] <;> rfl, HX0.out.trans (HX.out.trans (Ext.refl _).drew)⟩
    · obtain rfl : rl.length = k := by omega
      have HC3 := Lib.hid (show checkM md = if beyondN md.val m then 2 else if rl.any (fun r => beyondN r m) then 2 else 0 by rw [HC2.out, any_missR HJ.out]; rfl)
      have HXW := Lib.hid (HX0.out.trans HX.out)
      go_wp2_with fail
      refine (beyond_any _ md.val m _ (HV.out.ext HXW.out) HOK.out.val hm64).mono ?_
      rintro e w2 ⟨rfl, hx2⟩
      have HX2 := Lib.hid hx2
      clear hx2 e0 e1 e2 eb
      cases hbv : beyondN md.val m
      case true =>
        have HE := Lib.hid (show checkM md = 2 by rw [HC3.out, hbv]; rfl)
        clear hbv
        go_wp2_with fail
        go_ret
        exact ⟨by rw [HE.out] <;> rfl, HXW.out.trans HX2.out⟩
      have HC4 := Lib.hid (show checkM md = if rl.any (fun r => beyondN r m) then 2 else 0 by rw [HC3.out, hbv]; rfl)
      clear hbv
      have HB2 := Lib.hid ((HX2.out.block (lt_heap ((HX.out.block (lt_heap HB.out)).trans HB.out))).trans ((HX.out.block (lt_heap HB.out)).trans HB.out))
      have HXW2 := Lib.hid (HXW.out.trans HX2.out)
      go_wp2_with fail
      go_loopw [4] (fun v wr => ∃ k : Nat, v = .int .i64 (k : Int) ∧ k ≤ rl.length ∧ Hid (Ext w2 wr ∧ ∀ j, j < k → beyondN (rl.getD j []) m = false)) (fun v _ => rl.length - (intOf v).toNat)
      case atStart => exact ⟨0, rfl, Nat.zero_le _, Lib.hid ⟨Ext.refl _, fun j hj => absurd hj (by omega)⟩⟩
      case round =>
        clear HX HJ
        obtain ⟨k, rfl, hk, HREL⟩ := hrel
        have HX := Lib.hid HREL.out.1
        have HJ := Lib.hid HREL.out.2
        obtain ⟨e0, e1, e2, eb⟩ := cells3y ((HX.out.block (lt_heap HB2.out)).trans HB2.out)
        clear HREL
        by_cases hlt2 : k < rl.length
        · have hk1 : (k : Int) < (rl.length : Int) := by omega
          obtain ⟨ad, u, rfl, hadl, hc, hu⟩ := HR.out k hlt2
          have HXK := Lib.hid (HXW2.out.trans HX.out)
          have HU := Lib.hid (hu.ext HXK.out)
          have HUW := Lib.hid (getD_words HRO.out k)
          obtain ⟨Au, cu, rfl, _⟩ := hu
          have a0 := (HXK.out.cell (p := ad.add k) (by rw [block_of_add]; exact hadl)).trans hc
          have al : (ad.add k).block < wr.heap.size := by rw [block_of_add]; exact Nat.lt_of_lt_of_le hadl HXK.out.size
          have HNX := Lib.hid (show beyondN (rl.getD k []) m = false → ∀ j, j < k + 1 → beyondN (rl.getD j []) m = false from fun h => upto2 (P := fun j => beyondN (rl.getD j []) m = false) HJ.out h)
          have HHT := Lib.hid (show beyondN (rl.getD k []) m = true → checkM md = 2 from fun h => by rw [HC4.out, if_pos (any_hitR (P := fun r => beyondN r m) hlt2 h)])
          obtain ⟨q, hq⟩ : ∃ q, q = rl.getD k [] := ⟨_, rfl⟩
          rw [← hq] at a0 HNX HHT HU HUW
          clear hc hq
          go_upto_region 15 with (fail)
          obtain ⟨wq, hwq⟩ : ∃ v, v = wr := ⟨_, rfl⟩
          subst hwq
          refine wp_region_held_drew (S := fun w' => w'.cell? (⟨b, 0, none⟩) = some (.int .i64 (m : Int)) ∧ w'.cell? (⟨b, 2, none⟩) = some (.slice (some ad) rl.length cr) ∧ w'.cell? (ad.add k) = some (.slice Au q.length cu)) (by kernel_rfl) ⟨xc eb e0, xc eb e2, xc al a0⟩ (fun hHeld => ?_)
          refine tk 0 hHeld ?_
          refine tk 1 hHeld ?_
          refine tk 2 hHeld ?_
          refine tk 3 hHeld ?_
          refine tk 4 hHeld ?_
          refine tk 5 hHeld ?_
          refine tk 6 hHeld ?_
          refine wpAnyH_ready (rs := [7]) (by kernel_rfl) (by simp) ?_
          refine AllReadyH.cons rfl (fun K hK => ?_) AllReadyH.nil
          go_simp
          refine (beyond_any _ q m _ (HU.out.ext (by repeat (first | exact Ext.refl _ | assumption | apply Ext.alloc | apply Ext.drew | apply Ext.setCell))) HUW.out hm64).mono ?_
          rintro e w3 ⟨rfl, hx0⟩
          have hx3 : Ext wq w3 := Ext.trans (by repeat (first | exact Ext.refl _ | assumption | apply Ext.alloc | apply Ext.drew | apply Ext.setCell)) hx0
          have HX3 := Lib.hid hx3
          clear hx0
          go_wp2_with fail
          refine hK.out _ _ ⟨xc eb e0, xc eb e2, xc al a0⟩ (fun hHeld => ?_)
          clear hK K
          try simp only [Act.put, List.setIfInBounds_toArray, List.set_cons_zero, List.set_cons_succ, List.getElem_toArray, List.getElem_cons_succ, List.getElem_cons_zero]
          refine wpAnyH_done (by kernel_rfl) ?_ _
          cases hd : beyondN q m
          · have HP := Lib.hid (HNX.out hd)
            clear hd
            go_wp2_with fail
            go_roundw
            case rel => exact ⟨k + 1, by go_num, by omega, Lib.hid ⟨HX.out.trans HX3.out, HP.out⟩⟩
            case measure => simp [intOf]; omega
          · have HE := Lib.hid (HHT.out hd)
            clear hd
            go_wp2_with fail
            go_ret
            exact ⟨by rw [HE.out] <;> rfl, HXK.out.trans HX3.out⟩
        · obtain rfl : rl.length = k := by omega
          have HE := Lib.hid (show checkM md = 0 by rw [HC4.out, any_missR (P := fun r => beyondN r m) HJ.out]; rfl)
          go_wp2_with fail
          go_ret
          exact ⟨by rw [HE.out] <;> rfl, HXW2.out.trans HX.out⟩
set_option maxRecDepth 100000 in
set_option maxHeartbeats 8000000 in
theorem few13_any (v : Value) (md : Md) (z : Int) (w : World) (h : MdV w v md) :
    Calls Tryz.prog 7 #[v, .int .i64 z] w fun e w' => ∃ b, e = .returned (.bool b) ∧ Ext w w' := by
  obtain ⟨vv, vr, rfl, hv, hr⟩ := h
  obtain ⟨Av, cv, rfl, _⟩ := hv
  obtain ⟨Ar, cr, rfl, _, _, HR⟩ := u64ss_at hr
  obtain ⟨n, hn⟩ : ∃ n, n = md.n := ⟨_, rfl⟩
  rw [← hn]
  clear hr hn
  by_cases h1 : z < n ∧ n ≤ 64
  · obtain ⟨h2, h3⟩ := h1
    go_enter Tryz.func7, Tryz.ntmps7
    go_wp2_with fail
    go_ret
    first | exact ⟨_, rfl, (Ext.refl _).alloc _⟩ | exact ⟨.inl rfl, (Ext.refl _).alloc _⟩ | exact ⟨.inr rfl, (Ext.refl _).alloc _⟩
  obtain ⟨t, ht⟩ : ∃ t, t = decide (z < n) := ⟨_, rfl⟩
  by_cases hz : z < n
  all_goals
    (try have h64 : ¬ n ≤ 64 := fun e => h1 ⟨hz, e⟩)
    clear h1 ht
    by_cases hv20 : 20 < md.val.length
    · have hi : (20 : Int) < (md.val.length : Int) := by omega
      go_enter Tryz.func7, Tryz.ntmps7
      go_wp2_with fail
      go_ret
      first | exact ⟨_, rfl, (Ext.refl _).alloc _⟩ | exact ⟨.inl rfl, (Ext.refl _).alloc _⟩ | exact ⟨.inr rfl, (Ext.refl _).alloc _⟩
    have hi20 : ¬ (20 : Int) < (md.val.length : Int) := by omega
    by_cases hr10 : 10 < md.rel.length
    · have hi : (10 : Int) < (md.rel.length : Int) := by omega
      go_enter Tryz.func7, Tryz.ntmps7
      go_wp2_with fail
      go_ret
      first | exact ⟨_, rfl, (Ext.refl _).alloc _⟩ | exact ⟨.inl rfl, (Ext.refl _).alloc _⟩ | exact ⟨.inr rfl, (Ext.refl _).alloc _⟩
    have hi10 : ¬ (10 : Int) < (md.rel.length : Int) := by omega
    generalize md.rel = rl at *
    generalize md.val.length = vl at *
    go_enter Tryz.func7, Tryz.ntmps7
    go_upto_region 3 with (fail)
    obtain ⟨W0, hW0⟩ : ∃ W, W = w.alloc (.cells #[.int .i64 n, .slice Av vl cv, .slice Ar rl.length cr] 29) := ⟨_, rfl⟩
    have HX0 := Lib.hid (show Ext w W0 by rw [hW0]; exact (Ext.refl _).alloc _)
    have HB := Lib.hid (show W0.heap[w.heap.size]? = some (.cells #[.int .i64 n, .slice Av vl cv, .slice Ar rl.length cr] 29 (0, 0)) by rw [hW0]; exact heap_alloc_new _ _)
    rw [← hW0]
    clear hW0
    obtain ⟨b, hb⟩ : ∃ b, b = w.heap.size := ⟨_, rfl⟩
    rw [← hb] at HB ⊢
    clear hb
    go_wp2_with fail
    go_loopw [5] (fun v wr => ∃ k : Nat, v = .int .i64 (k : Int) ∧ k ≤ rl.length ∧ Hid (Ext W0 wr)) (fun v _ => rl.length - (intOf v).toNat)
    case atStart => exact ⟨0, rfl, Nat.zero_le _, Lib.hid (Ext.refl _)⟩
    case round =>
      obtain ⟨k, rfl, hk, HX⟩ := hrel
      obtain ⟨e0, e1, e2, eb⟩ := cells3y ((HX.out.block (lt_heap HB.out)).trans HB.out)
      by_cases hlt2 : k < rl.length
      · have hk1 : (k : Int) < (rl.length : Int) := by omega
        obtain ⟨ad, u, rfl, hadl, hc, hu⟩ := HR.out k hlt2
        obtain ⟨Au, cu, rfl, _⟩ := hu
        have a0 := ((HX0.out.trans HX.out).cell (p := ad.add k) (by rw [block_of_add]; exact hadl)).trans hc
        have al : (ad.add k).block < wr.heap.size := by rw [block_of_add]; exact Nat.lt_of_lt_of_le hadl (HX0.out.trans HX.out).size
        generalize (rl.getD k []).length = q at a0
        clear hc
        by_cases hq : 70 < q
        · have hq1 : (70 : Int) < (q : Int) := by omega
          go_wp2_with fail
          go_ret
          first | exact ⟨_, rfl, HX0.out.trans HX.out⟩ | exact ⟨.inl rfl, HX0.out.trans HX.out⟩ | exact ⟨.inr rfl, HX0.out.trans HX.out⟩
        · have hq1 : ¬ (70 : Int) < (q : Int) := by omega
          go_wp2_with fail
          go_roundw
          case rel => exact ⟨k + 1, by go_num, by omega, HX⟩
          case measure => simp [intOf]; omega
      · obtain rfl : rl.length = k := by omega
        go_wp2_with fail
        go_ret
        first | exact ⟨_, rfl, HX0.out.trans HX.out⟩ | exact ⟨.inl rfl, HX0.out.trans HX.out⟩ | exact ⟨.inr rfl, HX0.out.trans HX.out⟩
end Go.Proofs.YtdpblciohodgcaaGreatDoor
