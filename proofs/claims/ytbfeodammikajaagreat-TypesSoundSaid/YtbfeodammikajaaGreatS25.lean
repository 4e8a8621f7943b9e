/- The reference's Check and Few of models; Same and Reflexive of relations. -/
import Derived.Test.YtbfeodammikajaaGreatS24
import Derived.Test.YtbfeodammikajaaGreatS09
import Derived.Test.YtbfeodammikajaaGreatS07
import Derived.Test.YtbfeodammikajaaGreatS17
import Derived.Test.YtbfeodammikajaaGreatS15
import Derived.Test.YtbfeodammikajaaGreatS06

namespace Go.Proofs.YtbfeodammikajaaGreat
open Go.RowKit

def checkM (md : Md) : Int :=
  if md.n < 1 ∨ 64 < md.n then 2 else if 4 < md.rel.length ∨ 8 < md.val.length then 8
  else if md.rel.any (fun r => !decide ((r.length : Int) = md.n)) then 3
  else if beyondN md.val md.n.toNat then 2 else if md.rel.any (fun r => beyondN r md.n.toNat) then 2 else 0
theorem any_hitR {P : List Nat → Bool} {l : List (List Nat)} {k : Nat} (hk : k < l.length) (h : P (l.getD k []) = true) : l.any P = true := by
  rw [List.any_eq_true]
  exact ⟨l[k], List.getElem_mem hk, by rw [List.getD_eq_getElem?_getD, List.getElem?_eq_getElem hk] at h; exact h⟩
theorem any_missR {P : List Nat → Bool} {l : List (List Nat)} (h : ∀ k, k < l.length → P (l.getD k []) = false) : l.any P = false := by
  rw [List.any_eq_false]
  intro s hs
  obtain ⟨k, hk, e⟩ := List.getElem_of_mem hs
  have := h k hk
  rw [List.getD_eq_getElem?_getD, List.getElem?_eq_getElem hk] at this
  have h2 : P l[k] = false := this
  rw [e] at h2
  rw [h2]
  simp
theorem cells3y {w : World} {b : Nat} {a0 a1 a2 : Value} {t : TypeId} (h : w.heap[b]? = some (.cells #[a0, a1, a2] t (0, 0))) : w.cell? ⟨b, 0, none⟩ = some a0 ∧ w.cell? ⟨b, 1, none⟩ = some a1 ∧ w.cell? ⟨b, 2, none⟩ = some a2 ∧ b < w.heap.size :=
  ⟨by simp [World.cell?, h], by simp [World.cell?, h], by simp [World.cell?, h], lt_heap h⟩
set_option maxRecDepth 100000 in
set_option maxHeartbeats 16000000 in
theorem check13_any (v : Value) (md : Md) (w : World) (h : MdV w v md) (hok : md.ok) :
    Calls Tryz.prog 39 #[v] w fun e w' => e = .returned (.int .i64 (checkM md)) ∧ Ext w w' := by
  obtain ⟨vv, vr, rfl, hv, hr⟩ := h
  have HV := Lib.hid hv
  have HOK := Lib.hid hok
  obtain ⟨Av, cv, rfl, _⟩ := hv
  obtain ⟨Ar, cr, rfl, _, _, HR⟩ := u64ss_at hr
  obtain ⟨n, hn⟩ : ∃ n, n = md.n := ⟨_, rfl⟩
  have HN := Lib.hid hn
  rw [← hn]
  clear hr hok hn
  by_cases h1 : n < 1
  · have HE := Lib.hid (show checkM md = 2 by unfold checkM; rw [← HN.out, if_pos (.inl h1)])
    go_enter Tryz.func39, Tryz.ntmps39
    go_wp2_with fail
    go_ret
    exact ⟨by rw [HE.out] <;> rfl, (Ext.refl _).alloc _⟩
  by_cases h64 : 64 < n
  · have HE := Lib.hid (show checkM md = 2 by unfold checkM; rw [← HN.out, if_pos (.inr h64)])
    go_enter Tryz.func39, Tryz.ntmps39
    go_wp2_with fail
    go_ret
    exact ⟨by rw [HE.out] <;> rfl, (Ext.refl _).alloc _⟩
  obtain ⟨m, rfl⟩ := Int.eq_ofNat_of_zero_le (show 0 ≤ n by omega)
  have hm64 : m ≤ 64 := by omega
  have HCM := Lib.hid (show checkM md = if 4 < md.rel.length ∨ 8 < md.val.length then 8 else if md.rel.any (fun r => !decide ((r.length : Int) = (m : Int))) then 3 else if beyondN md.val m then 2 else if md.rel.any (fun r => beyondN r m) then 2 else 0 by unfold checkM; rw [← HN.out, if_neg (by omega)]; rfl)
  by_cases hr4 : 4 < md.rel.length
  · have HE := Lib.hid (show checkM md = 8 by rw [HCM.out, if_pos (.inl hr4)])
    have hi : (4 : Int) < (md.rel.length : Int) := by omega
    go_enter Tryz.func39, Tryz.ntmps39
    go_wp2_with fail
    go_ret
    exact ⟨by rw [HE.out] <;> rfl, (Ext.refl _).alloc _⟩
  have hi4 : ¬ (4 : Int) < (md.rel.length : Int) := by omega
  by_cases hv8 : 8 < md.val.length
  · have HE := Lib.hid (show checkM md = 8 by rw [HCM.out, if_pos (.inr hv8)])
    have hi : (8 : Int) < (md.val.length : Int) := by omega
    go_enter Tryz.func39, Tryz.ntmps39
    go_wp2_with fail
    go_ret
    exact ⟨by rw [HE.out] <;> rfl, (Ext.refl _).alloc _⟩
  have hi8 : ¬ (8 : Int) < (md.val.length : Int) := by omega
  have HC2 := Lib.hid (show checkM md = if md.rel.any (fun r => !decide ((r.length : Int) = (m : Int))) then 3 else if beyondN md.val m then 2 else if md.rel.any (fun r => beyondN r m) then 2 else 0 by rw [HCM.out, if_neg (by omega)])
  obtain ⟨rl, hrl⟩ : ∃ l, l = md.rel := ⟨_, rfl⟩
  have HRO := Lib.hid (show ∀ r ∈ rl, ∀ s ∈ r, word s by rw [hrl]; exact HOK.out.rel)
  rw [← hrl] at HC2 HR hi4 hr4 ⊢
  clear HCM hrl
  go_enter Tryz.func39, Tryz.ntmps39
  go_upto_region 5 with (fail)
  obtain ⟨W0, hW0⟩ : ∃ W, W = w.alloc (.cells #[.int .i64 (m : Int), .slice Av md.val.length cv, .slice Ar rl.length cr] 38) := ⟨_, rfl⟩
  have HX0 := Lib.hid (show Ext w W0 by rw [hW0]; exact (Ext.refl _).alloc _)
  have HB := Lib.hid (show W0.heap[w.heap.size]? = some (.cells #[.int .i64 (m : Int), .slice Av md.val.length cv, .slice Ar rl.length cr] 38 (0, 0)) by rw [hW0]; exact heap_alloc_new _ _)
  rw [← hW0]
  clear hW0
  obtain ⟨b, hb⟩ : ∃ b, b = w.heap.size := ⟨_, rfl⟩
  rw [← hb] at HB ⊢
  clear hb
  go_wp2_with fail
  go_loopw [3] (fun v wr => ∃ k : Nat, v = .int .i64 (k : Int) ∧ k ≤ rl.length ∧ Hid (Ext W0 wr ∧ ∀ j, j < k → (!decide (((rl.getD j []).length : Int) = (m : Int))) = false)) (fun v _ => rl.length - (intOf v).toNat)
  case atStart => exact ⟨0, rfl, Nat.zero_le _, Lib.hid ⟨Ext.refl _, fun j hj => absurd hj (by omega)⟩⟩
  case round =>
    obtain ⟨k, rfl, hk, HREL⟩ := hrel
    have HX := Lib.hid HREL.out.1
    have HJ := Lib.hid HREL.out.2
    obtain ⟨e0, e1, e2, eb⟩ := cells3y ((HX.out.block (lt_heap HB.out)).trans HB.out)
    clear HREL
    by_cases hlt2 : k < rl.length
    · have hk1 : (k : Int) < (rl.length : Int) := by omega
      obtain ⟨ad, u, rfl, hadl, hc, hu⟩ := HR.out k hlt2
      obtain ⟨Au, cu, rfl, _⟩ := hu
      have a0 := (HX.out.cell (p := ad.add k) (by rw [block_of_add]; exact Nat.lt_of_lt_of_le hadl HX0.out.size)).trans ((HX0.out.cell (p := ad.add k) (by rw [block_of_add]; exact hadl)).trans hc)
      have al : (ad.add k).block < wr.heap.size := by rw [block_of_add]; exact Nat.lt_of_lt_of_le hadl (HX0.out.trans HX.out).size
      have HNX := Lib.hid (show (!decide (((rl.getD k []).length : Int) = (m : Int))) = false → ∀ j, j < k + 1 → (!decide (((rl.getD j []).length : Int) = (m : Int))) = false from fun h => upto2 (P := fun j => (!decide (((rl.getD j []).length : Int) = (m : Int))) = false) HJ.out h)
      have HHT := Lib.hid (show (!decide (((rl.getD k []).length : Int) = (m : Int))) = true → checkM md = 3 from fun h => by rw [HC2.out, if_pos (any_hitR hlt2 h)])
      obtain ⟨q, hq⟩ : ∃ q, q = (rl.getD k []).length := ⟨_, rfl⟩
      rw [← hq] at a0 HNX HHT
      clear hc hq
      go_upto_region 8 with (fail)
      by_cases hd : q = m
      · subst hd
        have hqq : ((q : Int) != (q : Int)) = false := by simp
        have HP := Lib.hid (HNX.out (by simp))
        refine wp_region_held_drew (S := fun w' => w'.cell? (⟨b, 0, none⟩) = some (.int .i64 (q : Int)) ∧ w'.cell? (⟨b, 2, none⟩) = some (.slice (some ad) rl.length cr) ∧ w'.cell? (ad.add k) = some (.slice Au q cu)) (by kernel_rfl) ⟨xc eb e0, xc eb e2, xc al a0⟩ (fun hHeld => ?_)
        refine tk 0 hHeld ?_
        refine tk 1 hHeld ?_
        refine tk 2 hHeld ?_
        refine tk 3 hHeld ?_
        refine tk 4 hHeld ?_
        refine tk 5 hHeld ?_
        refine tk 6 hHeld ?_
        refine tk 7 hHeld ?_
        refine tk 8 hHeld ?_
        refine wpAnyH_done (by kernel_rfl) ?_ _
        go_wp2_with fail
        go_roundw
        case rel => exact ⟨k + 1, by go_num, by omega, Lib.hid ⟨HX.out.trans (Ext.refl _).drew, HP.out⟩⟩
        case measure => simp [intOf]; omega
      · have hqq : ((q : Int) != (m : Int)) = true := by simp; omega
        have HE := Lib.hid (HHT.out (by simp; omega))
        refine wp_region_held_drew (S := fun w' => w'.cell? (⟨b, 0, none⟩) = some (.int .i64 (m : Int)) ∧ w'.cell? (⟨b, 2, none⟩) = some (.slice (some ad) rl.length cr) ∧ w'.cell? (ad.add k) = some (.slice Au q cu)) (by kernel_rfl) ⟨xc eb e0, xc eb e2, xc al a0⟩ (fun hHeld => ?_)
        refine tk 0 hHeld ?_
        refine tk 1 hHeld ?_
        refine tk 2 hHeld ?_
        refine tk 3 hHeld ?_
        refine tk 4 hHeld ?_
        refine tk 5 hHeld ?_
        refine tk 6 hHeld ?_
        refine tk 7 hHeld ?_
        refine tk 8 hHeld ?_
        refine wpAnyH_done (by kernel_rfl) ?_ _
        go_wp2_with fail
        go_ret
        exact ⟨by rw [HE.out] <;> rfl, HX0.out.trans (HX.out.trans (Ext.refl _).drew)⟩
    · obtain rfl : rl.length = k := by omega
      have HC3 := Lib.hid (show checkM md = if beyondN md.val m then 2 else if rl.any (fun r => beyondN r m) then 2 else 0 by rw [HC2.out, any_missR HJ.out]; rfl)
      have HXW := Lib.hid (HX0.out.trans HX.out)
      go_wp2_with fail
      refine (beyond_any _ md.val m _ (HV.out.ext HXW.out) HOK.out.val hm64).mono ?_
      rintro e w2 ⟨rfl, hx2⟩
      have HX2 := Lib.hid hx2
      clear hx2 e0 e1 e2 eb
      cases hbv : beyondN md.val m
      case true =>
        have HE := Lib.hid (show checkM md = 2 by rw [HC3.out, hbv]; rfl)
        clear hbv
        go_wp2_with fail
        go_ret
        exact ⟨by rw [HE.out] <;> rfl, HXW.out.trans HX2.out⟩
      have HC4 := Lib.hid (show checkM md = if rl.any (fun r => beyondN r m) then 2 else 0 by rw [HC3.out, hbv]; rfl)
      clear hbv
      have HB2 := Lib.hid ((HX2.out.block (lt_heap ((HX.out.block (lt_heap HB.out)).trans HB.out))).trans ((HX.out.block (lt_heap HB.out)).trans HB.out))
      have HXW2 := Lib.hid (HXW.out.trans HX2.out)
      go_wp2_with fail
      go_loopw [4] (fun v wr => ∃ k : Nat, v = .int .i64 (k : Int) ∧ k ≤ rl.length ∧ Hid (Ext w2 wr ∧ ∀ j, j < k → beyondN (rl.getD j []) m = false)) (fun v _ => rl.length - (intOf v).toNat)
      case atStart => exact ⟨0, rfl, Nat.zero_le _, Lib.hid ⟨Ext.refl _, fun j hj => absurd hj (by omega)⟩⟩
      case round =>
        clear HX HJ
        obtain ⟨k, rfl, hk, HREL⟩ := hrel
        have HX := Lib.hid HREL.out.1
        have HJ := Lib.hid HREL.out.2
        obtain ⟨e0, e1, e2, eb⟩ := cells3y ((HX.out.block (lt_heap HB2.out)).trans HB2.out)
        clear HREL
        by_cases hlt2 : k < rl.length
        · have hk1 : (k : Int) < (rl.length : Int) := by omega
          obtain ⟨ad, u, rfl, hadl, hc, hu⟩ := HR.out k hlt2
          have HXK := Lib.hid (HXW2.out.trans HX.out)
          have HU := Lib.hid (hu.ext HXK.out)
          have HUW := Lib.hid (getD_words HRO.out k)
          obtain ⟨Au, cu, rfl, _⟩ := hu
          have a0 := (HXK.out.cell (p := ad.add k) (by rw [block_of_add]; exact hadl)).trans hc
          have al : (ad.add k).block < wr.heap.size := by rw [block_of_add]; exact Nat.lt_of_lt_of_le hadl HXK.out.size
          have HNX := Lib.hid (show beyondN (rl.getD k []) m = false → ∀ j, j < k + 1 → beyondN (rl.getD j []) m = false from fun h => upto2 (P := fun j => beyondN (rl.getD j []) m = false) HJ.out h)
          have HHT := Lib.hid (show beyondN (rl.getD k []) m = true → checkM md = 2 from fun h => by rw [HC4.out, if_pos (any_hitR (P := fun r => beyondN r m) hlt2 h)])
          obtain ⟨q, hq⟩ : ∃ q, q = rl.getD k [] := ⟨_, rfl⟩
          rw [← hq] at a0 HNX HHT HU HUW
          clear hc hq
          go_upto_region 15 with (fail)
          obtain ⟨wq, hwq⟩ : ∃ v, v = wr := ⟨_, rfl⟩
          subst hwq
          refine wp_region_held_drew (S := fun w' => w'.cell? (⟨b, 0, none⟩) = some (.int .i64 (m : Int)) ∧ w'.cell? (⟨b, 2, none⟩) = some (.slice (some ad) rl.length cr) ∧ w'.cell? (ad.add k) = some (.slice Au q.length cu)) (by kernel_rfl) ⟨xc eb e0, xc eb e2, xc al a0⟩ (fun hHeld => ?_)
          refine tk 0 hHeld ?_
          refine tk 1 hHeld ?_
          refine tk 2 hHeld ?_
          refine tk 3 hHeld ?_
          refine tk 4 hHeld ?_
          refine tk 5 hHeld ?_
          refine tk 6 hHeld ?_
          refine wpAnyH_ready (rs := [7]) (by kernel_rfl) (by simp) ?_
          refine AllReadyH.cons rfl (fun K hK => ?_) AllReadyH.nil
          go_simp
          refine (beyond_any _ q m _ (HU.out.ext (by repeat (first | exact Ext.refl _ | assumption | apply Ext.alloc | apply Ext.drew | apply Ext.setCell))) HUW.out hm64).mono ?_
          rintro e w3 ⟨rfl, hx0⟩
          have hx3 : Ext wq w3 := Ext.trans (by repeat (first | exact Ext.refl _ | assumption | apply Ext.alloc | apply Ext.drew | apply Ext.setCell)) hx0
          have HX3 := Lib.hid hx3
          clear hx0
          go_wp2_with fail
          refine hK.out _ _ ⟨xc eb e0, xc eb e2, xc al a0⟩ (fun hHeld => ?_)
          clear hK K
          try simp only [Act.put, List.setIfInBounds_toArray, List.set_cons_zero, List.set_cons_succ, List.getElem_toArray, List.getElem_cons_succ, List.getElem_cons_zero]
          refine wpAnyH_done (by kernel_rfl) ?_ _
          cases hd : beyondN q m
          · have HP := Lib.hid (HNX.out hd)
            clear hd
            go_wp2_with fail
            go_roundw
            case rel => exact ⟨k + 1, by go_num, by omega, Lib.hid ⟨HX.out.trans HX3.out, HP.out⟩⟩
            case measure => simp [intOf]; omega
          · have HE := Lib.hid (HHT.out hd)
            clear hd
            go_wp2_with fail
            go_ret
            exact ⟨by rw [HE.out] <;> rfl, HXK.out.trans HX3.out⟩
        · obtain rfl : rl.length = k := by omega
          have HE := Lib.hid (show checkM md = 0 by rw [HC4.out, any_missR (P := fun r => beyondN r m) HJ.out]; rfl)
          go_wp2_with fail
          go_ret
          exact ⟨by rw [HE.out] <;> rfl, HXW2.out.trans HX.out⟩
set_option maxRecDepth 100000 in
set_option maxHeartbeats 8000000 in
theorem few13_any (v : Value) (md : Md) (z : Int) (w : World) (h : MdV w v md) :
    Calls Tryz.prog 14 #[v, .int .i64 z] w fun e w' => ∃ b, e = .returned (.bool b) ∧ Ext w w' := by
  obtain ⟨vv, vr, rfl, hv, hr⟩ := h
  obtain ⟨Av, cv, rfl, _⟩ := hv
  obtain ⟨Ar, cr, rfl, _, _, HR⟩ := u64ss_at hr
  obtain ⟨n, hn⟩ : ∃ n, n = md.n := ⟨_, rfl⟩
  rw [← hn]
  clear hr hn
  by_cases h1 : z < n ∧ n ≤ 64
  · obtain ⟨h2, h3⟩ := h1
    go_enter Tryz.func14, Tryz.ntmps14
    go_wp2_with fail
    go_ret
    first | exact ⟨_, rfl, (Ext.refl _).alloc _⟩ | exact ⟨.inl rfl, (Ext.refl _).alloc _⟩ | exact ⟨.inr rfl, (Ext.refl _).alloc _⟩
  obtain ⟨t, ht⟩ : ∃ t, t = decide (z < n) := ⟨_, rfl⟩
  by_cases hz : z < n
  all_goals
    (try have h64 : ¬ n ≤ 64 := fun e => h1 ⟨hz, e⟩)
    clear h1 ht
    by_cases hv20 : 20 < md.val.length
    · have hi : (20 : Int) < (md.val.length : Int) := by omega
      go_enter Tryz.func14, Tryz.ntmps14
      go_wp2_with fail
      go_ret
      first | exact ⟨_, rfl, (Ext.refl _).alloc _⟩ | exact ⟨.inl rfl, (Ext.refl _).alloc _⟩ | exact ⟨.inr rfl, (Ext.refl _).alloc _⟩
    have hi20 : ¬ (20 : Int) < (md.val.length : Int) := by omega
    by_cases hr10 : 10 < md.rel.length
    · have hi : (10 : Int) < (md.rel.length : Int) := by omega
      go_enter Tryz.func14, Tryz.ntmps14
      go_wp2_with fail
      go_ret
      first | exact ⟨_, rfl, (Ext.refl _).alloc _⟩ | exact ⟨.inl rfl, (Ext.refl _).alloc _⟩ | exact ⟨.inr rfl, (Ext.refl _).alloc _⟩
    have hi10 : ¬ (10 : Int) < (md.rel.length : Int) := by omega
    generalize md.rel = rl at *
    generalize md.val.length = vl at *
    go_enter Tryz.func14, Tryz.ntmps14
    go_upto_region 3 with (fail)
    obtain ⟨W0, hW0⟩ : ∃ W, W = w.alloc (.cells #[.int .i64 n, .slice Av vl cv, .slice Ar rl.length cr] 38) := ⟨_, rfl⟩
    have HX0 := Lib.hid (show Ext w W0 by rw [hW0]; exact (Ext.refl _).alloc _)
    have HB := Lib.hid (show W0.heap[w.heap.size]? = some (.cells #[.int .i64 n, .slice Av vl cv, .slice Ar rl.length cr] 38 (0, 0)) by rw [hW0]; exact heap_alloc_new _ _)
    rw [← hW0]
    clear hW0
    obtain ⟨b, hb⟩ : ∃ b, b = w.heap.size := ⟨_, rfl⟩
    rw [← hb] at HB ⊢
    clear hb
    go_wp2_with fail
    go_loopw [5] (fun v wr => ∃ k : Nat, v = .int .i64 (k : Int) ∧ k ≤ rl.length ∧ Hid (Ext W0 wr)) (fun v _ => rl.length - (intOf v).toNat)
    case atStart => exact ⟨0, rfl, Nat.zero_le _, Lib.hid (Ext.refl _)⟩
    case round =>
      obtain ⟨k, rfl, hk, HX⟩ := hrel
      obtain ⟨e0, e1, e2, eb⟩ := cells3y ((HX.out.block (lt_heap HB.out)).trans HB.out)
      by_cases hlt2 : k < rl.length
      · have hk1 : (k : Int) < (rl.length : Int) := by omega
        obtain ⟨ad, u, rfl, hadl, hc, hu⟩ := HR.out k hlt2
        obtain ⟨Au, cu, rfl, _⟩ := hu
        have a0 := ((HX0.out.trans HX.out).cell (p := ad.add k) (by rw [block_of_add]; exact hadl)).trans hc
        have al : (ad.add k).block < wr.heap.size := by rw [block_of_add]; exact Nat.lt_of_lt_of_le hadl (HX0.out.trans HX.out).size
        generalize (rl.getD k []).length = q at a0
        clear hc
        by_cases hq : 70 < q
        · have hq1 : (70 : Int) < (q : Int) := by omega
          go_wp2_with fail
          go_ret
          first | exact ⟨_, rfl, HX0.out.trans HX.out⟩ | exact ⟨.inl rfl, HX0.out.trans HX.out⟩ | exact ⟨.inr rfl, HX0.out.trans HX.out⟩
        · have hq1 : ¬ (70 : Int) < (q : Int) := by omega
          go_wp2_with fail
          go_roundw
          case rel => exact ⟨k + 1, by go_num, by omega, HX⟩
          case measure => simp [intOf]; omega
      · obtain rfl : rl.length = k := by omega
        go_wp2_with fail
        go_ret
        first | exact ⟨_, rfl, HX0.out.trans HX.out⟩ | exact ⟨.inl rfl, HX0.out.trans HX.out⟩ | exact ⟨.inr rfl, HX0.out.trans HX.out⟩
end Go.Proofs.YtbfeodammikajaaGreat

/- The reference's properties of relations, and the conditions of a logic on a model. -/

namespace Go.Proofs.YtbfeodammikajaaGreat
open Go.RowKit

def propP (q : Int) (l : List Nat) : Prop :=
  if q = 1 then ∀ i, i < l.length → l.getD i 0 ≠ 0 else if q = 2 then reflP l else if q = 4 then closedG false l else closedG true l
set_option maxRecDepth 100000 in
set_option maxHeartbeats 16000000 in
theorem has02_any (v : Value) (l : List Nat) (q : Int) (w : World) (h : U64s w v l) (hw : ∀ s ∈ l, word s) (h0 : 0 < l.length) (hq : q = 1 ∨ q = 2 ∨ q = 4 ∨ q = 5) :
    Calls Tryz.prog 87 #[v, .int .i64 q] w fun e w' => ∃ b : Bool, e = .returned (.bool b) ∧ Ext w w' ∧ (b = true ↔ valid02 l = true ∧ propP q l) := by
  have H := Lib.hid h
  have HW := Lib.hid hw
  obtain ⟨A, c, rfl, hlc, hcm, HL⟩ := u64_at h
  unfold maxLen at hcm
  obtain ⟨iU, hiU, hzU0, hzU1, hzU2⟩ := info_parts tInfoU8
  clear h hw
  cases hv : valid02 l
  · have HV := Lib.hid hv
    clear hv
    go_enter Tryz.func87, Tryz.ntmps87
    go_wp2_with fail
    refine (valid02_any _ l _ H.out HW.out).mono ?_
    rintro e w2 ⟨rfl, hx2⟩
    rw [HV.out]
    have HX2 := Lib.hid hx2
    clear hx2
    go_wp2_with fail
    go_ret
    first
    | exact ⟨false, rfl, HX2.out, by simp⟩
    | exact ⟨.inl ⟨rfl, by simp⟩, HX2.out⟩
    | exact .inl ⟨rfl, HX2.out, by simp⟩
    | exact ⟨rfl, HX2.out, by simp⟩
  have HV := Lib.hid hv
  have hl64 := (valid_iff.1 hv).1
  obtain ⟨ad, rfl, hadl, _⟩ := HL.out 0 h0
  obtain ⟨n, hn⟩ : ∃ n, n = l.length := ⟨_, rfl⟩
  have HN := Lib.hid hn
  clear hv
  have HAD := Lib.hid (show ∀ i, i < l.length → w.cell? (ad.add i) = some (.int .u64 ((l.getD i 0 : Nat) : Int)) from fun i hi => by
    obtain ⟨ad2, e, _, hc⟩ := HL.out i hi
    injection e with e
    subst e
    exact hc)
  rw [← hn] at H hl64 h0 ⊢
  have hm1 : 0 + n ≤ maxLen := by unfold maxLen; omega
  have hm2 : (0 + n) * 8 ≤ 140737488355328 := by omega
  clear hn HL
  rcases hq with rfl | rfl | rfl | rfl
  · skip
    go_enter Tryz.func87, Tryz.ntmps87
    go_wp2_with fail
    refine (valid02_any _ l _ H.out HW.out).mono ?_
    rintro e w2 ⟨rfl, hx2⟩
    rw [HV.out]
    have HX2 := Lib.hid hx2
    have HNEW := Lib.hid (show ∀ (j : Nat) u, (uV l)[j]? = some u → (w2.alloc (.cells #[] 40)).cell? (ad.add j) = some u from row_of_u64 fun i hi => ((hx2.alloc _).cell (p := ad.add i) (by rw [block_of_add]; exact hadl)).trans (HAD.out i hi))
    have HRE := Lib.hid (row_empty w2 40)
    clear hx2
    go_wp2_with (at_builtin; refine wpList_append_own_at _ rfl _ _ 27 rfl w2.heap.size 40 iU (.int .u64 0) 1 8 Tryz.underlying27 hiU hzU0 hzU1 hzU2 rfl (by decide) _ 0 [] rfl HRE.out ad n c (uV l) rfl (by rw [uv_len, Nat.mul_one]; exact HN.out.symm) HNEW.out (uv_one l) hm1 hm2 (by simp) ?_)
    intro v3 w3 hown3 hgrow3 _ _
    have HX3 := Lib.hid (show Ext w w3 from (HX2.out.alloc _).grown hgrow3 (fun k hk => by have h1 := HX2.out.size; have h2 : w2.heap.size = k := Option.some.inj hk; omega))
    have HM := Lib.hid (show MadeU w.heap.size w3 v3 l by
      unfold MadeU
      rw [← HN.out]
      exact row_base hown3 HX2.out.size)
    clear hown3 hgrow3
    obtain ⟨g, cap, rfl, hgl, hgb, _, hcm2, _, _⟩ := HM.out.slice (by rw [← HN.out]; exact h0)
    rw [← HN.out] at HM ⊢
    clear hgl
    go_wp2_with fail
    go_loopw [6] (fun v wr => ∃ k : Nat, v = .int .i64 (k : Int) ∧ k ≤ n ∧ Hid (Ext w3 wr ∧ ∀ j, j < k → l.getD j 0 ≠ 0)) (fun v _ => n - (intOf v).toNat)
    case atStart => exact ⟨0, rfl, Nat.zero_le _, Lib.hid ⟨Ext.refl _, fun j hj => absurd hj (by omega)⟩⟩
    case round =>
      obtain ⟨k, rfl, hk, HREL⟩ := hrel
      have HX := Lib.hid HREL.out.1
      have HJ := Lib.hid HREL.out.2
      have HXW := Lib.hid (HX3.out.trans HX.out)
      clear HREL
      by_cases hlt2 : k < n
      · have hk1 : (k : Int) < (n : Int) := by omega
        have a0 := (HXW.out.cell (p := ad.add k) (by rw [block_of_add]; exact hadl)).trans (HAD.out k (by rw [← HN.out]; exact hlt2))
        have al : (ad.add k).block < wr.heap.size := by rw [block_of_add]; exact Nat.lt_of_lt_of_le hadl HXW.out.size
        have HNX := Lib.hid (show l.getD k 0 ≠ 0 → ∀ j, j < k + 1 → l.getD j 0 ≠ 0 from fun h => upto2 (P := fun j => l.getD j 0 ≠ 0) HJ.out h)
        have HHT := Lib.hid (show l.getD k 0 = 0 → ¬ propP 1 l from fun h hp => by
          unfold propP at hp
          rw [if_pos rfl] at hp
          exact hp k (by rw [← HN.out]; exact hlt2) h)
        obtain ⟨x, hx⟩ : ∃ x, x = l.getD k 0 := ⟨_, rfl⟩
        rw [← hx] at a0 HNX HHT
        clear hx
        by_cases hz : x = 0
        · have hzb : ((x : Int) == 0) = true := by rw [hz]; rfl
          have HE := Lib.hid (HHT.out hz)
          clear hz
          go_wp2_with fail
          go_ret
          first
          | exact ⟨false, rfl, HXW.out, iff_of_false (by decide) fun h => HE.out h.2⟩
          | exact .inl ⟨rfl, HXW.out, fun _ => HE.out⟩
          | exact .inl ⟨rfl, HXW.out, fun h => absurd h HE.out⟩
        · have hzb : ((x : Int) == 0) = false := by rw [beq_eq_false_iff_ne]; omega
          have HP := Lib.hid (HNX.out hz)
          clear hz
          go_wp2_with fail
          go_roundw
          case rel => exact ⟨k + 1, by go_num, by omega, Lib.hid ⟨HX.out, HP.out⟩⟩
          case measure => simp [intOf]; omega
      · obtain rfl : n = k := by omega
        have HP := Lib.hid (show propP 1 l by
          unfold propP
          rw [if_pos rfl, ← HN.out]
          exact HJ.out)
        go_wp2_with fail
        refine (same02_any _ _ l l _ (HM.out.u64s.ext HX.out) (H.out.ext HXW.out)).mono ?_
        rintro e w5 ⟨rfl, hx5⟩
        rw [decide_eq_true (show l = l from rfl)]
        have HX5 := Lib.hid (HXW.out.trans hx5)
        clear hx5
        go_wp2_with fail
        go_ret
        first
        | exact ⟨true, rfl, HX5.out, iff_of_true rfl ⟨HV.out, HP.out⟩⟩
        | exact ⟨true, rfl, HX5.out, iff_of_true rfl ⟨trivial, HP.out⟩⟩
  · skip
    go_enter Tryz.func87, Tryz.ntmps87
    go_wp2_with fail
    refine (valid02_any _ l _ H.out HW.out).mono ?_
    rintro e w2 ⟨rfl, hx2⟩
    rw [HV.out]
    have HX2 := Lib.hid hx2
    have HNEW := Lib.hid (show ∀ (j : Nat) u, (uV l)[j]? = some u → (w2.alloc (.cells #[] 40)).cell? (ad.add j) = some u from row_of_u64 fun i hi => ((hx2.alloc _).cell (p := ad.add i) (by rw [block_of_add]; exact hadl)).trans (HAD.out i hi))
    have HRE := Lib.hid (row_empty w2 40)
    clear hx2
    go_wp2_with (at_builtin; refine wpList_append_own_at _ rfl _ _ 27 rfl w2.heap.size 40 iU (.int .u64 0) 1 8 Tryz.underlying27 hiU hzU0 hzU1 hzU2 rfl (by decide) _ 0 [] rfl HRE.out ad n c (uV l) rfl (by rw [uv_len, Nat.mul_one]; exact HN.out.symm) HNEW.out (uv_one l) hm1 hm2 (by simp) ?_)
    intro v3 w3 hown3 hgrow3 _ _
    have HX3 := Lib.hid (show Ext w w3 from (HX2.out.alloc _).grown hgrow3 (fun k hk => by have h1 := HX2.out.size; have h2 : w2.heap.size = k := Option.some.inj hk; omega))
    have HM := Lib.hid (show MadeU w.heap.size w3 v3 l by
      unfold MadeU
      rw [← HN.out]
      exact row_base hown3 HX2.out.size)
    clear hown3 hgrow3
    obtain ⟨g, cap, rfl, hgl, hgb, _, hcm2, _, _⟩ := HM.out.slice (by rw [← HN.out]; exact h0)
    rw [← HN.out] at HM ⊢
    clear hgl
    go_wp2_with fail
    refine (reflexive02_any _ l _ (H.out.ext HX3.out) HW.out HV.out (by rw [← HN.out]; exact h0)).mono ?_
    rintro e w4 ⟨u, rfl, hx4, hm4⟩
    have HX4 := Lib.hid (HX3.out.trans hx4)
    have HM4 := Lib.hid hm4
    obtain ⟨out, hout⟩ : ∃ o, o = reflK l l.length := ⟨_, rfl⟩
    have HIFF := Lib.hid (show out = l ↔ propP 2 l by rw [hout, refl_same]; unfold propP; rw [if_neg (by decide), if_pos rfl])
    rw [← hout] at HM4 hm4
    clear hout hx4
    obtain ⟨Au, cu, rfl, _⟩ := hm4.u64s
    clear hm4
    go_wp2_with fail
    refine (same02_any _ _ out l _ HM4.out.u64s (H.out.ext HX4.out)).mono ?_
    rintro e w5 ⟨rfl, hx5⟩
    have HX5 := Lib.hid (HX4.out.trans hx5)
    clear hx5
    cases hd : decide (out = l)
    · have HE := Lib.hid (show ¬ propP 2 l from fun h => of_decide_eq_false hd (HIFF.out.2 h))
      clear hd
      go_wp2_with fail
      go_ret
      first
      | exact ⟨false, rfl, HX5.out, iff_of_false (by decide) fun h => HE.out h.2⟩
      | exact .inl ⟨rfl, HX5.out, fun _ => HE.out⟩
    · have HE := Lib.hid (show propP 2 l from HIFF.out.1 (of_decide_eq_true hd))
      clear hd
      go_wp2_with fail
      go_ret
      first
      | exact ⟨true, rfl, HX5.out, iff_of_true rfl ⟨HV.out, HE.out⟩⟩
      | exact ⟨true, rfl, HX5.out, iff_of_true rfl ⟨trivial, HE.out⟩⟩
  · skip
    go_enter Tryz.func87, Tryz.ntmps87
    go_wp2_with fail
    refine (valid02_any _ l _ H.out HW.out).mono ?_
    rintro e w2 ⟨rfl, hx2⟩
    rw [HV.out]
    have HX2 := Lib.hid hx2
    have HNEW := Lib.hid (show ∀ (j : Nat) u, (uV l)[j]? = some u → (w2.alloc (.cells #[] 40)).cell? (ad.add j) = some u from row_of_u64 fun i hi => ((hx2.alloc _).cell (p := ad.add i) (by rw [block_of_add]; exact hadl)).trans (HAD.out i hi))
    have HRE := Lib.hid (row_empty w2 40)
    clear hx2
    go_wp2_with (at_builtin; refine wpList_append_own_at _ rfl _ _ 27 rfl w2.heap.size 40 iU (.int .u64 0) 1 8 Tryz.underlying27 hiU hzU0 hzU1 hzU2 rfl (by decide) _ 0 [] rfl HRE.out ad n c (uV l) rfl (by rw [uv_len, Nat.mul_one]; exact HN.out.symm) HNEW.out (uv_one l) hm1 hm2 (by simp) ?_)
    intro v3 w3 hown3 hgrow3 _ _
    have HX3 := Lib.hid (show Ext w w3 from (HX2.out.alloc _).grown hgrow3 (fun k hk => by have h1 := HX2.out.size; have h2 : w2.heap.size = k := Option.some.inj hk; omega))
    have HM := Lib.hid (show MadeU w.heap.size w3 v3 l by
      unfold MadeU
      rw [← HN.out]
      exact row_base hown3 HX2.out.size)
    clear hown3 hgrow3
    obtain ⟨g, cap, rfl, hgl, hgb, _, hcm2, _, _⟩ := HM.out.slice (by rw [← HN.out]; exact h0)
    rw [← HN.out] at HM ⊢
    clear hgl
    go_wp2_with fail
    refine (transitive02_any _ l _ (H.out.ext HX3.out) HW.out HV.out (by rw [← HN.out]; exact h0)).mono ?_
    rintro e w4 ⟨u, rfl, hx4, out, hm4, hif⟩
    have HX4 := Lib.hid (HX3.out.trans hx4)
    have HM4 := Lib.hid hm4
    have HIFF := Lib.hid (show out = l ↔ propP 4 l by rw [hif]; unfold propP; rw [if_neg (by decide), if_neg (by decide), if_pos rfl])
    clear hx4 hif
    obtain ⟨Au, cu, rfl, _⟩ := hm4.u64s
    clear hm4
    go_wp2_with fail
    refine (same02_any _ _ out l _ HM4.out.u64s (H.out.ext HX4.out)).mono ?_
    rintro e w5 ⟨rfl, hx5⟩
    have HX5 := Lib.hid (HX4.out.trans hx5)
    clear hx5
    cases hd : decide (out = l)
    · have HE := Lib.hid (show ¬ propP 4 l from fun h => of_decide_eq_false hd (HIFF.out.2 h))
      clear hd
      go_wp2_with fail
      go_ret
      first
      | exact ⟨false, rfl, HX5.out, iff_of_false (by decide) fun h => HE.out h.2⟩
      | exact .inl ⟨rfl, HX5.out, fun _ => HE.out⟩
    · have HE := Lib.hid (show propP 4 l from HIFF.out.1 (of_decide_eq_true hd))
      clear hd
      go_wp2_with fail
      go_ret
      first
      | exact ⟨true, rfl, HX5.out, iff_of_true rfl ⟨HV.out, HE.out⟩⟩
      | exact ⟨true, rfl, HX5.out, iff_of_true rfl ⟨trivial, HE.out⟩⟩
  · skip
    go_enter Tryz.func87, Tryz.ntmps87
    go_wp2_with fail
    refine (valid02_any _ l _ H.out HW.out).mono ?_
    rintro e w2 ⟨rfl, hx2⟩
    rw [HV.out]
    have HX2 := Lib.hid hx2
    have HNEW := Lib.hid (show ∀ (j : Nat) u, (uV l)[j]? = some u → (w2.alloc (.cells #[] 40)).cell? (ad.add j) = some u from row_of_u64 fun i hi => ((hx2.alloc _).cell (p := ad.add i) (by rw [block_of_add]; exact hadl)).trans (HAD.out i hi))
    have HRE := Lib.hid (row_empty w2 40)
    clear hx2
    go_wp2_with (at_builtin; refine wpList_append_own_at _ rfl _ _ 27 rfl w2.heap.size 40 iU (.int .u64 0) 1 8 Tryz.underlying27 hiU hzU0 hzU1 hzU2 rfl (by decide) _ 0 [] rfl HRE.out ad n c (uV l) rfl (by rw [uv_len, Nat.mul_one]; exact HN.out.symm) HNEW.out (uv_one l) hm1 hm2 (by simp) ?_)
    intro v3 w3 hown3 hgrow3 _ _
    have HX3 := Lib.hid (show Ext w w3 from (HX2.out.alloc _).grown hgrow3 (fun k hk => by have h1 := HX2.out.size; have h2 : w2.heap.size = k := Option.some.inj hk; omega))
    have HM := Lib.hid (show MadeU w.heap.size w3 v3 l by
      unfold MadeU
      rw [← HN.out]
      exact row_base hown3 HX2.out.size)
    clear hown3 hgrow3
    obtain ⟨g, cap, rfl, hgl, hgb, _, hcm2, _, _⟩ := HM.out.slice (by rw [← HN.out]; exact h0)
    rw [← HN.out] at HM ⊢
    clear hgl
    go_wp2_with fail
    refine (euclidean02_any _ l _ (H.out.ext HX3.out) HW.out HV.out (by rw [← HN.out]; exact h0)).mono ?_
    rintro e w4 ⟨u, rfl, hx4, out, hm4, hif⟩
    have HX4 := Lib.hid (HX3.out.trans hx4)
    have HM4 := Lib.hid hm4
    have HIFF := Lib.hid (show out = l ↔ propP 5 l by rw [hif]; unfold propP; rw [if_neg (by decide), if_neg (by decide), if_neg (by decide)])
    clear hx4 hif
    obtain ⟨Au, cu, rfl, _⟩ := hm4.u64s
    clear hm4
    go_wp2_with fail
    refine (same02_any _ _ out l _ HM4.out.u64s (H.out.ext HX4.out)).mono ?_
    rintro e w5 ⟨rfl, hx5⟩
    have HX5 := Lib.hid (HX4.out.trans hx5)
    clear hx5
    cases hd : decide (out = l)
    · have HE := Lib.hid (show ¬ propP 5 l from fun h => of_decide_eq_false hd (HIFF.out.2 h))
      clear hd
      go_wp2_with fail
      go_ret
      first
      | exact ⟨false, rfl, HX5.out, iff_of_false (by decide) fun h => HE.out h.2⟩
      | exact .inl ⟨rfl, HX5.out, fun _ => HE.out⟩
    · have HE := Lib.hid (show propP 5 l from HIFF.out.1 (of_decide_eq_true hd))
      clear hd
      go_wp2_with fail
      go_ret
      first
      | exact ⟨true, rfl, HX5.out, iff_of_true rfl ⟨HV.out, HE.out⟩⟩
      | exact ⟨true, rfl, HX5.out, iff_of_true rfl ⟨trivial, HE.out⟩⟩
def propsL (lg : Int) : List Int := if lg = 0 then [] else if lg = 1 then [1] else if lg = 2 then [2] else if lg = 3 then [4] else if lg = 4 then [2, 4] else if lg = 5 then [1, 4, 5] else [2, 4, 5]
/-- The error of a logic. -/
def p15 (lg : Int) : Int := if 0 ≤ lg ∧ lg ≤ 6 then 0 else 1
theorem props_mem {lg q : Int} (h : q ∈ propsL lg) : q = 1 ∨ q = 2 ∨ q = 4 ∨ q = 5 := by
  unfold propsL at h
  repeat' split at h
  all_goals (simp at h; try omega)
theorem ints_lit (w : World) (l : List Int) (t : TypeId) (hl : l.length ≤ 10) : Ints (w.alloc (.cells (l.map (Value.int .i64)).toArray t)) (.slice (some ⟨w.heap.size, 0, none⟩) l.length l.length) l := by
  refine ⟨_, _, rfl, Nat.le_refl _, by unfold maxLen; omega, fun _ => ⟨_, rfl, by simp, fun k z hk => ?_⟩⟩
  have h1 := heap_alloc_new w (.cells (l.map (Value.int .i64)).toArray t)
  rw [addr_zero]
  have h2 : (w.alloc (.cells (l.map (Value.int .i64)).toArray t)).heap[w.heap.size]? = some (Obj.cells (l.map (Value.int .i64)).toArray t (0, 0)) := h1
  simp only [World.cell?, h2]
  rw [List.getElem?_toArray, List.getElem?_map, hk]
  rfl
set_option maxRecDepth 100000 in
set_option maxHeartbeats 4000000 in
theorem props15_any (lg : Int) (w : World) :
    Calls Tryz.prog 38 #[.int .i64 lg] w fun e w' => ∃ v, e = .returned (.tuple #[v, .int .i64 (p15 lg)]) ∧ Ext w w' ∧ Hid (p15 lg = 0 → Ints w' v (propsL lg)) := by
  by_cases hc : 0 ≤ lg ∧ lg ≤ 6
  · have hcl : lg = 0 ∨ lg = 1 ∨ lg = 2 ∨ lg = 3 ∨ lg = 4 ∨ lg = 5 ∨ lg = 6 := by omega
    clear hc
    rcases hcl with rfl | rfl | rfl | rfl | rfl | rfl | rfl
    all_goals
      go_enter Tryz.func38, Tryz.ntmps38
      go_wp2_with fail
      go_ret2
      first
      | exact ⟨_, rfl, Ext.refl _, Lib.hid fun _ => Ints.none_ _⟩
      | exact ⟨_, rfl, (Ext.refl _).alloc _, Lib.hid fun _ => ints_lit w [1] _ (by decide)⟩
      | exact ⟨_, rfl, (Ext.refl _).alloc _, Lib.hid fun _ => ints_lit w [2] _ (by decide)⟩
      | exact ⟨_, rfl, (Ext.refl _).alloc _, Lib.hid fun _ => ints_lit w [4] _ (by decide)⟩
      | exact ⟨_, rfl, (Ext.refl _).alloc _, Lib.hid fun _ => ints_lit w [2, 4] _ (by decide)⟩
      | exact ⟨_, rfl, (Ext.refl _).alloc _, Lib.hid fun _ => ints_lit w [1, 4, 5] _ (by decide)⟩
      | exact ⟨_, rfl, (Ext.refl _).alloc _, Lib.hid fun _ => ints_lit w [2, 4, 5] _ (by decide)⟩
  · have h0 : (lg == 0) = false := by rw [beq_eq_false_iff_ne]; omega
    have h1 : (lg == 1) = false := by rw [beq_eq_false_iff_ne]; omega
    have h2 : (lg == 2) = false := by rw [beq_eq_false_iff_ne]; omega
    have h3 : (lg == 3) = false := by rw [beq_eq_false_iff_ne]; omega
    have h4 : (lg == 4) = false := by rw [beq_eq_false_iff_ne]; omega
    have h5 : (lg == 5) = false := by rw [beq_eq_false_iff_ne]; omega
    have h6 : (lg == 6) = false := by rw [beq_eq_false_iff_ne]; omega
    have HC := Lib.hid (show p15 lg = 1 from if_neg hc)
    clear hc
    go_enter Tryz.func38, Tryz.ntmps38
    go_wp2_with fail
    go_ret2
    exact ⟨_, by rw [HC.out] <;> rfl, Ext.refl _, Lib.hid fun e => by rw [HC.out] at e; cases e⟩
end Go.Proofs.YtbfeodammikajaaGreat

/- The reference's conditions of a logic on a model. -/

namespace Go.Proofs.YtbfeodammikajaaGreat
open Go.RowKit

def goodR (lg : Int) (l : List Nat) : Prop := ∀ q ∈ propsL lg, propP q l
theorem ints_get {w : World} {A : Option Addr} {c k : Nat} {l : List Int} (h : IntsAt w A c l) (hk : k < l.length) : ∃ ad, A = some ad ∧ ad.block < w.heap.size ∧ w.cell? (ad.add k) = some (.int .i64 (l.getD k 0)) := by
  obtain ⟨ad, e, hl, hc⟩ := h.2.2 (by intro e; rw [e] at hk; simp at hk)
  exact ⟨ad, e, hl, hc k _ (by rw [List.getD_eq_getElem?_getD, List.getElem?_eq_getElem hk]; rfl)⟩
theorem props_len (lg : Int) : (propsL lg).length ≤ 3 := by
  unfold propsL
  repeat' split
  all_goals simp
set_option maxRecDepth 100000 in
set_option maxHeartbeats 16000000 in
theorem has15_any (v : Value) (l : List Nat) (lg : Int) (w : World) (h : U64s w v l) (hw : ∀ s ∈ l, word s) (h0 : 0 < l.length) (hlg : 0 ≤ lg ∧ lg ≤ 6) (hv : valid02 l = true) :
    Calls Tryz.prog 40 #[v, .int .i64 lg] w fun e w' => ∃ b : Bool, e = .returned (.bool b) ∧ Ext w w' ∧ Hid (b = true ↔ goodR lg l) := by
  have H := Lib.hid h
  have HW := Lib.hid hw
  have HP0 := Lib.hid (show p15 lg = 0 from if_pos hlg)
  have HV := Lib.hid hv
  obtain ⟨A, c, rfl, _⟩ := h
  clear hw hlg hv
  go_enter Tryz.func40, Tryz.ntmps40
  go_wp2_with fail
  refine (props15_any lg _).mono ?_
  rintro e w2 ⟨vp, rfl, hx2, hi⟩
  rw [HP0.out]
  obtain ⟨Ap, cp, rfl, hia⟩ := hi.out HP0.out
  have HIA := Lib.hid hia
  have HX2 := Lib.hid hx2
  have hpl := props_len lg
  obtain ⟨ps, hps⟩ : ∃ ps, ps = propsL lg := ⟨_, rfl⟩
  have HPS := Lib.hid hps
  rw [← hps] at HIA hpl ⊢
  clear hi hia hx2 hps
  go_wp2_with fail
  refine (valid02_any _ l _ (H.out.ext HX2.out) HW.out).mono ?_
  rintro e w3 ⟨rfl, hx3⟩
  rw [HV.out]
  have HX3 := Lib.hid hx3
  have HXW := Lib.hid (HX2.out.trans hx3)
  clear hx3
  go_wp2_with fail
  go_loopw [7] (fun v wr => ∃ k : Nat, v = .int .i64 (k : Int) ∧ k ≤ ps.length ∧ Hid (Ext w3 wr ∧ ∀ j, j < k → propP (ps.getD j 0) l)) (fun v _ => ps.length - (intOf v).toNat)
  case atStart => exact ⟨0, rfl, Nat.zero_le _, Lib.hid ⟨Ext.refl _, fun j hj => absurd hj (by omega)⟩⟩
  case round =>
    obtain ⟨k, rfl, hk, HREL⟩ := hrel
    have HX := Lib.hid HREL.out.1
    have HJ := Lib.hid HREL.out.2
    clear HREL
    by_cases hlt2 : k < ps.length
    · have hk1 : (k : Int) < (ps.length : Int) := by omega
      obtain ⟨ad, rfl, hadl, hc⟩ := ints_get HIA.out hlt2
      have a0 := ((HX3.out.trans HX.out).cell (p := ad.add k) (by rw [block_of_add]; exact hadl)).trans hc
      have al : (ad.add k).block < wr.heap.size := by rw [block_of_add]; exact Nat.lt_of_lt_of_le hadl (HX3.out.trans HX.out).size
      have HNX := Lib.hid (show propP (ps.getD k 0) l → ∀ j, j < k + 1 → propP (ps.getD j 0) l from fun h => upto2 (P := fun j => propP (ps.getD j 0) l) HJ.out h)
      have HMEM := Lib.hid (show ps.getD k 0 ∈ propsL lg by rw [← HPS.out, List.getD_eq_getElem?_getD, List.getElem?_eq_getElem hlt2]; exact List.getElem_mem hlt2)
      obtain ⟨q, hq⟩ : ∃ q, q = ps.getD k 0 := ⟨_, rfl⟩
      rw [← hq] at a0 HNX HMEM
      have HQ := Lib.hid (props_mem HMEM.out)
      clear hc hq
      go_wp2_with fail
      refine (has02_any _ l q _ (H.out.ext (HXW.out.trans HX.out)) HW.out h0 HQ.out).mono ?_
      rintro e w4 ⟨b, rfl, hx4, hb⟩
      have HX4 := Lib.hid (HX.out.trans hx4)
      have HB := Lib.hid hb
      clear hx4 hb
      cases b
      · have HE := Lib.hid (show ¬ goodR lg l from fun h => absurd (HB.out.2 ⟨HV.out, h q HMEM.out⟩) (by decide))
        go_wp2_with fail
        go_ret
        first
        | exact ⟨false, rfl, HXW.out.trans HX4.out, Lib.hid (iff_of_false (by decide) HE.out)⟩
        | exact .inl ⟨rfl, HXW.out.trans HX4.out, Lib.hid (iff_of_false (by decide) HE.out)⟩
      · have HP := Lib.hid (HNX.out (HB.out.1 rfl).2)
        go_wp2_with fail
        go_roundw
        case rel => exact ⟨k + 1, by go_num, by omega, Lib.hid ⟨HX4.out, HP.out⟩⟩
        case measure => simp [intOf]; omega
    · obtain rfl : ps.length = k := by omega
      have HE := Lib.hid (show goodR lg l from fun q hq => by
        rw [← HPS.out] at hq
        obtain ⟨j, hj, e⟩ := List.getElem_of_mem hq
        have := HJ.out j hj
        rw [List.getD_eq_getElem?_getD, List.getElem?_eq_getElem hj] at this
        have h2 : propP ps[j] l := this
        rw [e] at h2
        exact h2)
      go_wp2_with fail
      go_ret
      first
      | exact ⟨true, rfl, HXW.out.trans HX.out, Lib.hid (iff_of_true rfl HE.out)⟩
      | exact .inr ⟨rfl, HXW.out.trans HX.out, Lib.hid (iff_of_true rfl HE.out)⟩
/-- A model of a logic. -/
structure GoodM (md : Md) (lg : Int) : Prop where
  lgr : 0 ≤ lg ∧ lg ≤ 6
  ck : checkM md = 0
  rel : ∀ r ∈ md.rel, goodR lg r
theorem checkM_zero {md : Md} (h : checkM md = 0) : 1 ≤ md.n ∧ md.n ≤ 64 ∧ md.rel.length ≤ 4 ∧ md.val.length ≤ 8 ∧ (∀ r ∈ md.rel, (r.length : Int) = md.n) ∧ beyondN md.val md.n.toNat = false ∧ ∀ r ∈ md.rel, beyondN r md.n.toNat = false := by
  unfold checkM at h
  by_cases h1 : md.n < 1 ∨ 64 < md.n
  · rw [if_pos h1] at h; cases h
  rw [if_neg h1] at h
  by_cases h2 : 4 < md.rel.length ∨ 8 < md.val.length
  · rw [if_pos h2] at h; cases h
  rw [if_neg h2] at h
  cases h3 : md.rel.any (fun r => !decide ((r.length : Int) = md.n))
  · rw [h3] at h
    cases h4 : beyondN md.val md.n.toNat
    · rw [h4] at h
      cases h5 : md.rel.any (fun r => beyondN r md.n.toNat)
      · rw [List.any_eq_false] at h3 h5
        exact ⟨by omega, by omega, by omega, by omega, fun r hr => by simpa using h3 r hr, rfl, fun r hr => by simpa using h5 r hr⟩
      · rw [h5] at h; cases h
    · rw [h4] at h; cases h
  · rw [h3] at h; cases h
theorem rel_valid {md : Md} (h : checkM md = 0) {r : List Nat} (hr : r ∈ md.rel) : valid02 r = true ∧ 0 < r.length := by
  obtain ⟨h1, h2, _, _, h3, _, h4⟩ := checkM_zero h
  have h5 := h3 r hr
  have h6 := h4 r hr
  have e : md.n.toNat = r.length := by omega
  rw [e] at h6
  exact ⟨valid_iff.2 ⟨by omega, h6⟩, by omega⟩
set_option maxRecDepth 100000 in
set_option maxHeartbeats 16000000 in
theorem in15_any (v : Value) (md : Md) (lg : Int) (w : World) (h : MdV w v md) (hok : md.ok) :
    Calls Tryz.prog 15 #[v, .int .i64 lg] w fun e w' => ∃ b : Bool, e = .returned (.bool b) ∧ Ext w w' ∧ Hid (b = true ↔ GoodM md lg) := by
  have H := Lib.hid h
  have HOK := Lib.hid hok
  obtain ⟨vv, vr, rfl, hv, hr⟩ := h
  obtain ⟨Av, cv, rfl, _⟩ := hv
  obtain ⟨Ar, cr, rfl, hrl1, hrl2, HR⟩ := u64ss_at hr
  unfold maxLen at hrl2
  obtain ⟨n, hn⟩ : ∃ n, n = md.n := ⟨_, rfl⟩
  have HN := Lib.hid hn
  rw [← hn] at H ⊢
  have HX0 := Lib.hid (show Ext w (w.alloc (.cells #[.int .i64 n, .slice Av md.val.length cv, .slice Ar md.rel.length cr] 38)) from (Ext.refl _).alloc _)
  have HB0 := Lib.hid (show (w.alloc (.cells #[.int .i64 n, .slice Av md.val.length cv, .slice Ar md.rel.length cr] 38)).heap[w.heap.size]? = some (.cells #[.int .i64 n, .slice Av md.val.length cv, .slice Ar md.rel.length cr] 38 (0, 0)) from heap_alloc_new _ _)
  clear hr hok hn
  by_cases hlg : 0 ≤ lg ∧ lg ≤ 6
  · have HP0 := Lib.hid (show p15 lg = 0 from if_pos hlg)
    have HLG := Lib.hid hlg
    clear hlg
    obtain ⟨z, hz⟩ : ∃ z, z = checkM md := ⟨_, rfl⟩
    have HZ := Lib.hid hz
    clear hz
    go_enter Tryz.func15, Tryz.ntmps15
    go_wp2_with fail
    refine (props15_any lg _).mono ?_
    rintro e w2 ⟨vp, rfl, hx2, hi⟩
    rw [HP0.out]
    obtain ⟨Ap, cp, rfl, _⟩ := hi.out HP0.out
    have HX2 := Lib.hid (HX0.out.trans hx2)
    have HB2 := Lib.hid ((hx2.block (lt_heap HB0.out)).trans HB0.out)
    obtain ⟨e0, e1, e2, eb⟩ := cells3y HB2.out
    clear hi hx2
    go_wp2_with fail
    refine (check13_any _ md _ (H.out.ext HX2.out) HOK.out).mono ?_
    rintro e w3 ⟨rfl, hx3⟩
    rw [← HZ.out]
    have HX3 := Lib.hid (HX2.out.trans hx3)
    have HB3 := Lib.hid ((hx3.block (lt_heap HB2.out)).trans HB2.out)
    clear hx3 e0 e1 e2 eb
    by_cases hz0 : z = 0
    · subst hz0
      have HCK := Lib.hid (show checkM md = 0 from HZ.out.symm)
      obtain ⟨rl, hrl⟩ : ∃ l, l = md.rel := ⟨_, rfl⟩
      have HRLE := Lib.hid hrl
      have HRO := Lib.hid (show ∀ r ∈ rl, ∀ s ∈ r, word s by rw [hrl]; exact HOK.out.rel)
      have HRV := Lib.hid (show ∀ r ∈ rl, valid02 r = true ∧ 0 < r.length by rw [hrl]; exact fun r hr => rel_valid HCK.out hr)
      rw [← hrl] at HR HB3 hrl1 ⊢
      clear hrl HB0 HB2
      go_wp2_with fail
      go_loopw [7] (fun v wr => ∃ k : Nat, v = .int .i64 (k : Int) ∧ k ≤ rl.length ∧ Hid (Ext w3 wr ∧ ∀ j, j < k → goodR lg (rl.getD j []))) (fun v _ => rl.length - (intOf v).toNat)
      case atStart => exact ⟨0, rfl, Nat.zero_le _, Lib.hid ⟨Ext.refl _, fun j hj => absurd hj (by omega)⟩⟩
      case round =>
        obtain ⟨k, rfl, hk, HREL⟩ := hrel
        have HX := Lib.hid HREL.out.1
        have HJ := Lib.hid HREL.out.2
        have HXW := Lib.hid (HX3.out.trans HX.out)
        obtain ⟨e0, e1, e2, eb⟩ := cells3y ((HX.out.block (lt_heap HB3.out)).trans HB3.out)
        clear HREL
        by_cases hlt2 : k < rl.length
        · have hk1 : (k : Int) < (rl.length : Int) := by omega
          obtain ⟨ad, u, rfl, hadl, hc, hu⟩ := HR.out k hlt2
          have HU := Lib.hid (hu.ext HXW.out)
          have HMEM := Lib.hid (show rl.getD k [] ∈ rl by rw [List.getD_eq_getElem?_getD, List.getElem?_eq_getElem hlt2]; exact List.getElem_mem hlt2)
          obtain ⟨Au, cu, rfl, _⟩ := hu
          have a0 := (HXW.out.cell (p := ad.add k) (by rw [block_of_add]; exact hadl)).trans hc
          have al : (ad.add k).block < wr.heap.size := by rw [block_of_add]; exact Nat.lt_of_lt_of_le hadl HXW.out.size
          have HNX := Lib.hid (show goodR lg (rl.getD k []) → ∀ j, j < k + 1 → goodR lg (rl.getD j []) from fun h => upto2 (P := fun j => goodR lg (rl.getD j [])) HJ.out h)
          obtain ⟨r, hr⟩ : ∃ r, r = rl.getD k [] := ⟨_, rfl⟩
          rw [← hr] at a0 HNX HMEM HU
          have HVR := Lib.hid (HRV.out r HMEM.out)
          clear hc hr
          go_wp2_with fail
          refine (has15_any _ r lg _ HU.out (HRO.out r HMEM.out) HVR.out.2 HLG.out HVR.out.1).mono ?_
          rintro e w4 ⟨b, rfl, hx4, hb⟩
          have HX4 := Lib.hid (HX.out.trans hx4)
          have HB := Lib.hid hb.out
          clear hx4 hb e0 e1 e2 eb
          cases b
          · have HE := Lib.hid (show ¬ GoodM md lg from fun h => absurd (HB.out.2 (h.rel r (by rw [← HRLE.out]; exact HMEM.out))) (by decide))
            go_wp2_with fail
            go_ret
            first
            | exact ⟨false, rfl, HX3.out.trans HX4.out, Lib.hid (iff_of_false (by decide) HE.out)⟩
            | exact .inl ⟨rfl, HX3.out.trans HX4.out, Lib.hid (iff_of_false (by decide) HE.out)⟩
          · have HP := Lib.hid (HNX.out (HB.out.1 rfl))
            go_wp2_with fail
            go_roundw
            case rel => exact ⟨k + 1, by go_num, by omega, Lib.hid ⟨HX4.out, HP.out⟩⟩
            case measure => simp [intOf]; omega
        · obtain rfl : rl.length = k := by omega
          have HE := Lib.hid (show GoodM md lg from ⟨HLG.out, HCK.out, fun r hr => by
            rw [← HRLE.out] at hr
            obtain ⟨j, hj, e⟩ := List.getElem_of_mem hr
            have := HJ.out j hj
            rw [List.getD_eq_getElem?_getD, List.getElem?_eq_getElem hj] at this
            have h2 : goodR lg rl[j] := this
            rw [e] at h2
            exact h2⟩)
          go_wp2_with fail
          go_ret
          first
          | exact ⟨true, rfl, HXW.out, Lib.hid (iff_of_true rfl HE.out)⟩
          | exact .inr ⟨rfl, HXW.out, Lib.hid (iff_of_true rfl HE.out)⟩
    · have HE := Lib.hid (show ¬ GoodM md lg from fun h => hz0 (HZ.out.trans h.ck))
      have hzb : (z == 0) = false := by rw [beq_eq_false_iff_ne]; exact hz0
      clear hz0
      go_wp2_with fail
      go_ret
      first
      | exact ⟨false, rfl, HX3.out, Lib.hid (iff_of_false (by decide) HE.out)⟩
      | exact .inl ⟨rfl, HX3.out, Lib.hid (iff_of_false (by decide) HE.out)⟩
  · have HP0 := Lib.hid (show p15 lg = 1 from if_neg hlg)
    have HE := Lib.hid (show ¬ GoodM md lg from fun h => hlg h.lgr)
    clear hlg
    go_enter Tryz.func15, Tryz.ntmps15
    go_wp2_with fail
    refine (props15_any lg _).mono ?_
    rintro e w2 ⟨vp, rfl, hx2, hi⟩
    rw [HP0.out]
    have HX2 := Lib.hid (HX0.out.trans hx2)
    clear hi hx2
    go_wp2_with fail
    go_ret
    first
    | exact ⟨false, rfl, HX2.out, Lib.hid (iff_of_false (by decide) HE.out)⟩
    | exact .inl ⟨rfl, HX2.out, Lib.hid (iff_of_false (by decide) HE.out)⟩
end Go.Proofs.YtbfeodammikajaaGreat

/- The reference's relations of a group. -/

namespace Go.Proofs.YtbfeodammikajaaGreat
open Go.RowKit

def grpS (rl : List (List Nat)) (gn : Nat) (meet : Bool) (i s a : Nat) : Nat := if gn.testBit a then (if meet then s &&& (rl.getD a []).getD i 0 else s ||| (rl.getD a []).getD i 0) else s
def grpN (rl : List (List Nat)) (gn : Nat) (meet : Bool) (n i : Nat) : Nat := (List.range rl.length).foldl (grpS rl gn meet i) (if meet then allW n else 0)
theorem grpS_word {rl : List (List Nat)} (hw : ∀ r ∈ rl, ∀ s ∈ r, word s) {gn i s a : Nat} {meet : Bool} (hs : word s) : word (grpS rl gn meet i s a) := by
  unfold grpS
  have h1 : word ((rl.getD a []).getD i 0) := getD_word (getD_words hw a) i
  split
  · split
    · exact and_word hs
    · exact or_word hs h1
  · exact hs
theorem grp_word {rl : List (List Nat)} (hw : ∀ r ∈ rl, ∀ s ∈ r, word s) {gn n i : Nat} {meet : Bool} (hn : n ≤ 64) : word (grpN rl gn meet n i) := by
  unfold grpN
  refine fold_word (fun s a h => grpS_word hw h) _ _ ?_
  split
  · exact allw_word hn
  · show (0 : Nat) < _; omega
theorem range_snocG {α : Type} (g : Nat → α) (k : Nat) : (List.range (k + 1)).map g = (List.range k).map g ++ [g k] := by
  rw [List.range_succ, List.map_append]
  rfl
theorem shl_le {k gn : Nat} (hk : k ≤ 4) (hg : gn < 2 ^ k) : ¬ wrap64 ((2 : Int) ^ k) ≤ (gn : Int) := by
  have hc : k = 0 ∨ k = 1 ∨ k = 2 ∨ k = 3 ∨ k = 4 := by omega
  rcases hc with rfl | rfl | rfl | rfl | rfl <;> (unfold wrap64; simp at hg ⊢; omega)
set_option maxRecDepth 100000 in
set_option maxHeartbeats 32000000 in
theorem group_any (meet : Bool) (v : Value) (md : Md) (gn : Nat) (w : World) (h : MdV w v md) (hok : md.ok) (hck : checkM md = 0) (hg1 : 1 ≤ gn) (hg : gn < 2 ^ md.rel.length) :
    Calls Tryz.prog 161 #[v, .int .i64 (gn : Int), .bool meet] w fun e w' => ∃ u, e = .returned u ∧ Ext w w' ∧ MadeU w.heap.size w' u ((List.range md.n.toNat).map (grpN md.rel gn meet md.n.toNat)) := by
  have H := Lib.hid h
  have HOK := Lib.hid hok
  have HCK := Lib.hid hck
  obtain ⟨hn1, hn64, hr4, _, hrl0, _, _⟩ := checkM_zero hck
  obtain ⟨iU, hiU, hzU0, hzU1, hzU2⟩ := info_parts tInfoU8
  obtain ⟨vv, vr, rfl, hv, hr⟩ := h
  obtain ⟨Av, cv, rfl, _⟩ := hv
  obtain ⟨Ar, cr, rfl, hrl1, hrl2, HR⟩ := u64ss_at hr
  obtain ⟨n, hnn⟩ := Int.eq_ofNat_of_zero_le (show 0 ≤ md.n by omega)
  rw [hnn] at hn1 hn64 H hrl0 ⊢
  have hnt : ((n : Nat) : Int).toNat = n := Int.toNat_natCast n
  rw [hnt]
  have hn65 : n ≤ 64 := by omega
  have hg2 := decide_eq_false (shl_le hr4 hg)
  have hg3 : decide ((gn : Int) < 1) = false := decide_eq_false (by omega)
  have hmin : min md.rel.length 64 = md.rel.length := by omega
  obtain ⟨rl, hrl⟩ : ∃ l, l = md.rel := ⟨_, rfl⟩
  have HRO := Lib.hid (show ∀ r ∈ rl, ∀ s ∈ r, word s by rw [hrl]; exact hok.rel)
  have HRL0 := Lib.hid (show ∀ r ∈ rl, r.length = n by rw [hrl]; exact fun r hr => by have := hrl0 r hr; omega)
  rw [← hrl] at HR hrl1 hr4 hg2 hmin ⊢
  have HX0 := Lib.hid (show Ext w (w.alloc (.cells #[.int .i64 (n : Int), .slice Av md.val.length cv, .slice Ar rl.length cr] 38)) from (Ext.refl _).alloc _)
  have HB0 := Lib.hid (show (w.alloc (.cells #[.int .i64 (n : Int), .slice Av md.val.length cv, .slice Ar rl.length cr] 38)).heap[w.heap.size]? = some (.cells #[.int .i64 (n : Int), .slice Av md.val.length cv, .slice Ar rl.length cr] 38 (0, 0)) from heap_alloc_new _ _)
  have H2 := Lib.hid (show MdV w (.agg #[.int .i64 (n : Int), .slice Av md.val.length cv, .slice Ar rl.length cr]) md by rw [hrl]; exact H.out)
  clear hr hok hck hnn hrl hg hrl0 hnt H hg1
  go_enter Tryz.func161, Tryz.ntmps161
  go_wp2_with fail
  refine (check13_any _ md _ (H2.out.ext HX0.out) HOK.out).mono ?_
  rintro e w1 ⟨rfl, hx1⟩
  rw [HCK.out]
  have HX1 := Lib.hid (HX0.out.trans hx1)
  have HB1 := Lib.hid ((hx1.block (lt_heap HB0.out)).trans HB0.out)
  obtain ⟨e0, e1, e2, eb⟩ := cells3y HB1.out
  obtain ⟨b, hb⟩ : ∃ b, b = w.heap.size := ⟨_, rfl⟩
  rw [← hb] at e0 e1 e2 eb HB1 ⊢
  have HBS := Lib.hid hb
  clear hx1 HB0 hb
  go_wp2_with fail
  clear e0 e1 e2 eb
  go_loopw [7, 8] (fun vo vi wr => ∃ i : Nat, vi = .int .i64 (i : Int) ∧ i ≤ n ∧ Hid (Ext w1 wr ∧ MadeU w1.heap.size wr vo ((List.range i).map (grpN rl gn meet n)))) (fun _ v _ => n - (intOf v).toNat)
  case atStart => exact ⟨0, rfl, Nat.zero_le _, Lib.hid ⟨Ext.refl _, MadeU.nil _ _⟩⟩
  case round =>
    obtain ⟨i, rfl, hi, HREL⟩ := hrel
    have HXA := Lib.hid HREL.out.1
    have HRW := Lib.hid HREL.out.2
    obtain ⟨out, hout⟩ : ∃ o, o = (List.range i).map (grpN rl gn meet n) := ⟨_, rfl⟩
    have hol : out.length ≤ n := by rw [hout]; simpa using hi
    have HOUT := Lib.hid hout
    rw [← hout] at HRW
    obtain ⟨Ax, cx, rfl⟩ := slice_of_row HRW.out
    obtain ⟨e0, e1, e2, eb⟩ := cells3y ((HXA.out.block (lt_heap HB1.out)).trans HB1.out)
    clear HREL hout
    by_cases hlt2 : i < n
    · have hk1 : (i : Int) < (n : Int) := by omega
      obtain ⟨wq, hwq⟩ : ∃ v, v = wr := ⟨_, rfl⟩
      subst hwq
      cases meet
      · skip
        go_wp2_with fail
        clear e0 e1 e2 eb
        go_loopw [9, 10] (fun vs vi wr => ∃ a : Nat, vi = .int .i64 (a : Int) ∧ a ≤ rl.length ∧ ∃ s : Nat, vs = .int .u64 (s : Int) ∧ Hid (s = (List.range a).foldl (grpS rl gn false i) 0 ∧ Ext wq wr)) (fun _ v _ => rl.length - (intOf v).toNat)
        case atStart => exact ⟨0, rfl, Nat.zero_le _, 0, rfl, Lib.hid ⟨rfl, Ext.refl _⟩⟩
        case round =>
          obtain ⟨a, rfl, ha, s, rfl, HREL⟩ := hrel
          have HSE := Lib.hid HREL.out.1
          have HXB := Lib.hid HREL.out.2
          have HX := Lib.hid (HXA.out.trans HXB.out)
          have HSW := Lib.hid (show word s by rw [HSE.out]; exact fold_word (fun s a h => grpS_word HRO.out h) _ _ (show (0 : Nat) < _ by omega))
          obtain ⟨e0, e1, e2, eb⟩ := cells3y ((HX.out.block (lt_heap HB1.out)).trans HB1.out)
          clear HREL
          by_cases hlt3 : a < rl.length
          · have hk2 : (a : Int) < (rl.length : Int) := by omega
            have hmin2 : min a 64 = a := by omega
            obtain ⟨ad, u, rfl, hadl, hcl, hu⟩ := HR.out a hlt3
            have hrlen : (rl.getD a []).length = n := HRL0.out _ (by rw [List.getD_eq_getElem?_getD, List.getElem?_eq_getElem hlt3]; exact List.getElem_mem hlt3)
            obtain ⟨Au, cu, rfl, _, _, HU⟩ := u64_at hu
            rw [hrlen] at hcl HU
            obtain ⟨ud, rfl, hudl, huc⟩ := HU.out i hlt2
            have HXT := Lib.hid (HX1.out.trans HX.out)
            have a0 := (HXT.out.cell (p := ad.add a) (by rw [block_of_add]; exact hadl)).trans hcl
            have al : (ad.add a).block < wr.heap.size := by rw [block_of_add]; exact Nat.lt_of_lt_of_le hadl HXT.out.size
            have u0 := (HXT.out.cell (p := ud.add i) (by rw [block_of_add]; exact hudl)).trans huc
            have ul : (ud.add i).block < wr.heap.size := by rw [block_of_add]; exact Nat.lt_of_lt_of_le hudl HXT.out.size
            have hbt := shr_mod_two_u gn a
            have hop := bits_or HSW.out (getD_word (getD_words HRO.out a) i)
            have HST := Lib.hid (show (List.range (a + 1)).foldl (grpS rl gn false i) 0 = if gn.testBit a then s ||| (rl.getD a []).getD i 0 else s by rw [fold_snoc, ← HSE.out]; rfl)
            obtain ⟨x, hx⟩ : ∃ x, x = (rl.getD a []).getD i 0 := ⟨_, rfl⟩
            rw [← hx] at u0 hop HST
            obtain ⟨z, hz⟩ : ∃ z, z = s ||| x := ⟨_, rfl⟩
            rw [← hz] at hop HST
            clear hcl huc hx hz hrlen hu
            cases htb : gn.testBit a
            · rw [htb] at hbt HST
              clear htb
              go_wp2_with fail
              go_roundw
              case rel => exact ⟨a + 1, by go_num, by omega, s, rfl, Lib.hid ⟨by rw [HST.out]; rfl, HXB.out⟩⟩
              case measure => simp [intOf]; omega
            · rw [htb] at hbt HST
              clear htb
              go_wp2_with fail
              go_roundw
              case rel => exact ⟨a + 1, by go_num, by omega, z, rfl, Lib.hid ⟨by rw [HST.out]; rfl, HXB.out⟩⟩
              case measure => simp [intOf]; omega
          · obtain rfl : rl.length = a := by omega
            have HGE := Lib.hid (show grpN rl gn false n i = s by rw [HSE.out]; rfl)
            have hc3 : out.length + 1 ≤ maxLen := by unfold maxLen; omega
            have hc4 : (out.length + 1) * 8 ≤ 140737488355328 := by omega
            have HRX := Lib.hid (HRW.out.ext HXB.out)
            have HXT := Lib.hid (HX1.out.trans HX.out)
            go_wp2_with (at_builtin; refine wpList_append_own_at _ rfl _ _ 27 rfl w1.heap.size 40 iU (.int .u64 0) 1 8 Tryz.underlying27 hiU hzU0 hzU1 hzU2 rfl (by decide) _ out.length (uV out) rfl (row_ext HRX.out ((Ext.refl _).alloc _)) ⟨_, 0, none⟩ 1 1 [.int .u64 (s : Int)] rfl rfl (row_new_at _ _ _ (by simp)) (fun u hu => by rw [List.mem_singleton.1 hu]; rfl) hc3 hc4 (Nat.le_trans HX.out.size (by simp)) ?_)
            intro v7 w7 hown7 hgrow7 _ _
            have HX7 := Lib.hid (show Ext w1 w7 from (HX.out.alloc _).grown hgrow7 (fun k hk => (HRX.out.lt k hk).1))
            have HM7 := Lib.hid (show MadeU w1.heap.size w7 v7 ((List.range (i + 1)).map (grpN rl gn false n)) by
              rw [range_snocG, ← HOUT.out, HGE.out]
              unfold MadeU uV
              rw [List.map_append, List.length_append]
              exact hown7)
            obtain ⟨A7, c7, rfl⟩ := slice_of_row hown7
            clear hown7 hgrow7
            go_wp2_with fail
            go_roundw
            case rel => exact ⟨i + 1, by go_num, by omega, Lib.hid ⟨HX7.out, HM7.out⟩⟩
            case measure => simp [intOf]; omega
      · skip
        go_wp2_with fail
        refine (rAll13_any n hn65 _).mono ?_
        rintro e w2 ⟨rfl, rfl⟩
        go_wp2_with fail
        clear e0 e1 e2 eb
        go_loopw [9, 10] (fun vs vi wr => ∃ a : Nat, vi = .int .i64 (a : Int) ∧ a ≤ rl.length ∧ ∃ s : Nat, vs = .int .u64 (s : Int) ∧ Hid (s = (List.range a).foldl (grpS rl gn true i) (allW n) ∧ Ext wq wr)) (fun _ v _ => rl.length - (intOf v).toNat)
        case atStart => exact ⟨0, rfl, Nat.zero_le _, allW n, rfl, Lib.hid ⟨rfl, Ext.refl _⟩⟩
        case round =>
          obtain ⟨a, rfl, ha, s, rfl, HREL⟩ := hrel
          have HSE := Lib.hid HREL.out.1
          have HXB := Lib.hid HREL.out.2
          have HX := Lib.hid (HXA.out.trans HXB.out)
          have HSW := Lib.hid (show word s by rw [HSE.out]; exact fold_word (fun s a h => grpS_word HRO.out h) _ _ (allw_word hn65))
          obtain ⟨e0, e1, e2, eb⟩ := cells3y ((HX.out.block (lt_heap HB1.out)).trans HB1.out)
          clear HREL
          by_cases hlt3 : a < rl.length
          · have hk2 : (a : Int) < (rl.length : Int) := by omega
            have hmin2 : min a 64 = a := by omega
            obtain ⟨ad, u, rfl, hadl, hcl, hu⟩ := HR.out a hlt3
            have hrlen : (rl.getD a []).length = n := HRL0.out _ (by rw [List.getD_eq_getElem?_getD, List.getElem?_eq_getElem hlt3]; exact List.getElem_mem hlt3)
            obtain ⟨Au, cu, rfl, _, _, HU⟩ := u64_at hu
            rw [hrlen] at hcl HU
            obtain ⟨ud, rfl, hudl, huc⟩ := HU.out i hlt2
            have HXT := Lib.hid (HX1.out.trans HX.out)
            have a0 := (HXT.out.cell (p := ad.add a) (by rw [block_of_add]; exact hadl)).trans hcl
            have al : (ad.add a).block < wr.heap.size := by rw [block_of_add]; exact Nat.lt_of_lt_of_le hadl HXT.out.size
            have u0 := (HXT.out.cell (p := ud.add i) (by rw [block_of_add]; exact hudl)).trans huc
            have ul : (ud.add i).block < wr.heap.size := by rw [block_of_add]; exact Nat.lt_of_lt_of_le hudl HXT.out.size
            have hbt := shr_mod_two_u gn a
            have hop := bits_and HSW.out (getD_word (getD_words HRO.out a) i)
            have HST := Lib.hid (show (List.range (a + 1)).foldl (grpS rl gn true i) (allW n) = if gn.testBit a then s &&& (rl.getD a []).getD i 0 else s by rw [fold_snoc, ← HSE.out]; rfl)
            obtain ⟨x, hx⟩ : ∃ x, x = (rl.getD a []).getD i 0 := ⟨_, rfl⟩
            rw [← hx] at u0 hop HST
            obtain ⟨z, hz⟩ : ∃ z, z = s &&& x := ⟨_, rfl⟩
            rw [← hz] at hop HST
            clear hcl huc hx hz hrlen hu
            cases htb : gn.testBit a
            · rw [htb] at hbt HST
              clear htb
              go_wp2_with fail
              go_roundw
              case rel => exact ⟨a + 1, by go_num, by omega, s, rfl, Lib.hid ⟨by rw [HST.out]; rfl, HXB.out⟩⟩
              case measure => simp [intOf]; omega
            · rw [htb] at hbt HST
              clear htb
              go_wp2_with fail
              go_roundw
              case rel => exact ⟨a + 1, by go_num, by omega, z, rfl, Lib.hid ⟨by rw [HST.out]; rfl, HXB.out⟩⟩
              case measure => simp [intOf]; omega
          · obtain rfl : rl.length = a := by omega
            have HGE := Lib.hid (show grpN rl gn true n i = s by rw [HSE.out]; rfl)
            have hc3 : out.length + 1 ≤ maxLen := by unfold maxLen; omega
            have hc4 : (out.length + 1) * 8 ≤ 140737488355328 := by omega
            have HRX := Lib.hid (HRW.out.ext HXB.out)
            have HXT := Lib.hid (HX1.out.trans HX.out)
            go_wp2_with (at_builtin; refine wpList_append_own_at _ rfl _ _ 27 rfl w1.heap.size 40 iU (.int .u64 0) 1 8 Tryz.underlying27 hiU hzU0 hzU1 hzU2 rfl (by decide) _ out.length (uV out) rfl (row_ext HRX.out ((Ext.refl _).alloc _)) ⟨_, 0, none⟩ 1 1 [.int .u64 (s : Int)] rfl rfl (row_new_at _ _ _ (by simp)) (fun u hu => by rw [List.mem_singleton.1 hu]; rfl) hc3 hc4 (Nat.le_trans HX.out.size (by simp)) ?_)
            intro v7 w7 hown7 hgrow7 _ _
            have HX7 := Lib.hid (show Ext w1 w7 from (HX.out.alloc _).grown hgrow7 (fun k hk => (HRX.out.lt k hk).1))
            have HM7 := Lib.hid (show MadeU w1.heap.size w7 v7 ((List.range (i + 1)).map (grpN rl gn true n)) by
              rw [range_snocG, ← HOUT.out, HGE.out]
              unfold MadeU uV
              rw [List.map_append, List.length_append]
              exact hown7)
            obtain ⟨A7, c7, rfl⟩ := slice_of_row hown7
            clear hown7 hgrow7
            go_wp2_with fail
            go_roundw
            case rel => exact ⟨i + 1, by go_num, by omega, Lib.hid ⟨HX7.out, HM7.out⟩⟩
            case measure => simp [intOf]; omega
    · obtain rfl : n = i := by omega
      go_wp2_with fail
      go_ret
      exact ⟨_, rfl, HX1.out.trans HXA.out, by rw [← HOUT.out]; exact row_base HRW.out HX1.out.size⟩
set_option maxRecDepth 100000 in
set_option maxHeartbeats 4000000 in
theorem rgroup_any (v : Value) (md : Md) (gn : Nat) (w : World) (h : MdV w v md) (hok : md.ok) (hck : checkM md = 0) (hg1 : 1 ≤ gn) (hg : gn < 2 ^ md.rel.length) :
    Calls Tryz.prog 144 #[v, .int .i64 (gn : Int)] w fun e w' => ∃ u, e = .returned u ∧ Ext w w' ∧ MadeU w.heap.size w' u ((List.range md.n.toNat).map (grpN md.rel gn false md.n.toNat)) := by
  have H := Lib.hid h
  have HO := Lib.hid hok
  have HC := Lib.hid hck
  have HG := Lib.hid hg
  obtain ⟨vv, vr, rfl, ⟨Av, cv, rfl, _⟩, ⟨Ar, cr, rfl, _⟩⟩ := h
  clear hok hck hg
  go_enter Tryz.func144, Tryz.ntmps144
  go_wp2_with fail
  refine (group_any false _ md gn _ (H.out.ext ((Ext.refl _).alloc _)) HO.out HC.out hg1 HG.out).mono ?_
  rintro e w1 ⟨u, rfl, hx, hm⟩
  have HX := Lib.hid (((Ext.refl w).alloc _).trans hx)
  have HM := Lib.hid (show MadeU w.heap.size w1 u _ from row_base hm (by simp))
  clear hx hm
  go_wp2_with fail
  go_ret
  exact ⟨u, rfl, HX.out, HM.out⟩
set_option maxRecDepth 100000 in
set_option maxHeartbeats 4000000 in
theorem rmeet_any (v : Value) (md : Md) (gn : Nat) (w : World) (h : MdV w v md) (hok : md.ok) (hck : checkM md = 0) (hg1 : 1 ≤ gn) (hg : gn < 2 ^ md.rel.length) :
    Calls Tryz.prog 145 #[v, .int .i64 (gn : Int)] w fun e w' => ∃ u, e = .returned u ∧ Ext w w' ∧ MadeU w.heap.size w' u ((List.range md.n.toNat).map (grpN md.rel gn true md.n.toNat)) := by
  have H := Lib.hid h
  have HO := Lib.hid hok
  have HC := Lib.hid hck
  have HG := Lib.hid hg
  obtain ⟨vv, vr, rfl, ⟨Av, cv, rfl, _⟩, ⟨Ar, cr, rfl, _⟩⟩ := h
  clear hok hck hg
  go_enter Tryz.func145, Tryz.ntmps145
  go_wp2_with fail
  refine (group_any true _ md gn _ (H.out.ext ((Ext.refl _).alloc _)) HO.out HC.out hg1 HG.out).mono ?_
  rintro e w1 ⟨u, rfl, hx, hm⟩
  have HX := Lib.hid (((Ext.refl w).alloc _).trans hx)
  have HM := Lib.hid (show MadeU w.heap.size w1 u _ from row_base hm (by simp))
  clear hx hm
  go_wp2_with fail
  go_ret
  exact ⟨u, rfl, HX.out, HM.out⟩
end Go.Proofs.YtbfeodammikajaaGreat

/- The formulas of a base are formulas of knowledge, and so are their negations. -/

namespace Go.Proofs.YtbfeodammikajaaGreat

def OpOk (n : Nd) : Prop := 1 ≤ n.op ∧ n.op ≤ 10
theorem check_nil : check [] ≠ 0 := by decide
theorem sub_props {base : List Nd} (hc : check base = 0) {k : Nat} (hk : k < base.length) : subN base k = (finN base k []).1 ∧ check (subN base k) = 0 ∧ (subN base k).length ≤ base.length := by
  have e : subN base k = (finN base k []).1 := by
    unfold subN
    have e2 : (decide ((k : Int) < 0) || decide ((base.length : Int) ≤ (k : Int))) = false := by simp; omega
    rw [hc, e2, Int.toNat_natCast]
    rfl
  have hw := check_wf hc
  have h1 := length_le_pot base (finN base k []).1
  have h2 := pot_le hw k [] hk
  have h3 := pot_nil base
  have hl : (finN base k []).1.length ≤ base.length := by omega
  have h4 := finN_lt hw k [] hk
  refine ⟨e, ?_, by rw [e]; exact hl⟩
  rw [e]
  refine check_of (by intro e; rw [e] at h4; simp at h4) (by have := (check_parts hc).2.1; omega) (fin_wf hw k [] hk wf_nil) (fun n hn => ?_)
  rcases fin_mem hw k [] hk n hn with h | ⟨m, hm, k1, k2, rfl⟩
  · cases h
  · exact (heads_of hc m hm).with_ k1 k2
end Go.Proofs.YtbfeodammikajaaGreat

/- types' Refute: the walk. -/

namespace Go.Proofs.YtbfeodammikajaaGreat
open Go.RowKit

/-- What Refute returns. -/
def RefRes (w : World) (lg : Int) (f : List Nd) (e : Ending) (w' : World) : Prop :=
  Ext w w' ∧ ∃ v, e = .returned (.tuple #[v, .int .i64 (refErr lg f)]) ∧ (refErr lg f ≠ 0 → Elm w' v 0 [] []) ∧ (refErr lg f = 0 → Elm w' v lg ((endN lg f).2.map Prod.fst) ((endN lg f).2.map Prod.snd))
theorem refErr_bad {lg : Int} {f : List Nd} (h : engErr lg f ≠ 0) : refErr lg f = engErr lg f := by
  unfold refErr
  rw [show (engErr lg f != 0) = true by simpa using h]
  rfl
theorem refErr_ok {lg : Int} {f : List Nd} (h : engErr lg f = 0) : refErr lg f = bif leftN lg f then 15 else 0 := by
  unfold refErr
  rw [show (engErr lg f != 0) = false by simpa using h]
  rfl
set_option maxRecDepth 100000 in
set_option maxHeartbeats 16000000 in
theorem refute_any (lg : Int) (v : Value) (f : List Nd) (w : World) (h : Fml w v f) :
    Calls Tryz.prog 11 #[.int .i64 lg, v] w (RefRes w lg f) := by
  have H := Lib.hid h
  obtain ⟨Af, cf, rfl, _⟩ := fml_slice h
  clear h
  have HW0 := Lib.hid (show (w.alloc (.cells #[.int .i64 0, .slice none 0 0, .slice none 0 0] 30)).heap[w.heap.size]? = some (.cells #[.int .i64 0, .slice none 0 0, .slice none 0 0] 30 (0, 0)) from heap_alloc_new _ _)
  have HX0 := Lib.hid (show Ext w (w.alloc (.cells #[.int .i64 0, .slice none 0 0, .slice none 0 0] 30)) from (Ext.refl _).alloc _)
  obtain ⟨er, her⟩ : ∃ er, er = engErr lg f := ⟨_, rfl⟩
  have HER := Lib.hid her
  by_cases hz : er = 0
  · subst hz
    have HA := Lib.hid (eng_all (eng_ok her.symm))
    clear her
    go_enter Tryz.func11, Tryz.ntmps11
    go_wp2_with fail
    refine (newEngine_any lg _ f _ (H.out.ext HX0.out)).mono ?_
    rintro e w1 ⟨hx1, hr⟩
    obtain ⟨b, g, rfl, hb, hg, hE⟩ := (hr.resolve_left (fun h => h.1 HER.out.symm)).2
    have HE := Lib.hid hE
    have HX1 := Lib.hid hx1
    have HGB := Lib.hid (show w.heap.size < g by simp at hg; omega)
    clear hr hb hg hE hx1
    go_wp2_with fail
    refine (eliminate_any b g lg _ _ _ _ _ _ HE.out HA.out.lgr HA.out.le HA.out.len (fun k hk => ⟨(HA.out.ks k hk).1, by rw [(HA.out.ks k hk).2, HA.out.al]; exact Nat.le_refl _⟩) (fun c hc => by have := HA.out.cs c hc; rw [HA.out.al]; exact this)).mono ?_
    rintro e w2 ⟨vt, vw, rfl, hgr, hE2, ht, hw⟩
    obtain ⟨s, hs⟩ : ∃ s, s = endN lg f := ⟨_, rfl⟩
    have HS := Lib.hid hs
    rw [show elimN lg (knowsN (baseN f).1) (commsN (baseN f).1) (baseN f).1.length (aliveN lg (baseN f).1) = s from hs.symm] at hE2 ht hw
    obtain ⟨At, ct, rfl⟩ := slice_of_row ht
    obtain ⟨Aw, cw, rfl⟩ := slice_of_row hw
    have HT := Lib.hid ht
    have HWR := Lib.hid hw
    have HE2 := Lib.hid hE2
    have HB1 := Lib.hid ((HX1.out.block (by simp)).trans HW0.out)
    have HB2 := Lib.hid ((hgr.block w.heap.size (lt_heap HB1.out) (fun e => by injection e with e; have := HGB.out; omega)).trans HB1.out)
    have HX2 := Lib.hid (show Ext w w2 from (HX0.out.trans HX1.out).grown hgr (fun k e => by injection e with e; have := HGB.out; omega))
    have HLO := Lib.hid (show w.heap.size < w1.heap.size from lt_heap HB1.out)
    have HLEN := Lib.hid (show (rootN f).length = s.1.length by rw [hs, end_len]; exact HA.out.root)
    obtain ⟨⟨q0, q1, q2⟩, ⟨f0, f1, f2⟩, ql⟩ := cells3z HB2.out
    clear hgr hE2 ht hw hs
    go_wp2_with fail
    refine (satisfied_any b lg _ _ _ _ _ _ HE2.out.eng HLEN.out).mono ?_
    rintro e w3 ⟨rfl, rfl⟩
    have HL := Lib.hid (show satisfiedN s.1 (rootN f) = leftN lg f by rw [HS.out]; rfl)
    rw [HL.out]
    have HRE := Lib.hid (refErr_ok HER.out.symm)
    cases hl : leftN lg f
    · have HR0 := Lib.hid (show refErr lg f = 0 by rw [HRE.out, hl]; rfl)
      clear hl
      go_wp2_with fail
      (try simp only [Exit.inBlock, Exit.then])
      have hx3 := ext3z HX2.out (Nat.le_refl _) (.int .i64 lg) (.slice At s.2.length ct) (.slice Aw s.2.length cw)
      have h1 : s.2.length = (s.2.map Prod.fst).length := by rw [List.length_map]
      have h2 : s.2.length = (s.2.map Prod.snd).length := by rw [List.length_map]
      have ht3 := row_keep (w' := (((w2.setCell ⟨w.heap.size, 0, none⟩ (.int .i64 lg)).setCell ⟨w.heap.size, 1, none⟩ (.slice At s.2.length ct)).setCell ⟨w.heap.size, 2, none⟩ (.slice Aw s.2.length cw))) HT.out (fun k hk => other3z (by have := (HT.out.lt k hk).1; have := HLO.out; omega) _ _ _)
      have hw3 := row_keep (w' := (((w2.setCell ⟨w.heap.size, 0, none⟩ (.int .i64 lg)).setCell ⟨w.heap.size, 1, none⟩ (.slice At s.2.length ct)).setCell ⟨w.heap.size, 2, none⟩ (.slice Aw s.2.length cw))) HWR.out (fun k hk => other3z (by have := (HWR.out.lt k hk).1; have := HLO.out; omega) _ _ _)
      refine bodyPost_ret (results_ct Tryz.results11 _ _ rfl (range_of (set3z HB2.out _ _ _)) Tryz.underlying30 rfl (by kernel_rfl)) rfl ?_
      refine ⟨hx3, _, by rw [HR0.out] <;> rfl, fun h => absurd HR0.out h, fun _ => ⟨_, _, rfl, ?_, ?_⟩⟩
      · rw [← HS.out]
        exact u64s_of_row (by rw [← h1]; exact ht3)
      · rw [← HS.out]
        exact ints_of_vrow (by rw [← h2]; exact hw3)
    · have HR0 := Lib.hid (show refErr lg f = 15 by rw [HRE.out, hl]; rfl)
      clear hl
      go_wp2_with fail
      (try simp only [Exit.inBlock, Exit.then])
      refine bodyPost_ret (results_ct Tryz.results11 _ _ rfl (range_of (set3z HB2.out _ _ _)) Tryz.underlying30 rfl (by kernel_rfl)) rfl ?_
      exact ⟨ext3z HX2.out (Nat.le_refl _) _ _ _, _, by rw [HR0.out] <;> rfl, fun _ => elm_nil _, fun h => by rw [HR0.out] at h; cases h⟩
  · have HZ := Lib.hid hz
    have HRE := Lib.hid (show refErr lg f = er by rw [refErr_bad (by rw [← her]; exact hz), her])
    clear her
    go_enter Tryz.func11, Tryz.ntmps11
    go_wp2_with fail
    refine (newEngine_any lg _ f _ (H.out.ext HX0.out)).mono ?_
    rintro e w1 ⟨hx1, hr⟩
    obtain ⟨_, rfl⟩ := hr.resolve_right (fun h => HZ.out (HER.out.trans h.1))
    rw [← HER.out]
    have HX1 := Lib.hid hx1
    have HB1 := Lib.hid ((hx1.block (by simp)).trans HW0.out)
    obtain ⟨⟨q0, q1, q2⟩, ⟨f0, f1, f2⟩, ql⟩ := cells3z HB1.out
    clear hx1 hr
    go_wp2_with fail
    (try simp only [Exit.inBlock, Exit.then])
    refine bodyPost_ret (results_ct Tryz.results11 _ _ rfl (range_of (set3z HB1.out _ _ _)) Tryz.underlying30 rfl (by kernel_rfl)) rfl ?_
    exact ⟨ext3z (HX0.out.trans HX1.out) (Nat.le_refl _) _ _ _, _, by rw [HRE.out] <;> rfl, fun _ => elm_nil _, fun h => absurd (HRE.out.symm.trans h) HZ.out⟩
end Go.Proofs.YtbfeodammikajaaGreat

/- The parts of a tree; what a base's error depends on: the parts of the expansion. -/

namespace Go.Proofs.YtbfeodammikajaaGreat

def Part (s : Tr) : Tr → Prop
  | .leaf n => s = .leaf n
  | .one n a => s = .one n a ∨ Part s a
  | .two n a b => s = .two n a b ∨ Part s a ∨ Part s b
end Go.Proofs.YtbfeodammikajaaGreat

/- The plain law of TypesLogics: what is satisfiable in a logic is satisfiable in the logics with less conditions. -/

namespace Go.Proofs.YtbfeodammikajaaGreat

def lessL : List (Int × Int) := [(6, 5), (6, 4), (4, 2), (4, 3), (5, 3), (5, 1), (2, 1), (1, 0), (3, 0)]
theorem sat_err {lg : Int} {f : List Nd} (h : engErr lg f ≠ 0) : satN lg f = (false, engErr lg f) := by
  unfold satN
  rw [show (engErr lg f != 0) = true by simpa using h]
  rfl
theorem sat_ok {lg : Int} {f : List Nd} (h : engErr lg f = 0) : satN lg f = (leftN lg f, 0) := by
  unfold satN
  rw [show (engErr lg f != 0) = false by simpa using h]
  rfl
end Go.Proofs.YtbfeodammikajaaGreat

/- The errors of a formula, told by its tree; the plain law of TypesDual. -/

namespace Go.Proofs.YtbfeodammikajaaGreat

theorem bits_mask : ∀ (l : List Nd), (∀ n ∈ l, (fragOf n.op).toNat &&& 500 = 0) → fragMask l &&& 500 = 0 := by
  have key : ∀ (l : List Nd) (m : Nat), m &&& 500 = 0 → (∀ n ∈ l, (fragOf n.op).toNat &&& 500 = 0) → (l.foldl (fun m n => m ||| (fragOf n.op).toNat) m) &&& 500 = 0 := by
    intro l
    induction l with
    | nil => intro m h _; exact h
    | cons a r ih =>
      intro m h hl
      refine ih _ ?_ (fun n hn => hl n (List.mem_cons_of_mem _ hn))
      rw [Nat.and_or_distrib_right, h, hl a (List.mem_cons_self ..)]
      rfl
  intro l h
  exact key l 0 (by decide) h
theorem lang_of {f : List Nd} (hl : ∀ n ∈ compactN f, tyOp n.op) : langBad f = false := by
  unfold langBad fragsN
  have := bits_mask (compactN f) fun n hn => by
    have ho := hl n hn
    have : n.op = 1 ∨ n.op = 2 ∨ n.op = 3 ∨ n.op = 4 ∨ n.op = 5 ∨ n.op = 6 ∨ n.op = 7 ∨ n.op = 8 ∨ n.op = 9 ∨ n.op = 10 ∨ n.op = 11 ∨ n.op = 13 := by unfold tyOp at ho; omega
    rcases this with h | h | h | h | h | h | h | h | h | h | h | h <;> (rw [h]; decide)
  rw [this]
  rfl
theorem baseOf_err (g : List Nd) : (baseOfN g).2 = 0 ∨ (baseOfN g).2 = 8 := by
  unfold baseOfN
  cases ((base0 g).flatMap unfsN).any (fun u => decide (u.length = 0)) || decide (12 < (((base0 g).flatMap unfsN).foldl addF (base0 g)).length)
  · exact .inl rfl
  · exact .inr rfl
end Go.Proofs.YtbfeodammikajaaGreat

/- types' Satisfiable: the walk. -/

namespace Go.Proofs.YtbfeodammikajaaGreat
open Go.RowKit

theorem nodeErr_range (n : Nd) (a : Int) : 0 ≤ nodeErr n a ∧ nodeErr n a ≤ 10 := by
  unfold nodeErr
  cases !isOp n.op <;> cases !operandOk (hasX n.op) n.x a || !operandOk (hasY n.op) n.y a <;> cases formBad n <;> cases rangeBad n <;> simp
theorem checkNodes_range : ∀ (l : List Nd) (a : Int), 0 ≤ checkNodes l a ∧ checkNodes l a ≤ 10
  | [], _ => ⟨Int.le_refl 0, show (0 : Int) ≤ 10 by decide⟩
  | n :: r, a => by
    unfold checkNodes
    cases nodeErr n a != 0
    · exact checkNodes_range r _
    · exact nodeErr_range n a
theorem check_range (l : List Nd) : 0 ≤ check l ∧ check l ≤ 10 := by
  unfold check
  cases decide (l.length = 0)
  · cases decide (200 < l.length)
    · exact checkNodes_range l 0
    · simp
  · simp
theorem engErr_range (lg : Int) (f : List Nd) : 0 ≤ engErr lg f ∧ engErr lg f ≤ 10 := by
  unfold engErr
  cases decide (lg < 0) || decide (6 < lg)
  · unfold baseN
    cases check f != 0
    · cases langBad f
      · cases decide ((expandN f).length = 0)
        · simp only [cond_false]
          rcases baseOf_err (expandN f) with h | h <;> rw [h] <;> simp
        · simp
      · simp
    · exact check_range f
  · simp
set_option maxRecDepth 100000 in
set_option maxHeartbeats 4000000 in
theorem sat_any (lg : Int) (v : Value) (f : List Nd) (w : World) (h : Fml w v f) :
    Calls Tryz.prog 9 #[.int .i64 lg, v] w fun e w' => e = .returned (.tuple #[.bool (satN lg f).1, .int .i64 (satN lg f).2]) ∧ Ext w w' := by
  have H := Lib.hid h
  obtain ⟨Af, cf, rfl, _⟩ := fml_slice h
  clear h
  have hrg := engErr_range lg f
  obtain ⟨er, her⟩ : ∃ er, er = engErr lg f := ⟨_, rfl⟩
  rw [← her] at hrg
  have HER := Lib.hid her
  by_cases hz : er = 0
  · subst hz
    have HSO := Lib.hid (sat_ok (lg := lg) her.symm)
    have HRO := Lib.hid (refErr_ok (lg := lg) her.symm)
    clear her hrg
    cases hl : leftN lg f
    · rw [hl] at HSO HRO
      clear hl
      go_enter Tryz.func9, Tryz.ntmps9
      go_wp2_with fail
      refine (refute_any lg _ f _ H.out).mono ?_
      rintro e w1 ⟨hx1, u, rfl, hn, hy⟩
      obtain ⟨vt, vw, rfl, ⟨At, ct, rfl, _⟩, ⟨Aw, cw, rfl, _⟩⟩ := hy HRO.out
      rw [HRO.out]
      have HX1 := Lib.hid hx1
      clear hx1 hn hy
      go_wp2_with fail
      go_ret2
      exact ⟨by rw [HSO.out] <;> rfl, HX1.out.alloc _⟩
    · rw [hl] at HSO HRO
      clear hl
      go_enter Tryz.func9, Tryz.ntmps9
      go_wp2_with fail
      refine (refute_any lg _ f _ H.out).mono ?_
      rintro e w1 ⟨hx1, u, rfl, hn, hy⟩
      obtain ⟨vt, vw, rfl, ⟨At, ct, rfl, _⟩, ⟨Aw, cw, rfl, _⟩⟩ := hn (by rw [HRO.out]; decide)
      rw [HRO.out]
      have HX1 := Lib.hid hx1
      clear hx1 hn hy
      go_wp2_with fail
      go_ret2
      exact ⟨by rw [HSO.out] <;> rfl, HX1.out.alloc _⟩
  · have HZ := Lib.hid hz
    have HSO := Lib.hid (sat_err (lg := lg) (f := f) (by rw [← her]; exact hz))
    have HRO := Lib.hid (show refErr lg f = er by rw [refErr_bad (by rw [← her]; exact hz), her])
    rw [← her] at HSO
    have hz0 : (er == 0) = false := by rw [beq_eq_false_iff_ne]; exact hz
    have hz15 : (er == 15) = false := by rw [beq_eq_false_iff_ne]; omega
    clear her hrg hz
    go_enter Tryz.func9, Tryz.ntmps9
    go_wp2_with fail
    refine (refute_any lg _ f _ H.out).mono ?_
    rintro e w1 ⟨hx1, u, rfl, hn, hy⟩
    obtain ⟨vt, vw, rfl, ⟨At, ct, rfl, _⟩, ⟨Aw, cw, rfl, _⟩⟩ := hn (by rw [HRO.out]; exact HZ.out)
    rw [HRO.out]
    have HX1 := Lib.hid hx1
    clear hx1 hn hy
    go_wp2_with fail
    go_ret2
    exact ⟨by rw [HSO.out] <;> rfl, HX1.out.alloc _⟩
end Go.Proofs.YtbfeodammikajaaGreat

/- types' Check: the walk. -/

namespace Go.Proofs.YtbfeodammikajaaGreat
open Go.RowKit

theorem checkT_bad {lg : Int} {f : List Nd} {ts : List Nat} {ws : List Int} (h : engErr lg f ≠ 0) : checkT lg f ts ws = engErr lg f := by
  unfold checkT
  rw [show (engErr lg f != 0) = true by simpa using h]
  rfl
theorem checkT_len {lg : Int} {f : List Nd} {ts : List Nat} {ws : List Int} (h : engErr lg f = 0) (hl : ts.length ≠ ws.length) : checkT lg f ts ws = 3 := by
  unfold checkT
  rw [show (engErr lg f != 0) = false by simpa using h, show (ts.length != ws.length) = true by simpa using hl]
  rfl
/-- The lacks of a formula's engine. -/
noncomputable def lkN (lg : Int) (f : List Nd) : List Bool → Nat → Int → Bool := lacksN lg (knowsN (baseN f).1) (commsN (baseN f).1)
theorem checkT_none {lg : Int} {f : List Nd} {ts : List Nat} {ws : List Int} (h : engErr lg f = 0) (hl : ts.length = ws.length) (hc : checkG (lkN lg f) ts ws (aliveN lg (baseN f).1) = none) : checkT lg f ts ws = 13 := by
  unfold checkT
  unfold lkN at hc
  rw [show (engErr lg f != 0) = false by simpa using h, show (ts.length != ws.length) = false by simpa using hl, hc]
  rfl
theorem checkT_some {lg : Int} {f : List Nd} {ts : List Nat} {ws : List Int} {al : List Bool} (h : engErr lg f = 0) (hl : ts.length = ws.length) (hc : checkG (lkN lg f) ts ws (aliveN lg (baseN f).1) = some al) : checkT lg f ts ws = bif satisfiedN al (rootN f) then 13 else 0 := by
  unfold checkT
  unfold lkN at hc
  rw [show (engErr lg f != 0) = false by simpa using h, show (ts.length != ws.length) = false by simpa using hl, hc]
  rfl
theorem checkG_step {lk : List Bool → Nat → Int → Bool} {ts : List Nat} {ws : List Int} {al : List Bool} {k t : Nat} {i : Int} (ht : ts[k]? = some t) (hi : ws[k]? = some i) :
    checkG lk (ts.drop k) (ws.drop k) al = bif decide (t < al.length) && (al.getD t false && lk al t i) then checkG lk (ts.drop (k + 1)) (ws.drop (k + 1)) (al.set t false) else none := by
  obtain ⟨h1, e1⟩ := List.getElem?_eq_some_iff.1 ht
  obtain ⟨h2, e2⟩ := List.getElem?_eq_some_iff.1 hi
  rw [List.drop_eq_getElem_cons h1, List.drop_eq_getElem_cons h2, e1, e2]
  rfl
theorem checkG_end {lk : List Bool → Nat → Int → Bool} {ts : List Nat} {ws : List Int} {al : List Bool} : checkG lk (ts.drop ts.length) (ws.drop ts.length) al = some al := by
  rw [List.drop_length]
  cases ws.drop ts.length <;> rfl
set_option maxRecDepth 100000 in
set_option maxHeartbeats 16000000 in
theorem checkT_any (lg : Int) (ve : Value) (ts : List Nat) (ws : List Int) (v : Value) (f : List Nd) (w : World) (h : Fml w v f) (he : Elm w ve lg ts ws) (hws : ∀ i ∈ ws, i64ok i) :
    Calls Tryz.prog 13 #[v, ve] w fun e w' => e = .returned (.int .i64 (checkT lg f ts ws)) ∧ Ext w w' := by
  have H := Lib.hid h
  obtain ⟨Af, cf, rfl, _⟩ := fml_slice h
  obtain ⟨vt, vw, rfl, ⟨At, ct, rfl, ht1, ht2, ht3⟩, ⟨Aw, cw, rfl, hw1, hw2, hw3⟩⟩ := he
  unfold maxLen at ht2 hw2
  have HT := Lib.hid ht3
  have HW := Lib.hid hw3
  have HWS := Lib.hid hws
  have HX0 := Lib.hid (show Ext w (w.alloc (.cells #[.int .i64 lg, .slice At ts.length ct, .slice Aw ws.length cw] 30)) from (Ext.refl _).alloc _)
  have HW0 := Lib.hid (show (w.alloc (.cells #[.int .i64 lg, .slice At ts.length ct, .slice Aw ws.length cw] 30)).heap[w.heap.size]? = some (.cells #[.int .i64 lg, .slice At ts.length ct, .slice Aw ws.length cw] 30 (0, 0)) from heap_alloc_new _ _)
  clear h ht3 hw3 hws
  obtain ⟨er, her⟩ : ∃ er, er = engErr lg f := ⟨_, rfl⟩
  have HER := Lib.hid her
  by_cases hz : er = 0
  · subst hz
    have HA := Lib.hid (eng_all (eng_ok her.symm))
    clear her
    by_cases hll : ts.length = ws.length
    · have HLL := Lib.hid hll
      have hlb : ((ts.length : Int) != (ws.length : Int)) = false := by rw [hll]; simp
      clear hll
      go_enter Tryz.func13, Tryz.ntmps13
      go_wp2_with fail
      refine (newEngine_any lg _ f _ (H.out.ext HX0.out)).mono ?_
      rintro e w1 ⟨hx1, hr⟩
      obtain ⟨b, g, rfl, hb, hg, hE⟩ := (hr.resolve_left (fun h => h.1 HER.out.symm)).2
      have HE := Lib.hid hE
      have HX1 := Lib.hid hx1
      have HGB := Lib.hid (show w.heap.size < g by simp at hg; omega)
      have HB1 := Lib.hid ((hx1.block (by simp)).trans HW0.out)
      obtain ⟨⟨q0, q1, q2⟩, _, ql⟩ := cells3z HB1.out
      obtain ⟨m, hm⟩ : ∃ m, m = 2 ^ (baseN f).1.length := ⟨_, rfl⟩
      have HM := Lib.hid hm
      have hm12 : m ≤ 4096 := by rw [hm, ← HA.out.al]; exact HA.out.le
      obtain ⟨base, hbase⟩ : ∃ b, b = (baseN f).1 := ⟨_, rfl⟩
      have HBASE := Lib.hid hbase
      rw [← hbase] at HE
      clear hr hb hg hE hx1 hm hbase
      go_wp2_with fail
      go_loopw [29] (fun v wr => ∃ k : Nat, v = .int .i64 (k : Int) ∧ k ≤ ts.length ∧ Hid (∃ al, EngX wr b g lg base (rootN f) (knowsN base) (commsN base) al ∧ Ext w wr ∧ wr.heap[w.heap.size]? = some (.cells #[.int .i64 lg, .slice At ts.length ct, .slice Aw ws.length cw] 30 (0, 0)) ∧ al.length = m ∧ checkG (lkN lg f) (ts.drop k) (ws.drop k) al = checkG (lkN lg f) ts ws (aliveN lg (baseN f).1))) (fun v _ => ts.length - (intOf v).toNat)
      case atStart => exact ⟨0, rfl, Nat.zero_le _, Lib.hid ⟨aliveN lg base, HE.out, HX0.out.trans HX1.out, HB1.out, by rw [alive_len, HM.out, HBASE.out], by rw [HBASE.out, List.drop_zero, List.drop_zero]⟩⟩
      case round =>
        clear q0 q1 q2 ql
        obtain ⟨k, rfl, hk, HREL⟩ := hrel
        obtain ⟨al, hE, hx, hbx, hal, hck⟩ := HREL.out
        have HE2 := Lib.hid hE
        have HX := Lib.hid hx
        have HBX := Lib.hid hbx
        have HAL := Lib.hid hal
        have HCK := Lib.hid hck
        obtain ⟨_, _, _, _, x0, x1, x2, x5, xl⟩ := hE.cells
        rw [hal] at x5
        obtain ⟨⟨q0, q1, q2⟩, _, ql⟩ := cells3z hbx
        clear HREL hE hx hbx hal hck
        by_cases hlt2 : k < ts.length
        · have hk1 : (k : Int) < (ts.length : Int) := by omega
          have hlt3 : k < ws.length := by have := HLL.out; omega
          have hk2 : (k : Int) < (ws.length : Int) := by omega
          obtain ⟨t, ht⟩ : ∃ t, ts[k]? = some t := ⟨_, List.getElem?_eq_getElem hlt2⟩
          obtain ⟨i, hi⟩ : ∃ i, ws[k]? = some i := ⟨_, List.getElem?_eq_getElem hlt3⟩
          obtain ⟨ad, rfl, hb1, hc1⟩ := HT.out (by intro e; rw [e] at hlt2; simp at hlt2)
          obtain ⟨aw, rfl, hb2, hc2⟩ := HW.out (by intro e; rw [e] at hlt3; simp at hlt3)
          have a0 := (HX.out.cell (p := ad.add k) (by rw [block_of_add]; exact hb1)).trans (hc1 k t ht)
          have a1 := (HX.out.cell (p := aw.add k) (by rw [block_of_add]; exact hb2)).trans (hc2 k i hi)
          have HSTEP := Lib.hid (checkG_step (lk := lkN lg f) (al := al) ht hi)
          rw [HCK.out] at HSTEP
          have HI := Lib.hid (HWS.out i (List.mem_of_getElem? hi))
          have hwm : IntKind.u64.wrap (m : Int) = (m : Int) := by rw [IntKind.wrap_u64]; omega
          clear ht hi hc1 hc2
          by_cases htm : t < m
          · have htm1 : (t : Int) < (m : Int) := by omega
            obtain ⟨av, hav⟩ : ∃ x, x = al.getD t false := ⟨_, rfl⟩
            have HAV := Lib.hid hav
            have gc : wr.cell? ⟨g, t, none⟩ = some (.bool av) := HE2.out.row.cell (by rw [hav, List.getD_eq_getElem?_getD, List.getElem?_eq_getElem (by rw [HAL.out]; exact htm)]; rfl)
            have gl : g < wr.heap.size := HE2.out.row.lt.2
            clear hav
            cases av
            · have HR := Lib.hid (checkT_none (lg := lg) (f := f) (ts := ts) (ws := ws) HER.out.symm HLL.out (by rw [HSTEP.out, ← HAV.out, Bool.false_and, Bool.and_false]; rfl))
              go_wp2_with fail
              go_ret
              exact ⟨by rw [HR.out] <;> rfl, HX.out⟩
            · obtain ⟨lk, hlk⟩ : ∃ x, x = lkN lg f al t i := ⟨_, rfl⟩
              have HLK := Lib.hid (show lacksN lg (knowsN base) (commsN base) al t i = lk by rw [hlk, HBASE.out]; rfl)
              have HLK2 := Lib.hid hlk
              clear hlk
              have HKS := Lib.hid (show ∀ k ∈ knowsN base, k.place < 64 ∧ al.length ≤ k.holds.length from fun k hk => by have h := HA.out.ks k (by rw [← HBASE.out]; exact hk); exact ⟨h.1, by rw [HAL.out, HM.out, h.2]; exact Nat.le_refl _⟩)
              have HCS := Lib.hid (show ∀ c ∈ commsN base, c.place < 64 ∧ c.x.length = al.length ∧ c.y.length = al.length ∧ 0 ≤ c.group ∧ c.group < 16 from fun c hc => by have := HA.out.cs c (by rw [← HBASE.out]; exact hc); rw [HAL.out, HM.out]; exact this)
              go_wp2_with fail
              refine (lacks_any b lg base (rootN f) (knowsN base) (commsN base) al t i _ HE2.out.eng HA.out.lgr (by rw [HAL.out]; exact htm) (by rw [HAL.out]; exact hm12) HI.out HKS.out HCS.out).mono ?_
              rintro e w3 ⟨rfl, hx3⟩
              rw [HLK.out]
              have HX3 := Lib.hid hx3
              clear x0 x1 x2 x5 xl gc gl q0 q1 q2 ql
              cases lk
              · have HR := Lib.hid (checkT_none (lg := lg) (f := f) (ts := ts) (ws := ws) HER.out.symm HLL.out (by rw [HSTEP.out, ← HLK2.out, Bool.and_false, Bool.and_false]; rfl))
                go_wp2_with fail
                go_ret
                exact ⟨by rw [HR.out] <;> rfl, HX.out.trans HX3.out⟩
              · have HE3 := Lib.hid (HE2.out.ext hx3)
                obtain ⟨_, _, _, _, _, _, _, y5, yl⟩ := HE3.out.cells
                rw [HAL.out] at y5
                have gfr := HE3.out.row.frozen t
                have gc : w3.cell? ⟨g, t, none⟩ = some (.bool true) := HE3.out.row.cell (by rw [HAV.out, List.getD_eq_getElem?_getD, List.getElem?_eq_getElem (by rw [HAL.out]; exact htm)]; rfl)
                have gl : g < w3.heap.size := HE3.out.row.lt.2
                clear hx3
                go_wp2_with fail
                go_roundw
                case rel => exact ⟨k + 1, by go_num, by omega, Lib.hid ⟨al.set t false, HE3.out.set t false, (HX.out.trans HX3.out).setCell (p := ⟨g, t, none⟩) (Nat.le_of_lt HGB.out) _, (Below.heap_setCell _ _ _ _ (Nat.ne_of_lt HGB.out)).trans ((HX3.out.block (lt_heap HBX.out)).trans HBX.out), by rw [List.length_set]; exact HAL.out, by
                  rw [HSTEP.out, ← HAV.out, ← HLK2.out, decide_eq_true (by rw [HAL.out]; exact htm)]; rfl⟩⟩
                case measure => simp [intOf]; omega
          · have htm1 : (m : Int) ≤ (t : Int) := by omega
            have HR := Lib.hid (checkT_none (lg := lg) (f := f) (ts := ts) (ws := ws) HER.out.symm HLL.out (by rw [HSTEP.out, decide_eq_false (by rw [HAL.out]; exact htm)]; rfl))
            go_wp2_with fail
            go_ret
            exact ⟨by rw [HR.out] <;> rfl, HX.out⟩
        · obtain rfl : ts.length = k := by omega
          have HR := Lib.hid (checkT_some (lg := lg) (f := f) (ts := ts) (ws := ws) (al := al) HER.out.symm HLL.out (by rw [← HCK.out, checkG_end]))
          go_wp2_with fail
          refine (satisfied_any b lg base (rootN f) (knowsN base) (commsN base) al _ HE2.out.eng (by rw [HAL.out, HM.out]; exact HA.out.root)).mono ?_
          rintro e w3 ⟨rfl, rfl⟩
          clear x0 x1 x2 x5 xl q0 q1 q2 ql
          cases hs : satisfiedN al (rootN f)
          · rw [hs] at HR
            clear hs
            go_wp2_with fail
            go_ret
            exact ⟨by rw [HR.out] <;> rfl, HX.out⟩
          · rw [hs] at HR
            clear hs
            go_wp2_with fail
            go_ret
            exact ⟨by rw [HR.out] <;> rfl, HX.out⟩
    · have HLL := Lib.hid hll
      have hlb : ((ts.length : Int) != (ws.length : Int)) = true := by simp; omega
      have HRE := Lib.hid (checkT_len (lg := lg) (f := f) HER.out.symm hll)
      clear hll
      go_enter Tryz.func13, Tryz.ntmps13
      go_wp2_with fail
      refine (newEngine_any lg _ f _ (H.out.ext HX0.out)).mono ?_
      rintro e w1 ⟨hx1, hr⟩
      obtain ⟨b, g, rfl, hb, hg, hE⟩ := (hr.resolve_left (fun h => h.1 HER.out.symm)).2
      have HX1 := Lib.hid hx1
      have HB1 := Lib.hid ((hx1.block (by simp)).trans HW0.out)
      obtain ⟨⟨q0, q1, q2⟩, _, ql⟩ := cells3z HB1.out
      clear hr hb hg hE hx1
      go_wp2_with fail
      go_ret
      exact ⟨by rw [HRE.out] <;> rfl, HX0.out.trans HX1.out⟩
  · have HZ := Lib.hid hz
    have HRE := Lib.hid (show checkT lg f ts ws = er by rw [checkT_bad (by rw [← her]; exact hz), her])
    clear her
    go_enter Tryz.func13, Tryz.ntmps13
    go_wp2_with fail
    refine (newEngine_any lg _ f _ (H.out.ext HX0.out)).mono ?_
    rintro e w1 ⟨hx1, hr⟩
    obtain ⟨_, rfl⟩ := hr.resolve_right (fun h => HZ.out (HER.out.trans h.1))
    rw [← HER.out]
    have HX1 := Lib.hid hx1
    clear hx1 hr
    go_wp2_with fail
    go_ret
    exact ⟨by rw [HRE.out] <;> rfl, HX0.out.trans HX1.out⟩
end Go.Proofs.YtbfeodammikajaaGreat

/- The negation normal forms are canonical lists; the place of a formula among those of a base. -/

namespace Go.Proofs.YtbfeodammikajaaGreat

end Go.Proofs.YtbfeodammikajaaGreat

/- The plain law of TypesDual. -/

namespace Go.Proofs.YtbfeodammikajaaGreat

/-- A connective of two formulas. -/
def tw (k : Int) (s t : Tr) : Tr := .two ⟨k, 0, 0, 0, 0, 0⟩ s t
def ng (s : Tr) : Tr := .one ⟨4, 0, 0, 0, 0, 0⟩ s
section
variable {k j : Int} {s t : Tr}
structure Dual2 (f g : List Nd) : Prop where
  cA : check (andN f g) = 0
  tA : treeOf (andN f g) = tw 5 (treeOf f) (treeOf g)
  cO : check (orN f g) = 0
  tO : treeOf (orN f g) = tw 6 (treeOf f) (treeOf g)
  cN : check (notN f) = 0
  tN : treeOf (notN f) = ng (treeOf f)
  eF : (baseN f).2 = 0
  eG : (baseN g).2 = 0
  eN : (baseN (notN f)).2 = 0
end
/-- A model with one world. -/
def unitM : KM := ⟨Unit, fun _ _ _ => True, fun _ _ => False⟩
end Go.Proofs.YtbfeodammikajaaGreat

/- The plain law of TypesCommon. -/

namespace Go.Proofs.YtbfeodammikajaaGreat

def everyN (g : Int) (f : List Nd) : List Nd := buildN ⟨11, 0, 0, g, 0, 0⟩ [f]
theorem head_78 (k : Int) (hk : k = 7 ∨ k = 8) : headOk ⟨k, 0, 0, 0, 0, 0⟩ := by rcases hk with rfl | rfl <;> exact ⟨rfl, rfl, rfl, fun _ => rfl, fun _ => rfl⟩
theorem head_g (k : Int) (hk : k = 11 ∨ k = 13) {g : Int} (h0 : 1 ≤ g) (h1 : g ≤ 3) : headOk ⟨k, 0, 0, g, 0, 0⟩ := by
  have hg : g = 1 ∨ g = 2 ∨ g = 3 := by omega
  rcases hk with rfl | rfl <;> rcases hg with rfl | rfl | rfl <;> exact ⟨rfl, rfl, rfl, fun _ => rfl, fun _ => rfl⟩
def fact0 : List Nd := factN 0
def comF (g : Int) (x : List Nd) : List Nd := commonN g x fact0
def stepF (g : Int) (x : List Nd) : List Nd := everyN g (impN x (andN fact0 (comF g x)))
def com1 (g : Int) (x : List Nd) : List Nd := iffN (comF g x) (stepF g x)
def com2 (g : Int) (x : List Nd) : List Nd := impN (comF g x) (everyN g (impN x fact0))
section
variable {g : Int} {x : List Nd} {M : KM} {w : M.W}
end
end Go.Proofs.YtbfeodammikajaaGreat

/- wittingref05.Equal: the reference's equality of lists of nodes. -/

namespace Go.Proofs.YtbfeodammikajaaGreat
open Go.RowKit

set_option maxRecDepth 100000 in
set_option maxHeartbeats 1000000 in
theorem refEqual_any (v1 v2 : Value) (l1 l2 : List Nd) (w : World) (h1 : Nds w v1 l1) (h2 : Nds w v2 l2) :
    Calls Tryz.prog 109 #[v1, v2] w fun e w' => e = .returned (.bool (decide (l1 = l2))) ∧ Ext w w' := by
  obtain ⟨A1, c1, rfl, hcap1, hmax1, hr1⟩ := h1
  obtain ⟨A2, c2, rfl, hcap2, hmax2, hr2⟩ := h2
  unfold maxLen at hmax1 hmax2
  by_cases hl : l1.length = l2.length
  · have HR1 := Lib.hid hr1
    have HR2 := Lib.hid hr2
    have HL := Lib.hid hl
    have eb : ((l1.length : Int) != (l2.length : Int)) = false := by simp [hl]
    clear hr1 hr2 hl
    go_enter Tryz.func109, Tryz.ntmps109
    go_wp2_with fail
    go_loopw [5] (fun i wr => ∃ k : Nat, k ≤ l1.length ∧ i = .int .i64 k ∧ Hid (l1.take k = l2.take k) ∧ Ext w wr) (fun i _ => l1.length - (intOf i).toNat)
    case atStart => exact ⟨0, Nat.zero_le _, rfl, Lib.hid rfl, Ext.refl _⟩
    case round =>
      obtain ⟨k, hk, rfl, htk, hext⟩ := hrel
      by_cases hlt2 : k < l1.length
      · have hlt3 : k < l2.length := by have := HL.out; omega
        obtain ⟨a, ha⟩ : ∃ a, l1[k]? = some a := ⟨_, List.getElem?_eq_getElem hlt2⟩
        obtain ⟨b, hb⟩ : ∃ b, l2[k]? = some b := ⟨_, List.getElem?_eq_getElem hlt3⟩
        obtain ⟨ad1, rfl, hb1, hc1⟩ := HR1.out (by intro e; rw [e] at hlt2; simp at hlt2)
        obtain ⟨ad2, rfl, hb2, hc2⟩ := HR2.out (by intro e; rw [e] at hlt3; simp at hlt3)
        obtain ⟨a0, a1, a2, a3, a4, a5⟩ := (hc1 k a ha).keep fun p hp => hext.cell (p := p) (by rw [hp, block_of_add]; exact hb1)
        obtain ⟨b0, b1, b2, b3, b4, b5⟩ := (hc2 k b hb).keep fun p hp => hext.cell (p := p) (by rw [hp, block_of_add]; exact hb2)
        have hi0 : (0 : Int) ≤ (k : Int) := by omega
        have hi1 : (k : Int) < (l1.length : Int) := by omega
        have hi2 : (k : Int) < (l2.length : Int) := by omega
        have heq := fun W => eqNode a b W
        have HA := Lib.hid ha
        have HB := Lib.hid hb
        clear ha hb hc1 hc2
        by_cases hab : a = b
        · have hd : decide (a = b) = true := by simpa using hab
          have HT : Hid (l1.take (k + 1) = l2.take (k + 1)) := Lib.hid (by rw [take_succ_eq HA.out, take_succ_eq HB.out, htk.out, hab])
          clear hab
          go_wp2_with fail
          go_quiet (fail)
          go_wp2_with fail
          go_roundw
          case rel => exact ⟨k + 1, by omega, by go_num, HT, hext.drewN _⟩
          case measure => simp [intOf]; omega
        · have hd : decide (a = b) = false := by simpa using hab
          have HR : Hid (decide (l1 = l2) = false) := Lib.hid (decide_eq_false (lists_differ HA.out HB.out hab))
          clear hab
          go_wp2_with fail
          go_quiet (fail)
          go_wp2_with fail
          go_ret
          exact ⟨by rw [HR.out]; rfl, hext.drewN _⟩
      · obtain rfl : l1.length = k := by omega
        have HR : Hid (decide (l1 = l2) = true) := Lib.hid (decide_eq_true (by
          have h := htk.out
          rw [List.take_of_length_le (Nat.le_refl _), HL.out, List.take_of_length_le (Nat.le_refl _)] at h
          exact h))
        go_wp2_with fail
        go_ret
        exact ⟨by rw [HR.out]; rfl, hext⟩
  · have eb : ((l1.length : Int) != (l2.length : Int)) = true := by simp; omega
    have HR : Hid (decide (l1 = l2) = false) := Lib.hid (decide_eq_false fun e => hl (by rw [e]))
    clear hl hr1 hr2
    go_enter Tryz.func109, Tryz.ntmps109
    go_wp2_with fail
    go_ret
    exact ⟨by rw [HR.out]; rfl, Ext.refl _⟩
end Go.Proofs.YtbfeodammikajaaGreat

/- The examples of the chapter: what the engine of types says of them. -/

namespace Go.Proofs.YtbfeodammikajaaGreat

def exB : List Nd := knowN 0 (factN 0)
def exF : List Nd := andN (knowN 0 (factN 0)) (notN (factN 0))
def exZ : List Nd := andN (commonN 1 trueN (factN 0)) (notN (knowN 0 (factN 0)))
def exW : List Nd := andN (factN 0) (notN (commonN 1 (factN 0) (factN 1)))
def fT (i : Int) : Tr := .leaf ⟨3, i, 0, 0, 0, 0⟩
theorem ex_base : (baseN exB).2 = 0 ∧ (baseN exB).1.length = 2 := by constructor <;> kernel_rfl
theorem ex_err0 : engErr 0 exF = 0 := by kernel_rfl
theorem ex_err2 : engErr 2 exF = 0 := by kernel_rfl
theorem ex_errZ : engErr 0 exZ = 0 := by kernel_rfl
theorem ex_errW : engErr 6 exW = 0 := by kernel_rfl
theorem ex_treeF : treeOf exF = .two ⟨5, 0, 0, 0, 0, 0⟩ (.one ⟨9, 0, 0, 0, 0, 0⟩ (fT 0)) (.one ⟨4, 0, 0, 0, 0, 0⟩ (fT 0)) := by kernel_rfl
theorem ex_treeZ : treeOf exZ = .two ⟨5, 0, 0, 0, 0, 0⟩ (.two ⟨13, 0, 0, 1, 0, 0⟩ (.leaf ⟨1, 0, 0, 0, 0, 0⟩) (fT 0)) (.one ⟨4, 0, 0, 0, 0, 0⟩ (.one ⟨9, 0, 0, 0, 0, 0⟩ (fT 0))) := by kernel_rfl
theorem ex_treeW : treeOf exW = .two ⟨5, 0, 0, 0, 0, 0⟩ (fT 0) (.one ⟨4, 0, 0, 0, 0, 0⟩ (.two ⟨13, 0, 0, 1, 0, 0⟩ (fT 0) (fT 1))) := by kernel_rfl
theorem ex_chk2 : checkT 2 exF [] [] = 0 := by kernel_rfl
theorem ex_chk0 : checkT 0 exF [] [] = 13 := by kernel_rfl
theorem sat_fact {M : KM} {i : Int} {w : M.W} : M.sat (fT i) w ↔ M.V i w := by simp [fT, KM.sat]
theorem ex_x : satN 0 exF = (true, 0) := by
  have h : leftN 0 exF = true := (sat_truth (eng_ok ex_err0)).2 ⟨⟨Unit, fun _ _ _ => False, fun _ _ => False⟩, fun _ => ⟨fun h => by omega, fun h => by omega, fun h => by omega, fun h => by omega⟩, (), by
    rw [ex_treeF, sat_and, sat_know rfl, sat_not, sat_fact]
    exact ⟨fun v h => h.elim, fun h => h⟩⟩
  rw [sat_ok ex_err0, h]
theorem ex_y : satN 2 exF = (false, 0) := by
  have h : leftN 2 exF = false := by
    cases hl : leftN 2 exF
    · rfl
    · obtain ⟨M, hM, w, hw⟩ := (sat_truth (eng_ok ex_err2)).1 hl
      rw [ex_treeF, sat_and, sat_know rfl, sat_not] at hw
      exact absurd (hw.1 w ((hM 0).refl (.inl rfl) w)) hw.2
  rw [sat_ok ex_err2, h]
theorem ex_z : satN 0 exZ = (false, 0) := by
  have h : leftN 0 exZ = false := by
    cases hl : leftN 0 exZ
    · rfl
    · obtain ⟨M, hM, w, hw⟩ := (sat_truth (eng_ok ex_errZ)).1 hl
      rw [ex_treeZ, sat_and, sat_not, sat_know rfl, com_unf rfl] at hw
      refine absurd (fun v hv => ?_) hw.2
      have h1 := hw.1 0 (by decide) (by decide)
      rw [sat_unf] at h1
      exact (h1 v hv (by simp [KM.sat])).1
  rw [sat_ok ex_errZ, h]
theorem ex_w : satN 6 exW = (true, 0) := by
  have h : leftN 6 exW = true := (sat_truth (eng_ok ex_errW)).2 ⟨⟨Unit, fun _ _ _ => True, fun i _ => i = 0⟩, fun _ => ⟨fun _ _ => ⟨(), trivial⟩, fun _ _ => trivial, fun _ _ _ _ _ _ => trivial, fun _ _ _ _ _ _ => trivial⟩, (), by
    rw [ex_treeW, sat_and, sat_not, sat_fact, com_unf rfl]
    refine ⟨rfl, fun h => ?_⟩
    have h1 := h 0 (by decide) (by decide)
    rw [sat_unf] at h1
    have h2 := (h1 () trivial (by rw [sat_fact])).1
    rw [sat_fact] at h2
    exact absurd h2 (by decide)⟩
  rw [sat_ok ex_errW, h]
end Go.Proofs.YtbfeodammikajaaGreat
