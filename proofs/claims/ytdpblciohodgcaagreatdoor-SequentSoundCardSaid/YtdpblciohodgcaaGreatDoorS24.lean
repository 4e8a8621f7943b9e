/- sequent's correct: RuleD in KD. -/
import Derived.Test.YtdpblciohodgcaaGreatDoorS18
import Derived.Test.YtdpblciohodgcaaGreatDoorS13

namespace Go.Proofs.YtdpblciohodgcaaGreatDoor
open Go.RowKit

set_option maxRecDepth 100000 in
set_option maxHeartbeats 8000000 in
theorem correct_d1 {w : World} {b : Nat} {lg : Int} {base : List Nd} {steps : List Stp} {opps : List Int} (h : SChk w b lg base steps opps) (hb : baseErr base = 0) (hol : opps.length ≤ 64) (hoz : ∀ z ∈ opps, z < 64) (at_ : Nat) (hat : at_ < steps.length) (s : Nat) (ru on e : Int) (fr : List Int) (hx : steps[at_]? = some ⟨s, ru, on, e, fr⟩) (hins : insideS base s = true) (hr : ru = 7) (he : e = 0) (hlg : lg = 1) :
    Calls Tryz.prog 41 #[.pointer (some ⟨b, 0, none⟩), .int .i64 (at_ : Int)] w fun e w' => e = .returned (.bool (correctN lg base opps steps at_)) ∧ Ext w w' := by
  obtain ⟨ad, c, h1, h2, hblk, d2, hrow⟩ := h.rows (by intro e; rw [e] at hat; simp at hat)
  obtain ⟨ur, q0, q1, q2, q3, q4, ⟨Af, cf, rfl, _⟩, hset⟩ := hrow at_ _ hx
  obtain ⟨Ab, cb, As, cs, Ao, co, d0, d1, _, _, hF, _, _⟩ := h.cells
  have hlen : 1 ≤ base.length ∧ base.length ≤ 64 := ⟨by have := (check_parts (baseErr_ok hb).1).1; omega, (baseErr_ok hb).2.1⟩
  have HF := Lib.hid hF
  have H := Lib.hid h
  have HB := Lib.hid hb
  have HAT := Lib.hid hat
  have HLEN := Lib.hid hlen
  have HX := Lib.hid hx
  have HOL := Lib.hid hol
  have HOZ := Lib.hid hoz
  have hbw := h.blt
  have ha1 : (at_ : Int) < (steps.length : Int) := by omega
  have ha0 : (0 : Int) ≤ (at_ : Int) := by omega
  simp only at q0 q1 q2 q3 q4 hset
  clear h hx hrow hat hF hb hlen hol hoz
  subst hr
  have HIN := Lib.hid hins
  clear hins
  have HC := Lib.hid (show correctN lg base opps steps at_ = bif e != 0 then false else ((lg == 1 || lg == 5) && (decide (0 ≤ on) && (decide (on < 4) && premN steps at_ [carryN lg base s on]))) by unfold correctN nodeOn; simp only [getD_some HX.out, HIN.out]; rfl)
  subst he hlg
  by_cases h0 : 0 ≤ on
  · by_cases h4 : on < 4
    · have HE := Lib.hid (show correctN 1 base opps steps at_ = premN steps at_ [carryN 1 base s on] by rw [HC.out]; simp only [decide_eq_true h0, decide_eq_true h4]; rfl)
      obtain ⟨z0, z1, z2, z3, z4, zfr, zlt⟩ := cells5s (heap_alloc_new w (.cells #[.int .u64 (s : Int), .int .i64 7, .int .i64 on, .int .i64 0, .slice Af fr.length cf] 49))
      have Z0 := Lib.hid z0
      have X0 := Lib.hid ((Ext.refl w).alloc (.cells #[.int .u64 (s : Int), .int .i64 7, .int .i64 on, .int .i64 0, .slice Af fr.length cf] 49))
      have D1 := Lib.hid d1
      have ZLT := Lib.hid zlt
      have HBW := Lib.hid hbw
      have d1w := (X0.out.cell (p := ⟨b, 1, none⟩) hbw).trans d1
      have hbz : b < (w.alloc (.cells #[.int .u64 (s : Int), .int .i64 7, .int .i64 on, .int .i64 0, .slice Af fr.length cf] 49)).heap.size := Nat.lt_of_lt_of_le hbw X0.out.size
      go_enter Tryz.func41, Tryz.ntmps41
      go_wp2_with fail
      refine wp_region_held_drew (S := fun w' => w'.cell? (⟨b, 1, none⟩) = some (.slice Ab base.length cb) ∧ w'.cell? (⟨w.heap.size, 0, none⟩) = some (.int .u64 (s : Int))) (by kernel_rfl) ⟨xc hbz d1w, xc zlt z0⟩ (fun hHeld => ?_)
      refine tk 0 hHeld ?_
      refine tk 1 hHeld ?_
      refine tk 2 hHeld ?_
      refine tk 3 hHeld ?_
      refine tk 4 hHeld ?_
      refine tk 5 hHeld ?_
      refine tk 6 hHeld ?_
      refine wpAnyH_ready (rs := [7]) (by kernel_rfl) (by simp) ?_
      refine AllReadyH.cons rfl (fun K hK => ?_) AllReadyH.nil
      go_simp
      (go_at_call 46; refine (inside_eq Ab cb base s hset HLEN.out _).mono ?_; rintro e2 w2 ⟨rfl, rfl⟩; rw [HIN.out])
      go_wp2_with fail
      refine hK.out _ _ ⟨xc hbz d1w, xc zlt z0⟩ (fun hHeld => ?_)
      clear hK K
      try simp only [Act.put, List.setIfInBounds_toArray, List.set_cons_zero, List.set_cons_succ, List.getElem_toArray, List.getElem_cons_succ, List.getElem_cons_zero]
      refine tk 8 hHeld ?_
      refine wpAnyH_done (by kernel_rfl) ?_ _
      go_wp2_with fail
      refine wp_region_held_drew (S := fun w' => w'.cell? (⟨w.heap.size, 0, none⟩) = some (.int .u64 (s : Int)) ∧ w'.cell? (⟨w.heap.size, 2, none⟩) = some (.int .i64 on) ∧ w'.cell? (⟨b, 1, none⟩) = some (.slice Ab base.length cb)) (by kernel_rfl) ⟨xc zlt z0, xc zlt z2, xc hbz d1w⟩ (fun hHeld => ?_)
      refine tk 0 hHeld ?_
      refine tk 1 hHeld ?_
      refine tk 2 hHeld ?_
      refine un 3 hHeld ?_
      refine un 4 hHeld ?_
      refine tk 5 hHeld ?_
      refine tk 6 hHeld ?_
      refine tk 7 hHeld ?_
      refine tk 8 hHeld ?_
      refine tk 9 hHeld ?_
      refine tk 10 hHeld ?_
      refine tk 11 hHeld ?_
      refine tk 12 hHeld ?_
      refine tk 13 hHeld ?_
      refine tk 14 hHeld ?_
      refine tk 15 hHeld ?_
      refine tk 16 hHeld ?_
      refine tk 17 hHeld ?_
      refine tk 18 hHeld ?_
      refine tk 19 hHeld ?_
      refine tk 20 hHeld ?_
      refine tk 21 hHeld ?_
      refine tk 22 hHeld ?_
      refine tk 23 hHeld ?_
      refine tk 24 hHeld ?_
      refine tk 25 hHeld ?_
      refine tk 26 hHeld ?_
      refine tk 27 hHeld ?_
      refine tk 28 hHeld ?_
      refine wpAnyH_ready (rs := [29]) (by kernel_rfl) (by simp) ?_
      refine AllReadyH.cons rfl (fun K hK => ?_) AllReadyH.nil
      go_simp
      (go_at_call 47; refine (carry_any 1 _ base s on _ ((HF.out.ext (X0.out.trans xw)).1) HB.out hset).mono ?_; rintro e2 w4 ⟨rfl, hv⟩; have hx4 : Ext (w.alloc (.cells #[.int .u64 (s : Int), .int .i64 7, .int .i64 on, .int .i64 0, .slice Af fr.length cf] 49)) w4 := Ext.trans xw hv; clear hv)
      go_wp2_with fail
      refine hK.out _ _ ⟨xc zlt z0, xc zlt z2, xc hbz d1w⟩ (fun hHeld => ?_)
      clear hK K
      try simp only [Act.put, List.setIfInBounds_toArray, List.set_cons_zero, List.set_cons_succ, List.getElem_toArray, List.getElem_cons_succ, List.getElem_cons_zero]
      refine wpAnyH_ready (rs := [30]) (by kernel_rfl) (by simp) ?_
      refine AllReadyH.cons rfl (fun K hK => ?_) AllReadyH.nil
      go_simp
      refine hK.out _ _ ⟨xc zlt z0, xc zlt z2, xc hbz d1w⟩ (fun hHeld => ?_)
      clear hK K
      try simp only [Act.put, List.setIfInBounds_toArray, List.set_cons_zero, List.set_cons_succ, List.getElem_toArray, List.getElem_cons_succ, List.getElem_cons_zero]
      refine wpAnyH_ready (rs := [31]) (by kernel_rfl) (by simp) ?_
      refine AllReadyH.cons rfl (fun K hK => ?_) AllReadyH.nil
      go_simp
      (go_at_call 67; refine (premises_any (H.out.ext (X0.out.trans xw)) at_ HAT.out _ [carryN 1 base s on] (by exact sets_one rfl (carryN_lt HB.out) (by simp))).mono ?_; rintro e2 w5 ⟨rfl, hv⟩; have hx5 : Ext (w.alloc (.cells #[.int .u64 (s : Int), .int .i64 7, .int .i64 on, .int .i64 0, .slice Af fr.length cf] 49)) w5 := Ext.trans xw hv; clear hv)
      go_wp2_with fail
      refine hK.out _ _ ⟨xc zlt z0, xc zlt z2, xc hbz d1w⟩ (fun hHeld => ?_)
      clear hK K
      try simp only [Act.put, List.setIfInBounds_toArray, List.set_cons_zero, List.set_cons_succ, List.getElem_toArray, List.getElem_cons_succ, List.getElem_cons_zero]
      refine tk 32 hHeld ?_
      refine tk 33 hHeld ?_
      refine wpAnyH_done (by kernel_rfl) ?_ _
      go_wp2_with fail
      go_ret
      exact ⟨by rw [HE.out] <;> rfl, X0.out.trans xw⟩
    · have h4d : decide (on < 4) = false := decide_eq_false h4
      have HE := Lib.hid (show correctN 1 base opps steps at_ = false by rw [HC.out]; simp only [decide_eq_true h0, h4d]; rfl)
      obtain ⟨z0, z1, z2, z3, z4, zfr, zlt⟩ := cells5s (heap_alloc_new w (.cells #[.int .u64 (s : Int), .int .i64 7, .int .i64 on, .int .i64 0, .slice Af fr.length cf] 49))
      have Z0 := Lib.hid z0
      have X0 := Lib.hid ((Ext.refl w).alloc (.cells #[.int .u64 (s : Int), .int .i64 7, .int .i64 on, .int .i64 0, .slice Af fr.length cf] 49))
      have D1 := Lib.hid d1
      have ZLT := Lib.hid zlt
      have HBW := Lib.hid hbw
      have d1w := (X0.out.cell (p := ⟨b, 1, none⟩) hbw).trans d1
      have hbz : b < (w.alloc (.cells #[.int .u64 (s : Int), .int .i64 7, .int .i64 on, .int .i64 0, .slice Af fr.length cf] 49)).heap.size := Nat.lt_of_lt_of_le hbw X0.out.size
      go_enter Tryz.func41, Tryz.ntmps41
      go_wp2_with fail
      refine wp_region_held_drew (S := fun w' => w'.cell? (⟨b, 1, none⟩) = some (.slice Ab base.length cb) ∧ w'.cell? (⟨w.heap.size, 0, none⟩) = some (.int .u64 (s : Int))) (by kernel_rfl) ⟨xc hbz d1w, xc zlt z0⟩ (fun hHeld => ?_)
      refine tk 0 hHeld ?_
      refine tk 1 hHeld ?_
      refine tk 2 hHeld ?_
      refine tk 3 hHeld ?_
      refine tk 4 hHeld ?_
      refine tk 5 hHeld ?_
      refine tk 6 hHeld ?_
      refine wpAnyH_ready (rs := [7]) (by kernel_rfl) (by simp) ?_
      refine AllReadyH.cons rfl (fun K hK => ?_) AllReadyH.nil
      go_simp
      (go_at_call 46; refine (inside_eq Ab cb base s hset HLEN.out _).mono ?_; rintro e2 w2 ⟨rfl, rfl⟩; rw [HIN.out])
      go_wp2_with fail
      refine hK.out _ _ ⟨xc hbz d1w, xc zlt z0⟩ (fun hHeld => ?_)
      clear hK K
      try simp only [Act.put, List.setIfInBounds_toArray, List.set_cons_zero, List.set_cons_succ, List.getElem_toArray, List.getElem_cons_succ, List.getElem_cons_zero]
      refine tk 8 hHeld ?_
      refine wpAnyH_done (by kernel_rfl) ?_ _
      go_wp2_with fail
      refine wp_region_held_drew (S := fun w' => w'.cell? (⟨w.heap.size, 0, none⟩) = some (.int .u64 (s : Int)) ∧ w'.cell? (⟨w.heap.size, 2, none⟩) = some (.int .i64 on) ∧ w'.cell? (⟨b, 1, none⟩) = some (.slice Ab base.length cb)) (by kernel_rfl) ⟨xc zlt z0, xc zlt z2, xc hbz d1w⟩ (fun hHeld => ?_)
      refine tk 0 hHeld ?_
      refine tk 1 hHeld ?_
      refine tk 2 hHeld ?_
      refine un 3 hHeld ?_
      refine un 4 hHeld ?_
      refine tk 5 hHeld ?_
      refine tk 6 hHeld ?_
      refine tk 7 hHeld ?_
      refine tk 8 hHeld ?_
      refine tk 9 hHeld ?_
      refine tk 10 hHeld ?_
      refine tk 11 hHeld ?_
      refine tk 12 hHeld ?_
      refine tk 13 hHeld ?_
      refine tk 14 hHeld ?_
      refine tk 15 hHeld ?_
      refine tk 16 hHeld ?_
      refine un 17 hHeld ?_
      refine un 18 hHeld ?_
      refine un 19 hHeld ?_
      refine un 20 hHeld ?_
      refine un 21 hHeld ?_
      refine un 22 hHeld ?_
      refine un 23 hHeld ?_
      refine un 24 hHeld ?_
      refine un 25 hHeld ?_
      refine un 26 hHeld ?_
      refine un 27 hHeld ?_
      refine un 28 hHeld ?_
      refine un 29 hHeld ?_
      refine un 30 hHeld ?_
      refine un 31 hHeld ?_
      refine tk 32 hHeld ?_
      refine tk 33 hHeld ?_
      refine wpAnyH_done (by kernel_rfl) ?_ _
      go_wp2_with fail
      go_ret
      exact ⟨by rw [HE.out] <;> rfl, X0.out.trans xw⟩
  · have h0d : decide (0 ≤ on) = false := decide_eq_false h0
    have HE := Lib.hid (show correctN 1 base opps steps at_ = false by rw [HC.out]; simp only [h0d]; rfl)
    obtain ⟨z0, z1, z2, z3, z4, zfr, zlt⟩ := cells5s (heap_alloc_new w (.cells #[.int .u64 (s : Int), .int .i64 7, .int .i64 on, .int .i64 0, .slice Af fr.length cf] 49))
    have Z0 := Lib.hid z0
    have X0 := Lib.hid ((Ext.refl w).alloc (.cells #[.int .u64 (s : Int), .int .i64 7, .int .i64 on, .int .i64 0, .slice Af fr.length cf] 49))
    have D1 := Lib.hid d1
    have ZLT := Lib.hid zlt
    have HBW := Lib.hid hbw
    have d1w := (X0.out.cell (p := ⟨b, 1, none⟩) hbw).trans d1
    have hbz : b < (w.alloc (.cells #[.int .u64 (s : Int), .int .i64 7, .int .i64 on, .int .i64 0, .slice Af fr.length cf] 49)).heap.size := Nat.lt_of_lt_of_le hbw X0.out.size
    go_enter Tryz.func41, Tryz.ntmps41
    go_wp2_with fail
    refine wp_region_held_drew (S := fun w' => w'.cell? (⟨b, 1, none⟩) = some (.slice Ab base.length cb) ∧ w'.cell? (⟨w.heap.size, 0, none⟩) = some (.int .u64 (s : Int))) (by kernel_rfl) ⟨xc hbz d1w, xc zlt z0⟩ (fun hHeld => ?_)
    refine tk 0 hHeld ?_
    refine tk 1 hHeld ?_
    refine tk 2 hHeld ?_
    refine tk 3 hHeld ?_
    refine tk 4 hHeld ?_
    refine tk 5 hHeld ?_
    refine tk 6 hHeld ?_
    refine wpAnyH_ready (rs := [7]) (by kernel_rfl) (by simp) ?_
    refine AllReadyH.cons rfl (fun K hK => ?_) AllReadyH.nil
    go_simp
    (go_at_call 46; refine (inside_eq Ab cb base s hset HLEN.out _).mono ?_; rintro e2 w2 ⟨rfl, rfl⟩; rw [HIN.out])
    go_wp2_with fail
    refine hK.out _ _ ⟨xc hbz d1w, xc zlt z0⟩ (fun hHeld => ?_)
    clear hK K
    try simp only [Act.put, List.setIfInBounds_toArray, List.set_cons_zero, List.set_cons_succ, List.getElem_toArray, List.getElem_cons_succ, List.getElem_cons_zero]
    refine tk 8 hHeld ?_
    refine wpAnyH_done (by kernel_rfl) ?_ _
    go_wp2_with fail
    refine wp_region_held_drew (S := fun w' => w'.cell? (⟨w.heap.size, 0, none⟩) = some (.int .u64 (s : Int)) ∧ w'.cell? (⟨w.heap.size, 2, none⟩) = some (.int .i64 on) ∧ w'.cell? (⟨b, 1, none⟩) = some (.slice Ab base.length cb)) (by kernel_rfl) ⟨xc zlt z0, xc zlt z2, xc hbz d1w⟩ (fun hHeld => ?_)
    refine tk 0 hHeld ?_
    refine tk 1 hHeld ?_
    refine tk 2 hHeld ?_
    refine un 3 hHeld ?_
    refine un 4 hHeld ?_
    refine tk 5 hHeld ?_
    refine tk 6 hHeld ?_
    refine tk 7 hHeld ?_
    refine tk 8 hHeld ?_
    refine tk 9 hHeld ?_
    refine tk 10 hHeld ?_
    refine tk 11 hHeld ?_
    refine un 12 hHeld ?_
    refine un 13 hHeld ?_
    refine un 14 hHeld ?_
    refine tk 15 hHeld ?_
    refine tk 16 hHeld ?_
    refine un 17 hHeld ?_
    refine un 18 hHeld ?_
    refine un 19 hHeld ?_
    refine un 20 hHeld ?_
    refine un 21 hHeld ?_
    refine un 22 hHeld ?_
    refine un 23 hHeld ?_
    refine un 24 hHeld ?_
    refine un 25 hHeld ?_
    refine un 26 hHeld ?_
    refine un 27 hHeld ?_
    refine un 28 hHeld ?_
    refine un 29 hHeld ?_
    refine un 30 hHeld ?_
    refine un 31 hHeld ?_
    refine tk 32 hHeld ?_
    refine tk 33 hHeld ?_
    refine wpAnyH_done (by kernel_rfl) ?_ _
    go_wp2_with fail
    go_ret
    exact ⟨by rw [HE.out] <;> rfl, X0.out.trans xw⟩
end Go.Proofs.YtdpblciohodgcaaGreatDoor
