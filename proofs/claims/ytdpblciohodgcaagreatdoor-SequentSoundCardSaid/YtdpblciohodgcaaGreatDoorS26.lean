/- sequent's correct: RuleD elsewhere, and no rule. -/
import Derived.Test.YtdpblciohodgcaaGreatDoorS18
import Derived.Test.YtdpblciohodgcaaGreatDoorS13

namespace Go.Proofs.YtdpblciohodgcaaGreatDoor
open Go.RowKit

set_option maxRecDepth 100000 in
set_option maxHeartbeats 8000000 in
theorem correct_d0 {w : World} {b : Nat} {lg : Int} {base : List Nd} {steps : List Stp} {opps : List Int} (h : SChk w b lg base steps opps) (hb : baseErr base = 0) (hol : opps.length ≤ 64) (hoz : ∀ z ∈ opps, z < 64) (at_ : Nat) (hat : at_ < steps.length) (s : Nat) (ru on e : Int) (fr : List Int) (hx : steps[at_]? = some ⟨s, ru, on, e, fr⟩) (hins : insideS base s = true) (hr : ru = 7) (he : e = 0) (hlg : ¬ (lg = 1 ∨ lg = 5)) :
    Calls Tryz.prog 41 #[.pointer (some ⟨b, 0, none⟩), .int .i64 (at_ : Int)] w fun e w' => e = .returned (.bool (correctN lg base opps steps at_)) ∧ Ext w w' := by
  obtain ⟨ad, c, h1, h2, hblk, d2, hrow⟩ := h.rows (by intro e; rw [e] at hat; simp at hat)
  obtain ⟨ur, q0, q1, q2, q3, q4, ⟨Af, cf, rfl, _⟩, hset⟩ := hrow at_ _ hx
  obtain ⟨Ab, cb, As, cs, Ao, co, d0, d1, _, _, hF, _, _⟩ := h.cells
  have hlen : 1 ≤ base.length ∧ base.length ≤ 64 := ⟨by have := (check_parts (baseErr_ok hb).1).1; omega, (baseErr_ok hb).2.1⟩
  have HF := Lib.hid hF
  have H := Lib.hid h
  have HB := Lib.hid hb
  have HAT := Lib.hid hat
  have HLEN := Lib.hid hlen
  have HX := Lib.hid hx
  have HOL := Lib.hid hol
  have HOZ := Lib.hid hoz
  have hbw := h.blt
  have ha1 : (at_ : Int) < (steps.length : Int) := by omega
  have ha0 : (0 : Int) ≤ (at_ : Int) := by omega
  simp only at q0 q1 q2 q3 q4 hset
  clear h hx hrow hat hF hb hlen hol hoz
  subst hr
  have HIN := Lib.hid hins
  clear hins
  have HC := Lib.hid (show correctN lg base opps steps at_ = bif e != 0 then false else ((lg == 1 || lg == 5) && (decide (0 ≤ on) && (decide (on < 4) && premN steps at_ [carryN lg base s on]))) by unfold correctN nodeOn; simp only [getD_some HX.out, HIN.out]; rfl)
  subst he
  have b1 : (lg == 1) = false := by rw [beq_eq_false_iff_ne]; omega
  have b5 : (lg == 5) = false := by clear b1; rw [beq_eq_false_iff_ne]; omega
  have HE := Lib.hid (show correctN lg base opps steps at_ = false by rw [HC.out]; simp only [b1, b5]; rfl)
  clear hlg
  obtain ⟨z0, z1, z2, z3, z4, zfr, zlt⟩ := cells5s (heap_alloc_new w (.cells #[.int .u64 (s : Int), .int .i64 7, .int .i64 on, .int .i64 0, .slice Af fr.length cf] 49))
  have Z0 := Lib.hid z0
  have X0 := Lib.hid ((Ext.refl w).alloc (.cells #[.int .u64 (s : Int), .int .i64 7, .int .i64 on, .int .i64 0, .slice Af fr.length cf] 49))
  have D1 := Lib.hid d1
  have ZLT := Lib.hid zlt
  have HBW := Lib.hid hbw
  have d1w := (X0.out.cell (p := ⟨b, 1, none⟩) hbw).trans d1
  have hbz : b < (w.alloc (.cells #[.int .u64 (s : Int), .int .i64 7, .int .i64 on, .int .i64 0, .slice Af fr.length cf] 49)).heap.size := Nat.lt_of_lt_of_le hbw X0.out.size
  go_enter Tryz.func41, Tryz.ntmps41
  go_wp2_with fail
  refine wp_region_held_drew (S := fun w' => w'.cell? (⟨b, 1, none⟩) = some (.slice Ab base.length cb) ∧ w'.cell? (⟨w.heap.size, 0, none⟩) = some (.int .u64 (s : Int))) (by kernel_rfl) ⟨xc hbz d1w, xc zlt z0⟩ (fun hHeld => ?_)
  refine tk 0 hHeld ?_
  refine tk 1 hHeld ?_
  refine tk 2 hHeld ?_
  refine tk 3 hHeld ?_
  refine tk 4 hHeld ?_
  refine tk 5 hHeld ?_
  refine tk 6 hHeld ?_
  refine wpAnyH_ready (rs := [7]) (by kernel_rfl) (by simp) ?_
  refine AllReadyH.cons rfl (fun K hK => ?_) AllReadyH.nil
  go_simp
  (go_at_call 46; refine (inside_eq Ab cb base s hset HLEN.out _).mono ?_; rintro e2 w2 ⟨rfl, rfl⟩; rw [HIN.out])
  go_wp2_with fail
  refine hK.out _ _ ⟨xc hbz d1w, xc zlt z0⟩ (fun hHeld => ?_)
  clear hK K
  try simp only [Act.put, List.setIfInBounds_toArray, List.set_cons_zero, List.set_cons_succ, List.getElem_toArray, List.getElem_cons_succ, List.getElem_cons_zero]
  refine tk 8 hHeld ?_
  refine wpAnyH_done (by kernel_rfl) ?_ _
  go_wp2_with fail
  refine wp_region_held_drew (S := fun w' => w'.cell? (⟨w.heap.size, 0, none⟩) = some (.int .u64 (s : Int)) ∧ w'.cell? (⟨w.heap.size, 2, none⟩) = some (.int .i64 on) ∧ w'.cell? (⟨b, 1, none⟩) = some (.slice Ab base.length cb)) (by kernel_rfl) ⟨xc zlt z0, xc zlt z2, xc hbz d1w⟩ (fun hHeld => ?_)
  refine tk 0 hHeld ?_
  refine tk 1 hHeld ?_
  refine tk 2 hHeld ?_
  refine tk 3 hHeld ?_
  refine tk 4 hHeld ?_
  refine tk 5 hHeld ?_
  refine tk 6 hHeld ?_
  refine un 7 hHeld ?_
  refine un 8 hHeld ?_
  refine un 9 hHeld ?_
  refine tk 10 hHeld ?_
  refine tk 11 hHeld ?_
  refine un 12 hHeld ?_
  refine un 13 hHeld ?_
  refine un 14 hHeld ?_
  refine tk 15 hHeld ?_
  refine tk 16 hHeld ?_
  refine un 17 hHeld ?_
  refine un 18 hHeld ?_
  refine un 19 hHeld ?_
  refine un 20 hHeld ?_
  refine un 21 hHeld ?_
  refine un 22 hHeld ?_
  refine un 23 hHeld ?_
  refine un 24 hHeld ?_
  refine un 25 hHeld ?_
  refine un 26 hHeld ?_
  refine un 27 hHeld ?_
  refine un 28 hHeld ?_
  refine un 29 hHeld ?_
  refine un 30 hHeld ?_
  refine un 31 hHeld ?_
  refine tk 32 hHeld ?_
  refine tk 33 hHeld ?_
  refine wpAnyH_done (by kernel_rfl) ?_ _
  go_wp2_with fail
  go_ret
  exact ⟨by rw [HE.out] <;> rfl, X0.out.trans xw⟩

set_option maxRecDepth 100000 in
set_option maxHeartbeats 8000000 in
theorem correct_de {w : World} {b : Nat} {lg : Int} {base : List Nd} {steps : List Stp} {opps : List Int} (h : SChk w b lg base steps opps) (hb : baseErr base = 0) (hol : opps.length ≤ 64) (hoz : ∀ z ∈ opps, z < 64) (at_ : Nat) (hat : at_ < steps.length) (s : Nat) (ru on e : Int) (fr : List Int) (hx : steps[at_]? = some ⟨s, ru, on, e, fr⟩) (hins : insideS base s = true) (hr : ru = 7) (he : e ≠ 0) :
    Calls Tryz.prog 41 #[.pointer (some ⟨b, 0, none⟩), .int .i64 (at_ : Int)] w fun e w' => e = .returned (.bool (correctN lg base opps steps at_)) ∧ Ext w w' := by
  obtain ⟨ad, c, h1, h2, hblk, d2, hrow⟩ := h.rows (by intro e; rw [e] at hat; simp at hat)
  obtain ⟨ur, q0, q1, q2, q3, q4, ⟨Af, cf, rfl, _⟩, hset⟩ := hrow at_ _ hx
  obtain ⟨Ab, cb, As, cs, Ao, co, d0, d1, _, _, hF, _, _⟩ := h.cells
  have hlen : 1 ≤ base.length ∧ base.length ≤ 64 := ⟨by have := (check_parts (baseErr_ok hb).1).1; omega, (baseErr_ok hb).2.1⟩
  have HF := Lib.hid hF
  have H := Lib.hid h
  have HB := Lib.hid hb
  have HAT := Lib.hid hat
  have HLEN := Lib.hid hlen
  have HX := Lib.hid hx
  have HOL := Lib.hid hol
  have HOZ := Lib.hid hoz
  have hbw := h.blt
  have ha1 : (at_ : Int) < (steps.length : Int) := by omega
  have ha0 : (0 : Int) ≤ (at_ : Int) := by omega
  simp only at q0 q1 q2 q3 q4 hset
  clear h hx hrow hat hF hb hlen hol hoz
  subst hr
  have HIN := Lib.hid hins
  clear hins
  have HC := Lib.hid (show correctN lg base opps steps at_ = bif e != 0 then false else ((lg == 1 || lg == 5) && (decide (0 ≤ on) && (decide (on < 4) && premN steps at_ [carryN lg base s on]))) by unfold correctN nodeOn; simp only [getD_some HX.out, HIN.out]; rfl)
  have he1 : (e != 0) = true := by simpa using he
  have he2 : (e == 0) = false := by simpa using he
  clear he
  obtain ⟨z0, z1, z2, z3, z4, zfr, zlt⟩ := cells5s (heap_alloc_new w (.cells #[.int .u64 (s : Int), .int .i64 7, .int .i64 on, .int .i64 e, .slice Af fr.length cf] 49))
  have Z0 := Lib.hid z0
  have X0 := Lib.hid ((Ext.refl w).alloc (.cells #[.int .u64 (s : Int), .int .i64 7, .int .i64 on, .int .i64 e, .slice Af fr.length cf] 49))
  have D1 := Lib.hid d1
  have ZLT := Lib.hid zlt
  have HBW := Lib.hid hbw
  have d1w := (X0.out.cell (p := ⟨b, 1, none⟩) hbw).trans d1
  have hbz : b < (w.alloc (.cells #[.int .u64 (s : Int), .int .i64 7, .int .i64 on, .int .i64 e, .slice Af fr.length cf] 49)).heap.size := Nat.lt_of_lt_of_le hbw X0.out.size
  go_enter Tryz.func41, Tryz.ntmps41
  go_wp2_with fail
  refine wp_region_held_drew (S := fun w' => w'.cell? (⟨b, 1, none⟩) = some (.slice Ab base.length cb) ∧ w'.cell? (⟨w.heap.size, 0, none⟩) = some (.int .u64 (s : Int))) (by kernel_rfl) ⟨xc hbz d1w, xc zlt z0⟩ (fun hHeld => ?_)
  refine tk 0 hHeld ?_
  refine tk 1 hHeld ?_
  refine tk 2 hHeld ?_
  refine tk 3 hHeld ?_
  refine tk 4 hHeld ?_
  refine tk 5 hHeld ?_
  refine tk 6 hHeld ?_
  refine wpAnyH_ready (rs := [7]) (by kernel_rfl) (by simp) ?_
  refine AllReadyH.cons rfl (fun K hK => ?_) AllReadyH.nil
  go_simp
  (go_at_call 46; refine (inside_eq Ab cb base s hset HLEN.out _).mono ?_; rintro e2 w2 ⟨rfl, rfl⟩; rw [HIN.out])
  go_wp2_with fail
  refine hK.out _ _ ⟨xc hbz d1w, xc zlt z0⟩ (fun hHeld => ?_)
  clear hK K
  try simp only [Act.put, List.setIfInBounds_toArray, List.set_cons_zero, List.set_cons_succ, List.getElem_toArray, List.getElem_cons_succ, List.getElem_cons_zero]
  refine tk 8 hHeld ?_
  refine wpAnyH_done (by kernel_rfl) ?_ _
  go_wp2_with fail
  have HE := Lib.hid (show correctN lg base opps steps at_ = false by rw [HC.out]; simp only [he1]; rfl)
  go_ret
  exact ⟨by rw [HE.out] <;> rfl, (X0.out.trans xw)⟩

set_option maxRecDepth 100000 in
set_option maxHeartbeats 8000000 in
theorem correct_none {w : World} {b : Nat} {lg : Int} {base : List Nd} {steps : List Stp} {opps : List Int} (h : SChk w b lg base steps opps) (hb : baseErr base = 0) (hol : opps.length ≤ 64) (hoz : ∀ z ∈ opps, z < 64) (at_ : Nat) (hat : at_ < steps.length) (s : Nat) (ru on e : Int) (fr : List Int) (hx : steps[at_]? = some ⟨s, ru, on, e, fr⟩) (hins : insideS base s = true) (hr : ¬ (ru = 1 ∨ ru = 2 ∨ ru = 3 ∨ ru = 4 ∨ ru = 5 ∨ ru = 6 ∨ ru = 7)) :
    Calls Tryz.prog 41 #[.pointer (some ⟨b, 0, none⟩), .int .i64 (at_ : Int)] w fun e w' => e = .returned (.bool (correctN lg base opps steps at_)) ∧ Ext w w' := by
  obtain ⟨ad, c, h1, h2, hblk, d2, hrow⟩ := h.rows (by intro e; rw [e] at hat; simp at hat)
  obtain ⟨ur, q0, q1, q2, q3, q4, ⟨Af, cf, rfl, _⟩, hset⟩ := hrow at_ _ hx
  obtain ⟨Ab, cb, As, cs, Ao, co, d0, d1, _, _, hF, _, _⟩ := h.cells
  have hlen : 1 ≤ base.length ∧ base.length ≤ 64 := ⟨by have := (check_parts (baseErr_ok hb).1).1; omega, (baseErr_ok hb).2.1⟩
  have HF := Lib.hid hF
  have H := Lib.hid h
  have HB := Lib.hid hb
  have HAT := Lib.hid hat
  have HLEN := Lib.hid hlen
  have HX := Lib.hid hx
  have HOL := Lib.hid hol
  have HOZ := Lib.hid hoz
  have hbw := h.blt
  have ha1 : (at_ : Int) < (steps.length : Int) := by omega
  have ha0 : (0 : Int) ≤ (at_ : Int) := by omega
  simp only at q0 q1 q2 q3 q4 hset
  clear h hx hrow hat hF hb hlen hol hoz
  have HIN := Lib.hid hins
  clear hins
  have r1 : (ru == 1) = false := by rw [beq_eq_false_iff_ne]; omega
  have r2 : (ru == 2) = false := by clear r1; rw [beq_eq_false_iff_ne]; omega
  have r3 : (ru == 3) = false := by clear r1 r2; rw [beq_eq_false_iff_ne]; omega
  have r4 : (ru == 4) = false := by clear r1 r2 r3; rw [beq_eq_false_iff_ne]; omega
  have r5 : (ru == 5) = false := by clear r1 r2 r3 r4; rw [beq_eq_false_iff_ne]; omega
  have r6 : (ru == 6) = false := by clear r1 r2 r3 r4 r5; rw [beq_eq_false_iff_ne]; omega
  have r7 : (ru == 7) = false := by clear r1 r2 r3 r4 r5 r6; rw [beq_eq_false_iff_ne]; omega
  clear hr
  have HE := Lib.hid (show correctN lg base opps steps at_ = false by unfold correctN; simp only [getD_some HX.out, HIN.out, r1, r2, r3, r4, r5, r6, r7]; cases e != 0 <;> rfl)
  cases he : e == 0
  · skip
    have he2 : (e != 0) = true := by rw [bne, he]; rfl
    obtain ⟨z0, z1, z2, z3, z4, zfr, zlt⟩ := cells5s (heap_alloc_new w (.cells #[.int .u64 (s : Int), .int .i64 ru, .int .i64 on, .int .i64 e, .slice Af fr.length cf] 49))
    have Z0 := Lib.hid z0
    have X0 := Lib.hid ((Ext.refl w).alloc (.cells #[.int .u64 (s : Int), .int .i64 ru, .int .i64 on, .int .i64 e, .slice Af fr.length cf] 49))
    have D1 := Lib.hid d1
    have ZLT := Lib.hid zlt
    have HBW := Lib.hid hbw
    have d1w := (X0.out.cell (p := ⟨b, 1, none⟩) hbw).trans d1
    have hbz : b < (w.alloc (.cells #[.int .u64 (s : Int), .int .i64 ru, .int .i64 on, .int .i64 e, .slice Af fr.length cf] 49)).heap.size := Nat.lt_of_lt_of_le hbw X0.out.size
    go_enter Tryz.func41, Tryz.ntmps41
    go_wp2_with fail
    refine wp_region_held_drew (S := fun w' => w'.cell? (⟨b, 1, none⟩) = some (.slice Ab base.length cb) ∧ w'.cell? (⟨w.heap.size, 0, none⟩) = some (.int .u64 (s : Int))) (by kernel_rfl) ⟨xc hbz d1w, xc zlt z0⟩ (fun hHeld => ?_)
    refine tk 0 hHeld ?_
    refine tk 1 hHeld ?_
    refine tk 2 hHeld ?_
    refine tk 3 hHeld ?_
    refine tk 4 hHeld ?_
    refine tk 5 hHeld ?_
    refine tk 6 hHeld ?_
    refine wpAnyH_ready (rs := [7]) (by kernel_rfl) (by simp) ?_
    refine AllReadyH.cons rfl (fun K hK => ?_) AllReadyH.nil
    go_simp
    (go_at_call 46; refine (inside_eq Ab cb base s hset HLEN.out _).mono ?_; rintro e2 w2 ⟨rfl, rfl⟩; rw [HIN.out])
    go_wp2_with fail
    refine hK.out _ _ ⟨xc hbz d1w, xc zlt z0⟩ (fun hHeld => ?_)
    clear hK K
    try simp only [Act.put, List.setIfInBounds_toArray, List.set_cons_zero, List.set_cons_succ, List.getElem_toArray, List.getElem_cons_succ, List.getElem_cons_zero]
    refine tk 8 hHeld ?_
    refine wpAnyH_done (by kernel_rfl) ?_ _
    go_wp2_with fail
    go_ret
    exact ⟨by rw [HE.out] <;> rfl, X0.out.trans xw⟩
  · skip
    have he2 : (e != 0) = false := by rw [bne, he]; rfl
    obtain ⟨z0, z1, z2, z3, z4, zfr, zlt⟩ := cells5s (heap_alloc_new w (.cells #[.int .u64 (s : Int), .int .i64 ru, .int .i64 on, .int .i64 e, .slice Af fr.length cf] 49))
    have Z0 := Lib.hid z0
    have X0 := Lib.hid ((Ext.refl w).alloc (.cells #[.int .u64 (s : Int), .int .i64 ru, .int .i64 on, .int .i64 e, .slice Af fr.length cf] 49))
    have D1 := Lib.hid d1
    have ZLT := Lib.hid zlt
    have HBW := Lib.hid hbw
    have d1w := (X0.out.cell (p := ⟨b, 1, none⟩) hbw).trans d1
    have hbz : b < (w.alloc (.cells #[.int .u64 (s : Int), .int .i64 ru, .int .i64 on, .int .i64 e, .slice Af fr.length cf] 49)).heap.size := Nat.lt_of_lt_of_le hbw X0.out.size
    go_enter Tryz.func41, Tryz.ntmps41
    go_wp2_with fail
    refine wp_region_held_drew (S := fun w' => w'.cell? (⟨b, 1, none⟩) = some (.slice Ab base.length cb) ∧ w'.cell? (⟨w.heap.size, 0, none⟩) = some (.int .u64 (s : Int))) (by kernel_rfl) ⟨xc hbz d1w, xc zlt z0⟩ (fun hHeld => ?_)
    refine tk 0 hHeld ?_
    refine tk 1 hHeld ?_
    refine tk 2 hHeld ?_
    refine tk 3 hHeld ?_
    refine tk 4 hHeld ?_
    refine tk 5 hHeld ?_
    refine tk 6 hHeld ?_
    refine wpAnyH_ready (rs := [7]) (by kernel_rfl) (by simp) ?_
    refine AllReadyH.cons rfl (fun K hK => ?_) AllReadyH.nil
    go_simp
    (go_at_call 46; refine (inside_eq Ab cb base s hset HLEN.out _).mono ?_; rintro e2 w2 ⟨rfl, rfl⟩; rw [HIN.out])
    go_wp2_with fail
    refine hK.out _ _ ⟨xc hbz d1w, xc zlt z0⟩ (fun hHeld => ?_)
    clear hK K
    try simp only [Act.put, List.setIfInBounds_toArray, List.set_cons_zero, List.set_cons_succ, List.getElem_toArray, List.getElem_cons_succ, List.getElem_cons_zero]
    refine tk 8 hHeld ?_
    refine wpAnyH_done (by kernel_rfl) ?_ _
    go_wp2_with fail
    go_ret
    exact ⟨by rw [HE.out] <;> rfl, X0.out.trans xw⟩
end Go.Proofs.YtdpblciohodgcaaGreatDoor
