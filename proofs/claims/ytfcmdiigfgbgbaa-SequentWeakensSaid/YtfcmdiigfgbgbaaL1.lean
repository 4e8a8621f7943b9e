/- sequent's correct: sets that are not within the base, RuleClose, RuleCut. -/
import Derived.Test.YtfcmdiigfgbgbaaGH

namespace Go.Proofs.Ytfcmdiigfgbgbaa
open Go.RowKit

set_option maxRecDepth 100000 in
set_option maxHeartbeats 8000000 in
theorem correct_out {w : World} {b : Nat} {lg : Int} {base : List Nd} {steps : List Stp} {opps : List Int} (h : SChk w b lg base steps opps) (hb : baseErr base = 0) (hol : opps.length ≤ 64) (hoz : ∀ z ∈ opps, z < 64) (at_ : Nat) (hat : at_ < steps.length) (s : Nat) (ru on e : Int) (fr : List Int) (hx : steps[at_]? = some ⟨s, ru, on, e, fr⟩) (hins : insideS base s = false) :
    Calls Try.prog 26 #[.pointer (some ⟨b, 0, none⟩), .int .i64 (at_ : Int)] w fun e w' => e = .returned (.bool (correctN lg base opps steps at_)) ∧ Ext w w' := by
  obtain ⟨ad, c, h1, h2, hblk, d2, hrow⟩ := h.rows (by intro e; rw [e] at hat; simp at hat)
  obtain ⟨ur, q0, q1, q2, q3, q4, ⟨Af, cf, rfl, _⟩, hset⟩ := hrow at_ _ hx
  obtain ⟨Ab, cb, As, cs, Ao, co, d0, d1, _, _, hF, _, _⟩ := h.cells
  have hlen : 1 ≤ base.length ∧ base.length ≤ 64 := ⟨by have := (check_parts (baseErr_ok hb).1).1; omega, (baseErr_ok hb).2.1⟩
  have HF := Lib.hid hF
  have H := Lib.hid h
  have HB := Lib.hid hb
  have HAT := Lib.hid hat
  have HLEN := Lib.hid hlen
  have HX := Lib.hid hx
  have HOL := Lib.hid hol
  have HOZ := Lib.hid hoz
  have hbw := h.blt
  have ha1 : (at_ : Int) < (steps.length : Int) := by omega
  have ha0 : (0 : Int) ≤ (at_ : Int) := by omega
  simp only at q0 q1 q2 q3 q4 hset
  clear h hx hrow hat hF hb hlen hol hoz
  have HIN := Lib.hid hins
  clear hins
  obtain ⟨z0, z1, z2, z3, z4, zfr, zlt⟩ := cells5s (heap_alloc_new w (.cells #[.int .u64 (s : Int), .int .i64 ru, .int .i64 on, .int .i64 e, .slice Af fr.length cf] 34))
  have Z0 := Lib.hid z0
  have X0 := Lib.hid ((Ext.refl w).alloc (.cells #[.int .u64 (s : Int), .int .i64 ru, .int .i64 on, .int .i64 e, .slice Af fr.length cf] 34))
  have D1 := Lib.hid d1
  have ZLT := Lib.hid zlt
  have HBW := Lib.hid hbw
  have d1w := (X0.out.cell (p := ⟨b, 1, none⟩) hbw).trans d1
  have hbz : b < (w.alloc (.cells #[.int .u64 (s : Int), .int .i64 ru, .int .i64 on, .int .i64 e, .slice Af fr.length cf] 34)).heap.size := Nat.lt_of_lt_of_le hbw X0.out.size
  have HC := Lib.hid (show correctN lg base opps steps at_ = false by unfold correctN; simp only [getD_some HX.out, HIN.out]; rfl)
  go_enter Try.func26, Try.ntmps26
  go_wp2_with fail
  refine wp_region_held_drew (S := fun w' => w'.cell? (⟨b, 1, none⟩) = some (.slice Ab base.length cb) ∧ w'.cell? (⟨w.heap.size, 0, none⟩) = some (.int .u64 (s : Int))) (by kernel_rfl) ⟨(Ext.cell (p := ⟨b, 1, none⟩) (by repeat (first | exact Ext.refl _ | assumption | apply Ext.alloc | apply Ext.drew)) hbz).trans d1w, (Ext.cell (p := ⟨w.heap.size, 0, none⟩) (by repeat (first | exact Ext.refl _ | assumption | apply Ext.alloc | apply Ext.drew)) zlt).trans z0⟩ (fun hHeld => ?_)
  refine' wpAnyH_take (i := 0) (v := _) rfl (by kernel_rfl) (by kernel_rfl) (by kernel_rfl) (fun _ _ _ h => h) (Or.inl ⟨by rfl, ?hyb0⟩) hHeld ?restb0
  case hyb0 => (intro w' hSw; (try dsimp only at hSw); go_simp; (try with_reducible rfl))
  try simp only [Act.put, List.setIfInBounds_toArray, List.set_cons_zero, List.set_cons_succ, List.getElem_toArray, List.getElem_cons_zero]
  refine' wpAnyH_take (i := 1) (v := _) rfl (by kernel_rfl) (by kernel_rfl) (by kernel_rfl) (fun _ _ _ h => h) (Or.inl ⟨by rfl, ?hyb1⟩) hHeld ?restb1
  case hyb1 => (intro w' hSw; (try dsimp only at hSw); go_simp; (try with_reducible rfl))
  try simp only [Act.put, List.setIfInBounds_toArray, List.set_cons_zero, List.set_cons_succ, List.getElem_toArray, List.getElem_cons_succ, List.getElem_cons_zero]
  refine' wpAnyH_take (i := 2) (v := _) rfl (by kernel_rfl) (by kernel_rfl) (by kernel_rfl) (fun _ _ _ h => h) (Or.inl ⟨by rfl, ?hyb2⟩) hHeld ?restb2
  case hyb2 => (intro w' hSw; (try dsimp only at hSw); go_simp; (try with_reducible rfl))
  try simp only [Act.put, List.setIfInBounds_toArray, List.set_cons_zero, List.set_cons_succ, List.getElem_toArray, List.getElem_cons_succ, List.getElem_cons_zero]
  refine' wpAnyH_take (i := 3) (v := _) rfl (by kernel_rfl) (by kernel_rfl) (by kernel_rfl) (fun _ _ _ h => h) (Or.inl ⟨by rfl, ?hyb3⟩) hHeld ?restb3
  case hyb3 => (intro w' hSw; (try dsimp only at hSw); go_simp; (try with_reducible rfl))
  try simp only [Act.put, List.setIfInBounds_toArray, List.set_cons_zero, List.set_cons_succ, List.getElem_toArray, List.getElem_cons_succ, List.getElem_cons_zero]
  refine' wpAnyH_take (i := 4) (v := _) rfl (by kernel_rfl) (by kernel_rfl) (by kernel_rfl) (fun _ _ _ h => h) (Or.inl ⟨by rfl, ?hyb4⟩) hHeld ?restb4
  case hyb4 => (intro w' hSw; (try dsimp only at hSw); go_simp; (try with_reducible rfl))
  try simp only [Act.put, List.setIfInBounds_toArray, List.set_cons_zero, List.set_cons_succ, List.getElem_toArray, List.getElem_cons_succ, List.getElem_cons_zero]
  refine' wpAnyH_take (i := 5) (v := _) rfl (by kernel_rfl) (by kernel_rfl) (by kernel_rfl) (fun _ _ _ h => h) (Or.inl ⟨by rfl, ?hyb5⟩) hHeld ?restb5
  case hyb5 => (intro w' hSw; (try dsimp only at hSw); go_simp; (try with_reducible rfl))
  try simp only [Act.put, List.setIfInBounds_toArray, List.set_cons_zero, List.set_cons_succ, List.getElem_toArray, List.getElem_cons_succ, List.getElem_cons_zero]
  refine' wpAnyH_take (i := 6) (v := _) rfl (by kernel_rfl) (by kernel_rfl) (by kernel_rfl) (fun _ _ _ h => h) (Or.inl ⟨by rfl, ?hyb6⟩) hHeld ?restb6
  case hyb6 => (intro w' hSw; (try dsimp only at hSw); go_simp; (try with_reducible rfl))
  try simp only [Act.put, List.setIfInBounds_toArray, List.set_cons_zero, List.set_cons_succ, List.getElem_toArray, List.getElem_cons_succ, List.getElem_cons_zero]
  refine wpAnyH_ready (rs := [7]) (by kernel_rfl) (by simp) ?_
  refine AllReadyH.cons rfl (fun K hK => ?_) AllReadyH.nil
  go_simp
  (go_at_call 35; refine (inside_eq Ab cb base s hset HLEN.out _).mono ?_; rintro e2 w2 ⟨rfl, rfl⟩; rw [HIN.out])
  go_wp2_with fail
  refine hK.out _ _ ⟨(Ext.cell (p := ⟨b, 1, none⟩) (by repeat (first | exact Ext.refl _ | assumption | apply Ext.alloc | apply Ext.drew)) hbz).trans d1w, (Ext.cell (p := ⟨w.heap.size, 0, none⟩) (by repeat (first | exact Ext.refl _ | assumption | apply Ext.alloc | apply Ext.drew)) zlt).trans z0⟩ (fun hHeld => ?_)
  clear hK K
  try simp only [Act.put, List.setIfInBounds_toArray, List.set_cons_zero, List.set_cons_succ, List.getElem_toArray, List.getElem_cons_succ, List.getElem_cons_zero]
  refine' wpAnyH_take (i := 8) (v := _) rfl (by kernel_rfl) (by kernel_rfl) (by kernel_rfl) (fun _ _ _ h => h) (Or.inl ⟨by rfl, ?hyb8⟩) hHeld ?restb8
  case hyb8 => (intro w' hSw; (try dsimp only at hSw); go_simp; (try with_reducible rfl))
  try simp only [Act.put, List.setIfInBounds_toArray, List.set_cons_zero, List.set_cons_succ, List.getElem_toArray, List.getElem_cons_succ, List.getElem_cons_zero]
  refine wpAnyH_done (by kernel_rfl) ?_ _
  go_wp2_with fail
  have HE := Lib.hid (show correctN lg base opps steps at_ = false by rw [HC.out])
  go_ret
  exact ⟨by rw [HE.out] <;> rfl, (X0.out.trans (by repeat (first | exact Ext.refl _ | assumption | apply Ext.alloc | apply Ext.drew)))⟩

set_option maxRecDepth 100000 in
set_option maxHeartbeats 8000000 in
theorem correct_close {w : World} {b : Nat} {lg : Int} {base : List Nd} {steps : List Stp} {opps : List Int} (h : SChk w b lg base steps opps) (hb : baseErr base = 0) (hol : opps.length ≤ 64) (hoz : ∀ z ∈ opps, z < 64) (at_ : Nat) (hat : at_ < steps.length) (s : Nat) (ru on e : Int) (fr : List Int) (hx : steps[at_]? = some ⟨s, ru, on, e, fr⟩) (hins : insideS base s = true) (hr : ru = 1) :
    Calls Try.prog 26 #[.pointer (some ⟨b, 0, none⟩), .int .i64 (at_ : Int)] w fun e w' => e = .returned (.bool (correctN lg base opps steps at_)) ∧ Ext w w' := by
  obtain ⟨ad, c, h1, h2, hblk, d2, hrow⟩ := h.rows (by intro e; rw [e] at hat; simp at hat)
  obtain ⟨ur, q0, q1, q2, q3, q4, ⟨Af, cf, rfl, _⟩, hset⟩ := hrow at_ _ hx
  obtain ⟨Ab, cb, As, cs, Ao, co, d0, d1, _, _, hF, _, _⟩ := h.cells
  have hlen : 1 ≤ base.length ∧ base.length ≤ 64 := ⟨by have := (check_parts (baseErr_ok hb).1).1; omega, (baseErr_ok hb).2.1⟩
  have HF := Lib.hid hF
  have H := Lib.hid h
  have HB := Lib.hid hb
  have HAT := Lib.hid hat
  have HLEN := Lib.hid hlen
  have HX := Lib.hid hx
  have HOL := Lib.hid hol
  have HOZ := Lib.hid hoz
  have hbw := h.blt
  have ha1 : (at_ : Int) < (steps.length : Int) := by omega
  have ha0 : (0 : Int) ≤ (at_ : Int) := by omega
  simp only at q0 q1 q2 q3 q4 hset
  clear h hx hrow hat hF hb hlen hol hoz
  subst hr
  have HIN := Lib.hid hins
  clear hins
  obtain ⟨z0, z1, z2, z3, z4, zfr, zlt⟩ := cells5s (heap_alloc_new w (.cells #[.int .u64 (s : Int), .int .i64 1, .int .i64 on, .int .i64 e, .slice Af fr.length cf] 34))
  have Z0 := Lib.hid z0
  have X0 := Lib.hid ((Ext.refl w).alloc (.cells #[.int .u64 (s : Int), .int .i64 1, .int .i64 on, .int .i64 e, .slice Af fr.length cf] 34))
  have D1 := Lib.hid d1
  have ZLT := Lib.hid zlt
  have HBW := Lib.hid hbw
  have d1w := (X0.out.cell (p := ⟨b, 1, none⟩) hbw).trans d1
  have hbz : b < (w.alloc (.cells #[.int .u64 (s : Int), .int .i64 1, .int .i64 on, .int .i64 e, .slice Af fr.length cf] 34)).heap.size := Nat.lt_of_lt_of_le hbw X0.out.size
  have HC := Lib.hid (show correctN lg base opps steps at_ = closedN base opps steps at_ by unfold correctN nodeOn; simp only [getD_some HX.out, HIN.out]; rfl)
  go_enter Try.func26, Try.ntmps26
  go_wp2_with fail
  refine wp_region_held_drew (S := fun w' => w'.cell? (⟨b, 1, none⟩) = some (.slice Ab base.length cb) ∧ w'.cell? (⟨w.heap.size, 0, none⟩) = some (.int .u64 (s : Int))) (by kernel_rfl) ⟨(Ext.cell (p := ⟨b, 1, none⟩) (by repeat (first | exact Ext.refl _ | assumption | apply Ext.alloc | apply Ext.drew)) hbz).trans d1w, (Ext.cell (p := ⟨w.heap.size, 0, none⟩) (by repeat (first | exact Ext.refl _ | assumption | apply Ext.alloc | apply Ext.drew)) zlt).trans z0⟩ (fun hHeld => ?_)
  refine' wpAnyH_take (i := 0) (v := _) rfl (by kernel_rfl) (by kernel_rfl) (by kernel_rfl) (fun _ _ _ h => h) (Or.inl ⟨by rfl, ?hyc0⟩) hHeld ?restc0
  case hyc0 => (intro w' hSw; (try dsimp only at hSw); go_simp; (try with_reducible rfl))
  try simp only [Act.put, List.setIfInBounds_toArray, List.set_cons_zero, List.set_cons_succ, List.getElem_toArray, List.getElem_cons_zero]
  refine' wpAnyH_take (i := 1) (v := _) rfl (by kernel_rfl) (by kernel_rfl) (by kernel_rfl) (fun _ _ _ h => h) (Or.inl ⟨by rfl, ?hyc1⟩) hHeld ?restc1
  case hyc1 => (intro w' hSw; (try dsimp only at hSw); go_simp; (try with_reducible rfl))
  try simp only [Act.put, List.setIfInBounds_toArray, List.set_cons_zero, List.set_cons_succ, List.getElem_toArray, List.getElem_cons_succ, List.getElem_cons_zero]
  refine' wpAnyH_take (i := 2) (v := _) rfl (by kernel_rfl) (by kernel_rfl) (by kernel_rfl) (fun _ _ _ h => h) (Or.inl ⟨by rfl, ?hyc2⟩) hHeld ?restc2
  case hyc2 => (intro w' hSw; (try dsimp only at hSw); go_simp; (try with_reducible rfl))
  try simp only [Act.put, List.setIfInBounds_toArray, List.set_cons_zero, List.set_cons_succ, List.getElem_toArray, List.getElem_cons_succ, List.getElem_cons_zero]
  refine' wpAnyH_take (i := 3) (v := _) rfl (by kernel_rfl) (by kernel_rfl) (by kernel_rfl) (fun _ _ _ h => h) (Or.inl ⟨by rfl, ?hyc3⟩) hHeld ?restc3
  case hyc3 => (intro w' hSw; (try dsimp only at hSw); go_simp; (try with_reducible rfl))
  try simp only [Act.put, List.setIfInBounds_toArray, List.set_cons_zero, List.set_cons_succ, List.getElem_toArray, List.getElem_cons_succ, List.getElem_cons_zero]
  refine' wpAnyH_take (i := 4) (v := _) rfl (by kernel_rfl) (by kernel_rfl) (by kernel_rfl) (fun _ _ _ h => h) (Or.inl ⟨by rfl, ?hyc4⟩) hHeld ?restc4
  case hyc4 => (intro w' hSw; (try dsimp only at hSw); go_simp; (try with_reducible rfl))
  try simp only [Act.put, List.setIfInBounds_toArray, List.set_cons_zero, List.set_cons_succ, List.getElem_toArray, List.getElem_cons_succ, List.getElem_cons_zero]
  refine' wpAnyH_take (i := 5) (v := _) rfl (by kernel_rfl) (by kernel_rfl) (by kernel_rfl) (fun _ _ _ h => h) (Or.inl ⟨by rfl, ?hyc5⟩) hHeld ?restc5
  case hyc5 => (intro w' hSw; (try dsimp only at hSw); go_simp; (try with_reducible rfl))
  try simp only [Act.put, List.setIfInBounds_toArray, List.set_cons_zero, List.set_cons_succ, List.getElem_toArray, List.getElem_cons_succ, List.getElem_cons_zero]
  refine' wpAnyH_take (i := 6) (v := _) rfl (by kernel_rfl) (by kernel_rfl) (by kernel_rfl) (fun _ _ _ h => h) (Or.inl ⟨by rfl, ?hyc6⟩) hHeld ?restc6
  case hyc6 => (intro w' hSw; (try dsimp only at hSw); go_simp; (try with_reducible rfl))
  try simp only [Act.put, List.setIfInBounds_toArray, List.set_cons_zero, List.set_cons_succ, List.getElem_toArray, List.getElem_cons_succ, List.getElem_cons_zero]
  refine wpAnyH_ready (rs := [7]) (by kernel_rfl) (by simp) ?_
  refine AllReadyH.cons rfl (fun K hK => ?_) AllReadyH.nil
  go_simp
  (go_at_call 35; refine (inside_eq Ab cb base s hset HLEN.out _).mono ?_; rintro e2 w2 ⟨rfl, rfl⟩; rw [HIN.out])
  go_wp2_with fail
  refine hK.out _ _ ⟨(Ext.cell (p := ⟨b, 1, none⟩) (by repeat (first | exact Ext.refl _ | assumption | apply Ext.alloc | apply Ext.drew)) hbz).trans d1w, (Ext.cell (p := ⟨w.heap.size, 0, none⟩) (by repeat (first | exact Ext.refl _ | assumption | apply Ext.alloc | apply Ext.drew)) zlt).trans z0⟩ (fun hHeld => ?_)
  clear hK K
  try simp only [Act.put, List.setIfInBounds_toArray, List.set_cons_zero, List.set_cons_succ, List.getElem_toArray, List.getElem_cons_succ, List.getElem_cons_zero]
  refine' wpAnyH_take (i := 8) (v := _) rfl (by kernel_rfl) (by kernel_rfl) (by kernel_rfl) (fun _ _ _ h => h) (Or.inl ⟨by rfl, ?hyc8⟩) hHeld ?restc8
  case hyc8 => (intro w' hSw; (try dsimp only at hSw); go_simp; (try with_reducible rfl))
  try simp only [Act.put, List.setIfInBounds_toArray, List.set_cons_zero, List.set_cons_succ, List.getElem_toArray, List.getElem_cons_succ, List.getElem_cons_zero]
  refine wpAnyH_done (by kernel_rfl) ?_ _
  go_wp2_with fail
  refine (closed_any (H.out.ext (X0.out.trans (by repeat (first | exact Ext.refl _ | assumption | apply Ext.alloc | apply Ext.drew)))) at_ HAT.out).mono ?_
  rintro e2 w2 ⟨rfl, hv⟩
  go_wp2_with fail
  go_ret
  exact ⟨by rw [HC.out] <;> rfl, X0.out.trans (Ext.trans (by repeat (first | exact Ext.refl _ | assumption | apply Ext.alloc | apply Ext.drew)) hv)⟩

set_option maxRecDepth 100000 in
set_option maxHeartbeats 8000000 in
theorem correct_cut {w : World} {b : Nat} {lg : Int} {base : List Nd} {steps : List Stp} {opps : List Int} (h : SChk w b lg base steps opps) (hb : baseErr base = 0) (hol : opps.length ≤ 64) (hoz : ∀ z ∈ opps, z < 64) (at_ : Nat) (hat : at_ < steps.length) (s : Nat) (ru on e : Int) (fr : List Int) (hx : steps[at_]? = some ⟨s, ru, on, e, fr⟩) (hins : insideS base s = true) (hr : ru = 4) :
    Calls Try.prog 26 #[.pointer (some ⟨b, 0, none⟩), .int .i64 (at_ : Int)] w fun e w' => e = .returned (.bool (correctN lg base opps steps at_)) ∧ Ext w w' := by
  obtain ⟨ad, c, h1, h2, hblk, d2, hrow⟩ := h.rows (by intro e; rw [e] at hat; simp at hat)
  obtain ⟨ur, q0, q1, q2, q3, q4, ⟨Af, cf, rfl, _⟩, hset⟩ := hrow at_ _ hx
  obtain ⟨Ab, cb, As, cs, Ao, co, d0, d1, _, _, hF, _, _⟩ := h.cells
  have hlen : 1 ≤ base.length ∧ base.length ≤ 64 := ⟨by have := (check_parts (baseErr_ok hb).1).1; omega, (baseErr_ok hb).2.1⟩
  have HF := Lib.hid hF
  have H := Lib.hid h
  have HB := Lib.hid hb
  have HAT := Lib.hid hat
  have HLEN := Lib.hid hlen
  have HX := Lib.hid hx
  have HOL := Lib.hid hol
  have HOZ := Lib.hid hoz
  have hbw := h.blt
  have ha1 : (at_ : Int) < (steps.length : Int) := by omega
  have ha0 : (0 : Int) ≤ (at_ : Int) := by omega
  simp only at q0 q1 q2 q3 q4 hset
  clear h hx hrow hat hF hb hlen hol hoz
  subst hr
  have HIN := Lib.hid hins
  clear hins
  have HC := Lib.hid (show correctN lg base opps steps at_ = (decide (0 ≤ e) && (opposedN opps on e && premN steps at_ [s ||| 2 ^ on.toNat, s ||| 2 ^ e.toNat])) by unfold correctN nodeOn; simp only [getD_some HX.out, HIN.out]; rfl)
  by_cases he0 : 0 ≤ e
  · cases hop : opposedN opps on e
    · have HOP := Lib.hid hop
      clear hop
      obtain ⟨z0, z1, z2, z3, z4, zfr, zlt⟩ := cells5s (heap_alloc_new w (.cells #[.int .u64 (s : Int), .int .i64 4, .int .i64 on, .int .i64 e, .slice Af fr.length cf] 34))
      have Z0 := Lib.hid z0
      have X0 := Lib.hid ((Ext.refl w).alloc (.cells #[.int .u64 (s : Int), .int .i64 4, .int .i64 on, .int .i64 e, .slice Af fr.length cf] 34))
      have D1 := Lib.hid d1
      have ZLT := Lib.hid zlt
      have HBW := Lib.hid hbw
      have d1w := (X0.out.cell (p := ⟨b, 1, none⟩) hbw).trans d1
      have hbz : b < (w.alloc (.cells #[.int .u64 (s : Int), .int .i64 4, .int .i64 on, .int .i64 e, .slice Af fr.length cf] 34)).heap.size := Nat.lt_of_lt_of_le hbw X0.out.size
      go_enter Try.func26, Try.ntmps26
      go_wp2_with fail
      refine wp_region_held_drew (S := fun w' => w'.cell? (⟨b, 1, none⟩) = some (.slice Ab base.length cb) ∧ w'.cell? (⟨w.heap.size, 0, none⟩) = some (.int .u64 (s : Int))) (by kernel_rfl) ⟨(Ext.cell (p := ⟨b, 1, none⟩) (by repeat (first | exact Ext.refl _ | assumption | apply Ext.alloc | apply Ext.drew)) hbz).trans d1w, (Ext.cell (p := ⟨w.heap.size, 0, none⟩) (by repeat (first | exact Ext.refl _ | assumption | apply Ext.alloc | apply Ext.drew)) zlt).trans z0⟩ (fun hHeld => ?_)
      refine' wpAnyH_take (i := 0) (v := _) rfl (by kernel_rfl) (by kernel_rfl) (by kernel_rfl) (fun _ _ _ h => h) (Or.inl ⟨by rfl, ?hyd0⟩) hHeld ?restd0
      case hyd0 => (intro w' hSw; (try dsimp only at hSw); go_simp; (try with_reducible rfl))
      try simp only [Act.put, List.setIfInBounds_toArray, List.set_cons_zero, List.set_cons_succ, List.getElem_toArray, List.getElem_cons_zero]
      refine' wpAnyH_take (i := 1) (v := _) rfl (by kernel_rfl) (by kernel_rfl) (by kernel_rfl) (fun _ _ _ h => h) (Or.inl ⟨by rfl, ?hyd1⟩) hHeld ?restd1
      case hyd1 => (intro w' hSw; (try dsimp only at hSw); go_simp; (try with_reducible rfl))
      try simp only [Act.put, List.setIfInBounds_toArray, List.set_cons_zero, List.set_cons_succ, List.getElem_toArray, List.getElem_cons_succ, List.getElem_cons_zero]
      refine' wpAnyH_take (i := 2) (v := _) rfl (by kernel_rfl) (by kernel_rfl) (by kernel_rfl) (fun _ _ _ h => h) (Or.inl ⟨by rfl, ?hyd2⟩) hHeld ?restd2
      case hyd2 => (intro w' hSw; (try dsimp only at hSw); go_simp; (try with_reducible rfl))
      try simp only [Act.put, List.setIfInBounds_toArray, List.set_cons_zero, List.set_cons_succ, List.getElem_toArray, List.getElem_cons_succ, List.getElem_cons_zero]
      refine' wpAnyH_take (i := 3) (v := _) rfl (by kernel_rfl) (by kernel_rfl) (by kernel_rfl) (fun _ _ _ h => h) (Or.inl ⟨by rfl, ?hyd3⟩) hHeld ?restd3
      case hyd3 => (intro w' hSw; (try dsimp only at hSw); go_simp; (try with_reducible rfl))
      try simp only [Act.put, List.setIfInBounds_toArray, List.set_cons_zero, List.set_cons_succ, List.getElem_toArray, List.getElem_cons_succ, List.getElem_cons_zero]
      refine' wpAnyH_take (i := 4) (v := _) rfl (by kernel_rfl) (by kernel_rfl) (by kernel_rfl) (fun _ _ _ h => h) (Or.inl ⟨by rfl, ?hyd4⟩) hHeld ?restd4
      case hyd4 => (intro w' hSw; (try dsimp only at hSw); go_simp; (try with_reducible rfl))
      try simp only [Act.put, List.setIfInBounds_toArray, List.set_cons_zero, List.set_cons_succ, List.getElem_toArray, List.getElem_cons_succ, List.getElem_cons_zero]
      refine' wpAnyH_take (i := 5) (v := _) rfl (by kernel_rfl) (by kernel_rfl) (by kernel_rfl) (fun _ _ _ h => h) (Or.inl ⟨by rfl, ?hyd5⟩) hHeld ?restd5
      case hyd5 => (intro w' hSw; (try dsimp only at hSw); go_simp; (try with_reducible rfl))
      try simp only [Act.put, List.setIfInBounds_toArray, List.set_cons_zero, List.set_cons_succ, List.getElem_toArray, List.getElem_cons_succ, List.getElem_cons_zero]
      refine' wpAnyH_take (i := 6) (v := _) rfl (by kernel_rfl) (by kernel_rfl) (by kernel_rfl) (fun _ _ _ h => h) (Or.inl ⟨by rfl, ?hyd6⟩) hHeld ?restd6
      case hyd6 => (intro w' hSw; (try dsimp only at hSw); go_simp; (try with_reducible rfl))
      try simp only [Act.put, List.setIfInBounds_toArray, List.set_cons_zero, List.set_cons_succ, List.getElem_toArray, List.getElem_cons_succ, List.getElem_cons_zero]
      refine wpAnyH_ready (rs := [7]) (by kernel_rfl) (by simp) ?_
      refine AllReadyH.cons rfl (fun K hK => ?_) AllReadyH.nil
      go_simp
      (go_at_call 35; refine (inside_eq Ab cb base s hset HLEN.out _).mono ?_; rintro e2 w2 ⟨rfl, rfl⟩; rw [HIN.out])
      go_wp2_with fail
      refine hK.out _ _ ⟨(Ext.cell (p := ⟨b, 1, none⟩) (by repeat (first | exact Ext.refl _ | assumption | apply Ext.alloc | apply Ext.drew)) hbz).trans d1w, (Ext.cell (p := ⟨w.heap.size, 0, none⟩) (by repeat (first | exact Ext.refl _ | assumption | apply Ext.alloc | apply Ext.drew)) zlt).trans z0⟩ (fun hHeld => ?_)
      clear hK K
      try simp only [Act.put, List.setIfInBounds_toArray, List.set_cons_zero, List.set_cons_succ, List.getElem_toArray, List.getElem_cons_succ, List.getElem_cons_zero]
      refine' wpAnyH_take (i := 8) (v := _) rfl (by kernel_rfl) (by kernel_rfl) (by kernel_rfl) (fun _ _ _ h => h) (Or.inl ⟨by rfl, ?hyd8⟩) hHeld ?restd8
      case hyd8 => (intro w' hSw; (try dsimp only at hSw); go_simp; (try with_reducible rfl))
      try simp only [Act.put, List.setIfInBounds_toArray, List.set_cons_zero, List.set_cons_succ, List.getElem_toArray, List.getElem_cons_succ, List.getElem_cons_zero]
      refine wpAnyH_done (by kernel_rfl) ?_ _
      go_wp2_with fail
      refine wp_region_held_drew (S := fun w' => w'.cell? (⟨w.heap.size, 0, none⟩) = some (.int .u64 (s : Int)) ∧ w'.cell? (⟨w.heap.size, 2, none⟩) = some (.int .i64 on) ∧ w'.cell? (⟨w.heap.size, 3, none⟩) = some (.int .i64 e)) (by kernel_rfl) ⟨(Ext.cell (p := ⟨w.heap.size, 0, none⟩) (by repeat (first | exact Ext.refl _ | assumption | apply Ext.alloc | apply Ext.drew)) zlt).trans z0, (Ext.cell (p := ⟨w.heap.size, 2, none⟩) (by repeat (first | exact Ext.refl _ | assumption | apply Ext.alloc | apply Ext.drew)) zlt).trans z2, (Ext.cell (p := ⟨w.heap.size, 3, none⟩) (by repeat (first | exact Ext.refl _ | assumption | apply Ext.alloc | apply Ext.drew)) zlt).trans z3⟩ (fun hHeld => ?_)
      refine' wpAnyH_take (i := 0) (v := _) rfl (by kernel_rfl) (by kernel_rfl) (by kernel_rfl) (fun _ _ _ h => h) (Or.inl ⟨by rfl, ?hye0⟩) hHeld ?reste0
      case hye0 => (intro w' hSw; (try dsimp only at hSw); go_simp; (try with_reducible rfl))
      try simp only [Act.put, List.setIfInBounds_toArray, List.set_cons_zero, List.set_cons_succ, List.getElem_toArray, List.getElem_cons_zero]
      refine' wpAnyH_take (i := 1) (v := _) rfl (by kernel_rfl) (by kernel_rfl) (by kernel_rfl) (fun _ _ _ h => h) (Or.inl ⟨by rfl, ?hye1⟩) hHeld ?reste1
      case hye1 => (intro w' hSw; (try dsimp only at hSw); go_simp; (try with_reducible rfl))
      try simp only [Act.put, List.setIfInBounds_toArray, List.set_cons_zero, List.set_cons_succ, List.getElem_toArray, List.getElem_cons_succ, List.getElem_cons_zero]
      refine' wpAnyH_take (i := 2) (v := _) rfl (by kernel_rfl) (by kernel_rfl) (by kernel_rfl) (fun _ _ _ h => h) (Or.inl ⟨by rfl, ?hye2⟩) hHeld ?reste2
      case hye2 => (intro w' hSw; (try dsimp only at hSw); go_simp; (try with_reducible rfl))
      try simp only [Act.put, List.setIfInBounds_toArray, List.set_cons_zero, List.set_cons_succ, List.getElem_toArray, List.getElem_cons_succ, List.getElem_cons_zero]
      refine' wpAnyH_take (i := 3) (v := _) rfl (by kernel_rfl) (by kernel_rfl) (by kernel_rfl) (fun _ _ _ h => h) (Or.inl ⟨by rfl, ?hye3⟩) hHeld ?reste3
      case hye3 => (intro w' hSw; (try dsimp only at hSw); go_simp; (try with_reducible rfl))
      try simp only [Act.put, List.setIfInBounds_toArray, List.set_cons_zero, List.set_cons_succ, List.getElem_toArray, List.getElem_cons_succ, List.getElem_cons_zero]
      refine' wpAnyH_take (i := 4) (v := _) rfl (by kernel_rfl) (by kernel_rfl) (by kernel_rfl) (fun _ _ _ h => h) (Or.inl ⟨by rfl, ?hye4⟩) hHeld ?reste4
      case hye4 => (intro w' hSw; (try dsimp only at hSw); go_simp; (try with_reducible rfl))
      try simp only [Act.put, List.setIfInBounds_toArray, List.set_cons_zero, List.set_cons_succ, List.getElem_toArray, List.getElem_cons_succ, List.getElem_cons_zero]
      refine' wpAnyH_take (i := 5) (v := _) rfl (by kernel_rfl) (by kernel_rfl) (by kernel_rfl) (fun _ _ _ h => h) (Or.inl ⟨by rfl, ?hye5⟩) hHeld ?reste5
      case hye5 => (intro w' hSw; (try dsimp only at hSw); go_simp; (try with_reducible rfl))
      try simp only [Act.put, List.setIfInBounds_toArray, List.set_cons_zero, List.set_cons_succ, List.getElem_toArray, List.getElem_cons_succ, List.getElem_cons_zero]
      refine' wpAnyH_take (i := 6) (v := _) rfl (by kernel_rfl) (by kernel_rfl) (by kernel_rfl) (fun _ _ _ h => h) (Or.inl ⟨by rfl, ?hye6⟩) hHeld ?reste6
      case hye6 => (intro w' hSw; (try dsimp only at hSw); go_simp; (try with_reducible rfl))
      try simp only [Act.put, List.setIfInBounds_toArray, List.set_cons_zero, List.set_cons_succ, List.getElem_toArray, List.getElem_cons_succ, List.getElem_cons_zero]
      refine' wpAnyH_take (i := 7) (v := _) rfl (by kernel_rfl) (by kernel_rfl) (by kernel_rfl) (fun _ _ _ h => h) (Or.inl ⟨by rfl, ?hye7⟩) hHeld ?reste7
      case hye7 => (intro w' hSw; (try dsimp only at hSw); go_simp; (try with_reducible rfl))
      try simp only [Act.put, List.setIfInBounds_toArray, List.set_cons_zero, List.set_cons_succ, List.getElem_toArray, List.getElem_cons_succ, List.getElem_cons_zero]
      refine' wpAnyH_take (i := 8) (v := _) rfl (by kernel_rfl) (by kernel_rfl) (by kernel_rfl) (fun _ _ _ h => h) (Or.inl ⟨by rfl, ?hye8⟩) hHeld ?reste8
      case hye8 => (intro w' hSw; (try dsimp only at hSw); go_simp; (try with_reducible rfl))
      try simp only [Act.put, List.setIfInBounds_toArray, List.set_cons_zero, List.set_cons_succ, List.getElem_toArray, List.getElem_cons_succ, List.getElem_cons_zero]
      refine wpAnyH_ready (rs := [9]) (by kernel_rfl) (by simp) ?_
      refine AllReadyH.cons rfl (fun K hK => ?_) AllReadyH.nil
      go_simp
      (go_at_call 41; refine (opposed_any (H.out.ext (X0.out.trans (by exact (by repeat (first | exact Ext.refl _ | assumption | apply Ext.alloc | apply Ext.drew))))) on e).mono ?_; rintro e2 w5 ⟨rfl, hv⟩; rw [HOP.out]; have hx5 : Ext (w.alloc (.cells #[.int .u64 (s : Int), .int .i64 4, .int .i64 on, .int .i64 e, .slice Af fr.length cf] 34)) w5 := Ext.trans (by repeat (first | exact Ext.refl _ | assumption | apply Ext.alloc | apply Ext.drew)) hv; clear hv)
      go_wp2_with fail
      refine hK.out _ _ ⟨(Ext.cell (p := ⟨w.heap.size, 0, none⟩) (by repeat (first | exact Ext.refl _ | assumption | apply Ext.alloc | apply Ext.drew)) zlt).trans z0, (Ext.cell (p := ⟨w.heap.size, 2, none⟩) (by repeat (first | exact Ext.refl _ | assumption | apply Ext.alloc | apply Ext.drew)) zlt).trans z2, (Ext.cell (p := ⟨w.heap.size, 3, none⟩) (by repeat (first | exact Ext.refl _ | assumption | apply Ext.alloc | apply Ext.drew)) zlt).trans z3⟩ (fun hHeld => ?_)
      clear hK K
      try simp only [Act.put, List.setIfInBounds_toArray, List.set_cons_zero, List.set_cons_succ, List.getElem_toArray, List.getElem_cons_succ, List.getElem_cons_zero]
      refine' wpAnyH_take (i := 10) (v := _) rfl (by kernel_rfl) (by kernel_rfl) (by kernel_rfl) (fun _ _ _ h => h) (Or.inl ⟨by rfl, ?hye10⟩) hHeld ?reste10
      case hye10 => (intro w' hSw; (try dsimp only at hSw); go_simp; (try with_reducible rfl))
      try simp only [Act.put, List.setIfInBounds_toArray, List.set_cons_zero, List.set_cons_succ, List.getElem_toArray, List.getElem_cons_succ, List.getElem_cons_zero]
      refine' wpAnyH_take (i := 11) (v := _) rfl (by kernel_rfl) (by kernel_rfl) (by kernel_rfl) (fun _ _ _ h => h) (Or.inl ⟨by rfl, ?hye11⟩) hHeld ?reste11
      case hye11 => (intro w' hSw; (try dsimp only at hSw); go_simp; (try with_reducible rfl))
      try simp only [Act.put, List.setIfInBounds_toArray, List.set_cons_zero, List.set_cons_succ, List.getElem_toArray, List.getElem_cons_succ, List.getElem_cons_zero]
      refine wpAnyH_take (i := 12) (v := undef) rfl (by kernel_rfl) (by kernel_rfl) (by kernel_rfl) (fun _ _ _ h => h) (Or.inr ⟨by rfl, rfl⟩) hHeld ?_
      try simp only [Act.put, List.setIfInBounds_toArray, List.set_cons_zero, List.set_cons_succ, List.getElem_toArray, List.getElem_cons_succ, List.getElem_cons_zero]
      refine wpAnyH_take (i := 13) (v := undef) rfl (by kernel_rfl) (by kernel_rfl) (by kernel_rfl) (fun _ _ _ h => h) (Or.inr ⟨by rfl, rfl⟩) hHeld ?_
      try simp only [Act.put, List.setIfInBounds_toArray, List.set_cons_zero, List.set_cons_succ, List.getElem_toArray, List.getElem_cons_succ, List.getElem_cons_zero]
      refine wpAnyH_take (i := 14) (v := undef) rfl (by kernel_rfl) (by kernel_rfl) (by kernel_rfl) (fun _ _ _ h => h) (Or.inr ⟨by rfl, rfl⟩) hHeld ?_
      try simp only [Act.put, List.setIfInBounds_toArray, List.set_cons_zero, List.set_cons_succ, List.getElem_toArray, List.getElem_cons_succ, List.getElem_cons_zero]
      refine wpAnyH_take (i := 15) (v := undef) rfl (by kernel_rfl) (by kernel_rfl) (by kernel_rfl) (fun _ _ _ h => h) (Or.inr ⟨by rfl, rfl⟩) hHeld ?_
      try simp only [Act.put, List.setIfInBounds_toArray, List.set_cons_zero, List.set_cons_succ, List.getElem_toArray, List.getElem_cons_succ, List.getElem_cons_zero]
      refine wpAnyH_take (i := 16) (v := undef) rfl (by kernel_rfl) (by kernel_rfl) (by kernel_rfl) (fun _ _ _ h => h) (Or.inr ⟨by rfl, rfl⟩) hHeld ?_
      try simp only [Act.put, List.setIfInBounds_toArray, List.set_cons_zero, List.set_cons_succ, List.getElem_toArray, List.getElem_cons_succ, List.getElem_cons_zero]
      refine wpAnyH_take (i := 17) (v := undef) rfl (by kernel_rfl) (by kernel_rfl) (by kernel_rfl) (fun _ _ _ h => h) (Or.inr ⟨by rfl, rfl⟩) hHeld ?_
      try simp only [Act.put, List.setIfInBounds_toArray, List.set_cons_zero, List.set_cons_succ, List.getElem_toArray, List.getElem_cons_succ, List.getElem_cons_zero]
      refine wpAnyH_take (i := 18) (v := undef) rfl (by kernel_rfl) (by kernel_rfl) (by kernel_rfl) (fun _ _ _ h => h) (Or.inr ⟨by rfl, rfl⟩) hHeld ?_
      try simp only [Act.put, List.setIfInBounds_toArray, List.set_cons_zero, List.set_cons_succ, List.getElem_toArray, List.getElem_cons_succ, List.getElem_cons_zero]
      refine wpAnyH_take (i := 19) (v := undef) rfl (by kernel_rfl) (by kernel_rfl) (by kernel_rfl) (fun _ _ _ h => h) (Or.inr ⟨by rfl, rfl⟩) hHeld ?_
      try simp only [Act.put, List.setIfInBounds_toArray, List.set_cons_zero, List.set_cons_succ, List.getElem_toArray, List.getElem_cons_succ, List.getElem_cons_zero]
      refine wpAnyH_take (i := 20) (v := undef) rfl (by kernel_rfl) (by kernel_rfl) (by kernel_rfl) (fun _ _ _ h => h) (Or.inr ⟨by rfl, rfl⟩) hHeld ?_
      try simp only [Act.put, List.setIfInBounds_toArray, List.set_cons_zero, List.set_cons_succ, List.getElem_toArray, List.getElem_cons_succ, List.getElem_cons_zero]
      refine wpAnyH_take (i := 21) (v := undef) rfl (by kernel_rfl) (by kernel_rfl) (by kernel_rfl) (fun _ _ _ h => h) (Or.inr ⟨by rfl, rfl⟩) hHeld ?_
      try simp only [Act.put, List.setIfInBounds_toArray, List.set_cons_zero, List.set_cons_succ, List.getElem_toArray, List.getElem_cons_succ, List.getElem_cons_zero]
      refine wpAnyH_take (i := 22) (v := undef) rfl (by kernel_rfl) (by kernel_rfl) (by kernel_rfl) (fun _ _ _ h => h) (Or.inr ⟨by rfl, rfl⟩) hHeld ?_
      try simp only [Act.put, List.setIfInBounds_toArray, List.set_cons_zero, List.set_cons_succ, List.getElem_toArray, List.getElem_cons_succ, List.getElem_cons_zero]
      refine wpAnyH_take (i := 23) (v := undef) rfl (by kernel_rfl) (by kernel_rfl) (by kernel_rfl) (fun _ _ _ h => h) (Or.inr ⟨by rfl, rfl⟩) hHeld ?_
      try simp only [Act.put, List.setIfInBounds_toArray, List.set_cons_zero, List.set_cons_succ, List.getElem_toArray, List.getElem_cons_succ, List.getElem_cons_zero]
      refine wpAnyH_take (i := 24) (v := undef) rfl (by kernel_rfl) (by kernel_rfl) (by kernel_rfl) (fun _ _ _ h => h) (Or.inr ⟨by rfl, rfl⟩) hHeld ?_
      try simp only [Act.put, List.setIfInBounds_toArray, List.set_cons_zero, List.set_cons_succ, List.getElem_toArray, List.getElem_cons_succ, List.getElem_cons_zero]
      refine wpAnyH_take (i := 25) (v := undef) rfl (by kernel_rfl) (by kernel_rfl) (by kernel_rfl) (fun _ _ _ h => h) (Or.inr ⟨by rfl, rfl⟩) hHeld ?_
      try simp only [Act.put, List.setIfInBounds_toArray, List.set_cons_zero, List.set_cons_succ, List.getElem_toArray, List.getElem_cons_succ, List.getElem_cons_zero]
      refine wpAnyH_take (i := 26) (v := undef) rfl (by kernel_rfl) (by kernel_rfl) (by kernel_rfl) (fun _ _ _ h => h) (Or.inr ⟨by rfl, rfl⟩) hHeld ?_
      try simp only [Act.put, List.setIfInBounds_toArray, List.set_cons_zero, List.set_cons_succ, List.getElem_toArray, List.getElem_cons_succ, List.getElem_cons_zero]
      refine wpAnyH_take (i := 27) (v := undef) rfl (by kernel_rfl) (by kernel_rfl) (by kernel_rfl) (fun _ _ _ h => h) (Or.inr ⟨by rfl, rfl⟩) hHeld ?_
      try simp only [Act.put, List.setIfInBounds_toArray, List.set_cons_zero, List.set_cons_succ, List.getElem_toArray, List.getElem_cons_succ, List.getElem_cons_zero]
      refine' wpAnyH_take (i := 28) (v := _) rfl (by kernel_rfl) (by kernel_rfl) (by kernel_rfl) (fun _ _ _ h => h) (Or.inl ⟨by rfl, ?hye28⟩) hHeld ?reste28
      case hye28 => (intro w' hSw; (try dsimp only at hSw); go_simp; (try with_reducible rfl))
      try simp only [Act.put, List.setIfInBounds_toArray, List.set_cons_zero, List.set_cons_succ, List.getElem_toArray, List.getElem_cons_succ, List.getElem_cons_zero]
      refine' wpAnyH_take (i := 29) (v := _) rfl (by kernel_rfl) (by kernel_rfl) (by kernel_rfl) (fun _ _ _ h => h) (Or.inl ⟨by rfl, ?hye29⟩) hHeld ?reste29
      case hye29 => (intro w' hSw; (try dsimp only at hSw); go_simp; (try with_reducible rfl))
      try simp only [Act.put, List.setIfInBounds_toArray, List.set_cons_zero, List.set_cons_succ, List.getElem_toArray, List.getElem_cons_succ, List.getElem_cons_zero]
      refine wpAnyH_done (by kernel_rfl) ?_ _
      go_wp2_with fail
      have HE := Lib.hid (show correctN lg base opps steps at_ = false by rw [HC.out]; simp only [HOP.out, decide_eq_true he0]; rfl)
      go_ret
      exact ⟨by rw [HE.out] <;> rfl, X0.out.trans (by repeat (first | exact Ext.refl _ | assumption | apply Ext.alloc | apply Ext.drew))⟩
    · have HOP := Lib.hid hop
      obtain ⟨k, j, rfl, rfl, hk6, hj6⟩ := opposed_true hop HOL.out HOZ.out
      clear hop
      have BX := shl_one hk6
      have BY := shl_one hj6
      have MX : min k 64 = k := by omega
      have MY : min j 64 = j := by omega
      obtain ⟨z0, z1, z2, z3, z4, zfr, zlt⟩ := cells5s (heap_alloc_new w (.cells #[.int .u64 (s : Int), .int .i64 4, .int .i64 (k : Int), .int .i64 (j : Int), .slice Af fr.length cf] 34))
      have Z0 := Lib.hid z0
      have X0 := Lib.hid ((Ext.refl w).alloc (.cells #[.int .u64 (s : Int), .int .i64 4, .int .i64 (k : Int), .int .i64 (j : Int), .slice Af fr.length cf] 34))
      have D1 := Lib.hid d1
      have ZLT := Lib.hid zlt
      have HBW := Lib.hid hbw
      have d1w := (X0.out.cell (p := ⟨b, 1, none⟩) hbw).trans d1
      have hbz : b < (w.alloc (.cells #[.int .u64 (s : Int), .int .i64 4, .int .i64 (k : Int), .int .i64 (j : Int), .slice Af fr.length cf] 34)).heap.size := Nat.lt_of_lt_of_le hbw X0.out.size
      go_enter Try.func26, Try.ntmps26
      go_wp2_with fail
      refine wp_region_held_drew (S := fun w' => w'.cell? (⟨b, 1, none⟩) = some (.slice Ab base.length cb) ∧ w'.cell? (⟨w.heap.size, 0, none⟩) = some (.int .u64 (s : Int))) (by kernel_rfl) ⟨(Ext.cell (p := ⟨b, 1, none⟩) (by repeat (first | exact Ext.refl _ | assumption | apply Ext.alloc | apply Ext.drew)) hbz).trans d1w, (Ext.cell (p := ⟨w.heap.size, 0, none⟩) (by repeat (first | exact Ext.refl _ | assumption | apply Ext.alloc | apply Ext.drew)) zlt).trans z0⟩ (fun hHeld => ?_)
      refine' wpAnyH_take (i := 0) (v := _) rfl (by kernel_rfl) (by kernel_rfl) (by kernel_rfl) (fun _ _ _ h => h) (Or.inl ⟨by rfl, ?hyf0⟩) hHeld ?restf0
      case hyf0 => (intro w' hSw; (try dsimp only at hSw); go_simp; (try with_reducible rfl))
      try simp only [Act.put, List.setIfInBounds_toArray, List.set_cons_zero, List.set_cons_succ, List.getElem_toArray, List.getElem_cons_zero]
      refine' wpAnyH_take (i := 1) (v := _) rfl (by kernel_rfl) (by kernel_rfl) (by kernel_rfl) (fun _ _ _ h => h) (Or.inl ⟨by rfl, ?hyf1⟩) hHeld ?restf1
      case hyf1 => (intro w' hSw; (try dsimp only at hSw); go_simp; (try with_reducible rfl))
      try simp only [Act.put, List.setIfInBounds_toArray, List.set_cons_zero, List.set_cons_succ, List.getElem_toArray, List.getElem_cons_succ, List.getElem_cons_zero]
      refine' wpAnyH_take (i := 2) (v := _) rfl (by kernel_rfl) (by kernel_rfl) (by kernel_rfl) (fun _ _ _ h => h) (Or.inl ⟨by rfl, ?hyf2⟩) hHeld ?restf2
      case hyf2 => (intro w' hSw; (try dsimp only at hSw); go_simp; (try with_reducible rfl))
      try simp only [Act.put, List.setIfInBounds_toArray, List.set_cons_zero, List.set_cons_succ, List.getElem_toArray, List.getElem_cons_succ, List.getElem_cons_zero]
      refine' wpAnyH_take (i := 3) (v := _) rfl (by kernel_rfl) (by kernel_rfl) (by kernel_rfl) (fun _ _ _ h => h) (Or.inl ⟨by rfl, ?hyf3⟩) hHeld ?restf3
      case hyf3 => (intro w' hSw; (try dsimp only at hSw); go_simp; (try with_reducible rfl))
      try simp only [Act.put, List.setIfInBounds_toArray, List.set_cons_zero, List.set_cons_succ, List.getElem_toArray, List.getElem_cons_succ, List.getElem_cons_zero]
      refine' wpAnyH_take (i := 4) (v := _) rfl (by kernel_rfl) (by kernel_rfl) (by kernel_rfl) (fun _ _ _ h => h) (Or.inl ⟨by rfl, ?hyf4⟩) hHeld ?restf4
      case hyf4 => (intro w' hSw; (try dsimp only at hSw); go_simp; (try with_reducible rfl))
      try simp only [Act.put, List.setIfInBounds_toArray, List.set_cons_zero, List.set_cons_succ, List.getElem_toArray, List.getElem_cons_succ, List.getElem_cons_zero]
      refine' wpAnyH_take (i := 5) (v := _) rfl (by kernel_rfl) (by kernel_rfl) (by kernel_rfl) (fun _ _ _ h => h) (Or.inl ⟨by rfl, ?hyf5⟩) hHeld ?restf5
      case hyf5 => (intro w' hSw; (try dsimp only at hSw); go_simp; (try with_reducible rfl))
      try simp only [Act.put, List.setIfInBounds_toArray, List.set_cons_zero, List.set_cons_succ, List.getElem_toArray, List.getElem_cons_succ, List.getElem_cons_zero]
      refine' wpAnyH_take (i := 6) (v := _) rfl (by kernel_rfl) (by kernel_rfl) (by kernel_rfl) (fun _ _ _ h => h) (Or.inl ⟨by rfl, ?hyf6⟩) hHeld ?restf6
      case hyf6 => (intro w' hSw; (try dsimp only at hSw); go_simp; (try with_reducible rfl))
      try simp only [Act.put, List.setIfInBounds_toArray, List.set_cons_zero, List.set_cons_succ, List.getElem_toArray, List.getElem_cons_succ, List.getElem_cons_zero]
      refine wpAnyH_ready (rs := [7]) (by kernel_rfl) (by simp) ?_
      refine AllReadyH.cons rfl (fun K hK => ?_) AllReadyH.nil
      go_simp
      (go_at_call 35; refine (inside_eq Ab cb base s hset HLEN.out _).mono ?_; rintro e2 w2 ⟨rfl, rfl⟩; rw [HIN.out])
      go_wp2_with fail
      refine hK.out _ _ ⟨(Ext.cell (p := ⟨b, 1, none⟩) (by repeat (first | exact Ext.refl _ | assumption | apply Ext.alloc | apply Ext.drew)) hbz).trans d1w, (Ext.cell (p := ⟨w.heap.size, 0, none⟩) (by repeat (first | exact Ext.refl _ | assumption | apply Ext.alloc | apply Ext.drew)) zlt).trans z0⟩ (fun hHeld => ?_)
      clear hK K
      try simp only [Act.put, List.setIfInBounds_toArray, List.set_cons_zero, List.set_cons_succ, List.getElem_toArray, List.getElem_cons_succ, List.getElem_cons_zero]
      refine' wpAnyH_take (i := 8) (v := _) rfl (by kernel_rfl) (by kernel_rfl) (by kernel_rfl) (fun _ _ _ h => h) (Or.inl ⟨by rfl, ?hyf8⟩) hHeld ?restf8
      case hyf8 => (intro w' hSw; (try dsimp only at hSw); go_simp; (try with_reducible rfl))
      try simp only [Act.put, List.setIfInBounds_toArray, List.set_cons_zero, List.set_cons_succ, List.getElem_toArray, List.getElem_cons_succ, List.getElem_cons_zero]
      refine wpAnyH_done (by kernel_rfl) ?_ _
      go_wp2_with fail
      refine wp_region_held_drew (S := fun w' => w'.cell? (⟨w.heap.size, 0, none⟩) = some (.int .u64 (s : Int)) ∧ w'.cell? (⟨w.heap.size, 2, none⟩) = some (.int .i64 (k : Int)) ∧ w'.cell? (⟨w.heap.size, 3, none⟩) = some (.int .i64 (j : Int))) (by kernel_rfl) ⟨(Ext.cell (p := ⟨w.heap.size, 0, none⟩) (by repeat (first | exact Ext.refl _ | assumption | apply Ext.alloc | apply Ext.drew)) zlt).trans z0, (Ext.cell (p := ⟨w.heap.size, 2, none⟩) (by repeat (first | exact Ext.refl _ | assumption | apply Ext.alloc | apply Ext.drew)) zlt).trans z2, (Ext.cell (p := ⟨w.heap.size, 3, none⟩) (by repeat (first | exact Ext.refl _ | assumption | apply Ext.alloc | apply Ext.drew)) zlt).trans z3⟩ (fun hHeld => ?_)
      refine' wpAnyH_take (i := 0) (v := _) rfl (by kernel_rfl) (by kernel_rfl) (by kernel_rfl) (fun _ _ _ h => h) (Or.inl ⟨by rfl, ?hyg0⟩) hHeld ?restg0
      case hyg0 => (intro w' hSw; (try dsimp only at hSw); go_simp; (try with_reducible rfl))
      try simp only [Act.put, List.setIfInBounds_toArray, List.set_cons_zero, List.set_cons_succ, List.getElem_toArray, List.getElem_cons_zero]
      refine' wpAnyH_take (i := 1) (v := _) rfl (by kernel_rfl) (by kernel_rfl) (by kernel_rfl) (fun _ _ _ h => h) (Or.inl ⟨by rfl, ?hyg1⟩) hHeld ?restg1
      case hyg1 => (intro w' hSw; (try dsimp only at hSw); go_simp; (try with_reducible rfl))
      try simp only [Act.put, List.setIfInBounds_toArray, List.set_cons_zero, List.set_cons_succ, List.getElem_toArray, List.getElem_cons_succ, List.getElem_cons_zero]
      refine' wpAnyH_take (i := 2) (v := _) rfl (by kernel_rfl) (by kernel_rfl) (by kernel_rfl) (fun _ _ _ h => h) (Or.inl ⟨by rfl, ?hyg2⟩) hHeld ?restg2
      case hyg2 => (intro w' hSw; (try dsimp only at hSw); go_simp; (try with_reducible rfl))
      try simp only [Act.put, List.setIfInBounds_toArray, List.set_cons_zero, List.set_cons_succ, List.getElem_toArray, List.getElem_cons_succ, List.getElem_cons_zero]
      refine' wpAnyH_take (i := 3) (v := _) rfl (by kernel_rfl) (by kernel_rfl) (by kernel_rfl) (fun _ _ _ h => h) (Or.inl ⟨by rfl, ?hyg3⟩) hHeld ?restg3
      case hyg3 => (intro w' hSw; (try dsimp only at hSw); go_simp; (try with_reducible rfl))
      try simp only [Act.put, List.setIfInBounds_toArray, List.set_cons_zero, List.set_cons_succ, List.getElem_toArray, List.getElem_cons_succ, List.getElem_cons_zero]
      refine' wpAnyH_take (i := 4) (v := _) rfl (by kernel_rfl) (by kernel_rfl) (by kernel_rfl) (fun _ _ _ h => h) (Or.inl ⟨by rfl, ?hyg4⟩) hHeld ?restg4
      case hyg4 => (intro w' hSw; (try dsimp only at hSw); go_simp; (try with_reducible rfl))
      try simp only [Act.put, List.setIfInBounds_toArray, List.set_cons_zero, List.set_cons_succ, List.getElem_toArray, List.getElem_cons_succ, List.getElem_cons_zero]
      refine' wpAnyH_take (i := 5) (v := _) rfl (by kernel_rfl) (by kernel_rfl) (by kernel_rfl) (fun _ _ _ h => h) (Or.inl ⟨by rfl, ?hyg5⟩) hHeld ?restg5
      case hyg5 => (intro w' hSw; (try dsimp only at hSw); go_simp; (try with_reducible rfl))
      try simp only [Act.put, List.setIfInBounds_toArray, List.set_cons_zero, List.set_cons_succ, List.getElem_toArray, List.getElem_cons_succ, List.getElem_cons_zero]
      refine' wpAnyH_take (i := 6) (v := _) rfl (by kernel_rfl) (by kernel_rfl) (by kernel_rfl) (fun _ _ _ h => h) (Or.inl ⟨by rfl, ?hyg6⟩) hHeld ?restg6
      case hyg6 => (intro w' hSw; (try dsimp only at hSw); go_simp; (try with_reducible rfl))
      try simp only [Act.put, List.setIfInBounds_toArray, List.set_cons_zero, List.set_cons_succ, List.getElem_toArray, List.getElem_cons_succ, List.getElem_cons_zero]
      refine' wpAnyH_take (i := 7) (v := _) rfl (by kernel_rfl) (by kernel_rfl) (by kernel_rfl) (fun _ _ _ h => h) (Or.inl ⟨by rfl, ?hyg7⟩) hHeld ?restg7
      case hyg7 => (intro w' hSw; (try dsimp only at hSw); go_simp; (try with_reducible rfl))
      try simp only [Act.put, List.setIfInBounds_toArray, List.set_cons_zero, List.set_cons_succ, List.getElem_toArray, List.getElem_cons_succ, List.getElem_cons_zero]
      refine' wpAnyH_take (i := 8) (v := _) rfl (by kernel_rfl) (by kernel_rfl) (by kernel_rfl) (fun _ _ _ h => h) (Or.inl ⟨by rfl, ?hyg8⟩) hHeld ?restg8
      case hyg8 => (intro w' hSw; (try dsimp only at hSw); go_simp; (try with_reducible rfl))
      try simp only [Act.put, List.setIfInBounds_toArray, List.set_cons_zero, List.set_cons_succ, List.getElem_toArray, List.getElem_cons_succ, List.getElem_cons_zero]
      refine wpAnyH_ready (rs := [9]) (by kernel_rfl) (by simp) ?_
      refine AllReadyH.cons rfl (fun K hK => ?_) AllReadyH.nil
      go_simp
      (go_at_call 41; refine (opposed_any (H.out.ext (X0.out.trans (by exact (by repeat (first | exact Ext.refl _ | assumption | apply Ext.alloc | apply Ext.drew))))) (k : Int) (j : Int)).mono ?_; rintro e2 w5 ⟨rfl, hv⟩; rw [HOP.out]; have hx5 : Ext (w.alloc (.cells #[.int .u64 (s : Int), .int .i64 4, .int .i64 (k : Int), .int .i64 (j : Int), .slice Af fr.length cf] 34)) w5 := Ext.trans (by repeat (first | exact Ext.refl _ | assumption | apply Ext.alloc | apply Ext.drew)) hv; clear hv)
      go_wp2_with fail
      refine hK.out _ _ ⟨(Ext.cell (p := ⟨w.heap.size, 0, none⟩) (by repeat (first | exact Ext.refl _ | assumption | apply Ext.alloc | apply Ext.drew)) zlt).trans z0, (Ext.cell (p := ⟨w.heap.size, 2, none⟩) (by repeat (first | exact Ext.refl _ | assumption | apply Ext.alloc | apply Ext.drew)) zlt).trans z2, (Ext.cell (p := ⟨w.heap.size, 3, none⟩) (by repeat (first | exact Ext.refl _ | assumption | apply Ext.alloc | apply Ext.drew)) zlt).trans z3⟩ (fun hHeld => ?_)
      clear hK K
      try simp only [Act.put, List.setIfInBounds_toArray, List.set_cons_zero, List.set_cons_succ, List.getElem_toArray, List.getElem_cons_succ, List.getElem_cons_zero]
      refine' wpAnyH_take (i := 10) (v := _) rfl (by kernel_rfl) (by kernel_rfl) (by kernel_rfl) (fun _ _ _ h => h) (Or.inl ⟨by rfl, ?hyg10⟩) hHeld ?restg10
      case hyg10 => (intro w' hSw; (try dsimp only at hSw); go_simp; (try with_reducible rfl))
      try simp only [Act.put, List.setIfInBounds_toArray, List.set_cons_zero, List.set_cons_succ, List.getElem_toArray, List.getElem_cons_succ, List.getElem_cons_zero]
      refine' wpAnyH_take (i := 11) (v := _) rfl (by kernel_rfl) (by kernel_rfl) (by kernel_rfl) (fun _ _ _ h => h) (Or.inl ⟨by rfl, ?hyg11⟩) hHeld ?restg11
      case hyg11 => (intro w' hSw; (try dsimp only at hSw); go_simp; (try with_reducible rfl))
      try simp only [Act.put, List.setIfInBounds_toArray, List.set_cons_zero, List.set_cons_succ, List.getElem_toArray, List.getElem_cons_succ, List.getElem_cons_zero]
      refine' wpAnyH_take (i := 12) (v := _) rfl (by kernel_rfl) (by kernel_rfl) (by kernel_rfl) (fun _ _ _ h => h) (Or.inl ⟨by rfl, ?hyg12⟩) hHeld ?restg12
      case hyg12 => (intro w' hSw; (try dsimp only at hSw); go_simp; (try with_reducible rfl))
      try simp only [Act.put, List.setIfInBounds_toArray, List.set_cons_zero, List.set_cons_succ, List.getElem_toArray, List.getElem_cons_succ, List.getElem_cons_zero]
      refine' wpAnyH_take (i := 13) (v := _) rfl (by kernel_rfl) (by kernel_rfl) (by kernel_rfl) (fun _ _ _ h => h) (Or.inl ⟨by rfl, ?hyg13⟩) hHeld ?restg13
      case hyg13 => (intro w' hSw; (try dsimp only at hSw); go_simp; (try with_reducible rfl))
      try simp only [Act.put, List.setIfInBounds_toArray, List.set_cons_zero, List.set_cons_succ, List.getElem_toArray, List.getElem_cons_succ, List.getElem_cons_zero]
      refine' wpAnyH_take (i := 14) (v := _) rfl (by kernel_rfl) (by kernel_rfl) (by kernel_rfl) (fun _ _ _ h => h) (Or.inl ⟨by rfl, ?hyg14⟩) hHeld ?restg14
      case hyg14 => (intro w' hSw; (try dsimp only at hSw); go_simp; (try with_reducible rfl))
      try simp only [Act.put, List.setIfInBounds_toArray, List.set_cons_zero, List.set_cons_succ, List.getElem_toArray, List.getElem_cons_succ, List.getElem_cons_zero]
      refine' wpAnyH_take (i := 15) (v := _) rfl (by kernel_rfl) (by kernel_rfl) (by kernel_rfl) (fun _ _ _ h => h) (Or.inl ⟨by rfl, ?hyg15⟩) hHeld ?restg15
      case hyg15 => (intro w' hSw; (try dsimp only at hSw); go_simp; (try with_reducible rfl))
      try simp only [Act.put, List.setIfInBounds_toArray, List.set_cons_zero, List.set_cons_succ, List.getElem_toArray, List.getElem_cons_succ, List.getElem_cons_zero]
      refine' wpAnyH_take (i := 16) (v := _) rfl (by kernel_rfl) (by kernel_rfl) (by kernel_rfl) (fun _ _ _ h => h) (Or.inl ⟨by rfl, ?hyg16⟩) hHeld ?restg16
      case hyg16 => (intro w' hSw; (try dsimp only at hSw); go_simp; (try with_reducible rfl))
      try simp only [Act.put, List.setIfInBounds_toArray, List.set_cons_zero, List.set_cons_succ, List.getElem_toArray, List.getElem_cons_succ, List.getElem_cons_zero]
      refine' wpAnyH_take (i := 17) (v := _) rfl (by kernel_rfl) (by kernel_rfl) (by kernel_rfl) (fun _ _ _ h => h) (Or.inl ⟨by rfl, ?hyg17⟩) hHeld ?restg17
      case hyg17 => (intro w' hSw; (try dsimp only at hSw); go_simp; (try with_reducible rfl))
      try simp only [Act.put, List.setIfInBounds_toArray, List.set_cons_zero, List.set_cons_succ, List.getElem_toArray, List.getElem_cons_succ, List.getElem_cons_zero]
      refine' wpAnyH_take (i := 18) (v := _) rfl (by kernel_rfl) (by kernel_rfl) (by kernel_rfl) (fun _ _ _ h => h) (Or.inl ⟨by rfl, ?hyg18⟩) hHeld ?restg18
      case hyg18 => (intro w' hSw; (try dsimp only at hSw); go_simp; (try with_reducible rfl))
      try simp only [Act.put, List.setIfInBounds_toArray, List.set_cons_zero, List.set_cons_succ, List.getElem_toArray, List.getElem_cons_succ, List.getElem_cons_zero]
      refine' wpAnyH_take (i := 19) (v := _) rfl (by kernel_rfl) (by kernel_rfl) (by kernel_rfl) (fun _ _ _ h => h) (Or.inl ⟨by rfl, ?hyg19⟩) hHeld ?restg19
      case hyg19 => (intro w' hSw; (try dsimp only at hSw); go_simp; (try with_reducible rfl))
      try simp only [Act.put, List.setIfInBounds_toArray, List.set_cons_zero, List.set_cons_succ, List.getElem_toArray, List.getElem_cons_succ, List.getElem_cons_zero]
      refine' wpAnyH_take (i := 20) (v := _) rfl (by kernel_rfl) (by kernel_rfl) (by kernel_rfl) (fun _ _ _ h => h) (Or.inl ⟨by rfl, ?hyg20⟩) hHeld ?restg20
      case hyg20 => (intro w' hSw; (try dsimp only at hSw); go_simp; (try with_reducible rfl))
      try simp only [Act.put, List.setIfInBounds_toArray, List.set_cons_zero, List.set_cons_succ, List.getElem_toArray, List.getElem_cons_succ, List.getElem_cons_zero]
      refine' wpAnyH_take (i := 21) (v := _) rfl (by kernel_rfl) (by kernel_rfl) (by kernel_rfl) (fun _ _ _ h => h) (Or.inl ⟨by rfl, ?hyg21⟩) hHeld ?restg21
      case hyg21 => (intro w' hSw; (try dsimp only at hSw); go_simp; (try with_reducible rfl))
      try simp only [Act.put, List.setIfInBounds_toArray, List.set_cons_zero, List.set_cons_succ, List.getElem_toArray, List.getElem_cons_succ, List.getElem_cons_zero]
      refine' wpAnyH_take (i := 22) (v := _) rfl (by kernel_rfl) (by kernel_rfl) (by kernel_rfl) (fun _ _ _ h => h) (Or.inl ⟨by rfl, ?hyg22⟩) hHeld ?restg22
      case hyg22 => (intro w' hSw; (try dsimp only at hSw); go_simp; (try with_reducible rfl))
      try simp only [Act.put, List.setIfInBounds_toArray, List.set_cons_zero, List.set_cons_succ, List.getElem_toArray, List.getElem_cons_succ, List.getElem_cons_zero]
      refine' wpAnyH_take (i := 23) (v := _) rfl (by kernel_rfl) (by kernel_rfl) (by kernel_rfl) (fun _ _ _ h => h) (Or.inl ⟨by rfl, ?hyg23⟩) hHeld ?restg23
      case hyg23 => (intro w' hSw; (try dsimp only at hSw); go_simp; (try with_reducible rfl))
      try simp only [Act.put, List.setIfInBounds_toArray, List.set_cons_zero, List.set_cons_succ, List.getElem_toArray, List.getElem_cons_succ, List.getElem_cons_zero]
      refine' wpAnyH_take (i := 24) (v := _) rfl (by kernel_rfl) (by kernel_rfl) (by kernel_rfl) (fun _ _ _ h => h) (Or.inl ⟨by rfl, ?hyg24⟩) hHeld ?restg24
      case hyg24 => (intro w' hSw; (try dsimp only at hSw); go_simp; (try with_reducible rfl))
      try simp only [Act.put, List.setIfInBounds_toArray, List.set_cons_zero, List.set_cons_succ, List.getElem_toArray, List.getElem_cons_succ, List.getElem_cons_zero]
      refine' wpAnyH_take (i := 25) (v := _) rfl (by kernel_rfl) (by kernel_rfl) (by kernel_rfl) (fun _ _ _ h => h) (Or.inl ⟨by rfl, ?hyg25⟩) hHeld ?restg25
      case hyg25 => (intro w' hSw; (try dsimp only at hSw); go_simp; (try with_reducible rfl))
      try simp only [Act.put, List.setIfInBounds_toArray, List.set_cons_zero, List.set_cons_succ, List.getElem_toArray, List.getElem_cons_succ, List.getElem_cons_zero]
      refine wpAnyH_ready (rs := [26]) (by kernel_rfl) (by simp) ?_
      refine AllReadyH.cons rfl (fun K hK => ?_) AllReadyH.nil
      go_simp
      refine hK.out _ _ ⟨(Ext.cell (p := ⟨w.heap.size, 0, none⟩) (by repeat (first | exact Ext.refl _ | assumption | apply Ext.alloc | apply Ext.drew)) zlt).trans z0, (Ext.cell (p := ⟨w.heap.size, 2, none⟩) (by repeat (first | exact Ext.refl _ | assumption | apply Ext.alloc | apply Ext.drew)) zlt).trans z2, (Ext.cell (p := ⟨w.heap.size, 3, none⟩) (by repeat (first | exact Ext.refl _ | assumption | apply Ext.alloc | apply Ext.drew)) zlt).trans z3⟩ (fun hHeld => ?_)
      clear hK K
      try simp only [Act.put, List.setIfInBounds_toArray, List.set_cons_zero, List.set_cons_succ, List.getElem_toArray, List.getElem_cons_succ, List.getElem_cons_zero]
      refine wpAnyH_ready (rs := [27]) (by kernel_rfl) (by simp) ?_
      refine AllReadyH.cons rfl (fun K hK => ?_) AllReadyH.nil
      go_simp
      (go_at_call 42; refine (premises_any (H.out.ext (X0.out.trans (by exact (by repeat (first | exact Ext.refl _ | assumption | apply Ext.alloc | apply Ext.drew))))) at_ HAT.out _ [s ||| 2 ^ k, s ||| 2 ^ j] (by exact sets_two (by rw [or_pow hset hk6]) (or_lt64 hset (two_pow_lt64 hk6)) (by rw [or_pow hset hj6]) (or_lt64 hset (two_pow_lt64 hj6)) (by simp))).mono ?_; rintro e2 w7 ⟨rfl, hv⟩; have hx7 : Ext (w.alloc (.cells #[.int .u64 (s : Int), .int .i64 4, .int .i64 (k : Int), .int .i64 (j : Int), .slice Af fr.length cf] 34)) w7 := Ext.trans (by repeat (first | exact Ext.refl _ | assumption | apply Ext.alloc | apply Ext.drew)) hv; clear hv)
      go_wp2_with fail
      refine hK.out _ _ ⟨(Ext.cell (p := ⟨w.heap.size, 0, none⟩) (by repeat (first | exact Ext.refl _ | assumption | apply Ext.alloc | apply Ext.drew)) zlt).trans z0, (Ext.cell (p := ⟨w.heap.size, 2, none⟩) (by repeat (first | exact Ext.refl _ | assumption | apply Ext.alloc | apply Ext.drew)) zlt).trans z2, (Ext.cell (p := ⟨w.heap.size, 3, none⟩) (by repeat (first | exact Ext.refl _ | assumption | apply Ext.alloc | apply Ext.drew)) zlt).trans z3⟩ (fun hHeld => ?_)
      clear hK K
      try simp only [Act.put, List.setIfInBounds_toArray, List.set_cons_zero, List.set_cons_succ, List.getElem_toArray, List.getElem_cons_succ, List.getElem_cons_zero]
      refine' wpAnyH_take (i := 28) (v := _) rfl (by kernel_rfl) (by kernel_rfl) (by kernel_rfl) (fun _ _ _ h => h) (Or.inl ⟨by rfl, ?hyg28⟩) hHeld ?restg28
      case hyg28 => (intro w' hSw; (try dsimp only at hSw); go_simp; (try with_reducible rfl))
      try simp only [Act.put, List.setIfInBounds_toArray, List.set_cons_zero, List.set_cons_succ, List.getElem_toArray, List.getElem_cons_succ, List.getElem_cons_zero]
      refine' wpAnyH_take (i := 29) (v := _) rfl (by kernel_rfl) (by kernel_rfl) (by kernel_rfl) (fun _ _ _ h => h) (Or.inl ⟨by rfl, ?hyg29⟩) hHeld ?restg29
      case hyg29 => (intro w' hSw; (try dsimp only at hSw); go_simp; (try with_reducible rfl))
      try simp only [Act.put, List.setIfInBounds_toArray, List.set_cons_zero, List.set_cons_succ, List.getElem_toArray, List.getElem_cons_succ, List.getElem_cons_zero]
      refine wpAnyH_done (by kernel_rfl) ?_ _
      go_wp2_with fail
      have HE := Lib.hid (show correctN lg base opps steps at_ = premN steps at_ [s ||| 2 ^ k, s ||| 2 ^ j] by rw [HC.out]; simp only [HOP.out, decide_eq_true he0]; rfl)
      go_ret
      exact ⟨by rw [HE.out] <;> rfl, X0.out.trans (by repeat (first | exact Ext.refl _ | assumption | apply Ext.alloc | apply Ext.drew))⟩
  · have he0d : decide (0 ≤ e) = false := decide_eq_false he0
    have H0D := Lib.hid he0d
    obtain ⟨z0, z1, z2, z3, z4, zfr, zlt⟩ := cells5s (heap_alloc_new w (.cells #[.int .u64 (s : Int), .int .i64 4, .int .i64 on, .int .i64 e, .slice Af fr.length cf] 34))
    have Z0 := Lib.hid z0
    have X0 := Lib.hid ((Ext.refl w).alloc (.cells #[.int .u64 (s : Int), .int .i64 4, .int .i64 on, .int .i64 e, .slice Af fr.length cf] 34))
    have D1 := Lib.hid d1
    have ZLT := Lib.hid zlt
    have HBW := Lib.hid hbw
    have d1w := (X0.out.cell (p := ⟨b, 1, none⟩) hbw).trans d1
    have hbz : b < (w.alloc (.cells #[.int .u64 (s : Int), .int .i64 4, .int .i64 on, .int .i64 e, .slice Af fr.length cf] 34)).heap.size := Nat.lt_of_lt_of_le hbw X0.out.size
    go_enter Try.func26, Try.ntmps26
    go_wp2_with fail
    refine wp_region_held_drew (S := fun w' => w'.cell? (⟨b, 1, none⟩) = some (.slice Ab base.length cb) ∧ w'.cell? (⟨w.heap.size, 0, none⟩) = some (.int .u64 (s : Int))) (by kernel_rfl) ⟨(Ext.cell (p := ⟨b, 1, none⟩) (by repeat (first | exact Ext.refl _ | assumption | apply Ext.alloc | apply Ext.drew)) hbz).trans d1w, (Ext.cell (p := ⟨w.heap.size, 0, none⟩) (by repeat (first | exact Ext.refl _ | assumption | apply Ext.alloc | apply Ext.drew)) zlt).trans z0⟩ (fun hHeld => ?_)
    refine' wpAnyH_take (i := 0) (v := _) rfl (by kernel_rfl) (by kernel_rfl) (by kernel_rfl) (fun _ _ _ h => h) (Or.inl ⟨by rfl, ?hyh0⟩) hHeld ?resth0
    case hyh0 => (intro w' hSw; (try dsimp only at hSw); go_simp; (try with_reducible rfl))
    try simp only [Act.put, List.setIfInBounds_toArray, List.set_cons_zero, List.set_cons_succ, List.getElem_toArray, List.getElem_cons_zero]
    refine' wpAnyH_take (i := 1) (v := _) rfl (by kernel_rfl) (by kernel_rfl) (by kernel_rfl) (fun _ _ _ h => h) (Or.inl ⟨by rfl, ?hyh1⟩) hHeld ?resth1
    case hyh1 => (intro w' hSw; (try dsimp only at hSw); go_simp; (try with_reducible rfl))
    try simp only [Act.put, List.setIfInBounds_toArray, List.set_cons_zero, List.set_cons_succ, List.getElem_toArray, List.getElem_cons_succ, List.getElem_cons_zero]
    refine' wpAnyH_take (i := 2) (v := _) rfl (by kernel_rfl) (by kernel_rfl) (by kernel_rfl) (fun _ _ _ h => h) (Or.inl ⟨by rfl, ?hyh2⟩) hHeld ?resth2
    case hyh2 => (intro w' hSw; (try dsimp only at hSw); go_simp; (try with_reducible rfl))
    try simp only [Act.put, List.setIfInBounds_toArray, List.set_cons_zero, List.set_cons_succ, List.getElem_toArray, List.getElem_cons_succ, List.getElem_cons_zero]
    refine' wpAnyH_take (i := 3) (v := _) rfl (by kernel_rfl) (by kernel_rfl) (by kernel_rfl) (fun _ _ _ h => h) (Or.inl ⟨by rfl, ?hyh3⟩) hHeld ?resth3
    case hyh3 => (intro w' hSw; (try dsimp only at hSw); go_simp; (try with_reducible rfl))
    try simp only [Act.put, List.setIfInBounds_toArray, List.set_cons_zero, List.set_cons_succ, List.getElem_toArray, List.getElem_cons_succ, List.getElem_cons_zero]
    refine' wpAnyH_take (i := 4) (v := _) rfl (by kernel_rfl) (by kernel_rfl) (by kernel_rfl) (fun _ _ _ h => h) (Or.inl ⟨by rfl, ?hyh4⟩) hHeld ?resth4
    case hyh4 => (intro w' hSw; (try dsimp only at hSw); go_simp; (try with_reducible rfl))
    try simp only [Act.put, List.setIfInBounds_toArray, List.set_cons_zero, List.set_cons_succ, List.getElem_toArray, List.getElem_cons_succ, List.getElem_cons_zero]
    refine' wpAnyH_take (i := 5) (v := _) rfl (by kernel_rfl) (by kernel_rfl) (by kernel_rfl) (fun _ _ _ h => h) (Or.inl ⟨by rfl, ?hyh5⟩) hHeld ?resth5
    case hyh5 => (intro w' hSw; (try dsimp only at hSw); go_simp; (try with_reducible rfl))
    try simp only [Act.put, List.setIfInBounds_toArray, List.set_cons_zero, List.set_cons_succ, List.getElem_toArray, List.getElem_cons_succ, List.getElem_cons_zero]
    refine' wpAnyH_take (i := 6) (v := _) rfl (by kernel_rfl) (by kernel_rfl) (by kernel_rfl) (fun _ _ _ h => h) (Or.inl ⟨by rfl, ?hyh6⟩) hHeld ?resth6
    case hyh6 => (intro w' hSw; (try dsimp only at hSw); go_simp; (try with_reducible rfl))
    try simp only [Act.put, List.setIfInBounds_toArray, List.set_cons_zero, List.set_cons_succ, List.getElem_toArray, List.getElem_cons_succ, List.getElem_cons_zero]
    refine wpAnyH_ready (rs := [7]) (by kernel_rfl) (by simp) ?_
    refine AllReadyH.cons rfl (fun K hK => ?_) AllReadyH.nil
    go_simp
    (go_at_call 35; refine (inside_eq Ab cb base s hset HLEN.out _).mono ?_; rintro e2 w2 ⟨rfl, rfl⟩; rw [HIN.out])
    go_wp2_with fail
    refine hK.out _ _ ⟨(Ext.cell (p := ⟨b, 1, none⟩) (by repeat (first | exact Ext.refl _ | assumption | apply Ext.alloc | apply Ext.drew)) hbz).trans d1w, (Ext.cell (p := ⟨w.heap.size, 0, none⟩) (by repeat (first | exact Ext.refl _ | assumption | apply Ext.alloc | apply Ext.drew)) zlt).trans z0⟩ (fun hHeld => ?_)
    clear hK K
    try simp only [Act.put, List.setIfInBounds_toArray, List.set_cons_zero, List.set_cons_succ, List.getElem_toArray, List.getElem_cons_succ, List.getElem_cons_zero]
    refine' wpAnyH_take (i := 8) (v := _) rfl (by kernel_rfl) (by kernel_rfl) (by kernel_rfl) (fun _ _ _ h => h) (Or.inl ⟨by rfl, ?hyh8⟩) hHeld ?resth8
    case hyh8 => (intro w' hSw; (try dsimp only at hSw); go_simp; (try with_reducible rfl))
    try simp only [Act.put, List.setIfInBounds_toArray, List.set_cons_zero, List.set_cons_succ, List.getElem_toArray, List.getElem_cons_succ, List.getElem_cons_zero]
    refine wpAnyH_done (by kernel_rfl) ?_ _
    go_wp2_with fail
    refine wp_region_held_drew (S := fun w' => w'.cell? (⟨w.heap.size, 0, none⟩) = some (.int .u64 (s : Int)) ∧ w'.cell? (⟨w.heap.size, 2, none⟩) = some (.int .i64 on) ∧ w'.cell? (⟨w.heap.size, 3, none⟩) = some (.int .i64 e)) (by kernel_rfl) ⟨(Ext.cell (p := ⟨w.heap.size, 0, none⟩) (by repeat (first | exact Ext.refl _ | assumption | apply Ext.alloc | apply Ext.drew)) zlt).trans z0, (Ext.cell (p := ⟨w.heap.size, 2, none⟩) (by repeat (first | exact Ext.refl _ | assumption | apply Ext.alloc | apply Ext.drew)) zlt).trans z2, (Ext.cell (p := ⟨w.heap.size, 3, none⟩) (by repeat (first | exact Ext.refl _ | assumption | apply Ext.alloc | apply Ext.drew)) zlt).trans z3⟩ (fun hHeld => ?_)
    refine' wpAnyH_take (i := 0) (v := _) rfl (by kernel_rfl) (by kernel_rfl) (by kernel_rfl) (fun _ _ _ h => h) (Or.inl ⟨by rfl, ?hyi0⟩) hHeld ?resti0
    case hyi0 => (intro w' hSw; (try dsimp only at hSw); go_simp; (try with_reducible rfl))
    try simp only [Act.put, List.setIfInBounds_toArray, List.set_cons_zero, List.set_cons_succ, List.getElem_toArray, List.getElem_cons_zero]
    refine' wpAnyH_take (i := 1) (v := _) rfl (by kernel_rfl) (by kernel_rfl) (by kernel_rfl) (fun _ _ _ h => h) (Or.inl ⟨by rfl, ?hyi1⟩) hHeld ?resti1
    case hyi1 => (intro w' hSw; (try dsimp only at hSw); go_simp; (try with_reducible rfl))
    try simp only [Act.put, List.setIfInBounds_toArray, List.set_cons_zero, List.set_cons_succ, List.getElem_toArray, List.getElem_cons_succ, List.getElem_cons_zero]
    refine' wpAnyH_take (i := 2) (v := _) rfl (by kernel_rfl) (by kernel_rfl) (by kernel_rfl) (fun _ _ _ h => h) (Or.inl ⟨by rfl, ?hyi2⟩) hHeld ?resti2
    case hyi2 => (intro w' hSw; (try dsimp only at hSw); go_simp; (try with_reducible rfl))
    try simp only [Act.put, List.setIfInBounds_toArray, List.set_cons_zero, List.set_cons_succ, List.getElem_toArray, List.getElem_cons_succ, List.getElem_cons_zero]
    refine' wpAnyH_take (i := 3) (v := _) rfl (by kernel_rfl) (by kernel_rfl) (by kernel_rfl) (fun _ _ _ h => h) (Or.inl ⟨by rfl, ?hyi3⟩) hHeld ?resti3
    case hyi3 => (intro w' hSw; (try dsimp only at hSw); go_simp; (try with_reducible rfl))
    try simp only [Act.put, List.setIfInBounds_toArray, List.set_cons_zero, List.set_cons_succ, List.getElem_toArray, List.getElem_cons_succ, List.getElem_cons_zero]
    refine wpAnyH_take (i := 4) (v := undef) rfl (by kernel_rfl) (by kernel_rfl) (by kernel_rfl) (fun _ _ _ h => h) (Or.inr ⟨by rfl, rfl⟩) hHeld ?_
    try simp only [Act.put, List.setIfInBounds_toArray, List.set_cons_zero, List.set_cons_succ, List.getElem_toArray, List.getElem_cons_succ, List.getElem_cons_zero]
    refine wpAnyH_take (i := 5) (v := undef) rfl (by kernel_rfl) (by kernel_rfl) (by kernel_rfl) (fun _ _ _ h => h) (Or.inr ⟨by rfl, rfl⟩) hHeld ?_
    try simp only [Act.put, List.setIfInBounds_toArray, List.set_cons_zero, List.set_cons_succ, List.getElem_toArray, List.getElem_cons_succ, List.getElem_cons_zero]
    refine wpAnyH_take (i := 6) (v := undef) rfl (by kernel_rfl) (by kernel_rfl) (by kernel_rfl) (fun _ _ _ h => h) (Or.inr ⟨by rfl, rfl⟩) hHeld ?_
    try simp only [Act.put, List.setIfInBounds_toArray, List.set_cons_zero, List.set_cons_succ, List.getElem_toArray, List.getElem_cons_succ, List.getElem_cons_zero]
    refine wpAnyH_take (i := 7) (v := undef) rfl (by kernel_rfl) (by kernel_rfl) (by kernel_rfl) (fun _ _ _ h => h) (Or.inr ⟨by rfl, rfl⟩) hHeld ?_
    try simp only [Act.put, List.setIfInBounds_toArray, List.set_cons_zero, List.set_cons_succ, List.getElem_toArray, List.getElem_cons_succ, List.getElem_cons_zero]
    refine wpAnyH_take (i := 8) (v := undef) rfl (by kernel_rfl) (by kernel_rfl) (by kernel_rfl) (fun _ _ _ h => h) (Or.inr ⟨by rfl, rfl⟩) hHeld ?_
    try simp only [Act.put, List.setIfInBounds_toArray, List.set_cons_zero, List.set_cons_succ, List.getElem_toArray, List.getElem_cons_succ, List.getElem_cons_zero]
    refine wpAnyH_take (i := 9) (v := undef) rfl (by kernel_rfl) (by kernel_rfl) (by kernel_rfl) (fun _ _ _ h => h) (Or.inr ⟨by rfl, rfl⟩) hHeld ?_
    try simp only [Act.put, List.setIfInBounds_toArray, List.set_cons_zero, List.set_cons_succ, List.getElem_toArray, List.getElem_cons_succ, List.getElem_cons_zero]
    refine' wpAnyH_take (i := 10) (v := _) rfl (by kernel_rfl) (by kernel_rfl) (by kernel_rfl) (fun _ _ _ h => h) (Or.inl ⟨by rfl, ?hyi10⟩) hHeld ?resti10
    case hyi10 => (intro w' hSw; (try dsimp only at hSw); go_simp; (try with_reducible rfl))
    try simp only [Act.put, List.setIfInBounds_toArray, List.set_cons_zero, List.set_cons_succ, List.getElem_toArray, List.getElem_cons_succ, List.getElem_cons_zero]
    refine' wpAnyH_take (i := 11) (v := _) rfl (by kernel_rfl) (by kernel_rfl) (by kernel_rfl) (fun _ _ _ h => h) (Or.inl ⟨by rfl, ?hyi11⟩) hHeld ?resti11
    case hyi11 => (intro w' hSw; (try dsimp only at hSw); go_simp; (try with_reducible rfl))
    try simp only [Act.put, List.setIfInBounds_toArray, List.set_cons_zero, List.set_cons_succ, List.getElem_toArray, List.getElem_cons_succ, List.getElem_cons_zero]
    refine wpAnyH_take (i := 12) (v := undef) rfl (by kernel_rfl) (by kernel_rfl) (by kernel_rfl) (fun _ _ _ h => h) (Or.inr ⟨by rfl, rfl⟩) hHeld ?_
    try simp only [Act.put, List.setIfInBounds_toArray, List.set_cons_zero, List.set_cons_succ, List.getElem_toArray, List.getElem_cons_succ, List.getElem_cons_zero]
    refine wpAnyH_take (i := 13) (v := undef) rfl (by kernel_rfl) (by kernel_rfl) (by kernel_rfl) (fun _ _ _ h => h) (Or.inr ⟨by rfl, rfl⟩) hHeld ?_
    try simp only [Act.put, List.setIfInBounds_toArray, List.set_cons_zero, List.set_cons_succ, List.getElem_toArray, List.getElem_cons_succ, List.getElem_cons_zero]
    refine wpAnyH_take (i := 14) (v := undef) rfl (by kernel_rfl) (by kernel_rfl) (by kernel_rfl) (fun _ _ _ h => h) (Or.inr ⟨by rfl, rfl⟩) hHeld ?_
    try simp only [Act.put, List.setIfInBounds_toArray, List.set_cons_zero, List.set_cons_succ, List.getElem_toArray, List.getElem_cons_succ, List.getElem_cons_zero]
    refine wpAnyH_take (i := 15) (v := undef) rfl (by kernel_rfl) (by kernel_rfl) (by kernel_rfl) (fun _ _ _ h => h) (Or.inr ⟨by rfl, rfl⟩) hHeld ?_
    try simp only [Act.put, List.setIfInBounds_toArray, List.set_cons_zero, List.set_cons_succ, List.getElem_toArray, List.getElem_cons_succ, List.getElem_cons_zero]
    refine wpAnyH_take (i := 16) (v := undef) rfl (by kernel_rfl) (by kernel_rfl) (by kernel_rfl) (fun _ _ _ h => h) (Or.inr ⟨by rfl, rfl⟩) hHeld ?_
    try simp only [Act.put, List.setIfInBounds_toArray, List.set_cons_zero, List.set_cons_succ, List.getElem_toArray, List.getElem_cons_succ, List.getElem_cons_zero]
    refine wpAnyH_take (i := 17) (v := undef) rfl (by kernel_rfl) (by kernel_rfl) (by kernel_rfl) (fun _ _ _ h => h) (Or.inr ⟨by rfl, rfl⟩) hHeld ?_
    try simp only [Act.put, List.setIfInBounds_toArray, List.set_cons_zero, List.set_cons_succ, List.getElem_toArray, List.getElem_cons_succ, List.getElem_cons_zero]
    refine wpAnyH_take (i := 18) (v := undef) rfl (by kernel_rfl) (by kernel_rfl) (by kernel_rfl) (fun _ _ _ h => h) (Or.inr ⟨by rfl, rfl⟩) hHeld ?_
    try simp only [Act.put, List.setIfInBounds_toArray, List.set_cons_zero, List.set_cons_succ, List.getElem_toArray, List.getElem_cons_succ, List.getElem_cons_zero]
    refine wpAnyH_take (i := 19) (v := undef) rfl (by kernel_rfl) (by kernel_rfl) (by kernel_rfl) (fun _ _ _ h => h) (Or.inr ⟨by rfl, rfl⟩) hHeld ?_
    try simp only [Act.put, List.setIfInBounds_toArray, List.set_cons_zero, List.set_cons_succ, List.getElem_toArray, List.getElem_cons_succ, List.getElem_cons_zero]
    refine wpAnyH_take (i := 20) (v := undef) rfl (by kernel_rfl) (by kernel_rfl) (by kernel_rfl) (fun _ _ _ h => h) (Or.inr ⟨by rfl, rfl⟩) hHeld ?_
    try simp only [Act.put, List.setIfInBounds_toArray, List.set_cons_zero, List.set_cons_succ, List.getElem_toArray, List.getElem_cons_succ, List.getElem_cons_zero]
    refine wpAnyH_take (i := 21) (v := undef) rfl (by kernel_rfl) (by kernel_rfl) (by kernel_rfl) (fun _ _ _ h => h) (Or.inr ⟨by rfl, rfl⟩) hHeld ?_
    try simp only [Act.put, List.setIfInBounds_toArray, List.set_cons_zero, List.set_cons_succ, List.getElem_toArray, List.getElem_cons_succ, List.getElem_cons_zero]
    refine wpAnyH_take (i := 22) (v := undef) rfl (by kernel_rfl) (by kernel_rfl) (by kernel_rfl) (fun _ _ _ h => h) (Or.inr ⟨by rfl, rfl⟩) hHeld ?_
    try simp only [Act.put, List.setIfInBounds_toArray, List.set_cons_zero, List.set_cons_succ, List.getElem_toArray, List.getElem_cons_succ, List.getElem_cons_zero]
    refine wpAnyH_take (i := 23) (v := undef) rfl (by kernel_rfl) (by kernel_rfl) (by kernel_rfl) (fun _ _ _ h => h) (Or.inr ⟨by rfl, rfl⟩) hHeld ?_
    try simp only [Act.put, List.setIfInBounds_toArray, List.set_cons_zero, List.set_cons_succ, List.getElem_toArray, List.getElem_cons_succ, List.getElem_cons_zero]
    refine wpAnyH_take (i := 24) (v := undef) rfl (by kernel_rfl) (by kernel_rfl) (by kernel_rfl) (fun _ _ _ h => h) (Or.inr ⟨by rfl, rfl⟩) hHeld ?_
    try simp only [Act.put, List.setIfInBounds_toArray, List.set_cons_zero, List.set_cons_succ, List.getElem_toArray, List.getElem_cons_succ, List.getElem_cons_zero]
    refine wpAnyH_take (i := 25) (v := undef) rfl (by kernel_rfl) (by kernel_rfl) (by kernel_rfl) (fun _ _ _ h => h) (Or.inr ⟨by rfl, rfl⟩) hHeld ?_
    try simp only [Act.put, List.setIfInBounds_toArray, List.set_cons_zero, List.set_cons_succ, List.getElem_toArray, List.getElem_cons_succ, List.getElem_cons_zero]
    refine wpAnyH_take (i := 26) (v := undef) rfl (by kernel_rfl) (by kernel_rfl) (by kernel_rfl) (fun _ _ _ h => h) (Or.inr ⟨by rfl, rfl⟩) hHeld ?_
    try simp only [Act.put, List.setIfInBounds_toArray, List.set_cons_zero, List.set_cons_succ, List.getElem_toArray, List.getElem_cons_succ, List.getElem_cons_zero]
    refine wpAnyH_take (i := 27) (v := undef) rfl (by kernel_rfl) (by kernel_rfl) (by kernel_rfl) (fun _ _ _ h => h) (Or.inr ⟨by rfl, rfl⟩) hHeld ?_
    try simp only [Act.put, List.setIfInBounds_toArray, List.set_cons_zero, List.set_cons_succ, List.getElem_toArray, List.getElem_cons_succ, List.getElem_cons_zero]
    refine' wpAnyH_take (i := 28) (v := _) rfl (by kernel_rfl) (by kernel_rfl) (by kernel_rfl) (fun _ _ _ h => h) (Or.inl ⟨by rfl, ?hyi28⟩) hHeld ?resti28
    case hyi28 => (intro w' hSw; (try dsimp only at hSw); go_simp; (try with_reducible rfl))
    try simp only [Act.put, List.setIfInBounds_toArray, List.set_cons_zero, List.set_cons_succ, List.getElem_toArray, List.getElem_cons_succ, List.getElem_cons_zero]
    refine' wpAnyH_take (i := 29) (v := _) rfl (by kernel_rfl) (by kernel_rfl) (by kernel_rfl) (fun _ _ _ h => h) (Or.inl ⟨by rfl, ?hyi29⟩) hHeld ?resti29
    case hyi29 => (intro w' hSw; (try dsimp only at hSw); go_simp; (try with_reducible rfl))
    try simp only [Act.put, List.setIfInBounds_toArray, List.set_cons_zero, List.set_cons_succ, List.getElem_toArray, List.getElem_cons_succ, List.getElem_cons_zero]
    refine wpAnyH_done (by kernel_rfl) ?_ _
    go_wp2_with fail
    have HE := Lib.hid (show correctN lg base opps steps at_ = false by rw [HC.out]; simp only [H0D.out]; rfl)
    go_ret
    exact ⟨by rw [HE.out] <;> rfl, X0.out.trans (by repeat (first | exact Ext.refl _ | assumption | apply Ext.alloc | apply Ext.drew))⟩
end Go.Proofs.Ytfcmdiigfgbgbaa
