/- sequent's correct: RuleAnd. -/
import Derived.Test.YtdpblciohodgcaaGreatDoorS18
import Derived.Test.YtdpblciohodgcaaGreatDoorS13

namespace Go.Proofs.YtdpblciohodgcaaGreatDoor
open Go.RowKit

set_option maxRecDepth 100000 in
set_option maxHeartbeats 8000000 in
theorem correct_and {w : World} {b : Nat} {lg : Int} {base : List Nd} {steps : List Stp} {opps : List Int} (h : SChk w b lg base steps opps) (hb : baseErr base = 0) (hol : opps.length ≤ 64) (hoz : ∀ z ∈ opps, z < 64) (at_ : Nat) (hat : at_ < steps.length) (s : Nat) (ru on e : Int) (fr : List Int) (hx : steps[at_]? = some ⟨s, ru, on, e, fr⟩) (hins : insideS base s = true) (hr : ru = 2) :
    Calls Tryz.prog 41 #[.pointer (some ⟨b, 0, none⟩), .int .i64 (at_ : Int)] w fun e w' => e = .returned (.bool (correctN lg base opps steps at_)) ∧ Ext w w' := by
  obtain ⟨ad, c, h1, h2, hblk, d2, hrow⟩ := h.rows (by intro e; rw [e] at hat; simp at hat)
  obtain ⟨ur, q0, q1, q2, q3, q4, ⟨Af, cf, rfl, _⟩, hset⟩ := hrow at_ _ hx
  obtain ⟨Ab, cb, As, cs, Ao, co, d0, d1, _, _, hF, _, _⟩ := h.cells
  have hlen : 1 ≤ base.length ∧ base.length ≤ 64 := ⟨by have := (check_parts (baseErr_ok hb).1).1; omega, (baseErr_ok hb).2.1⟩
  have HF := Lib.hid hF
  have H := Lib.hid h
  have HB := Lib.hid hb
  have HAT := Lib.hid hat
  have HLEN := Lib.hid hlen
  have HX := Lib.hid hx
  have HOL := Lib.hid hol
  have HOZ := Lib.hid hoz
  have hbw := h.blt
  have ha1 : (at_ : Int) < (steps.length : Int) := by omega
  have ha0 : (0 : Int) ≤ (at_ : Int) := by omega
  simp only at q0 q1 q2 q3 q4 hset
  clear h hx hrow hat hF hb hlen hol hoz
  subst hr
  have HIN := Lib.hid hins
  clear hins
  have HC := Lib.hid (show correctN lg base opps steps at_ = bif e != 0 then false else (onN base ⟨s, 2, on, e, fr⟩ 5 && premN steps at_ [s ||| 2 ^ (base.getD on.toNat Nd.zero).x.toNat ||| 2 ^ (base.getD on.toNat Nd.zero).y.toNat]) by unfold correctN nodeOn; simp only [getD_some HX.out, HIN.out]; rfl)
  by_cases he : e = 0
  · subst he
    cases hon : onN base ⟨s, 2, on, 0, fr⟩ 5
    · have HYO := Lib.hid hon
      have HV := Lib.hid (show onV base ⟨s, 2, on, 0, fr⟩ 5 = Nd.zero by unfold onV; rw [hon]; rfl)
      clear hon
      obtain ⟨z0, z1, z2, z3, z4, zfr, zlt⟩ := cells5s (heap_alloc_new w (.cells #[.int .u64 (s : Int), .int .i64 2, .int .i64 on, .int .i64 0, .slice Af fr.length cf] 49))
      have Z0 := Lib.hid z0
      have X0 := Lib.hid ((Ext.refl w).alloc (.cells #[.int .u64 (s : Int), .int .i64 2, .int .i64 on, .int .i64 0, .slice Af fr.length cf] 49))
      have D1 := Lib.hid d1
      have ZLT := Lib.hid zlt
      have HBW := Lib.hid hbw
      have d1w := (X0.out.cell (p := ⟨b, 1, none⟩) hbw).trans d1
      have hbz : b < (w.alloc (.cells #[.int .u64 (s : Int), .int .i64 2, .int .i64 on, .int .i64 0, .slice Af fr.length cf] 49)).heap.size := Nat.lt_of_lt_of_le hbw X0.out.size
      go_enter Tryz.func41, Tryz.ntmps41
      go_wp2_with fail
      refine wp_region_held_drew (S := fun w' => w'.cell? (⟨b, 1, none⟩) = some (.slice Ab base.length cb) ∧ w'.cell? (⟨w.heap.size, 0, none⟩) = some (.int .u64 (s : Int))) (by kernel_rfl) ⟨xc hbz d1w, xc zlt z0⟩ (fun hHeld => ?_)
      refine tk 0 hHeld ?_
      refine tk 1 hHeld ?_
      refine tk 2 hHeld ?_
      refine tk 3 hHeld ?_
      refine tk 4 hHeld ?_
      refine tk 5 hHeld ?_
      refine tk 6 hHeld ?_
      refine wpAnyH_ready (rs := [7]) (by kernel_rfl) (by simp) ?_
      refine AllReadyH.cons rfl (fun K hK => ?_) AllReadyH.nil
      go_simp
      (go_at_call 46; refine (inside_eq Ab cb base s hset HLEN.out _).mono ?_; rintro e2 w2 ⟨rfl, rfl⟩; rw [HIN.out])
      go_wp2_with fail
      refine hK.out _ _ ⟨xc hbz d1w, xc zlt z0⟩ (fun hHeld => ?_)
      clear hK K
      try simp only [Act.put, List.setIfInBounds_toArray, List.set_cons_zero, List.set_cons_succ, List.getElem_toArray, List.getElem_cons_succ, List.getElem_cons_zero]
      refine tk 8 hHeld ?_
      refine wpAnyH_done (by kernel_rfl) ?_ _
      go_wp2_with fail
      refine (on_any (H.out.ext (X0.out.trans xw)) ⟨s, 2, on, 0, fr⟩ hset (.slice Af fr.length cf) 5).mono ?_
      rintro e2 w2 ⟨rfl, hv⟩
      rw [HYO.out, HV.out]
      have X1 := Lib.hid ((Ext.trans (show Ext (w.alloc (.cells #[.int .u64 (s : Int), .int .i64 2, .int .i64 on, .int .i64 0, .slice Af fr.length cf] 49)) _ by repeat (first | exact Ext.refl _ | assumption | apply Ext.alloc | apply Ext.drew)) hv).alloc (.cells #[.int .i64 Nd.zero.op, .int .i64 Nd.zero.i, .int .i64 Nd.zero.e, .int .i64 Nd.zero.g, .int .i64 Nd.zero.x, .int .i64 Nd.zero.y] 68))
      unfold Nd.val
      clear hv
      go_wp2_with fail
      refine wp_region_held_drew (S := fun w' => True) (by kernel_rfl) trivial (fun hHeld => ?_)
      refine tk 0 hHeld ?_
      refine tk 1 hHeld ?_
      refine un 2 hHeld ?_
      refine un 3 hHeld ?_
      refine un 4 hHeld ?_
      refine un 5 hHeld ?_
      refine un 6 hHeld ?_
      refine un 7 hHeld ?_
      refine un 8 hHeld ?_
      refine un 9 hHeld ?_
      refine un 10 hHeld ?_
      refine un 11 hHeld ?_
      refine un 12 hHeld ?_
      refine un 13 hHeld ?_
      refine un 14 hHeld ?_
      refine un 15 hHeld ?_
      refine tk 16 hHeld ?_
      refine tk 17 hHeld ?_
      refine wpAnyH_done (by kernel_rfl) ?_ _
      go_wp2_with fail
      have HE := Lib.hid (show correctN lg base opps steps at_ = false by rw [HC.out]; simp only [HYO.out]; rfl)
      go_ret
      exact ⟨by rw [HE.out] <;> rfl, X0.out.trans (X1.out.trans xw)⟩
    · have HYO := Lib.hid hon
      obtain ⟨k, n, hk, hn, hop, hV, hNo⟩ := on_true hon
      simp only at hk
      subst hk
      have HV := Lib.hid hV
      have HNO := Lib.hid hNo
      clear hon hV hNo
      obtain ⟨hx0, hx1⟩ := base_x HB.out hn (by rw [hop]; rfl)
      obtain ⟨xn, hxn⟩ := Int.eq_ofNat_of_zero_le hx0
      rw [hxn] at hx0 hx1
      have HXN := Lib.hid (show n.x.toNat = xn by rw [hxn, Int.toNat_natCast])
      have xn6 : xn < 64 := by omega
      have hhxn := Lib.hid hxn
      clear hx0 hx1 hxn
      have Bxn := shl_one xn6
      have Mxn : min xn 64 = xn := by omega
      obtain ⟨hx0, hx1⟩ := base_y HB.out hn (by rw [hop]; rfl)
      obtain ⟨yn, hyn⟩ := Int.eq_ofNat_of_zero_le hx0
      rw [hyn] at hx0 hx1
      have HYN := Lib.hid (show n.y.toNat = yn by rw [hyn, Int.toNat_natCast])
      have yn6 : yn < 64 := by omega
      have hhyn := Lib.hid hyn
      clear hx0 hx1 hyn
      have Byn := shl_one yn6
      have Myn : min yn 64 = yn := by omega
      have HE := Lib.hid (show correctN lg base opps steps at_ = premN steps at_ [s ||| 2 ^ xn ||| 2 ^ yn] by rw [HC.out]; simp only [HYO.out]; unfold nodeOn at HNO; rw [HNO.out, HXN.out, HYN.out]; rfl)
      clear hop hn
      obtain ⟨z0, z1, z2, z3, z4, zfr, zlt⟩ := cells5s (heap_alloc_new w (.cells #[.int .u64 (s : Int), .int .i64 2, .int .i64 (k : Int), .int .i64 0, .slice Af fr.length cf] 49))
      have Z0 := Lib.hid z0
      have X0 := Lib.hid ((Ext.refl w).alloc (.cells #[.int .u64 (s : Int), .int .i64 2, .int .i64 (k : Int), .int .i64 0, .slice Af fr.length cf] 49))
      have D1 := Lib.hid d1
      have ZLT := Lib.hid zlt
      have HBW := Lib.hid hbw
      have d1w := (X0.out.cell (p := ⟨b, 1, none⟩) hbw).trans d1
      have hbz : b < (w.alloc (.cells #[.int .u64 (s : Int), .int .i64 2, .int .i64 (k : Int), .int .i64 0, .slice Af fr.length cf] 49)).heap.size := Nat.lt_of_lt_of_le hbw X0.out.size
      go_enter Tryz.func41, Tryz.ntmps41
      go_wp2_with fail
      refine wp_region_held_drew (S := fun w' => w'.cell? (⟨b, 1, none⟩) = some (.slice Ab base.length cb) ∧ w'.cell? (⟨w.heap.size, 0, none⟩) = some (.int .u64 (s : Int))) (by kernel_rfl) ⟨xc hbz d1w, xc zlt z0⟩ (fun hHeld => ?_)
      refine tk 0 hHeld ?_
      refine tk 1 hHeld ?_
      refine tk 2 hHeld ?_
      refine tk 3 hHeld ?_
      refine tk 4 hHeld ?_
      refine tk 5 hHeld ?_
      refine tk 6 hHeld ?_
      refine wpAnyH_ready (rs := [7]) (by kernel_rfl) (by simp) ?_
      refine AllReadyH.cons rfl (fun K hK => ?_) AllReadyH.nil
      go_simp
      (go_at_call 46; refine (inside_eq Ab cb base s hset HLEN.out _).mono ?_; rintro e2 w2 ⟨rfl, rfl⟩; rw [HIN.out])
      go_wp2_with fail
      refine hK.out _ _ ⟨xc hbz d1w, xc zlt z0⟩ (fun hHeld => ?_)
      clear hK K
      try simp only [Act.put, List.setIfInBounds_toArray, List.set_cons_zero, List.set_cons_succ, List.getElem_toArray, List.getElem_cons_succ, List.getElem_cons_zero]
      refine tk 8 hHeld ?_
      refine wpAnyH_done (by kernel_rfl) ?_ _
      go_wp2_with fail
      refine (on_any (H.out.ext (X0.out.trans xw)) ⟨s, 2, (k : Int), 0, fr⟩ hset (.slice Af fr.length cf) 5).mono ?_
      rintro e2 w2 ⟨rfl, hv⟩
      rw [HYO.out, HV.out]
      have X1 := Lib.hid ((Ext.trans (show Ext (w.alloc (.cells #[.int .u64 (s : Int), .int .i64 2, .int .i64 (k : Int), .int .i64 0, .slice Af fr.length cf] 49)) _ by repeat (first | exact Ext.refl _ | assumption | apply Ext.alloc | apply Ext.drew)) hv).alloc (.cells #[.int .i64 n.op, .int .i64 n.i, .int .i64 n.e, .int .i64 n.g, .int .i64 n.x, .int .i64 n.y] 68))
      unfold Nd.val
      clear hv
      go_wp2_with fail
      have y0 := (X1.out.cell (p := ⟨w.heap.size, 0, none⟩) ZLT.out).trans Z0.out
      have ylt : w.heap.size < (w2.alloc (.cells #[.int .i64 n.op, .int .i64 n.i, .int .i64 n.e, .int .i64 n.g, .int .i64 n.x, .int .i64 n.y] 68)).heap.size := Nat.lt_of_lt_of_le ZLT.out X1.out.size
      obtain ⟨⟨n0, n1, n2, n3, n4, n5⟩, _, nlt⟩ := cells6 (heap_alloc_new w2 (.cells #[.int .i64 n.op, .int .i64 n.i, .int .i64 n.e, .int .i64 n.g, .int .i64 n.x, .int .i64 n.y] 68))
      have n4 := n4.trans (show some (Value.int .i64 n.x) = some (Value.int .i64 (xn : Int)) by rw [hhxn.out])
      have n5 := n5.trans (show some (Value.int .i64 n.y) = some (Value.int .i64 (yn : Int)) by rw [hhyn.out])
      refine wp_region_held_drew (S := fun w' => w'.cell? (⟨w.heap.size, 0, none⟩) = some (.int .u64 (s : Int)) ∧ w'.cell? (⟨w2.heap.size, 4, none⟩) = some (.int .i64 (xn : Int)) ∧ w'.cell? (⟨w2.heap.size, 5, none⟩) = some (.int .i64 (yn : Int))) (by kernel_rfl) ⟨xc ylt y0, xc nlt n4, xc nlt n5⟩ (fun hHeld => ?_)
      refine tk 0 hHeld ?_
      refine tk 1 hHeld ?_
      refine tk 2 hHeld ?_
      refine tk 3 hHeld ?_
      refine tk 4 hHeld ?_
      refine tk 5 hHeld ?_
      refine tk 6 hHeld ?_
      refine tk 7 hHeld ?_
      refine tk 8 hHeld ?_
      refine tk 9 hHeld ?_
      refine tk 10 hHeld ?_
      refine tk 11 hHeld ?_
      refine tk 12 hHeld ?_
      refine tk 13 hHeld ?_
      refine wpAnyH_ready (rs := [14]) (by kernel_rfl) (by simp) ?_
      refine AllReadyH.cons rfl (fun K hK => ?_) AllReadyH.nil
      go_simp
      refine hK.out _ _ ⟨xc ylt y0, xc nlt n4, xc nlt n5⟩ (fun hHeld => ?_)
      clear hK K
      try simp only [Act.put, List.setIfInBounds_toArray, List.set_cons_zero, List.set_cons_succ, List.getElem_toArray, List.getElem_cons_succ, List.getElem_cons_zero]
      refine wpAnyH_ready (rs := [15]) (by kernel_rfl) (by simp) ?_
      refine AllReadyH.cons rfl (fun K hK => ?_) AllReadyH.nil
      go_simp
      (go_at_call 67; refine (premises_any (H.out.ext (X0.out.trans (X1.out.trans xw))) at_ HAT.out _ [s ||| 2 ^ xn ||| 2 ^ yn] (by exact sets_one (by rw [or_pow hset xn6, or_pow (or_lt64 hset (two_pow_lt64 xn6)) yn6]) (or_lt64 (or_lt64 hset (two_pow_lt64 xn6)) (two_pow_lt64 yn6)) (by simp))).mono ?_; rintro e2 w5 ⟨rfl, hv⟩; have hx5 : Ext (w2.alloc (.cells #[.int .i64 n.op, .int .i64 n.i, .int .i64 n.e, .int .i64 n.g, .int .i64 n.x, .int .i64 n.y] 68)) w5 := xt hv; clear hv)
      go_wp2_with fail
      refine hK.out _ _ ⟨xc ylt y0, xc nlt n4, xc nlt n5⟩ (fun hHeld => ?_)
      clear hK K
      try simp only [Act.put, List.setIfInBounds_toArray, List.set_cons_zero, List.set_cons_succ, List.getElem_toArray, List.getElem_cons_succ, List.getElem_cons_zero]
      refine tk 16 hHeld ?_
      refine tk 17 hHeld ?_
      refine wpAnyH_done (by kernel_rfl) ?_ _
      go_wp2_with fail
      go_ret
      exact ⟨by rw [HE.out] <;> rfl, X0.out.trans (X1.out.trans xw)⟩
  · have he1 : (e != 0) = true := by simpa using he
    have he2 : (e == 0) = false := by simpa using he
    obtain ⟨z0, z1, z2, z3, z4, zfr, zlt⟩ := cells5s (heap_alloc_new w (.cells #[.int .u64 (s : Int), .int .i64 2, .int .i64 on, .int .i64 e, .slice Af fr.length cf] 49))
    have Z0 := Lib.hid z0
    have X0 := Lib.hid ((Ext.refl w).alloc (.cells #[.int .u64 (s : Int), .int .i64 2, .int .i64 on, .int .i64 e, .slice Af fr.length cf] 49))
    have D1 := Lib.hid d1
    have ZLT := Lib.hid zlt
    have HBW := Lib.hid hbw
    have d1w := (X0.out.cell (p := ⟨b, 1, none⟩) hbw).trans d1
    have hbz : b < (w.alloc (.cells #[.int .u64 (s : Int), .int .i64 2, .int .i64 on, .int .i64 e, .slice Af fr.length cf] 49)).heap.size := Nat.lt_of_lt_of_le hbw X0.out.size
    go_enter Tryz.func41, Tryz.ntmps41
    go_wp2_with fail
    refine wp_region_held_drew (S := fun w' => w'.cell? (⟨b, 1, none⟩) = some (.slice Ab base.length cb) ∧ w'.cell? (⟨w.heap.size, 0, none⟩) = some (.int .u64 (s : Int))) (by kernel_rfl) ⟨xc hbz d1w, xc zlt z0⟩ (fun hHeld => ?_)
    refine tk 0 hHeld ?_
    refine tk 1 hHeld ?_
    refine tk 2 hHeld ?_
    refine tk 3 hHeld ?_
    refine tk 4 hHeld ?_
    refine tk 5 hHeld ?_
    refine tk 6 hHeld ?_
    refine wpAnyH_ready (rs := [7]) (by kernel_rfl) (by simp) ?_
    refine AllReadyH.cons rfl (fun K hK => ?_) AllReadyH.nil
    go_simp
    (go_at_call 46; refine (inside_eq Ab cb base s hset HLEN.out _).mono ?_; rintro e2 w2 ⟨rfl, rfl⟩; rw [HIN.out])
    go_wp2_with fail
    refine hK.out _ _ ⟨xc hbz d1w, xc zlt z0⟩ (fun hHeld => ?_)
    clear hK K
    try simp only [Act.put, List.setIfInBounds_toArray, List.set_cons_zero, List.set_cons_succ, List.getElem_toArray, List.getElem_cons_succ, List.getElem_cons_zero]
    refine tk 8 hHeld ?_
    refine wpAnyH_done (by kernel_rfl) ?_ _
    go_wp2_with fail
    have HE := Lib.hid (show correctN lg base opps steps at_ = false by rw [HC.out]; simp only [he1]; rfl)
    go_ret
    exact ⟨by rw [HE.out] <;> rfl, (X0.out.trans xw)⟩
end Go.Proofs.YtdpblciohodgcaaGreatDoor
