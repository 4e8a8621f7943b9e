/- The reference's rules with subproofs. -/
import Derived.Test.YtipnbfbakohcaaaDoorH2

namespace Go.Proofs.YtipnbfbakohcaaaDoor
open Go.RowKit

set_option maxRecDepth 100000 in
set_option maxHeartbeats 8000000 in
theorem clos_7 {w : World} {b : Nat} {lg : Int} {ls : List Ln} {s : List (List Int)} {i : Nat} {n : Ln} (h : Prf w b lg ls s) (ok : RefOk ls s i n) (hr : n.rule = 7) :
    Calls Tryd.prog 52 #[.pointer (some ⟨b, 0, none⟩), .int .i64 i] w fun e w' => e = .returned (.bool (closR ls s i)) ∧ Ext w w' := by
  have hi := ok.n_at
  have hgn : ls.getD i Ln.zero = n := by rw [List.getD_eq_getElem?_getD, hi]; rfl
  obtain ⟨ad, c, vs, uf, ur, hc1, hc2, hlt, d0, d1, d2, q0, q1, q2, q3, q4, hff, ⟨Ar, cr, rfl, hir⟩⟩ := h.line hi
  obtain ⟨Af, cf, rfl, _⟩ := fml_slice hff
  have hil : i < ls.length := (List.getElem?_eq_some_iff.1 hi).1
  have hil0 : (0 : Int) ≤ (i : Int) := by omega
  have hil1 : (i : Int) < (ls.length : Int) := by omega
  have H := Lib.hid h
  have OK := Lib.hid ok
  have HF0 := Lib.hid hff
  have HP := Lib.hid (show closR ls s i = ((n.from_.length == 3) && (twoR (lineR ls s i 0) 6 (subproofR ls s i 1 1).1 (subproofR ls s i 2 1).1 && (sameN (subproofR ls s i 1 1).2.1 n.f && sameN (subproofR ls s i 2 1).2.1 n.f))) by
    unfold closR
    simp only [hgn, hr]
    rfl)
  rw [hr] at q1
  clear h ok hi hgn hff hir
  by_cases hm : n.from_.length = 3
  · have tm3 : ((n.from_.length : Int) == 3) = true := by rw [beq_iff_eq]; omega
    have qm3 : (n.from_.length == 3) = true := by rw [beq_iff_eq]; omega
    clear hm
    go_enter Tryd.func52, Tryd.ntmps52
    go_wp2_with fail
    go_quiet (fail)
    have X0 := Lib.hid ((Ext.refl w).drewN nq)
    have HF := Lib.hid (HF0.out.ext X0.out)
    clear HF0
    go_wp2_with fail
    refine (rline_any (H.out.ext X0.out) OK.out 0).mono ?_
    rintro e w1 ⟨u, rfl, hx, hu⟩
    have X3 := Lib.hid (X0.out.trans hx)
    have HE_4 := Lib.hid (HF.out.ext hx)
    clear hx
    have HL_1 := Lib.hid hu
    obtain ⟨A2, cA2, rfl, _⟩ := fml_slice hu
    clear hu
    go_wp2_with fail
    refine (rsub_any (H.out.ext X3.out) OK.out 1 1 (.inl rfl)).mono ?_
    rintro e w2 ⟨u, v, rfl, hx, hu, hv⟩
    have X9 := Lib.hid (X3.out.trans hx)
    have HE_10 := Lib.hid (HE_4.out.ext hx)
    have HE_11 := Lib.hid (HL_1.out.ext hx)
    clear hx
    have HS_5 := Lib.hid hu
    have HS_6 := Lib.hid hv
    obtain ⟨A7, cA7, rfl, _⟩ := fml_slice hu
    obtain ⟨A8, cA8, rfl, _⟩ := fml_slice hv
    clear hu hv
    go_wp2_with fail
    refine (rsub_any (H.out.ext X9.out) OK.out 2 1 (.inl rfl)).mono ?_
    rintro e w3 ⟨u, v, rfl, hx, hu, hv⟩
    have X16 := Lib.hid (X9.out.trans hx)
    have HE_17 := Lib.hid (HE_10.out.ext hx)
    have HE_18 := Lib.hid (HE_11.out.ext hx)
    have HE_19 := Lib.hid (HS_5.out.ext hx)
    have HE_20 := Lib.hid (HS_6.out.ext hx)
    clear hx
    have HS_12 := Lib.hid hu
    have HS_13 := Lib.hid hv
    obtain ⟨A14, cA14, rfl, _⟩ := fml_slice hu
    obtain ⟨A15, cA15, rfl, _⟩ := fml_slice hv
    clear hu hv
    go_wp2_with fail
    refine (rtwo_any _ _ _ 6 (lineR ls s i 0) (subproofR ls s i 1 1).1 (subproofR ls s i 2 1).1 _ HE_18.out HE_19.out HS_12.out).mono ?_
    rintro e w4 ⟨rfl, hx⟩
    have X21 := Lib.hid (X16.out.trans hx)
    have HE_22 := Lib.hid (HE_17.out.ext hx)
    have HE_23 := Lib.hid (HE_18.out.ext hx)
    have HE_24 := Lib.hid (HE_19.out.ext hx)
    have HE_25 := Lib.hid (HE_20.out.ext hx)
    have HE_26 := Lib.hid (HS_12.out.ext hx)
    have HE_27 := Lib.hid (HS_13.out.ext hx)
    clear hx
    cases q28 : twoR (lineR ls s i 0) 6 (subproofR ls s i 1 1).1 (subproofR ls s i 2 1).1
    · skip
      have HE29 := Lib.hid (show closR ls s i = false by rw [HP.out, qm3, q28] <;> rfl)
      go_wp2_with fail
      go_ret
      exact ⟨by rw [HE29.out] <;> rfl, X21.out⟩
    · skip
      go_wp2_with fail
      refine (rsame_any _ _ (subproofR ls s i 1 1).2.1 n.f _ HE_25.out HE_22.out).mono ?_
      rintro e w5 ⟨rfl, hx⟩
      have X30 := Lib.hid (X21.out.trans hx)
      have HE_31 := Lib.hid (HE_22.out.ext hx)
      have HE_32 := Lib.hid (HE_23.out.ext hx)
      have HE_33 := Lib.hid (HE_24.out.ext hx)
      have HE_34 := Lib.hid (HE_25.out.ext hx)
      have HE_35 := Lib.hid (HE_26.out.ext hx)
      have HE_36 := Lib.hid (HE_27.out.ext hx)
      clear hx
      cases q37 : sameN (subproofR ls s i 1 1).2.1 n.f
      · skip
        have HE38 := Lib.hid (show closR ls s i = false by rw [HP.out, qm3, q28, q37] <;> rfl)
        go_wp2_with fail
        go_ret
        exact ⟨by rw [HE38.out] <;> rfl, X30.out⟩
      · skip
        go_wp2_with fail
        refine (rsame_any _ _ (subproofR ls s i 2 1).2.1 n.f _ HE_36.out HE_31.out).mono ?_
        rintro e w6 ⟨rfl, hx⟩
        have X39 := Lib.hid (X30.out.trans hx)
        have HE_40 := Lib.hid (HE_31.out.ext hx)
        have HE_41 := Lib.hid (HE_32.out.ext hx)
        have HE_42 := Lib.hid (HE_33.out.ext hx)
        have HE_43 := Lib.hid (HE_34.out.ext hx)
        have HE_44 := Lib.hid (HE_35.out.ext hx)
        have HE_45 := Lib.hid (HE_36.out.ext hx)
        clear hx
        have HE46 := Lib.hid (show closR ls s i = sameN (subproofR ls s i 2 1).2.1 n.f by rw [HP.out, qm3, q28, q37] <;> rfl)
        go_wp2_with fail
        go_ret
        exact ⟨by rw [HE46.out] <;> rfl, X39.out⟩
  · have tm3 : ((n.from_.length : Int) == 3) = false := by rw [beq_eq_false_iff_ne]; omega
    have qm3 : (n.from_.length == 3) = false := by rw [beq_eq_false_iff_ne]; omega
    clear hm
    go_enter Tryd.func52, Tryd.ntmps52
    go_wp2_with fail
    go_quiet (fail)
    have X0 := Lib.hid ((Ext.refl w).drewN nq)
    have HF := Lib.hid (HF0.out.ext X0.out)
    clear HF0
    go_wp2_with fail
    refine (rline_any (H.out.ext X0.out) OK.out 0).mono ?_
    rintro e w1 ⟨u, rfl, hx, hu⟩
    have X3 := Lib.hid (X0.out.trans hx)
    have HE_4 := Lib.hid (HF.out.ext hx)
    clear hx
    have HL_1 := Lib.hid hu
    obtain ⟨A2, cA2, rfl, _⟩ := fml_slice hu
    clear hu
    go_wp2_with fail
    refine (rsub_any (H.out.ext X3.out) OK.out 1 1 (.inl rfl)).mono ?_
    rintro e w2 ⟨u, v, rfl, hx, hu, hv⟩
    have X9 := Lib.hid (X3.out.trans hx)
    have HE_10 := Lib.hid (HE_4.out.ext hx)
    have HE_11 := Lib.hid (HL_1.out.ext hx)
    clear hx
    have HS_5 := Lib.hid hu
    have HS_6 := Lib.hid hv
    obtain ⟨A7, cA7, rfl, _⟩ := fml_slice hu
    obtain ⟨A8, cA8, rfl, _⟩ := fml_slice hv
    clear hu hv
    go_wp2_with fail
    refine (rsub_any (H.out.ext X9.out) OK.out 2 1 (.inl rfl)).mono ?_
    rintro e w3 ⟨u, v, rfl, hx, hu, hv⟩
    have X16 := Lib.hid (X9.out.trans hx)
    have HE_17 := Lib.hid (HE_10.out.ext hx)
    have HE_18 := Lib.hid (HE_11.out.ext hx)
    have HE_19 := Lib.hid (HS_5.out.ext hx)
    have HE_20 := Lib.hid (HS_6.out.ext hx)
    clear hx
    have HS_12 := Lib.hid hu
    have HS_13 := Lib.hid hv
    obtain ⟨A14, cA14, rfl, _⟩ := fml_slice hu
    obtain ⟨A15, cA15, rfl, _⟩ := fml_slice hv
    clear hu hv
    have HE21 := Lib.hid (show closR ls s i = false by rw [HP.out, qm3] <;> rfl)
    go_wp2_with fail
    go_ret
    exact ⟨by rw [HE21.out] <;> rfl, X16.out⟩
set_option maxRecDepth 100000 in
set_option maxHeartbeats 8000000 in
theorem clos_8 {w : World} {b : Nat} {lg : Int} {ls : List Ln} {s : List (List Int)} {i : Nat} {n : Ln} (h : Prf w b lg ls s) (ok : RefOk ls s i n) (hr : n.rule = 8) :
    Calls Tryd.prog 52 #[.pointer (some ⟨b, 0, none⟩), .int .i64 i] w fun e w' => e = .returned (.bool (closR ls s i)) ∧ Ext w w' := by
  have hi := ok.n_at
  have hgn : ls.getD i Ln.zero = n := by rw [List.getD_eq_getElem?_getD, hi]; rfl
  obtain ⟨ad, c, vs, uf, ur, hc1, hc2, hlt, d0, d1, d2, q0, q1, q2, q3, q4, hff, ⟨Ar, cr, rfl, hir⟩⟩ := h.line hi
  obtain ⟨Af, cf, rfl, _⟩ := fml_slice hff
  have hil : i < ls.length := (List.getElem?_eq_some_iff.1 hi).1
  have hil0 : (0 : Int) ≤ (i : Int) := by omega
  have hil1 : (i : Int) < (ls.length : Int) := by omega
  have H := Lib.hid h
  have OK := Lib.hid ok
  have HF0 := Lib.hid hff
  have HP := Lib.hid (show closR ls s i = ((n.from_.length == 1) && twoR n.f 7 (subproofR ls s i 0 1).1 (subproofR ls s i 0 1).2.1) by
    unfold closR
    simp only [hgn, hr]
    rfl)
  rw [hr] at q1
  clear h ok hi hgn hff hir
  by_cases hm : n.from_.length = 1
  · have tm1 : ((n.from_.length : Int) == 1) = true := by rw [beq_iff_eq]; omega
    have qm1 : (n.from_.length == 1) = true := by rw [beq_iff_eq]; omega
    clear hm
    go_enter Tryd.func52, Tryd.ntmps52
    go_wp2_with fail
    go_quiet (fail)
    have X0 := Lib.hid ((Ext.refl w).drewN nq)
    have HF := Lib.hid (HF0.out.ext X0.out)
    clear HF0
    go_wp2_with fail
    refine (rsub_any (H.out.ext X0.out) OK.out 0 1 (.inl rfl)).mono ?_
    rintro e w1 ⟨u, v, rfl, hx, hu, hv⟩
    have X5 := Lib.hid (X0.out.trans hx)
    have HE_6 := Lib.hid (HF.out.ext hx)
    clear hx
    have HS_1 := Lib.hid hu
    have HS_2 := Lib.hid hv
    obtain ⟨A3, cA3, rfl, _⟩ := fml_slice hu
    obtain ⟨A4, cA4, rfl, _⟩ := fml_slice hv
    clear hu hv
    go_wp2_with fail
    refine (rtwo_any _ _ _ 7 n.f (subproofR ls s i 0 1).1 (subproofR ls s i 0 1).2.1 _ HE_6.out HS_1.out HS_2.out).mono ?_
    rintro e w2 ⟨rfl, hx⟩
    have X7 := Lib.hid (X5.out.trans hx)
    have HE_8 := Lib.hid (HE_6.out.ext hx)
    have HE_9 := Lib.hid (HS_1.out.ext hx)
    have HE_10 := Lib.hid (HS_2.out.ext hx)
    clear hx
    have HE11 := Lib.hid (show closR ls s i = twoR n.f 7 (subproofR ls s i 0 1).1 (subproofR ls s i 0 1).2.1 by rw [HP.out, qm1] <;> rfl)
    go_wp2_with fail
    go_ret
    exact ⟨by rw [HE11.out] <;> rfl, X7.out⟩
  · have tm1 : ((n.from_.length : Int) == 1) = false := by rw [beq_eq_false_iff_ne]; omega
    have qm1 : (n.from_.length == 1) = false := by rw [beq_eq_false_iff_ne]; omega
    clear hm
    go_enter Tryd.func52, Tryd.ntmps52
    go_wp2_with fail
    go_quiet (fail)
    have X0 := Lib.hid ((Ext.refl w).drewN nq)
    have HF := Lib.hid (HF0.out.ext X0.out)
    clear HF0
    go_wp2_with fail
    refine (rsub_any (H.out.ext X0.out) OK.out 0 1 (.inl rfl)).mono ?_
    rintro e w1 ⟨u, v, rfl, hx, hu, hv⟩
    have X5 := Lib.hid (X0.out.trans hx)
    have HE_6 := Lib.hid (HF.out.ext hx)
    clear hx
    have HS_1 := Lib.hid hu
    have HS_2 := Lib.hid hv
    obtain ⟨A3, cA3, rfl, _⟩ := fml_slice hu
    obtain ⟨A4, cA4, rfl, _⟩ := fml_slice hv
    clear hu hv
    have HE7 := Lib.hid (show closR ls s i = false by rw [HP.out, qm1] <;> rfl)
    go_wp2_with fail
    go_ret
    exact ⟨by rw [HE7.out] <;> rfl, X5.out⟩
set_option maxRecDepth 100000 in
set_option maxHeartbeats 8000000 in
theorem clos_10 {w : World} {b : Nat} {lg : Int} {ls : List Ln} {s : List (List Int)} {i : Nat} {n : Ln} (h : Prf w b lg ls s) (ok : RefOk ls s i n) (hr : n.rule = 10) :
    Calls Tryd.prog 52 #[.pointer (some ⟨b, 0, none⟩), .int .i64 i] w fun e w' => e = .returned (.bool (closR ls s i)) ∧ Ext w w' := by
  have hi := ok.n_at
  have hgn : ls.getD i Ln.zero = n := by rw [List.getD_eq_getElem?_getD, hi]; rfl
  obtain ⟨ad, c, vs, uf, ur, hc1, hc2, hlt, d0, d1, d2, q0, q1, q2, q3, q4, hff, ⟨Ar, cr, rfl, hir⟩⟩ := h.line hi
  obtain ⟨Af, cf, rfl, _⟩ := fml_slice hff
  have hil : i < ls.length := (List.getElem?_eq_some_iff.1 hi).1
  have hil0 : (0 : Int) ≤ (i : Int) := by omega
  have hil1 : (i : Int) < (ls.length : Int) := by omega
  have H := Lib.hid h
  have OK := Lib.hid ok
  have HF0 := Lib.hid hff
  have HP := Lib.hid (show closR ls s i = ((n.from_.length == 1) && (((lastN (subproofR ls s i 0 1).2.1).op == 2) && negR n.f (subproofR ls s i 0 1).1)) by
    unfold closR
    simp only [hgn, hr]
    rfl)
  rw [hr] at q1
  clear h ok hi hgn hff hir
  by_cases hm : n.from_.length = 1
  · have tm1 : ((n.from_.length : Int) == 1) = true := by rw [beq_iff_eq]; omega
    have qm1 : (n.from_.length == 1) = true := by rw [beq_iff_eq]; omega
    clear hm
    go_enter Tryd.func52, Tryd.ntmps52
    go_wp2_with fail
    go_quiet (fail)
    have X0 := Lib.hid ((Ext.refl w).drewN nq)
    have HF := Lib.hid (HF0.out.ext X0.out)
    clear HF0
    go_wp2_with fail
    refine (rsub_any (H.out.ext X0.out) OK.out 0 1 (.inl rfl)).mono ?_
    rintro e w1 ⟨u, v, rfl, hx, hu, hv⟩
    have X5 := Lib.hid (X0.out.trans hx)
    have HE_6 := Lib.hid (HF.out.ext hx)
    clear hx
    have HS_1 := Lib.hid hu
    have HS_2 := Lib.hid hv
    obtain ⟨A3, cA3, rfl, _⟩ := fml_slice hu
    obtain ⟨A4, cA4, rfl, _⟩ := fml_slice hv
    clear hu hv
    go_wp2_with fail
    refine (top_any _ (subproofR ls s i 0 1).2.1 _ HS_2.out).mono ?_
    rintro e w2 ⟨rfl, hx⟩
    have X7 := Lib.hid (X5.out.trans hx)
    have HE_8 := Lib.hid (HE_6.out.ext hx)
    have HE_9 := Lib.hid (HS_1.out.ext hx)
    have HE_10 := Lib.hid (HS_2.out.ext hx)
    clear hx
    obtain ⟨fa11, fb12⟩ := node_field (lastN (subproofR ls s i 0 1).2.1) w2
    unfold Nd.val
    cases q13 : ((lastN (subproofR ls s i 0 1).2.1).op == 2)
    · skip
      have HE14 := Lib.hid (show closR ls s i = false by rw [HP.out, qm1, q13] <;> rfl)
      go_wp2_with fail
      go_ret
      exact ⟨by rw [HE14.out] <;> rfl, X7.out⟩
    · skip
      go_wp2_with fail
      refine (negated_any _ _ n.f (subproofR ls s i 0 1).1 _ HE_8.out HE_9.out).mono ?_
      rintro e w3 ⟨rfl, hx⟩
      have X15 := Lib.hid (X7.out.trans hx)
      have HE_16 := Lib.hid (HE_8.out.ext hx)
      have HE_17 := Lib.hid (HE_9.out.ext hx)
      have HE_18 := Lib.hid (HE_10.out.ext hx)
      clear hx
      have HE19 := Lib.hid (show closR ls s i = negR n.f (subproofR ls s i 0 1).1 by rw [HP.out, qm1, q13] <;> rfl)
      go_wp2_with fail
      go_ret
      exact ⟨by rw [HE19.out] <;> rfl, X15.out⟩
  · have tm1 : ((n.from_.length : Int) == 1) = false := by rw [beq_eq_false_iff_ne]; omega
    have qm1 : (n.from_.length == 1) = false := by rw [beq_eq_false_iff_ne]; omega
    clear hm
    go_enter Tryd.func52, Tryd.ntmps52
    go_wp2_with fail
    go_quiet (fail)
    have X0 := Lib.hid ((Ext.refl w).drewN nq)
    have HF := Lib.hid (HF0.out.ext X0.out)
    clear HF0
    go_wp2_with fail
    refine (rsub_any (H.out.ext X0.out) OK.out 0 1 (.inl rfl)).mono ?_
    rintro e w1 ⟨u, v, rfl, hx, hu, hv⟩
    have X5 := Lib.hid (X0.out.trans hx)
    have HE_6 := Lib.hid (HF.out.ext hx)
    clear hx
    have HS_1 := Lib.hid hu
    have HS_2 := Lib.hid hv
    obtain ⟨A3, cA3, rfl, _⟩ := fml_slice hu
    obtain ⟨A4, cA4, rfl, _⟩ := fml_slice hv
    clear hu hv
    have HE7 := Lib.hid (show closR ls s i = false by rw [HP.out, qm1] <;> rfl)
    go_wp2_with fail
    go_ret
    exact ⟨by rw [HE7.out] <;> rfl, X5.out⟩
set_option maxRecDepth 100000 in
set_option maxHeartbeats 8000000 in
theorem clos_12 {w : World} {b : Nat} {lg : Int} {ls : List Ln} {s : List (List Int)} {i : Nat} {n : Ln} (h : Prf w b lg ls s) (ok : RefOk ls s i n) (hr : n.rule = 12) :
    Calls Tryd.prog 52 #[.pointer (some ⟨b, 0, none⟩), .int .i64 i] w fun e w' => e = .returned (.bool (closR ls s i)) ∧ Ext w w' := by
  have hi := ok.n_at
  have hgn : ls.getD i Ln.zero = n := by rw [List.getD_eq_getElem?_getD, hi]; rfl
  obtain ⟨ad, c, vs, uf, ur, hc1, hc2, hlt, d0, d1, d2, q0, q1, q2, q3, q4, hff, ⟨Ar, cr, rfl, hir⟩⟩ := h.line hi
  obtain ⟨Af, cf, rfl, _⟩ := fml_slice hff
  have hil : i < ls.length := (List.getElem?_eq_some_iff.1 hi).1
  have hil0 : (0 : Int) ≤ (i : Int) := by omega
  have hil1 : (i : Int) < (ls.length : Int) := by omega
  have H := Lib.hid h
  have OK := Lib.hid ok
  have HF0 := Lib.hid hff
  have HP := Lib.hid (show closR ls s i = ((n.from_.length == 1) && (((lastN (subproofR ls s i 0 1).2.1).op == 2) && negR (subproofR ls s i 0 1).1 n.f)) by
    unfold closR
    simp only [hgn, hr]
    rfl)
  rw [hr] at q1
  clear h ok hi hgn hff hir
  by_cases hm : n.from_.length = 1
  · have tm1 : ((n.from_.length : Int) == 1) = true := by rw [beq_iff_eq]; omega
    have qm1 : (n.from_.length == 1) = true := by rw [beq_iff_eq]; omega
    clear hm
    go_enter Tryd.func52, Tryd.ntmps52
    go_wp2_with fail
    go_quiet (fail)
    have X0 := Lib.hid ((Ext.refl w).drewN nq)
    have HF := Lib.hid (HF0.out.ext X0.out)
    clear HF0
    go_wp2_with fail
    refine (rsub_any (H.out.ext X0.out) OK.out 0 1 (.inl rfl)).mono ?_
    rintro e w1 ⟨u, v, rfl, hx, hu, hv⟩
    have X5 := Lib.hid (X0.out.trans hx)
    have HE_6 := Lib.hid (HF.out.ext hx)
    clear hx
    have HS_1 := Lib.hid hu
    have HS_2 := Lib.hid hv
    obtain ⟨A3, cA3, rfl, _⟩ := fml_slice hu
    obtain ⟨A4, cA4, rfl, _⟩ := fml_slice hv
    clear hu hv
    go_wp2_with fail
    refine (top_any _ (subproofR ls s i 0 1).2.1 _ HS_2.out).mono ?_
    rintro e w2 ⟨rfl, hx⟩
    have X7 := Lib.hid (X5.out.trans hx)
    have HE_8 := Lib.hid (HE_6.out.ext hx)
    have HE_9 := Lib.hid (HS_1.out.ext hx)
    have HE_10 := Lib.hid (HS_2.out.ext hx)
    clear hx
    obtain ⟨fa11, fb12⟩ := node_field (lastN (subproofR ls s i 0 1).2.1) w2
    unfold Nd.val
    cases q13 : ((lastN (subproofR ls s i 0 1).2.1).op == 2)
    · skip
      have HE14 := Lib.hid (show closR ls s i = false by rw [HP.out, qm1, q13] <;> rfl)
      go_wp2_with fail
      go_ret
      exact ⟨by rw [HE14.out] <;> rfl, X7.out⟩
    · skip
      go_wp2_with fail
      refine (negated_any _ _ (subproofR ls s i 0 1).1 n.f _ HE_9.out HE_8.out).mono ?_
      rintro e w3 ⟨rfl, hx⟩
      have X15 := Lib.hid (X7.out.trans hx)
      have HE_16 := Lib.hid (HE_8.out.ext hx)
      have HE_17 := Lib.hid (HE_9.out.ext hx)
      have HE_18 := Lib.hid (HE_10.out.ext hx)
      clear hx
      have HE19 := Lib.hid (show closR ls s i = negR (subproofR ls s i 0 1).1 n.f by rw [HP.out, qm1, q13] <;> rfl)
      go_wp2_with fail
      go_ret
      exact ⟨by rw [HE19.out] <;> rfl, X15.out⟩
  · have tm1 : ((n.from_.length : Int) == 1) = false := by rw [beq_eq_false_iff_ne]; omega
    have qm1 : (n.from_.length == 1) = false := by rw [beq_eq_false_iff_ne]; omega
    clear hm
    go_enter Tryd.func52, Tryd.ntmps52
    go_wp2_with fail
    go_quiet (fail)
    have X0 := Lib.hid ((Ext.refl w).drewN nq)
    have HF := Lib.hid (HF0.out.ext X0.out)
    clear HF0
    go_wp2_with fail
    refine (rsub_any (H.out.ext X0.out) OK.out 0 1 (.inl rfl)).mono ?_
    rintro e w1 ⟨u, v, rfl, hx, hu, hv⟩
    have X5 := Lib.hid (X0.out.trans hx)
    have HE_6 := Lib.hid (HF.out.ext hx)
    clear hx
    have HS_1 := Lib.hid hu
    have HS_2 := Lib.hid hv
    obtain ⟨A3, cA3, rfl, _⟩ := fml_slice hu
    obtain ⟨A4, cA4, rfl, _⟩ := fml_slice hv
    clear hu hv
    have HE7 := Lib.hid (show closR ls s i = false by rw [HP.out, qm1] <;> rfl)
    go_wp2_with fail
    go_ret
    exact ⟨by rw [HE7.out] <;> rfl, X5.out⟩
set_option maxRecDepth 100000 in
set_option maxHeartbeats 8000000 in
theorem clos_16 {w : World} {b : Nat} {lg : Int} {ls : List Ln} {s : List (List Int)} {i : Nat} {n : Ln} (h : Prf w b lg ls s) (ok : RefOk ls s i n) (hr : n.rule = 16) :
    Calls Tryd.prog 52 #[.pointer (some ⟨b, 0, none⟩), .int .i64 i] w fun e w' => e = .returned (.bool (closR ls s i)) ∧ Ext w w' := by
  have hi := ok.n_at
  have hgn : ls.getD i Ln.zero = n := by rw [List.getD_eq_getElem?_getD, hi]; rfl
  obtain ⟨ad, c, vs, uf, ur, hc1, hc2, hlt, d0, d1, d2, q0, q1, q2, q3, q4, hff, ⟨Ar, cr, rfl, hir⟩⟩ := h.line hi
  obtain ⟨Af, cf, rfl, _⟩ := fml_slice hff
  have hil : i < ls.length := (List.getElem?_eq_some_iff.1 hi).1
  have hil0 : (0 : Int) ≤ (i : Int) := by omega
  have hil1 : (i : Int) < (ls.length : Int) := by omega
  have H := Lib.hid h
  have OK := Lib.hid ok
  have HF0 := Lib.hid hff
  have HP := Lib.hid (show closR ls s i = ((n.from_.length == 1) && (((lastN n.f).op == 9) && (((lastN n.f).i == (subproofR ls s i 0 2).2.2) && sameN (firstN n.f) (subproofR ls s i 0 2).2.1))) by
    unfold closR
    simp only [hgn, hr]
    rfl)
  rw [hr] at q1
  clear h ok hi hgn hff hir
  by_cases hm : n.from_.length = 1
  · have tm1 : ((n.from_.length : Int) == 1) = true := by rw [beq_iff_eq]; omega
    have qm1 : (n.from_.length == 1) = true := by rw [beq_iff_eq]; omega
    clear hm
    go_enter Tryd.func52, Tryd.ntmps52
    go_wp2_with fail
    go_quiet (fail)
    have X0 := Lib.hid ((Ext.refl w).drewN nq)
    have HF := Lib.hid (HF0.out.ext X0.out)
    clear HF0
    go_wp2_with fail
    refine (rsub_any (H.out.ext X0.out) OK.out 0 2 (.inr rfl)).mono ?_
    rintro e w1 ⟨u, v, rfl, hx, hu, hv⟩
    have X5 := Lib.hid (X0.out.trans hx)
    have HE_6 := Lib.hid (HF.out.ext hx)
    clear hx
    have HS_1 := Lib.hid hu
    have HS_2 := Lib.hid hv
    obtain ⟨A3, cA3, rfl, _⟩ := fml_slice hu
    obtain ⟨A4, cA4, rfl, _⟩ := fml_slice hv
    clear hu hv
    go_wp2_with fail
    refine (top_any _ n.f _ HE_6.out).mono ?_
    rintro e w2 ⟨rfl, hx⟩
    have X7 := Lib.hid (X5.out.trans hx)
    have HE_8 := Lib.hid (HE_6.out.ext hx)
    have HE_9 := Lib.hid (HS_1.out.ext hx)
    have HE_10 := Lib.hid (HS_2.out.ext hx)
    clear hx
    obtain ⟨fa11, fb12⟩ := node_field (lastN n.f) w2
    unfold Nd.val
    cases q13 : ((lastN n.f).op == 9)
    · skip
      have HE14 := Lib.hid (show closR ls s i = false by rw [HP.out, qm1, q13] <;> rfl)
      go_wp2_with fail
      go_ret
      exact ⟨by rw [HE14.out] <;> rfl, X7.out⟩
    · skip
      go_wp2_with fail
      refine (top_any _ n.f _ HE_8.out).mono ?_
      rintro e w3 ⟨rfl, hx⟩
      have X15 := Lib.hid (X7.out.trans hx)
      have HE_16 := Lib.hid (HE_8.out.ext hx)
      have HE_17 := Lib.hid (HE_9.out.ext hx)
      have HE_18 := Lib.hid (HE_10.out.ext hx)
      clear hx
      obtain ⟨fa19, fb20⟩ := node_field (lastN n.f) w3
      unfold Nd.val
      cases q21 : ((lastN n.f).i == (subproofR ls s i 0 2).2.2)
      · skip
        have HE22 := Lib.hid (show closR ls s i = false by rw [HP.out, qm1, q13, q21] <;> rfl)
        go_wp2_with fail
        go_ret
        exact ⟨by rw [HE22.out] <;> rfl, X15.out⟩
      · skip
        go_wp2_with fail
        refine (first_any _ n.f _ HE_16.out).mono ?_
        rintro e w4 ⟨u, rfl, hx, hu⟩
        have X23 := Lib.hid (X15.out.trans hx)
        have HE_24 := Lib.hid (HE_16.out.ext hx)
        have HE_25 := Lib.hid (HE_17.out.ext hx)
        have HE_26 := Lib.hid (HE_18.out.ext hx)
        clear hx
        have HM_27 := Lib.hid hu
        obtain ⟨A28, c29, rfl, _⟩ := fml_slice hu
        clear hu
        go_wp2_with fail
        refine (rsame_any _ _ (firstN n.f) (subproofR ls s i 0 2).2.1 _ HM_27.out HE_26.out).mono ?_
        rintro e w5 ⟨rfl, hx⟩
        have X30 := Lib.hid (X23.out.trans hx)
        have HE_31 := Lib.hid (HE_24.out.ext hx)
        have HE_32 := Lib.hid (HE_25.out.ext hx)
        have HE_33 := Lib.hid (HE_26.out.ext hx)
        have HM_34 := Lib.hid (HM_27.out.ext hx)
        clear hx
        have HE35 := Lib.hid (show closR ls s i = sameN (firstN n.f) (subproofR ls s i 0 2).2.1 by rw [HP.out, qm1, q13, q21] <;> rfl)
        go_wp2_with fail
        go_ret
        exact ⟨by rw [HE35.out] <;> rfl, X30.out⟩
  · have tm1 : ((n.from_.length : Int) == 1) = false := by rw [beq_eq_false_iff_ne]; omega
    have qm1 : (n.from_.length == 1) = false := by rw [beq_eq_false_iff_ne]; omega
    clear hm
    go_enter Tryd.func52, Tryd.ntmps52
    go_wp2_with fail
    go_quiet (fail)
    have X0 := Lib.hid ((Ext.refl w).drewN nq)
    have HF := Lib.hid (HF0.out.ext X0.out)
    clear HF0
    go_wp2_with fail
    refine (rsub_any (H.out.ext X0.out) OK.out 0 2 (.inr rfl)).mono ?_
    rintro e w1 ⟨u, v, rfl, hx, hu, hv⟩
    have X5 := Lib.hid (X0.out.trans hx)
    have HE_6 := Lib.hid (HF.out.ext hx)
    clear hx
    have HS_1 := Lib.hid hu
    have HS_2 := Lib.hid hv
    obtain ⟨A3, cA3, rfl, _⟩ := fml_slice hu
    obtain ⟨A4, cA4, rfl, _⟩ := fml_slice hv
    clear hu hv
    have HE7 := Lib.hid (show closR ls s i = false by rw [HP.out, qm1] <;> rfl)
    go_wp2_with fail
    go_ret
    exact ⟨by rw [HE7.out] <;> rfl, X5.out⟩
set_option maxRecDepth 100000 in
set_option maxHeartbeats 8000000 in
theorem clos_other {w : World} {b : Nat} {lg : Int} {ls : List Ln} {s : List (List Int)} {i : Nat} {n : Ln} (h : Prf w b lg ls s) (ok : RefOk ls s i n) (hr : (n.rule == 7) = false ∧ (n.rule == 8) = false ∧ (n.rule == 10) = false ∧ (n.rule == 12) = false ∧ (n.rule == 16) = false) :
    Calls Tryd.prog 52 #[.pointer (some ⟨b, 0, none⟩), .int .i64 i] w fun e w' => e = .returned (.bool (closR ls s i)) ∧ Ext w w' := by
  obtain ⟨b7, b8, b10, b12, b16⟩ := hr
  have hi := ok.n_at
  have hgn : ls.getD i Ln.zero = n := by rw [List.getD_eq_getElem?_getD, hi]; rfl
  obtain ⟨ad, c, vs, uf, ur, hc1, hc2, hlt, d0, d1, d2, q0, q1, q2, q3, q4, hff, ⟨Ar, cr, rfl, hir⟩⟩ := h.line hi
  obtain ⟨Af, cf, rfl, _⟩ := fml_slice hff
  have hil : i < ls.length := (List.getElem?_eq_some_iff.1 hi).1
  have hil0 : (0 : Int) ≤ (i : Int) := by omega
  have hil1 : (i : Int) < (ls.length : Int) := by omega
  have H := Lib.hid h
  have OK := Lib.hid ok
  have HF0 := Lib.hid hff
  have HP := Lib.hid (show closR ls s i = false by
    unfold closR
    simp only [hgn, b7, b8, b10, b12, b16]
    rfl)
  clear h ok hi hgn hff hir
  go_enter Tryd.func52, Tryd.ntmps52
  go_wp2_with fail
  go_quiet (fail)
  have X0 := Lib.hid ((Ext.refl w).drewN nq)
  have HF := Lib.hid (HF0.out.ext X0.out)
  clear HF0
  go_wp2_with fail
  go_ret
  exact ⟨by rw [HP.out] <;> rfl, X0.out⟩
theorem clos_any {w : World} {b : Nat} {lg : Int} {ls : List Ln} {s : List (List Int)} {i : Nat} {n : Ln} (h : Prf w b lg ls s) (ok : RefOk ls s i n) :
    Calls Tryd.prog 52 #[.pointer (some ⟨b, 0, none⟩), .int .i64 i] w fun e w' => e = .returned (.bool (closR ls s i)) ∧ Ext w w' := by
  by_cases e7 : n.rule = 7
  · exact clos_7 h ok e7
  by_cases e8 : n.rule = 8
  · exact clos_8 h ok e8
  by_cases e10 : n.rule = 10
  · exact clos_10 h ok e10
  by_cases e12 : n.rule = 12
  · exact clos_12 h ok e12
  by_cases e16 : n.rule = 16
  · exact clos_16 h ok e16
  exact clos_other h ok ⟨beq_eq_false_iff_ne.2 e7, beq_eq_false_iff_ne.2 e8, beq_eq_false_iff_ne.2 e10, beq_eq_false_iff_ne.2 e12, beq_eq_false_iff_ne.2 e16⟩
end Go.Proofs.YtipnbfbakohcaaaDoor

/- The reference's rules about agents without subproofs. -/

namespace Go.Proofs.YtipnbfbakohcaaaDoor
open Go.RowKit

theorem Prf.logic {w : World} {b : Nat} {lg : Int} {ls : List Ln} {s : List (List Int)} (h : Prf w b lg ls s) : w.cell? ⟨b, 0, none⟩ = some (.int .i64 lg) := by
  obtain ⟨vl, vs, hb, _⟩ := h.all
  exact (cells3' hb).1
theorem Prf.rule {w : World} {b : Nat} {lg : Int} {ls : List Ln} {s : List (List Int)} (h : Prf w b lg ls s) {i : Nat} {n : Ln} (hi : ls[i]? = some n) :
    ∃ (ad : Addr) (c : Nat), w.cell? ⟨b, 1, none⟩ = some (.slice (some ad) ls.length c) ∧ w.cell? ⟨(ad.add (i * 5)).block, (ad.add (i * 5)).off + 1, none⟩ = some (.int .i64 n.rule) := by
  obtain ⟨ad, c, vs, uf, ur, _, _, _, _, d1, _, _, q1, _⟩ := h.line hi
  exact ⟨ad, c, d1, q1⟩
set_option maxRecDepth 100000 in
set_option maxHeartbeats 8000000 in
theorem modal_18 {w : World} {b : Nat} {lg : Int} {ls : List Ln} {s : List (List Int)} {i : Nat} {n : Ln} (h : Prf w b lg ls s) (ok : RefOk ls s i n) (hlg : 0 ≤ lg ∧ lg ≤ 6) (hr : n.rule = 18) :
    Calls Tryd.prog 53 #[.pointer (some ⟨b, 0, none⟩), .int .i64 i] w fun e w' => e = .returned (.bool (modalR lg ls s i)) ∧ Ext w w' := by
  have hi := ok.n_at
  have hgn : ls.getD i Ln.zero = n := by rw [List.getD_eq_getElem?_getD, hi]; rfl
  obtain ⟨ad, c, vs, uf, ur, hc1, hc2, hlt, d0, d1, d2, q0, q1, q2, q3, q4, hff, ⟨Ar, cr, rfl, hir⟩⟩ := h.line hi
  obtain ⟨Af, cf, rfl, _⟩ := fml_slice hff
  have hil : i < ls.length := (List.getElem?_eq_some_iff.1 hi).1
  have hil0 : (0 : Int) ≤ (i : Int) := by omega
  have hil1 : (i : Int) < (ls.length : Int) := by omega
  have H := Lib.hid h
  have OK := Lib.hid ok
  have HF0 := Lib.hid hff
  have HI := Lib.hid hi
  have HLG := Lib.hid hlg
  have HP := Lib.hid (show modalR lg ls s i = bif n.from_.length != 1 || decide ((lineR ls s i 0).length = 0) then false else (inL [2, 4, 6] lg && (((lastN (lineR ls s i 0)).op == 9) && sameN (firstN (lineR ls s i 0)) n.f)) by
    unfold modalR
    simp only [hgn, hr]
    rfl)
  clear h ok hi hgn hff hir hlg
  by_cases hm : n.from_.length = 1
  · have tn1 : ((n.from_.length : Int) != 1) = false := by rw [bne_eq_false_iff_eq]; omega
    have qn1 : (n.from_.length != 1) = false := by rw [bne_eq_false_iff_eq]; omega
    clear hm
    go_enter Tryd.func53, Tryd.ntmps53
    go_wp2_with fail
    go_quiet (fail)
    have X0 := Lib.hid ((Ext.refl w).drewN nq)
    have HF := Lib.hid (HF0.out.ext X0.out)
    clear HF0
    go_wp2_with fail
    refine (rline_any (H.out.ext X0.out) OK.out 0).mono ?_
    rintro e w1 ⟨u, rfl, hx, hu⟩
    have X3 := Lib.hid (X0.out.trans hx)
    have HE_4 := Lib.hid (HF.out.ext hx)
    clear hx
    have HL_1 := Lib.hid hu
    obtain ⟨A2, cA2, rfl, _⟩ := fml_slice hu
    clear hu
    obtain ⟨adr, cr2, f1, f2⟩ := (H.out.ext X3.out).rule HI.out
    clear d1 q0 q1 q2 q3 q4 d0 d2
    rw [hr] at f2
    by_cases ha : (lineR ls s i 0).length = 0
    · have HE := Lib.hid (show modalR lg ls s i = false by rw [HP.out, qn1, decide_eq_true ha] <;> rfl)
      have ta : (((lineR ls s i 0).length : Int) == 0) = true := by rw [beq_iff_eq]; omega
      clear ha
      go_wp2_with fail
      go_ret
      exact ⟨by rw [HE.out] <;> rfl, X3.out⟩
    · have HP2 := Lib.hid (show modalR lg ls s i = (inL [2, 4, 6] lg && (((lastN (lineR ls s i 0)).op == 9) && sameN (firstN (lineR ls s i 0)) n.f)) by rw [HP.out, qn1, decide_eq_false ha] <;> rfl)
      have ta : (((lineR ls s i 0).length : Int) == 0) = false := by rw [beq_eq_false_iff_ne]; omega
      clear ha
      have gl5 := (H.out.ext X3.out).logic
      go_wp2_with fail
      refine (reflexive_any lg HLG.out _).mono ?_
      rintro e w2 ⟨rfl, hx⟩
      have X6 := Lib.hid (X3.out.trans hx)
      have HE_7 := Lib.hid (HE_4.out.ext hx)
      have HE_8 := Lib.hid (HL_1.out.ext hx)
      clear hx
      cases q9 : inL [2, 4, 6] lg
      · skip
        have HE10 := Lib.hid (show modalR lg ls s i = false by rw [HP2.out, q9] <;> rfl)
        go_wp2_with fail
        go_ret
        exact ⟨by rw [HE10.out] <;> rfl, X6.out⟩
      · skip
        go_wp2_with fail
        refine (top_any _ (lineR ls s i 0) _ HE_8.out).mono ?_
        rintro e w3 ⟨rfl, hx⟩
        have X11 := Lib.hid (X6.out.trans hx)
        have HE_12 := Lib.hid (HE_7.out.ext hx)
        have HE_13 := Lib.hid (HE_8.out.ext hx)
        clear hx
        obtain ⟨fa14, fb15⟩ := node_field (lastN (lineR ls s i 0)) w3
        unfold Nd.val
        cases q16 : ((lastN (lineR ls s i 0)).op == 9)
        · skip
          have HE17 := Lib.hid (show modalR lg ls s i = false by rw [HP2.out, q9, q16] <;> rfl)
          go_wp2_with fail
          go_ret
          exact ⟨by rw [HE17.out] <;> rfl, X11.out⟩
        · skip
          go_wp2_with fail
          refine (first_any _ (lineR ls s i 0) _ HE_13.out).mono ?_
          rintro e w4 ⟨u, rfl, hx, hu⟩
          have X18 := Lib.hid (X11.out.trans hx)
          have HE_19 := Lib.hid (HE_12.out.ext hx)
          have HE_20 := Lib.hid (HE_13.out.ext hx)
          clear hx
          have HM_21 := Lib.hid hu
          obtain ⟨A22, c23, rfl, _⟩ := fml_slice hu
          clear hu
          go_wp2_with fail
          refine (rsame_any _ _ (firstN (lineR ls s i 0)) n.f _ HM_21.out HE_19.out).mono ?_
          rintro e w5 ⟨rfl, hx⟩
          have X24 := Lib.hid (X18.out.trans hx)
          have HE_25 := Lib.hid (HE_19.out.ext hx)
          have HE_26 := Lib.hid (HE_20.out.ext hx)
          have HM_27 := Lib.hid (HM_21.out.ext hx)
          clear hx
          have HE28 := Lib.hid (show modalR lg ls s i = sameN (firstN (lineR ls s i 0)) n.f by rw [HP2.out, q9, q16] <;> rfl)
          go_wp2_with fail
          go_ret
          exact ⟨by rw [HE28.out] <;> rfl, X24.out⟩
  · have tn1 : ((n.from_.length : Int) != 1) = true := by rw [bne_iff_ne]; omega
    have qn1 : (n.from_.length != 1) = true := by rw [bne_iff_ne]; omega
    clear hm
    go_enter Tryd.func53, Tryd.ntmps53
    go_wp2_with fail
    go_quiet (fail)
    have X0 := Lib.hid ((Ext.refl w).drewN nq)
    have HF := Lib.hid (HF0.out.ext X0.out)
    clear HF0
    go_wp2_with fail
    refine (rline_any (H.out.ext X0.out) OK.out 0).mono ?_
    rintro e w1 ⟨u, rfl, hx, hu⟩
    have X3 := Lib.hid (X0.out.trans hx)
    have HE_4 := Lib.hid (HF.out.ext hx)
    clear hx
    have HL_1 := Lib.hid hu
    obtain ⟨A2, cA2, rfl, _⟩ := fml_slice hu
    clear hu
    have HE := Lib.hid (show modalR lg ls s i = false by rw [HP.out, qn1] <;> rfl)
    go_wp2_with fail
    go_ret
    exact ⟨by rw [HE.out] <;> rfl, X3.out⟩
set_option maxRecDepth 100000 in
set_option maxHeartbeats 8000000 in
theorem modal_19 {w : World} {b : Nat} {lg : Int} {ls : List Ln} {s : List (List Int)} {i : Nat} {n : Ln} (h : Prf w b lg ls s) (ok : RefOk ls s i n) (hlg : 0 ≤ lg ∧ lg ≤ 6) (hr : n.rule = 19) :
    Calls Tryd.prog 53 #[.pointer (some ⟨b, 0, none⟩), .int .i64 i] w fun e w' => e = .returned (.bool (modalR lg ls s i)) ∧ Ext w w' := by
  have hi := ok.n_at
  have hgn : ls.getD i Ln.zero = n := by rw [List.getD_eq_getElem?_getD, hi]; rfl
  obtain ⟨ad, c, vs, uf, ur, hc1, hc2, hlt, d0, d1, d2, q0, q1, q2, q3, q4, hff, ⟨Ar, cr, rfl, hir⟩⟩ := h.line hi
  obtain ⟨Af, cf, rfl, _⟩ := fml_slice hff
  have hil : i < ls.length := (List.getElem?_eq_some_iff.1 hi).1
  have hil0 : (0 : Int) ≤ (i : Int) := by omega
  have hil1 : (i : Int) < (ls.length : Int) := by omega
  have H := Lib.hid h
  have OK := Lib.hid ok
  have HF0 := Lib.hid hff
  have HI := Lib.hid hi
  have HLG := Lib.hid hlg
  have HP := Lib.hid (show modalR lg ls s i = bif n.from_.length != 1 || decide ((lineR ls s i 0).length = 0) then false else (dualR (lineR ls s i 0) n.f || dualR n.f (lineR ls s i 0)) by
    unfold modalR
    simp only [hgn, hr]
    rfl)
  clear h ok hi hgn hff hir hlg
  by_cases hm : n.from_.length = 1
  · have tn1 : ((n.from_.length : Int) != 1) = false := by rw [bne_eq_false_iff_eq]; omega
    have qn1 : (n.from_.length != 1) = false := by rw [bne_eq_false_iff_eq]; omega
    clear hm
    go_enter Tryd.func53, Tryd.ntmps53
    go_wp2_with fail
    go_quiet (fail)
    have X0 := Lib.hid ((Ext.refl w).drewN nq)
    have HF := Lib.hid (HF0.out.ext X0.out)
    clear HF0
    go_wp2_with fail
    refine (rline_any (H.out.ext X0.out) OK.out 0).mono ?_
    rintro e w1 ⟨u, rfl, hx, hu⟩
    have X3 := Lib.hid (X0.out.trans hx)
    have HE_4 := Lib.hid (HF.out.ext hx)
    clear hx
    have HL_1 := Lib.hid hu
    obtain ⟨A2, cA2, rfl, _⟩ := fml_slice hu
    clear hu
    obtain ⟨adr, cr2, f1, f2⟩ := (H.out.ext X3.out).rule HI.out
    clear d1 q0 q1 q2 q3 q4 d0 d2
    rw [hr] at f2
    by_cases ha : (lineR ls s i 0).length = 0
    · have HE := Lib.hid (show modalR lg ls s i = false by rw [HP.out, qn1, decide_eq_true ha] <;> rfl)
      have ta : (((lineR ls s i 0).length : Int) == 0) = true := by rw [beq_iff_eq]; omega
      clear ha
      go_wp2_with fail
      go_ret
      exact ⟨by rw [HE.out] <;> rfl, X3.out⟩
    · have HP2 := Lib.hid (show modalR lg ls s i = (dualR (lineR ls s i 0) n.f || dualR n.f (lineR ls s i 0)) by rw [HP.out, qn1, decide_eq_false ha] <;> rfl)
      have ta : (((lineR ls s i 0).length : Int) == 0) = false := by rw [beq_eq_false_iff_ne]; omega
      clear ha
      go_wp2_with fail
      refine (rdual_any _ _ (lineR ls s i 0) n.f _ HL_1.out HE_4.out).mono ?_
      rintro e w2 ⟨rfl, hx⟩
      have X5 := Lib.hid (X3.out.trans hx)
      have HE_6 := Lib.hid (HE_4.out.ext hx)
      have HE_7 := Lib.hid (HL_1.out.ext hx)
      clear hx
      cases q8 : dualR (lineR ls s i 0) n.f
      · skip
        go_wp2_with fail
        refine (rdual_any _ _ n.f (lineR ls s i 0) _ HE_6.out HE_7.out).mono ?_
        rintro e w3 ⟨rfl, hx⟩
        have X9 := Lib.hid (X5.out.trans hx)
        have HE_10 := Lib.hid (HE_6.out.ext hx)
        have HE_11 := Lib.hid (HE_7.out.ext hx)
        clear hx
        have HE12 := Lib.hid (show modalR lg ls s i = dualR n.f (lineR ls s i 0) by rw [HP2.out, q8] <;> rfl)
        go_wp2_with fail
        go_ret
        exact ⟨by rw [HE12.out] <;> rfl, X9.out⟩
      · skip
        have HE13 := Lib.hid (show modalR lg ls s i = true by rw [HP2.out, q8] <;> rfl)
        go_wp2_with fail
        go_ret
        exact ⟨by rw [HE13.out] <;> rfl, X5.out⟩
  · have tn1 : ((n.from_.length : Int) != 1) = true := by rw [bne_iff_ne]; omega
    have qn1 : (n.from_.length != 1) = true := by rw [bne_iff_ne]; omega
    clear hm
    go_enter Tryd.func53, Tryd.ntmps53
    go_wp2_with fail
    go_quiet (fail)
    have X0 := Lib.hid ((Ext.refl w).drewN nq)
    have HF := Lib.hid (HF0.out.ext X0.out)
    clear HF0
    go_wp2_with fail
    refine (rline_any (H.out.ext X0.out) OK.out 0).mono ?_
    rintro e w1 ⟨u, rfl, hx, hu⟩
    have X3 := Lib.hid (X0.out.trans hx)
    have HE_4 := Lib.hid (HF.out.ext hx)
    clear hx
    have HL_1 := Lib.hid hu
    obtain ⟨A2, cA2, rfl, _⟩ := fml_slice hu
    clear hu
    have HE := Lib.hid (show modalR lg ls s i = false by rw [HP.out, qn1] <;> rfl)
    go_wp2_with fail
    go_ret
    exact ⟨by rw [HE.out] <;> rfl, X3.out⟩
set_option maxRecDepth 100000 in
set_option maxHeartbeats 8000000 in
theorem modal_20 {w : World} {b : Nat} {lg : Int} {ls : List Ln} {s : List (List Int)} {i : Nat} {n : Ln} (h : Prf w b lg ls s) (ok : RefOk ls s i n) (hlg : 0 ≤ lg ∧ lg ≤ 6) (hr : n.rule = 20) :
    Calls Tryd.prog 53 #[.pointer (some ⟨b, 0, none⟩), .int .i64 i] w fun e w' => e = .returned (.bool (modalR lg ls s i)) ∧ Ext w w' := by
  have hi := ok.n_at
  have hgn : ls.getD i Ln.zero = n := by rw [List.getD_eq_getElem?_getD, hi]; rfl
  obtain ⟨ad, c, vs, uf, ur, hc1, hc2, hlt, d0, d1, d2, q0, q1, q2, q3, q4, hff, ⟨Ar, cr, rfl, hir⟩⟩ := h.line hi
  obtain ⟨Af, cf, rfl, _⟩ := fml_slice hff
  have hil : i < ls.length := (List.getElem?_eq_some_iff.1 hi).1
  have hil0 : (0 : Int) ≤ (i : Int) := by omega
  have hil1 : (i : Int) < (ls.length : Int) := by omega
  have H := Lib.hid h
  have OK := Lib.hid ok
  have HF0 := Lib.hid hff
  have HI := Lib.hid hi
  have HLG := Lib.hid hlg
  have HP := Lib.hid (show modalR lg ls s i = bif n.from_.length != 1 || decide ((lineR ls s i 0).length = 0) then false else (inL [1, 5] lg && (((lastN (lineR ls s i 0)).op == 9) && (((lastN n.f).op == 10) && (((lastN (lineR ls s i 0)).i == (lastN n.f).i) && sameN (firstN (lineR ls s i 0)) (firstN n.f))))) by
    unfold modalR
    simp only [hgn, hr]
    rfl)
  clear h ok hi hgn hff hir hlg
  by_cases hm : n.from_.length = 1
  · have tn1 : ((n.from_.length : Int) != 1) = false := by rw [bne_eq_false_iff_eq]; omega
    have qn1 : (n.from_.length != 1) = false := by rw [bne_eq_false_iff_eq]; omega
    clear hm
    go_enter Tryd.func53, Tryd.ntmps53
    go_wp2_with fail
    go_quiet (fail)
    have X0 := Lib.hid ((Ext.refl w).drewN nq)
    have HF := Lib.hid (HF0.out.ext X0.out)
    clear HF0
    go_wp2_with fail
    refine (rline_any (H.out.ext X0.out) OK.out 0).mono ?_
    rintro e w1 ⟨u, rfl, hx, hu⟩
    have X3 := Lib.hid (X0.out.trans hx)
    have HE_4 := Lib.hid (HF.out.ext hx)
    clear hx
    have HL_1 := Lib.hid hu
    obtain ⟨A2, cA2, rfl, _⟩ := fml_slice hu
    clear hu
    obtain ⟨adr, cr2, f1, f2⟩ := (H.out.ext X3.out).rule HI.out
    clear d1 q0 q1 q2 q3 q4 d0 d2
    rw [hr] at f2
    by_cases ha : (lineR ls s i 0).length = 0
    · have HE := Lib.hid (show modalR lg ls s i = false by rw [HP.out, qn1, decide_eq_true ha] <;> rfl)
      have ta : (((lineR ls s i 0).length : Int) == 0) = true := by rw [beq_iff_eq]; omega
      clear ha
      go_wp2_with fail
      go_ret
      exact ⟨by rw [HE.out] <;> rfl, X3.out⟩
    · have HP2 := Lib.hid (show modalR lg ls s i = (inL [1, 5] lg && (((lastN (lineR ls s i 0)).op == 9) && (((lastN n.f).op == 10) && (((lastN (lineR ls s i 0)).i == (lastN n.f).i) && sameN (firstN (lineR ls s i 0)) (firstN n.f))))) by rw [HP.out, qn1, decide_eq_false ha] <;> rfl)
      have ta : (((lineR ls s i 0).length : Int) == 0) = false := by rw [beq_eq_false_iff_ne]; omega
      clear ha
      have gl5 := (H.out.ext X3.out).logic
      go_wp2_with fail
      refine (rserial_any lg HLG.out _).mono ?_
      rintro e w2 ⟨rfl, hx⟩
      have X6 := Lib.hid (X3.out.trans hx)
      have HE_7 := Lib.hid (HE_4.out.ext hx)
      have HE_8 := Lib.hid (HL_1.out.ext hx)
      clear hx
      cases q9 : inL [1, 5] lg
      · skip
        have HE10 := Lib.hid (show modalR lg ls s i = false by rw [HP2.out, q9] <;> rfl)
        go_wp2_with fail
        go_ret
        exact ⟨by rw [HE10.out] <;> rfl, X6.out⟩
      · skip
        go_wp2_with fail
        refine (top_any _ (lineR ls s i 0) _ HE_8.out).mono ?_
        rintro e w3 ⟨rfl, hx⟩
        have X11 := Lib.hid (X6.out.trans hx)
        have HE_12 := Lib.hid (HE_7.out.ext hx)
        have HE_13 := Lib.hid (HE_8.out.ext hx)
        clear hx
        obtain ⟨fa14, fb15⟩ := node_field (lastN (lineR ls s i 0)) w3
        unfold Nd.val
        cases q16 : ((lastN (lineR ls s i 0)).op == 9)
        · skip
          have HE17 := Lib.hid (show modalR lg ls s i = false by rw [HP2.out, q9, q16] <;> rfl)
          go_wp2_with fail
          go_ret
          exact ⟨by rw [HE17.out] <;> rfl, X11.out⟩
        · skip
          go_wp2_with fail
          refine (top_any _ n.f _ HE_12.out).mono ?_
          rintro e w4 ⟨rfl, hx⟩
          have X18 := Lib.hid (X11.out.trans hx)
          have HE_19 := Lib.hid (HE_12.out.ext hx)
          have HE_20 := Lib.hid (HE_13.out.ext hx)
          clear hx
          obtain ⟨fa21, fb22⟩ := node_field (lastN n.f) w4
          unfold Nd.val
          cases q23 : ((lastN n.f).op == 10)
          · skip
            have HE24 := Lib.hid (show modalR lg ls s i = false by rw [HP2.out, q9, q16, q23] <;> rfl)
            go_wp2_with fail
            go_ret
            exact ⟨by rw [HE24.out] <;> rfl, X18.out⟩
          · skip
            go_wp2_with fail
            refine (top_any _ (lineR ls s i 0) _ HE_20.out).mono ?_
            rintro e w5 ⟨rfl, hx⟩
            have X25 := Lib.hid (X18.out.trans hx)
            have HE_26 := Lib.hid (HE_19.out.ext hx)
            have HE_27 := Lib.hid (HE_20.out.ext hx)
            clear hx
            obtain ⟨fa28, fb29⟩ := node_field (lastN (lineR ls s i 0)) w5
            unfold Nd.val
            go_wp2_with fail
            refine (top_any _ n.f _ HE_26.out).mono ?_
            rintro e w6 ⟨rfl, hx⟩
            have X30 := Lib.hid (X25.out.trans hx)
            have HE_31 := Lib.hid (HE_26.out.ext hx)
            have HE_32 := Lib.hid (HE_27.out.ext hx)
            clear hx
            obtain ⟨fa33, fb34⟩ := node_field (lastN n.f) w6
            unfold Nd.val
            cases q35 : ((lastN (lineR ls s i 0)).i == (lastN n.f).i)
            · skip
              have HE36 := Lib.hid (show modalR lg ls s i = false by rw [HP2.out, q9, q16, q23, q35] <;> rfl)
              go_wp2_with fail
              go_ret
              exact ⟨by rw [HE36.out] <;> rfl, X30.out⟩
            · skip
              go_wp2_with fail
              refine (first_any _ (lineR ls s i 0) _ HE_32.out).mono ?_
              rintro e w7 ⟨u, rfl, hx, hu⟩
              have X37 := Lib.hid (X30.out.trans hx)
              have HE_38 := Lib.hid (HE_31.out.ext hx)
              have HE_39 := Lib.hid (HE_32.out.ext hx)
              clear hx
              have HM_40 := Lib.hid hu
              obtain ⟨A41, c42, rfl, _⟩ := fml_slice hu
              clear hu
              go_wp2_with fail
              refine (first_any _ n.f _ HE_38.out).mono ?_
              rintro e w8 ⟨u, rfl, hx, hu⟩
              have X43 := Lib.hid (X37.out.trans hx)
              have HE_44 := Lib.hid (HE_38.out.ext hx)
              have HE_45 := Lib.hid (HE_39.out.ext hx)
              have HM_46 := Lib.hid (HM_40.out.ext hx)
              clear hx
              have HM_47 := Lib.hid hu
              obtain ⟨A48, c49, rfl, _⟩ := fml_slice hu
              clear hu
              go_wp2_with fail
              refine (rsame_any _ _ (firstN (lineR ls s i 0)) (firstN n.f) _ HM_46.out HM_47.out).mono ?_
              rintro e w9 ⟨rfl, hx⟩
              have X50 := Lib.hid (X43.out.trans hx)
              have HE_51 := Lib.hid (HE_44.out.ext hx)
              have HE_52 := Lib.hid (HE_45.out.ext hx)
              have HM_53 := Lib.hid (HM_46.out.ext hx)
              have HM_54 := Lib.hid (HM_47.out.ext hx)
              clear hx
              have HE55 := Lib.hid (show modalR lg ls s i = sameN (firstN (lineR ls s i 0)) (firstN n.f) by rw [HP2.out, q9, q16, q23, q35] <;> rfl)
              go_wp2_with fail
              go_ret
              exact ⟨by rw [HE55.out] <;> rfl, X50.out⟩
  · have tn1 : ((n.from_.length : Int) != 1) = true := by rw [bne_iff_ne]; omega
    have qn1 : (n.from_.length != 1) = true := by rw [bne_iff_ne]; omega
    clear hm
    go_enter Tryd.func53, Tryd.ntmps53
    go_wp2_with fail
    go_quiet (fail)
    have X0 := Lib.hid ((Ext.refl w).drewN nq)
    have HF := Lib.hid (HF0.out.ext X0.out)
    clear HF0
    go_wp2_with fail
    refine (rline_any (H.out.ext X0.out) OK.out 0).mono ?_
    rintro e w1 ⟨u, rfl, hx, hu⟩
    have X3 := Lib.hid (X0.out.trans hx)
    have HE_4 := Lib.hid (HF.out.ext hx)
    clear hx
    have HL_1 := Lib.hid hu
    obtain ⟨A2, cA2, rfl, _⟩ := fml_slice hu
    clear hu
    have HE := Lib.hid (show modalR lg ls s i = false by rw [HP.out, qn1] <;> rfl)
    go_wp2_with fail
    go_ret
    exact ⟨by rw [HE.out] <;> rfl, X3.out⟩
set_option maxRecDepth 100000 in
set_option maxHeartbeats 8000000 in
theorem modal_other {w : World} {b : Nat} {lg : Int} {ls : List Ln} {s : List (List Int)} {i : Nat} {n : Ln} (h : Prf w b lg ls s) (ok : RefOk ls s i n) (hlg : 0 ≤ lg ∧ lg ≤ 6) (hr : (n.rule == 18) = false ∧ (n.rule == 19) = false ∧ (n.rule == 20) = false) :
    Calls Tryd.prog 53 #[.pointer (some ⟨b, 0, none⟩), .int .i64 i] w fun e w' => e = .returned (.bool (modalR lg ls s i)) ∧ Ext w w' := by
  obtain ⟨b18, b19, b20⟩ := hr
  have hi := ok.n_at
  have hgn : ls.getD i Ln.zero = n := by rw [List.getD_eq_getElem?_getD, hi]; rfl
  obtain ⟨ad, c, vs, uf, ur, hc1, hc2, hlt, d0, d1, d2, q0, q1, q2, q3, q4, hff, ⟨Ar, cr, rfl, hir⟩⟩ := h.line hi
  obtain ⟨Af, cf, rfl, _⟩ := fml_slice hff
  have hil : i < ls.length := (List.getElem?_eq_some_iff.1 hi).1
  have hil0 : (0 : Int) ≤ (i : Int) := by omega
  have hil1 : (i : Int) < (ls.length : Int) := by omega
  have H := Lib.hid h
  have OK := Lib.hid ok
  have HF0 := Lib.hid hff
  have HI := Lib.hid hi
  have HLG := Lib.hid hlg
  have HP := Lib.hid (show modalR lg ls s i = bif n.from_.length != 1 || decide ((lineR ls s i 0).length = 0) then false else false by
    unfold modalR
    simp only [hgn, b18, b19, b20]
    rfl)
  clear h ok hi hgn hff hir hlg
  by_cases hm : n.from_.length = 1
  · have tn1 : ((n.from_.length : Int) != 1) = false := by rw [bne_eq_false_iff_eq]; omega
    have qn1 : (n.from_.length != 1) = false := by rw [bne_eq_false_iff_eq]; omega
    clear hm
    go_enter Tryd.func53, Tryd.ntmps53
    go_wp2_with fail
    go_quiet (fail)
    have X0 := Lib.hid ((Ext.refl w).drewN nq)
    have HF := Lib.hid (HF0.out.ext X0.out)
    clear HF0
    go_wp2_with fail
    refine (rline_any (H.out.ext X0.out) OK.out 0).mono ?_
    rintro e w1 ⟨u, rfl, hx, hu⟩
    have X3 := Lib.hid (X0.out.trans hx)
    have HE_4 := Lib.hid (HF.out.ext hx)
    clear hx
    have HL_1 := Lib.hid hu
    obtain ⟨A2, cA2, rfl, _⟩ := fml_slice hu
    clear hu
    obtain ⟨adr, cr2, f1, f2⟩ := (H.out.ext X3.out).rule HI.out
    clear d1 q0 q1 q2 q3 q4 d0 d2
    by_cases ha : (lineR ls s i 0).length = 0
    · have HE := Lib.hid (show modalR lg ls s i = false by rw [HP.out, qn1, decide_eq_true ha] <;> rfl)
      have ta : (((lineR ls s i 0).length : Int) == 0) = true := by rw [beq_iff_eq]; omega
      clear ha
      go_wp2_with fail
      go_ret
      exact ⟨by rw [HE.out] <;> rfl, X3.out⟩
    · have HP2 := Lib.hid (show modalR lg ls s i = false by rw [HP.out, qn1, decide_eq_false ha] <;> rfl)
      have ta : (((lineR ls s i 0).length : Int) == 0) = false := by rw [beq_eq_false_iff_ne]; omega
      clear ha
      go_wp2_with fail
      go_ret
      exact ⟨by rw [HP2.out] <;> rfl, X3.out⟩
  · have tn1 : ((n.from_.length : Int) != 1) = true := by rw [bne_iff_ne]; omega
    have qn1 : (n.from_.length != 1) = true := by rw [bne_iff_ne]; omega
    clear hm
    go_enter Tryd.func53, Tryd.ntmps53
    go_wp2_with fail
    go_quiet (fail)
    have X0 := Lib.hid ((Ext.refl w).drewN nq)
    have HF := Lib.hid (HF0.out.ext X0.out)
    clear HF0
    go_wp2_with fail
    refine (rline_any (H.out.ext X0.out) OK.out 0).mono ?_
    rintro e w1 ⟨u, rfl, hx, hu⟩
    have X3 := Lib.hid (X0.out.trans hx)
    have HE_4 := Lib.hid (HF.out.ext hx)
    clear hx
    have HL_1 := Lib.hid hu
    obtain ⟨A2, cA2, rfl, _⟩ := fml_slice hu
    clear hu
    have HE := Lib.hid (show modalR lg ls s i = false by rw [HP.out, qn1] <;> rfl)
    go_wp2_with fail
    go_ret
    exact ⟨by rw [HE.out] <;> rfl, X3.out⟩
theorem modal_any {w : World} {b : Nat} {lg : Int} {ls : List Ln} {s : List (List Int)} {i : Nat} {n : Ln} (h : Prf w b lg ls s) (ok : RefOk ls s i n) (hlg : 0 ≤ lg ∧ lg ≤ 6) :
    Calls Tryd.prog 53 #[.pointer (some ⟨b, 0, none⟩), .int .i64 i] w fun e w' => e = .returned (.bool (modalR lg ls s i)) ∧ Ext w w' := by
  by_cases e18 : n.rule = 18
  · exact modal_18 h ok hlg e18
  by_cases e19 : n.rule = 19
  · exact modal_19 h ok hlg e19
  by_cases e20 : n.rule = 20
  · exact modal_20 h ok hlg e20
  exact modal_other h ok hlg ⟨beq_eq_false_iff_ne.2 e18, beq_eq_false_iff_ne.2 e19, beq_eq_false_iff_ne.2 e20⟩
end Go.Proofs.YtipnbfbakohcaaaDoor
