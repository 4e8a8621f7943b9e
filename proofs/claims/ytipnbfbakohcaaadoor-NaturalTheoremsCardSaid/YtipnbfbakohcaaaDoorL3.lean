/- The reference's propositional rules. -/
import Derived.Test.YtipnbfbakohcaaaDoorH2

namespace Go.Proofs.YtipnbfbakohcaaaDoor
open Go.RowKit

set_option maxRecDepth 100000 in
set_option maxHeartbeats 8000000 in
theorem prop_3 {w : World} {b : Nat} {lg : Int} {ls : List Ln} {s : List (List Int)} {i : Nat} {n : Ln} (h : Prf w b lg ls s) (ok : RefOk ls s i n) (hr : n.rule = 3) :
    Calls Tryd.prog 51 #[.pointer (some ⟨b, 0, none⟩), .int .i64 i] w fun e w' => e = .returned (.bool (propR ls s i)) ∧ Ext w w' := by
  have hi := ok.n_at
  have hgn : ls.getD i Ln.zero = n := by rw [List.getD_eq_getElem?_getD, hi]; rfl
  obtain ⟨ad, c, vs, uf, ur, hc1, hc2, hlt, d0, d1, d2, q0, q1, q2, q3, q4, hff, ⟨Ar, cr, rfl, hir⟩⟩ := h.line hi
  obtain ⟨Af, cf, rfl, _⟩ := fml_slice hff
  have hil : i < ls.length := (List.getElem?_eq_some_iff.1 hi).1
  have hil0 : (0 : Int) ≤ (i : Int) := by omega
  have hil1 : (i : Int) < (ls.length : Int) := by omega
  have H := Lib.hid h
  have OK := Lib.hid ok
  have HF0 := Lib.hid hff
  have HI := Lib.hid hi
  have HP := Lib.hid (show propR ls s i = ((n.from_.length == 1) && sameN (lineR ls s i 0) n.f) by
    unfold propR
    simp only [hgn, hr]
    rfl)
  clear h ok hi hgn hff hir
  by_cases hm : n.from_.length = 1
  · have tm1 : ((n.from_.length : Int) == 1) = true := by rw [beq_iff_eq]; omega
    have qm1 : (n.from_.length == 1) = true := by rw [beq_iff_eq]; omega
    clear hm
    go_enter Tryd.func51, Tryd.ntmps51
    go_wp2_with fail
    go_quiet (fail)
    have HX0 := Lib.hid ((Ext.refl w).drewN nq)
    go_wp2_with fail
    refine (rline_any (H.out.ext HX0.out) OK.out 0).mono ?_
    rintro e w1 ⟨ua, rfl, hx, hua⟩
    have HX1 := Lib.hid (HX0.out.trans hx)
    have HA1 := Lib.hid hua
    obtain ⟨Aa, ca, rfl, _⟩ := fml_slice hua
    clear hx hua
    go_wp2_with fail
    refine (rline_any (H.out.ext HX1.out) OK.out 1).mono ?_
    rintro e w2 ⟨ub, rfl, hx, hub⟩
    have HX2 := Lib.hid (HX1.out.trans hx)
    have HA := Lib.hid (HA1.out.ext hx)
    have HB := Lib.hid hub
    have HF := Lib.hid (HF0.out.ext HX2.out)
    obtain ⟨Ab, cb, rfl, _⟩ := fml_slice hub
    clear hx hub d0 d1 d2 q0 q1 q2 q3 q4 hlt
    obtain ⟨ad2, c2, vs2, uf2, ur2, g1, g2, g3, g4, g5, g6, t0, t1, t2, t3, t4, _, _⟩ := (H.out.ext HX2.out).line HI.out
    clear g4 g6 t0 t2 t3 t4
    rw [hr] at t1
    go_wp2_with fail
    refine (rsame_any _ _ (lineR ls s i 0) n.f _ HA.out HF.out).mono ?_
    rintro e w3 ⟨rfl, hx⟩
    have X1 := Lib.hid (HX2.out.trans hx)
    have HE_2 := Lib.hid (HF.out.ext hx)
    have HE_3 := Lib.hid (HA.out.ext hx)
    have HE_4 := Lib.hid (HB.out.ext hx)
    clear hx
    have HE5 := Lib.hid (show propR ls s i = sameN (lineR ls s i 0) n.f by rw [HP.out, qm1] <;> rfl)
    go_wp2_with fail
    go_ret
    exact ⟨by rw [HE5.out] <;> rfl, X1.out⟩
  · have tm1 : ((n.from_.length : Int) == 1) = false := by rw [beq_eq_false_iff_ne]; omega
    have qm1 : (n.from_.length == 1) = false := by rw [beq_eq_false_iff_ne]; omega
    clear hm
    go_enter Tryd.func51, Tryd.ntmps51
    go_wp2_with fail
    go_quiet (fail)
    have HX0 := Lib.hid ((Ext.refl w).drewN nq)
    go_wp2_with fail
    refine (rline_any (H.out.ext HX0.out) OK.out 0).mono ?_
    rintro e w1 ⟨ua, rfl, hx, hua⟩
    have HX1 := Lib.hid (HX0.out.trans hx)
    have HA1 := Lib.hid hua
    obtain ⟨Aa, ca, rfl, _⟩ := fml_slice hua
    clear hx hua
    go_wp2_with fail
    refine (rline_any (H.out.ext HX1.out) OK.out 1).mono ?_
    rintro e w2 ⟨ub, rfl, hx, hub⟩
    have HX2 := Lib.hid (HX1.out.trans hx)
    have HA := Lib.hid (HA1.out.ext hx)
    have HB := Lib.hid hub
    have HF := Lib.hid (HF0.out.ext HX2.out)
    obtain ⟨Ab, cb, rfl, _⟩ := fml_slice hub
    clear hx hub d0 d1 d2 q0 q1 q2 q3 q4 hlt
    obtain ⟨ad2, c2, vs2, uf2, ur2, g1, g2, g3, g4, g5, g6, t0, t1, t2, t3, t4, _, _⟩ := (H.out.ext HX2.out).line HI.out
    clear g4 g6 t0 t2 t3 t4
    rw [hr] at t1
    have HE := Lib.hid (show propR ls s i = false by rw [HP.out, qm1] <;> rfl)
    go_wp2_with fail
    go_ret
    exact ⟨by rw [HE.out] <;> rfl, HX2.out⟩
set_option maxRecDepth 100000 in
set_option maxHeartbeats 8000000 in
theorem prop_4 {w : World} {b : Nat} {lg : Int} {ls : List Ln} {s : List (List Int)} {i : Nat} {n : Ln} (h : Prf w b lg ls s) (ok : RefOk ls s i n) (hr : n.rule = 4) :
    Calls Tryd.prog 51 #[.pointer (some ⟨b, 0, none⟩), .int .i64 i] w fun e w' => e = .returned (.bool (propR ls s i)) ∧ Ext w w' := by
  have hi := ok.n_at
  have hgn : ls.getD i Ln.zero = n := by rw [List.getD_eq_getElem?_getD, hi]; rfl
  obtain ⟨ad, c, vs, uf, ur, hc1, hc2, hlt, d0, d1, d2, q0, q1, q2, q3, q4, hff, ⟨Ar, cr, rfl, hir⟩⟩ := h.line hi
  obtain ⟨Af, cf, rfl, _⟩ := fml_slice hff
  have hil : i < ls.length := (List.getElem?_eq_some_iff.1 hi).1
  have hil0 : (0 : Int) ≤ (i : Int) := by omega
  have hil1 : (i : Int) < (ls.length : Int) := by omega
  have H := Lib.hid h
  have OK := Lib.hid ok
  have HF0 := Lib.hid hff
  have HI := Lib.hid hi
  have HP := Lib.hid (show propR ls s i = ((n.from_.length == 2) && twoR n.f 5 (lineR ls s i 0) (lineR ls s i 1)) by
    unfold propR
    simp only [hgn, hr]
    rfl)
  clear h ok hi hgn hff hir
  by_cases hm : n.from_.length = 2
  · have tm2 : ((n.from_.length : Int) == 2) = true := by rw [beq_iff_eq]; omega
    have qm2 : (n.from_.length == 2) = true := by rw [beq_iff_eq]; omega
    clear hm
    go_enter Tryd.func51, Tryd.ntmps51
    go_wp2_with fail
    go_quiet (fail)
    have HX0 := Lib.hid ((Ext.refl w).drewN nq)
    go_wp2_with fail
    refine (rline_any (H.out.ext HX0.out) OK.out 0).mono ?_
    rintro e w1 ⟨ua, rfl, hx, hua⟩
    have HX1 := Lib.hid (HX0.out.trans hx)
    have HA1 := Lib.hid hua
    obtain ⟨Aa, ca, rfl, _⟩ := fml_slice hua
    clear hx hua
    go_wp2_with fail
    refine (rline_any (H.out.ext HX1.out) OK.out 1).mono ?_
    rintro e w2 ⟨ub, rfl, hx, hub⟩
    have HX2 := Lib.hid (HX1.out.trans hx)
    have HA := Lib.hid (HA1.out.ext hx)
    have HB := Lib.hid hub
    have HF := Lib.hid (HF0.out.ext HX2.out)
    obtain ⟨Ab, cb, rfl, _⟩ := fml_slice hub
    clear hx hub d0 d1 d2 q0 q1 q2 q3 q4 hlt
    obtain ⟨ad2, c2, vs2, uf2, ur2, g1, g2, g3, g4, g5, g6, t0, t1, t2, t3, t4, _, _⟩ := (H.out.ext HX2.out).line HI.out
    clear g4 g6 t0 t2 t3 t4
    rw [hr] at t1
    go_wp2_with fail
    refine (rtwo_any _ _ _ 5 n.f (lineR ls s i 0) (lineR ls s i 1) _ HF.out HA.out HB.out).mono ?_
    rintro e w3 ⟨rfl, hx⟩
    have X1 := Lib.hid (HX2.out.trans hx)
    have HE_2 := Lib.hid (HF.out.ext hx)
    have HE_3 := Lib.hid (HA.out.ext hx)
    have HE_4 := Lib.hid (HB.out.ext hx)
    clear hx
    have HE5 := Lib.hid (show propR ls s i = twoR n.f 5 (lineR ls s i 0) (lineR ls s i 1) by rw [HP.out, qm2] <;> rfl)
    go_wp2_with fail
    go_ret
    exact ⟨by rw [HE5.out] <;> rfl, X1.out⟩
  · have tm2 : ((n.from_.length : Int) == 2) = false := by rw [beq_eq_false_iff_ne]; omega
    have qm2 : (n.from_.length == 2) = false := by rw [beq_eq_false_iff_ne]; omega
    clear hm
    go_enter Tryd.func51, Tryd.ntmps51
    go_wp2_with fail
    go_quiet (fail)
    have HX0 := Lib.hid ((Ext.refl w).drewN nq)
    go_wp2_with fail
    refine (rline_any (H.out.ext HX0.out) OK.out 0).mono ?_
    rintro e w1 ⟨ua, rfl, hx, hua⟩
    have HX1 := Lib.hid (HX0.out.trans hx)
    have HA1 := Lib.hid hua
    obtain ⟨Aa, ca, rfl, _⟩ := fml_slice hua
    clear hx hua
    go_wp2_with fail
    refine (rline_any (H.out.ext HX1.out) OK.out 1).mono ?_
    rintro e w2 ⟨ub, rfl, hx, hub⟩
    have HX2 := Lib.hid (HX1.out.trans hx)
    have HA := Lib.hid (HA1.out.ext hx)
    have HB := Lib.hid hub
    have HF := Lib.hid (HF0.out.ext HX2.out)
    obtain ⟨Ab, cb, rfl, _⟩ := fml_slice hub
    clear hx hub d0 d1 d2 q0 q1 q2 q3 q4 hlt
    obtain ⟨ad2, c2, vs2, uf2, ur2, g1, g2, g3, g4, g5, g6, t0, t1, t2, t3, t4, _, _⟩ := (H.out.ext HX2.out).line HI.out
    clear g4 g6 t0 t2 t3 t4
    rw [hr] at t1
    have HE := Lib.hid (show propR ls s i = false by rw [HP.out, qm2] <;> rfl)
    go_wp2_with fail
    go_ret
    exact ⟨by rw [HE.out] <;> rfl, HX2.out⟩
set_option maxRecDepth 100000 in
set_option maxHeartbeats 8000000 in
theorem prop_5 {w : World} {b : Nat} {lg : Int} {ls : List Ln} {s : List (List Int)} {i : Nat} {n : Ln} (h : Prf w b lg ls s) (ok : RefOk ls s i n) (hr : n.rule = 5) :
    Calls Tryd.prog 51 #[.pointer (some ⟨b, 0, none⟩), .int .i64 i] w fun e w' => e = .returned (.bool (propR ls s i)) ∧ Ext w w' := by
  have hi := ok.n_at
  have hgn : ls.getD i Ln.zero = n := by rw [List.getD_eq_getElem?_getD, hi]; rfl
  obtain ⟨ad, c, vs, uf, ur, hc1, hc2, hlt, d0, d1, d2, q0, q1, q2, q3, q4, hff, ⟨Ar, cr, rfl, hir⟩⟩ := h.line hi
  obtain ⟨Af, cf, rfl, _⟩ := fml_slice hff
  have hil : i < ls.length := (List.getElem?_eq_some_iff.1 hi).1
  have hil0 : (0 : Int) ≤ (i : Int) := by omega
  have hil1 : (i : Int) < (ls.length : Int) := by omega
  have H := Lib.hid h
  have OK := Lib.hid ok
  have HF0 := Lib.hid hff
  have HI := Lib.hid hi
  have HP := Lib.hid (show propR ls s i = ((n.from_.length == 1) && (((lastN (lineR ls s i 0)).op == 5) && (sameN (firstN (lineR ls s i 0)) n.f || sameN (secondN (lineR ls s i 0)) n.f))) by
    unfold propR
    simp only [hgn, hr]
    rfl)
  clear h ok hi hgn hff hir
  by_cases hm : n.from_.length = 1
  · have tm1 : ((n.from_.length : Int) == 1) = true := by rw [beq_iff_eq]; omega
    have qm1 : (n.from_.length == 1) = true := by rw [beq_iff_eq]; omega
    clear hm
    go_enter Tryd.func51, Tryd.ntmps51
    go_wp2_with fail
    go_quiet (fail)
    have HX0 := Lib.hid ((Ext.refl w).drewN nq)
    go_wp2_with fail
    refine (rline_any (H.out.ext HX0.out) OK.out 0).mono ?_
    rintro e w1 ⟨ua, rfl, hx, hua⟩
    have HX1 := Lib.hid (HX0.out.trans hx)
    have HA1 := Lib.hid hua
    obtain ⟨Aa, ca, rfl, _⟩ := fml_slice hua
    clear hx hua
    go_wp2_with fail
    refine (rline_any (H.out.ext HX1.out) OK.out 1).mono ?_
    rintro e w2 ⟨ub, rfl, hx, hub⟩
    have HX2 := Lib.hid (HX1.out.trans hx)
    have HA := Lib.hid (HA1.out.ext hx)
    have HB := Lib.hid hub
    have HF := Lib.hid (HF0.out.ext HX2.out)
    obtain ⟨Ab, cb, rfl, _⟩ := fml_slice hub
    clear hx hub d0 d1 d2 q0 q1 q2 q3 q4 hlt
    obtain ⟨ad2, c2, vs2, uf2, ur2, g1, g2, g3, g4, g5, g6, t0, t1, t2, t3, t4, _, _⟩ := (H.out.ext HX2.out).line HI.out
    clear g4 g6 t0 t2 t3 t4
    rw [hr] at t1
    go_wp2_with fail
    refine (top_any _ (lineR ls s i 0) _ HA.out).mono ?_
    rintro e w3 ⟨rfl, hx⟩
    have X1 := Lib.hid (HX2.out.trans hx)
    have HE_2 := Lib.hid (HF.out.ext hx)
    have HE_3 := Lib.hid (HA.out.ext hx)
    have HE_4 := Lib.hid (HB.out.ext hx)
    clear hx
    obtain ⟨fa5, fb6⟩ := node_field (lastN (lineR ls s i 0)) w3
    unfold Nd.val
    cases q7 : ((lastN (lineR ls s i 0)).op == 5)
    · skip
      have HE8 := Lib.hid (show propR ls s i = false by rw [HP.out, qm1, q7] <;> rfl)
      go_wp2_with fail
      go_ret
      exact ⟨by rw [HE8.out] <;> rfl, X1.out⟩
    · skip
      go_wp2_with fail
      refine (first_any _ (lineR ls s i 0) _ HE_3.out).mono ?_
      rintro e w4 ⟨u, rfl, hx, hu⟩
      have X9 := Lib.hid (X1.out.trans hx)
      have HE_10 := Lib.hid (HE_2.out.ext hx)
      have HE_11 := Lib.hid (HE_3.out.ext hx)
      have HE_12 := Lib.hid (HE_4.out.ext hx)
      clear hx
      have HM_13 := Lib.hid hu
      obtain ⟨A14, c15, rfl, _⟩ := fml_slice hu
      clear hu
      go_wp2_with fail
      refine (rsame_any _ _ (firstN (lineR ls s i 0)) n.f _ HM_13.out HE_10.out).mono ?_
      rintro e w5 ⟨rfl, hx⟩
      have X16 := Lib.hid (X9.out.trans hx)
      have HE_17 := Lib.hid (HE_10.out.ext hx)
      have HE_18 := Lib.hid (HE_11.out.ext hx)
      have HE_19 := Lib.hid (HE_12.out.ext hx)
      have HM_20 := Lib.hid (HM_13.out.ext hx)
      clear hx
      cases q21 : sameN (firstN (lineR ls s i 0)) n.f
      · skip
        go_wp2_with fail
        refine (second_any _ (lineR ls s i 0) _ HE_18.out).mono ?_
        rintro e w6 ⟨u, rfl, hx, hu⟩
        have X22 := Lib.hid (X16.out.trans hx)
        have HE_23 := Lib.hid (HE_17.out.ext hx)
        have HE_24 := Lib.hid (HE_18.out.ext hx)
        have HE_25 := Lib.hid (HE_19.out.ext hx)
        have HM_26 := Lib.hid (HM_20.out.ext hx)
        clear hx
        have HM_27 := Lib.hid hu
        obtain ⟨A28, c29, rfl, _⟩ := fml_slice hu
        clear hu
        go_wp2_with fail
        refine (rsame_any _ _ (secondN (lineR ls s i 0)) n.f _ HM_27.out HE_23.out).mono ?_
        rintro e w7 ⟨rfl, hx⟩
        have X30 := Lib.hid (X22.out.trans hx)
        have HE_31 := Lib.hid (HE_23.out.ext hx)
        have HE_32 := Lib.hid (HE_24.out.ext hx)
        have HE_33 := Lib.hid (HE_25.out.ext hx)
        have HM_34 := Lib.hid (HM_26.out.ext hx)
        have HM_35 := Lib.hid (HM_27.out.ext hx)
        clear hx
        have HE36 := Lib.hid (show propR ls s i = sameN (secondN (lineR ls s i 0)) n.f by rw [HP.out, qm1, q7, q21] <;> rfl)
        go_wp2_with fail
        go_ret
        exact ⟨by rw [HE36.out] <;> rfl, X30.out⟩
      · skip
        have HE37 := Lib.hid (show propR ls s i = true by rw [HP.out, qm1, q7, q21] <;> rfl)
        go_wp2_with fail
        go_ret
        exact ⟨by rw [HE37.out] <;> rfl, X16.out⟩
  · have tm1 : ((n.from_.length : Int) == 1) = false := by rw [beq_eq_false_iff_ne]; omega
    have qm1 : (n.from_.length == 1) = false := by rw [beq_eq_false_iff_ne]; omega
    clear hm
    go_enter Tryd.func51, Tryd.ntmps51
    go_wp2_with fail
    go_quiet (fail)
    have HX0 := Lib.hid ((Ext.refl w).drewN nq)
    go_wp2_with fail
    refine (rline_any (H.out.ext HX0.out) OK.out 0).mono ?_
    rintro e w1 ⟨ua, rfl, hx, hua⟩
    have HX1 := Lib.hid (HX0.out.trans hx)
    have HA1 := Lib.hid hua
    obtain ⟨Aa, ca, rfl, _⟩ := fml_slice hua
    clear hx hua
    go_wp2_with fail
    refine (rline_any (H.out.ext HX1.out) OK.out 1).mono ?_
    rintro e w2 ⟨ub, rfl, hx, hub⟩
    have HX2 := Lib.hid (HX1.out.trans hx)
    have HA := Lib.hid (HA1.out.ext hx)
    have HB := Lib.hid hub
    have HF := Lib.hid (HF0.out.ext HX2.out)
    obtain ⟨Ab, cb, rfl, _⟩ := fml_slice hub
    clear hx hub d0 d1 d2 q0 q1 q2 q3 q4 hlt
    obtain ⟨ad2, c2, vs2, uf2, ur2, g1, g2, g3, g4, g5, g6, t0, t1, t2, t3, t4, _, _⟩ := (H.out.ext HX2.out).line HI.out
    clear g4 g6 t0 t2 t3 t4
    rw [hr] at t1
    have HE := Lib.hid (show propR ls s i = false by rw [HP.out, qm1] <;> rfl)
    go_wp2_with fail
    go_ret
    exact ⟨by rw [HE.out] <;> rfl, HX2.out⟩
set_option maxRecDepth 100000 in
set_option maxHeartbeats 8000000 in
theorem prop_6 {w : World} {b : Nat} {lg : Int} {ls : List Ln} {s : List (List Int)} {i : Nat} {n : Ln} (h : Prf w b lg ls s) (ok : RefOk ls s i n) (hr : n.rule = 6) :
    Calls Tryd.prog 51 #[.pointer (some ⟨b, 0, none⟩), .int .i64 i] w fun e w' => e = .returned (.bool (propR ls s i)) ∧ Ext w w' := by
  have hi := ok.n_at
  have hgn : ls.getD i Ln.zero = n := by rw [List.getD_eq_getElem?_getD, hi]; rfl
  obtain ⟨ad, c, vs, uf, ur, hc1, hc2, hlt, d0, d1, d2, q0, q1, q2, q3, q4, hff, ⟨Ar, cr, rfl, hir⟩⟩ := h.line hi
  obtain ⟨Af, cf, rfl, _⟩ := fml_slice hff
  have hil : i < ls.length := (List.getElem?_eq_some_iff.1 hi).1
  have hil0 : (0 : Int) ≤ (i : Int) := by omega
  have hil1 : (i : Int) < (ls.length : Int) := by omega
  have H := Lib.hid h
  have OK := Lib.hid ok
  have HF0 := Lib.hid hff
  have HI := Lib.hid hi
  have HP := Lib.hid (show propR ls s i = ((n.from_.length == 1) && (((lastN n.f).op == 6) && (sameN (firstN n.f) (lineR ls s i 0) || sameN (secondN n.f) (lineR ls s i 0)))) by
    unfold propR
    simp only [hgn, hr]
    rfl)
  clear h ok hi hgn hff hir
  by_cases hm : n.from_.length = 1
  · have tm1 : ((n.from_.length : Int) == 1) = true := by rw [beq_iff_eq]; omega
    have qm1 : (n.from_.length == 1) = true := by rw [beq_iff_eq]; omega
    clear hm
    go_enter Tryd.func51, Tryd.ntmps51
    go_wp2_with fail
    go_quiet (fail)
    have HX0 := Lib.hid ((Ext.refl w).drewN nq)
    go_wp2_with fail
    refine (rline_any (H.out.ext HX0.out) OK.out 0).mono ?_
    rintro e w1 ⟨ua, rfl, hx, hua⟩
    have HX1 := Lib.hid (HX0.out.trans hx)
    have HA1 := Lib.hid hua
    obtain ⟨Aa, ca, rfl, _⟩ := fml_slice hua
    clear hx hua
    go_wp2_with fail
    refine (rline_any (H.out.ext HX1.out) OK.out 1).mono ?_
    rintro e w2 ⟨ub, rfl, hx, hub⟩
    have HX2 := Lib.hid (HX1.out.trans hx)
    have HA := Lib.hid (HA1.out.ext hx)
    have HB := Lib.hid hub
    have HF := Lib.hid (HF0.out.ext HX2.out)
    obtain ⟨Ab, cb, rfl, _⟩ := fml_slice hub
    clear hx hub d0 d1 d2 q0 q1 q2 q3 q4 hlt
    obtain ⟨ad2, c2, vs2, uf2, ur2, g1, g2, g3, g4, g5, g6, t0, t1, t2, t3, t4, _, _⟩ := (H.out.ext HX2.out).line HI.out
    clear g4 g6 t0 t2 t3 t4
    rw [hr] at t1
    go_wp2_with fail
    refine (top_any _ n.f _ HF.out).mono ?_
    rintro e w3 ⟨rfl, hx⟩
    have X1 := Lib.hid (HX2.out.trans hx)
    have HE_2 := Lib.hid (HF.out.ext hx)
    have HE_3 := Lib.hid (HA.out.ext hx)
    have HE_4 := Lib.hid (HB.out.ext hx)
    clear hx
    obtain ⟨fa5, fb6⟩ := node_field (lastN n.f) w3
    unfold Nd.val
    cases q7 : ((lastN n.f).op == 6)
    · skip
      have HE8 := Lib.hid (show propR ls s i = false by rw [HP.out, qm1, q7] <;> rfl)
      go_wp2_with fail
      go_ret
      exact ⟨by rw [HE8.out] <;> rfl, X1.out⟩
    · skip
      go_wp2_with fail
      refine (first_any _ n.f _ HE_2.out).mono ?_
      rintro e w4 ⟨u, rfl, hx, hu⟩
      have X9 := Lib.hid (X1.out.trans hx)
      have HE_10 := Lib.hid (HE_2.out.ext hx)
      have HE_11 := Lib.hid (HE_3.out.ext hx)
      have HE_12 := Lib.hid (HE_4.out.ext hx)
      clear hx
      have HM_13 := Lib.hid hu
      obtain ⟨A14, c15, rfl, _⟩ := fml_slice hu
      clear hu
      go_wp2_with fail
      refine (rsame_any _ _ (firstN n.f) (lineR ls s i 0) _ HM_13.out HE_11.out).mono ?_
      rintro e w5 ⟨rfl, hx⟩
      have X16 := Lib.hid (X9.out.trans hx)
      have HE_17 := Lib.hid (HE_10.out.ext hx)
      have HE_18 := Lib.hid (HE_11.out.ext hx)
      have HE_19 := Lib.hid (HE_12.out.ext hx)
      have HM_20 := Lib.hid (HM_13.out.ext hx)
      clear hx
      cases q21 : sameN (firstN n.f) (lineR ls s i 0)
      · skip
        go_wp2_with fail
        refine (second_any _ n.f _ HE_17.out).mono ?_
        rintro e w6 ⟨u, rfl, hx, hu⟩
        have X22 := Lib.hid (X16.out.trans hx)
        have HE_23 := Lib.hid (HE_17.out.ext hx)
        have HE_24 := Lib.hid (HE_18.out.ext hx)
        have HE_25 := Lib.hid (HE_19.out.ext hx)
        have HM_26 := Lib.hid (HM_20.out.ext hx)
        clear hx
        have HM_27 := Lib.hid hu
        obtain ⟨A28, c29, rfl, _⟩ := fml_slice hu
        clear hu
        go_wp2_with fail
        refine (rsame_any _ _ (secondN n.f) (lineR ls s i 0) _ HM_27.out HE_24.out).mono ?_
        rintro e w7 ⟨rfl, hx⟩
        have X30 := Lib.hid (X22.out.trans hx)
        have HE_31 := Lib.hid (HE_23.out.ext hx)
        have HE_32 := Lib.hid (HE_24.out.ext hx)
        have HE_33 := Lib.hid (HE_25.out.ext hx)
        have HM_34 := Lib.hid (HM_26.out.ext hx)
        have HM_35 := Lib.hid (HM_27.out.ext hx)
        clear hx
        have HE36 := Lib.hid (show propR ls s i = sameN (secondN n.f) (lineR ls s i 0) by rw [HP.out, qm1, q7, q21] <;> rfl)
        go_wp2_with fail
        go_ret
        exact ⟨by rw [HE36.out] <;> rfl, X30.out⟩
      · skip
        have HE37 := Lib.hid (show propR ls s i = true by rw [HP.out, qm1, q7, q21] <;> rfl)
        go_wp2_with fail
        go_ret
        exact ⟨by rw [HE37.out] <;> rfl, X16.out⟩
  · have tm1 : ((n.from_.length : Int) == 1) = false := by rw [beq_eq_false_iff_ne]; omega
    have qm1 : (n.from_.length == 1) = false := by rw [beq_eq_false_iff_ne]; omega
    clear hm
    go_enter Tryd.func51, Tryd.ntmps51
    go_wp2_with fail
    go_quiet (fail)
    have HX0 := Lib.hid ((Ext.refl w).drewN nq)
    go_wp2_with fail
    refine (rline_any (H.out.ext HX0.out) OK.out 0).mono ?_
    rintro e w1 ⟨ua, rfl, hx, hua⟩
    have HX1 := Lib.hid (HX0.out.trans hx)
    have HA1 := Lib.hid hua
    obtain ⟨Aa, ca, rfl, _⟩ := fml_slice hua
    clear hx hua
    go_wp2_with fail
    refine (rline_any (H.out.ext HX1.out) OK.out 1).mono ?_
    rintro e w2 ⟨ub, rfl, hx, hub⟩
    have HX2 := Lib.hid (HX1.out.trans hx)
    have HA := Lib.hid (HA1.out.ext hx)
    have HB := Lib.hid hub
    have HF := Lib.hid (HF0.out.ext HX2.out)
    obtain ⟨Ab, cb, rfl, _⟩ := fml_slice hub
    clear hx hub d0 d1 d2 q0 q1 q2 q3 q4 hlt
    obtain ⟨ad2, c2, vs2, uf2, ur2, g1, g2, g3, g4, g5, g6, t0, t1, t2, t3, t4, _, _⟩ := (H.out.ext HX2.out).line HI.out
    clear g4 g6 t0 t2 t3 t4
    rw [hr] at t1
    have HE := Lib.hid (show propR ls s i = false by rw [HP.out, qm1] <;> rfl)
    go_wp2_with fail
    go_ret
    exact ⟨by rw [HE.out] <;> rfl, HX2.out⟩
set_option maxRecDepth 100000 in
set_option maxHeartbeats 8000000 in
theorem prop_9 {w : World} {b : Nat} {lg : Int} {ls : List Ln} {s : List (List Int)} {i : Nat} {n : Ln} (h : Prf w b lg ls s) (ok : RefOk ls s i n) (hr : n.rule = 9) :
    Calls Tryd.prog 51 #[.pointer (some ⟨b, 0, none⟩), .int .i64 i] w fun e w' => e = .returned (.bool (propR ls s i)) ∧ Ext w w' := by
  have hi := ok.n_at
  have hgn : ls.getD i Ln.zero = n := by rw [List.getD_eq_getElem?_getD, hi]; rfl
  obtain ⟨ad, c, vs, uf, ur, hc1, hc2, hlt, d0, d1, d2, q0, q1, q2, q3, q4, hff, ⟨Ar, cr, rfl, hir⟩⟩ := h.line hi
  obtain ⟨Af, cf, rfl, _⟩ := fml_slice hff
  have hil : i < ls.length := (List.getElem?_eq_some_iff.1 hi).1
  have hil0 : (0 : Int) ≤ (i : Int) := by omega
  have hil1 : (i : Int) < (ls.length : Int) := by omega
  have H := Lib.hid h
  have OK := Lib.hid ok
  have HF0 := Lib.hid hff
  have HI := Lib.hid hi
  have HP := Lib.hid (show propR ls s i = ((n.from_.length == 2) && twoR (lineR ls s i 1) 7 (lineR ls s i 0) n.f) by
    unfold propR
    simp only [hgn, hr]
    rfl)
  clear h ok hi hgn hff hir
  by_cases hm : n.from_.length = 2
  · have tm2 : ((n.from_.length : Int) == 2) = true := by rw [beq_iff_eq]; omega
    have qm2 : (n.from_.length == 2) = true := by rw [beq_iff_eq]; omega
    clear hm
    go_enter Tryd.func51, Tryd.ntmps51
    go_wp2_with fail
    go_quiet (fail)
    have HX0 := Lib.hid ((Ext.refl w).drewN nq)
    go_wp2_with fail
    refine (rline_any (H.out.ext HX0.out) OK.out 0).mono ?_
    rintro e w1 ⟨ua, rfl, hx, hua⟩
    have HX1 := Lib.hid (HX0.out.trans hx)
    have HA1 := Lib.hid hua
    obtain ⟨Aa, ca, rfl, _⟩ := fml_slice hua
    clear hx hua
    go_wp2_with fail
    refine (rline_any (H.out.ext HX1.out) OK.out 1).mono ?_
    rintro e w2 ⟨ub, rfl, hx, hub⟩
    have HX2 := Lib.hid (HX1.out.trans hx)
    have HA := Lib.hid (HA1.out.ext hx)
    have HB := Lib.hid hub
    have HF := Lib.hid (HF0.out.ext HX2.out)
    obtain ⟨Ab, cb, rfl, _⟩ := fml_slice hub
    clear hx hub d0 d1 d2 q0 q1 q2 q3 q4 hlt
    obtain ⟨ad2, c2, vs2, uf2, ur2, g1, g2, g3, g4, g5, g6, t0, t1, t2, t3, t4, _, _⟩ := (H.out.ext HX2.out).line HI.out
    clear g4 g6 t0 t2 t3 t4
    rw [hr] at t1
    go_wp2_with fail
    refine (rtwo_any _ _ _ 7 (lineR ls s i 1) (lineR ls s i 0) n.f _ HB.out HA.out HF.out).mono ?_
    rintro e w3 ⟨rfl, hx⟩
    have X1 := Lib.hid (HX2.out.trans hx)
    have HE_2 := Lib.hid (HF.out.ext hx)
    have HE_3 := Lib.hid (HA.out.ext hx)
    have HE_4 := Lib.hid (HB.out.ext hx)
    clear hx
    have HE5 := Lib.hid (show propR ls s i = twoR (lineR ls s i 1) 7 (lineR ls s i 0) n.f by rw [HP.out, qm2] <;> rfl)
    go_wp2_with fail
    go_ret
    exact ⟨by rw [HE5.out] <;> rfl, X1.out⟩
  · have tm2 : ((n.from_.length : Int) == 2) = false := by rw [beq_eq_false_iff_ne]; omega
    have qm2 : (n.from_.length == 2) = false := by rw [beq_eq_false_iff_ne]; omega
    clear hm
    go_enter Tryd.func51, Tryd.ntmps51
    go_wp2_with fail
    go_quiet (fail)
    have HX0 := Lib.hid ((Ext.refl w).drewN nq)
    go_wp2_with fail
    refine (rline_any (H.out.ext HX0.out) OK.out 0).mono ?_
    rintro e w1 ⟨ua, rfl, hx, hua⟩
    have HX1 := Lib.hid (HX0.out.trans hx)
    have HA1 := Lib.hid hua
    obtain ⟨Aa, ca, rfl, _⟩ := fml_slice hua
    clear hx hua
    go_wp2_with fail
    refine (rline_any (H.out.ext HX1.out) OK.out 1).mono ?_
    rintro e w2 ⟨ub, rfl, hx, hub⟩
    have HX2 := Lib.hid (HX1.out.trans hx)
    have HA := Lib.hid (HA1.out.ext hx)
    have HB := Lib.hid hub
    have HF := Lib.hid (HF0.out.ext HX2.out)
    obtain ⟨Ab, cb, rfl, _⟩ := fml_slice hub
    clear hx hub d0 d1 d2 q0 q1 q2 q3 q4 hlt
    obtain ⟨ad2, c2, vs2, uf2, ur2, g1, g2, g3, g4, g5, g6, t0, t1, t2, t3, t4, _, _⟩ := (H.out.ext HX2.out).line HI.out
    clear g4 g6 t0 t2 t3 t4
    rw [hr] at t1
    have HE := Lib.hid (show propR ls s i = false by rw [HP.out, qm2] <;> rfl)
    go_wp2_with fail
    go_ret
    exact ⟨by rw [HE.out] <;> rfl, HX2.out⟩
set_option maxRecDepth 100000 in
set_option maxHeartbeats 8000000 in
theorem prop_11 {w : World} {b : Nat} {lg : Int} {ls : List Ln} {s : List (List Int)} {i : Nat} {n : Ln} (h : Prf w b lg ls s) (ok : RefOk ls s i n) (hr : n.rule = 11) :
    Calls Tryd.prog 51 #[.pointer (some ⟨b, 0, none⟩), .int .i64 i] w fun e w' => e = .returned (.bool (propR ls s i)) ∧ Ext w w' := by
  have hi := ok.n_at
  have hgn : ls.getD i Ln.zero = n := by rw [List.getD_eq_getElem?_getD, hi]; rfl
  obtain ⟨ad, c, vs, uf, ur, hc1, hc2, hlt, d0, d1, d2, q0, q1, q2, q3, q4, hff, ⟨Ar, cr, rfl, hir⟩⟩ := h.line hi
  obtain ⟨Af, cf, rfl, _⟩ := fml_slice hff
  have hil : i < ls.length := (List.getElem?_eq_some_iff.1 hi).1
  have hil0 : (0 : Int) ≤ (i : Int) := by omega
  have hil1 : (i : Int) < (ls.length : Int) := by omega
  have H := Lib.hid h
  have OK := Lib.hid ok
  have HF0 := Lib.hid hff
  have HI := Lib.hid hi
  have HP := Lib.hid (show propR ls s i = ((n.from_.length == 2) && (negR (lineR ls s i 1) (lineR ls s i 0) && ((lastN n.f).op == 2))) by
    unfold propR
    simp only [hgn, hr]
    rfl)
  clear h ok hi hgn hff hir
  by_cases hm : n.from_.length = 2
  · have tm2 : ((n.from_.length : Int) == 2) = true := by rw [beq_iff_eq]; omega
    have qm2 : (n.from_.length == 2) = true := by rw [beq_iff_eq]; omega
    clear hm
    go_enter Tryd.func51, Tryd.ntmps51
    go_wp2_with fail
    go_quiet (fail)
    have HX0 := Lib.hid ((Ext.refl w).drewN nq)
    go_wp2_with fail
    refine (rline_any (H.out.ext HX0.out) OK.out 0).mono ?_
    rintro e w1 ⟨ua, rfl, hx, hua⟩
    have HX1 := Lib.hid (HX0.out.trans hx)
    have HA1 := Lib.hid hua
    obtain ⟨Aa, ca, rfl, _⟩ := fml_slice hua
    clear hx hua
    go_wp2_with fail
    refine (rline_any (H.out.ext HX1.out) OK.out 1).mono ?_
    rintro e w2 ⟨ub, rfl, hx, hub⟩
    have HX2 := Lib.hid (HX1.out.trans hx)
    have HA := Lib.hid (HA1.out.ext hx)
    have HB := Lib.hid hub
    have HF := Lib.hid (HF0.out.ext HX2.out)
    obtain ⟨Ab, cb, rfl, _⟩ := fml_slice hub
    clear hx hub d0 d1 d2 q0 q1 q2 q3 q4 hlt
    obtain ⟨ad2, c2, vs2, uf2, ur2, g1, g2, g3, g4, g5, g6, t0, t1, t2, t3, t4, _, _⟩ := (H.out.ext HX2.out).line HI.out
    clear g4 g6 t0 t2 t3 t4
    rw [hr] at t1
    go_wp2_with fail
    refine (negated_any _ _ (lineR ls s i 1) (lineR ls s i 0) _ HB.out HA.out).mono ?_
    rintro e w3 ⟨rfl, hx⟩
    have X1 := Lib.hid (HX2.out.trans hx)
    have HE_2 := Lib.hid (HF.out.ext hx)
    have HE_3 := Lib.hid (HA.out.ext hx)
    have HE_4 := Lib.hid (HB.out.ext hx)
    clear hx
    cases q5 : negR (lineR ls s i 1) (lineR ls s i 0)
    · skip
      have HE6 := Lib.hid (show propR ls s i = false by rw [HP.out, qm2, q5] <;> rfl)
      go_wp2_with fail
      go_ret
      exact ⟨by rw [HE6.out] <;> rfl, X1.out⟩
    · skip
      go_wp2_with fail
      refine (top_any _ n.f _ HE_2.out).mono ?_
      rintro e w4 ⟨rfl, hx⟩
      have X7 := Lib.hid (X1.out.trans hx)
      have HE_8 := Lib.hid (HE_2.out.ext hx)
      have HE_9 := Lib.hid (HE_3.out.ext hx)
      have HE_10 := Lib.hid (HE_4.out.ext hx)
      clear hx
      obtain ⟨fa11, fb12⟩ := node_field (lastN n.f) w4
      unfold Nd.val
      cases q13 : ((lastN n.f).op == 2)
      · skip
        have HE14 := Lib.hid (show propR ls s i = false by rw [HP.out, qm2, q5, q13] <;> rfl)
        go_wp2_with fail
        go_ret
        exact ⟨by rw [HE14.out] <;> rfl, X7.out⟩
      · skip
        have HE15 := Lib.hid (show propR ls s i = true by rw [HP.out, qm2, q5, q13] <;> rfl)
        go_wp2_with fail
        go_ret
        exact ⟨by rw [HE15.out] <;> rfl, X7.out⟩
  · have tm2 : ((n.from_.length : Int) == 2) = false := by rw [beq_eq_false_iff_ne]; omega
    have qm2 : (n.from_.length == 2) = false := by rw [beq_eq_false_iff_ne]; omega
    clear hm
    go_enter Tryd.func51, Tryd.ntmps51
    go_wp2_with fail
    go_quiet (fail)
    have HX0 := Lib.hid ((Ext.refl w).drewN nq)
    go_wp2_with fail
    refine (rline_any (H.out.ext HX0.out) OK.out 0).mono ?_
    rintro e w1 ⟨ua, rfl, hx, hua⟩
    have HX1 := Lib.hid (HX0.out.trans hx)
    have HA1 := Lib.hid hua
    obtain ⟨Aa, ca, rfl, _⟩ := fml_slice hua
    clear hx hua
    go_wp2_with fail
    refine (rline_any (H.out.ext HX1.out) OK.out 1).mono ?_
    rintro e w2 ⟨ub, rfl, hx, hub⟩
    have HX2 := Lib.hid (HX1.out.trans hx)
    have HA := Lib.hid (HA1.out.ext hx)
    have HB := Lib.hid hub
    have HF := Lib.hid (HF0.out.ext HX2.out)
    obtain ⟨Ab, cb, rfl, _⟩ := fml_slice hub
    clear hx hub d0 d1 d2 q0 q1 q2 q3 q4 hlt
    obtain ⟨ad2, c2, vs2, uf2, ur2, g1, g2, g3, g4, g5, g6, t0, t1, t2, t3, t4, _, _⟩ := (H.out.ext HX2.out).line HI.out
    clear g4 g6 t0 t2 t3 t4
    rw [hr] at t1
    have HE := Lib.hid (show propR ls s i = false by rw [HP.out, qm2] <;> rfl)
    go_wp2_with fail
    go_ret
    exact ⟨by rw [HE.out] <;> rfl, HX2.out⟩
set_option maxRecDepth 100000 in
set_option maxHeartbeats 8000000 in
theorem prop_13 {w : World} {b : Nat} {lg : Int} {ls : List Ln} {s : List (List Int)} {i : Nat} {n : Ln} (h : Prf w b lg ls s) (ok : RefOk ls s i n) (hr : n.rule = 13) :
    Calls Tryd.prog 51 #[.pointer (some ⟨b, 0, none⟩), .int .i64 i] w fun e w' => e = .returned (.bool (propR ls s i)) ∧ Ext w w' := by
  have hi := ok.n_at
  have hgn : ls.getD i Ln.zero = n := by rw [List.getD_eq_getElem?_getD, hi]; rfl
  obtain ⟨ad, c, vs, uf, ur, hc1, hc2, hlt, d0, d1, d2, q0, q1, q2, q3, q4, hff, ⟨Ar, cr, rfl, hir⟩⟩ := h.line hi
  obtain ⟨Af, cf, rfl, _⟩ := fml_slice hff
  have hil : i < ls.length := (List.getElem?_eq_some_iff.1 hi).1
  have hil0 : (0 : Int) ≤ (i : Int) := by omega
  have hil1 : (i : Int) < (ls.length : Int) := by omega
  have H := Lib.hid h
  have OK := Lib.hid ok
  have HF0 := Lib.hid hff
  have HI := Lib.hid hi
  have HP := Lib.hid (show propR ls s i = ((n.from_.length == 1) && ((lastN (lineR ls s i 0)).op == 2)) by
    unfold propR
    simp only [hgn, hr]
    rfl)
  clear h ok hi hgn hff hir
  by_cases hm : n.from_.length = 1
  · have tm1 : ((n.from_.length : Int) == 1) = true := by rw [beq_iff_eq]; omega
    have qm1 : (n.from_.length == 1) = true := by rw [beq_iff_eq]; omega
    clear hm
    go_enter Tryd.func51, Tryd.ntmps51
    go_wp2_with fail
    go_quiet (fail)
    have HX0 := Lib.hid ((Ext.refl w).drewN nq)
    go_wp2_with fail
    refine (rline_any (H.out.ext HX0.out) OK.out 0).mono ?_
    rintro e w1 ⟨ua, rfl, hx, hua⟩
    have HX1 := Lib.hid (HX0.out.trans hx)
    have HA1 := Lib.hid hua
    obtain ⟨Aa, ca, rfl, _⟩ := fml_slice hua
    clear hx hua
    go_wp2_with fail
    refine (rline_any (H.out.ext HX1.out) OK.out 1).mono ?_
    rintro e w2 ⟨ub, rfl, hx, hub⟩
    have HX2 := Lib.hid (HX1.out.trans hx)
    have HA := Lib.hid (HA1.out.ext hx)
    have HB := Lib.hid hub
    have HF := Lib.hid (HF0.out.ext HX2.out)
    obtain ⟨Ab, cb, rfl, _⟩ := fml_slice hub
    clear hx hub d0 d1 d2 q0 q1 q2 q3 q4 hlt
    obtain ⟨ad2, c2, vs2, uf2, ur2, g1, g2, g3, g4, g5, g6, t0, t1, t2, t3, t4, _, _⟩ := (H.out.ext HX2.out).line HI.out
    clear g4 g6 t0 t2 t3 t4
    rw [hr] at t1
    go_wp2_with fail
    refine (top_any _ (lineR ls s i 0) _ HA.out).mono ?_
    rintro e w3 ⟨rfl, hx⟩
    have X1 := Lib.hid (HX2.out.trans hx)
    have HE_2 := Lib.hid (HF.out.ext hx)
    have HE_3 := Lib.hid (HA.out.ext hx)
    have HE_4 := Lib.hid (HB.out.ext hx)
    clear hx
    obtain ⟨fa5, fb6⟩ := node_field (lastN (lineR ls s i 0)) w3
    unfold Nd.val
    cases q7 : ((lastN (lineR ls s i 0)).op == 2)
    · skip
      have HE8 := Lib.hid (show propR ls s i = false by rw [HP.out, qm1, q7] <;> rfl)
      go_wp2_with fail
      go_ret
      exact ⟨by rw [HE8.out] <;> rfl, X1.out⟩
    · skip
      have HE9 := Lib.hid (show propR ls s i = true by rw [HP.out, qm1, q7] <;> rfl)
      go_wp2_with fail
      go_ret
      exact ⟨by rw [HE9.out] <;> rfl, X1.out⟩
  · have tm1 : ((n.from_.length : Int) == 1) = false := by rw [beq_eq_false_iff_ne]; omega
    have qm1 : (n.from_.length == 1) = false := by rw [beq_eq_false_iff_ne]; omega
    clear hm
    go_enter Tryd.func51, Tryd.ntmps51
    go_wp2_with fail
    go_quiet (fail)
    have HX0 := Lib.hid ((Ext.refl w).drewN nq)
    go_wp2_with fail
    refine (rline_any (H.out.ext HX0.out) OK.out 0).mono ?_
    rintro e w1 ⟨ua, rfl, hx, hua⟩
    have HX1 := Lib.hid (HX0.out.trans hx)
    have HA1 := Lib.hid hua
    obtain ⟨Aa, ca, rfl, _⟩ := fml_slice hua
    clear hx hua
    go_wp2_with fail
    refine (rline_any (H.out.ext HX1.out) OK.out 1).mono ?_
    rintro e w2 ⟨ub, rfl, hx, hub⟩
    have HX2 := Lib.hid (HX1.out.trans hx)
    have HA := Lib.hid (HA1.out.ext hx)
    have HB := Lib.hid hub
    have HF := Lib.hid (HF0.out.ext HX2.out)
    obtain ⟨Ab, cb, rfl, _⟩ := fml_slice hub
    clear hx hub d0 d1 d2 q0 q1 q2 q3 q4 hlt
    obtain ⟨ad2, c2, vs2, uf2, ur2, g1, g2, g3, g4, g5, g6, t0, t1, t2, t3, t4, _, _⟩ := (H.out.ext HX2.out).line HI.out
    clear g4 g6 t0 t2 t3 t4
    rw [hr] at t1
    have HE := Lib.hid (show propR ls s i = false by rw [HP.out, qm1] <;> rfl)
    go_wp2_with fail
    go_ret
    exact ⟨by rw [HE.out] <;> rfl, HX2.out⟩
set_option maxRecDepth 100000 in
set_option maxHeartbeats 8000000 in
theorem prop_14 {w : World} {b : Nat} {lg : Int} {ls : List Ln} {s : List (List Int)} {i : Nat} {n : Ln} (h : Prf w b lg ls s) (ok : RefOk ls s i n) (hr : n.rule = 14) :
    Calls Tryd.prog 51 #[.pointer (some ⟨b, 0, none⟩), .int .i64 i] w fun e w' => e = .returned (.bool (propR ls s i)) ∧ Ext w w' := by
  have hi := ok.n_at
  have hgn : ls.getD i Ln.zero = n := by rw [List.getD_eq_getElem?_getD, hi]; rfl
  obtain ⟨ad, c, vs, uf, ur, hc1, hc2, hlt, d0, d1, d2, q0, q1, q2, q3, q4, hff, ⟨Ar, cr, rfl, hir⟩⟩ := h.line hi
  obtain ⟨Af, cf, rfl, _⟩ := fml_slice hff
  have hil : i < ls.length := (List.getElem?_eq_some_iff.1 hi).1
  have hil0 : (0 : Int) ≤ (i : Int) := by omega
  have hil1 : (i : Int) < (ls.length : Int) := by omega
  have H := Lib.hid h
  have OK := Lib.hid ok
  have HF0 := Lib.hid hff
  have HI := Lib.hid hi
  have HP := Lib.hid (show propR ls s i = ((n.from_.length == 0) && ((lastN n.f).op == 1)) by
    unfold propR
    simp only [hgn, hr]
    rfl)
  clear h ok hi hgn hff hir
  by_cases hm : n.from_.length = 0
  · have tm0 : ((n.from_.length : Int) == 0) = true := by rw [beq_iff_eq]; omega
    have qm0 : (n.from_.length == 0) = true := by rw [beq_iff_eq]; omega
    clear hm
    go_enter Tryd.func51, Tryd.ntmps51
    go_wp2_with fail
    go_quiet (fail)
    have HX0 := Lib.hid ((Ext.refl w).drewN nq)
    go_wp2_with fail
    refine (rline_any (H.out.ext HX0.out) OK.out 0).mono ?_
    rintro e w1 ⟨ua, rfl, hx, hua⟩
    have HX1 := Lib.hid (HX0.out.trans hx)
    have HA1 := Lib.hid hua
    obtain ⟨Aa, ca, rfl, _⟩ := fml_slice hua
    clear hx hua
    go_wp2_with fail
    refine (rline_any (H.out.ext HX1.out) OK.out 1).mono ?_
    rintro e w2 ⟨ub, rfl, hx, hub⟩
    have HX2 := Lib.hid (HX1.out.trans hx)
    have HA := Lib.hid (HA1.out.ext hx)
    have HB := Lib.hid hub
    have HF := Lib.hid (HF0.out.ext HX2.out)
    obtain ⟨Ab, cb, rfl, _⟩ := fml_slice hub
    clear hx hub d0 d1 d2 q0 q1 q2 q3 q4 hlt
    obtain ⟨ad2, c2, vs2, uf2, ur2, g1, g2, g3, g4, g5, g6, t0, t1, t2, t3, t4, _, _⟩ := (H.out.ext HX2.out).line HI.out
    clear g4 g6 t0 t2 t3 t4
    rw [hr] at t1
    go_wp2_with fail
    refine (top_any _ n.f _ HF.out).mono ?_
    rintro e w3 ⟨rfl, hx⟩
    have X1 := Lib.hid (HX2.out.trans hx)
    have HE_2 := Lib.hid (HF.out.ext hx)
    have HE_3 := Lib.hid (HA.out.ext hx)
    have HE_4 := Lib.hid (HB.out.ext hx)
    clear hx
    obtain ⟨fa5, fb6⟩ := node_field (lastN n.f) w3
    unfold Nd.val
    cases q7 : ((lastN n.f).op == 1)
    · skip
      have HE8 := Lib.hid (show propR ls s i = false by rw [HP.out, qm0, q7] <;> rfl)
      go_wp2_with fail
      go_ret
      exact ⟨by rw [HE8.out] <;> rfl, X1.out⟩
    · skip
      have HE9 := Lib.hid (show propR ls s i = true by rw [HP.out, qm0, q7] <;> rfl)
      go_wp2_with fail
      go_ret
      exact ⟨by rw [HE9.out] <;> rfl, X1.out⟩
  · have tm0 : ((n.from_.length : Int) == 0) = false := by rw [beq_eq_false_iff_ne]; omega
    have qm0 : (n.from_.length == 0) = false := by rw [beq_eq_false_iff_ne]; omega
    clear hm
    go_enter Tryd.func51, Tryd.ntmps51
    go_wp2_with fail
    go_quiet (fail)
    have HX0 := Lib.hid ((Ext.refl w).drewN nq)
    go_wp2_with fail
    refine (rline_any (H.out.ext HX0.out) OK.out 0).mono ?_
    rintro e w1 ⟨ua, rfl, hx, hua⟩
    have HX1 := Lib.hid (HX0.out.trans hx)
    have HA1 := Lib.hid hua
    obtain ⟨Aa, ca, rfl, _⟩ := fml_slice hua
    clear hx hua
    go_wp2_with fail
    refine (rline_any (H.out.ext HX1.out) OK.out 1).mono ?_
    rintro e w2 ⟨ub, rfl, hx, hub⟩
    have HX2 := Lib.hid (HX1.out.trans hx)
    have HA := Lib.hid (HA1.out.ext hx)
    have HB := Lib.hid hub
    have HF := Lib.hid (HF0.out.ext HX2.out)
    obtain ⟨Ab, cb, rfl, _⟩ := fml_slice hub
    clear hx hub d0 d1 d2 q0 q1 q2 q3 q4 hlt
    obtain ⟨ad2, c2, vs2, uf2, ur2, g1, g2, g3, g4, g5, g6, t0, t1, t2, t3, t4, _, _⟩ := (H.out.ext HX2.out).line HI.out
    clear g4 g6 t0 t2 t3 t4
    rw [hr] at t1
    have HE := Lib.hid (show propR ls s i = false by rw [HP.out, qm0] <;> rfl)
    go_wp2_with fail
    go_ret
    exact ⟨by rw [HE.out] <;> rfl, HX2.out⟩
set_option maxRecDepth 100000 in
set_option maxHeartbeats 8000000 in
theorem prop_15 {w : World} {b : Nat} {lg : Int} {ls : List Ln} {s : List (List Int)} {i : Nat} {n : Ln} (h : Prf w b lg ls s) (ok : RefOk ls s i n) (hr : n.rule = 15) :
    Calls Tryd.prog 51 #[.pointer (some ⟨b, 0, none⟩), .int .i64 i] w fun e w' => e = .returned (.bool (propR ls s i)) ∧ Ext w w' := by
  have hi := ok.n_at
  have hgn : ls.getD i Ln.zero = n := by rw [List.getD_eq_getElem?_getD, hi]; rfl
  obtain ⟨ad, c, vs, uf, ur, hc1, hc2, hlt, d0, d1, d2, q0, q1, q2, q3, q4, hff, ⟨Ar, cr, rfl, hir⟩⟩ := h.line hi
  obtain ⟨Af, cf, rfl, _⟩ := fml_slice hff
  have hil : i < ls.length := (List.getElem?_eq_some_iff.1 hi).1
  have hil0 : (0 : Int) ≤ (i : Int) := by omega
  have hil1 : (i : Int) < (ls.length : Int) := by omega
  have H := Lib.hid h
  have OK := Lib.hid ok
  have HF0 := Lib.hid hff
  have HI := Lib.hid hi
  have HP := Lib.hid (show propR ls s i = bif n.from_.length == 2 then (((lastN (lineR ls s i 0)).op == 7) && (twoR (lineR ls s i 1) 7 (secondN (lineR ls s i 0)) (firstN (lineR ls s i 0)) && twoR n.f 8 (firstN (lineR ls s i 0)) (secondN (lineR ls s i 0)))) else ((n.from_.length == 1) && (((lastN (lineR ls s i 0)).op == 8) && (twoR n.f 7 (firstN (lineR ls s i 0)) (secondN (lineR ls s i 0)) || twoR n.f 7 (secondN (lineR ls s i 0)) (firstN (lineR ls s i 0))))) by
    unfold propR
    simp only [hgn, hr]
    rfl)
  clear h ok hi hgn hff hir
  by_cases hm : n.from_.length = 2
  · have tm2 : ((n.from_.length : Int) == 2) = true := by rw [beq_iff_eq]; omega
    have qm2 : (n.from_.length == 2) = true := by rw [beq_iff_eq]; omega
    clear hm
    have HP2 := Lib.hid (show propR ls s i = (((lastN (lineR ls s i 0)).op == 7) && (twoR (lineR ls s i 1) 7 (secondN (lineR ls s i 0)) (firstN (lineR ls s i 0)) && twoR n.f 8 (firstN (lineR ls s i 0)) (secondN (lineR ls s i 0)))) by rw [HP.out, qm2] <;> rfl)
    go_enter Tryd.func51, Tryd.ntmps51
    go_wp2_with fail
    go_quiet (fail)
    have HX0 := Lib.hid ((Ext.refl w).drewN nq)
    go_wp2_with fail
    refine (rline_any (H.out.ext HX0.out) OK.out 0).mono ?_
    rintro e w1 ⟨ua, rfl, hx, hua⟩
    have HX1 := Lib.hid (HX0.out.trans hx)
    have HA1 := Lib.hid hua
    obtain ⟨Aa, ca, rfl, _⟩ := fml_slice hua
    clear hx hua
    go_wp2_with fail
    refine (rline_any (H.out.ext HX1.out) OK.out 1).mono ?_
    rintro e w2 ⟨ub, rfl, hx, hub⟩
    have HX2 := Lib.hid (HX1.out.trans hx)
    have HA := Lib.hid (HA1.out.ext hx)
    have HB := Lib.hid hub
    have HF := Lib.hid (HF0.out.ext HX2.out)
    obtain ⟨Ab, cb, rfl, _⟩ := fml_slice hub
    clear hx hub d0 d1 d2 q0 q1 q2 q3 q4 hlt
    obtain ⟨ad2, c2, vs2, uf2, ur2, g1, g2, g3, g4, g5, g6, t0, t1, t2, t3, t4, _, _⟩ := (H.out.ext HX2.out).line HI.out
    clear g4 g6 t0 t2 t3 t4
    rw [hr] at t1
    go_wp2_with fail
    refine (top_any _ (lineR ls s i 0) _ HA.out).mono ?_
    rintro e w3 ⟨rfl, hx⟩
    have X1 := Lib.hid (HX2.out.trans hx)
    have HE_2 := Lib.hid (HF.out.ext hx)
    have HE_3 := Lib.hid (HA.out.ext hx)
    have HE_4 := Lib.hid (HB.out.ext hx)
    clear hx
    obtain ⟨fa5, fb6⟩ := node_field (lastN (lineR ls s i 0)) w3
    unfold Nd.val
    cases q7 : ((lastN (lineR ls s i 0)).op == 7)
    · skip
      have HE8 := Lib.hid (show propR ls s i = false by rw [HP2.out, q7] <;> rfl)
      go_wp2_with fail
      go_ret
      exact ⟨by rw [HE8.out] <;> rfl, X1.out⟩
    · skip
      go_wp2_with fail
      refine (second_any _ (lineR ls s i 0) _ HE_3.out).mono ?_
      rintro e w4 ⟨u, rfl, hx, hu⟩
      have X9 := Lib.hid (X1.out.trans hx)
      have HE_10 := Lib.hid (HE_2.out.ext hx)
      have HE_11 := Lib.hid (HE_3.out.ext hx)
      have HE_12 := Lib.hid (HE_4.out.ext hx)
      clear hx
      have HM_13 := Lib.hid hu
      obtain ⟨A14, c15, rfl, _⟩ := fml_slice hu
      clear hu
      go_wp2_with fail
      refine (first_any _ (lineR ls s i 0) _ HE_11.out).mono ?_
      rintro e w5 ⟨u, rfl, hx, hu⟩
      have X16 := Lib.hid (X9.out.trans hx)
      have HE_17 := Lib.hid (HE_10.out.ext hx)
      have HE_18 := Lib.hid (HE_11.out.ext hx)
      have HE_19 := Lib.hid (HE_12.out.ext hx)
      have HM_20 := Lib.hid (HM_13.out.ext hx)
      clear hx
      have HM_21 := Lib.hid hu
      obtain ⟨A22, c23, rfl, _⟩ := fml_slice hu
      clear hu
      go_wp2_with fail
      refine (rtwo_any _ _ _ 7 (lineR ls s i 1) (secondN (lineR ls s i 0)) (firstN (lineR ls s i 0)) _ HE_19.out HM_20.out HM_21.out).mono ?_
      rintro e w6 ⟨rfl, hx⟩
      have X24 := Lib.hid (X16.out.trans hx)
      have HE_25 := Lib.hid (HE_17.out.ext hx)
      have HE_26 := Lib.hid (HE_18.out.ext hx)
      have HE_27 := Lib.hid (HE_19.out.ext hx)
      have HM_28 := Lib.hid (HM_20.out.ext hx)
      have HM_29 := Lib.hid (HM_21.out.ext hx)
      clear hx
      cases q30 : twoR (lineR ls s i 1) 7 (secondN (lineR ls s i 0)) (firstN (lineR ls s i 0))
      · skip
        have HE31 := Lib.hid (show propR ls s i = false by rw [HP2.out, q7, q30] <;> rfl)
        go_wp2_with fail
        go_ret
        exact ⟨by rw [HE31.out] <;> rfl, X24.out⟩
      · skip
        go_wp2_with fail
        refine (first_any _ (lineR ls s i 0) _ HE_26.out).mono ?_
        rintro e w7 ⟨u, rfl, hx, hu⟩
        have X32 := Lib.hid (X24.out.trans hx)
        have HE_33 := Lib.hid (HE_25.out.ext hx)
        have HE_34 := Lib.hid (HE_26.out.ext hx)
        have HE_35 := Lib.hid (HE_27.out.ext hx)
        have HM_36 := Lib.hid (HM_28.out.ext hx)
        have HM_37 := Lib.hid (HM_29.out.ext hx)
        clear hx
        have HM_38 := Lib.hid hu
        obtain ⟨A39, c40, rfl, _⟩ := fml_slice hu
        clear hu
        go_wp2_with fail
        refine (second_any _ (lineR ls s i 0) _ HE_34.out).mono ?_
        rintro e w8 ⟨u, rfl, hx, hu⟩
        have X41 := Lib.hid (X32.out.trans hx)
        have HE_42 := Lib.hid (HE_33.out.ext hx)
        have HE_43 := Lib.hid (HE_34.out.ext hx)
        have HE_44 := Lib.hid (HE_35.out.ext hx)
        have HM_45 := Lib.hid (HM_36.out.ext hx)
        have HM_46 := Lib.hid (HM_38.out.ext hx)
        clear hx
        have HM_47 := Lib.hid hu
        obtain ⟨A48, c49, rfl, _⟩ := fml_slice hu
        clear hu
        go_wp2_with fail
        refine (rtwo_any _ _ _ 8 n.f (firstN (lineR ls s i 0)) (secondN (lineR ls s i 0)) _ HE_42.out HM_46.out HM_47.out).mono ?_
        rintro e w9 ⟨rfl, hx⟩
        have X50 := Lib.hid (X41.out.trans hx)
        have HE_51 := Lib.hid (HE_42.out.ext hx)
        have HE_52 := Lib.hid (HE_43.out.ext hx)
        have HE_53 := Lib.hid (HE_44.out.ext hx)
        have HM_54 := Lib.hid (HM_47.out.ext hx)
        have HM_55 := Lib.hid (HM_46.out.ext hx)
        clear hx
        have HE56 := Lib.hid (show propR ls s i = twoR n.f 8 (firstN (lineR ls s i 0)) (secondN (lineR ls s i 0)) by rw [HP2.out, q7, q30] <;> rfl)
        go_wp2_with fail
        go_ret
        exact ⟨by rw [HE56.out] <;> rfl, X50.out⟩
  · have HP2 := Lib.hid (show propR ls s i = ((n.from_.length == 1) && (((lastN (lineR ls s i 0)).op == 8) && (twoR n.f 7 (firstN (lineR ls s i 0)) (secondN (lineR ls s i 0)) || twoR n.f 7 (secondN (lineR ls s i 0)) (firstN (lineR ls s i 0))))) by rw [HP.out, show (n.from_.length == 2) = false from by rw [beq_eq_false_iff_ne]; omega] <;> rfl)
    by_cases hm1 : n.from_.length = 1
    · have tm2 : ((n.from_.length : Int) == 2) = false := by rw [beq_eq_false_iff_ne]; omega
      have tm1 : ((n.from_.length : Int) == 1) = true := by rw [beq_iff_eq]; omega
      have qm1 : (n.from_.length == 1) = true := by rw [beq_iff_eq]; omega
      clear hm hm1
      go_enter Tryd.func51, Tryd.ntmps51
      go_wp2_with fail
      go_quiet (fail)
      have HX0 := Lib.hid ((Ext.refl w).drewN nq)
      go_wp2_with fail
      refine (rline_any (H.out.ext HX0.out) OK.out 0).mono ?_
      rintro e w1 ⟨ua, rfl, hx, hua⟩
      have HX1 := Lib.hid (HX0.out.trans hx)
      have HA1 := Lib.hid hua
      obtain ⟨Aa, ca, rfl, _⟩ := fml_slice hua
      clear hx hua
      go_wp2_with fail
      refine (rline_any (H.out.ext HX1.out) OK.out 1).mono ?_
      rintro e w2 ⟨ub, rfl, hx, hub⟩
      have HX2 := Lib.hid (HX1.out.trans hx)
      have HA := Lib.hid (HA1.out.ext hx)
      have HB := Lib.hid hub
      have HF := Lib.hid (HF0.out.ext HX2.out)
      obtain ⟨Ab, cb, rfl, _⟩ := fml_slice hub
      clear hx hub d0 d1 d2 q0 q1 q2 q3 q4 hlt
      obtain ⟨ad2, c2, vs2, uf2, ur2, g1, g2, g3, g4, g5, g6, t0, t1, t2, t3, t4, _, _⟩ := (H.out.ext HX2.out).line HI.out
      clear g4 g6 t0 t2 t3 t4
      rw [hr] at t1
      go_wp2_with fail
      refine (top_any _ (lineR ls s i 0) _ HA.out).mono ?_
      rintro e w3 ⟨rfl, hx⟩
      have X1 := Lib.hid (HX2.out.trans hx)
      have HE_2 := Lib.hid (HF.out.ext hx)
      have HE_3 := Lib.hid (HA.out.ext hx)
      have HE_4 := Lib.hid (HB.out.ext hx)
      clear hx
      obtain ⟨fa5, fb6⟩ := node_field (lastN (lineR ls s i 0)) w3
      unfold Nd.val
      cases q7 : ((lastN (lineR ls s i 0)).op == 8)
      · skip
        have HE8 := Lib.hid (show propR ls s i = false by rw [HP2.out, qm1, q7] <;> rfl)
        go_wp2_with fail
        go_ret
        exact ⟨by rw [HE8.out] <;> rfl, X1.out⟩
      · skip
        go_wp2_with fail
        refine (first_any _ (lineR ls s i 0) _ HE_3.out).mono ?_
        rintro e w4 ⟨u, rfl, hx, hu⟩
        have X9 := Lib.hid (X1.out.trans hx)
        have HE_10 := Lib.hid (HE_2.out.ext hx)
        have HE_11 := Lib.hid (HE_3.out.ext hx)
        have HE_12 := Lib.hid (HE_4.out.ext hx)
        clear hx
        have HM_13 := Lib.hid hu
        obtain ⟨A14, c15, rfl, _⟩ := fml_slice hu
        clear hu
        go_wp2_with fail
        refine (second_any _ (lineR ls s i 0) _ HE_11.out).mono ?_
        rintro e w5 ⟨u, rfl, hx, hu⟩
        have X16 := Lib.hid (X9.out.trans hx)
        have HE_17 := Lib.hid (HE_10.out.ext hx)
        have HE_18 := Lib.hid (HE_11.out.ext hx)
        have HE_19 := Lib.hid (HE_12.out.ext hx)
        have HM_20 := Lib.hid (HM_13.out.ext hx)
        clear hx
        have HM_21 := Lib.hid hu
        obtain ⟨A22, c23, rfl, _⟩ := fml_slice hu
        clear hu
        go_wp2_with fail
        refine (rtwo_any _ _ _ 7 n.f (firstN (lineR ls s i 0)) (secondN (lineR ls s i 0)) _ HE_17.out HM_20.out HM_21.out).mono ?_
        rintro e w6 ⟨rfl, hx⟩
        have X24 := Lib.hid (X16.out.trans hx)
        have HE_25 := Lib.hid (HE_17.out.ext hx)
        have HE_26 := Lib.hid (HE_18.out.ext hx)
        have HE_27 := Lib.hid (HE_19.out.ext hx)
        have HM_28 := Lib.hid (HM_20.out.ext hx)
        have HM_29 := Lib.hid (HM_21.out.ext hx)
        clear hx
        cases q30 : twoR n.f 7 (firstN (lineR ls s i 0)) (secondN (lineR ls s i 0))
        · skip
          go_wp2_with fail
          refine (second_any _ (lineR ls s i 0) _ HE_26.out).mono ?_
          rintro e w7 ⟨u, rfl, hx, hu⟩
          have X31 := Lib.hid (X24.out.trans hx)
          have HE_32 := Lib.hid (HE_25.out.ext hx)
          have HE_33 := Lib.hid (HE_26.out.ext hx)
          have HE_34 := Lib.hid (HE_27.out.ext hx)
          have HM_35 := Lib.hid (HM_28.out.ext hx)
          have HM_36 := Lib.hid (HM_29.out.ext hx)
          clear hx
          have HM_37 := Lib.hid hu
          obtain ⟨A38, c39, rfl, _⟩ := fml_slice hu
          clear hu
          go_wp2_with fail
          refine (first_any _ (lineR ls s i 0) _ HE_33.out).mono ?_
          rintro e w8 ⟨u, rfl, hx, hu⟩
          have X40 := Lib.hid (X31.out.trans hx)
          have HE_41 := Lib.hid (HE_32.out.ext hx)
          have HE_42 := Lib.hid (HE_33.out.ext hx)
          have HE_43 := Lib.hid (HE_34.out.ext hx)
          have HM_44 := Lib.hid (HM_35.out.ext hx)
          have HM_45 := Lib.hid (HM_37.out.ext hx)
          clear hx
          have HM_46 := Lib.hid hu
          obtain ⟨A47, c48, rfl, _⟩ := fml_slice hu
          clear hu
          go_wp2_with fail
          refine (rtwo_any _ _ _ 7 n.f (secondN (lineR ls s i 0)) (firstN (lineR ls s i 0)) _ HE_41.out HM_45.out HM_46.out).mono ?_
          rintro e w9 ⟨rfl, hx⟩
          have X49 := Lib.hid (X40.out.trans hx)
          have HE_50 := Lib.hid (HE_41.out.ext hx)
          have HE_51 := Lib.hid (HE_42.out.ext hx)
          have HE_52 := Lib.hid (HE_43.out.ext hx)
          have HM_53 := Lib.hid (HM_46.out.ext hx)
          have HM_54 := Lib.hid (HM_45.out.ext hx)
          clear hx
          have HE55 := Lib.hid (show propR ls s i = twoR n.f 7 (secondN (lineR ls s i 0)) (firstN (lineR ls s i 0)) by rw [HP2.out, qm1, q7, q30] <;> rfl)
          go_wp2_with fail
          go_ret
          exact ⟨by rw [HE55.out] <;> rfl, X49.out⟩
        · skip
          have HE56 := Lib.hid (show propR ls s i = true by rw [HP2.out, qm1, q7, q30] <;> rfl)
          go_wp2_with fail
          go_ret
          exact ⟨by rw [HE56.out] <;> rfl, X24.out⟩
    · have tm2 : ((n.from_.length : Int) == 2) = false := by rw [beq_eq_false_iff_ne]; omega
      have tm1 : ((n.from_.length : Int) == 1) = false := by clear tm2; rw [beq_eq_false_iff_ne]; omega
      have qm1 : (n.from_.length == 1) = false := by rw [beq_eq_false_iff_ne]; omega
      clear hm hm1
      go_enter Tryd.func51, Tryd.ntmps51
      go_wp2_with fail
      go_quiet (fail)
      have HX0 := Lib.hid ((Ext.refl w).drewN nq)
      go_wp2_with fail
      refine (rline_any (H.out.ext HX0.out) OK.out 0).mono ?_
      rintro e w1 ⟨ua, rfl, hx, hua⟩
      have HX1 := Lib.hid (HX0.out.trans hx)
      have HA1 := Lib.hid hua
      obtain ⟨Aa, ca, rfl, _⟩ := fml_slice hua
      clear hx hua
      go_wp2_with fail
      refine (rline_any (H.out.ext HX1.out) OK.out 1).mono ?_
      rintro e w2 ⟨ub, rfl, hx, hub⟩
      have HX2 := Lib.hid (HX1.out.trans hx)
      have HA := Lib.hid (HA1.out.ext hx)
      have HB := Lib.hid hub
      have HF := Lib.hid (HF0.out.ext HX2.out)
      obtain ⟨Ab, cb, rfl, _⟩ := fml_slice hub
      clear hx hub d0 d1 d2 q0 q1 q2 q3 q4 hlt
      obtain ⟨ad2, c2, vs2, uf2, ur2, g1, g2, g3, g4, g5, g6, t0, t1, t2, t3, t4, _, _⟩ := (H.out.ext HX2.out).line HI.out
      clear g4 g6 t0 t2 t3 t4
      rw [hr] at t1
      have HE := Lib.hid (show propR ls s i = false by rw [HP2.out, qm1] <;> rfl)
      go_wp2_with fail
      go_ret
      exact ⟨by rw [HE.out] <;> rfl, HX2.out⟩
set_option maxRecDepth 100000 in
set_option maxHeartbeats 8000000 in
theorem prop_other {w : World} {b : Nat} {lg : Int} {ls : List Ln} {s : List (List Int)} {i : Nat} {n : Ln} (h : Prf w b lg ls s) (ok : RefOk ls s i n) (hr : (n.rule == 3) = false ∧ (n.rule == 4) = false ∧ (n.rule == 5) = false ∧ (n.rule == 6) = false ∧ (n.rule == 9) = false ∧ (n.rule == 11) = false ∧ (n.rule == 13) = false ∧ (n.rule == 14) = false ∧ (n.rule == 15) = false) :
    Calls Tryd.prog 51 #[.pointer (some ⟨b, 0, none⟩), .int .i64 i] w fun e w' => e = .returned (.bool (propR ls s i)) ∧ Ext w w' := by
  obtain ⟨b3, b4, b5, b6, b9, b11, b13, b14, b15⟩ := hr
  have hi := ok.n_at
  have hgn : ls.getD i Ln.zero = n := by rw [List.getD_eq_getElem?_getD, hi]; rfl
  obtain ⟨ad, c, vs, uf, ur, hc1, hc2, hlt, d0, d1, d2, q0, q1, q2, q3, q4, hff, ⟨Ar, cr, rfl, hir⟩⟩ := h.line hi
  obtain ⟨Af, cf, rfl, _⟩ := fml_slice hff
  have hil : i < ls.length := (List.getElem?_eq_some_iff.1 hi).1
  have hil0 : (0 : Int) ≤ (i : Int) := by omega
  have hil1 : (i : Int) < (ls.length : Int) := by omega
  have H := Lib.hid h
  have OK := Lib.hid ok
  have HF0 := Lib.hid hff
  have HI := Lib.hid hi
  have HP := Lib.hid (show propR ls s i = false by
    unfold propR
    simp only [hgn, b3, b4, b5, b6, b9, b11, b13, b14, b15]
    rfl)
  clear h ok hi hgn hff hir
  go_enter Tryd.func51, Tryd.ntmps51
  go_wp2_with fail
  go_quiet (fail)
  have HX0 := Lib.hid ((Ext.refl w).drewN nq)
  go_wp2_with fail
  refine (rline_any (H.out.ext HX0.out) OK.out 0).mono ?_
  rintro e w1 ⟨ua, rfl, hx, hua⟩
  have HX1 := Lib.hid (HX0.out.trans hx)
  have HA1 := Lib.hid hua
  obtain ⟨Aa, ca, rfl, _⟩ := fml_slice hua
  clear hx hua
  go_wp2_with fail
  refine (rline_any (H.out.ext HX1.out) OK.out 1).mono ?_
  rintro e w2 ⟨ub, rfl, hx, hub⟩
  have HX2 := Lib.hid (HX1.out.trans hx)
  have HA := Lib.hid (HA1.out.ext hx)
  have HB := Lib.hid hub
  have HF := Lib.hid (HF0.out.ext HX2.out)
  obtain ⟨Ab, cb, rfl, _⟩ := fml_slice hub
  clear hx hub d0 d1 d2 q0 q1 q2 q3 q4 hlt
  obtain ⟨ad2, c2, vs2, uf2, ur2, g1, g2, g3, g4, g5, g6, t0, t1, t2, t3, t4, _, _⟩ := (H.out.ext HX2.out).line HI.out
  clear g4 g6 t0 t2 t3 t4
  go_wp2_with fail
  go_ret
  exact ⟨by rw [HP.out] <;> rfl, HX2.out⟩
theorem prop_any {w : World} {b : Nat} {lg : Int} {ls : List Ln} {s : List (List Int)} {i : Nat} {n : Ln} (h : Prf w b lg ls s) (ok : RefOk ls s i n) :
    Calls Tryd.prog 51 #[.pointer (some ⟨b, 0, none⟩), .int .i64 i] w fun e w' => e = .returned (.bool (propR ls s i)) ∧ Ext w w' := by
  by_cases e3 : n.rule = 3
  · exact prop_3 h ok e3
  by_cases e4 : n.rule = 4
  · exact prop_4 h ok e4
  by_cases e5 : n.rule = 5
  · exact prop_5 h ok e5
  by_cases e6 : n.rule = 6
  · exact prop_6 h ok e6
  by_cases e9 : n.rule = 9
  · exact prop_9 h ok e9
  by_cases e11 : n.rule = 11
  · exact prop_11 h ok e11
  by_cases e13 : n.rule = 13
  · exact prop_13 h ok e13
  by_cases e14 : n.rule = 14
  · exact prop_14 h ok e14
  by_cases e15 : n.rule = 15
  · exact prop_15 h ok e15
  exact prop_other h ok ⟨beq_eq_false_iff_ne.2 e3, beq_eq_false_iff_ne.2 e4, beq_eq_false_iff_ne.2 e5, beq_eq_false_iff_ne.2 e6, beq_eq_false_iff_ne.2 e9, beq_eq_false_iff_ne.2 e11, beq_eq_false_iff_ne.2 e13, beq_eq_false_iff_ne.2 e14, beq_eq_false_iff_ne.2 e15⟩
end Go.Proofs.YtipnbfbakohcaaaDoor
