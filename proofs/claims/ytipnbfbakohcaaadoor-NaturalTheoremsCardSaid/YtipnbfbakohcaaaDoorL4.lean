/- The reference's import. -/
import Derived.Test.YtipnbfbakohcaaaDoorH3

namespace Go.Proofs.YtipnbfbakohcaaaDoor
open Go.RowKit

theorem importR_bad {lg : Int} {ls : List Ln} {s : List (List Int)} {i : Nat} {n : Ln} (hg : ls.getD i Ln.zero = n) (h : n.from_.length ≠ 1 ∨ (n.from_.getD 0 0 < 0 ∨ (i : Int) ≤ n.from_.getD 0 0)) : importR lg ls s i = false := by
  unfold importR
  rw [hg]
  have : (n.from_.length != 1 || (decide (n.from_.getD 0 0 < 0) || decide ((i : Int) ≤ n.from_.getD 0 0))) = true := by
    rw [Bool.or_eq_true, Bool.or_eq_true, decide_eq_true_iff, decide_eq_true_iff, bne_iff_ne]; exact h
  simp only [this, cond_true]
/-- The import's tests behind the guards. -/
def impE (lg a : Int) (f g : List Nd) : Bool :=
  bif (lastN f).op == 9 && (lastN f).i == a then sameN (firstN f) g || (inL [3, 4, 5, 6] lg && sameN f g)
  else ((lastN f).op == 10 || ((lastN f).op == 4 && (lastN (bif (lastN f).op == 4 then firstN f else f)).op == 9)) && ((lastN (bif (lastN f).op == 4 then firstN f else f)).i == a && (inL [5, 6] lg && sameN f g))
theorem importR_good {lg : Int} {ls : List Ln} {s : List (List Int)} {i j : Nat} {n m : Ln} {sj : List Int} (hg : ls.getD i Ln.zero = n) (h1 : n.from_.length = 1) (hj : n.from_.getD 0 0 = (j : Int)) (hji : j < i) (hs : s.getD j [] = sj) (hm : lineAt ls (j : Int) = m) :
    importR lg ls s i = bif (boxesR ls s i sj).1 != 1 then false else impE lg (boxesR ls s i sj).2 m.f n.f := by
  unfold importR
  rw [hg]
  have : (n.from_.length != 1 || (decide (n.from_.getD 0 0 < 0) || decide ((i : Int) ≤ n.from_.getD 0 0))) = false := by
    rw [Bool.eq_false_iff]
    intro e
    rw [Bool.or_eq_true, Bool.or_eq_true, decide_eq_true_iff, decide_eq_true_iff, bne_iff_ne] at e
    omega
  simp only [this, cond_false]
  rw [hj, hm, Int.toNat_natCast, hs]
  rfl

set_option maxRecDepth 100000 in
set_option maxHeartbeats 16000000 in
theorem rimported_any {w : World} {b : Nat} {lg : Int} {ls : List Ln} {s : List (List Int)} {i : Nat} {n : Ln} (h : Prf w b lg ls s) (ok : RefOk ls s i n) (hlg : 0 ≤ lg ∧ lg ≤ 6) :
    Calls Tryd.prog 50 #[.pointer (some ⟨b, 0, none⟩), .int .i64 i] w fun e w' => e = .returned (.bool (importR lg ls s i)) ∧ Ext w w' := by
  have hi := ok.n_at
  have hgn : ls.getD i Ln.zero = n := by rw [List.getD_eq_getElem?_getD, hi]; rfl
  obtain ⟨ad, c, vs, uf, ur, hc1, hc2, hlt, d0, d1, d2, q0, q1, q2, q3, q4, hff, ⟨Ar, cr, rfl, hir⟩⟩ := h.line hi
  obtain ⟨Af, cf, rfl, _⟩ := fml_slice hff
  have hil : i < ls.length := (List.getElem?_eq_some_iff.1 hi).1
  have hil0 : (0 : Int) ≤ (i : Int) := by omega
  have hil1 : (i : Int) < (ls.length : Int) := by omega
  have H := Lib.hid h
  have OK := Lib.hid ok
  have HF0 := Lib.hid hff
  have HG := Lib.hid hgn
  have HLG := Lib.hid hlg
  have hrc := hir.1
  have hrm := hir.2.1
  unfold maxLen at hrm
  have HIR := Lib.hid hir.2.2
  clear h ok hi hgn hff hir hlg d0
  by_cases hm1 : n.from_.length = 1
  case neg =>
    have HE := Lib.hid (importR_bad (lg := lg) (s := s) HG.out (.inl hm1))
    have tn1 : ((n.from_.length : Int) != 1) = true := by rw [bne_iff_ne]; omega
    clear hm1
    go_enter Tryd.func50, Tryd.ntmps50
    go_wp2_with fail
    go_quiet (fail)
    go_wp2_with fail
    go_ret
    exact ⟨by rw [HE.out] <;> rfl, (Ext.refl _).drewN _⟩
  case pos =>
    have tn1 : ((n.from_.length : Int) != 1) = false := by rw [bne_eq_false_iff_eq]; omega
    obtain ⟨adr, rfl, hbr, hcr⟩ := HIR.out (by intro e; rw [e] at hm1; simp at hm1)
    obtain ⟨j, hj⟩ : ∃ j, n.from_[0]? = some j := ⟨_, List.getElem?_eq_getElem (show 0 < n.from_.length by omega)⟩
    have r0 : w.cell? adr = some (.int .i64 j) := hcr 0 j hj
    have hjD : n.from_.getD 0 0 = j := by rw [List.getD_eq_getElem?_getD, hj]; rfl
    have hk2 : (0 : Int) < (n.from_.length : Int) := by omega
    have hk3 : 0 < n.from_.length := by omega
    clear hcr hj
    by_cases hj0 : j < 0
    · have HE := Lib.hid (importR_bad (lg := lg) (s := s) HG.out (.inr (.inl (by rw [hjD]; exact hj0))))
      have hj0d : decide (j < 0) = true := decide_eq_true hj0
      clear hjD hm1
      go_enter Tryd.func50, Tryd.ntmps50
      go_wp2_with fail
      go_quiet (fail)
      go_wp2_with fail
      go_ret
      exact ⟨by rw [HE.out] <;> rfl, (Ext.refl _).drewN _⟩
    · have hj0d : decide (j < 0) = false := decide_eq_false hj0
      by_cases hji : (i : Int) ≤ j
      · have HE := Lib.hid (importR_bad (lg := lg) (s := s) HG.out (.inr (.inr (by rw [hjD]; exact hji))))
        have hjid : decide ((i : Int) ≤ j) = true := decide_eq_true hji
        clear hjD hm1
        go_enter Tryd.func50, Tryd.ntmps50
        go_wp2_with fail
        go_quiet (fail)
        go_wp2_with fail
        go_ret
        exact ⟨by rw [HE.out] <;> rfl, (Ext.refl _).drewN _⟩
      · obtain ⟨jn, rfl⟩ := Int.eq_ofNat_of_zero_le (show 0 ≤ j by omega)
        have hjl : jn < i := by omega
        have hjl2 : ¬ i ≤ jn := by omega
        have hjl3 : decide (i ≤ jn) = false := decide_eq_false hjl2
        obtain ⟨sj, hsjD, hsj, hsj1, hsj2⟩ := OK.out.stack (j := jn) (by omega)
        obtain ⟨si, hsiD, hsi, hsi1, hsi2⟩ := OK.out.stack (j := i) (Nat.le_refl _)
        obtain ⟨m, hm⟩ : ∃ m, ls[jn]? = some m := ⟨_, List.getElem?_eq_getElem (show jn < ls.length by omega)⟩
        have HMG : Hid (lineAt ls (jn : Int) = m) := Lib.hid (by unfold lineAt; rw [Int.toNat_natCast, List.getD_eq_getElem?_getD, hm]; rfl)
        have HP := Lib.hid (importR_good (lg := lg) HG.out hm1 hjD hjl hsjD HMG.out)
        obtain ⟨ads, cs, vl, As, ci, hs1, hs2, hs3, f0, f1, f2, e0, hIs⟩ := H.out.stack hsj
        have hjs : jn < s.length := (List.getElem?_eq_some_iff.1 hsj).1
        have HJ := Lib.hid (show Ints w (.slice As sj.length ci) sj from ⟨_, _, rfl, hIs⟩)
        have HSI := Lib.hid (And.intro hsi (And.intro hsi1 hsi2))
        have HM := Lib.hid hm
        have hj1 : (0 : Int) ≤ (jn : Int) := by omega
        have hj2 : (jn : Int) < (ls.length : Int) := by omega
        have hj3 : (jn : Int) < (s.length : Int) := by omega
        have hb := H.out.blt
        clear hsj hsj1 hsj2 hsi hsi1 hsi2 hIs hm f0 f1 vl d2 vs hjD hm1 hsjD hsiD
        go_enter Tryd.func50, Tryd.ntmps50
        go_wp2_with fail
        go_quiet (fail)
        have HX0 := Lib.hid ((Ext.refl w).drewN nq)
        go_wp2_with fail
        have HK := Lib.hid (show ∀ w', Ext w w' → (w'.cell? ⟨b, 2, none⟩ = some (.slice (some ads) s.length cs) ∧ w'.cell? adr = some (.int .i64 (jn : Int)) ∧ w'.cell? (ads.add jn) = some (.slice As sj.length ci)) from fun w' hw => ⟨(hw.cell (p := ⟨b, 2, none⟩) hb).trans f2, (hw.cell (p := adr) hbr).trans r0, (hw.cell (p := ads.add jn) (by rw [block_of_add]; exact hs3)).trans e0⟩)
        generalize hW : w.drewN nq = W at *
        go_region_held3 (fun w' => w'.cell? ⟨b, 2, none⟩ = some (.slice (some ads) s.length cs) ∧ w'.cell? adr = some (.int .i64 (jn : Int)) ∧ w'.cell? (ads.add jn) = some (.slice As sj.length ci)) (first | exact HK.out _ (Ext.trans HX0.out (by repeat (first | exact Ext.refl _ | assumption | apply Ext.alloc | apply Ext.drew))) | go_keep) (first | (go_at_call 64; refine (rboxes_any (H.out.ext (Ext.trans HX0.out (by repeat (first | exact Ext.refl _ | assumption | apply Ext.alloc | apply Ext.drew)))) i _ HSI.out.1 HSI.out.2 _ sj (HJ.out.ext (Ext.trans HX0.out (by repeat (first | exact Ext.refl _ | assumption | apply Ext.alloc | apply Ext.drew))))).mono ?_; rintro e wb ⟨rfl, hxb0⟩; have hxb : Ext W wb := Ext.trans (by repeat (first | exact Ext.refl _ | assumption | apply Ext.alloc | apply Ext.drew)) hxb0; clear hxb0))
        all_goals
          have X1 := Lib.hid (HX0.out.trans hxb)
          obtain ⟨adm, cm, vsm, ufm, urm, g1, g2, g3, g4, g5, g6, t0, t1, t2, t3, t4, hfm, _⟩ := (H.out.ext X1.out).line HM.out
          have r1 := (X1.out.cell (p := adr) hbr).trans r0
          obtain ⟨Am, cm2, rfl, _⟩ := fml_slice hfm
          have HA1 := Lib.hid hfm
          have HF1 := Lib.hid (HF0.out.ext X1.out)
          generalize (boxesR ls s i sj).1 = bn at HP ⊢
          generalize (boxesR ls s i sj).2 = ba at HP ⊢
          clear hxb HK d1 f2 e0 r0 q0 q1 q2 q3 q4 hfm g4 g6 t0 t1 t3 t4 hW HX0 HF0
          go_wp2_with fail
          go_quiet (fail)
          have X2 := Lib.hid (X1.out.drewN nq)
          have HA := Lib.hid (HA1.out.ext ((Ext.refl _).drewN nq))
          have HF := Lib.hid (HF1.out.ext ((Ext.refl _).drewN nq))
          cases hbx : bn != 1
          case true =>
            have HE := Lib.hid (show importR lg ls s i = false by rw [HP.out, hbx] <;> rfl)
            go_wp2_with fail
            go_ret
            exact ⟨by rw [HE.out] <;> rfl, X2.out⟩
          case false =>
            have HP2 := Lib.hid (show importR lg ls s i = bif (lastN m.f).op == 9 && (lastN m.f).i == ba then sameN (firstN m.f) n.f || (inL [3, 4, 5, 6] lg && sameN m.f n.f) else ((lastN m.f).op == 10 || ((lastN m.f).op == 4 && (lastN (bif (lastN m.f).op == 4 then firstN m.f else m.f)).op == 9)) && ((lastN (bif (lastN m.f).op == 4 then firstN m.f else m.f)).i == ba && (inL [5, 6] lg && sameN m.f n.f)) by rw [HP.out, hbx] <;> rfl)
            clear HP
            go_wp2_with fail
            refine (top_any _ m.f _ HA.out).mono ?_
            rintro e w1 ⟨rfl, hx⟩
            have X1 := Lib.hid (X2.out.trans hx)
            have HE_2 := Lib.hid (HF.out.ext hx)
            have HE_3 := Lib.hid (HA.out.ext hx)
            clear hx
            obtain ⟨fa4, fb5⟩ := node_field (lastN m.f) w1
            unfold Nd.val
            cases q6 : ((lastN m.f).op == 9)
            · skip
              go_wp2_with fail
              refine (top_any _ m.f _ HE_3.out).mono ?_
              rintro e w2 ⟨rfl, hx⟩
              have X7 := Lib.hid (X1.out.trans hx)
              have HE_8 := Lib.hid (HE_2.out.ext hx)
              have HE_9 := Lib.hid (HE_3.out.ext hx)
              clear hx
              obtain ⟨fa10, fb11⟩ := node_field (lastN m.f) w2
              unfold Nd.val
              cases q12 : ((lastN m.f).op == 4)
              · skip
                have HQ13 := Lib.hid (show importR lg ls s i = (((lastN m.f).op == 10 || ((lastN m.f).op == 4 && (lastN m.f).op == 9)) && ((lastN m.f).i == ba && (inL [5, 6] lg && sameN m.f n.f))) by
                  rw [HP2.out, q12]
                  simp only [cond_false]
                  rw [q6] <;> rfl)
                go_wp2_with fail
                refine (top_any _ m.f _ HE_9.out).mono ?_
                rintro e w3 ⟨rfl, hx⟩
                have X14 := Lib.hid (X7.out.trans hx)
                have HE_15 := Lib.hid (HE_8.out.ext hx)
                have HE_16 := Lib.hid (HE_9.out.ext hx)
                have HE_17 := Lib.hid (HE_9.out.ext hx)
                clear hx
                obtain ⟨fa18, fb19⟩ := node_field (lastN m.f) w3
                unfold Nd.val
                cases q20 : ((lastN m.f).op == 10)
                · skip
                  go_wp2_with fail
                  refine (top_any _ m.f _ HE_16.out).mono ?_
                  rintro e w4 ⟨rfl, hx⟩
                  have X21 := Lib.hid (X14.out.trans hx)
                  have HE_22 := Lib.hid (HE_15.out.ext hx)
                  have HE_23 := Lib.hid (HE_16.out.ext hx)
                  have HE_24 := Lib.hid (HE_17.out.ext hx)
                  clear hx
                  obtain ⟨fa25, fb26⟩ := node_field (lastN m.f) w4
                  unfold Nd.val
                  have HE27 := Lib.hid (show importR lg ls s i = false by rw [HQ13.out, q20, q12] <;> rfl)
                  go_wp2_with fail
                  go_ret
                  exact ⟨by rw [HE27.out] <;> rfl, X21.out⟩
                · skip
                  go_wp2_with fail
                  refine (top_any _ m.f _ HE_17.out).mono ?_
                  rintro e w4 ⟨rfl, hx⟩
                  have X28 := Lib.hid (X14.out.trans hx)
                  have HE_29 := Lib.hid (HE_15.out.ext hx)
                  have HE_30 := Lib.hid (HE_16.out.ext hx)
                  have HE_31 := Lib.hid (HE_17.out.ext hx)
                  clear hx
                  obtain ⟨fa32, fb33⟩ := node_field (lastN m.f) w4
                  unfold Nd.val
                  cases q34 : ((lastN m.f).i == ba)
                  · skip
                    have HE35 := Lib.hid (show importR lg ls s i = false by rw [HQ13.out, q20, q34] <;> rfl)
                    go_wp2_with fail
                    go_ret
                    exact ⟨by rw [HE35.out] <;> rfl, X28.out⟩
                  · skip
                    have gl36 := (H.out.ext X28.out).logic
                    go_wp2_with fail
                    refine (euclidean_any lg HLG.out _).mono ?_
                    rintro e w5 ⟨rfl, hx⟩
                    have X37 := Lib.hid (X28.out.trans hx)
                    have HE_38 := Lib.hid (HE_29.out.ext hx)
                    have HE_39 := Lib.hid (HE_30.out.ext hx)
                    have HE_40 := Lib.hid (HE_31.out.ext hx)
                    clear hx
                    cases q41 : inL [5, 6] lg
                    · skip
                      have HE42 := Lib.hid (show importR lg ls s i = false by rw [HQ13.out, q20, q34, q41] <;> rfl)
                      go_wp2_with fail
                      go_ret
                      exact ⟨by rw [HE42.out] <;> rfl, X37.out⟩
                    · skip
                      go_wp2_with fail
                      refine (rsame_any _ _ m.f n.f _ HE_39.out HE_38.out).mono ?_
                      rintro e w6 ⟨rfl, hx⟩
                      have X43 := Lib.hid (X37.out.trans hx)
                      have HE_44 := Lib.hid (HE_38.out.ext hx)
                      have HE_45 := Lib.hid (HE_39.out.ext hx)
                      have HE_46 := Lib.hid (HE_40.out.ext hx)
                      clear hx
                      have HE47 := Lib.hid (show importR lg ls s i = sameN m.f n.f by rw [HQ13.out, q20, q34, q41] <;> rfl)
                      go_wp2_with fail
                      go_ret
                      exact ⟨by rw [HE47.out] <;> rfl, X43.out⟩
              · skip
                have HQ48 := Lib.hid (show importR lg ls s i = (((lastN m.f).op == 10 || ((lastN m.f).op == 4 && (lastN (firstN m.f)).op == 9)) && ((lastN (firstN m.f)).i == ba && (inL [5, 6] lg && sameN m.f n.f))) by
                  rw [HP2.out, q12]
                  simp only [cond_true]
                  rw [q6] <;> rfl)
                go_wp2_with fail
                refine (first_any _ m.f _ HE_9.out).mono ?_
                rintro e w3 ⟨u, rfl, hx, hu⟩
                have X49 := Lib.hid (X7.out.trans hx)
                have HE_50 := Lib.hid (HE_8.out.ext hx)
                have HE_51 := Lib.hid (HE_9.out.ext hx)
                clear hx
                have HM_52 := Lib.hid hu
                obtain ⟨A53, c54, rfl, _⟩ := fml_slice hu
                clear hu
                go_wp2_with fail
                refine (top_any _ m.f _ HE_51.out).mono ?_
                rintro e w4 ⟨rfl, hx⟩
                have X55 := Lib.hid (X49.out.trans hx)
                have HE_56 := Lib.hid (HE_50.out.ext hx)
                have HE_57 := Lib.hid (HE_51.out.ext hx)
                have HE_58 := Lib.hid (HM_52.out.ext hx)
                have HM_59 := Lib.hid (HM_52.out.ext hx)
                clear hx
                obtain ⟨fa60, fb61⟩ := node_field (lastN m.f) w4
                unfold Nd.val
                cases q62 : ((lastN m.f).op == 10)
                · skip
                  go_wp2_with fail
                  refine (top_any _ m.f _ HE_57.out).mono ?_
                  rintro e w5 ⟨rfl, hx⟩
                  have X63 := Lib.hid (X55.out.trans hx)
                  have HE_64 := Lib.hid (HE_56.out.ext hx)
                  have HE_65 := Lib.hid (HE_57.out.ext hx)
                  have HE_66 := Lib.hid (HE_58.out.ext hx)
                  have HM_67 := Lib.hid (HM_59.out.ext hx)
                  clear hx
                  obtain ⟨fa68, fb69⟩ := node_field (lastN m.f) w5
                  unfold Nd.val
                  go_wp2_with fail
                  refine (top_any _ (firstN m.f) _ HE_66.out).mono ?_
                  rintro e w6 ⟨rfl, hx⟩
                  have X70 := Lib.hid (X63.out.trans hx)
                  have HE_71 := Lib.hid (HE_64.out.ext hx)
                  have HE_72 := Lib.hid (HE_65.out.ext hx)
                  have HE_73 := Lib.hid (HE_66.out.ext hx)
                  have HM_74 := Lib.hid (HM_67.out.ext hx)
                  clear hx
                  obtain ⟨fa75, fb76⟩ := node_field (lastN (firstN m.f)) w6
                  unfold Nd.val
                  cases q77 : ((lastN (firstN m.f)).op == 9)
                  · skip
                    have HE78 := Lib.hid (show importR lg ls s i = false by rw [HQ48.out, q62, q12, q77] <;> rfl)
                    go_wp2_with fail
                    go_ret
                    exact ⟨by rw [HE78.out] <;> rfl, X70.out⟩
                  · skip
                    go_wp2_with fail
                    refine (top_any _ (firstN m.f) _ HE_73.out).mono ?_
                    rintro e w7 ⟨rfl, hx⟩
                    have X79 := Lib.hid (X70.out.trans hx)
                    have HE_80 := Lib.hid (HE_71.out.ext hx)
                    have HE_81 := Lib.hid (HE_72.out.ext hx)
                    have HE_82 := Lib.hid (HE_73.out.ext hx)
                    have HM_83 := Lib.hid (HM_74.out.ext hx)
                    clear hx
                    obtain ⟨fa84, fb85⟩ := node_field (lastN (firstN m.f)) w7
                    unfold Nd.val
                    cases q86 : ((lastN (firstN m.f)).i == ba)
                    · skip
                      have HE87 := Lib.hid (show importR lg ls s i = false by rw [HQ48.out, q62, q12, q77, q86] <;> rfl)
                      go_wp2_with fail
                      go_ret
                      exact ⟨by rw [HE87.out] <;> rfl, X79.out⟩
                    · skip
                      have gl88 := (H.out.ext X79.out).logic
                      go_wp2_with fail
                      refine (euclidean_any lg HLG.out _).mono ?_
                      rintro e w8 ⟨rfl, hx⟩
                      have X89 := Lib.hid (X79.out.trans hx)
                      have HE_90 := Lib.hid (HE_80.out.ext hx)
                      have HE_91 := Lib.hid (HE_81.out.ext hx)
                      have HE_92 := Lib.hid (HE_82.out.ext hx)
                      have HM_93 := Lib.hid (HM_83.out.ext hx)
                      clear hx
                      cases q94 : inL [5, 6] lg
                      · skip
                        have HE95 := Lib.hid (show importR lg ls s i = false by rw [HQ48.out, q62, q12, q77, q86, q94] <;> rfl)
                        go_wp2_with fail
                        go_ret
                        exact ⟨by rw [HE95.out] <;> rfl, X89.out⟩
                      · skip
                        go_wp2_with fail
                        refine (rsame_any _ _ m.f n.f _ HE_91.out HE_90.out).mono ?_
                        rintro e w9 ⟨rfl, hx⟩
                        have X96 := Lib.hid (X89.out.trans hx)
                        have HE_97 := Lib.hid (HE_90.out.ext hx)
                        have HE_98 := Lib.hid (HE_91.out.ext hx)
                        have HE_99 := Lib.hid (HE_92.out.ext hx)
                        have HM_100 := Lib.hid (HM_93.out.ext hx)
                        clear hx
                        have HE101 := Lib.hid (show importR lg ls s i = sameN m.f n.f by rw [HQ48.out, q62, q12, q77, q86, q94] <;> rfl)
                        go_wp2_with fail
                        go_ret
                        exact ⟨by rw [HE101.out] <;> rfl, X96.out⟩
                · skip
                  go_wp2_with fail
                  refine (top_any _ (firstN m.f) _ HE_58.out).mono ?_
                  rintro e w5 ⟨rfl, hx⟩
                  have X102 := Lib.hid (X55.out.trans hx)
                  have HE_103 := Lib.hid (HE_56.out.ext hx)
                  have HE_104 := Lib.hid (HE_57.out.ext hx)
                  have HE_105 := Lib.hid (HE_58.out.ext hx)
                  have HM_106 := Lib.hid (HM_59.out.ext hx)
                  clear hx
                  obtain ⟨fa107, fb108⟩ := node_field (lastN (firstN m.f)) w5
                  unfold Nd.val
                  cases q109 : ((lastN (firstN m.f)).i == ba)
                  · skip
                    have HE110 := Lib.hid (show importR lg ls s i = false by rw [HQ48.out, q62, q109] <;> rfl)
                    go_wp2_with fail
                    go_ret
                    exact ⟨by rw [HE110.out] <;> rfl, X102.out⟩
                  · skip
                    have gl111 := (H.out.ext X102.out).logic
                    go_wp2_with fail
                    refine (euclidean_any lg HLG.out _).mono ?_
                    rintro e w6 ⟨rfl, hx⟩
                    have X112 := Lib.hid (X102.out.trans hx)
                    have HE_113 := Lib.hid (HE_103.out.ext hx)
                    have HE_114 := Lib.hid (HE_104.out.ext hx)
                    have HE_115 := Lib.hid (HE_105.out.ext hx)
                    have HM_116 := Lib.hid (HM_106.out.ext hx)
                    clear hx
                    cases q117 : inL [5, 6] lg
                    · skip
                      have HE118 := Lib.hid (show importR lg ls s i = false by rw [HQ48.out, q62, q109, q117] <;> rfl)
                      go_wp2_with fail
                      go_ret
                      exact ⟨by rw [HE118.out] <;> rfl, X112.out⟩
                    · skip
                      go_wp2_with fail
                      refine (rsame_any _ _ m.f n.f _ HE_114.out HE_113.out).mono ?_
                      rintro e w7 ⟨rfl, hx⟩
                      have X119 := Lib.hid (X112.out.trans hx)
                      have HE_120 := Lib.hid (HE_113.out.ext hx)
                      have HE_121 := Lib.hid (HE_114.out.ext hx)
                      have HE_122 := Lib.hid (HE_115.out.ext hx)
                      have HM_123 := Lib.hid (HM_116.out.ext hx)
                      clear hx
                      have HE124 := Lib.hid (show importR lg ls s i = sameN m.f n.f by rw [HQ48.out, q62, q109, q117] <;> rfl)
                      go_wp2_with fail
                      go_ret
                      exact ⟨by rw [HE124.out] <;> rfl, X119.out⟩
            · skip
              go_wp2_with fail
              refine (top_any _ m.f _ HE_3.out).mono ?_
              rintro e w2 ⟨rfl, hx⟩
              have X125 := Lib.hid (X1.out.trans hx)
              have HE_126 := Lib.hid (HE_2.out.ext hx)
              have HE_127 := Lib.hid (HE_3.out.ext hx)
              clear hx
              obtain ⟨fa128, fb129⟩ := node_field (lastN m.f) w2
              unfold Nd.val
              cases q130 : ((lastN m.f).i == ba)
              · skip
                go_wp2_with fail
                refine (top_any _ m.f _ HE_127.out).mono ?_
                rintro e w3 ⟨rfl, hx⟩
                have X131 := Lib.hid (X125.out.trans hx)
                have HE_132 := Lib.hid (HE_126.out.ext hx)
                have HE_133 := Lib.hid (HE_127.out.ext hx)
                clear hx
                obtain ⟨fa134, fb135⟩ := node_field (lastN m.f) w3
                unfold Nd.val
                cases q136 : ((lastN m.f).op == 4)
                · skip
                  have HQ137 := Lib.hid (show importR lg ls s i = (((lastN m.f).op == 10 || ((lastN m.f).op == 4 && (lastN m.f).op == 9)) && ((lastN m.f).i == ba && (inL [5, 6] lg && sameN m.f n.f))) by
                    rw [HP2.out, q136]
                    simp only [cond_false]
                    rw [q6, q130] <;> rfl)
                  go_wp2_with fail
                  refine (top_any _ m.f _ HE_133.out).mono ?_
                  rintro e w4 ⟨rfl, hx⟩
                  have X138 := Lib.hid (X131.out.trans hx)
                  have HE_139 := Lib.hid (HE_132.out.ext hx)
                  have HE_140 := Lib.hid (HE_133.out.ext hx)
                  have HE_141 := Lib.hid (HE_133.out.ext hx)
                  clear hx
                  obtain ⟨fa142, fb143⟩ := node_field (lastN m.f) w4
                  unfold Nd.val
                  cases q144 : ((lastN m.f).op == 10)
                  · skip
                    go_wp2_with fail
                    refine (top_any _ m.f _ HE_140.out).mono ?_
                    rintro e w5 ⟨rfl, hx⟩
                    have X145 := Lib.hid (X138.out.trans hx)
                    have HE_146 := Lib.hid (HE_139.out.ext hx)
                    have HE_147 := Lib.hid (HE_140.out.ext hx)
                    have HE_148 := Lib.hid (HE_141.out.ext hx)
                    clear hx
                    obtain ⟨fa149, fb150⟩ := node_field (lastN m.f) w5
                    unfold Nd.val
                    have HE151 := Lib.hid (show importR lg ls s i = false by rw [HQ137.out, q144, q136] <;> rfl)
                    go_wp2_with fail
                    go_ret
                    exact ⟨by rw [HE151.out] <;> rfl, X145.out⟩
                  · skip
                    go_wp2_with fail
                    refine (top_any _ m.f _ HE_141.out).mono ?_
                    rintro e w5 ⟨rfl, hx⟩
                    have X152 := Lib.hid (X138.out.trans hx)
                    have HE_153 := Lib.hid (HE_139.out.ext hx)
                    have HE_154 := Lib.hid (HE_140.out.ext hx)
                    have HE_155 := Lib.hid (HE_141.out.ext hx)
                    clear hx
                    obtain ⟨fa156, fb157⟩ := node_field (lastN m.f) w5
                    unfold Nd.val
                    have HE158 := Lib.hid (show importR lg ls s i = false by rw [HQ137.out, q144, q130] <;> rfl)
                    go_wp2_with fail
                    go_ret
                    exact ⟨by rw [HE158.out] <;> rfl, X152.out⟩
                · skip
                  have HQ159 := Lib.hid (show importR lg ls s i = (((lastN m.f).op == 10 || ((lastN m.f).op == 4 && (lastN (firstN m.f)).op == 9)) && ((lastN (firstN m.f)).i == ba && (inL [5, 6] lg && sameN m.f n.f))) by
                    rw [HP2.out, q136]
                    simp only [cond_true]
                    rw [q6, q130] <;> rfl)
                  go_wp2_with fail
                  refine (first_any _ m.f _ HE_133.out).mono ?_
                  rintro e w4 ⟨u, rfl, hx, hu⟩
                  have X160 := Lib.hid (X131.out.trans hx)
                  have HE_161 := Lib.hid (HE_132.out.ext hx)
                  have HE_162 := Lib.hid (HE_133.out.ext hx)
                  clear hx
                  have HM_163 := Lib.hid hu
                  obtain ⟨A164, c165, rfl, _⟩ := fml_slice hu
                  clear hu
                  go_wp2_with fail
                  refine (top_any _ m.f _ HE_162.out).mono ?_
                  rintro e w5 ⟨rfl, hx⟩
                  have X166 := Lib.hid (X160.out.trans hx)
                  have HE_167 := Lib.hid (HE_161.out.ext hx)
                  have HE_168 := Lib.hid (HE_162.out.ext hx)
                  have HE_169 := Lib.hid (HM_163.out.ext hx)
                  have HM_170 := Lib.hid (HM_163.out.ext hx)
                  clear hx
                  obtain ⟨fa171, fb172⟩ := node_field (lastN m.f) w5
                  unfold Nd.val
                  cases q173 : ((lastN m.f).op == 10)
                  · skip
                    go_wp2_with fail
                    refine (top_any _ m.f _ HE_168.out).mono ?_
                    rintro e w6 ⟨rfl, hx⟩
                    have X174 := Lib.hid (X166.out.trans hx)
                    have HE_175 := Lib.hid (HE_167.out.ext hx)
                    have HE_176 := Lib.hid (HE_168.out.ext hx)
                    have HE_177 := Lib.hid (HE_169.out.ext hx)
                    have HM_178 := Lib.hid (HM_170.out.ext hx)
                    clear hx
                    obtain ⟨fa179, fb180⟩ := node_field (lastN m.f) w6
                    unfold Nd.val
                    go_wp2_with fail
                    refine (top_any _ (firstN m.f) _ HE_177.out).mono ?_
                    rintro e w7 ⟨rfl, hx⟩
                    have X181 := Lib.hid (X174.out.trans hx)
                    have HE_182 := Lib.hid (HE_175.out.ext hx)
                    have HE_183 := Lib.hid (HE_176.out.ext hx)
                    have HE_184 := Lib.hid (HE_177.out.ext hx)
                    have HM_185 := Lib.hid (HM_178.out.ext hx)
                    clear hx
                    obtain ⟨fa186, fb187⟩ := node_field (lastN (firstN m.f)) w7
                    unfold Nd.val
                    cases q188 : ((lastN (firstN m.f)).op == 9)
                    · skip
                      have HE189 := Lib.hid (show importR lg ls s i = false by rw [HQ159.out, q173, q136, q188] <;> rfl)
                      go_wp2_with fail
                      go_ret
                      exact ⟨by rw [HE189.out] <;> rfl, X181.out⟩
                    · skip
                      go_wp2_with fail
                      refine (top_any _ (firstN m.f) _ HE_184.out).mono ?_
                      rintro e w8 ⟨rfl, hx⟩
                      have X190 := Lib.hid (X181.out.trans hx)
                      have HE_191 := Lib.hid (HE_182.out.ext hx)
                      have HE_192 := Lib.hid (HE_183.out.ext hx)
                      have HE_193 := Lib.hid (HE_184.out.ext hx)
                      have HM_194 := Lib.hid (HM_185.out.ext hx)
                      clear hx
                      obtain ⟨fa195, fb196⟩ := node_field (lastN (firstN m.f)) w8
                      unfold Nd.val
                      cases q197 : ((lastN (firstN m.f)).i == ba)
                      · skip
                        have HE198 := Lib.hid (show importR lg ls s i = false by rw [HQ159.out, q173, q136, q188, q197] <;> rfl)
                        go_wp2_with fail
                        go_ret
                        exact ⟨by rw [HE198.out] <;> rfl, X190.out⟩
                      · skip
                        have gl199 := (H.out.ext X190.out).logic
                        go_wp2_with fail
                        refine (euclidean_any lg HLG.out _).mono ?_
                        rintro e w9 ⟨rfl, hx⟩
                        have X200 := Lib.hid (X190.out.trans hx)
                        have HE_201 := Lib.hid (HE_191.out.ext hx)
                        have HE_202 := Lib.hid (HE_192.out.ext hx)
                        have HE_203 := Lib.hid (HE_193.out.ext hx)
                        have HM_204 := Lib.hid (HM_194.out.ext hx)
                        clear hx
                        cases q205 : inL [5, 6] lg
                        · skip
                          have HE206 := Lib.hid (show importR lg ls s i = false by rw [HQ159.out, q173, q136, q188, q197, q205] <;> rfl)
                          go_wp2_with fail
                          go_ret
                          exact ⟨by rw [HE206.out] <;> rfl, X200.out⟩
                        · skip
                          go_wp2_with fail
                          refine (rsame_any _ _ m.f n.f _ HE_202.out HE_201.out).mono ?_
                          rintro e w10 ⟨rfl, hx⟩
                          have X207 := Lib.hid (X200.out.trans hx)
                          have HE_208 := Lib.hid (HE_201.out.ext hx)
                          have HE_209 := Lib.hid (HE_202.out.ext hx)
                          have HE_210 := Lib.hid (HE_203.out.ext hx)
                          have HM_211 := Lib.hid (HM_204.out.ext hx)
                          clear hx
                          have HE212 := Lib.hid (show importR lg ls s i = sameN m.f n.f by rw [HQ159.out, q173, q136, q188, q197, q205] <;> rfl)
                          go_wp2_with fail
                          go_ret
                          exact ⟨by rw [HE212.out] <;> rfl, X207.out⟩
                  · skip
                    go_wp2_with fail
                    refine (top_any _ (firstN m.f) _ HE_169.out).mono ?_
                    rintro e w6 ⟨rfl, hx⟩
                    have X213 := Lib.hid (X166.out.trans hx)
                    have HE_214 := Lib.hid (HE_167.out.ext hx)
                    have HE_215 := Lib.hid (HE_168.out.ext hx)
                    have HE_216 := Lib.hid (HE_169.out.ext hx)
                    have HM_217 := Lib.hid (HM_170.out.ext hx)
                    clear hx
                    obtain ⟨fa218, fb219⟩ := node_field (lastN (firstN m.f)) w6
                    unfold Nd.val
                    cases q220 : ((lastN (firstN m.f)).i == ba)
                    · skip
                      have HE221 := Lib.hid (show importR lg ls s i = false by rw [HQ159.out, q173, q220] <;> rfl)
                      go_wp2_with fail
                      go_ret
                      exact ⟨by rw [HE221.out] <;> rfl, X213.out⟩
                    · skip
                      have gl222 := (H.out.ext X213.out).logic
                      go_wp2_with fail
                      refine (euclidean_any lg HLG.out _).mono ?_
                      rintro e w7 ⟨rfl, hx⟩
                      have X223 := Lib.hid (X213.out.trans hx)
                      have HE_224 := Lib.hid (HE_214.out.ext hx)
                      have HE_225 := Lib.hid (HE_215.out.ext hx)
                      have HE_226 := Lib.hid (HE_216.out.ext hx)
                      have HM_227 := Lib.hid (HM_217.out.ext hx)
                      clear hx
                      cases q228 : inL [5, 6] lg
                      · skip
                        have HE229 := Lib.hid (show importR lg ls s i = false by rw [HQ159.out, q173, q220, q228] <;> rfl)
                        go_wp2_with fail
                        go_ret
                        exact ⟨by rw [HE229.out] <;> rfl, X223.out⟩
                      · skip
                        go_wp2_with fail
                        refine (rsame_any _ _ m.f n.f _ HE_225.out HE_224.out).mono ?_
                        rintro e w8 ⟨rfl, hx⟩
                        have X230 := Lib.hid (X223.out.trans hx)
                        have HE_231 := Lib.hid (HE_224.out.ext hx)
                        have HE_232 := Lib.hid (HE_225.out.ext hx)
                        have HE_233 := Lib.hid (HE_226.out.ext hx)
                        have HM_234 := Lib.hid (HM_227.out.ext hx)
                        clear hx
                        have HE235 := Lib.hid (show importR lg ls s i = sameN m.f n.f by rw [HQ159.out, q173, q220, q228] <;> rfl)
                        go_wp2_with fail
                        go_ret
                        exact ⟨by rw [HE235.out] <;> rfl, X230.out⟩
              · skip
                go_wp2_with fail
                refine (first_any _ m.f _ HE_127.out).mono ?_
                rintro e w3 ⟨u, rfl, hx, hu⟩
                have X236 := Lib.hid (X125.out.trans hx)
                have HE_237 := Lib.hid (HE_126.out.ext hx)
                have HE_238 := Lib.hid (HE_127.out.ext hx)
                clear hx
                have HM_239 := Lib.hid hu
                obtain ⟨A240, c241, rfl, _⟩ := fml_slice hu
                clear hu
                go_wp2_with fail
                refine (rsame_any _ _ (firstN m.f) n.f _ HM_239.out HE_237.out).mono ?_
                rintro e w4 ⟨rfl, hx⟩
                have X242 := Lib.hid (X236.out.trans hx)
                have HE_243 := Lib.hid (HE_237.out.ext hx)
                have HE_244 := Lib.hid (HE_238.out.ext hx)
                have HM_245 := Lib.hid (HM_239.out.ext hx)
                clear hx
                cases q246 : sameN (firstN m.f) n.f
                · skip
                  have gl247 := (H.out.ext X242.out).logic
                  go_wp2_with fail
                  refine (transitive_any lg HLG.out _).mono ?_
                  rintro e w5 ⟨rfl, hx⟩
                  have X248 := Lib.hid (X242.out.trans hx)
                  have HE_249 := Lib.hid (HE_243.out.ext hx)
                  have HE_250 := Lib.hid (HE_244.out.ext hx)
                  have HM_251 := Lib.hid (HM_245.out.ext hx)
                  clear hx
                  cases q252 : inL [3, 4, 5, 6] lg
                  · skip
                    have HE253 := Lib.hid (show importR lg ls s i = false by rw [HP2.out, q6, q130, q246, q252] <;> rfl)
                    go_wp2_with fail
                    go_ret
                    exact ⟨by rw [HE253.out] <;> rfl, X248.out⟩
                  · skip
                    go_wp2_with fail
                    refine (rsame_any _ _ m.f n.f _ HE_250.out HE_249.out).mono ?_
                    rintro e w6 ⟨rfl, hx⟩
                    have X254 := Lib.hid (X248.out.trans hx)
                    have HE_255 := Lib.hid (HE_249.out.ext hx)
                    have HE_256 := Lib.hid (HE_250.out.ext hx)
                    have HM_257 := Lib.hid (HM_251.out.ext hx)
                    clear hx
                    have HE258 := Lib.hid (show importR lg ls s i = sameN m.f n.f by rw [HP2.out, q6, q130, q246, q252] <;> rfl)
                    go_wp2_with fail
                    go_ret
                    exact ⟨by rw [HE258.out] <;> rfl, X254.out⟩
                · skip
                  have HE259 := Lib.hid (show importR lg ls s i = true by rw [HP2.out, q6, q130, q246] <;> rfl)
                  go_wp2_with fail
                  go_ret
                  exact ⟨by rw [HE259.out] <;> rfl, X242.out⟩
end Go.Proofs.YtipnbfbakohcaaaDoor
