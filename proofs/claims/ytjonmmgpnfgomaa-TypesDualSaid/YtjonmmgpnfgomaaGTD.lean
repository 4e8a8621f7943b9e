/- The law TypesDual: the walk. -/
import Derived.Test.YtjonmmgpnfgomaaG31
import Derived.Test.YtjonmmgpnfgomaaG08

namespace Go.Proofs.Ytjonmmgpnfgomaa
open Go.RowKit

set_option maxRecDepth 100000 in
set_option maxHeartbeats 32000000 in
theorem typesDual_any (lg : Int) (v1 v2 : Value) (f g : List Nd) (w : World) (h1 : Fml w v1 f) (h2 : Fml w v2 g) :
    Calls Try.prog 6 #[.int .i64 lg, v1, v2] w fun e w' => e = .returned (.bool true) ∧ Ext w w' := by
  have H1 := Lib.hid h1
  have H2 := Lib.hid h2
  obtain ⟨A1, c1, rfl, _⟩ := fml_slice h1
  obtain ⟨A2, c2, rfl, _⟩ := fml_slice h2
  clear h1 h2
  by_cases hl0 : lg < 0
  · skip
    go_enter Try.func6, Try.ntmps6
    go_wp2_with fail
    refine (awake_any _).mono ?_
    rintro e wA ⟨rfl, hx⟩
    have HXA := Lib.hid (hx)
    clear hx
    go_wp2_with fail
    go_ret
    exact ⟨by first | rfl | simp, HXA.out⟩
  by_cases hl6 : 6 < lg
  · skip
    go_enter Try.func6, Try.ntmps6
    go_wp2_with fail
    refine (awake_any _).mono ?_
    rintro e wA ⟨rfl, hx⟩
    have HXA := Lib.hid (hx)
    clear hx
    go_wp2_with fail
    go_ret
    exact ⟨by first | rfl | simp, HXA.out⟩
  have HLG := Lib.hid (show 0 ≤ lg ∧ lg ≤ 6 by omega)
  by_cases hlf : (f.length : Int) ≤ 12
  rotate_left
  · skip
    go_enter Try.func6, Try.ntmps6
    go_wp2_with fail
    refine (refFew_any _ f 12 _ H1.out).mono ?_
    rintro e w3 ⟨rfl, rfl⟩
    rw [decide_eq_false (by omega)]
    go_wp2_with fail
    refine (awake_any _).mono ?_
    rintro e wA ⟨rfl, hx⟩
    have HXA := Lib.hid (hx)
    clear hx
    go_wp2_with fail
    go_ret
    exact ⟨by first | rfl | simp, HXA.out⟩
  by_cases hlg : (g.length : Int) ≤ 12
  rotate_left
  · skip
    go_enter Try.func6, Try.ntmps6
    go_wp2_with fail
    refine (refFew_any _ f 12 _ H1.out).mono ?_
    rintro e w3 ⟨rfl, rfl⟩
    rw [decide_eq_true hlf]
    go_wp2_with fail
    refine (refFew_any _ g 12 _ H2.out).mono ?_
    rintro e w4 ⟨rfl, rfl⟩
    rw [decide_eq_false (by omega)]
    go_wp2_with fail
    refine (awake_any _).mono ?_
    rintro e wA ⟨rfl, hx⟩
    have HXA := Lib.hid (hx)
    clear hx
    go_wp2_with fail
    go_ret
    exact ⟨by first | rfl | simp, HXA.out⟩
  by_cases hcf : check f = 0
  rotate_left
  · have hb : (check f != 0) = true := by simpa using hcf
    generalize hgc : check f = cf at hcf hb
    have HCF := Lib.hid hgc
    clear hgc hcf
    go_enter Try.func6, Try.ntmps6
    go_wp2_with fail
    refine (refFew_any _ f 12 _ H1.out).mono ?_
    rintro e w3 ⟨rfl, rfl⟩
    rw [decide_eq_true hlf]
    go_wp2_with fail
    refine (refFew_any _ g 12 _ H2.out).mono ?_
    rintro e w4 ⟨rfl, rfl⟩
    rw [decide_eq_true hlg]
    go_wp2_with fail
    refine (refCheck_any _ f _ (H1.out).1).mono ?_
    rintro e w5 ⟨rfl, hx⟩
    rw [HCF.out]
    have HX5 := Lib.hid (hx)
    clear hx
    go_wp2_with fail
    refine (awake_any _).mono ?_
    rintro e wA ⟨rfl, hx⟩
    have HXA := Lib.hid (HX5.out.trans hx)
    clear hx
    go_wp2_with fail
    go_ret
    exact ⟨by first | rfl | simp, HXA.out⟩
  have HCF := Lib.hid hcf
  clear hcf
  by_cases hcg : check g = 0
  rotate_left
  · have hb : (check g != 0) = true := by simpa using hcg
    generalize hgc : check g = cg at hcg hb
    have HCG := Lib.hid hgc
    clear hgc hcg
    go_enter Try.func6, Try.ntmps6
    go_wp2_with fail
    refine (refFew_any _ f 12 _ H1.out).mono ?_
    rintro e w3 ⟨rfl, rfl⟩
    rw [decide_eq_true hlf]
    go_wp2_with fail
    refine (refFew_any _ g 12 _ H2.out).mono ?_
    rintro e w4 ⟨rfl, rfl⟩
    rw [decide_eq_true hlg]
    go_wp2_with fail
    refine (refCheck_any _ f _ (H1.out).1).mono ?_
    rintro e w5 ⟨rfl, hx⟩
    rw [HCF.out]
    have HX5 := Lib.hid (hx)
    clear hx
    go_wp2_with fail
    refine (refCheck_any _ g _ (H2.out.ext HX5.out).1).mono ?_
    rintro e w6 ⟨rfl, hx⟩
    rw [HCG.out]
    have HX6 := Lib.hid (HX5.out.trans hx)
    clear hx
    go_wp2_with fail
    refine (awake_any _).mono ?_
    rintro e wA ⟨rfl, hx⟩
    have HXA := Lib.hid (HX6.out.trans hx)
    clear hx
    go_wp2_with fail
    go_ret
    exact ⟨by first | rfl | simp, HXA.out⟩
  have HCG := Lib.hid hcg
  clear hcg
  cases hfw : fewB (andN f g) 6
  · have HF := Lib.hid hfw
    clear hfw
    go_enter Try.func6, Try.ntmps6
    go_wp2_with fail
    refine (refFew_any _ f 12 _ H1.out).mono ?_
    rintro e w3 ⟨rfl, rfl⟩
    rw [decide_eq_true hlf]
    go_wp2_with fail
    refine (refFew_any _ g 12 _ H2.out).mono ?_
    rintro e w4 ⟨rfl, rfl⟩
    rw [decide_eq_true hlg]
    go_wp2_with fail
    refine (refCheck_any _ f _ (H1.out).1).mono ?_
    rintro e w5 ⟨rfl, hx⟩
    rw [HCF.out]
    have HX5 := Lib.hid (hx)
    clear hx
    go_wp2_with fail
    refine (refCheck_any _ g _ (H2.out.ext HX5.out).1).mono ?_
    rintro e w6 ⟨rfl, hx⟩
    rw [HCG.out]
    have HX6 := Lib.hid (HX5.out.trans hx)
    clear hx
    go_wp2_with fail
    refine (rAnd_any _ _ _ _ _ (H1.out.ext HX6.out) (H2.out.ext HX6.out)).mono ?_
    rintro e w7 ⟨u7, rfl, hm⟩
    obtain ⟨A7, c7, rfl, _⟩ := fml_slice hm.fml
    have HM7 := Lib.hid hm.fml
    have HX7 := Lib.hid (HX6.out.trans hm.ext)
    clear hm
    go_wp2_with fail
    refine (few_any _ _ 6 _ HM7.out).mono ?_
    rintro e w8 ⟨rfl, hx⟩
    rw [HF.out]
    have HX8 := Lib.hid (HX7.out.trans hx)
    clear hx
    go_wp2_with fail
    refine (awake_any _).mono ?_
    rintro e wA ⟨rfl, hx⟩
    have HXA := Lib.hid (HX8.out.trans hx)
    clear hx
    go_wp2_with fail
    go_ret
    exact ⟨by first | rfl | simp, HXA.out⟩
  have HF := Lib.hid hfw
  clear hfw
  obtain ⟨hee, hd⟩ := dual_law (lg := lg) HLG.out HCF.out HCG.out
  obtain ⟨er, her⟩ : ∃ e, e = engErr lg (andN f g) := ⟨_, rfl⟩
  rw [← her] at hee hd
  by_cases hz : er = 0
  rotate_left
  · have HSA := Lib.hid (show satN lg (andN f g) = (false, er) by rw [sat_err (by rw [← her]; exact hz), her])
    have HSO := Lib.hid (show satN lg (orN f g) = (false, er) by rw [sat_err (by rw [← hee]; exact hz), hee])
    have hzb : (er != 0) = true := by simpa using hz
    clear her hee hd hz
    go_enter Try.func6, Try.ntmps6
    go_wp2_with fail
    refine (refFew_any _ f 12 _ H1.out).mono ?_
    rintro e w3 ⟨rfl, rfl⟩
    rw [decide_eq_true hlf]
    go_wp2_with fail
    refine (refFew_any _ g 12 _ H2.out).mono ?_
    rintro e w4 ⟨rfl, rfl⟩
    rw [decide_eq_true hlg]
    go_wp2_with fail
    refine (refCheck_any _ f _ (H1.out).1).mono ?_
    rintro e w5 ⟨rfl, hx⟩
    rw [HCF.out]
    have HX5 := Lib.hid (hx)
    clear hx
    go_wp2_with fail
    refine (refCheck_any _ g _ (H2.out.ext HX5.out).1).mono ?_
    rintro e w6 ⟨rfl, hx⟩
    rw [HCG.out]
    have HX6 := Lib.hid (HX5.out.trans hx)
    clear hx
    go_wp2_with fail
    refine (rAnd_any _ _ _ _ _ (H1.out.ext HX6.out) (H2.out.ext HX6.out)).mono ?_
    rintro e w7 ⟨u7, rfl, hm⟩
    obtain ⟨A7, c7, rfl, _⟩ := fml_slice hm.fml
    have HM7 := Lib.hid hm.fml
    have HX7 := Lib.hid (HX6.out.trans hm.ext)
    clear hm
    go_wp2_with fail
    refine (few_any _ _ 6 _ HM7.out).mono ?_
    rintro e w8 ⟨rfl, hx⟩
    rw [HF.out]
    have HX8 := Lib.hid (HX7.out.trans hx)
    clear hx
    go_wp2_with fail
    refine (rAnd_any _ _ _ _ _ (H1.out.ext HX8.out) (H2.out.ext HX8.out)).mono ?_
    rintro e w9 ⟨u9, rfl, hm⟩
    obtain ⟨A9, c9, rfl, _⟩ := fml_slice hm.fml
    have HM9 := Lib.hid hm.fml
    have HX9 := Lib.hid (HX8.out.trans hm.ext)
    clear hm
    go_wp2_with fail
    refine (sat_any lg _ (andN f g) _ HM9.out).mono ?_
    rintro e w10 ⟨rfl, hx⟩
    rw [HSA.out]
    have HX10 := Lib.hid (HX9.out.trans hx)
    clear hx
    go_wp2_with fail
    refine (rOr_any _ _ _ _ _ (H1.out.ext HX10.out) (H2.out.ext HX10.out)).mono ?_
    rintro e w11 ⟨u11, rfl, hm⟩
    obtain ⟨A11, c11, rfl, _⟩ := fml_slice hm.fml
    have HM11 := Lib.hid hm.fml
    have HX11 := Lib.hid (HX10.out.trans hm.ext)
    clear hm
    go_wp2_with fail
    refine (sat_any lg _ (orN f g) _ HM11.out).mono ?_
    rintro e w12 ⟨rfl, hx⟩
    rw [HSO.out]
    have HX12 := Lib.hid (HX11.out.trans hx)
    clear hx
    go_wp2_with fail
    refine (awake_any _).mono ?_
    rintro e wA ⟨rfl, hx⟩
    have HXA := Lib.hid (HX12.out.trans hx)
    clear hx
    go_wp2_with fail
    go_ret
    exact ⟨by first | rfl | simp, HXA.out⟩
  subst hz
  obtain ⟨d1, d2, d3, d4, d5, d6⟩ := hd rfl
  obtain ⟨a, ha⟩ : ∃ b, b = leftN lg f := ⟨_, rfl⟩
  obtain ⟨b, hb⟩ : ∃ b, b = leftN lg g := ⟨_, rfl⟩
  obtain ⟨n, hn⟩ : ∃ b, b = leftN lg (notN f) := ⟨_, rfl⟩
  obtain ⟨t, ht⟩ : ∃ b, b = leftN lg (andN f g) := ⟨_, rfl⟩
  rw [← ha, ← hn] at d4
  rw [← ha, ← hb] at d5
  rw [← ha, ← hb, ← ht] at d6
  have HSA := Lib.hid (show satN lg (andN f g) = (t, 0) by rw [sat_ok her.symm, ht])
  have HSO := Lib.hid (show satN lg (orN f g) = (a || b, 0) by rw [sat_ok hee.symm, d5])
  have HS1 := Lib.hid (show satN lg f = (a, 0) by rw [sat_ok d1, ha])
  have HS2 := Lib.hid (show satN lg g = (b, 0) by rw [sat_ok d2, hb])
  have HSN := Lib.hid (show satN lg (notN f) = (n, 0) by rw [sat_ok d3, hn])
  have HD4 := Lib.hid d4
  have HD6 := Lib.hid d6
  clear her hee hd d1 d2 d3 d4 d5 d6 ha hb hn ht
  go_enter Try.func6, Try.ntmps6
  go_wp2_with fail
  refine (refFew_any _ f 12 _ H1.out).mono ?_
  rintro e w3 ⟨rfl, rfl⟩
  rw [decide_eq_true hlf]
  go_wp2_with fail
  refine (refFew_any _ g 12 _ H2.out).mono ?_
  rintro e w4 ⟨rfl, rfl⟩
  rw [decide_eq_true hlg]
  go_wp2_with fail
  refine (refCheck_any _ f _ (H1.out).1).mono ?_
  rintro e w5 ⟨rfl, hx⟩
  rw [HCF.out]
  have HX5 := Lib.hid (hx)
  clear hx
  go_wp2_with fail
  refine (refCheck_any _ g _ (H2.out.ext HX5.out).1).mono ?_
  rintro e w6 ⟨rfl, hx⟩
  rw [HCG.out]
  have HX6 := Lib.hid (HX5.out.trans hx)
  clear hx
  go_wp2_with fail
  refine (rAnd_any _ _ _ _ _ (H1.out.ext HX6.out) (H2.out.ext HX6.out)).mono ?_
  rintro e w7 ⟨u7, rfl, hm⟩
  obtain ⟨A7, c7, rfl, _⟩ := fml_slice hm.fml
  have HM7 := Lib.hid hm.fml
  have HX7 := Lib.hid (HX6.out.trans hm.ext)
  clear hm
  go_wp2_with fail
  refine (few_any _ _ 6 _ HM7.out).mono ?_
  rintro e w8 ⟨rfl, hx⟩
  rw [HF.out]
  have HX8 := Lib.hid (HX7.out.trans hx)
  clear hx
  go_wp2_with fail
  refine (rAnd_any _ _ _ _ _ (H1.out.ext HX8.out) (H2.out.ext HX8.out)).mono ?_
  rintro e w9 ⟨u9, rfl, hm⟩
  obtain ⟨A9, c9, rfl, _⟩ := fml_slice hm.fml
  have HM9 := Lib.hid hm.fml
  have HX9 := Lib.hid (HX8.out.trans hm.ext)
  clear hm
  go_wp2_with fail
  refine (sat_any lg _ (andN f g) _ HM9.out).mono ?_
  rintro e w10 ⟨rfl, hx⟩
  rw [HSA.out]
  have HX10 := Lib.hid (HX9.out.trans hx)
  clear hx
  go_wp2_with fail
  refine (rOr_any _ _ _ _ _ (H1.out.ext HX10.out) (H2.out.ext HX10.out)).mono ?_
  rintro e w11 ⟨u11, rfl, hm⟩
  obtain ⟨A11, c11, rfl, _⟩ := fml_slice hm.fml
  have HM11 := Lib.hid hm.fml
  have HX11 := Lib.hid (HX10.out.trans hm.ext)
  clear hm
  go_wp2_with fail
  refine (sat_any lg _ (orN f g) _ HM11.out).mono ?_
  rintro e w12 ⟨rfl, hx⟩
  rw [HSO.out]
  have HX12 := Lib.hid (HX11.out.trans hx)
  clear hx
  go_wp2_with fail
  refine (sat_any lg _ f _ (H1.out.ext HX12.out)).mono ?_
  rintro e w13 ⟨rfl, hx⟩
  rw [HS1.out]
  have HX13 := Lib.hid (HX12.out.trans hx)
  clear hx
  go_wp2_with fail
  refine (sat_any lg _ g _ (H2.out.ext HX13.out)).mono ?_
  rintro e w14 ⟨rfl, hx⟩
  rw [HS2.out]
  have HX14 := Lib.hid (HX13.out.trans hx)
  clear hx
  go_wp2_with fail
  refine (rNot_any _ _ _ (H1.out.ext HX14.out)).mono ?_
  rintro e w15 ⟨u15, rfl, hm⟩
  obtain ⟨A15, c15, rfl, _⟩ := fml_slice hm.fml
  have HM15 := Lib.hid hm.fml
  have HX15 := Lib.hid (HX14.out.trans hm.ext)
  clear hm
  go_wp2_with fail
  refine (sat_any lg _ (notN f) _ HM15.out).mono ?_
  rintro e w16 ⟨rfl, hx⟩
  rw [HSN.out]
  have HX16 := Lib.hid (HX15.out.trans hx)
  clear hx
  have HCA := Lib.hid (show (a = true ∧ b = true) ∨ (a = true ∧ b = false ∧ t = false) ∨ (a = false ∧ n = true ∧ t = false) by
    have h4 := HD4.out
    have h6 := HD6.out
    cases a <;> cases b <;> cases n <;> cases t <;> simp_all)
  clear HD4 HD6
  rcases HCA.out with ⟨rfl, rfl⟩ | ⟨rfl, rfl, rfl⟩ | ⟨rfl, rfl, rfl⟩
  · cases n
    · cases t
      · go_wp2_with fail
        refine (awake_any _).mono ?_
        rintro e wA ⟨rfl, hx⟩
        have HXA := Lib.hid (HX16.out.trans hx)
        clear hx
        go_wp2_with fail
        go_ret
        exact ⟨by first | rfl | simp, HXA.out⟩
      · go_wp2_with fail
        refine (awake_any _).mono ?_
        rintro e wA ⟨rfl, hx⟩
        have HXA := Lib.hid (HX16.out.trans hx)
        clear hx
        go_wp2_with fail
        go_ret
        exact ⟨by first | rfl | simp, HXA.out⟩
    · cases t
      · go_wp2_with fail
        refine (awake_any _).mono ?_
        rintro e wA ⟨rfl, hx⟩
        have HXA := Lib.hid (HX16.out.trans hx)
        clear hx
        go_wp2_with fail
        go_ret
        exact ⟨by first | rfl | simp, HXA.out⟩
      · go_wp2_with fail
        refine (awake_any _).mono ?_
        rintro e wA ⟨rfl, hx⟩
        have HXA := Lib.hid (HX16.out.trans hx)
        clear hx
        go_wp2_with fail
        go_ret
        exact ⟨by first | rfl | simp, HXA.out⟩
  · cases n
    · go_wp2_with fail
      refine (awake_any _).mono ?_
      rintro e wA ⟨rfl, hx⟩
      have HXA := Lib.hid (HX16.out.trans hx)
      clear hx
      go_wp2_with fail
      go_ret
      exact ⟨by first | rfl | simp, HXA.out⟩
    · go_wp2_with fail
      refine (awake_any _).mono ?_
      rintro e wA ⟨rfl, hx⟩
      have HXA := Lib.hid (HX16.out.trans hx)
      clear hx
      go_wp2_with fail
      go_ret
      exact ⟨by first | rfl | simp, HXA.out⟩
  · cases b
    · go_wp2_with fail
      refine (awake_any _).mono ?_
      rintro e wA ⟨rfl, hx⟩
      have HXA := Lib.hid (HX16.out.trans hx)
      clear hx
      go_wp2_with fail
      go_ret
      exact ⟨by first | rfl | simp, HXA.out⟩
    · go_wp2_with fail
      refine (awake_any _).mono ?_
      rintro e wA ⟨rfl, hx⟩
      have HXA := Lib.hid (HX16.out.trans hx)
      clear hx
      go_wp2_with fail
      go_ret
      exact ⟨by first | rfl | simp, HXA.out⟩
end Go.Proofs.Ytjonmmgpnfgomaa

/- TypesDual: a formula or its negation is satisfiable in each logic; a conjunction is satisfiable only if both parts are, a disjunction exactly if one part is: for every logic and formulas. -/

namespace Go.Proofs.Ytjonmmgpnfgomaa
open Go.ChangeShapes Go.WideShapes Go.ChangeAt Go.RowKit Go.Joins

theorem laidOutP : laidOutB Try.prog = true := by kernel_rfl
theorem own : ownKnob Try.prog.godebug = none := by kernel_rfl
set_option maxRecDepth 100000 in
theorem fml_of_arg {H : Type} {enc : TypeId × Value → H} {w : World} {spare : Nat → Bool} {held : Bool} {v : Value} {d : DataW H} {p : List MemPlace} (h : DataW.Trod enc Try.prog w 0 spare held 22 v d p) (hv : ∃ a len cap, v = .slice a len cap) : ∃ l, Fml w v l := by
  obtain ⟨a, len, cap, rfl⟩ := hv
  obtain ⟨fuel, hf⟩ := h
  exact fml_of_trod hf
set_option maxRecDepth 100000 in
theorem typesDual_lifted (os : Os) (started : os.Started) (H : Type) (enc : TypeId × Value → H) :
    ReturnsInHanded {} Try.checked os 6 .any (Rows.typesDualSpec.pre6 enc Try.prog Try.f6 Rows.typesDualRow.domain false)
      (Rows.typesDualSpec.post enc Try.prog Try.f6 false true false false) := by
  refine returnsInHanded_of_change (C := Try.checked) own started (by kernel_rfl) Try.func6
    (ChangeSpec.witness6 (enc := enc) (C := Try.checked) false ⟨#[], #[.int .i64 0, .slice none 0 0, .slice none 0 0], []⟩ 8 (by kernel_rfl) (by kernel_rfl) (by kernel_rfl) (by kernel_rfl)) ?_
  intro W base args ds gs before hval0 hW hcnd _
  have hval : ∀ (j : Nat) t v, Try.f6.params[j]? = some t → args[j]? = some v → Value.okWide Try.prog W .any base t v := hval0
  have hW' := hW
  obtain ⟨p, q, hA0, hV, rfl, hfz, hnd⟩ := hW
  have hA : DataW.TrodAll enc Try.prog W 0 (fun _ => true) true Try.f6.params.toList args.toList ds p := hA0
  rw [Try.params6] at hA hval
  obtain ⟨v0, vs0, d0, ds0, p0, q0, hargs, rfl, rfl, h0, r0⟩ := trodAll_cons hA
  obtain ⟨v1, vs1, d1, ds1, p1, q1, rfl, rfl, rfl, h1, r1⟩ := trodAll_cons r0
  obtain ⟨v2, vs2, d2, ds2, p2, q2, rfl, rfl, rfl, h2, r2⟩ := trodAll_cons r1
  obtain ⟨rfl, rfl, rfl⟩ := trodAll_nil r2
  obtain rfl : args = #[v0, v1, v2] := by cases args; simp_all
  obtain ⟨rfl, rfl⟩ := trodVars_none hV
  obtain ⟨z0, rfl, rfl, rfl, wz0⟩ := open_int Try.underlying3 (hval 0 3 v0 rfl rfl) h0
  obtain ⟨f1, hf1⟩ := fml_of_arg h1 (okWide_slice Try.underlying22 (hval 1 22 v1 rfl rfl))
  obtain ⟨f2, hf2⟩ := fml_of_arg h2 (okWide_slice Try.underlying22 (hval 2 22 v2 rfl rfl))
  simp only [List.append_nil, List.nil_append] at hW'
  clear hA0 hval0
  refine (typesDual_any z0 _ _ f1 f2 _ hf1 hf2).mono ?_
  rintro e W' ⟨rfl, hx⟩
  have hlt : ∀ x ∈ p1 ++ p2, x.block < W.heap.size := fun x hx' => hW'.lt x hx'
  refine ⟨_, rfl, post_of_below (pa := p1 ++ p2) (pv := []) hW' (fun _ _ _ => trodAll_mk1 (shut_bool Try.underlying4 _)) (fun sp hsp => ?_) (fun _ _ => rfl) (by simp) hx (ok_one (by kernel_rfl) rfl (okWide_bool_mk Try.underlying4 _))⟩
  have ht := (trodAll_cons_mk (shut_int Try.underlying3 wz0) (trodAll_cons_mk (WideElems.Trod_stays laidOutP (by kernel_rfl) (of_decide_eq_true (by kernel_rfl)) h1 (fun x hx' => hx.same (hlt x (List.mem_append.2 (Or.inl hx')))) (fun x hx' => hsp x (List.mem_append.2 (Or.inl hx')))) (trodAll_cons_mk (WideElems.Trod_stays laidOutP (by kernel_rfl) (of_decide_eq_true (by kernel_rfl)) h2 (fun x hx' => hx.same (hlt x (List.mem_append.2 (Or.inr hx')))) (fun x hx' => hsp x (List.mem_append.2 (Or.inr hx')))) trodAll_mk0)))
  simp only [List.append_nil, List.nil_append] at ht
  exact ht
theorem typesDual_said : Rows.TypesDualSaid :=
  OpenClaim.holds_of_wide 6 Try.f6 rfl rfl rfl rfl rfl rfl rfl ⟨rfl, rfl, rfl, rfl, rfl⟩ rfl rfl rfl rfl rfl (by kernel_rfl) Try.func6 (by kernel_rfl)
    (of_decide_eq_true (by kernel_rfl)) (by unfold Func.isWrapper; first | (rw [if_pos (by decide +kernel)]; kernel_rfl) | (rw [if_neg (by decide +kernel)]; exact ⟨rfl, rfl⟩))
    (fun os started H enc _ => typesDual_lifted os started H enc)
end Go.Proofs.Ytjonmmgpnfgomaa
