/- The laws NaturalChecks and NaturalTheorems: the walks, joined with the plain law. -/
import Derived.Test.YtipnbfbakohcaaaDoorG9
import Derived.Test.YtipnbfbakohcaaaDoorH4
import Derived.Test.YtipnbfbakohcaaaDoorH6

namespace Go.Proofs.YtipnbfbakohcaaaDoor
open Go.RowKit

theorem theorem_same {lg : Int} {ls : List Ln} (h : fewL ls = true) : theoremR lg ls = natTheorem lg ls := by
  unfold theoremR natTheorem
  rw [check_same h]
set_option maxRecDepth 100000 in
set_option maxHeartbeats 4000000 in
theorem checks_any {w : World} {lg : Int} {vl : Value} {ls : List Ln} (hl : Lns w vl ls) (hT : Tab w) :
    Calls Tryd.prog 3 #[.agg #[.int .i64 lg, vl]] w fun e w' => e = .returned (.bool true) ∧ Ext w w' := by
  have HL := Lib.hid hl
  have HT := Lib.hid hT
  obtain ⟨Al, cl, rfl, _⟩ := hl
  clear hT
  go_enter Tryd.func3, Tryd.ntmps3
  go_wp2_with fail
  refine (few_any (lg := lg) (HL.out.ext ((Ext.refl w).alloc (.cells #[.int .i64 lg, .slice Al ls.length cl] 24)))).mono ?_
  rintro e w1 ⟨rfl, hx⟩
  have HX := Lib.hid (((Ext.refl w).alloc (.cells #[.int .i64 lg, .slice Al ls.length cl] 24)).trans hx)
  have hb1 := (hx.block (by simp)).trans (heap_alloc_new w (.cells #[.int .i64 lg, .slice Al ls.length cl] 24))
  obtain ⟨z0, z1, zfr, zlt⟩ := cells2 hb1
  have HB1 := Lib.hid hb1
  clear hx hb1
  cases hf : fewL ls
  case false =>
    clear hf
    go_wp2_with fail
    refine (awake_any (HT.out.ext HX.out)).mono ?_
    rintro e w2 ⟨rfl, hx⟩
    go_wp2_with fail
    go_ret
    exact ⟨rfl, HX.out.trans hx⟩
  case true =>
    have HS := Lib.hid (check_same (lg := lg) hf)
    clear hf
    go_wp2_with fail
    refine (natCheck_any (lg := lg) (HL.out.ext HX.out) (HT.out.ext HX.out)).mono ?_
    rintro e w2 ⟨rfl, hx⟩
    have HX2 := Lib.hid (HX.out.trans hx)
    have hb2 := (hx.block (lt_heap HB1.out)).trans HB1.out
    obtain ⟨y0, y1, yfr, ylt⟩ := cells2 hb2
    clear hx hb2 z0 z1 zfr zlt
    go_wp2_with fail
    refine (rcheck_any (lg := lg) (HL.out.ext HX2.out)).mono ?_
    rintro e w3 ⟨rfl, hx⟩
    have HX3 := Lib.hid (HX2.out.trans hx)
    clear hx
    rw [HS.out]
    go_wp2_with fail
    refine (awake_any (HT.out.ext HX3.out)).mono ?_
    rintro e w4 ⟨rfl, hx⟩
    go_wp2_with fail
    go_ret
    exact ⟨rfl, HX3.out.trans hx⟩

set_option maxRecDepth 100000 in
set_option maxHeartbeats 4000000 in
theorem theorems_any {w : World} {lg : Int} {vl : Value} {ls : List Ln} (hl : Lns w vl ls) (hT : Tab w) :
    Calls Tryd.prog 4 #[.agg #[.int .i64 lg, vl]] w fun e w' => e = .returned (.bool true) ∧ Ext w w' := by
  have HL := Lib.hid hl
  have HT := Lib.hid hT
  obtain ⟨Al, cl, rfl, _⟩ := hl
  clear hT
  go_enter Tryd.func4, Tryd.ntmps4
  go_wp2_with fail
  refine (few_any (lg := lg) (HL.out.ext ((Ext.refl w).alloc (.cells #[.int .i64 lg, .slice Al ls.length cl] 24)))).mono ?_
  rintro e w1 ⟨rfl, hx⟩
  have HX := Lib.hid (((Ext.refl w).alloc (.cells #[.int .i64 lg, .slice Al ls.length cl] 24)).trans hx)
  have hb1 := (hx.block (by simp)).trans (heap_alloc_new w (.cells #[.int .i64 lg, .slice Al ls.length cl] 24))
  obtain ⟨z0, z1, zfr, zlt⟩ := cells2 hb1
  have HB1 := Lib.hid hb1
  clear hx hb1
  cases hf : fewL ls
  case false =>
    clear hf
    go_wp2_with fail
    refine (awake_any (HT.out.ext HX.out)).mono ?_
    rintro e w2 ⟨rfl, hx⟩
    go_wp2_with fail
    go_ret
    exact ⟨rfl, HX.out.trans hx⟩
  case true =>
    have HS := Lib.hid (theorem_same (lg := lg) hf)
    clear hf
    go_wp2_with fail
    refine (natTheorem_any (lg := lg) (HL.out.ext HX.out) (HT.out.ext HX.out)).mono ?_
    rintro e w2 ⟨u, rfl, hx, hu⟩
    have HX2 := Lib.hid (HX.out.trans hx)
    have HU := Lib.hid hu
    have hb2 := (hx.block (lt_heap HB1.out)).trans HB1.out
    obtain ⟨y0, y1, yfr, ylt⟩ := cells2 hb2
    clear hx hb2 z0 z1 zfr zlt hu
    go_wp2_with fail
    refine (rtheorem_any (lg := lg) (HL.out.ext HX2.out)).mono ?_
    rintro e w3 ⟨v, rfl, hx, hv⟩
    have HX3 := Lib.hid (HX2.out.trans hx)
    have HU3 := Lib.hid (HU.out.ext hx)
    have HV := Lib.hid hv
    clear hx hv
    rw [HS.out] at HV
    rw [HS.out]
    go_wp2_with fail
    refine (refEqual_any _ _ (natTheorem lg ls).1 (natTheorem lg ls).1 _ HU3.out.1 HV.out.1).mono ?_
    rintro e w4 ⟨rfl, hx⟩
    have HX4 := Lib.hid (HX3.out.trans hx)
    rw [decide_eq_true (rfl : (natTheorem lg ls).1 = (natTheorem lg ls).1)]
    clear hx
    go_wp2_with fail
    refine (awake_any (HT.out.ext HX4.out)).mono ?_
    rintro e w5 ⟨rfl, hx⟩
    go_wp2_with fail
    go_ret
    exact ⟨rfl, HX4.out.trans hx⟩
end Go.Proofs.YtipnbfbakohcaaaDoor

/- NaturalTheorems: Theorem returns the specified formula or error. The row, and its tied card: for every proof of the program's own kind, the table of rules as the program lays it. -/

namespace Go.Proofs.YtipnbfbakohcaaaDoor
open Go.ChangeShapes Go.WideShapes Go.ChangeAt Go.RowKit Go.Joins

set_option maxRecDepth 100000 in
theorem theorems_lifted (os : Os) (started : os.Started) (H : Type) (enc : TypeId × Value → H) :
    ReturnsInHanded {} Tryd.checked os 4 .any (fun w args => (Rows.naturalTheoremsSpec.pre enc Tryd.prog Tryd.f4 [] false w args ∧ laidMetH Tryd.prog [("witting/natural.table", Rows.laid_witting_natural_table)] w) ∧ sizedMet enc Tryd.prog Tryd.f4 (OpenSpec.ofChange Rows.naturalTheoremsSpec) false w args)
      (Rows.naturalTheoremsSpec.post enc Tryd.prog Tryd.f4 false true false false) := by
  refine returnsInHanded_of_change_and (C := Tryd.checked) (X := fun w _ => laidMetH Tryd.prog [("witting/natural.table", Rows.laid_witting_natural_table)] w) (fun _ _ _ hh h => h.of_heap hh) own started (by kernel_rfl) Tryd.func4
    (ChangeSpec.witness_shaped (enc := enc) (C := Tryd.checked) (os := os) (X := fun w _ => laidMetH Tryd.prog [("witting/natural.table", Rows.laid_witting_natural_table)] w) false (World.doorLaid Tryd.prog 600 os) #[.agg #[.int .i64 0, .slice none 0 0]] 8 rfl (World.shaped_of_RefB (by kernel_rfl) (by kernel_rfl)) (by kernel_rfl) (by kernel_rfl) (by kernel_rfl) (door_met os _)) ?_
  intro W base args ds gs before hval0 hW _ _ hL _
  have hval : ∀ (j : Nat) t v, Tryd.f4.params[j]? = some t → args[j]? = some v → Value.okWide Tryd.prog W .any base t v := hval0
  have hW' := hW
  obtain ⟨p, q, hA0, hV, rfl, hfz, hnd⟩ := hW
  have hA : DataW.TrodAll enc Tryd.prog W 0 (fun _ => true) true Tryd.f4.params.toList args.toList ds p := hA0
  rw [Tryd.params4] at hA hval
  obtain ⟨v0, vs0, d0, ds0, p0, q0, hargs, rfl, rfl, h0, r0⟩ := trodAll_cons hA
  obtain ⟨rfl, rfl, rfl⟩ := trodAll_nil r0
  obtain rfl : args = #[v0] := by cases args; simp_all
  obtain ⟨rfl, rfl⟩ := trodVars_none hV
  obtain ⟨v1, v2, y0, y1, n, rfl, hd, hp, t0, t1⟩ := open_agg2 Tryd.underlying24 (by kernel_rfl) (by kernel_rfl) (hval 0 24 v0 rfl rfl) h0
  obtain ⟨lg, rfl, _⟩ := int_of_trod t0
  obtain ⟨ls, hls⟩ := lns_of_trod t1
  simp only [List.append_nil] at hW'
  clear hA0 hval0
  refine (theorems_any (lg := lg) hls (tab_of_laid hL)).mono ?_
  rintro e W' ⟨rfl, hx⟩
  have hlt : ∀ x ∈ p0, x.block < W.heap.size := fun x hx' => hW'.lt x hx'
  refine ⟨_, rfl, post_of_below (pa := p0) (pv := []) hW' (fun _ _ _ => trodAll_mk1 (shut_bool Tryd.underlying4 _)) (fun sp hsp => ?_) (fun _ _ => rfl) (by simp) hx (ok_one (by kernel_rfl) rfl (okWide_bool_mk Tryd.underlying4 _))⟩
  exact trodAll_mk1 (WideElems.Trod_stays laidOutP (by kernel_rfl) (of_decide_eq_true (by kernel_rfl)) h0 (fun x hx' => hx.same (hlt x hx')) (fun x hx' => hsp x hx'))

theorem naturalTheorems_said : Rows.NaturalTheoremsSaid :=
  OpenClaim.holds_of_wide 4 Tryd.f4 rfl rfl rfl rfl rfl rfl rfl ⟨rfl, rfl, rfl, rfl, rfl⟩ rfl rfl rfl rfl rfl (by kernel_rfl) Tryd.func4 (by kernel_rfl)
    (of_decide_eq_true (by kernel_rfl)) (by unfold Func.isWrapper; first | (rw [if_pos (by decide +kernel)]; kernel_rfl) | (rw [if_neg (by decide +kernel)]; exact ⟨rfl, rfl⟩))
    (fun os started H enc _ => theorems_lifted os started H enc)
theorem theorems_plain (f : FuncId) (fn : Func) (hf : Tryd.pinned.checked.prog.funcNamed "witting/wittinglaw50.NaturalTheorems" = some f) (hfn : Tryd.pinned.checked.prog.funcs[f]? = some fn) :
    false = Tryd.pinned.checked.prog.looks [] ∧ ∀ (j : Nat) t, fn.params[j]? = some t → Tryd.pinned.checked.prog.wantsStandIn t = false := by
  obtain rfl : f = 4 := Option.some.inj ((show Tryd.prog.funcNamed "witting/wittinglaw50.NaturalTheorems" = some 4 by kernel_rfl).symm.trans hf) |>.symm
  obtain rfl : fn = Tryd.f4 := (Option.some.inj (Tryd.func4.symm.trans hfn)).symm
  refine ⟨by kernel_rfl, fun j t ht => ?_⟩
  rw [Tryd.params4] at ht
  obtain rfl : t = 24 := by simpa using Array.mem_of_getElem? ht
  exact (show Tryd.prog.wantsStandIn 24 = false by kernel_rfl)
/-- The card. -/
theorem naturalTheorems_card : Rows.NaturalTheoremsCardSaid :=
  Claim7.holds_tied_plain_at .later [] _ _ _ _ naturalTheorems_said (fun _ h => by cases h) (by kernel_rfl) (fun _ h => by cases h) naturalTheorems_row_tie rfl ⟨rfl, rfl⟩ (by kernel_rfl) rfl theorems_plain (by kernel_rfl)
end Go.Proofs.YtipnbfbakohcaaaDoor
