/- The law TypesBase: the walk. -/
import Derived.Test.YtjonmmgpnfgomaaG31
import Derived.Test.YtjonmmgpnfgomaaG08

namespace Go.Proofs.Ytjonmmgpnfgomaa
open Go.RowKit

set_option maxRecDepth 100000 in
set_option maxHeartbeats 4000000 in
theorem typesBase_any (v : Value) (f : List Nd) (w : World) (h : Fml w v f) :
    Calls Try.prog 3 #[v] w fun e w' => e = .returned (.bool true) ∧ Ext w w' := by
  have H := Lib.hid h
  obtain ⟨A, c, rfl, _⟩ := fml_slice h
  clear h
  by_cases hl : (f.length : Int) ≤ 40
  · obtain ⟨er, her⟩ : ∃ e, e = (baseN f).2 := ⟨_, rfl⟩
    have HER := Lib.hid her
    clear her
    go_enter Try.func3, Try.ntmps3
    go_wp2_with fail
    refine (refFew_any _ f 40 _ H.out).mono ?_
    rintro e w1 ⟨rfl, rfl⟩
    rw [decide_eq_true hl]
    go_wp2_with fail
    refine (base_any _ f _ H.out).mono ?_
    rintro e w2 ⟨u, rfl, hx, hr⟩
    obtain ⟨Ar, cr, rfl⟩ := frow_slice hr
    rw [← HER.out]
    have HX := Lib.hid hx
    have HR := Lib.hid hr.fmls
    clear hx hr
    go_wp2_with fail
    refine (rbase_any _ f _ (H.out.ext HX.out)).mono ?_
    rintro e w3 ⟨u, rfl, hx, hr⟩
    obtain ⟨As, cs, rfl⟩ := frow_slice hr
    rw [← HER.out]
    have HX3 := Lib.hid (HX.out.trans hx)
    have HR3 := Lib.hid (HR.out.ext hx)
    have HS3 := Lib.hid hr.fmls
    clear hx hr
    go_wp2_with fail
    refine (sameLists_any _ _ _ _ _ HR3.out HS3.out rfl).mono ?_
    rintro e w4 ⟨rfl, hx⟩
    have HX4 := Lib.hid (HX3.out.trans hx)
    clear hx
    go_wp2_with fail
    refine (awake_any _).mono ?_
    rintro e w5 ⟨rfl, hx⟩
    have HX5 := Lib.hid (HX4.out.trans hx)
    clear hx
    go_wp2_with fail
    go_ret
    exact ⟨by first | rfl | simp, HX5.out⟩
  · go_enter Try.func3, Try.ntmps3
    go_wp2_with fail
    refine (refFew_any _ f 40 _ H.out).mono ?_
    rintro e w1 ⟨rfl, rfl⟩
    rw [decide_eq_false (by omega)]
    go_wp2_with fail
    refine (awake_any _).mono ?_
    rintro e w5 ⟨rfl, hx⟩
    have HX5 := Lib.hid hx
    clear hx
    go_wp2_with fail
    go_ret
    exact ⟨rfl, HX5.out⟩
end Go.Proofs.Ytjonmmgpnfgomaa

/- TypesBase: Base returns the specified list, or the specified error: for all formulas. -/

namespace Go.Proofs.Ytjonmmgpnfgomaa
open Go.ChangeShapes Go.WideShapes Go.ChangeAt Go.RowKit Go.Joins

theorem laidOutP : laidOutB Try.prog = true := by kernel_rfl
theorem own : ownKnob Try.prog.godebug = none := by kernel_rfl
set_option maxRecDepth 100000 in
theorem fml_of_arg {H : Type} {enc : TypeId × Value → H} {w : World} {spare : Nat → Bool} {held : Bool} {v : Value} {d : DataW H} {p : List MemPlace} (h : DataW.Trod enc Try.prog w 0 spare held 22 v d p) (hv : ∃ a len cap, v = .slice a len cap) : ∃ l, Fml w v l := by
  obtain ⟨a, len, cap, rfl⟩ := hv
  obtain ⟨fuel, hf⟩ := h
  exact fml_of_trod hf
set_option maxRecDepth 100000 in
theorem typesBase_lifted (os : Os) (started : os.Started) (H : Type) (enc : TypeId × Value → H) :
    ReturnsInHanded {} Try.checked os 3 .any (Rows.typesBaseSpec.pre6 enc Try.prog Try.f3 Rows.typesBaseRow.domain false)
      (Rows.typesBaseSpec.post enc Try.prog Try.f3 false true false false) := by
  refine returnsInHanded_of_change (C := Try.checked) own started (by kernel_rfl) Try.func3
    (ChangeSpec.witness6 (enc := enc) (C := Try.checked) false ⟨#[], #[.slice none 0 0], []⟩ 8 (by kernel_rfl) (by kernel_rfl) (by kernel_rfl) (by kernel_rfl)) ?_
  intro W base args ds gs before hval0 hW hcnd _
  have hval : ∀ (j : Nat) t v, Try.f3.params[j]? = some t → args[j]? = some v → Value.okWide Try.prog W .any base t v := hval0
  have hW' := hW
  obtain ⟨p, q, hA0, hV, rfl, hfz, hnd⟩ := hW
  have hA : DataW.TrodAll enc Try.prog W 0 (fun _ => true) true Try.f3.params.toList args.toList ds p := hA0
  rw [Try.params3] at hA hval
  obtain ⟨v0, vs0, d0, ds0, p0, q0, hargs, rfl, rfl, h0, r0⟩ := trodAll_cons hA
  obtain ⟨rfl, rfl, rfl⟩ := trodAll_nil r0
  obtain rfl : args = #[v0] := by cases args; simp_all
  obtain ⟨rfl, rfl⟩ := trodVars_none hV
  obtain ⟨f0, hf0⟩ := fml_of_arg h0 (okWide_slice Try.underlying22 (hval 0 22 v0 rfl rfl))
  simp only [List.append_nil] at hW'
  clear hA0 hval0
  refine (typesBase_any _ f0 _ hf0).mono ?_
  rintro e W' ⟨rfl, hx⟩
  have hlt : ∀ x ∈ p0, x.block < W.heap.size := fun x hx' => hW'.lt x hx'
  refine ⟨_, rfl, post_of_below (pa := p0) (pv := []) hW' (fun _ _ _ => trodAll_mk1 (shut_bool Try.underlying4 _)) (fun sp hsp => ?_) (fun _ _ => rfl) (by simp) hx (ok_one (by kernel_rfl) rfl (okWide_bool_mk Try.underlying4 _))⟩
  have ht := (trodAll_cons_mk (WideElems.Trod_stays laidOutP (by kernel_rfl) (of_decide_eq_true (by kernel_rfl)) h0 (fun x hx' => hx.same (hlt x hx')) (fun x hx' => hsp x hx')) trodAll_mk0)
  simp only [List.append_nil] at ht
  exact ht
theorem typesBase_said : Rows.TypesBaseSaid :=
  OpenClaim.holds_of_wide 3 Try.f3 rfl rfl rfl rfl rfl rfl rfl ⟨rfl, rfl, rfl, rfl, rfl⟩ rfl rfl rfl rfl rfl (by kernel_rfl) Try.func3 (by kernel_rfl)
    (of_decide_eq_true (by kernel_rfl)) (by unfold Func.isWrapper; first | (rw [if_pos (by decide +kernel)]; kernel_rfl) | (rw [if_neg (by decide +kernel)]; exact ⟨rfl, rfl⟩))
    (fun os started H enc _ => typesBase_lifted os started H enc)
end Go.Proofs.Ytjonmmgpnfgomaa
