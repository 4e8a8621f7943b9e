/- The law TypesChecks: the walk. -/
import Derived.Test.YtbfeodammikajaaGreatG40
import Derived.Test.YtbfeodammikajaaGreatG32
import Derived.Test.YtbfeodammikajaaGreatG14
import Derived.Test.YtbfeodammikajaaGreatG42

namespace Go.Proofs.YtbfeodammikajaaGreat
open Go.RowKit

set_option maxRecDepth 100000 in
set_option maxHeartbeats 16000000 in
theorem typesChecks_any (lg : Int) (ve : Value) (ts : List Nat) (ws : List Int) (v : Value) (f : List Nd) (w : World) (h : Fml w v f) (he : Elm w ve lg ts ws) (hws : ∀ i ∈ ws, i64ok i) :
    Calls Tryz.prog 4 #[v, ve] w fun e w' => e = .returned (.bool true) ∧ Ext w w' := by
  have H := Lib.hid h
  have HE := Lib.hid he
  have HWS := Lib.hid hws
  obtain ⟨A, c, rfl, _⟩ := fml_slice h
  obtain ⟨vt, vw, rfl, ⟨At, ct, rfl, _⟩, ⟨Aw, cw, rfl, _⟩⟩ := he
  have HX0 := Lib.hid (show Ext w (w.alloc (.cells #[.int .i64 lg, .slice At ts.length ct, .slice Aw ws.length cw] 30)) from (Ext.refl _).alloc _)
  have HB0 := Lib.hid (show (w.alloc (.cells #[.int .i64 lg, .slice At ts.length ct, .slice Aw ws.length cw] 30)).heap[w.heap.size]? = some (.cells #[.int .i64 lg, .slice At ts.length ct, .slice Aw ws.length cw] 30 (0, 0)) from heap_alloc_new _ _)
  clear h hws
  cases hf : fewB f 5
  · have HF := Lib.hid hf
    clear hf
    go_enter Tryz.func4, Tryz.ntmps4
    go_wp2_with fail
    refine (few_any _ f 5 _ (H.out.ext HX0.out)).mono ?_
    rintro e w1 ⟨rfl, hx⟩
    rw [HF.out]
    have HX := Lib.hid (HX0.out.trans hx)
    clear hx
    go_wp2_with fail
    refine (awake_any _).mono ?_
    rintro e w5 ⟨rfl, hx⟩
    have HX5 := Lib.hid (HX.out.trans hx)
    clear hx
    go_wp2_with fail
    go_ret
    exact ⟨rfl, HX5.out⟩
  · have HF := Lib.hid hf
    clear hf
    by_cases ht40 : 40 < ts.length
    · have h40 : (40 : Int) < (ts.length : Int) := by omega
      go_enter Tryz.func4, Tryz.ntmps4
      go_wp2_with fail
      refine (few_any _ f 5 _ (H.out.ext HX0.out)).mono ?_
      rintro e w1 ⟨rfl, hx⟩
      rw [HF.out]
      have HX := Lib.hid (HX0.out.trans hx)
      have HB1 := Lib.hid ((hx.block (lt_heap HB0.out)).trans HB0.out)
      obtain ⟨⟨q0, q1, q2⟩, _, ql⟩ := cells3z HB1.out
      clear hx
      go_wp2_with fail
      refine (awake_any _).mono ?_
      rintro e w5 ⟨rfl, hx⟩
      have HX5 := Lib.hid (HX.out.trans hx)
      clear hx
      go_wp2_with fail
      go_ret
      exact ⟨rfl, HX5.out⟩
    · by_cases hw40 : 40 < ws.length
      · have h40 : ¬ (40 : Int) < (ts.length : Int) := by omega
        have h41 : (40 : Int) < (ws.length : Int) := by omega
        go_enter Tryz.func4, Tryz.ntmps4
        go_wp2_with fail
        refine (few_any _ f 5 _ (H.out.ext HX0.out)).mono ?_
        rintro e w1 ⟨rfl, hx⟩
        rw [HF.out]
        have HX := Lib.hid (HX0.out.trans hx)
        have HB1 := Lib.hid ((hx.block (lt_heap HB0.out)).trans HB0.out)
        obtain ⟨⟨q0, q1, q2⟩, _, ql⟩ := cells3z HB1.out
        clear hx
        go_wp2_with fail
        refine (awake_any _).mono ?_
        rintro e w5 ⟨rfl, hx⟩
        have HX5 := Lib.hid (HX.out.trans hx)
        clear hx
        go_wp2_with fail
        go_ret
        exact ⟨rfl, HX5.out⟩
      · have h40 : ¬ (40 : Int) < (ts.length : Int) := by omega
        have h41 : ¬ (40 : Int) < (ws.length : Int) := by omega
        obtain ⟨z, hz⟩ : ∃ z, z = checkT lg f ts ws := ⟨_, rfl⟩
        have HZ := Lib.hid hz
        clear hz
        go_enter Tryz.func4, Tryz.ntmps4
        go_wp2_with fail
        refine (few_any _ f 5 _ (H.out.ext HX0.out)).mono ?_
        rintro e w1 ⟨rfl, hx⟩
        rw [HF.out]
        have HX := Lib.hid (HX0.out.trans hx)
        have HB1 := Lib.hid ((hx.block (lt_heap HB0.out)).trans HB0.out)
        obtain ⟨⟨q0, q1, q2⟩, _, ql⟩ := cells3z HB1.out
        clear hx
        go_upto_region 3 with (fail)
        obtain ⟨W1, hW1⟩ : ∃ W, W = w1 := ⟨_, rfl⟩
        subst hW1
        obtain ⟨xb, hxb⟩ : ∃ b, b = w.heap.size := ⟨_, rfl⟩
        rw [← hxb] at q0 q1 q2 ql ⊢
        clear hxb
        refine wp_region_held_drew (S := fun w' => w'.cell? (⟨xb, 0, none⟩) = some (.int .i64 lg) ∧ w'.cell? (⟨xb, 1, none⟩) = some (.slice At ts.length ct) ∧ w'.cell? (⟨xb, 2, none⟩) = some (.slice Aw ws.length cw)) (by kernel_rfl) ⟨xc ql q0, xc ql q1, xc ql q2⟩ (fun hHeld => ?_)
        refine tk 0 hHeld ?_
        refine tk 1 hHeld ?_
        refine tk 3 hHeld ?_
        refine tk 4 hHeld ?_
        refine wpAnyH_ready (rs := [2]) (by kernel_rfl) (by simp) ?_
        refine AllReadyH.cons rfl (fun K hK => ?_) AllReadyH.nil
        go_simp
        refine (checkT_any lg _ ts ws _ f _ (H.out.ext (HX.out.trans (by repeat (first | exact Ext.refl _ | assumption | apply Ext.alloc | apply Ext.drew | apply Ext.setCell)))) (HE.out.ext (HX.out.trans (by repeat (first | exact Ext.refl _ | assumption | apply Ext.alloc | apply Ext.drew | apply Ext.setCell)))) HWS.out).mono ?_
        rintro e w2 ⟨rfl, hx0⟩
        have hx2 : Ext W1 w2 := Ext.trans (by repeat (first | exact Ext.refl _ | assumption | apply Ext.alloc | apply Ext.drew | apply Ext.setCell)) hx0
        rw [← HZ.out]
        clear hx0
        go_wp2_with fail
        refine hK.out _ _ ⟨xc ql q0, xc ql q1, xc ql q2⟩ (fun hHeld => ?_)
        clear hK K
        try simp only [Act.put, List.setIfInBounds_toArray, List.set_cons_zero, List.set_cons_succ, List.getElem_toArray, List.getElem_cons_succ, List.getElem_cons_zero]
        refine wpAnyH_ready (rs := [5]) (by kernel_rfl) (by simp) ?_
        refine AllReadyH.cons rfl (fun K hK => ?_) AllReadyH.nil
        go_simp
        refine (rcheckT_any lg _ ts ws _ f _ (H.out.ext (HX.out.trans hx2)) (HE.out.ext (HX.out.trans hx2)) HWS.out).mono ?_
        rintro e w3 ⟨rfl, hx0⟩
        have hx3 : Ext W1 w3 := hx2.trans hx0
        rw [← HZ.out]
        clear hx0
        go_wp2_with fail
        refine hK.out _ _ ⟨xc ql q0, xc ql q1, xc ql q2⟩ (fun hHeld => ?_)
        clear hK K
        try simp only [Act.put, List.setIfInBounds_toArray, List.set_cons_zero, List.set_cons_succ, List.getElem_toArray, List.getElem_cons_succ, List.getElem_cons_zero]
        refine tk 6 hHeld ?_
        refine tk 7 hHeld ?_
        refine wpAnyH_ready (rs := [8]) (by kernel_rfl) (by simp) ?_
        refine AllReadyH.cons rfl (fun K hK => ?_) AllReadyH.nil
        go_simp
        refine (awake_any _).mono ?_
        rintro e w4 ⟨rfl, hx0⟩
        have hx4 : Ext W1 w4 := hx3.trans hx0
        have HX4 := Lib.hid hx4
        clear hx0
        go_wp2_with fail
        refine hK.out _ _ ⟨xc ql q0, xc ql q1, xc ql q2⟩ (fun hHeld => ?_)
        clear hK K
        try simp only [Act.put, List.setIfInBounds_toArray, List.set_cons_zero, List.set_cons_succ, List.getElem_toArray, List.getElem_cons_succ, List.getElem_cons_zero]
        refine tk 9 hHeld ?_
        refine tk 10 hHeld ?_
        refine wpAnyH_done (by kernel_rfl) ?_ _
        go_wp2_with fail
        go_ret
        exact ⟨rfl, HX.out.trans HX4.out⟩
end Go.Proofs.YtbfeodammikajaaGreat

/- TypesChecks: Check returns the specified error: for all formulas and eliminations. -/

namespace Go.Proofs.YtbfeodammikajaaGreat
open Go.ChangeShapes Go.WideShapes Go.ChangeAt Go.RowKit Go.Joins

theorem laidOutP : laidOutB Tryz.prog = true := by kernel_rfl
theorem own : ownKnob Tryz.prog.godebug = none := by kernel_rfl
set_option maxRecDepth 100000 in
theorem typesChecks_lifted (os : Os) (started : os.Started) (H : Type) (enc : TypeId × Value → H) :
    ReturnsInHanded {} Tryz.checked os 4 .any (Rows.typesChecksSpec.pre6 enc Tryz.prog Tryz.f4 Rows.typesChecksRow.domain false)
      (Rows.typesChecksSpec.post enc Tryz.prog Tryz.f4 false true false false) := by
  refine returnsInHanded_of_change (C := Tryz.checked) own started (by kernel_rfl) Tryz.func4
    (ChangeSpec.witness6 (enc := enc) (C := Tryz.checked) false ⟨#[], #[.slice none 0 0, .agg #[.int .i64 0, .slice none 0 0, .slice none 0 0]], []⟩ 8 (by kernel_rfl) (by kernel_rfl) (by kernel_rfl) (by kernel_rfl)) ?_
  intro W base args ds gs before hval0 hW hcnd _
  have hval : ∀ (j : Nat) t v, Tryz.f4.params[j]? = some t → args[j]? = some v → Value.okWide Tryz.prog W .any base t v := hval0
  have hW' := hW
  obtain ⟨p, q, hA0, hV, rfl, hfz, hnd⟩ := hW
  have hA : DataW.TrodAll enc Tryz.prog W 0 (fun _ => true) true Tryz.f4.params.toList args.toList ds p := hA0
  rw [Tryz.params4] at hA hval
  obtain ⟨v0, vs0, d0, ds0, p0, q0, hargs, rfl, rfl, h0, r0⟩ := trodAll_cons hA
  obtain ⟨v1, vs1, d1, ds1, p1, q1, rfl, rfl, rfl, h1, r1⟩ := trodAll_cons r0
  obtain ⟨rfl, rfl, rfl⟩ := trodAll_nil r1
  obtain rfl : args = #[v0, v1] := by cases args; simp_all
  obtain ⟨rfl, rfl⟩ := trodVars_none hV
  obtain ⟨f0, hf0⟩ := fml_of_arg h0 (okWide_slice Tryz.underlying22 (hval 0 22 v0 rfl rfl))
  obtain ⟨lg1, ts1, ws1, he1, ho1⟩ := elm_of_arg (hval 1 30 v1 rfl rfl) h1
  simp only [List.append_nil] at hW'
  clear hA0 hval0
  refine (typesChecks_any lg1 _ ts1 ws1 _ f0 _ hf0 he1 ho1).mono ?_
  rintro e W' ⟨rfl, hx⟩
  have hlt : ∀ x ∈ p0 ++ p1, x.block < W.heap.size := fun x hx' => hW'.lt x hx'
  refine ⟨_, rfl, post_of_below (pa := p0 ++ p1) (pv := []) hW' (fun _ _ _ => trodAll_mk1 (shut_bool Tryz.underlying4 _)) (fun sp hsp => ?_) (fun _ _ => rfl) (by simp) hx (ok_one (by kernel_rfl) rfl (okWide_bool_mk Tryz.underlying4 _))⟩
  have ht := (trodAll_cons_mk (WideElems.Trod_stays laidOutP (by kernel_rfl) (of_decide_eq_true (by kernel_rfl)) h0 (fun x hx' => hx.same (hlt x (List.mem_append.2 (Or.inl hx')))) (fun x hx' => hsp x (List.mem_append.2 (Or.inl hx')))) (trodAll_cons_mk (WideElems.Trod_stays laidOutP (by kernel_rfl) (of_decide_eq_true (by kernel_rfl)) h1 (fun x hx' => hx.same (hlt x (List.mem_append.2 (Or.inr hx')))) (fun x hx' => hsp x (List.mem_append.2 (Or.inr hx')))) trodAll_mk0))
  simp only [List.append_nil] at ht
  exact ht
theorem typesChecks_said : Rows.TypesChecksSaid :=
  OpenClaim.holds_of_wide 4 Tryz.f4 rfl rfl rfl rfl rfl rfl rfl ⟨rfl, rfl, rfl, rfl, rfl⟩ rfl rfl rfl rfl rfl (by kernel_rfl) Tryz.func4 (by kernel_rfl)
    (of_decide_eq_true (by kernel_rfl)) (by unfold Func.isWrapper; first | (rw [if_pos (by decide +kernel)]; kernel_rfl) | (rw [if_neg (by decide +kernel)]; exact ⟨rfl, rfl⟩))
    (fun os started H enc _ => typesChecks_lifted os started H enc)
end Go.Proofs.YtbfeodammikajaaGreat
