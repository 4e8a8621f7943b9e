/- The reference of types: Satisfiable. -/
import Derived.Test.YtbfeodammikajaaGreatGTS0
import Derived.Test.YtbfeodammikajaaGreatG11
import Derived.Test.YtbfeodammikajaaGreatG25
import Derived.Test.YtbfeodammikajaaGreatG32
import Derived.Test.YtbfeodammikajaaGreatG42

namespace Go.Proofs.YtbfeodammikajaaGreat
open Go.RowKit

set_option maxRecDepth 100000 in
set_option maxHeartbeats 8000000 in
theorem rsat_any (lg : Int) (v : Value) (f : List Nd) (w : World) (h : Fml w v f) :
    Calls Tryz.prog 10 #[.int .i64 lg, v] w fun e w' => e = .returned (.tuple #[.bool (satN lg f).1, .int .i64 (satN lg f).2]) ∧ Ext w w' := by
  have H := Lib.hid h
  obtain ⟨Af, cf, rfl, _⟩ := fml_slice h
  clear h
  obtain ⟨er, her⟩ : ∃ er, er = engErr lg f := ⟨_, rfl⟩
  have HER := Lib.hid her
  by_cases hz : er = 0
  · subst hz
    have HSO := Lib.hid (sat_ok (lg := lg) her.symm)
    have HOK := Lib.hid (eng_ok her.symm)
    have HZ := Lib.hid (engErr_base her.symm)
    obtain ⟨base, hbase⟩ : ∃ b, b = (baseN f).1 := ⟨_, rfl⟩
    have HBASE := Lib.hid hbase
    have hbl : base.length ≤ 12 := by rw [hbase]; exact HOK.out.b.len
    have HSP0 := Lib.hid (show SpcOk base by rw [hbase]; exact spc_ok HOK.out.b)
    obtain ⟨m, hm⟩ : ∃ m, m = 2 ^ base.length := ⟨_, rfl⟩
    have HM := Lib.hid hm
    have hm0 : 0 < m := by rw [hm]; exact Nat.pow_pos (by omega)
    have HLG := Lib.hid (show 0 ≤ lg ∧ lg ≤ 6 from ⟨HOK.out.l0, HOK.out.l6⟩)
    clear her hbase hm
    go_enter Tryz.func10, Tryz.ntmps10
    go_wp2_with fail
    refine (rprepare_any lg _ f _ H.out).mono ?_
    rintro e w1 ⟨hx1, hr⟩
    obtain ⟨s, rfl, hsp⟩ := (hr.resolve_left (fun h => h.1 HER.out.symm)).2
    rw [← HBASE.out] at hsp
    have HSP := Lib.hid hsp
    have HX1 := Lib.hid hx1
    clear hr hsp hx1
    go_wp2_with fail
    refine (rbegin_any s lg base _ HSP.out hbl HSP0.out).mono ?_
    rintro e w2 ⟨vs, rfl, hx2, hmb⟩
    have HX2 := Lib.hid hx2
    have hal : (aliveN lg base).length = m := by rw [alive_len, HM.out]
    obtain ⟨g, cap, rfl, hgl, hgb, _, hcap, _, _⟩ := hmb.slice (by omega)
    rw [hal] at hmb ⊢
    have HMB := Lib.hid hmb
    have HAL := Lib.hid hal
    clear hx2 hal hgl hgb hmb
    go_wp2_with fail
    refine (rreduce_any s lg base (aliveN lg base) g cap m w1 _ HSP.out HX2.out hbl HLG.out HM.out HAL.out HMB.out HSP0.out).mono ?_
    rintro e w3 ⟨ve, rfl, hx3, hmb⟩
    have HX3 := Lib.hid hx3
    have HMB3 := Lib.hid hmb
    clear hx3 hmb
    go_wp2_with fail
    refine (rleft_any s lg (endN lg f).1 (.slice (some ⟨g, 0, none⟩) m cap) _ f _ HOK.out HZ.out (by rw [← HBASE.out]; exact HSP.out.ext HX3.out) end_len (by
      have h1 := HMB3.out.bools
      rw [HBASE.out] at h1
      exact h1) (H.out.ext (HX1.out.trans HX3.out))).mono ?_
    rintro e w4 ⟨rfl, hx4⟩
    have HX4 := Lib.hid (HX1.out.trans (HX3.out.trans hx4))
    have HL := Lib.hid (show satisfiedN (endN lg f).1 (rootN f) = leftN lg f from rfl)
    rw [HL.out]
    clear hx4
    go_wp2_with fail
    go_ret2
    exact ⟨by rw [HSO.out] <;> rfl, HX4.out⟩
  · have HZ := Lib.hid hz
    have HSO := Lib.hid (sat_err (lg := lg) (f := f) (by rw [← her]; exact hz))
    rw [← her] at HSO
    have hzb : (er == 0) = false := by rw [beq_eq_false_iff_ne]; exact hz
    clear her hz
    go_enter Tryz.func10, Tryz.ntmps10
    go_wp2_with fail
    refine (rprepare_any lg _ f _ H.out).mono ?_
    rintro e w1 ⟨hx1, hr⟩
    obtain ⟨_, rfl⟩ := hr.resolve_right (fun h => HZ.out (HER.out.trans h.1))
    rw [← HER.out]
    have HX1 := Lib.hid hx1
    clear hx1 hr
    go_wp2_with fail
    go_ret2
    exact ⟨by rw [HSO.out] <;> rfl, HX1.out⟩
end Go.Proofs.YtbfeodammikajaaGreat

/- The numbers that an elimination names. -/

namespace Go.Proofs.YtbfeodammikajaaGreat
open Go.RowKit

theorem pass_mem {why : List Bool → Nat → Option Int} {P : Int → Prop} (hw : ∀ al t i, why al t = some i → P i) : ∀ (r : List Nat) (s : List Bool × List (Nat × Int)), (∀ p ∈ s.2, P p.2) → ∀ p ∈ (passG why r s).2, P p.2
  | [], _, h => h
  | t :: r, s, h => by
    rw [pass_cons]
    refine pass_mem hw r _ ?_
    unfold stepG
    cases s.1.getD t false
    · exact h
    · simp only [cond_true]
      cases hq : why s.1 t with
      | none => exact h
      | some i =>
        intro p hp
        rcases List.mem_append.1 hp with hp | hp
        · exact h p hp
        · rw [List.mem_singleton.1 hp]; exact hw _ _ _ hq
theorem elim_mem {why : List Bool → Nat → Option Int} {P : Int → Prop} (hw : ∀ al t i, why al t = some i → P i) : ∀ (k : Nat) (s : List Bool × List (Nat × Int)), (∀ p ∈ s.2, P p.2) → ∀ p ∈ (elimG why k s).2, P p.2
  | 0, _, h => h
  | k + 1, s, h => by
    rw [elim_succ]
    cases (passG why (List.range s.1.length) s).2.length == s.2.length
    · exact elim_mem hw k _ (pass_mem hw _ s h)
    · exact h
theorem end_nums {lg : Int} {f : List Nd} (hl : (baseN f).1.length ≤ 12) : ∀ i ∈ (endN lg f).2.map Prod.snd, i64ok i := by
  intro i hi
  obtain ⟨p, hp, rfl⟩ := List.mem_map.1 hi
  refine elim_mem (P := i64ok) (fun al t i h => ?_) _ _ (fun p hp => by cases hp) p hp
  have h1 := List.mem_of_find?_eq_some h
  obtain ⟨j, hj, rfl⟩ := List.mem_map.1 h1
  have := List.mem_range.1 hj
  exact ⟨by omega, by omega⟩
end Go.Proofs.YtbfeodammikajaaGreat

/- The law TypesSatisfiable: the walk. -/

namespace Go.Proofs.YtbfeodammikajaaGreat
open Go.RowKit

set_option maxRecDepth 100000 in
set_option maxHeartbeats 16000000 in
theorem typesSatisfiable_any (lg : Int) (v : Value) (f : List Nd) (w : World) (h : Fml w v f) :
    Calls Tryz.prog 3 #[.int .i64 lg, v] w fun e w' => e = .returned (.bool true) ∧ Ext w w' := by
  have H := Lib.hid h
  obtain ⟨A, c, rfl, _⟩ := fml_slice h
  clear h
  cases hf : fewB f 6
  · have HF := Lib.hid hf
    clear hf
    go_enter Tryz.func3, Tryz.ntmps3
    go_wp2_with fail
    refine (few_any _ f 6 _ H.out).mono ?_
    rintro e w1 ⟨rfl, hx⟩
    rw [HF.out]
    have HX := Lib.hid hx
    clear hx
    go_wp2_with fail
    refine (awake_any _).mono ?_
    rintro e w5 ⟨rfl, hx⟩
    have HX5 := Lib.hid (HX.out.trans hx)
    clear hx
    go_wp2_with fail
    go_ret
    exact ⟨rfl, HX5.out⟩
  · have HF := Lib.hid hf
    clear hf
    have HRG := Lib.hid (engErr_range lg f)
    obtain ⟨er, her⟩ : ∃ er, er = engErr lg f := ⟨_, rfl⟩
    have HER := Lib.hid her
    by_cases hz : er = 0
    · subst hz
      have HSO := Lib.hid (sat_ok (lg := lg) her.symm)
      have HRO := Lib.hid (refErr_ok (lg := lg) her.symm)
      have HW := Lib.hid (end_nums (lg := lg) (f := f) (eng_all (eng_ok her.symm)).len)
      cases hl : leftN lg f
      · rw [hl] at HSO HRO
        have HC := Lib.hid (check_end her.symm hl)
        clear her hl
        go_enter Tryz.func3, Tryz.ntmps3
        go_wp2_with fail
        refine (few_any _ f 6 _ H.out).mono ?_
        rintro e w1 ⟨rfl, hx⟩
        rw [HF.out]
        have HX1 := Lib.hid hx
        clear hx
        go_wp2_with fail
        refine (sat_any lg _ f _ (H.out.ext HX1.out)).mono ?_
        rintro e w2 ⟨rfl, hx⟩
        rw [HSO.out]
        have HX2 := Lib.hid (HX1.out.trans hx)
        clear hx
        go_wp2_with fail
        refine (rsat_any lg _ f _ (H.out.ext HX2.out)).mono ?_
        rintro e w3 ⟨rfl, hx⟩
        rw [HSO.out]
        have HX3 := Lib.hid (HX2.out.trans hx)
        clear hx
        go_wp2_with fail
        refine (refute_any lg _ f _ (H.out.ext HX3.out)).mono ?_
        rintro e w4 ⟨hx, u, rfl, _, hy⟩
        have hel := hy HRO.out
        have HEL := Lib.hid hel
        obtain ⟨vt, vw, rfl, ⟨At, ct, rfl, _⟩, ⟨Aw, cw, rfl, _⟩⟩ := hel
        rw [HRO.out]
        have HX4 := Lib.hid (HX3.out.trans hx)
        clear hx hy
        generalize ((endN lg f).2.map Prod.fst) = ts at *
        generalize ((endN lg f).2.map Prod.snd) = ws at *
        go_upto_region 6 with (fail)
        obtain ⟨W5, hW5⟩ : ∃ W, W = w4.alloc (.cells #[.int .i64 lg, .slice At ts.length ct, .slice Aw ws.length cw] 30) := ⟨_, rfl⟩
        have HX5 := Lib.hid (show Ext w W5 by rw [hW5]; exact HX4.out.alloc _)
        have HEL5 := Lib.hid (show Elm W5 (.agg #[.int .i64 lg, .slice At ts.length ct, .slice Aw ws.length cw]) lg ts ws by rw [hW5]; exact HEL.out.ext ((Ext.refl _).alloc _))
        have HB5 := Lib.hid (show W5.heap[w4.heap.size]? = some (.cells #[.int .i64 lg, .slice At ts.length ct, .slice Aw ws.length cw] 30 (0, 0)) by rw [hW5]; exact heap_alloc_new _ _)
        rw [← hW5]
        obtain ⟨xb, hxb⟩ : ∃ b, b = w4.heap.size := ⟨_, rfl⟩
        rw [← hxb] at HB5 ⊢
        clear hW5 hxb
        obtain ⟨⟨q0, q1, q2⟩, _, ql⟩ := cells3z HB5.out
        go_wp2_with fail
        refine (rcheckT_any lg _ ts ws _ f _ (H.out.ext HX5.out) HEL5.out HW.out).mono ?_
        rintro e w6 ⟨rfl, hx⟩
        rw [HC.out]
        have HX6 := Lib.hid hx
        obtain ⟨⟨p0, p1, p2⟩, _, pl⟩ := cells3z ((hx.block ql).trans HB5.out)
        clear hx q0 q1 q2 ql
        go_wp2_with fail
        refine (checkT_any lg _ ts ws _ f _ (H.out.ext (HX5.out.trans HX6.out)) (HEL5.out.ext HX6.out) HW.out).mono ?_
        rintro e w7 ⟨rfl, hx⟩
        rw [HC.out]
        have HX7 := Lib.hid (HX5.out.trans (HX6.out.trans hx))
        clear hx p0 p1 p2 pl
        go_wp2_with fail
        refine (awake_any _).mono ?_
        rintro e w8 ⟨rfl, hx⟩
        have HX8 := Lib.hid (HX7.out.trans hx)
        clear hx
        go_wp2_with fail
        go_ret
        exact ⟨rfl, HX8.out⟩
      · rw [hl] at HSO HRO
        clear her hl
        go_enter Tryz.func3, Tryz.ntmps3
        go_wp2_with fail
        refine (few_any _ f 6 _ H.out).mono ?_
        rintro e w1 ⟨rfl, hx⟩
        rw [HF.out]
        have HX1 := Lib.hid hx
        clear hx
        go_wp2_with fail
        refine (sat_any lg _ f _ (H.out.ext HX1.out)).mono ?_
        rintro e w2 ⟨rfl, hx⟩
        rw [HSO.out]
        have HX2 := Lib.hid (HX1.out.trans hx)
        clear hx
        go_wp2_with fail
        refine (rsat_any lg _ f _ (H.out.ext HX2.out)).mono ?_
        rintro e w3 ⟨rfl, hx⟩
        rw [HSO.out]
        have HX3 := Lib.hid (HX2.out.trans hx)
        clear hx
        go_wp2_with fail
        refine (refute_any lg _ f _ (H.out.ext HX3.out)).mono ?_
        rintro e w4 ⟨hx, u, rfl, hn, _⟩
        have hel := hn (by rw [HRO.out]; decide)
        obtain ⟨vt, vw, rfl, ⟨At, ct, rfl, _⟩, ⟨Aw, cw, rfl, _⟩⟩ := hel
        rw [HRO.out]
        have HX4 := Lib.hid (HX3.out.trans hx)
        clear hx hn
        go_wp2_with fail
        refine (awake_any _).mono ?_
        rintro e w8 ⟨rfl, hx⟩
        have HX8 := Lib.hid ((HX4.out.alloc _).trans hx)
        clear hx
        go_wp2_with fail
        go_ret
        exact ⟨rfl, HX8.out⟩
    · have HZ := Lib.hid hz
      have HSO := Lib.hid (sat_err (lg := lg) (f := f) (by rw [← her]; exact hz))
      have HRO := Lib.hid (show refErr lg f = er by rw [refErr_bad (by rw [← her]; exact hz), her])
      rw [← her] at HSO
      have hz0 : (er == 0) = false := by rw [beq_eq_false_iff_ne]; exact hz
      clear her hz
      go_enter Tryz.func3, Tryz.ntmps3
      go_wp2_with fail
      refine (few_any _ f 6 _ H.out).mono ?_
      rintro e w1 ⟨rfl, hx⟩
      rw [HF.out]
      have HX1 := Lib.hid hx
      clear hx
      go_wp2_with fail
      refine (sat_any lg _ f _ (H.out.ext HX1.out)).mono ?_
      rintro e w2 ⟨rfl, hx⟩
      rw [HSO.out]
      have HX2 := Lib.hid (HX1.out.trans hx)
      clear hx
      go_wp2_with fail
      refine (rsat_any lg _ f _ (H.out.ext HX2.out)).mono ?_
      rintro e w3 ⟨rfl, hx⟩
      rw [HSO.out]
      have HX3 := Lib.hid (HX2.out.trans hx)
      clear hx
      go_wp2_with fail
      refine (refute_any lg _ f _ (H.out.ext HX3.out)).mono ?_
      rintro e w4 ⟨hx, u, rfl, hn, _⟩
      have hel := hn (by rw [HRO.out]; exact HZ.out)
      obtain ⟨vt, vw, rfl, ⟨At, ct, rfl, _⟩, ⟨Aw, cw, rfl, _⟩⟩ := hel
      rw [HRO.out]
      have HX4 := Lib.hid (HX3.out.trans hx)
      clear hx hn
      go_wp2_with fail
      refine (awake_any _).mono ?_
      rintro e w8 ⟨rfl, hx⟩
      have HX8 := Lib.hid ((HX4.out.alloc _).trans hx)
      clear hx
      go_wp2_with fail
      go_ret
      exact ⟨rfl, HX8.out⟩
end Go.Proofs.YtbfeodammikajaaGreat

/- TypesSatisfiable: Satisfiable tells the truth, or returns the specified error, and Refute returns an elimination that is right exactly for the other formulas: for every logic and formula. -/

namespace Go.Proofs.YtbfeodammikajaaGreat
open Go.ChangeShapes Go.WideShapes Go.ChangeAt Go.RowKit Go.Joins

theorem laidOutP : laidOutB Tryz.prog = true := by kernel_rfl
theorem own : ownKnob Tryz.prog.godebug = none := by kernel_rfl
set_option maxRecDepth 100000 in
theorem typesSatisfiable_lifted (os : Os) (started : os.Started) (H : Type) (enc : TypeId × Value → H) :
    ReturnsInHanded {} Tryz.checked os 3 .any (Rows.typesSatisfiableSpec.pre6 enc Tryz.prog Tryz.f3 Rows.typesSatisfiableRow.domain false)
      (Rows.typesSatisfiableSpec.post enc Tryz.prog Tryz.f3 false true false false) := by
  refine returnsInHanded_of_change (C := Tryz.checked) own started (by kernel_rfl) Tryz.func3
    (ChangeSpec.witness6 (enc := enc) (C := Tryz.checked) false ⟨#[], #[.int .i64 0, .slice none 0 0], []⟩ 8 (by kernel_rfl) (by kernel_rfl) (by kernel_rfl) (by kernel_rfl)) ?_
  intro W base args ds gs before hval0 hW hcnd _
  have hval : ∀ (j : Nat) t v, Tryz.f3.params[j]? = some t → args[j]? = some v → Value.okWide Tryz.prog W .any base t v := hval0
  have hW' := hW
  obtain ⟨p, q, hA0, hV, rfl, hfz, hnd⟩ := hW
  have hA : DataW.TrodAll enc Tryz.prog W 0 (fun _ => true) true Tryz.f3.params.toList args.toList ds p := hA0
  rw [Tryz.params3] at hA hval
  obtain ⟨v0, vs0, d0, ds0, p0, q0, hargs, rfl, rfl, h0, r0⟩ := trodAll_cons hA
  obtain ⟨v1, vs1, d1, ds1, p1, q1, rfl, rfl, rfl, h1, r1⟩ := trodAll_cons r0
  obtain ⟨rfl, rfl, rfl⟩ := trodAll_nil r1
  obtain rfl : args = #[v0, v1] := by cases args; simp_all
  obtain ⟨rfl, rfl⟩ := trodVars_none hV
  obtain ⟨z0, rfl, rfl, rfl, wz0⟩ := open_int Tryz.underlying3 (hval 0 3 v0 rfl rfl) h0
  obtain ⟨f1, hf1⟩ := fml_of_arg h1 (okWide_slice Tryz.underlying22 (hval 1 22 v1 rfl rfl))
  simp only [List.append_nil, List.nil_append] at hW'
  clear hA0 hval0
  refine (typesSatisfiable_any z0 _ f1 _ hf1).mono ?_
  rintro e W' ⟨rfl, hx⟩
  have hlt : ∀ x ∈ p1, x.block < W.heap.size := fun x hx' => hW'.lt x hx'
  refine ⟨_, rfl, post_of_below (pa := p1) (pv := []) hW' (fun _ _ _ => trodAll_mk1 (shut_bool Tryz.underlying4 _)) (fun sp hsp => ?_) (fun _ _ => rfl) (by simp) hx (ok_one (by kernel_rfl) rfl (okWide_bool_mk Tryz.underlying4 _))⟩
  have ht := (trodAll_cons_mk (shut_int Tryz.underlying3 wz0) (trodAll_cons_mk (WideElems.Trod_stays laidOutP (by kernel_rfl) (of_decide_eq_true (by kernel_rfl)) h1 (fun x hx' => hx.same (hlt x hx')) (fun x hx' => hsp x hx')) trodAll_mk0))
  simp only [List.append_nil, List.nil_append] at ht
  exact ht
theorem typesSatisfiable_said : Rows.TypesSatisfiableSaid :=
  OpenClaim.holds_of_wide 3 Tryz.f3 rfl rfl rfl rfl rfl rfl rfl ⟨rfl, rfl, rfl, rfl, rfl⟩ rfl rfl rfl rfl rfl (by kernel_rfl) Tryz.func3 (by kernel_rfl)
    (of_decide_eq_true (by kernel_rfl)) (by unfold Func.isWrapper; first | (rw [if_pos (by decide +kernel)]; kernel_rfl) | (rw [if_neg (by decide +kernel)]; exact ⟨rfl, rfl⟩))
    (fun os started H enc _ => typesSatisfiable_lifted os started H enc)
end Go.Proofs.YtbfeodammikajaaGreat
