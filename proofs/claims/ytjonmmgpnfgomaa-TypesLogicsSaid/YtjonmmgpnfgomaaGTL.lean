/- The law TypesLogics: the walk. -/
import Derived.Test.YtjonmmgpnfgomaaG31
import Derived.Test.YtjonmmgpnfgomaaG08

namespace Go.Proofs.Ytjonmmgpnfgomaa
open Go.RowKit

theorem less_at {w : World} {b : Nat} {t : TypeId} (h : w.heap[b]? = some (.cells #[.int .i64 6, .int .i64 5, .int .i64 6, .int .i64 4, .int .i64 4, .int .i64 2, .int .i64 4, .int .i64 3, .int .i64 5, .int .i64 3, .int .i64 5, .int .i64 1, .int .i64 2, .int .i64 1, .int .i64 1, .int .i64 0, .int .i64 3, .int .i64 0] t (0, 0))) {k : Nat} {p q : Int} (hk : lessL[k]? = some (p, q)) : w.cell? ⟨b, k * 2, none⟩ = some (.int .i64 p) ∧ w.cell? ⟨b, k * 2 + 1, none⟩ = some (.int .i64 q) := by
  have hl : k < 9 := (List.getElem?_eq_some_iff.1 hk).1
  have hc : k = 0 ∨ k = 1 ∨ k = 2 ∨ k = 3 ∨ k = 4 ∨ k = 5 ∨ k = 6 ∨ k = 7 ∨ k = 8 := by omega
  rcases hc with rfl | rfl | rfl | rfl | rfl | rfl | rfl | rfl | rfl <;>
    (simp only [lessL, List.getElem?_cons_zero, List.getElem?_cons_succ, Option.some.injEq, Prod.mk.injEq] at hk
     obtain ⟨rfl, rfl⟩ := hk
     exact ⟨by simp [World.cell?, h], by simp [World.cell?, h]⟩)
set_option maxRecDepth 100000 in
set_option maxHeartbeats 8000000 in
theorem typesLogics_any (v : Value) (f : List Nd) (w : World) (h : Fml w v f) :
    Calls Try.prog 4 #[v] w fun e w' => e = .returned (.bool true) ∧ Ext w w' := by
  have H := Lib.hid h
  obtain ⟨A, c, rfl, _⟩ := fml_slice h
  clear h
  cases hf : fewB f 5
  · have HF := Lib.hid hf
    clear hf
    go_enter Try.func4, Try.ntmps4
    go_wp2_with fail
    refine (few_any _ f 5 _ H.out).mono ?_
    rintro e w1 ⟨rfl, hx⟩
    rw [HF.out]
    have HX := Lib.hid hx
    clear hx
    go_wp2_with fail
    refine (awake_any _).mono ?_
    rintro e w5 ⟨rfl, hx⟩
    have HX5 := Lib.hid (HX.out.trans hx)
    clear hx
    go_wp2_with fail
    go_ret
    exact ⟨rfl, HX5.out⟩
  · have HF := Lib.hid hf
    clear hf
    go_enter Try.func4, Try.ntmps4
    go_wp2_with fail
    refine (few_any _ f 5 _ H.out).mono ?_
    rintro e w1 ⟨rfl, hx⟩
    rw [HF.out]
    have HX := Lib.hid hx
    clear hx
    go_upto_region 4 with (fail)
    obtain ⟨W1, hW1⟩ : ∃ W, W = w1.alloc (.cells #[.int .i64 6, .int .i64 5, .int .i64 6, .int .i64 4, .int .i64 4, .int .i64 2, .int .i64 4, .int .i64 3, .int .i64 5, .int .i64 3, .int .i64 5, .int .i64 1, .int .i64 2, .int .i64 1, .int .i64 1, .int .i64 0, .int .i64 3, .int .i64 0] 30) := ⟨_, rfl⟩
    have HB := Lib.hid (show W1.heap[w1.heap.size]? = some (.cells #[.int .i64 6, .int .i64 5, .int .i64 6, .int .i64 4, .int .i64 4, .int .i64 2, .int .i64 4, .int .i64 3, .int .i64 5, .int .i64 3, .int .i64 5, .int .i64 1, .int .i64 2, .int .i64 1, .int .i64 1, .int .i64 0, .int .i64 3, .int .i64 0] 30 (0, 0)) by rw [hW1]; exact heap_alloc_new _ _)
    have HX1 := Lib.hid (show Ext w W1 by rw [hW1]; exact HX.out.alloc _)
    rw [← hW1]
    clear hW1 HX
    obtain ⟨b, hb⟩ : ∃ b, b = w1.heap.size := ⟨_, rfl⟩
    rw [← hb] at HB ⊢
    clear hb
    go_wp2_with fail
    go_loopw [26] (fun v wr => ∃ k : Nat, v = .int .i64 (k : Int) ∧ k ≤ 9 ∧ Hid (Ext W1 wr)) (fun v _ => 9 - (intOf v).toNat)
    case atStart => exact ⟨0, rfl, Nat.zero_le _, Lib.hid (Ext.refl _)⟩
    case round =>
      obtain ⟨k, rfl, hk, HR⟩ := hrel
      by_cases hlt : k < 9
      · have hk1 : (k : Int) < 9 := by omega
        obtain ⟨⟨p, q⟩, hpq⟩ : ∃ x, lessL[k]? = some x := ⟨_, List.getElem?_eq_getElem hlt⟩
        obtain ⟨c0, c1⟩ := less_at ((HR.out.block (lt_heap HB.out)).trans HB.out) hpq
        have hbl : b < wr.heap.size := Nat.lt_of_lt_of_le (lt_heap HB.out) HR.out.size
        have HL := Lib.hid (sat_less (List.mem_of_getElem? hpq) f)
        clear hpq
        obtain ⟨⟨sa, ea⟩, hsa⟩ : ∃ x, x = satN p f := ⟨_, rfl⟩
        obtain ⟨⟨sb, eb⟩, hsb⟩ : ∃ x, x = satN q f := ⟨_, rfl⟩
        rw [← hsa, ← hsb] at HL
        obtain rfl : ea = eb := HL.out.1
        have HSA := Lib.hid hsa
        have HSB := Lib.hid hsb
        have HIM := Lib.hid HL.out.2
        clear hsa hsb HL
        obtain ⟨wq, hwq⟩ : ∃ v, v = wr := ⟨_, rfl⟩
        subst hwq
        go_wp2_with fail
        refine (sat_any p _ f _ (H.out.ext (HX1.out.trans (HR.out.alloc _)))).mono ?_
        rintro e w2 ⟨rfl, hx⟩
        rw [← HSA.out]
        have HX2 := Lib.hid hx
        obtain ⟨q0, q1, _, hql⟩ := cells2 ((hx.block (k := wq.heap.size) (by simp)).trans (heap_alloc_new wq (.cells #[.int .i64 p, .int .i64 q] 30)))
        clear hx
        go_wp2_with fail
        refine (sat_any q _ f _ (H.out.ext (HX1.out.trans ((HR.out.alloc _).trans HX2.out)))).mono ?_
        rintro e w3 ⟨rfl, hx⟩
        rw [← HSB.out]
        have HX3 := Lib.hid ((HR.out.alloc _).trans (HX2.out.trans hx))
        clear hx
        cases sa
        · go_wp2_with fail
          go_roundw
          case rel => exact ⟨k + 1, by go_num, by omega, HX3⟩
          case measure => simp [intOf]; omega
        · cases sb
          · exact absurd (HIM.out rfl) (by decide)
          · go_wp2_with fail
            go_roundw
            case rel => exact ⟨k + 1, by go_num, by omega, HX3⟩
            case measure => simp [intOf]; omega
      · obtain rfl : k = 9 := by omega
        go_wp2_with fail
        refine (awake_any _).mono ?_
        rintro e w5 ⟨rfl, hx⟩
        have HX5 := Lib.hid (HX1.out.trans (HR.out.trans hx))
        clear hx
        go_wp2_with fail
        go_ret
        exact ⟨rfl, HX5.out⟩
end Go.Proofs.Ytjonmmgpnfgomaa

/- TypesLogics: what is satisfiable in a logic is satisfiable in each logic whose conditions are among its own: for every formula. -/

namespace Go.Proofs.Ytjonmmgpnfgomaa
open Go.ChangeShapes Go.WideShapes Go.ChangeAt Go.RowKit Go.Joins

theorem laidOutP : laidOutB Try.prog = true := by kernel_rfl
theorem own : ownKnob Try.prog.godebug = none := by kernel_rfl
set_option maxRecDepth 100000 in
theorem fml_of_arg {H : Type} {enc : TypeId × Value → H} {w : World} {spare : Nat → Bool} {held : Bool} {v : Value} {d : DataW H} {p : List MemPlace} (h : DataW.Trod enc Try.prog w 0 spare held 22 v d p) (hv : ∃ a len cap, v = .slice a len cap) : ∃ l, Fml w v l := by
  obtain ⟨a, len, cap, rfl⟩ := hv
  obtain ⟨fuel, hf⟩ := h
  exact fml_of_trod hf
set_option maxRecDepth 100000 in
theorem typesLogics_lifted (os : Os) (started : os.Started) (H : Type) (enc : TypeId × Value → H) :
    ReturnsInHanded {} Try.checked os 4 .any (Rows.typesLogicsSpec.pre6 enc Try.prog Try.f4 Rows.typesLogicsRow.domain false)
      (Rows.typesLogicsSpec.post enc Try.prog Try.f4 false true false false) := by
  refine returnsInHanded_of_change (C := Try.checked) own started (by kernel_rfl) Try.func4
    (ChangeSpec.witness6 (enc := enc) (C := Try.checked) false ⟨#[], #[.slice none 0 0], []⟩ 8 (by kernel_rfl) (by kernel_rfl) (by kernel_rfl) (by kernel_rfl)) ?_
  intro W base args ds gs before hval0 hW hcnd _
  have hval : ∀ (j : Nat) t v, Try.f4.params[j]? = some t → args[j]? = some v → Value.okWide Try.prog W .any base t v := hval0
  have hW' := hW
  obtain ⟨p, q, hA0, hV, rfl, hfz, hnd⟩ := hW
  have hA : DataW.TrodAll enc Try.prog W 0 (fun _ => true) true Try.f4.params.toList args.toList ds p := hA0
  rw [Try.params4] at hA hval
  obtain ⟨v0, vs0, d0, ds0, p0, q0, hargs, rfl, rfl, h0, r0⟩ := trodAll_cons hA
  obtain ⟨rfl, rfl, rfl⟩ := trodAll_nil r0
  obtain rfl : args = #[v0] := by cases args; simp_all
  obtain ⟨rfl, rfl⟩ := trodVars_none hV
  obtain ⟨f0, hf0⟩ := fml_of_arg h0 (okWide_slice Try.underlying22 (hval 0 22 v0 rfl rfl))
  simp only [List.append_nil] at hW'
  clear hA0 hval0
  refine (typesLogics_any _ f0 _ hf0).mono ?_
  rintro e W' ⟨rfl, hx⟩
  have hlt : ∀ x ∈ p0, x.block < W.heap.size := fun x hx' => hW'.lt x hx'
  refine ⟨_, rfl, post_of_below (pa := p0) (pv := []) hW' (fun _ _ _ => trodAll_mk1 (shut_bool Try.underlying4 _)) (fun sp hsp => ?_) (fun _ _ => rfl) (by simp) hx (ok_one (by kernel_rfl) rfl (okWide_bool_mk Try.underlying4 _))⟩
  have ht := (trodAll_cons_mk (WideElems.Trod_stays laidOutP (by kernel_rfl) (of_decide_eq_true (by kernel_rfl)) h0 (fun x hx' => hx.same (hlt x hx')) (fun x hx' => hsp x hx')) trodAll_mk0)
  simp only [List.append_nil] at ht
  exact ht
theorem typesLogics_said : Rows.TypesLogicsSaid :=
  OpenClaim.holds_of_wide 4 Try.f4 rfl rfl rfl rfl rfl rfl rfl ⟨rfl, rfl, rfl, rfl, rfl⟩ rfl rfl rfl rfl rfl (by kernel_rfl) Try.func4 (by kernel_rfl)
    (of_decide_eq_true (by kernel_rfl)) (by unfold Func.isWrapper; first | (rw [if_pos (by decide +kernel)]; kernel_rfl) | (rw [if_neg (by decide +kernel)]; exact ⟨rfl, rfl⟩))
    (fun os started H enc _ => typesLogics_lifted os started H enc)
end Go.Proofs.Ytjonmmgpnfgomaa
