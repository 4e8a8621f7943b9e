/- The law TypesCommon: the walk. -/
import Derived.Test.YtjonmmgpnfgomaaG31
import Derived.Test.YtjonmmgpnfgomaaG08

namespace Go.Proofs.Ytjonmmgpnfgomaa
open Go.RowKit

theorem pass_mem {why : List Bool → Nat → Option Int} {P : Int → Prop} (hw : ∀ al t i, why al t = some i → P i) : ∀ (r : List Nat) (s : List Bool × List (Nat × Int)), (∀ p ∈ s.2, P p.2) → ∀ p ∈ (passG why r s).2, P p.2
  | [], _, h => h
  | t :: r, s, h => by
    rw [pass_cons]
    refine pass_mem hw r _ ?_
    unfold stepG
    cases s.1.getD t false
    · exact h
    · simp only [cond_true]
      cases hq : why s.1 t with
      | none => exact h
      | some i =>
        intro p hp
        rcases List.mem_append.1 hp with hp | hp
        · exact h p hp
        · rw [List.mem_singleton.1 hp]; exact hw _ _ _ hq
theorem elim_mem {why : List Bool → Nat → Option Int} {P : Int → Prop} (hw : ∀ al t i, why al t = some i → P i) : ∀ (k : Nat) (s : List Bool × List (Nat × Int)), (∀ p ∈ s.2, P p.2) → ∀ p ∈ (elimG why k s).2, P p.2
  | 0, _, h => h
  | k + 1, s, h => by
    rw [elim_succ]
    cases (passG why (List.range s.1.length) s).2.length == s.2.length
    · exact elim_mem hw k _ (pass_mem hw _ s h)
    · exact h
theorem end_nums {lg : Int} {f : List Nd} (hl : (baseN f).1.length ≤ 12) : ∀ i ∈ (endN lg f).2.map Prod.snd, i64ok i := by
  intro i hi
  obtain ⟨p, hp, rfl⟩ := List.mem_map.1 hi
  refine elim_mem (P := i64ok) (fun al t i h => ?_) _ _ (fun p hp => by cases hp) p hp
  have h1 := List.mem_of_find?_eq_some h
  obtain ⟨j, hj, rfl⟩ := List.mem_map.1 h1
  have := List.mem_range.1 hj
  exact ⟨by omega, by omega⟩
set_option maxRecDepth 100000 in
set_option maxHeartbeats 4000000 in
theorem valid_any (lg : Int) (v : Value) (f : List Nd) (w : World) (h : Fml w v f) (h0 : engErr lg (notN f) = 0) (hl : leftN lg (notN f) = false) :
    Calls Try.prog 21 #[.int .i64 lg, v] w fun e w' => e = .returned (.tuple #[.bool true, .bool true]) ∧ Ext w w' := by
  have H := Lib.hid h
  obtain ⟨A, c, rfl, _⟩ := fml_slice h
  have HR := Lib.hid (show refErr lg (notN f) = 0 by rw [refErr_ok h0, hl]; rfl)
  have HC := Lib.hid (check_end h0 hl)
  have HW := Lib.hid (end_nums (lg := lg) (f := notN f) (eng_all (eng_ok h0)).len)
  have hnl := (check_parts (eng_ok h0).ck).1
  have hnb : (((notN f).length : Int) == 0) = false := by rw [beq_eq_false_iff_ne]; omega
  clear h h0 hl hnl
  go_enter Try.func21, Try.ntmps21
  go_wp2_with fail
  refine (rNot_any _ f _ H.out).mono ?_
  rintro e w1 ⟨u1, rfl, hm⟩
  obtain ⟨A1, c1, rfl, _⟩ := fml_slice hm.fml
  have HM := Lib.hid hm
  clear hm
  go_wp2_with fail
  refine (refute_any lg _ _ _ HM.out.fml).mono ?_
  rintro e w2 ⟨hx, u2, rfl, _, hy⟩
  obtain hel := hy HR.out
  have HEL := Lib.hid hel
  obtain ⟨vt, vw, rfl, ⟨At, ct, rfl, _⟩, ⟨Aw, cw, rfl, _⟩⟩ := hel
  rw [HR.out]
  have HX := Lib.hid hx
  clear hx hy
  generalize ((endN lg (notN f)).2.map Prod.fst) = ts at *
  generalize ((endN lg (notN f)).2.map Prod.snd) = ws at *
  go_wp2_with fail
  refine (checkT_any lg _ _ _ _ _ _ (HM.out.fml.ext (HX.out.alloc _)) (HEL.out.ext ((Ext.refl _).alloc _)) HW.out).mono ?_
  rintro e w3 ⟨rfl, hx⟩
  rw [HC.out]
  have HX3 := Lib.hid (HM.out.ext.trans ((HX.out.alloc _).trans hx))
  clear hx
  go_wp2_with fail
  go_ret2
  exact ⟨rfl, HX3.out⟩
/-- What the law asks ahead of its work. -/
def comOk (lg g : Int) (x : List Nd) : Prop := (0 ≤ lg ∧ lg ≤ 6) ∧ (1 ≤ g ∧ g ≤ 3) ∧ fewB x 2 = true ∧ (x.length : Int) ≤ 6
theorem two_fmls {w : World} {b : Nat} {v1 v2 : Value} {f1 f2 : List Nd} {t : TypeId} (h : w.heap[b]? = some (.cells #[v1, v2] t (0, 0))) (h1 : Fml w v1 f1) (h2 : Fml w v2 f2) : Fmls w (.slice (some ⟨b, 0, none⟩) 2 2) [f1, f2] := by
  refine ⟨_, 2, rfl, Nat.le_refl _, by unfold maxLen; omega, fun _ => ⟨_, rfl, lt_heap h, fun k s hk => ?_⟩⟩
  rw [addr_zero]
  have hl := (List.getElem?_eq_some_iff.1 hk).1
  have hc : k = 0 ∨ k = 1 := by simp at hl; omega
  rcases hc with rfl | rfl
  · obtain rfl : f1 = s := by simpa using hk
    exact ⟨v1, by simp [World.cell?, h], h1⟩
  · obtain rfl : f2 = s := by simpa using hk
    exact ⟨v2, by simp [World.cell?, h], h2⟩
set_option maxRecDepth 100000 in
set_option maxHeartbeats 16000000 in
theorem typesCommon_any (lg g : Int) (hg : i64ok g) (v : Value) (x : List Nd) (w : World) (h : Fml w v x) :
    Calls Try.prog 5 #[.int .i64 lg, .int .i64 g, v] w fun e w' => e = .returned (.bool true) ∧ Ext w w' := by
  have H := Lib.hid h
  obtain ⟨A, c, rfl, _⟩ := fml_slice h
  have HG := Lib.hid hg
  have HH0 := Lib.hid (show headOk ⟨3, 0, 0, 0, 0, 0⟩ from ⟨rfl, rfl, rfl, fun _ => rfl, fun _ => rfl⟩)
  clear h hg
  by_cases hl0 : lg < 0
  · go_enter Try.func5, Try.ntmps5
    go_wp2_with fail
    refine (awake_any _).mono ?_
    rintro e w5 ⟨rfl, hx⟩
    have HX5 := Lib.hid hx
    clear hx
    go_wp2_with fail
    go_ret
    exact ⟨rfl, HX5.out⟩
  by_cases hl6 : 6 < lg
  · go_enter Try.func5, Try.ntmps5
    go_wp2_with fail
    refine (awake_any _).mono ?_
    rintro e w5 ⟨rfl, hx⟩
    have HX5 := Lib.hid hx
    clear hx
    go_wp2_with fail
    go_ret
    exact ⟨rfl, HX5.out⟩
  by_cases hg1 : g < 1
  · go_enter Try.func5, Try.ntmps5
    go_wp2_with fail
    refine (awake_any _).mono ?_
    rintro e w5 ⟨rfl, hx⟩
    have HX5 := Lib.hid hx
    clear hx
    go_wp2_with fail
    go_ret
    exact ⟨rfl, HX5.out⟩
  by_cases hg3 : 3 < g
  · go_enter Try.func5, Try.ntmps5
    go_wp2_with fail
    refine (awake_any _).mono ?_
    rintro e w5 ⟨rfl, hx⟩
    have HX5 := Lib.hid hx
    clear hx
    go_wp2_with fail
    go_ret
    exact ⟨rfl, HX5.out⟩
  cases hf : fewB x 2
  · have HF := Lib.hid hf
    clear hf
    go_enter Try.func5, Try.ntmps5
    go_wp2_with fail
    refine (few_any _ x 2 _ H.out).mono ?_
    rintro e w1 ⟨rfl, hx⟩
    rw [HF.out]
    have HX := Lib.hid hx
    clear hx
    go_wp2_with fail
    refine (awake_any _).mono ?_
    rintro e w5 ⟨rfl, hx⟩
    have HX5 := Lib.hid (HX.out.trans hx)
    clear hx
    go_wp2_with fail
    go_ret
    exact ⟨rfl, HX5.out⟩
  have HF := Lib.hid hf
  clear hf
  by_cases hx6 : (x.length : Int) ≤ 6
  · have HLG := Lib.hid (show 0 ≤ lg ∧ lg ≤ 6 by omega)
    have HGR := Lib.hid (show 1 ≤ g ∧ g ≤ 3 by omega)
    go_enter Try.func5, Try.ntmps5
    go_wp2_with fail
    refine (few_any _ x 2 _ H.out).mono ?_
    rintro e w1 ⟨rfl, hx⟩
    rw [HF.out]
    have HX := Lib.hid hx
    clear hx
    go_wp2_with fail
    refine (refFew_any _ x 6 _ (H.out.ext HX.out)).mono ?_
    rintro e w1' ⟨rfl, rfl⟩
    rw [decide_eq_true hx6]
    go_wp2_with fail
    refine (rFact_any 0 ok_z HH0.out _).mono ?_
    rintro e w2 ⟨u2, rfl, hm⟩
    obtain ⟨A2, c2, rfl, _⟩ := fml_slice hm.fml
    have HP2 := Lib.hid hm.fml
    have HX2 := Lib.hid (HX.out.trans hm.ext)
    have HA2 := Lib.hid (H.out.ext HX2.out)
    clear hm
    go_wp2_with fail
    refine (rCommon_any g HG.out (head_g 13 (.inr rfl) HGR.out.1 HGR.out.2) _ _ _ _ _ HA2.out HP2.out).mono ?_
    rintro e w3 ⟨u3, rfl, hm⟩
    obtain ⟨A3, c3, rfl, _⟩ := fml_slice hm.fml
    have HC3 := Lib.hid hm.fml
    have HX3 := Lib.hid (HX2.out.trans hm.ext)
    have HP3 := Lib.hid (HP2.out.ext hm.ext)
    clear hm HA2
    go_wp2_with fail
    refine (rAnd_any _ _ _ _ _ HP3.out HC3.out).mono ?_
    rintro e w4 ⟨u4, rfl, hm⟩
    obtain ⟨A4, c4, rfl, _⟩ := fml_slice hm.fml
    have HN4 := Lib.hid hm.fml
    have HX4 := Lib.hid (HX3.out.trans hm.ext)
    have HP4 := Lib.hid (HP3.out.ext hm.ext)
    have HC4 := Lib.hid (HC3.out.ext hm.ext)
    clear hm HP3 HC3
    go_wp2_with fail
    refine (rImp_any _ _ _ _ _ (H.out.ext HX4.out) HN4.out).mono ?_
    rintro e w5 ⟨u5, rfl, hm⟩
    obtain ⟨A5, c5, rfl, _⟩ := fml_slice hm.fml
    have HN5 := Lib.hid hm.fml
    have HX5 := Lib.hid (HX4.out.trans hm.ext)
    have HP5 := Lib.hid (HP4.out.ext hm.ext)
    have HC5 := Lib.hid (HC4.out.ext hm.ext)
    clear hm HP4 HC4 HN4
    go_wp2_with fail
    refine (rEvery_any g HG.out (head_g 11 (.inl rfl) HGR.out.1 HGR.out.2) _ _ _ HN5.out).mono ?_
    rintro e w6 ⟨u6, rfl, hm⟩
    obtain ⟨A6, c6, rfl, _⟩ := fml_slice hm.fml
    have HN6 := Lib.hid hm.fml
    have HX6 := Lib.hid (HX5.out.trans hm.ext)
    have HP6 := Lib.hid (HP5.out.ext hm.ext)
    have HC6 := Lib.hid (HC5.out.ext hm.ext)
    clear hm HP5 HC5 HN5
    go_wp2_with fail
    refine (rIff_any _ _ _ _ _ HC6.out HN6.out).mono ?_
    rintro e w7 ⟨u7, rfl, hm⟩
    obtain ⟨A7, c7, rfl, _⟩ := fml_slice hm.fml
    have HN7 := Lib.hid hm.fml
    have HX7 := Lib.hid (HX6.out.trans hm.ext)
    have HP7 := Lib.hid (HP6.out.ext hm.ext)
    have HC7 := Lib.hid (HC6.out.ext hm.ext)
    clear hm HP6 HC6 HN6
    go_wp2_with fail
    refine (rImp_any _ _ _ _ _ (H.out.ext HX7.out) HP7.out).mono ?_
    rintro e w8 ⟨u8, rfl, hm⟩
    obtain ⟨A8, c8, rfl, _⟩ := fml_slice hm.fml
    have HN8 := Lib.hid hm.fml
    have HX8 := Lib.hid (HX7.out.trans hm.ext)
    have HF8 := Lib.hid (HN7.out.ext hm.ext)
    have HC8 := Lib.hid (HC7.out.ext hm.ext)
    clear hm HP7 HC7 HN7
    go_wp2_with fail
    refine (rEvery_any g HG.out (head_g 11 (.inl rfl) HGR.out.1 HGR.out.2) _ _ _ HN8.out).mono ?_
    rintro e w9 ⟨u9, rfl, hm⟩
    obtain ⟨A9, c9, rfl, _⟩ := fml_slice hm.fml
    have HN9 := Lib.hid hm.fml
    have HX9 := Lib.hid (HX8.out.trans hm.ext)
    have HF9 := Lib.hid (HF8.out.ext hm.ext)
    have HC9 := Lib.hid (HC8.out.ext hm.ext)
    clear hm HF8 HC8 HN8
    go_wp2_with fail
    refine (rImp_any _ _ _ _ _ HC9.out HN9.out).mono ?_
    rintro e w10 ⟨u10, rfl, hm⟩
    obtain ⟨A10, c10, rfl, _⟩ := fml_slice hm.fml
    have HN10 := Lib.hid hm.fml
    have HX10 := Lib.hid (HX9.out.trans hm.ext)
    have HF10 := Lib.hid (HF9.out.ext hm.ext)
    clear hm HF9 HC9 HN9
    generalize hF1 : iffN (commonN g x (factN 0)) (everyN g (impN x (andN (factN 0) (commonN g x (factN 0))))) = F1 at *
    generalize hF2 : impN (commonN g x (factN 0)) (everyN g (impN x (factN 0))) = F2 at *
    have HMEM := Lib.hid (show ∀ F ∈ [F1, F2], F = com1 g x ∨ F = com2 g x by
      intro F hF
      rcases List.mem_cons.1 hF with rfl | hF
      · exact .inl hF1.symm
      · rw [List.mem_singleton.1 hF]; exact .inr hF2.symm)
    have HL := Lib.hid (two_fmls (heap_alloc_new w10 (.cells #[.slice A7 F1.length c7, .slice A10 F2.length c10] 22)) (HF10.out.ext ((Ext.refl _).alloc _)) (HN10.out.ext ((Ext.refl _).alloc _)))
    have HXL := Lib.hid (HX10.out.alloc (.cells #[.slice A7 F1.length c7, .slice A10 F2.length c10] 22))
    clear hF1 hF2
    go_wp2_with fail
    go_loopw [65] (fun v wr => ∃ k : Nat, v = .int .i64 (k : Int) ∧ k ≤ 2 ∧ Hid (Ext (w10.alloc (.cells #[.slice A7 F1.length c7, .slice A10 F2.length c10] 22)) wr)) (fun v _ => 2 - (intOf v).toNat)
    case atStart => exact ⟨0, rfl, Nat.zero_le _, Lib.hid (Ext.refl _)⟩
    case round =>
      obtain ⟨k, rfl, hk, HR⟩ := hrel
      by_cases hlt : k < 2
      · have hk1 : (k : Int) < 2 := by omega
        obtain ⟨F, hF⟩ : ∃ F, [F1, F2][k]? = some F := ⟨_, List.getElem?_eq_getElem hlt⟩
        obtain ⟨A', c', e', _, _, hrd⟩ := HL.out
        injection e' with e1 _ e2
        subst e1 e2
        obtain ⟨ad, hade, hblk, hcells⟩ := hrd (by simp)
        injection hade with hade
        subst hade
        obtain ⟨u, hu, hfu⟩ := hcells k F hF
        have a0 := (HR.out.cell (p := (⟨w10.heap.size, 0, none⟩ : Addr).add k) (by rw [block_of_add]; exact hblk)).trans hu
        rw [addr_zero] at a0
        have HFU := Lib.hid (hfu.ext HR.out)
        have HCM := Lib.hid (HMEM.out F (List.mem_of_getElem? hF))
        obtain ⟨Au, cu, rfl, _⟩ := fml_slice hfu
        have hwl : w10.heap.size < wr.heap.size := Nat.lt_of_lt_of_le hblk HR.out.size
        clear hF hrd hcells hu hfu hblk
        obtain ⟨wq, hwq⟩ : ∃ v, v = wr := ⟨_, rfl⟩
        subst hwq
        go_wp2_with fail
        refine (rNot_any _ F _ HFU.out).mono ?_
        rintro e w11 ⟨u11, rfl, hm⟩
        obtain ⟨A11, c11, rfl, _⟩ := fml_slice hm.fml
        have HN11 := Lib.hid hm.fml
        have HX11 := Lib.hid (HR.out.trans hm.ext)
        have HF11 := Lib.hid (HFU.out.ext hm.ext)
        clear hm
        go_wp2_with fail
        refine (rbase_any _ _ _ HN11.out).mono ?_
        rintro e w12 ⟨u12, rfl, hx, hr⟩
        obtain ⟨A12, c12, rfl⟩ := frow_slice hr
        have HX12 := Lib.hid (HX11.out.trans hx)
        have HF12 := Lib.hid (HF11.out.ext hx)
        obtain ⟨er, her⟩ : ∃ e, e = (baseN (notN F)).2 := ⟨_, rfl⟩
        obtain ⟨bl, hbl⟩ : ∃ e, e = (baseN (notN F)).1.length := ⟨_, rfl⟩
        rw [← her, ← hbl]
        have HER := Lib.hid her
        clear hx hr her hbl
        by_cases hz : er = 0
        · subst hz
          have HEG := Lib.hid (show engErr lg (notN F) = 0 by rw [engErr_in _ HLG.out]; exact HER.out.symm)
          by_cases h7 : (bl : Int) ≤ 7
          · have HLF := Lib.hid (common_law (lg := lg) HGR.out.1 HGR.out.2 HCM.out HEG.out)
            go_wp2_with fail
            refine (valid_any lg _ F _ HF12.out HEG.out HLF.out).mono ?_
            rintro e w13 ⟨rfl, hx⟩
            have HX13 := Lib.hid (HX12.out.trans hx)
            clear hx
            go_wp2_with fail
            go_roundw
            case rel => exact ⟨k + 1, by go_num, by omega, HX13⟩
            case measure => simp [intOf]; omega
          · have h7' : (7 : Int) < (bl : Int) := by omega
            go_wp2_with fail
            go_roundw
            case rel => exact ⟨k + 1, by go_num, by omega, HX12⟩
            case measure => simp [intOf]; omega
        · have hzb : (er != 0) = true := by simpa using hz
          go_wp2_with fail
          go_roundw
          case rel => exact ⟨k + 1, by go_num, by omega, HX12⟩
          case measure => simp [intOf]; omega
      · obtain rfl : k = 2 := by omega
        go_wp2_with fail
        refine (awake_any _).mono ?_
        rintro e w13 ⟨rfl, hx⟩
        have HX13 := Lib.hid (HXL.out.trans (HR.out.trans hx))
        clear hx
        go_wp2_with fail
        go_ret
        exact ⟨rfl, HX13.out⟩
  · go_enter Try.func5, Try.ntmps5
    go_wp2_with fail
    refine (few_any _ x 2 _ H.out).mono ?_
    rintro e w1 ⟨rfl, hx⟩
    rw [HF.out]
    have HX := Lib.hid hx
    clear hx
    go_wp2_with fail
    refine (refFew_any _ x 6 _ (H.out.ext HX.out)).mono ?_
    rintro e w1' ⟨rfl, rfl⟩
    rw [decide_eq_false (by omega)]
    go_wp2_with fail
    refine (awake_any _).mono ?_
    rintro e w5 ⟨rfl, hx⟩
    have HX5 := Lib.hid (HX.out.trans hx)
    clear hx
    go_wp2_with fail
    go_ret
    exact ⟨rfl, HX5.out⟩
end Go.Proofs.Ytjonmmgpnfgomaa

/- TypesCommon: in every logic common knowledge is equivalent to everybody's knowledge of what it says and of itself, and it implies what everybody knows: for every logic, group and formula. -/

namespace Go.Proofs.Ytjonmmgpnfgomaa
open Go.ChangeShapes Go.WideShapes Go.ChangeAt Go.RowKit Go.Joins

theorem laidOutP : laidOutB Try.prog = true := by kernel_rfl
theorem own : ownKnob Try.prog.godebug = none := by kernel_rfl
set_option maxRecDepth 100000 in
theorem fml_of_arg {H : Type} {enc : TypeId × Value → H} {w : World} {spare : Nat → Bool} {held : Bool} {v : Value} {d : DataW H} {p : List MemPlace} (h : DataW.Trod enc Try.prog w 0 spare held 22 v d p) (hv : ∃ a len cap, v = .slice a len cap) : ∃ l, Fml w v l := by
  obtain ⟨a, len, cap, rfl⟩ := hv
  obtain ⟨fuel, hf⟩ := h
  exact fml_of_trod hf
set_option maxRecDepth 100000 in
theorem typesCommon_lifted (os : Os) (started : os.Started) (H : Type) (enc : TypeId × Value → H) :
    ReturnsInHanded {} Try.checked os 5 .any (Rows.typesCommonSpec.pre6 enc Try.prog Try.f5 Rows.typesCommonRow.domain false)
      (Rows.typesCommonSpec.post enc Try.prog Try.f5 false true false false) := by
  refine returnsInHanded_of_change (C := Try.checked) own started (by kernel_rfl) Try.func5
    (ChangeSpec.witness6 (enc := enc) (C := Try.checked) false ⟨#[], #[.int .i64 0, .int .i64 0, .slice none 0 0], []⟩ 8 (by kernel_rfl) (by kernel_rfl) (by kernel_rfl) (by kernel_rfl)) ?_
  intro W base args ds gs before hval0 hW hcnd _
  have hval : ∀ (j : Nat) t v, Try.f5.params[j]? = some t → args[j]? = some v → Value.okWide Try.prog W .any base t v := hval0
  have hW' := hW
  obtain ⟨p, q, hA0, hV, rfl, hfz, hnd⟩ := hW
  have hA : DataW.TrodAll enc Try.prog W 0 (fun _ => true) true Try.f5.params.toList args.toList ds p := hA0
  rw [Try.params5] at hA hval
  obtain ⟨v0, vs0, d0, ds0, p0, q0, hargs, rfl, rfl, h0, r0⟩ := trodAll_cons hA
  obtain ⟨v1, vs1, d1, ds1, p1, q1, rfl, rfl, rfl, h1, r1⟩ := trodAll_cons r0
  obtain ⟨v2, vs2, d2, ds2, p2, q2, rfl, rfl, rfl, h2, r2⟩ := trodAll_cons r1
  obtain ⟨rfl, rfl, rfl⟩ := trodAll_nil r2
  obtain rfl : args = #[v0, v1, v2] := by cases args; simp_all
  obtain ⟨rfl, rfl⟩ := trodVars_none hV
  obtain ⟨z0, rfl, rfl, rfl, wz0⟩ := open_int Try.underlying3 (hval 0 3 v0 rfl rfl) h0
  obtain ⟨z1, rfl, rfl, rfl, wz1⟩ := open_int Try.underlying3 (hval 1 3 v1 rfl rfl) h1
  obtain ⟨f2, hf2⟩ := fml_of_arg h2 (okWide_slice Try.underlying22 (hval 2 22 v2 rfl rfl))
  simp only [List.append_nil, List.nil_append] at hW'
  clear hA0 hval0
  refine (typesCommon_any z0 z1 (i64_of_wf wz1) _ f2 _ hf2).mono ?_
  rintro e W' ⟨rfl, hx⟩
  have hlt : ∀ x ∈ p2, x.block < W.heap.size := fun x hx' => hW'.lt x hx'
  refine ⟨_, rfl, post_of_below (pa := p2) (pv := []) hW' (fun _ _ _ => trodAll_mk1 (shut_bool Try.underlying4 _)) (fun sp hsp => ?_) (fun _ _ => rfl) (by simp) hx (ok_one (by kernel_rfl) rfl (okWide_bool_mk Try.underlying4 _))⟩
  have ht := (trodAll_cons_mk (shut_int Try.underlying3 wz0) (trodAll_cons_mk (shut_int Try.underlying3 wz1) (trodAll_cons_mk (WideElems.Trod_stays laidOutP (by kernel_rfl) (of_decide_eq_true (by kernel_rfl)) h2 (fun x hx' => hx.same (hlt x hx')) (fun x hx' => hsp x hx')) trodAll_mk0)))
  simp only [List.append_nil, List.nil_append] at ht
  exact ht
theorem typesCommon_said : Rows.TypesCommonSaid :=
  OpenClaim.holds_of_wide 5 Try.f5 rfl rfl rfl rfl rfl rfl rfl ⟨rfl, rfl, rfl, rfl, rfl⟩ rfl rfl rfl rfl rfl (by kernel_rfl) Try.func5 (by kernel_rfl)
    (of_decide_eq_true (by kernel_rfl)) (by unfold Func.isWrapper; first | (rw [if_pos (by decide +kernel)]; kernel_rfl) | (rw [if_neg (by decide +kernel)]; exact ⟨rfl, rfl⟩))
    (fun os started H enc _ => typesCommon_lifted os started H enc)
end Go.Proofs.Ytjonmmgpnfgomaa
