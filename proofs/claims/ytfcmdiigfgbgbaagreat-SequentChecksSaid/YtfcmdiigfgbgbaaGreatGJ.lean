/- sequent's Check and Refuted. -/
import Derived.Test.YtfcmdiigfgbgbaaGreatGI
import Derived.Test.YtfcmdiigfgbgbaaGreatGG
import Derived.Test.YtfcmdiigfgbgbaaGreatGF1

namespace Go.Proofs.YtfcmdiigfgbgbaaGreat
open Go.RowKit

set_option maxRecDepth 100000 in
set_option maxHeartbeats 4000000 in
theorem checkS_any {w : World} {lg : Int} {vb vs : Value} {base : List Nd} {steps : List Stp} (hb : Fml w vb base) (hs : Sps w vs steps) :
    Calls Tryz.prog 7 #[.agg #[.int .i64 lg, vb, vs]] w fun e w' => e = .returned (.int .i64 (checkS lg base steps)) ∧ Ext w w' := by
  have H := Lib.hid hb
  have HS := Lib.hid hs
  obtain ⟨Ab, cb, rfl, _⟩ := fml_slice hb
  obtain ⟨As, cs, rfl, hs1, hs2, hsr⟩ := hs
  unfold maxLen at hs2
  have HSR := Lib.hid hsr
  clear hb hsr
  obtain ⟨z0, z1, z2, _, zlt⟩ := cells3 (heap_alloc_new w (.cells #[.int .i64 lg, .slice Ab base.length cb, .slice As steps.length cs] 25))
  have Z := Lib.hid (And.intro z0 (And.intro z1 z2))
  have ZLT := Lib.hid zlt
  have X0 := Lib.hid ((Ext.refl w).alloc (.cells #[.int .i64 lg, .slice Ab base.length cb, .slice As steps.length cs] 25))
  clear z0 z1 z2 zlt
  by_cases hf : formS lg base steps = 0
  · have HF := Lib.hid hf
    have hfb : (formS lg base steps != 0) = false := by rw [hf]; rfl
    by_cases hg : 0 ≤ brokenS lg base steps
    · have HE := Lib.hid (show checkS lg base steps = 13 by unfold checkS; rw [hfb, decide_eq_true hg]; rfl)
      clear hf hfb
      go_enter Tryz.func7, Tryz.ntmps7
      go_wp2_with fail
      refine (form_any (lg := lg) (H.out.ext X0.out) (HS.out.ext X0.out)).mono ?_
      rintro e w1 ⟨rfl, hx⟩
      rw [HF.out]
      have X1 := Lib.hid (X0.out.trans hx)
      have y0 := (hx.cell (p := ⟨w.heap.size, 0, none⟩) ZLT.out).trans Z.out.1
      have y1 := (hx.cell (p := ⟨w.heap.size, 1, none⟩) ZLT.out).trans Z.out.2.1
      have y2 := (hx.cell (p := ⟨w.heap.size, 2, none⟩) ZLT.out).trans Z.out.2.2
      clear hx
      go_wp2_with fail
      refine (broken_any (lg := lg) (H.out.ext X1.out) (HS.out.ext X1.out)).mono ?_
      rintro e w2 ⟨rfl, hx⟩
      have X2 := Lib.hid (X1.out.trans hx)
      clear hx
      go_wp2_with fail
      go_ret
      exact ⟨by rw [HE.out] <;> rfl, X2.out⟩
    · have HE := Lib.hid (show checkS lg base steps = 0 by unfold checkS; rw [hfb, decide_eq_false hg]; rfl)
      have hgd : decide (0 ≤ brokenS lg base steps) = false := decide_eq_false hg
      clear hf hfb
      go_enter Tryz.func7, Tryz.ntmps7
      go_wp2_with fail
      refine (form_any (lg := lg) (H.out.ext X0.out) (HS.out.ext X0.out)).mono ?_
      rintro e w1 ⟨rfl, hx⟩
      rw [HF.out]
      have X1 := Lib.hid (X0.out.trans hx)
      have y0 := (hx.cell (p := ⟨w.heap.size, 0, none⟩) ZLT.out).trans Z.out.1
      have y1 := (hx.cell (p := ⟨w.heap.size, 1, none⟩) ZLT.out).trans Z.out.2.1
      have y2 := (hx.cell (p := ⟨w.heap.size, 2, none⟩) ZLT.out).trans Z.out.2.2
      clear hx
      go_wp2_with fail
      refine (broken_any (lg := lg) (H.out.ext X1.out) (HS.out.ext X1.out)).mono ?_
      rintro e w2 ⟨rfl, hx⟩
      have X2 := Lib.hid (X1.out.trans hx)
      clear hx
      go_wp2_with fail
      go_ret
      exact ⟨by rw [HE.out] <;> rfl, X2.out⟩
  · have hf1 : (formS lg base steps != 0) = true := by simpa using hf
    have hf2 : (formS lg base steps == 0) = false := by simpa using hf
    have HE := Lib.hid (show checkS lg base steps = formS lg base steps by unfold checkS; rw [hf1]; rfl)
    clear hf
    go_enter Tryz.func7, Tryz.ntmps7
    go_wp2_with fail
    refine (form_any (lg := lg) (H.out.ext X0.out) (HS.out.ext X0.out)).mono ?_
    rintro e w1 ⟨rfl, hx⟩
    have X1 := Lib.hid (X0.out.trans hx)
    clear hx
    go_wp2_with fail
    go_ret
    exact ⟨by rw [HE.out] <;> rfl, X1.out⟩
/-- The formulas of a row's world, in a row of the call's own that lies behind them. -/
structure LRow (w3 w : World) (vo : Value) (out : List (List Nd)) : Prop where
  ext : Ext w3 w
  row : ∃ us, w.ownsRow w3.heap.size 22 1 vo out.length us ∧ ∀ (k : Nat) (s : List Nd), out[k]? = some s → ∃ u, us[k]? = some u ∧ Fml w3 u s
theorem LRow.fmls {w0 w : World} {vo : Value} {out : List (List Nd)} (h : LRow w0 w vo out) : Fmls w vo out := by
  obtain ⟨ss, hs, hv⟩ := h.row
  by_cases h0 : 0 < out.length
  · obtain ⟨g, cap, rfl, hg, h1, h2, hc⟩ := row1_cellsF hs h0
    refine ⟨_, cap, rfl, h1, h2, fun _ => ⟨_, rfl, hg, fun k f hk => ?_⟩⟩
    obtain ⟨u, a, b⟩ := hv k f hk
    exact ⟨u, by rw [addr_zero]; exact hc k u a, b.ext h.ext⟩
  · have e : out = [] := List.length_eq_zero_iff.1 (by omega)
    subst e
    rcases hs.2 with ⟨e, _⟩ | ⟨g, cap, cur, e, _, _, hn, hm, _⟩
    · subst e
      exact ⟨none, 0, rfl, Nat.le_refl _, by unfold maxLen; omega, fun h => absurd rfl h⟩
    · subst e
      exact ⟨_, _, rfl, Nat.zero_le _, hm, fun h => absurd rfl h⟩
theorem LRow.push {w3 W w7 : World} {vo v7 x : Value} {out : List (List Nd)} {s : List Nd} {us : List Value} (h : LRow w3 W vo out) (hs : W.ownsRow w3.heap.size 22 1 vo out.length us) (hu : ∀ (k : Nat) (s : List Nd), out[k]? = some s → ∃ u, us[k]? = some u ∧ Fml w3 u s)
    (hown : w7.ownsRow w3.heap.size 22 1 v7 (out.length + 1) (us ++ [x])) (hg : W.grownBy w7 vo.ownBlock) (hx : Fml w3 x s) : LRow w3 w7 v7 (out ++ [s]) := by
  have hlen : us.length = out.length := by simpa using hs.1
  refine ⟨h.ext.grown hg (fun g hg' => (hs.lt g hg').1), us ++ [x], by rw [List.length_append]; exact hown, fun k s' hk => ?_⟩
  by_cases hk' : k < out.length
  · rw [List.getElem?_append_left hk'] at hk
    obtain ⟨u, a, b⟩ := hu k s' hk
    exact ⟨u, by rw [List.getElem?_append_left (by omega)]; exact a, b⟩
  · rw [List.getElem?_append_right (by omega)] at hk
    have hk0 : k = out.length := by
      by_cases e : k - out.length = 0
      · omega
      · rw [List.getElem?_eq_none (by simp; omega)] at hk; cases hk
    subst hk0
    simp at hk
    subst hk
    exact ⟨x, by rw [List.getElem?_append_right (by omega), hlen]; simp, hx⟩
def pickN (base : List Nd) (s k : Nat) : List (List Nd) := ((List.range k).filter fun (i : Nat) => inS s i).map fun (i : Nat) => subN base i
theorem pick_no {base : List Nd} {s k : Nat} (h : inS s k = false) : pickN base s (k + 1) = pickN base s k := by
  unfold pickN
  rw [List.range_succ, List.filter_append]
  simp [h]
theorem pick_yes {base : List Nd} {s k : Nat} (h : inS s k = true) : pickN base s (k + 1) = pickN base s k ++ [subN base k] := by
  unfold pickN
  rw [List.range_succ, List.filter_append]
  simp [h]
theorem pick_len (base : List Nd) (s k : Nat) : (pickN base s k).length ≤ k := by
  unfold pickN
  rw [List.length_map]
  exact Nat.le_trans (List.length_filter_le _ _) (by simp)
set_option maxRecDepth 100000 in
set_option maxHeartbeats 8000000 in
theorem refuted_any {w : World} {lg : Int} {vb vs : Value} {base : List Nd} {steps : List Stp} (hb : Fml w vb base) (hs : Sps w vs steps) :
    Calls Tryz.prog 19 #[.agg #[.int .i64 lg, vb, vs]] w fun e w' => ∃ u, e = .returned (.tuple #[u, .int .i64 (refutedS lg base steps).2]) ∧ Ext w w' ∧ Fmls w' u (refutedS lg base steps).1 := by
  have H := Lib.hid hb
  have HS := Lib.hid hs
  obtain ⟨Ab, cb, rfl, _⟩ := fml_slice hb
  obtain ⟨As, cs, rfl, hs1, hs2, hsr⟩ := hs
  unfold maxLen at hs2
  have HSR := Lib.hid hsr
  clear hb hsr
  obtain ⟨z0, z1, z2, _, zlt⟩ := cells3 (heap_alloc_new w (.cells #[.int .i64 lg, .slice Ab base.length cb, .slice As steps.length cs] 25))
  have Z := Lib.hid (And.intro z0 (And.intro z1 z2))
  have ZLT := Lib.hid zlt
  have X0 := Lib.hid ((Ext.refl w).alloc (.cells #[.int .i64 lg, .slice Ab base.length cb, .slice As steps.length cs] 25))
  clear z0 z1 z2 zlt
  by_cases hf : checkS lg base steps = 0
  · have HF := Lib.hid hf
    obtain ⟨hf1, _⟩ := checkS_ok.1 hf
    obtain ⟨hk1, hb1, hl1, hl2⟩ := formS_ok.1 hf1
    have hlen := (baseErr_ok hb1).2.1
    obtain ⟨last, hla⟩ : ∃ l, steps[steps.length - 1]? = some l := ⟨_, List.getElem?_eq_getElem (by omega)⟩
    have HR := Lib.hid (show refutedS lg base steps = (pickN base last.set base.length, 0) by
      unfold refutedS
      rw [hf, List.getLastD_eq_getLast?, List.getLast?_eq_getElem?, hla]
      rfl)
    obtain ⟨iI, hiI, hzI0, hzI1, hzI2⟩ := info_parts tInfoF2
    obtain ⟨ad, rfl, hblk, hcell⟩ := HSR.out (by intro e; rw [e] at hla; simp at hla)
    obtain ⟨_, p0, _, _, _, _, _, hs64⟩ := hcell _ _ hla
    have hw1 : IntKind.i64.wrap ((steps.length : Int) - 1) = (steps.length : Int) - 1 := by rw [IntKind.wrap_i64]; omega
    have hn1 : ((steps.length : Int) - 1).toNat = steps.length - 1 := by omega
    have hn0 : (0 : Int) ≤ (steps.length : Int) - 1 := by omega
    have hn2 : (steps.length : Int) - 1 < (steps.length : Int) := by omega
    clear hf hf1 hk1 hb1 hla hcell hl1
    go_enter Tryz.func19, Tryz.ntmps19
    go_wp2_with fail
    refine (checkS_any (lg := lg) (H.out.ext X0.out) (HS.out.ext X0.out)).mono ?_
    rintro e w1 ⟨rfl, hx⟩
    rw [HF.out]
    have X1 := Lib.hid (X0.out.trans hx)
    have YLT := Lib.hid (Nat.lt_of_lt_of_le ZLT.out hx.size)
    have y1 := (hx.cell (p := ⟨w.heap.size, 1, none⟩) ZLT.out).trans Z.out.2.1
    have Y2 := Lib.hid ((hx.cell (p := ⟨w.heap.size, 2, none⟩) ZLT.out).trans Z.out.2.2)
    clear hx
    go_wp2_with fail
    refine (formulas_any _ base _ (H.out.ext X1.out) (by omega)).mono ?_
    rintro e w3 ⟨u4, rfl, hfr⟩
    have X3 := Lib.hid (X1.out.trans hfr.ext)
    have Y23 := Lib.hid ((hfr.ext.cell (p := ⟨w.heap.size, 2, none⟩) YLT.out).trans Y2.out)
    have YLT3 := Lib.hid (Nat.lt_of_lt_of_le YLT.out hfr.ext.size)
    have PBL := Lib.hid (show (ad.add ((steps.length - 1) * 5)).block < w.heap.size by rw [block_of_add]; exact hblk)
    have P0 := Lib.hid p0
    obtain ⟨A4, c4, hu4, hc4, hm4, hr4⟩ := hfr.fmls
    rw [formulas_len] at hu4
    subst hu4
    have HR4 := Lib.hid hr4
    clear hfr y1 hc4 hm4 hr4 p0
    go_wp2_with fail
    go_loopw [5, 17] (fun vo vi wr => ∃ k : Nat, vi = .int .i64 (k : Int) ∧ k ≤ base.length ∧ Hid (∃ out, out = pickN base last.set k ∧ LRow w3 wr vo out)) (fun _ vi _ => base.length - (intOf vi).toNat)
    case atStart => exact ⟨0, rfl, Nat.zero_le _, Lib.hid ⟨[], rfl, Ext.refl _, [], World.ownsRow_nil _ _ _ _, fun k s h => by simp at h⟩⟩
    case round =>
      obtain ⟨k, rfl, hk, HREL⟩ := hrel
      obtain ⟨out, ho, hlr⟩ := HREL.out
      obtain ⟨us, hrow, hus⟩ := hlr.row
      obtain ⟨Ao, co, rfl⟩ := slice_of_row hrow
      have HO := Lib.hid ho
      have HLR := Lib.hid hlr
      have HROW := Lib.hid hrow
      have HUS := Lib.hid hus
      have hol : out.length ≤ 1000 := by rw [ho]; have := pick_len base last.set k; omega
      clear HREL ho hlr hrow hus
      by_cases hlt2 : k < base.length
      · have hk1 : (k : Int) < (base.length : Int) := by omega
        have hk0 : (0 : Int) ≤ (k : Int) := by omega
        have hc3 : out.length + 1 ≤ maxLen := by unfold maxLen; omega
        have hc4 : (out.length + 1) * 24 ≤ 140737488355328 := by omega
        obtain ⟨ad4, hA4, hblk4, hcell4⟩ := HR4.out (by intro e; have := formulas_len base; rw [e] at this; simp at this; omega)
        subst hA4
        obtain ⟨uk, huk, hfk⟩ := hcell4 k _ (formulas_get hlt2)
        have HFK := Lib.hid hfk
        obtain ⟨Ak, ck, rfl, _⟩ := fml_slice hfk
        have a0 := (HLR.out.ext.cell (p := ad4.add k) (by rw [block_of_add]; exact hblk4)).trans huk
        have y2 := (HLR.out.ext.cell (p := ⟨w.heap.size, 2, none⟩) YLT3.out).trans Y23.out
        have p0 := ((X3.out.trans HLR.out.ext).cell (p := ad.add ((steps.length - 1) * 5)) PBL.out).trans P0.out
        clear huk hfk hcell4
        cases hin : inS last.set (k : Int)
        · have HP := Lib.hid (pick_no (base := base) hin)
          have HIN := Lib.hid hin
          clear hin
          go_wp2_with fail
          refine (in_eq last.set hs64 (k : Int) _).mono ?_
          rintro e w5 ⟨rfl, rfl⟩
          rw [HIN.out]
          go_wp2_with fail
          go_roundw
          case rel => exact ⟨k + 1, by go_num, by omega, Lib.hid ⟨_, by rw [HP.out]; exact HO.out, HLR.out⟩⟩
          case measure => simp [intOf]; omega
        · have HP := Lib.hid (pick_yes (base := base) hin)
          have HIN := Lib.hid hin
          clear hin
          go_wp2_with fail
          refine (in_eq last.set hs64 (k : Int) _).mono ?_
          rintro e w5 ⟨rfl, rfl⟩
          rw [HIN.out]
          go_wp2_with (at_builtin; refine wpList_append_own_at _ rfl _ _ 41 rfl w3.heap.size 22 iI (.slice none 0 0) 1 24 Tryz.underlying41 hiI hzI0 hzI1 hzI2 rfl (by decide) _ out.length us rfl (row_ext HROW.out ((Ext.refl _).alloc _)) ⟨_, 0, none⟩ 1 1 [.slice Ak (subN base (k : Int)).length ck] rfl rfl (row_new_at _ _ _ (by simp)) (fun u hu => by rw [List.mem_singleton.1 hu]; rfl) hc3 hc4 (Nat.le_trans HLR.out.ext.size ((Ext.refl _).alloc _).size) ?_)
          intro v7 w7 hown7 hgrow7 _ hat7
          have HPS := Lib.hid (LRow.push (s := subN base (k : Int)) ⟨HLR.out.ext.alloc _, us, row_ext HROW.out ((Ext.refl _).alloc _), HUS.out⟩ (row_ext HROW.out ((Ext.refl _).alloc _)) HUS.out hown7 hgrow7 HFK.out)
          obtain ⟨A7, c7, rfl⟩ := slice_of_row hown7
          clear hown7 hgrow7 hat7
          go_wp2_with fail
          go_roundw
          case rel => exact ⟨k + 1, by go_num, by omega, Lib.hid ⟨_, by rw [HP.out, HO.out], HPS.out⟩⟩
          case measure => simp [intOf]; omega
      · obtain rfl : base.length = k := by omega
        go_wp2_with fail
        refine bodyPost_ret (v := .tuple #[.slice Ao out.length co, .int .i64 0]) (by simp [results, Tryz.results19, go_sem]) rfl ?_
        exact ⟨_, by rw [HR.out], X3.out.trans HLR.out.ext, by rw [HR.out]; show Fmls _ _ (pickN base last.set base.length); rw [← HO.out]; exact HLR.out.fmls⟩
  · have hf1 : (checkS lg base steps != 0) = true := by simpa using hf
    have hf2 : (checkS lg base steps == 0) = false := by simpa using hf
    have HR := Lib.hid (show refutedS lg base steps = ([], checkS lg base steps) by unfold refutedS; rw [hf1]; rfl)
    clear hf
    go_enter Tryz.func19, Tryz.ntmps19
    go_wp2_with fail
    refine (checkS_any (lg := lg) (H.out.ext X0.out) (HS.out.ext X0.out)).mono ?_
    rintro e w1 ⟨rfl, hx⟩
    have X1 := Lib.hid (X0.out.trans hx)
    clear hx
    go_wp2_with fail
    refine bodyPost_ret (v := .tuple #[.slice none 0 0, .int .i64 (checkS lg base steps)]) (by simp [results, Tryz.results19, go_sem]) rfl ?_
    exact ⟨_, by rw [HR.out], X1.out, by rw [HR.out]; exact ⟨none, 0, rfl, Nat.le_refl _, by unfold maxLen; omega, fun h => absurd rfl h⟩⟩
end Go.Proofs.YtfcmdiigfgbgbaaGreat

/- The law's Few; sequent's Proves where the refutation is accepted. -/

namespace Go.Proofs.YtfcmdiigfgbgbaaGreat
open Go.RowKit

def fewS (base : List Nd) (steps : List Stp) : Bool := bif decide (70 < base.length) || decide (120 < steps.length) then false else steps.all fun x => !decide (5 < x.from_.length)
theorem fewS_yes {base : List Nd} {steps : List Stp} (h : fewS base steps = true) : base.length ≤ 70 ∧ steps.length ≤ 120 ∧ ∀ x ∈ steps, x.from_.length ≤ 5 := by
  unfold fewS at h
  cases hc : (decide (70 < base.length) || decide (120 < steps.length))
  · rw [hc] at h
    simp only [cond_false, List.all_eq_true, Bool.not_eq_true', decide_eq_false_iff_not] at h
    simp only [Bool.or_eq_false_iff, decide_eq_false_iff_not] at hc
    exact ⟨by omega, by omega, fun x hx => by have := h x hx; omega⟩
  · rw [hc] at h
    cases h
set_option maxRecDepth 100000 in
set_option maxHeartbeats 8000000 in
theorem fewS_any {w : World} {lg : Int} {vb vs : Value} {base : List Nd} {steps : List Stp} (hb : Fml w vb base) (hs : Sps w vs steps) :
    Calls Tryz.prog 6 #[.agg #[.int .i64 lg, vb, vs]] w fun e w' => e = .returned (.bool (fewS base steps)) ∧ Ext w w' := by
  obtain ⟨Ab, cb, rfl, _⟩ := fml_slice hb
  obtain ⟨As, cs, rfl, hs1, hs2, hsr⟩ := hs
  unfold maxLen at hs2
  have HSR := Lib.hid hsr
  clear hb hsr
  obtain ⟨z0, z1, z2, _, zlt⟩ := cells3 (heap_alloc_new w (.cells #[.int .i64 lg, .slice Ab base.length cb, .slice As steps.length cs] 25))
  have Z2 := Lib.hid z2
  have ZLT := Lib.hid zlt
  have X0 := Lib.hid ((Ext.refl w).alloc (.cells #[.int .i64 lg, .slice Ab base.length cb, .slice As steps.length cs] 25))
  clear z0 z2
  by_cases h7 : 70 < base.length
  · have HE := Lib.hid (show fewS base steps = false by unfold fewS; rw [decide_eq_true h7]; rfl)
    have h7i : (70 : Int) < (base.length : Int) := by omega
    go_enter Tryz.func6, Tryz.ntmps6
    go_wp2_with fail
    go_ret
    exact ⟨by rw [HE.out] <;> rfl, X0.out⟩
  · have h7i : ¬ (70 : Int) < (base.length : Int) := by omega
    by_cases h1 : 120 < steps.length
    · have HE := Lib.hid (show fewS base steps = false by unfold fewS; rw [decide_eq_false h7, decide_eq_true h1]; rfl)
      have h1i : (120 : Int) < (steps.length : Int) := by omega
      go_enter Tryz.func6, Tryz.ntmps6
      go_wp2_with fail
      go_ret
      exact ⟨by rw [HE.out] <;> rfl, X0.out⟩
    · have h1i : ¬ (120 : Int) < (steps.length : Int) := by omega
      have HE := Lib.hid (show fewS base steps = steps.all fun x => !decide (5 < x.from_.length) by unfold fewS; rw [decide_eq_false h7, decide_eq_false h1]; rfl)
      go_enter Tryz.func6, Tryz.ntmps6
      go_wp2_with fail
      go_loopw [3] (fun vi wr => ∃ k : Nat, vi = .int .i64 (k : Int) ∧ k ≤ steps.length ∧ Hid (∀ x ∈ steps.take k, ¬ 5 < x.from_.length) ∧ Hid (Ext (w.alloc (.cells #[.int .i64 lg, .slice Ab base.length cb, .slice As steps.length cs] 25)) wr)) (fun vi _ => steps.length - (intOf vi).toNat)
      case atStart => exact ⟨0, rfl, Nat.zero_le _, Lib.hid (by simp), Lib.hid (Ext.refl _)⟩
      case round =>
        obtain ⟨k, rfl, hk, HN, HX⟩ := hrel
        have y2 := (HX.out.cell (p := ⟨w.heap.size, 2, none⟩) ZLT.out).trans Z2.out
        by_cases hlt2 : k < steps.length
        · obtain ⟨x, hx⟩ : ∃ x, steps[k]? = some x := ⟨_, List.getElem?_eq_getElem hlt2⟩
          obtain ⟨ad, rfl, hblk, hcell⟩ := HSR.out (by intro e; rw [e] at hx; simp at hx)
          obtain ⟨ur, _, _, _, _, q4, ⟨Af, cf, rfl, _⟩, _⟩ := hcell k x hx
          have q4 := ((X0.out.trans HX.out).cell (p := ⟨(ad.add (k * 5)).block, (ad.add (k * 5)).off + 4, none⟩) (by show (ad.add _).block < _; rw [block_of_add]; exact hblk)).trans q4
          have hk1 : (k : Int) < (steps.length : Int) := by omega
          have hk0 : (0 : Int) ≤ (k : Int) := by omega
          have HXX := Lib.hid hx
          clear hx hcell
          by_cases h5 : 5 < x.from_.length
          · have h5i : (5 : Int) < (x.from_.length : Int) := by omega
            have HE2 := Lib.hid (show fewS base steps = false by
              rw [HE.out, List.all_eq_false]
              exact ⟨x, List.mem_of_getElem? HXX.out, by simp [h5]⟩)
            go_wp2_with fail
            go_ret
            exact ⟨by rw [HE2.out] <;> rfl, X0.out.trans HX.out⟩
          · have h5i : ¬ (5 : Int) < (x.from_.length : Int) := by omega
            have HN2 : Hid (∀ x ∈ steps.take (k + 1), ¬ 5 < x.from_.length) := Lib.hid (by
              rw [take_succ_eq HXX.out]
              intro t ht
              rcases List.mem_append.1 ht with ht | ht
              · exact HN.out t ht
              · rw [List.mem_singleton.1 ht]; exact h5)
            go_wp2_with fail
            go_roundw
            case rel => exact ⟨k + 1, by go_num, by omega, HN2, HX⟩
            case measure => simp [intOf]; omega
        · obtain rfl : steps.length = k := by omega
          have HE2 := Lib.hid (show fewS base steps = true by
            rw [HE.out, List.all_eq_true]
            intro x hx
            have := HN.out x (by rw [List.take_of_length_le (Nat.le_refl _)]; exact hx)
            simp [this])
          go_wp2_with fail
          go_ret
          exact ⟨by rw [HE2.out] <;> rfl, X0.out.trans HX.out⟩
set_option maxRecDepth 100000 in
set_option maxHeartbeats 8000000 in
theorem proves_any {w : World} {lg : Int} {vb vs vf : Value} {base : List Nd} {steps : List Stp} {f g : List Nd} (hb : Fml w vb base) (hs : Sps w vs steps) (hf : Fml w vf f) (h0 : (refutedS lg base steps).2 = 0) (hg : (refutedS lg base steps).1 = [g])
    (hc : check f = 0) (hfr : (bits .andNot .i64 (fragsN f : Int) 1 == 0) = true) (hF : check (notN f) = 0 → Few10 (compactN (notN f))) :
    Calls Tryz.prog 20 #[.agg #[.int .i64 lg, vb, vs], vf] w fun e w' => e = .returned (.int .i64 (bif decide (g = oppN f) then 0 else 13)) ∧ Ext w w' := by
  have H := Lib.hid hb
  have HS := Lib.hid hs
  have HF := Lib.hid hf
  obtain ⟨Ab, cb, rfl, _⟩ := fml_slice hb
  obtain ⟨As, cs, rfl, _⟩ := hs
  obtain ⟨Af, cf, rfl, _⟩ := fml_slice hf
  have HC := Lib.hid hc
  have H0 := Lib.hid h0
  have HG := Lib.hid hg
  have HFF := Lib.hid hF
  have X0 := Lib.hid ((Ext.refl w).alloc (.cells #[.int .i64 lg, .slice Ab base.length cb, .slice As steps.length cs] 25))
  have hfr2 : (bits .andNot .i64 (fragsN f : Int) 1 != 0) = false := by rw [bne, hfr]; rfl
  clear hb hf h0 hg hc hF
  go_enter Tryz.func20, Tryz.ntmps20
  go_wp2_with fail
  refine (refuted_any (lg := lg) (H.out.ext X0.out) (HS.out.ext X0.out)).mono ?_
  rintro e w1 ⟨u, rfl, hx, hfm⟩
  rw [H0.out]
  have X1 := Lib.hid (X0.out.trans hx)
  rw [HG.out] at hfm
  obtain ⟨A1, c1, rfl, hc1, hm1, hr1⟩ := hfm
  obtain ⟨ad, rfl, hblk, hcell⟩ := hr1 (by simp)
  obtain ⟨uk, huk, hfk⟩ := hcell 0 g rfl
  have HK := Lib.hid hfk
  obtain ⟨Ak, ck, rfl, _⟩ := fml_slice hfk
  have e0 : ad.add 0 = ad := rfl
  rw [e0] at huk
  have HUK := Lib.hid huk
  unfold maxLen at hm1
  simp only [List.length_cons, List.length_nil, Nat.zero_add] at hc1 ⊢
  clear hx hfk hcell hr1 huk
  go_wp2_with fail
  refine (check_any _ f _ (HF.out.ext X1.out).1).mono ?_
  rintro e w2 ⟨rfl, hx⟩
  rw [HC.out]
  have X2 := Lib.hid hx
  clear hx
  go_wp2_with fail
  refine (frags_any _ f _ (HF.out.ext (X1.out.trans X2.out))).mono ?_
  rintro e w3 ⟨rfl, hx⟩
  have X3 := Lib.hid (X2.out.trans hx)
  have HUK3 := Lib.hid ((X3.out.cell hblk).trans HUK.out)
  have huk3 := HUK3.out
  have hblk3 : ad.block < w3.heap.size := Nat.lt_of_lt_of_le hblk X3.out.size
  clear hx
  go_wp2_with fail
  cases hd : decide (g = oppN f)
  · have HD := Lib.hid hd
    clear hd
    refine wp_region_held_drew (S := fun w' => w'.cell? (ad) = some (.slice Ak g.length ck)) (by kernel_rfl) (xc hblk3 huk3) (fun hHeld => ?_)
    refine tk 0 hHeld ?_
    refine tk 1 hHeld ?_
    refine tk 2 hHeld ?_
    refine tk 3 hHeld ?_
    refine tk 4 hHeld ?_
    refine tk 5 hHeld ?_
    refine tk 6 hHeld ?_
    refine tk 7 hHeld ?_
    refine wpAnyH_ready (rs := [8]) (by kernel_rfl) (by simp) ?_
    refine AllReadyH.cons rfl (fun K hK => ?_) AllReadyH.nil
    go_simp
    (go_at_call 25; refine (opposite_any _ f _ (by exact HF.out.ext ((X1.out.trans X3.out).trans xw)) HFF.out).mono ?_; rintro e w4 ⟨ug, rfl, hv, hg4⟩; have hx4 : Ext w3 w4 := Ext.trans xw hv; have HG4 := Lib.hid hg4; obtain ⟨A4, c4, rfl, _⟩ := fml_slice hg4; clear hv hg4)
    go_wp2_with fail
    refine hK.out _ _ (xc hblk3 huk3) (fun hHeld => ?_)
    clear hK K
    try simp only [Act.put, List.setIfInBounds_toArray, List.set_cons_zero, List.set_cons_succ, List.getElem_toArray, List.getElem_cons_succ, List.getElem_cons_zero]
    refine wpAnyH_ready (rs := [9]) (by kernel_rfl) (by simp) ?_
    refine AllReadyH.cons rfl (fun K hK => ?_) AllReadyH.nil
    go_simp
    (go_at_call 28; refine (equalN_any _ _ g (oppN f) _ (by exact (HK.out.ext (X3.out.trans xw)).1) (by exact (HG4.out.ext xw).1)).mono ?_; rintro e w5 ⟨rfl, hv⟩; rw [HD.out]; have hx5 : Ext w3 w5 := xt hv; clear hv)
    go_wp2_with fail
    refine hK.out _ _ (xc hblk3 huk3) (fun hHeld => ?_)
    clear hK K
    try simp only [Act.put, List.setIfInBounds_toArray, List.set_cons_zero, List.set_cons_succ, List.getElem_toArray, List.getElem_cons_succ, List.getElem_cons_zero]
    refine tk 10 hHeld ?_
    refine tk 11 hHeld ?_
    refine wpAnyH_done (by kernel_rfl) ?_ _
    go_wp2_with fail
    go_ret
    exact ⟨by rw [HD.out] <;> rfl, (X1.out.trans X3.out).trans xw⟩
  · have HD := Lib.hid hd
    clear hd
    refine wp_region_held_drew (S := fun w' => w'.cell? (ad) = some (.slice Ak g.length ck)) (by kernel_rfl) (xc hblk3 huk3) (fun hHeld => ?_)
    refine tk 0 hHeld ?_
    refine tk 1 hHeld ?_
    refine tk 2 hHeld ?_
    refine tk 3 hHeld ?_
    refine tk 4 hHeld ?_
    refine tk 5 hHeld ?_
    refine tk 6 hHeld ?_
    refine tk 7 hHeld ?_
    refine wpAnyH_ready (rs := [8]) (by kernel_rfl) (by simp) ?_
    refine AllReadyH.cons rfl (fun K hK => ?_) AllReadyH.nil
    go_simp
    (go_at_call 25; refine (opposite_any _ f _ (by exact HF.out.ext ((X1.out.trans X3.out).trans xw)) HFF.out).mono ?_; rintro e w4 ⟨ug, rfl, hv, hg4⟩; have hx4 : Ext w3 w4 := Ext.trans xw hv; have HG4 := Lib.hid hg4; obtain ⟨A4, c4, rfl, _⟩ := fml_slice hg4; clear hv hg4)
    go_wp2_with fail
    refine hK.out _ _ (xc hblk3 huk3) (fun hHeld => ?_)
    clear hK K
    try simp only [Act.put, List.setIfInBounds_toArray, List.set_cons_zero, List.set_cons_succ, List.getElem_toArray, List.getElem_cons_succ, List.getElem_cons_zero]
    refine wpAnyH_ready (rs := [9]) (by kernel_rfl) (by simp) ?_
    refine AllReadyH.cons rfl (fun K hK => ?_) AllReadyH.nil
    go_simp
    (go_at_call 28; refine (equalN_any _ _ g (oppN f) _ (by exact (HK.out.ext (X3.out.trans xw)).1) (by exact (HG4.out.ext xw).1)).mono ?_; rintro e w5 ⟨rfl, hv⟩; rw [HD.out]; have hx5 : Ext w3 w5 := xt hv; clear hv)
    go_wp2_with fail
    refine hK.out _ _ (xc hblk3 huk3) (fun hHeld => ?_)
    clear hK K
    try simp only [Act.put, List.setIfInBounds_toArray, List.set_cons_zero, List.set_cons_succ, List.getElem_toArray, List.getElem_cons_succ, List.getElem_cons_zero]
    refine tk 10 hHeld ?_
    refine tk 11 hHeld ?_
    refine wpAnyH_done (by kernel_rfl) ?_ _
    go_wp2_with fail
    go_ret
    exact ⟨by rw [HD.out] <;> rfl, (X1.out.trans X3.out).trans xw⟩
end Go.Proofs.YtfcmdiigfgbgbaaGreat
