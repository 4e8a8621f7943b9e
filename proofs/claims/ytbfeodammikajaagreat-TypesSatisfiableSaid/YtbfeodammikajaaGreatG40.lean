/- The reference of types: begin, prepare, left. -/
import Derived.Test.YtbfeodammikajaaGreatG39
import Derived.Test.YtbfeodammikajaaGreatG14
import Derived.Test.YtbfeodammikajaaGreatG25

namespace Go.Proofs.YtbfeodammikajaaGreat
open Go.RowKit

set_option maxRecDepth 100000 in
set_option maxHeartbeats 16000000 in
theorem rbegin_any (s : Nat) (lg : Int) (base : List (List Nd)) (w : World) (hS : SpcAt w s lg base) (hbl : base.length ≤ 12) (hok : SpcOk base) :
    Calls Tryz.prog 30 #[.pointer (some ⟨s, 0, none⟩)] w fun e w' => ∃ v, e = .returned v ∧ Ext w w' ∧ MadeB w.heap.size w' v (aliveN lg base) := by
  have HS := Lib.hid hS
  obtain ⟨vb, Ao, co, A1, c1, A2, c2, A3, c3, hs, d0, d1, d2, d3, d4, d5, HFM, HNO, HKN, HCO, HLA⟩ := hS.reads
  obtain ⟨Ab, cb, rfl, hbc, hbm, _⟩ := HFM.out
  have D1 := Lib.hid d1
  have HOK := Lib.hid hok
  obtain ⟨iB, hiB, hzB0, hzB1, hzB2⟩ := info_parts tInfoB
  obtain ⟨m, hmm⟩ : ∃ m, m = 2 ^ base.length := ⟨_, rfl⟩
  have hp2 := pow12 hbl
  rw [← hmm] at hp2
  have HMM := Lib.hid hmm
  have hwr : wrap64 ((2 : Int) ^ base.length) = (m : Int) := by
    have e : ((2 : Int) ^ base.length) = (m : Int) := by rw [HMM.out, Int.natCast_pow]; rfl
    rw [e]
    unfold wrap64
    omega
  have hmin : min base.length 64 = base.length := by omega
  clear hS d0 d1 d2 d3 d4 d5 HFM HNO HKN HCO HLA hok hmm
  go_enter Tryz.func30, Tryz.ntmps30
  go_wp2_with fail
  go_loopw [3, 4] (fun vo vi wr => ∃ t : Nat, vi = .int .i64 (t : Int) ∧ t ≤ m ∧ Hid (Ext w wr ∧ MadeB w.heap.size wr vo ((List.range t).map fun t => coherentN lg (knowsN base) (commsN base) t))) (fun _ v _ => m - (intOf v).toNat)
  case atStart => exact ⟨0, rfl, Nat.zero_le _, Lib.hid ⟨Ext.refl _, MadeB.nil _ _⟩⟩
  case round =>
    obtain ⟨t, rfl, ht, HREL⟩ := hrel
    have HX := Lib.hid HREL.out.1
    have HR := Lib.hid HREL.out.2
    have d1 := (HX.out.cell (p := ⟨s, 1, none⟩) hs).trans D1.out
    have hs2 := Nat.lt_of_lt_of_le hs HX.out.size
    obtain ⟨out, hout⟩ : ∃ o, o = (List.range t).map fun t => coherentN lg (knowsN base) (commsN base) t := ⟨_, rfl⟩
    have hol : out.length ≤ m := by rw [hout]; simpa using ht
    have HOUT := Lib.hid hout
    rw [← hout] at HR
    obtain ⟨Ax, cx, rfl⟩ := slice_of_row HR.out
    clear HREL hout
    obtain ⟨wq, hwq⟩ : ∃ v, v = wr := ⟨_, rfl⟩
    subst hwq
    by_cases hlt2 : t < m
    · have hk1 : (t : Int) < (m : Int) := by omega
      have hc3 : out.length + 1 ≤ maxLen := by unfold maxLen; omega
      have hc4 : (out.length + 1) * 1 ≤ 140737488355328 := by omega
      go_wp2_with fail
      refine (rcoherent_any s lg base t _ (HS.out.ext HX.out) hbl HOK.out (by rw [← HMM.out]; exact hlt2)).mono ?_
      rintro e w3 ⟨rfl, hx3⟩
      have HX3 := Lib.hid hx3
      obtain ⟨b, hb⟩ : ∃ b, b = coherentN lg (knowsN base) (commsN base) t := ⟨_, rfl⟩
      have HB := Lib.hid hb
      rw [← hb]
      clear hx3 hb d1 hs2
      go_wp2_with (at_builtin; refine wpList_append_own_at _ rfl _ _ 61 rfl w.heap.size 4 iB (.bool false) 1 1 Tryz.underlying61 hiB hzB0 hzB1 hzB2 rfl (by decide) _ out.length (out.map Value.bool) rfl (row_ext HR.out (HX3.out.alloc _)) ⟨_, 0, none⟩ 1 1 [.bool b] rfl rfl (row_new_at _ _ _ (by simp)) (fun u hu => by rw [List.mem_singleton.1 hu]; rfl) hc3 hc4 (Nat.le_trans HX.out.size (HX3.out.alloc _).size) ?_)
      intro v7 w7 hown7 hgrow7 _ _
      have HX7 := Lib.hid (show Ext w w7 from ((HX.out.trans HX3.out).alloc _).grown hgrow7 (fun k hk => (HR.out.lt k hk).1))
      obtain ⟨A7, c7, rfl⟩ := slice_of_row hown7
      have HO7 := Lib.hid hown7
      clear hown7 hgrow7
      go_wp2_with fail
      go_roundw
      case rel => exact ⟨t + 1, by go_num, by omega, Lib.hid ⟨HX7.out, by
        rw [range_map_snoc, ← HOUT.out, ← HB.out]
        unfold MadeB
        rw [List.map_append, List.length_append]
        exact HO7.out⟩⟩
      case measure => simp [intOf]; omega
    · obtain rfl : m = t := by omega
      have HE := Lib.hid (show out = aliveN lg base by rw [HOUT.out, HMM.out]; rfl)
      go_wp2_with fail
      go_ret
      exact ⟨_, rfl, HX.out, by rw [← HE.out]; exact HR.out⟩
set_option maxRecDepth 100000 in
set_option maxHeartbeats 16000000 in
theorem rprepare_any (lg : Int) (v : Value) (f : List Nd) (w : World) (h : Fml w v f) :
    Calls Tryz.prog 29 #[.int .i64 lg, v] w fun e w' => Ext w w' ∧ ((engErr lg f ≠ 0 ∧ e = .returned (.tuple #[.pointer none, .int .i64 (engErr lg f)])) ∨ (engErr lg f = 0 ∧ ∃ s, e = .returned (.tuple #[.pointer (some ⟨s, 0, none⟩), .int .i64 0]) ∧ SpcAt w' s lg (baseN f).1)) := by
  have H := Lib.hid h
  obtain ⟨Af, cf, rfl, _⟩ := fml_slice h
  clear h
  by_cases hlo : lg < 0
  · have HE := Lib.hid (show engErr lg f = 1 by unfold engErr; rw [decide_eq_true hlo]; rfl)
    go_enter Tryz.func29, Tryz.ntmps29
    go_wp2_with fail
    go_ret2
    exact ⟨Ext.refl _, .inl ⟨by rw [HE.out]; decide, by rw [HE.out] <;> rfl⟩⟩
  by_cases hhi : 6 < lg
  · have HE := Lib.hid (show engErr lg f = 1 by unfold engErr; rw [decide_eq_true hhi, Bool.or_true]; rfl)
    go_enter Tryz.func29, Tryz.ntmps29
    go_wp2_with fail
    go_ret2
    exact ⟨Ext.refl _, .inl ⟨by rw [HE.out]; decide, by rw [HE.out] <;> rfl⟩⟩
  have HE := Lib.hid (show engErr lg f = (baseN f).2 by unfold engErr; rw [decide_eq_false hlo, decide_eq_false hhi]; rfl)
  obtain ⟨er, her⟩ : ∃ er, er = (baseN f).2 := ⟨_, rfl⟩
  have HER := Lib.hid her
  obtain ⟨base, hbd⟩ : ∃ x, x = (baseN f).1 := ⟨_, rfl⟩
  have HBD := Lib.hid hbd
  by_cases hz : er = 0
  · subst hz
    have HOK := Lib.hid (eng_ok (lg := lg) (f := f) (by rw [HE.out, ← her]))
    have hblen : base.length ≤ 12 := by rw [HBD.out]; exact HOK.out.b.len
    have HSO := Lib.hid (show SpcOk base by rw [HBD.out]; exact spc_ok HOK.out.b)
    clear her hbd
    go_enter Tryz.func29, Tryz.ntmps29
    go_wp2_with fail
    refine (rbase_any _ f _ H.out).mono ?_
    rintro e w1 ⟨u, rfl, hx1, hfr⟩
    rw [← HER.out]
    rw [← HBD.out] at hfr
    have HX1 := Lib.hid hx1
    have HFMS := Lib.hid hfr.fmls
    obtain ⟨Ab, cb, rfl, _⟩ := HFMS.out
    clear hx1 hfr
    go_wp2_with fail
    refine (ropen_any lg _ base _ HFMS.out hblen HSO.out).mono ?_
    rintro e w2 ⟨s, rfl, hx2, hsp⟩
    have HX2 := Lib.hid (HX1.out.trans hx2)
    have HSP := Lib.hid hsp
    clear hx2 hsp
    go_wp2_with fail
    go_ret2
    exact ⟨HX2.out, .inr ⟨by rw [HE.out, ← HER.out], s, rfl, by rw [← HBD.out]; exact HSP.out⟩⟩
  · have hzb : (er == 0) = false := by simpa using hz
    have HZ := Lib.hid hz
    clear her hbd hz
    go_enter Tryz.func29, Tryz.ntmps29
    go_wp2_with fail
    refine (rbase_any _ f _ H.out).mono ?_
    rintro e w1 ⟨u, rfl, hx1, hfr⟩
    rw [← HER.out]
    have HX1 := Lib.hid hx1
    obtain ⟨Ab, cb, rfl, _⟩ := hfr.fmls
    clear hx1 hfr
    go_wp2_with fail
    go_ret2
    exact ⟨HX1.out, .inl ⟨by rw [HE.out, ← HER.out]; exact HZ.out, by rw [HE.out, ← HER.out] <;> rfl⟩⟩
set_option maxRecDepth 100000 in
set_option maxHeartbeats 16000000 in
theorem rleft_any (s : Nat) (lg : Int) (set : List Bool) (vs v : Value) (f : List Nd) (w : World) (hOK : EngOk lg f) (hz : (baseN f).2 = 0) (hS : SpcAt w s lg (baseN f).1) (hsl : set.length = 2 ^ (baseN f).1.length) (hb : Bools w vs set) (h : Fml w v f) :
    Calls Tryz.prog 32 #[.pointer (some ⟨s, 0, none⟩), vs, v] w fun e w' => e = .returned (.bool (satisfiedN set (rootN f))) ∧ Ext w w' := by
  obtain ⟨vb, Ao, co, A1, c1, A2, c2, A3, c3, hs, d0, d1, d2, d3, d4, d5, HFM, HNO, HKN, HCO, HLA⟩ := hS.reads
  have HB0 := Lib.hid (base_parts (f := f) hz)
  have HH := Lib.hid h
  have HBS := Lib.hid hb
  have HCK := Lib.hid (show check (expandN f) = 0 by rw [hOK.e]; exact hOK.x.check)
  have hbl : (baseN f).1.length ≤ 12 := hOK.b.len
  obtain ⟨base, hbd⟩ : ∃ x, x = (baseN f).1 := ⟨_, rfl⟩
  have HBD := Lib.hid hbd
  rw [← hbd] at hbl hsl
  rw [← hbd] at HFM
  have HFMS := Lib.hid HFM.out
  obtain ⟨Ab, cb, rfl, hbc, hbm, _⟩ := HFMS.out
  obtain ⟨Af, cf, rfl, _⟩ := fml_slice h
  obtain ⟨As, cs, rfl, hbs⟩ := hb
  obtain ⟨m, hmm⟩ : ∃ m, m = 2 ^ base.length := ⟨_, rfl⟩
  have HMM := Lib.hid hmm
  rw [← hmm] at hsl
  have hm2 : m ≤ 4096 := by rw [hmm]; exact pow12 hbl
  rw [hsl] at HBS ⊢
  have HBA := Lib.hid hbs
  have HSL := Lib.hid hsl
  clear hS d0 d2 d3 d4 d5 HNO HKN HCO HLA HFM h hbs hbd hmm hOK hsl
  go_enter Tryz.func32, Tryz.ntmps32
  go_upto_region 1 with (fail)
  refine wp_region_held_drew (S := fun w' => w'.cell? (⟨s, 1, none⟩) = some (.slice Ab base.length cb)) (by kernel_rfl) (xc hs d1) (fun hHeld => ?_)
  refine tk 0 hHeld ?_
  refine tk 1 hHeld ?_
  refine tk 2 hHeld ?_
  refine tk 3 hHeld ?_
  refine tk 4 hHeld ?_
  refine wpAnyH_ready (rs := [5]) (by kernel_rfl) (by simp) ?_
  refine AllReadyH.cons rfl (fun K hK => ?_) AllReadyH.nil
  go_simp
  refine (rexpand_any _ f _ (HH.out.ext (by repeat (first | exact Ext.refl _ | assumption | apply Ext.alloc | apply Ext.drew | apply Ext.setCell))) HB0.out.1 (lang_ops HB0.out.1 HB0.out.2.1)).mono ?_
  rintro e w3 ⟨u, rfl, hf, hx0⟩
  have hx3 : Ext w w3 := Ext.trans (by repeat (first | exact Ext.refl _ | assumption | apply Ext.alloc | apply Ext.drew | apply Ext.setCell)) hx0
  have HF := Lib.hid hf
  obtain ⟨A3, c3, rfl, _⟩ := fml_slice hf
  clear hf hx0
  go_wp2_with fail
  refine hK.out _ _ (xc hs d1) (fun hHeld => ?_)
  clear hK K
  try simp only [Act.put, List.setIfInBounds_toArray, List.set_cons_zero, List.set_cons_succ, List.getElem_toArray, List.getElem_cons_succ, List.getElem_cons_zero]
  refine wpAnyH_ready (rs := [6]) (by kernel_rfl) (by simp) ?_
  refine AllReadyH.cons rfl (fun K hK => ?_) AllReadyH.nil
  go_simp
  refine (column_any _ _ base (expandN f) _ (HFMS.out.ext hx3) HF.out HCK.out hbl).mono ?_
  rintro e w4 ⟨v4, rfl, hx0, hmb⟩
  have hx4 : Ext w w4 := hx3.trans hx0
  have HX4 := Lib.hid hx4
  have HMB := Lib.hid hmb
  obtain ⟨A4, c4, rfl⟩ := slice_of_row hmb
  clear hx0 hmb
  go_wp2_with fail
  refine hK.out _ _ (xc hs d1) (fun hHeld => ?_)
  clear hK K
  try simp only [Act.put, List.setIfInBounds_toArray, List.set_cons_zero, List.set_cons_succ, List.getElem_toArray, List.getElem_cons_succ, List.getElem_cons_zero]
  refine tk 7 hHeld ?_
  refine wpAnyH_done (by kernel_rfl) ?_ _
  have HRT := Lib.hid (show tabN base (expandN f) = rootN f by rw [HBD.out]; rfl)
  rw [HRT.out] at HMB ⊢
  have HRL := Lib.hid (show (rootN f).length = m by rw [← HRT.out, tab_length, HMM.out])
  rw [HRL.out] at HMB ⊢
  have hml4 : m ≤ c4 := by have h1 := HMB.out.2; rcases h1 with ⟨e, _⟩ | ⟨g, cap, cur, e, _, _, h2, _⟩ <;> (injection e with e1 e2 e3; omega)
  clear d1 hx3 hx4
  obtain ⟨W4, hW4⟩ : ∃ v, v = w4 := ⟨_, rfl⟩
  subst hW4
  go_wp2_with fail
  go_loopw [18] (fun v wr => ∃ k : Nat, v = .int .i64 (k : Int) ∧ k ≤ m ∧ Hid (Ext W4 wr ∧ ∀ j, j < k → (set.getD j false && (rootN f).getD j false) = false)) (fun v _ => m - (intOf v).toNat)
  case atStart => exact ⟨0, rfl, Nat.zero_le _, Lib.hid ⟨Ext.refl _, fun j hj => absurd hj (by omega)⟩⟩
  case round =>
    obtain ⟨k, rfl, hk, HREL⟩ := hrel
    have HX := Lib.hid HREL.out.1
    have HJ := Lib.hid HREL.out.2
    clear HREL
    by_cases hlt2 : k < m
    · have hk1 : (k : Int) < (m : Int) := by omega
      have HXX := Lib.hid (HX4.out.trans HX.out)
      obtain ⟨ad, rfl, hadl, s0⟩ := setg_get HBA.out HSL.out hlt2
      have s1 := (HXX.out.cell (p := ad.add k) (by rw [block_of_add]; exact hadl)).trans s0
      have hadl2 : (ad.add k).block < wr.heap.size := by rw [block_of_add]; exact Nat.lt_of_lt_of_le hadl HXX.out.size
      obtain ⟨g4, hg4, hg4l⟩ : ∃ g, A4 = some ⟨g, 0, none⟩ ∧ g < W4.heap.size := by
        obtain ⟨g, cap, e, h1, _⟩ := HMB.out.slice (by rw [HRL.out]; omega)
        injection e with e1
        exact ⟨g, e1, h1⟩
      subst hg4
      have r1 := (HX.out.cell (p := ⟨g4, k, none⟩) hg4l).trans (HMB.out.cellAt (k := k) (by rw [HRL.out]; exact hlt2))
      have g4l2 : g4 < wr.heap.size := Nat.lt_of_lt_of_le hg4l HX.out.size
      have HNX := Lib.hid (show (set.getD k false && (rootN f).getD k false) = false → ∀ j, j < k + 1 → (set.getD j false && (rootN f).getD j false) = false from fun h => upto (P := fun j => (set.getD j false && (rootN f).getD j false) = false) HJ.out h)
      clear s0
      cases hsv : set.getD k false
      · rw [hsv] at s1
        have HF := Lib.hid (HNX.out (by rw [hsv, Bool.false_and]))
        clear hsv
        go_wp2_with fail
        go_roundw
        case rel => exact ⟨k + 1, by go_num, by omega, Lib.hid ⟨HX.out, HF.out⟩⟩
        case measure => simp [intOf]; omega
      · rw [hsv] at s1
        cases hrv : (rootN f).getD k false
        · rw [hrv] at r1
          have HF := Lib.hid (HNX.out (by rw [hrv, Bool.and_false]))
          clear hsv hrv
          go_wp2_with fail
          go_roundw
          case rel => exact ⟨k + 1, by go_num, by omega, Lib.hid ⟨HX.out, HF.out⟩⟩
          case measure => simp [intOf]; omega
        · rw [hrv] at r1
          have HE := Lib.hid (show satisfiedN set (rootN f) = true by
            unfold satisfiedN
            rw [List.any_eq_true]
            exact ⟨k, List.mem_range.2 (by rw [HSL.out]; exact hlt2), by rw [hsv, hrv]; rfl⟩)
          clear hsv hrv
          go_wp2_with fail
          go_ret
          exact ⟨by rw [HE.out] <;> rfl, HXX.out⟩
    · obtain rfl : m = k := by omega
      have HE := Lib.hid (show satisfiedN set (rootN f) = false by
        unfold satisfiedN
        rw [List.any_eq_false]
        intro j hj
        rw [HJ.out j (by rw [← HSL.out]; exact List.mem_range.1 hj)]
        simp)
      go_wp2_with fail
      go_ret
      exact ⟨by rw [HE.out] <;> rfl, HX4.out.trans HX.out⟩
end Go.Proofs.YtbfeodammikajaaGreat

/- The reference of types: Check. -/

namespace Go.Proofs.YtbfeodammikajaaGreat
open Go.RowKit

theorem MadeB.setN {bs g n cap : Nat} {w : World} {l : List Bool} (h : MadeB bs w (.slice (some ⟨g, 0, none⟩) n cap) l) (hn : l.length = n) (j : Nat) (b : Bool) : MadeB bs (w.setCell ⟨g, j, none⟩ (.bool b)) (.slice (some ⟨g, 0, none⟩) n cap) (l.set j b) := by
  subst hn
  exact (h.set j b).1
theorem MadeB.frz {bs g n cap : Nat} {w : World} {l : List Bool} (h : MadeB bs w (.slice (some ⟨g, 0, none⟩) n cap) l) (hl : 0 < l.length) (j : Nat) : w.frozen? ⟨g, j, none⟩ = false := by
  obtain ⟨g', cap', e, _, _, _, _, _, hf⟩ := h.slice hl
  injection e with e1
  injection e1 with e1
  injection e1 with e1
  subst e1
  exact hf j
theorem engErr_base {lg : Int} {f : List Nd} (h : engErr lg f = 0) : (baseN f).2 = 0 := by
  unfold engErr at h
  cases ha : decide (lg < 0) || decide (6 < lg)
  · rw [ha] at h; exact h
  · rw [ha] at h; cases h
set_option maxRecDepth 100000 in
set_option maxHeartbeats 32000000 in
theorem rcheckT_any (lg : Int) (ve : Value) (ts : List Nat) (ws : List Int) (v : Value) (f : List Nd) (w : World) (h : Fml w v f) (he : Elm w ve lg ts ws) (hws : ∀ i ∈ ws, i64ok i) :
    Calls Tryz.prog 12 #[v, ve] w fun e w' => e = .returned (.int .i64 (checkT lg f ts ws)) ∧ Ext w w' := by
  have H := Lib.hid h
  obtain ⟨Af, cf, rfl, _⟩ := fml_slice h
  obtain ⟨vt, vw, rfl, ⟨At, ct, rfl, ht1, ht2, ht3⟩, ⟨Aw, cw, rfl, hw1, hw2, hw3⟩⟩ := he
  unfold maxLen at ht2 hw2
  have HT := Lib.hid ht3
  have HW := Lib.hid hw3
  have HWS := Lib.hid hws
  have HX0 := Lib.hid (show Ext w (w.alloc (.cells #[.int .i64 lg, .slice At ts.length ct, .slice Aw ws.length cw] 30)) from (Ext.refl _).alloc _)
  have HW0 := Lib.hid (show (w.alloc (.cells #[.int .i64 lg, .slice At ts.length ct, .slice Aw ws.length cw] 30)).heap[w.heap.size]? = some (.cells #[.int .i64 lg, .slice At ts.length ct, .slice Aw ws.length cw] 30 (0, 0)) from heap_alloc_new _ _)
  clear h ht3 hw3 hws
  obtain ⟨er, her⟩ : ∃ er, er = engErr lg f := ⟨_, rfl⟩
  have HER := Lib.hid her
  by_cases hz : er = 0
  · subst hz
    have HOK := Lib.hid (eng_ok her.symm)
    have HA := Lib.hid (eng_all (eng_ok her.symm))
    clear her
    by_cases hll : ts.length = ws.length
    · have HLL := Lib.hid hll
      have hlb : ((ts.length : Int) != (ws.length : Int)) = false := by rw [hll]; simp
      clear hll
      go_enter Tryz.func12, Tryz.ntmps12
      go_wp2_with fail
      refine (rprepare_any lg _ f _ (H.out.ext HX0.out)).mono ?_
      rintro e w1 ⟨hx1, hr⟩
      obtain ⟨s, rfl, hsp⟩ := (hr.resolve_left (fun h => h.1 HER.out.symm)).2
      obtain ⟨base, hbase⟩ : ∃ b, b = (baseN f).1 := ⟨_, rfl⟩
      have HBASE := Lib.hid hbase
      rw [← hbase] at hsp
      have HSP := Lib.hid hsp
      have HX1 := Lib.hid hx1
      have HB1 := Lib.hid ((hx1.block (by simp)).trans HW0.out)
      have hbl : base.length ≤ 12 := by rw [hbase]; exact HA.out.len
      have HSO := Lib.hid (show SpcOk base by rw [hbase]; exact spc_ok HOK.out.b)
      obtain ⟨⟨q0, q1, q2⟩, _, ql⟩ := cells3z HB1.out
      obtain ⟨m, hm⟩ : ∃ m, m = 2 ^ base.length := ⟨_, rfl⟩
      have HM := Lib.hid hm
      have hm12 : m ≤ 4096 := by rw [hm]; exact pow12 hbl
      have hm0 : 0 < m := by rw [hm]; exact Nat.pow_pos (by omega)
      clear hr hsp hx1 hm hbase
      go_wp2_with fail
      refine (rbegin_any s lg base _ HSP.out hbl HSO.out).mono ?_
      rintro e w2 ⟨vs, rfl, hx2, hmb⟩
      have HX2 := Lib.hid hx2
      have hal : (aliveN lg base).length = m := by rw [alive_len, HM.out]
      obtain ⟨g, cap, rfl, hgl, hgb, _, hcap, _, _⟩ := hmb.slice (by omega)
      rw [hal] at hmb ⊢
      have HMB := Lib.hid hmb
      have HGB := Lib.hid hgb
      have HAL0 := Lib.hid hal
      have HB2 := Lib.hid ((hx2.block (lt_heap HB1.out)).trans HB1.out)
      obtain ⟨⟨p0, p1, p2⟩, _, pl⟩ := cells3z HB2.out
      clear hx2 hal hgl hgb hmb q0 q1 q2 ql
      go_wp2_with fail
      clear p0 p1 p2 pl
      go_loopw [32] (fun v wr => ∃ k : Nat, v = .int .i64 (k : Int) ∧ k ≤ ts.length ∧ Hid (∃ al, MadeB w1.heap.size wr (.slice (some ⟨g, 0, none⟩) m cap) al ∧ Ext w1 wr ∧ al.length = m ∧ checkG (lkN lg f) (ts.drop k) (ws.drop k) al = checkG (lkN lg f) ts ws (aliveN lg (baseN f).1))) (fun v _ => ts.length - (intOf v).toNat)
      case atStart => exact ⟨0, rfl, Nat.zero_le _, Lib.hid ⟨aliveN lg base, HMB.out, HX2.out, HAL0.out, by rw [HBASE.out, List.drop_zero, List.drop_zero]⟩⟩
      case round =>
        clear HMB
        obtain ⟨k, rfl, hk, HREL⟩ := hrel
        obtain ⟨al, hmb, hx, hal, hck⟩ := HREL.out
        have HMB := Lib.hid hmb
        have HX := Lib.hid hx
        have HXW := Lib.hid (HX0.out.trans (HX1.out.trans hx))
        have HAL := Lib.hid hal
        have HCK := Lib.hid hck
        have HSPR := Lib.hid (HSP.out.ext hx)
        have HBL := Lib.hid hmb.bools
        have gl : g < wr.heap.size := (hmb.lt g rfl).2
        obtain ⟨⟨q0, q1, q2⟩, _, ql⟩ := cells3z ((hx.block (lt_heap HB1.out)).trans HB1.out)
        clear HREL hx hal hck hmb
        by_cases hlt2 : k < ts.length
        · have hk1 : (k : Int) < (ts.length : Int) := by omega
          have hlt3 : k < ws.length := by have := HLL.out; omega
          have hk2 : (k : Int) < (ws.length : Int) := by omega
          obtain ⟨t, ht⟩ : ∃ t, ts[k]? = some t := ⟨_, List.getElem?_eq_getElem hlt2⟩
          obtain ⟨i, hi⟩ : ∃ i, ws[k]? = some i := ⟨_, List.getElem?_eq_getElem hlt3⟩
          obtain ⟨ad, rfl, hb1, hc1⟩ := HT.out (by intro e; rw [e] at hlt2; simp at hlt2)
          obtain ⟨aw, rfl, hb2, hc2⟩ := HW.out (by intro e; rw [e] at hlt3; simp at hlt3)
          have a0 := (HXW.out.cell (p := ad.add k) (by rw [block_of_add]; exact hb1)).trans (hc1 k t ht)
          have a1 := (HXW.out.cell (p := aw.add k) (by rw [block_of_add]; exact hb2)).trans (hc2 k i hi)
          have al0 : (ad.add k).block < wr.heap.size := by rw [block_of_add]; exact Nat.lt_of_lt_of_le hb1 HXW.out.size
          have al1 : (aw.add k).block < wr.heap.size := by rw [block_of_add]; exact Nat.lt_of_lt_of_le hb2 HXW.out.size
          have HSTEP := Lib.hid (checkG_step (lk := lkN lg f) (al := al) ht hi)
          rw [HCK.out] at HSTEP
          have HI := Lib.hid (HWS.out i (List.mem_of_getElem? hi))
          have hwm : IntKind.u64.wrap (m : Int) = (m : Int) := by rw [IntKind.wrap_u64]; omega
          clear ht hi hc1 hc2
          by_cases htm : t < m
          · have htm1 : (t : Int) < (m : Int) := by omega
            have hwt : IntKind.i64.wrap (t : Int) = (t : Int) := by rw [IntKind.wrap_i64]; omega
            obtain ⟨av, hav⟩ : ∃ x, x = al.getD t false := ⟨_, rfl⟩
            have HAV := Lib.hid hav
            have gc : wr.cell? ⟨g, t, none⟩ = some (.bool av) := by rw [hav]; exact HMB.out.cellAt (by rw [HAL.out]; exact htm)
            clear hav
            cases av
            · have HR := Lib.hid (checkT_none (lg := lg) (f := f) (ts := ts) (ws := ws) HER.out.symm HLL.out (by rw [HSTEP.out, ← HAV.out, Bool.false_and, Bool.and_false]; rfl))
              go_wp2_with fail
              go_ret
              exact ⟨by rw [HR.out] <;> rfl, HXW.out⟩
            · obtain ⟨lk, hlk⟩ : ∃ x, x = lkN lg f al t i := ⟨_, rfl⟩
              have HLK := Lib.hid (show lacksN lg (knowsN base) (commsN base) al t i = lk by rw [hlk, HBASE.out]; rfl)
              have HLK2 := Lib.hid hlk
              clear hlk
              go_wp2_with fail
              refine (rlacks_any s lg base al (.slice (some ⟨g, 0, none⟩) m cap) t m i _ HSPR.out hbl HA.out.lgr HM.out HAL.out HBL.out HSO.out.ag HI.out).mono ?_
              rintro e w3 ⟨rfl, hx3⟩
              rw [HLK.out]
              have HX3 := Lib.hid hx3
              clear gc gl q0 q1 q2 ql a0 a1 al0 al1
              cases lk
              · have HR := Lib.hid (checkT_none (lg := lg) (f := f) (ts := ts) (ws := ws) HER.out.symm HLL.out (by rw [HSTEP.out, ← HLK2.out, Bool.and_false, Bool.and_false]; rfl))
                go_wp2_with fail
                go_ret
                exact ⟨by rw [HR.out] <;> rfl, HXW.out.trans HX3.out⟩
              · have HM3 := Lib.hid (HMB.out.ext hx3)
                have gl : g < w3.heap.size := (HM3.out.lt g rfl).2
                have gfr : w3.frozen? ⟨g, t, none⟩ = false := HM3.out.frz (by rw [HAL.out]; exact hm0) t
                have gc : w3.cell? ⟨g, t, none⟩ = some (.bool true) := by rw [HAV.out]; exact HM3.out.cellAt (by rw [HAL.out]; exact htm)
                clear hx3
                go_wp2_with fail
                go_roundw
                case rel => exact ⟨k + 1, by go_num, by omega, Lib.hid ⟨al.set t false, HM3.out.setN HAL.out t false, (HX.out.trans HX3.out).setCell (p := ⟨g, t, none⟩) HGB.out _, by rw [List.length_set]; exact HAL.out, by
                  rw [HSTEP.out, ← HAV.out, ← HLK2.out, decide_eq_true (by rw [HAL.out]; exact htm)]; rfl⟩⟩
                case measure => simp [intOf]; omega
          · have htm1 : (m : Int) ≤ (t : Int) := by omega
            have HR := Lib.hid (checkT_none (lg := lg) (f := f) (ts := ts) (ws := ws) HER.out.symm HLL.out (by rw [HSTEP.out, decide_eq_false (by rw [HAL.out]; exact htm)]; rfl))
            go_wp2_with fail
            go_ret
            exact ⟨by rw [HR.out] <;> rfl, HXW.out⟩
        · obtain rfl : ts.length = k := by omega
          have HR := Lib.hid (checkT_some (lg := lg) (f := f) (ts := ts) (ws := ws) (al := al) HER.out.symm HLL.out (by rw [← HCK.out, checkG_end]))
          go_wp2_with fail
          refine (rleft_any s lg al (.slice (some ⟨g, 0, none⟩) m cap) _ f _ HOK.out (engErr_base HER.out.symm) (by rw [← HBASE.out]; exact HSPR.out) (by rw [HAL.out, HM.out, HBASE.out]) HBL.out (H.out.ext HXW.out)).mono ?_
          rintro e w3 ⟨rfl, hx3⟩
          have HX3 := Lib.hid (HXW.out.trans hx3)
          clear hx3 q0 q1 q2 ql
          cases hs : satisfiedN al (rootN f)
          · rw [hs] at HR
            clear hs
            go_wp2_with fail
            go_ret
            exact ⟨by rw [HR.out] <;> rfl, HX3.out⟩
          · rw [hs] at HR
            clear hs
            go_wp2_with fail
            go_ret
            exact ⟨by rw [HR.out] <;> rfl, HX3.out⟩
    · have HLL := Lib.hid hll
      have hlb : ((ts.length : Int) != (ws.length : Int)) = true := by simp; omega
      have HRE := Lib.hid (checkT_len (lg := lg) (f := f) HER.out.symm hll)
      clear hll
      go_enter Tryz.func12, Tryz.ntmps12
      go_wp2_with fail
      refine (rprepare_any lg _ f _ (H.out.ext HX0.out)).mono ?_
      rintro e w1 ⟨hx1, hr⟩
      obtain ⟨s, rfl, hsp⟩ := (hr.resolve_left (fun h => h.1 HER.out.symm)).2
      have HX1 := Lib.hid hx1
      have HB1 := Lib.hid ((hx1.block (by simp)).trans HW0.out)
      obtain ⟨⟨q0, q1, q2⟩, _, ql⟩ := cells3z HB1.out
      clear hr hsp hx1
      go_wp2_with fail
      go_ret
      exact ⟨by rw [HRE.out] <;> rfl, HX0.out.trans HX1.out⟩
  · have HZ := Lib.hid hz
    have HRE := Lib.hid (show checkT lg f ts ws = er by rw [checkT_bad (by rw [← her]; exact hz), her])
    clear her
    go_enter Tryz.func12, Tryz.ntmps12
    go_wp2_with fail
    refine (rprepare_any lg _ f _ (H.out.ext HX0.out)).mono ?_
    rintro e w1 ⟨hx1, hr⟩
    obtain ⟨_, rfl⟩ := hr.resolve_right (fun h => HZ.out (HER.out.trans h.1))
    rw [← HER.out]
    have hzb : (er == 0) = false := by rw [beq_eq_false_iff_ne]; exact HZ.out
    have HX1 := Lib.hid hx1
    clear hx1 hr
    go_wp2_with fail
    go_ret
    exact ⟨by rw [HRE.out] <;> rfl, HX0.out.trans HX1.out⟩
end Go.Proofs.YtbfeodammikajaaGreat
