/- The reference's Has, keeps, inside, normal, Normal, Base. -/
import Derived.Test.YtfcmdiigfgbgbaaGreatGK
import Derived.Test.YtfcmdiigfgbgbaaGreatGG
import Derived.Test.YtfcmdiigfgbgbaaGreatGO

namespace Go.Proofs.YtfcmdiigfgbgbaaGreat
open Go.RowKit

theorem shr_mod_two (s k : Nat) : (((s : Int) / 2 ^ k).tmod 2 == 1) = s.testBit k := by
  rw [shr_nat, testBit_int]
  generalize s / 2 ^ k = r
  rw [show ((r : Nat) : Int).tmod 2 = ((r % 2 : Nat) : Int) from rfl, Bool.eq_iff_iff, beq_iff_eq, beq_iff_eq]
  omega
set_option maxRecDepth 100000 in
set_option maxHeartbeats 1000000 in
theorem rHas_any (s : Nat) (_hs : s < 18446744073709551616) (node : Int) (w : World) : Calls Tryz.prog 41 #[.int .u64 (s : Int), .int .i64 node] w fun e w' => e = .returned (.bool (inS s node)) ∧ w' = w := by
  by_cases h0 : 0 ≤ node
  · by_cases h6 : node < 64
    · obtain ⟨k, rfl⟩ := Int.eq_ofNat_of_zero_le h0
      have hk : min k 64 = k := by omega
      have HE := Lib.hid (show inS s (k : Int) = s.testBit k by unfold inS; rw [decide_eq_true h0, decide_eq_true h6, Int.toNat_natCast]; rfl)
      have HB := Lib.hid (shr_mod_two s k)
      go_enter Tryz.func41, Tryz.ntmps41
      go_wp2_with fail
      go_ret
      exact ⟨by rw [HE.out, ← HB.out] <;> rfl, rfl⟩
    · have HE := Lib.hid (show inS s node = false by unfold inS; rw [decide_eq_true h0, decide_eq_false h6]; rfl)
      have h6d : decide (node < 64) = false := decide_eq_false h6
      go_enter Tryz.func41, Tryz.ntmps41
      go_wp2_with fail
      go_ret
      exact ⟨by rw [HE.out] <;> rfl, rfl⟩
  · have HE := Lib.hid (show inS s node = false by unfold inS; rw [decide_eq_false h0]; rfl)
    have h0d : decide (0 ≤ node) = false := decide_eq_false h0
    go_enter Tryz.func41, Tryz.ntmps41
    go_wp2_with fail
    go_ret
    exact ⟨by rw [HE.out] <;> rfl, rfl⟩
set_option maxRecDepth 100000 in
set_option maxHeartbeats 1000000 in
theorem rkeeps_any (lg : Int) (w : World) : Calls Tryz.prog 42 #[.int .i64 lg] w fun e w' => e = .returned (.bool (transN lg)) ∧ w' = w := by
  by_cases hy : lg = 3 ∨ lg = 4 ∨ lg = 5 ∨ lg = 6
  · rcases hy with rfl | rfl | rfl | rfl <;>
      (go_enter Tryz.func42, Tryz.ntmps42
       go_wp2_with fail
       go_ret
       exact ⟨rfl, rfl⟩)
  · have b3 : (lg == 3) = false := by rw [beq_eq_false_iff_ne]; omega
    have b4 : (lg == 4) = false := by clear b3; rw [beq_eq_false_iff_ne]; omega
    have b5 : (lg == 5) = false := by clear b3 b4; rw [beq_eq_false_iff_ne]; omega
    have b6 : (lg == 6) = false := by clear b3 b4 b5; rw [beq_eq_false_iff_ne]; omega
    have HE := Lib.hid (show transN lg = false by unfold transN; rw [b3, b4, b5, b6]; rfl)
    clear hy
    go_enter Tryz.func42, Tryz.ntmps42
    go_wp2_with fail
    go_ret
    exact ⟨by rw [HE.out] <;> rfl, rfl⟩
theorem shr_zero (s n : Nat) : ((s : Int) / 2 ^ n == 0) = decide (s < 2 ^ n) := by
  rw [shr_nat, Bool.eq_iff_iff, beq_iff_eq, decide_eq_true_iff, ← Nat.div_eq_zero_iff_lt (Nat.two_pow_pos n)]
  omega
set_option maxRecDepth 100000 in
set_option maxHeartbeats 1000000 in
theorem rinside_any (A : Option Addr) (c : Nat) (base : List Nd) (s : Nat) (hs : s < 18446744073709551616) (w : World) :
    Calls Tryz.prog 40 #[.slice A base.length c, .int .u64 (s : Int)] w fun e w' => e = .returned (.bool (insideS base s)) ∧ w' = w := by
  have HE := Lib.hid (show insideS base s = decide (s < 2 ^ base.length) from rfl)
  by_cases h6 : 64 ≤ base.length
  · have HE2 := Lib.hid (show insideS base s = true by
      rw [HE.out]
      exact decide_eq_true (Nat.lt_of_lt_of_le (show s < 2 ^ 64 from hs) (Nat.pow_le_pow_right (by decide) h6)))
    have h6i : (64 : Int) ≤ (base.length : Int) := by omega
    go_enter Tryz.func40, Tryz.ntmps40
    go_wp2_with fail
    go_ret
    exact ⟨by rw [HE2.out] <;> rfl, rfl⟩
  · have hb := shr_zero s base.length
    have h6i : ¬ (64 : Int) ≤ (base.length : Int) := by omega
    have h6d : decide (64 ≤ base.length) = false := decide_eq_false h6
    have hm : min base.length 64 = base.length := by omega
    go_enter Tryz.func40, Tryz.ntmps40
    go_wp2_with fail
    go_ret
    exact ⟨by rw [HE.out] <;> rfl, rfl⟩
set_option maxRecDepth 100000 in
set_option maxHeartbeats 4000000 in
theorem rnormal_any (v : Value) (base : List Nd) (t : Nat) (n : Nd) (w : World) (h : Nds w v base) (hn : base[t]? = some n) (hx : n.op = 4 → 0 ≤ n.x ∧ n.x < base.length) :
    Calls Tryz.prog 76 #[v, .int .i64 (t : Int)] w fun e w' => e = .returned (.bool (normalN base n)) ∧ w' = w := by
  obtain ⟨A, c, rfl, hcap, hmax, hread⟩ := h
  unfold maxLen at hmax
  obtain ⟨ad, rfl, hblk, hcells⟩ := hread (by intro e; rw [e] at hn; cases hn)
  obtain ⟨e0, e1, e2, e3, e4, e5⟩ := hcells t n hn
  have ht := (List.getElem?_eq_some_iff.1 hn).1
  have ht0 : (0 : Int) ≤ (t : Int) := by omega
  have ht1 : (t : Int) < (base.length : Int) := by omega
  obtain ⟨o, i, e, k, x, y⟩ := n
  clear hn
  by_cases hy : o = 1 ∨ o = 2 ∨ o = 3 ∨ o = 5 ∨ o = 6 ∨ o = 9 ∨ o = 10
  · have HE := Lib.hid (normalN_yes (base := base) (n := ⟨o, i, e, k, x, y⟩) hy)
    clear hread hx hcells
    rcases hy with rfl | rfl | rfl | rfl | rfl | rfl | rfl <;>
      (go_enter Tryz.func76, Tryz.ntmps76
       go_wp2_with fail
       go_ret
       exact ⟨by rw [HE.out] <;> rfl, rfl⟩)
  · by_cases h4 : o = 4
    · subst h4
      obtain ⟨hx0, hx1⟩ := hx rfl
      simp only at hx0 hx1
      obtain ⟨j, rfl⟩ := Int.eq_ofNat_of_zero_le hx0
      obtain ⟨m, hm⟩ : ∃ m, base[j]? = some m := ⟨_, List.getElem?_eq_getElem (show j < base.length by omega)⟩
      have c0 := (hcells j m hm).1
      have HE := Lib.hid (show normalN base ⟨4, i, e, k, (j : Int), y⟩ = (m.op == 3) by
        unfold normalN
        simp only [Int.toNat_natCast]
        rw [getD_of hm]
        rfl)
      clear hcells hread hm hy hx
      cases h3 : m.op == 3
      · have HE2 := Lib.hid (HE.out.trans h3)
        go_enter Tryz.func76, Tryz.ntmps76
        go_wp2_with fail
        go_ret
        exact ⟨by rw [HE2.out] <;> rfl, rfl⟩
      · have HE2 := Lib.hid (HE.out.trans h3)
        go_enter Tryz.func76, Tryz.ntmps76
        go_wp2_with fail
        go_ret
        exact ⟨by rw [HE2.out] <;> rfl, rfl⟩
    · have b1 : (o == 1) = false := by rw [beq_eq_false_iff_ne]; omega
      have b2 : (o == 2) = false := by clear b1; rw [beq_eq_false_iff_ne]; omega
      have b3 : (o == 3) = false := by clear b1 b2; rw [beq_eq_false_iff_ne]; omega
      have b4 : (o == 4) = false := by clear b1 b2 b3; rw [beq_eq_false_iff_ne]; omega
      have b5 : (o == 5) = false := by clear b1 b2 b3 b4; rw [beq_eq_false_iff_ne]; omega
      have b6 : (o == 6) = false := by clear b1 b2 b3 b4 b5; rw [beq_eq_false_iff_ne]; omega
      have b9 : (o == 9) = false := by clear b1 b2 b3 b4 b5 b6; rw [beq_eq_false_iff_ne]; omega
      have b10 : (o == 10) = false := by clear b1 b2 b3 b4 b5 b6 b9; rw [beq_eq_false_iff_ne]; omega
      have HE := Lib.hid (normalN_no (base := base) (n := ⟨o, i, e, k, x, y⟩) b1 b2 b3 b4 b5 b6 b9 b10)
      clear hread hx hy h4 hcells
      go_enter Tryz.func76, Tryz.ntmps76
      go_wp2_with fail
      go_ret
      exact ⟨by rw [HE.out] <;> rfl, rfl⟩
theorem all_false {base : List Nd} {k : Nat} {n : Nd} (h : base[k]? = some n) (hf : normalN base n = false) : base.all (normalN base) = false := by
  rw [Bool.eq_false_iff]
  intro ht
  have := List.all_eq_true.1 ht n (List.mem_of_getElem? h)
  rw [hf] at this
  cases this
set_option maxRecDepth 100000 in
set_option maxHeartbeats 4000000 in
theorem rNormal_any (v : Value) (base : List Nd) (w : World) (h : Nds w v base) (hc : check base = 0) :
    Calls Tryz.prog 62 #[v] w fun e w' => e = .returned (.bool (base.all (normalN base))) ∧ w' = w := by
  have H := Lib.hid h
  obtain ⟨A, c, rfl, hcap, hmax, hread⟩ := h
  unfold maxLen at hmax
  have CW := Lib.hid (check_wf hc)
  have hl := (check_parts hc).2.1
  clear hread hc
  go_enter Tryz.func62, Tryz.ntmps62
  go_wp2_with fail
  go_loopw [3] (fun v wr => ∃ k : Nat, v = .int .i64 (k : Int) ∧ k ≤ base.length ∧ Hid ((base.take k).all (normalN base) = true) ∧ Hid (wr = w)) (fun v _ => base.length - (intOf v).toNat)
  case atStart => exact ⟨0, rfl, Nat.zero_le _, Lib.hid rfl, Lib.hid rfl⟩
  case round =>
    obtain ⟨k, rfl, hk, HT, HW⟩ := hrel
    have hW := HW.out
    subst hW
    by_cases hlt : k < base.length
    · obtain ⟨n, hn⟩ : ∃ n, base[k]? = some n := ⟨_, List.getElem?_eq_getElem hlt⟩
      have HC := Lib.hid (rnormal_any _ base k n wr H.out hn (fun e => by have := (CW.out k n hn).1 (by rw [e]; rfl); omega))
      cases hnn : normalN base n
      · have HE := Lib.hid (all_false hn hnn)
        rw [hnn] at HC
        clear hn hnn
        go_wp2_with (go_at_call 76; refine HC.out.mono ?_; rintro e w1 ⟨rfl, rfl⟩)
        go_ret
        exact ⟨by rw [HE.out] <;> rfl, rfl⟩
      · have HE := Lib.hid (show (base.take (k + 1)).all (normalN base) = true by rw [all_take hn, HT.out, hnn]; rfl)
        rw [hnn] at HC
        clear hn hnn
        go_wp2_with (go_at_call 76; refine HC.out.mono ?_; rintro e w1 ⟨rfl, rfl⟩)
        go_roundw
        case rel => exact ⟨k + 1, by go_num, by omega, HE, by first | exact Lib.hid rfl | exact Lib.hid trivial⟩
        case measure => simp [intOf]; omega
    · obtain rfl : base.length = k := by omega
      have HE := Lib.hid (show base.all (normalN base) = true by have := HT.out; rwa [List.take_of_length_le (Nat.le_refl _)] at this)
      go_wp2_with fail
      go_ret
      exact ⟨by rw [HE.out] <;> rfl, rfl⟩
set_option maxRecDepth 100000 in
set_option maxHeartbeats 4000000 in
theorem rBase_any (v : Value) (base : List Nd) (w : World) (h : Nds w v base) :
    Calls Tryz.prog 33 #[v] w fun e w' => e = .returned (.int .i64 (baseErr base)) ∧ Ext w w' := by
  have H := Lib.hid h
  obtain ⟨A, c, rfl, hcap, hmax, hread⟩ := h
  unfold maxLen at hmax
  clear hread
  go_enter Tryz.func33, Tryz.ntmps33
  go_wp2_with fail
  refine (refCheck_any _ base _ H.out).mono ?_
  rintro e w1 ⟨rfl, hx⟩
  have X1 := Lib.hid hx
  clear hx
  cases hc : check base != 0
  case true =>
    have HE := Lib.hid (show baseErr base = check base by unfold baseErr; rw [hc]; rfl)
    go_wp2_with fail
    go_ret
    exact ⟨by rw [HE.out] <;> rfl, X1.out⟩
  case false =>
    have hc0 : check base = 0 := by simpa using hc
    by_cases hl : 64 < base.length
    · have hl1 : (64 : Int) < (base.length : Int) := by omega
      have HE := Lib.hid (show baseErr base = 8 by unfold baseErr; rw [hc, decide_eq_true hl]; rfl)
      clear hc0
      go_wp2_with fail
      go_ret
      exact ⟨by rw [HE.out] <;> rfl, X1.out⟩
    · have hl1 : ¬ (64 : Int) < (base.length : Int) := by omega
      have HC0 := Lib.hid hc0
      cases ha : base.all (normalN base)
      · have HA := Lib.hid ha
        have HE := Lib.hid (show baseErr base = 10 by unfold baseErr; rw [hc, decide_eq_false hl, ha]; rfl)
        clear hc0 ha
        go_wp2_with fail
        refine (rNormal_any _ base _ (H.out.ext X1.out) HC0.out).mono ?_
        rintro e w2 ⟨rfl, rfl⟩
        rw [HA.out]
        go_wp2_with fail
        go_ret
        exact ⟨by rw [HE.out] <;> rfl, X1.out⟩
      · have HA := Lib.hid ha
        have HE := Lib.hid (show baseErr base = 0 by unfold baseErr; rw [hc, decide_eq_false hl, ha]; rfl)
        clear hc0 ha
        go_wp2_with fail
        refine (rNormal_any _ base _ (H.out.ext X1.out) HC0.out).mono ?_
        rintro e w2 ⟨rfl, rfl⟩
        rw [HA.out]
        go_wp2_with fail
        go_ret
        exact ⟨by rw [HE.out] <;> rfl, X1.out⟩
end Go.Proofs.YtfcmdiigfgbgbaaGreat

/- The reference's Negation. -/

namespace Go.Proofs.YtfcmdiigfgbgbaaGreat
open Go.RowKit

set_option maxRecDepth 100000 in
set_option maxHeartbeats 4000000 in
theorem rNegation_any (v : Value) (base : List Nd) (node : Int) (w : World) (h : Fml w v base) :
    Calls Tryz.prog 12 #[v, .int .i64 node] w fun e w' => e = .returned (.int .i64 (NegationN base node)) ∧ Ext w w' := by
  have H := Lib.hid h
  obtain ⟨A, c, rfl, _⟩ := fml_slice h
  clear h
  by_cases hb : baseErr base = 0
  · have HB := Lib.hid hb
    clear hb
    by_cases h0 : 0 ≤ node
    · obtain ⟨k, rfl⟩ := Int.eq_ofNat_of_zero_le h0
      by_cases hk : k < base.length
      · have HK := Lib.hid hk
        have HC := Lib.hid (baseErr_ok HB.out).1
        have HF := Lib.hid (opp_fewN (baseErr_ok HB.out).1 (baseErr_ok HB.out).2.2 hk)
        have HE := Lib.hid (show NegationN base (k : Int) = placeN (formulasN base) (oppN (subN base k)) by
          unfold NegationN
          rw [HB.out, decide_eq_false (show ¬ (k : Int) < 0 by omega), decide_eq_false (show ¬ (base.length : Int) ≤ (k : Int) by omega)]
          rfl)
        have h1 : ¬ (base.length : Int) ≤ (k : Int) := by omega
        have h2 : decide (base.length ≤ k) = false := decide_eq_false (by omega)
        have h3 : ¬ (k : Int) < 0 := by omega
        have hl64 := (baseErr_ok HB.out).2.1
        go_enter Tryz.func12, Tryz.ntmps12
        go_wp2_with fail
        refine (rBase_any _ base _ H.out.1).mono ?_
        rintro e w1 ⟨rfl, hx⟩
        rw [HB.out]
        have X1 := Lib.hid hx
        clear hx
        go_wp2_with fail
        refine (refSub_any _ base (k : Int) _ (H.out.ext X1.out)).mono ?_
        rintro e w2 ⟨u2, rfl, hm⟩
        have M2 := Lib.hid hm
        have X2 := Lib.hid (X1.out.trans hm.2.2)
        obtain ⟨A2, c2, rfl, _⟩ := fml_slice hm.fml
        clear hm
        go_wp2_with fail
        refine (ropposite_any _ (subN base k) _ M2.out.fml HF.out).mono ?_
        rintro e w3 ⟨u3, rfl, hx, hu⟩
        have X3 := Lib.hid (X2.out.trans hx)
        have F3 := Lib.hid hu
        obtain ⟨A3, c3, rfl, _⟩ := fml_slice hu
        clear hx hu
        go_wp2_with fail
        go_loopw [6] (fun vi wr => ∃ j : Nat, vi = .int .i64 (j : Int) ∧ j ≤ base.length ∧ Hid (∀ i : Nat, i < j → decide (subN base i = oppN (subN base k)) = false) ∧ Hid (Ext w3 wr)) (fun vi _ => base.length - (intOf vi).toNat)
        case atStart => exact ⟨0, rfl, Nat.zero_le _, Lib.hid (fun i hi => absurd hi (Nat.not_lt_zero i)), Lib.hid (Ext.refl _)⟩
        case round =>
          obtain ⟨j, rfl, hj, HT, HX⟩ := hrel
          by_cases hlt : j < base.length
          · have HLT := Lib.hid hlt
            have HSA := Lib.hid (same_at HC.out hlt (subN base k))
            go_wp2_with fail
            refine (refSub_any _ base (j : Int) _ (H.out.ext (X3.out.trans HX.out))).mono ?_
            rintro e w5 ⟨u5, rfl, hm⟩
            have M5 := Lib.hid hm
            have X5 := Lib.hid (HX.out.trans hm.2.2)
            obtain ⟨A5, c5, rfl, _⟩ := fml_slice hm.fml
            clear hm
            go_wp2_with fail
            refine (refSame_any _ _ (subN base j) (oppN (subN base k)) _ M5.out.fml (F3.out.ext X5.out)).mono ?_
            rintro e w6 ⟨rfl, hx⟩
            rw [HSA.out]
            have X6 := Lib.hid (X5.out.trans hx)
            clear hx
            cases hd : decide (subN base j = oppN (subN base k))
            · have HT2 : Hid (∀ i : Nat, i < j + 1 → decide (subN base i = oppN (subN base k)) = false) := Lib.hid (fun i hi => by
                by_cases e : i = j
                · rw [e]; exact hd
                · exact HT.out i (by omega))
              clear hd
              go_wp2_with fail
              go_roundw
              case rel => exact ⟨j + 1, by go_num, by omega, HT2, X6⟩
              case measure => simp [intOf]; omega
            · have HP := Lib.hid (place_hit (g := oppN (subN base k)) HLT.out HT.out hd)
              clear hd
              go_wp2_with fail
              go_ret
              exact ⟨by rw [HE.out, HP.out] <;> rfl, X3.out.trans X6.out⟩
          · obtain rfl : base.length = j := by omega
            have HP := Lib.hid (place_none HT.out)
            go_wp2_with fail
            go_ret
            exact ⟨by rw [HE.out, HP.out] <;> rfl, X3.out.trans HX.out⟩
      · have HE := Lib.hid (show NegationN base (k : Int) = -1 by
          unfold NegationN
          rw [HB.out, decide_eq_false (show ¬ (k : Int) < 0 by omega), decide_eq_true (show (base.length : Int) ≤ (k : Int) by omega)]
          rfl)
        have h1 : (base.length : Int) ≤ (k : Int) := by omega
        have h2 : decide (base.length ≤ k) = true := decide_eq_true (by omega)
        have h3 : ¬ (k : Int) < 0 := by omega
        go_enter Tryz.func12, Tryz.ntmps12
        go_wp2_with fail
        refine (rBase_any _ base _ H.out.1).mono ?_
        rintro e w1 ⟨rfl, hx⟩
        rw [HB.out]
        have X1 := Lib.hid hx
        clear hx
        go_wp2_with fail
        go_ret
        exact ⟨by rw [HE.out] <;> rfl, X1.out⟩
    · have HE := Lib.hid (show NegationN base node = -1 by
        unfold NegationN
        rw [HB.out, decide_eq_true (show node < 0 by omega)]
        rfl)
      have h1 : decide (node < 0) = true := decide_eq_true (by omega)
      go_enter Tryz.func12, Tryz.ntmps12
      go_wp2_with fail
      refine (rBase_any _ base _ H.out.1).mono ?_
      rintro e w1 ⟨rfl, hx⟩
      rw [HB.out]
      have X1 := Lib.hid hx
      clear hx
      go_wp2_with fail
      go_ret
      exact ⟨by rw [HE.out] <;> rfl, X1.out⟩
  · have hb1 : (baseErr base != 0) = true := by simpa using hb
    have HE := Lib.hid (show NegationN base node = -1 by
      unfold NegationN
      rw [hb1]
      rfl)
    clear hb
    go_enter Tryz.func12, Tryz.ntmps12
    go_wp2_with fail
    refine (rBase_any _ base _ H.out.1).mono ?_
    rintro e w1 ⟨rfl, hx⟩
    have X1 := Lib.hid hx
    clear hx
    go_wp2_with fail
    go_ret
    exact ⟨by rw [HE.out] <;> rfl, X1.out⟩
end Go.Proofs.YtfcmdiigfgbgbaaGreat

/- The reference's Carry. -/

namespace Go.Proofs.YtfcmdiigfgbgbaaGreat
open Go.RowKit

set_option maxRecDepth 100000 in
set_option maxHeartbeats 16000000 in
theorem rCarry_any (lg : Int) (v : Value) (base : List Nd) (set : Nat) (ag : Int) (w : World) (h : Fml w v base) (hset : set < 18446744073709551616) :
    Calls Tryz.prog 14 #[.int .i64 lg, v, .int .u64 (set : Int), .int .i64 ag] w fun e w' => e = .returned (.int .u64 (CarryN lg base set ag : Nat)) ∧ Ext w w' := by
  have H := Lib.hid h
  obtain ⟨Ab, cb, rfl, hcap, hmax, hread⟩ := h.1
  have HREAD := Lib.hid hread
  unfold maxLen at hmax
  clear h hread
  cases hk : knownN lg
  · have HK := Lib.hid hk
    by_cases hlo : 0 ≤ lg
    · have hhi : ¬ lg ≤ 6 := fun h6 => by unfold knownN at hk; rw [decide_eq_true hlo, decide_eq_true h6] at hk; cases hk
      have HE := Lib.hid (show CarryN lg base set ag = 0 by unfold CarryN; rw [hk]; rfl)
      have hlo1 : ¬ lg < 0 := by omega
      have hhi1 : 6 < lg := by omega
      have hlo2 : decide (lg < 0) = false := decide_eq_false hlo1
      clear hk hlo hhi
      go_enter Tryz.func14, Tryz.ntmps14
      go_wp2_with fail
      go_ret
      exact ⟨by rw [HE.out] <;> rfl, Ext.refl _⟩
    · have hlo1 : lg < 0 := by omega
      have HE := Lib.hid (show CarryN lg base set ag = 0 by unfold CarryN; rw [hk]; rfl)
      clear hk hlo
      go_enter Tryz.func14, Tryz.ntmps14
      go_wp2_with fail
      go_ret
      exact ⟨by rw [HE.out] <;> rfl, Ext.refl _⟩
  · have HK := Lib.hid hk
    have hlo1 : ¬ lg < 0 := fun h0 => by unfold knownN at hk; rw [decide_eq_false (show ¬ 0 ≤ lg by omega)] at hk; cases hk
    have hhi1 : ¬ 6 < lg := fun h0 => by unfold knownN at hk; rw [decide_eq_false (show ¬ lg ≤ 6 by omega)] at hk; revert hk; cases decide (0 ≤ lg) <;> simp
    have hlo2 : decide (lg < 0) = false := decide_eq_false hlo1
    have hhi2 : decide (6 < lg) = false := decide_eq_false hhi1
    clear hk
    by_cases hb0 : baseErr base = 0
    · have HB := Lib.hid hb0
      have hlen := (baseErr_ok hb0).2.1
      cases hi : insideS base set
      · have HI := Lib.hid hi
        have HE := Lib.hid (show CarryN lg base set ag = 0 by unfold CarryN; rw [HK.out, HB.out, hi]; rfl)
        clear hb0 hi
        go_enter Tryz.func14, Tryz.ntmps14
        go_wp2_with fail
        refine (rBase_any _ base _ H.out.1).mono ?_
        rintro e w2 ⟨rfl, hx⟩
        rw [HB.out]
        have X2 := Lib.hid hx
        clear hx
        go_wp2_with fail
        refine (rinside_any Ab cb base set hset _).mono ?_
        rintro e w3 ⟨rfl, rfl⟩
        rw [HI.out]
        go_wp2_with fail
        go_ret
        exact ⟨by rw [HE.out] <;> rfl, X2.out⟩
      · have HI := Lib.hid hi
        clear hi
        by_cases h0 : 0 ≤ ag
        · have h0n : ¬ ag < 0 := by omega
          have h0d : decide (ag < 0) = false := decide_eq_false h0n
          by_cases h4 : ag < 4
          · have h4n : ¬ 4 ≤ ag := by omega
            have h4d : decide (4 ≤ ag) = false := decide_eq_false h4n
            have HN := Lib.hid (show CarryN lg base set ag = carryGo lg set ag (base.take base.length) 0 0 by unfold CarryN; rw [HK.out, HB.out, HI.out, decide_eq_false h0n, decide_eq_false h4n, List.take_of_length_le (Nat.le_refl _)]; rfl)
            have HOL := Lib.hid (carryGo_lt (lg := lg) (set := set) (ag := ag) (baseErr_ok hb0).2.1 (fun k n hn h9 => by have := base_x hb0 hn (by rw [h9]; rfl); omega))
            clear hb0
            go_enter Tryz.func14, Tryz.ntmps14
            go_wp2_with fail
            refine (rBase_any _ base _ H.out.1).mono ?_
            rintro e w2 ⟨rfl, hx⟩
            rw [HB.out]
            have X2 := Lib.hid hx
            clear hx
            go_wp2_with fail
            refine (rinside_any Ab cb base set hset _).mono ?_
            rintro e w3 ⟨rfl, rfl⟩
            rw [HI.out]
            go_wp2_with fail
            go_loopw [9, 10] (fun vo v wr => ∃ k out : Nat, v = .int .i64 (k : Int) ∧ vo = .int .u64 (out : Int) ∧ k ≤ base.length ∧ Hid (out = carryGo lg set ag (base.take k) 0 0) ∧ Hid (Ext w wr)) (fun _ v _ => base.length - (intOf v).toNat)
            case atStart => exact ⟨0, 0, rfl, rfl, Nat.zero_le _, Lib.hid rfl, X2⟩
            case round =>
              obtain ⟨k, out, rfl, rfl, hk, HO, HX⟩ := hrel
              have hout : out < 18446744073709551616 := by rw [HO.out]; exact HOL.out k hk
              by_cases hlt2 : k < base.length
              · obtain ⟨n, hn⟩ : ∃ n, base[k]? = some n := ⟨_, List.getElem?_eq_getElem hlt2⟩
                obtain ⟨ad, rfl, hblk, hcells⟩ := HREAD.out (by intro e; rw [e] at hlt2; simp at hlt2)
                obtain ⟨q0, q1, q2, q3, q4, q5⟩ := (hcells k n hn).keep fun p hp => HX.out.cell (p := p) (by rw [hp, block_of_add]; exact hblk)
                have hk0 : (0 : Int) ≤ (k : Int) := by omega
                have hk1 : (k : Int) < (base.length : Int) := by omega
                have HSTEP := Lib.hid (carry_step lg set ag hn)
                have HXB := Lib.hid (fun h9 : n.op = 9 => base_x HB.out hn (by rw [h9]; rfl))
                have hk6 : k < 64 := by omega
                have BK := shl_one hk6
                have MK : min k 64 = k := by omega
                clear hcells hn
                cases hin : inS set (k : Int)
                · have HO2 := Lib.hid (show out = carryGo lg set ag (base.take (k + 1)) 0 0 by rw [HSTEP.out, ← HO.out]; unfold carry1; rw [hin]; rfl)
                  go_wp2_with (first | (go_at_call 41; refine (rHas_any set hset (k : Int) _).mono ?_; rintro e w3 ⟨rfl, rfl⟩; rw [hin]) | (go_at_call 42; refine (rkeeps_any lg _).mono ?_; rintro e w4 ⟨rfl, rfl⟩; rw [HT.out]))
                  go_roundw
                  case rel => exact ⟨k + 1, out, by go_num, rfl, by omega, HO2, HX⟩
                  case measure => simp [intOf]; omega
                · cases hag : n.i != ag
                  · cases h9 : n.op == 9
                    · cases h10 : n.op == 10
                      · have HO2 := Lib.hid (show out = carryGo lg set ag (base.take (k + 1)) 0 0 by rw [HSTEP.out, ← HO.out]; unfold carry1; rw [hin, hag, h9, h10]; rfl)
                        go_wp2_with (first | (go_at_call 41; refine (rHas_any set hset (k : Int) _).mono ?_; rintro e w3 ⟨rfl, rfl⟩; rw [hin]) | (go_at_call 42; refine (rkeeps_any lg _).mono ?_; rintro e w4 ⟨rfl, rfl⟩; rw [HT.out]))
                        go_roundw
                        case rel => exact ⟨k + 1, out, by go_num, rfl, by omega, HO2, HX⟩
                        case measure => simp [intOf]; omega
                      · cases h5 : lg == 5
                        · cases h6 : lg == 6
                          · have HU := Lib.hid (show euclN lg = false by unfold euclN; rw [h5, h6]; rfl)
                            have HO2 := Lib.hid (show out = carryGo lg set ag (base.take (k + 1)) 0 0 by rw [HSTEP.out, ← HO.out]; unfold carry1; rw [hin, hag, h9, h10, HU.out]; rfl)
                            go_wp2_with (first | (go_at_call 41; refine (rHas_any set hset (k : Int) _).mono ?_; rintro e w3 ⟨rfl, rfl⟩; rw [hin]) | (go_at_call 42; refine (rkeeps_any lg _).mono ?_; rintro e w4 ⟨rfl, rfl⟩; rw [HT.out]))
                            go_roundw
                            case rel => exact ⟨k + 1, out, by go_num, rfl, by omega, HO2, HX⟩
                            case measure => simp [intOf]; omega
                          · have HU := Lib.hid (show euclN lg = true by unfold euclN; rw [h5, h6]; rfl)
                            have HO2 := Lib.hid (show (out ||| 2 ^ k) = carryGo lg set ag (base.take (k + 1)) 0 0 by rw [HSTEP.out, ← HO.out]; unfold carry1; rw [hin, hag, h9, h10, HU.out]; rfl)
                            go_wp2_with (first | (go_at_call 41; refine (rHas_any set hset (k : Int) _).mono ?_; rintro e w3 ⟨rfl, rfl⟩; rw [hin]) | (go_at_call 42; refine (rkeeps_any lg _).mono ?_; rintro e w4 ⟨rfl, rfl⟩; rw [HT.out]))
                            go_roundw
                            case rel => exact ⟨k + 1, (out ||| 2 ^ k), by go_num, by rw [or_pow hout hk6], by omega, HO2, HX⟩
                            case measure => simp [intOf]; omega
                        · have HU := Lib.hid (show euclN lg = true by unfold euclN; rw [h5]; rfl)
                          have HO2 := Lib.hid (show (out ||| 2 ^ k) = carryGo lg set ag (base.take (k + 1)) 0 0 by rw [HSTEP.out, ← HO.out]; unfold carry1; rw [hin, hag, h9, h10, HU.out]; rfl)
                          go_wp2_with (first | (go_at_call 41; refine (rHas_any set hset (k : Int) _).mono ?_; rintro e w3 ⟨rfl, rfl⟩; rw [hin]) | (go_at_call 42; refine (rkeeps_any lg _).mono ?_; rintro e w4 ⟨rfl, rfl⟩; rw [HT.out]))
                          go_roundw
                          case rel => exact ⟨k + 1, (out ||| 2 ^ k), by go_num, by rw [or_pow hout hk6], by omega, HO2, HX⟩
                          case measure => simp [intOf]; omega
                    · cases ht : transN lg
                      · have HT := Lib.hid ht
                        obtain ⟨hx0, hx1⟩ := HXB.out (by simpa using h9)
                        obtain ⟨xn, hxn⟩ := Int.eq_ofNat_of_zero_le hx0
                        rw [hxn] at q4 hx0 hx1
                        have HXN := Lib.hid (show n.x.toNat = xn by rw [hxn, Int.toNat_natCast])
                        clear hxn
                        have hx6 : xn < 64 := by omega
                        have BX := shl_one hx6
                        have MX : min xn 64 = xn := by omega
                        have h10 : (n.op == 10) = false := by rw [show n.op = 9 by simpa using h9]; rfl
                        have HO2 := Lib.hid (show (out ||| 2 ^ xn) = carryGo lg set ag (base.take (k + 1)) 0 0 by rw [HSTEP.out, ← HO.out]; unfold carry1; rw [hin, hag, h9, ht, HXN.out]; rfl)
                        go_wp2_with (first | (go_at_call 41; refine (rHas_any set hset (k : Int) _).mono ?_; rintro e w3 ⟨rfl, rfl⟩; rw [hin]) | (go_at_call 42; refine (rkeeps_any lg _).mono ?_; rintro e w4 ⟨rfl, rfl⟩; rw [HT.out]))
                        go_roundw
                        case rel => exact ⟨k + 1, (out ||| 2 ^ xn), by go_num, by rw [or_pow hout hx6], by omega, HO2, HX⟩
                        case measure => simp [intOf]; omega
                      · have HT := Lib.hid ht
                        obtain ⟨hx0, hx1⟩ := HXB.out (by simpa using h9)
                        obtain ⟨xn, hxn⟩ := Int.eq_ofNat_of_zero_le hx0
                        rw [hxn] at q4 hx0 hx1
                        have HXN := Lib.hid (show n.x.toNat = xn by rw [hxn, Int.toNat_natCast])
                        clear hxn
                        have hx6 : xn < 64 := by omega
                        have BX := shl_one hx6
                        have MX : min xn 64 = xn := by omega
                        have h10 : (n.op == 10) = false := by rw [show n.op = 9 by simpa using h9]; rfl
                        have HO2 := Lib.hid (show ((out ||| 2 ^ xn) ||| 2 ^ k) = carryGo lg set ag (base.take (k + 1)) 0 0 by rw [HSTEP.out, ← HO.out]; unfold carry1; rw [hin, hag, h9, ht, HXN.out, Nat.or_assoc]; rfl)
                        go_wp2_with (first | (go_at_call 41; refine (rHas_any set hset (k : Int) _).mono ?_; rintro e w3 ⟨rfl, rfl⟩; rw [hin]) | (go_at_call 42; refine (rkeeps_any lg _).mono ?_; rintro e w4 ⟨rfl, rfl⟩; rw [HT.out]))
                        go_roundw
                        case rel => exact ⟨k + 1, ((out ||| 2 ^ xn) ||| 2 ^ k), by go_num, by rw [or_pow hout hx6, or_pow (or_lt64 hout (two_pow_lt64 hx6)) hk6], by omega, HO2, HX⟩
                        case measure => simp [intOf]; omega
                  · have HO2 := Lib.hid (show out = carryGo lg set ag (base.take (k + 1)) 0 0 by rw [HSTEP.out, ← HO.out]; unfold carry1; rw [hin, hag]; rfl)
                    go_wp2_with (first | (go_at_call 41; refine (rHas_any set hset (k : Int) _).mono ?_; rintro e w3 ⟨rfl, rfl⟩; rw [hin]) | (go_at_call 42; refine (rkeeps_any lg _).mono ?_; rintro e w4 ⟨rfl, rfl⟩; rw [HT.out]))
                    go_roundw
                    case rel => exact ⟨k + 1, out, by go_num, rfl, by omega, HO2, HX⟩
                    case measure => simp [intOf]; omega
              · obtain rfl : base.length = k := by omega
                have HE := Lib.hid (show CarryN lg base set ag = out by rw [HN.out, HO.out])
                go_wp2_with fail
                go_ret
                exact ⟨by rw [HE.out] <;> rfl, HX.out⟩
          · have h4n : 4 ≤ ag := by omega
            have h4d : decide (4 ≤ ag) = true := decide_eq_true h4n
            have HE := Lib.hid (show CarryN lg base set ag = 0 by unfold CarryN; rw [HK.out, HB.out, HI.out, decide_eq_false h0n, decide_eq_true h4n]; rfl)
            clear hb0
            go_enter Tryz.func14, Tryz.ntmps14
            go_wp2_with fail
            refine (rBase_any _ base _ H.out.1).mono ?_
            rintro e w2 ⟨rfl, hx⟩
            rw [HB.out]
            have X2 := Lib.hid hx
            clear hx
            go_wp2_with fail
            refine (rinside_any Ab cb base set hset _).mono ?_
            rintro e w3 ⟨rfl, rfl⟩
            rw [HI.out]
            go_wp2_with fail
            go_ret
            exact ⟨by rw [HE.out] <;> rfl, X2.out⟩
        · have h0n : ag < 0 := by omega
          have h0d : decide (ag < 0) = true := decide_eq_true h0n
          have HE := Lib.hid (show CarryN lg base set ag = 0 by unfold CarryN; rw [HK.out, HB.out, HI.out, decide_eq_true h0n]; rfl)
          clear hb0
          go_enter Tryz.func14, Tryz.ntmps14
          go_wp2_with fail
          refine (rBase_any _ base _ H.out.1).mono ?_
          rintro e w2 ⟨rfl, hx⟩
          rw [HB.out]
          have X2 := Lib.hid hx
          clear hx
          go_wp2_with fail
          refine (rinside_any Ab cb base set hset _).mono ?_
          rintro e w3 ⟨rfl, rfl⟩
          rw [HI.out]
          go_wp2_with fail
          go_ret
          exact ⟨by rw [HE.out] <;> rfl, X2.out⟩
    · have hb1 : (baseErr base != 0) = true := by simpa using hb0
      have HB1 := Lib.hid hb1
      have HE := Lib.hid (show CarryN lg base set ag = 0 by unfold CarryN; rw [HK.out, hb1]; rfl)
      clear hb0
      go_enter Tryz.func14, Tryz.ntmps14
      go_wp2_with fail
      refine (rBase_any _ base _ H.out.1).mono ?_
      rintro e w2 ⟨rfl, hx⟩
      have X2 := Lib.hid hx
      clear hx
      go_wp2_with fail
      go_ret
      exact ⟨by rw [HE.out] <;> rfl, X2.out⟩
end Go.Proofs.YtfcmdiigfgbgbaaGreat
