/- The reference's modal: steps of a wrong form, and RuleT. -/
import Derived.Test.YtfcmdiigfgbgbaaGreatGQ
import Derived.Test.YtfcmdiigfgbgbaaGreatGP
import Derived.OrdersHeld
import Derived.Test.YtfcmdiigfgbgbaaGreatGF1

namespace Go.Proofs.YtfcmdiigfgbgbaaGreat
open Go.RowKit

def modalQ (lg : Int) (base : List Nd) (steps : List Stp) (at_ : Nat) (x : Stp) : Bool :=
  bif x.from_.length != 1 || x.e != 0 then false
  else bif x.rule == 5 then (lg == 2 || (lg == 4 || lg == 6)) && (onN base x 9 && prem1 steps at_ 0 (x.set ||| 2 ^ (nodeOn base x).x.toNat))
  else bif x.rule == 6 then onN base x 10 && prem1 steps at_ 0 (2 ^ (nodeOn base x).x.toNat ||| CarryN lg base x.set (nodeOn base x).i)
  else (lg == 1 || lg == 5) && (x.rule == 7 && (decide (0 ≤ x.on) && (decide (x.on < 4) && prem1 steps at_ 0 (CarryN lg base x.set x.on))))
def correctQ (lg : Int) (base : List Nd) (steps : List Stp) (at_ : Nat) (x : Stp) : Bool :=
  bif !insideS base x.set then false
  else bif x.rule == 1 then closesQ base x
  else bif x.rule == 2 then x.from_.length == 1 && (x.e == 0 && (onN base x 5 && prem1 steps at_ 0 (x.set ||| 2 ^ (nodeOn base x).x.toNat ||| 2 ^ (nodeOn base x).y.toNat)))
  else bif x.rule == 3 then x.from_.length == 2 && (x.e == 0 && (onN base x 6 && (prem1 steps at_ 0 (x.set ||| 2 ^ (nodeOn base x).x.toNat) && prem1 steps at_ 1 (x.set ||| 2 ^ (nodeOn base x).y.toNat))))
  else bif x.rule == 4 then x.from_.length == 2 && (decide (0 ≤ x.on) && (decide (x.on < (base.length : Int)) && (decide (0 ≤ x.e) && (NegationN base x.on == x.e && (prem1 steps at_ 0 (x.set ||| 2 ^ x.on.toNat) && prem1 steps at_ 1 (x.set ||| 2 ^ x.e.toNat))))))
  else modalQ lg base steps at_ x
theorem on_yes {base : List Nd} {x : Stp} {op : Int} (h : onN base x op = true) : ∃ (k : Nat) (n : Nd), x.on = k ∧ base[k]? = some n ∧ n.op = op ∧ inS x.set x.on = true := by
  by_cases h0 : x.on < 0
  · rw [onN_no1 h0] at h; cases h
  · obtain ⟨k, hk⟩ := Int.eq_ofNat_of_zero_le (show 0 ≤ x.on by omega)
    by_cases h1 : (base.length : Int) ≤ x.on
    · rw [onN_no2 h1] at h; cases h
    · cases h2 : inS x.set x.on
      · rw [onN_no3 h2] at h; cases h
      · obtain ⟨n, hn⟩ : ∃ n, base[k]? = some n := ⟨_, List.getElem?_eq_getElem (show k < base.length by omega)⟩
        rw [onN_yes hk hn h2, beq_iff_eq] at h
        exact ⟨k, n, hk, hn, h, rfl⟩
theorem pow_orq {x c : Nat} (hx : x < 64) (hc : c < 18446744073709551616) : bits .or .u64 ((2 : Int) ^ x) (c : Int) = ((2 ^ x ||| c : Nat) : Int) := by
  rw [show ((2 : Int) ^ x) = ((2 ^ x : Nat) : Int) by simp]
  exact bits_or_u64_nat _ _ (two_pow_lt64 hx) hc
theorem CarryN_lt {lg : Int} {base : List Nd} {set : Nat} {ag : Int} (h : baseErr base = 0) : CarryN lg base set ag < 18446744073709551616 := by
  unfold CarryN
  cases (!knownN lg || (baseErr base != 0 || (!insideS base set || (decide (ag < 0) || decide (4 ≤ ag)))))
  · exact carryN_lt h
  · exact (by decide : (0 : Nat) < 18446744073709551616)
theorem neg_range {base : List Nd} {z : Int} : NegationN base z < base.length ∨ NegationN base z = -1 := by
  unfold NegationN
  cases (baseErr base != 0 || (decide (z < 0) || decide ((base.length : Int) ≤ z)))
  · rw [cond_false]
    unfold negationN placeN
    cases h : (formulasN base).findIdx? (fun f => decide (f = oppN (subN base z))) with
    | none => exact .inr rfl
    | some j =>
      have := (List.findIdx?_eq_some_iff_getElem.1 h).1
      left
      show (j : Int) < _
      have hl : (formulasN base).length = base.length := by simp [formulasN]
      omega
  · exact .inr rfl
set_option maxRecDepth 100000 in
set_option maxHeartbeats 40000000 in
theorem rmodal_bad {w : World} {lg : Int} {base : List Nd} {steps : List Stp} {Ab As : Option Addr} {cb cs : Nat} (hb : Fml w (.slice Ab base.length cb) base) (hst : Sps w (.slice As steps.length cs) steps) (hbe : baseErr base = 0) (at_ : Nat) (s : Nat) (ru on e : Int) (fr : List Int) (hx : steps[at_]? = some ⟨s, ru, on, e, fr⟩) (hbad : fr.length ≠ 1 ∨ e ≠ 0) :
    Calls Tryz.prog 58 #[.agg #[.int .i64 lg, .slice Ab base.length cb, .slice As steps.length cs], .int .i64 (at_ : Int)] w fun e' w' => e' = .returned (.bool (modalQ lg base steps at_ ⟨s, ru, on, e, fr⟩)) ∧ Ext w w' := by
  have H := Lib.hid hb
  have HST := Lib.hid hst
  have HBE := Lib.hid hbe
  have HX := Lib.hid hx
  obtain ⟨ad, rfl, hcap, hmax, hblk, hrow⟩ := hst.rows (by intro e; rw [e] at hx; cases hx)
  obtain ⟨ur, q0, q1, q2, q3, q4, ⟨Af, cf, rfl, _⟩, hset⟩ := hrow at_ _ hx
  have hat := (List.getElem?_eq_some_iff.1 hx).1
  have ha1 : (at_ : Int) < (steps.length : Int) := by omega
  have ha0 : (0 : Int) ≤ (at_ : Int) := by omega
  simp only at q0 q1 q2 q3 q4 hset
  have HBLK := Lib.hid hblk
  have hab := block_of_add ad (at_ * 5)
  have HQ := Lib.hid (And.intro q0 (And.intro q1 (And.intro q2 (And.intro q3 q4))))
  have HADB := Lib.hid (show (ad.add (at_ * 5)).block < w.heap.size by rw [hab]; exact hblk)
  clear hx hst hb hbe hrow hab q0 q1 q2 q3 q4 hblk
  by_cases hfr : fr.length = 1
  · have hfi : ((fr.length : Int) == 1) = true := by rw [hfr]; rfl
    have hfn : ((fr.length : Int) != 1) = false := by rw [hfr]; rfl
    have hfb : (fr.length == 1) = true := by rw [hfr]; rfl
    have HFR := Lib.hid hfr
    clear hfr
    have he : e ≠ 0 := by
      rcases hbad with h | h
      · exact absurd HFR.out h
      · exact h
    have heb : (e != 0) = true := by simpa using he
    have heq : (e == 0) = false := by simpa using he
    have HE := Lib.hid (show modalQ lg base steps at_ ⟨s, ru, on, e, fr⟩ = false by unfold modalQ; simp only [bne, hfb, heq]; rfl)
    clear hbad he
    have QQ := HQ.out
    obtain ⟨q0, q1, q2, q3, q4⟩ := QQ
    have hxa : Ext w (w.alloc (.cells #[.int .i64 lg, .slice Ab base.length cb, .slice (some ad) steps.length cs] 25)) := (Ext.refl _).alloc _
    have a0 := (hxa.cell (p := ad.add (at_ * 5)) HADB.out).trans q0
    have a1 := (hxa.cell (p := ⟨(ad.add (at_ * 5)).block, (ad.add (at_ * 5)).off + 1, none⟩) HADB.out).trans q1
    have a2 := (hxa.cell (p := ⟨(ad.add (at_ * 5)).block, (ad.add (at_ * 5)).off + 2, none⟩) HADB.out).trans q2
    have a3 := (hxa.cell (p := ⟨(ad.add (at_ * 5)).block, (ad.add (at_ * 5)).off + 3, none⟩) HADB.out).trans q3
    have a4 := (hxa.cell (p := ⟨(ad.add (at_ * 5)).block, (ad.add (at_ * 5)).off + 4, none⟩) HADB.out).trans q4
    have XE := Lib.hid (show Ext w ((w.alloc (.cells #[.int .i64 lg, .slice Ab base.length cb, .slice (some ad) steps.length cs] 25)).alloc (.cells #[.int .u64 (s : Int), .int .i64 ru, .int .i64 on, .int .i64 e, .slice Af fr.length cf] 37)) from ((Ext.refl _).alloc _).alloc _)
    clear hxa q0 q1 q2 q3 q4
    go_enter Tryz.func58, Tryz.ntmps58
    go_wp2_with fail
    go_ret
    exact ⟨by rw [HE.out] <;> rfl, XE.out⟩
  · have hfb : (fr.length == 1) = false := by rw [beq_eq_false_iff_ne]; exact hfr
    have hfi : ((fr.length : Int) == 1) = false := by rw [beq_eq_false_iff_ne]; omega
    have hfn : ((fr.length : Int) != 1) = true := by simp [bne, hfi]
    have HE := Lib.hid (show modalQ lg base steps at_ ⟨s, ru, on, e, fr⟩ = false by unfold modalQ; simp only [bne, hfb]; rfl)
    clear hbad
    have QQ := HQ.out
    obtain ⟨q0, q1, q2, q3, q4⟩ := QQ
    have hxa : Ext w (w.alloc (.cells #[.int .i64 lg, .slice Ab base.length cb, .slice (some ad) steps.length cs] 25)) := (Ext.refl _).alloc _
    have a0 := (hxa.cell (p := ad.add (at_ * 5)) HADB.out).trans q0
    have a1 := (hxa.cell (p := ⟨(ad.add (at_ * 5)).block, (ad.add (at_ * 5)).off + 1, none⟩) HADB.out).trans q1
    have a2 := (hxa.cell (p := ⟨(ad.add (at_ * 5)).block, (ad.add (at_ * 5)).off + 2, none⟩) HADB.out).trans q2
    have a3 := (hxa.cell (p := ⟨(ad.add (at_ * 5)).block, (ad.add (at_ * 5)).off + 3, none⟩) HADB.out).trans q3
    have a4 := (hxa.cell (p := ⟨(ad.add (at_ * 5)).block, (ad.add (at_ * 5)).off + 4, none⟩) HADB.out).trans q4
    have XE := Lib.hid (show Ext w ((w.alloc (.cells #[.int .i64 lg, .slice Ab base.length cb, .slice (some ad) steps.length cs] 25)).alloc (.cells #[.int .u64 (s : Int), .int .i64 ru, .int .i64 on, .int .i64 e, .slice Af fr.length cf] 37)) from ((Ext.refl _).alloc _).alloc _)
    clear hxa q0 q1 q2 q3 q4
    go_enter Tryz.func58, Tryz.ntmps58
    go_wp2_with fail
    go_ret
    exact ⟨by rw [HE.out] <;> rfl, XE.out⟩
set_option maxRecDepth 100000 in
set_option maxHeartbeats 40000000 in
theorem rmodal_T {w : World} {lg : Int} {base : List Nd} {steps : List Stp} {Ab As : Option Addr} {cb cs : Nat} (hb : Fml w (.slice Ab base.length cb) base) (hst : Sps w (.slice As steps.length cs) steps) (hbe : baseErr base = 0) (at_ : Nat) (s : Nat) (ru on e : Int) (fr : List Int) (hx : steps[at_]? = some ⟨s, ru, on, e, fr⟩) (hr : ru = 5) (hfr : fr.length = 1) (he : e = 0) :
    Calls Tryz.prog 58 #[.agg #[.int .i64 lg, .slice Ab base.length cb, .slice As steps.length cs], .int .i64 (at_ : Int)] w fun e' w' => e' = .returned (.bool (modalQ lg base steps at_ ⟨s, 5, on, 0, fr⟩)) ∧ Ext w w' := by
  subst hr
  have H := Lib.hid hb
  have HST := Lib.hid hst
  have HBE := Lib.hid hbe
  have HX := Lib.hid hx
  obtain ⟨ad, rfl, hcap, hmax, hblk, hrow⟩ := hst.rows (by intro e; rw [e] at hx; cases hx)
  obtain ⟨ur, q0, q1, q2, q3, q4, ⟨Af, cf, rfl, _⟩, hset⟩ := hrow at_ _ hx
  have hat := (List.getElem?_eq_some_iff.1 hx).1
  have ha1 : (at_ : Int) < (steps.length : Int) := by omega
  have ha0 : (0 : Int) ≤ (at_ : Int) := by omega
  simp only at q0 q1 q2 q3 q4 hset
  have HBLK := Lib.hid hblk
  have hab := block_of_add ad (at_ * 5)
  have HQ := Lib.hid (And.intro q0 (And.intro q1 (And.intro q2 (And.intro q3 q4))))
  have HADB := Lib.hid (show (ad.add (at_ * 5)).block < w.heap.size by rw [hab]; exact hblk)
  clear hx hst hb hbe hrow hab q0 q1 q2 q3 q4 hblk
  subst he
  have hfi : ((fr.length : Int) == 1) = true := by rw [hfr]; rfl
  have hfn : ((fr.length : Int) != 1) = false := by rw [hfr]; rfl
  have hfb : (fr.length == 1) = true := by rw [hfr]; rfl
  have HFR := Lib.hid hfr
  clear hfr
  cases hl2 : lg == 2
  · skip
    cases hl4 : lg == 4
    · skip
      cases hl6 : lg == 6
      · skip
        have HE := Lib.hid (show modalQ lg base steps at_ ⟨s, 5, on, 0, fr⟩ = false by unfold modalQ; simp only [bne, hfb, hl2, hl4, hl6]; rfl)
        have QQ := HQ.out
        obtain ⟨q0, q1, q2, q3, q4⟩ := QQ
        have hxa : Ext w (w.alloc (.cells #[.int .i64 lg, .slice Ab base.length cb, .slice (some ad) steps.length cs] 25)) := (Ext.refl _).alloc _
        have a0 := (hxa.cell (p := ad.add (at_ * 5)) HADB.out).trans q0
        have a1 := (hxa.cell (p := ⟨(ad.add (at_ * 5)).block, (ad.add (at_ * 5)).off + 1, none⟩) HADB.out).trans q1
        have a2 := (hxa.cell (p := ⟨(ad.add (at_ * 5)).block, (ad.add (at_ * 5)).off + 2, none⟩) HADB.out).trans q2
        have a3 := (hxa.cell (p := ⟨(ad.add (at_ * 5)).block, (ad.add (at_ * 5)).off + 3, none⟩) HADB.out).trans q3
        have a4 := (hxa.cell (p := ⟨(ad.add (at_ * 5)).block, (ad.add (at_ * 5)).off + 4, none⟩) HADB.out).trans q4
        have XE := Lib.hid (show Ext w ((w.alloc (.cells #[.int .i64 lg, .slice Ab base.length cb, .slice (some ad) steps.length cs] 25)).alloc (.cells #[.int .u64 (s : Int), .int .i64 5, .int .i64 on, .int .i64 0, .slice Af fr.length cf] 37)) from ((Ext.refl _).alloc _).alloc _)
        clear hxa q0 q1 q2 q3 q4
        go_enter Tryz.func58, Tryz.ntmps58
        go_wp2_with fail
        obtain ⟨W, hW⟩ : ∃ W, W = (w.alloc (.cells #[.int .i64 lg, .slice Ab base.length cb, .slice (some ad) steps.length cs] 25)).alloc (.cells #[.int .u64 (s : Int), .int .i64 5, .int .i64 on, .int .i64 0, .slice Af fr.length cf] 37) := ⟨_, rfl⟩
        have hA : W.heap[w.heap.size]? = some (.cells #[.int .i64 lg, .slice Ab base.length cb, .slice (some ad) steps.length cs] 25 (0, 0)) := by
          rw [hW]
          exact (((Ext.refl _).alloc _).block (by simp)).trans (heap_alloc_new _ _)
        have hB : W.heap[w.heap.size + 1]? = some (.cells #[.int .u64 (s : Int), .int .i64 5, .int .i64 on, .int .i64 0, .slice Af fr.length cf] 37 (0, 0)) := by
          have := heap_alloc_new (w.alloc (.cells #[.int .i64 lg, .slice Ab base.length cb, .slice (some ad) steps.length cs] 25)) (.cells #[.int .u64 (s : Int), .int .i64 5, .int .i64 on, .int .i64 0, .slice Af fr.length cf] 37)
          rw [hW]
          simpa using this
        have X0 : Hid (Ext w W) := by rw [hW]; exact XE
        rw [← hW]
        clear hW XE a0 a1 a2 a3 a4
        obtain ⟨r0, r1, r2, _, rlt⟩ := cells3 hA
        obtain ⟨m0, m1, m2, m3, m4, _, mlt⟩ := cells5s hB
        clear hA hB
        refine wp_region_held_drew (S := fun w' => w'.cell? (⟨w.heap.size, 0, none⟩) = some (.int .i64 lg) ∧ w'.cell? (⟨w.heap.size, 1, none⟩) = some (.slice Ab base.length cb) ∧ w'.cell? (⟨w.heap.size, 2, none⟩) = some (.slice (some ad) steps.length cs) ∧ w'.cell? (⟨w.heap.size + 1, 0, none⟩) = some (.int .u64 (s : Int)) ∧ w'.cell? (⟨w.heap.size + 1, 1, none⟩) = some (.int .i64 5) ∧ w'.cell? (⟨w.heap.size + 1, 2, none⟩) = some (.int .i64 on) ∧ w'.cell? (⟨w.heap.size + 1, 3, none⟩) = some (.int .i64 0) ∧ w'.cell? (⟨w.heap.size + 1, 4, none⟩) = some (.slice Af fr.length cf)) (by kernel_rfl) ⟨xc rlt r0, xc rlt r1, xc rlt r2, xc mlt m0, xc mlt m1, xc mlt m2, xc mlt m3, xc mlt m4⟩ (fun hHeld => ?_)
        refine tk 0 hHeld ?_
        refine tk 1 hHeld ?_
        refine un 2 hHeld ?_
        refine un 3 hHeld ?_
        refine un 4 hHeld ?_
        refine tk 5 hHeld ?_
        refine tk 6 hHeld ?_
        refine un 7 hHeld ?_
        refine un 8 hHeld ?_
        refine un 9 hHeld ?_
        refine un 10 hHeld ?_
        refine un 11 hHeld ?_
        refine un 12 hHeld ?_
        refine un 13 hHeld ?_
        refine un 14 hHeld ?_
        refine un 15 hHeld ?_
        refine un 16 hHeld ?_
        refine un 17 hHeld ?_
        refine un 18 hHeld ?_
        refine un 19 hHeld ?_
        refine un 20 hHeld ?_
        refine tk 21 hHeld ?_
        refine tk 22 hHeld ?_
        refine wpAnyH_done (by kernel_rfl) ?_ _
        go_wp2_with fail
        go_ret
        exact ⟨by rw [HE.out] <;> rfl, X0.out.trans xw⟩
      · skip
        cases hon : onN base ⟨s, 5, on, 0, fr⟩ 9
        · have Hon := Lib.hid hon
          have HE := Lib.hid (show modalQ lg base steps at_ ⟨s, 5, on, 0, fr⟩ = false by unfold modalQ; simp only [bne, hfb, hl2, hl4, hl6, hon]; rfl)
          clear hon
          have QQ := HQ.out
          obtain ⟨q0, q1, q2, q3, q4⟩ := QQ
          have hxa : Ext w (w.alloc (.cells #[.int .i64 lg, .slice Ab base.length cb, .slice (some ad) steps.length cs] 25)) := (Ext.refl _).alloc _
          have a0 := (hxa.cell (p := ad.add (at_ * 5)) HADB.out).trans q0
          have a1 := (hxa.cell (p := ⟨(ad.add (at_ * 5)).block, (ad.add (at_ * 5)).off + 1, none⟩) HADB.out).trans q1
          have a2 := (hxa.cell (p := ⟨(ad.add (at_ * 5)).block, (ad.add (at_ * 5)).off + 2, none⟩) HADB.out).trans q2
          have a3 := (hxa.cell (p := ⟨(ad.add (at_ * 5)).block, (ad.add (at_ * 5)).off + 3, none⟩) HADB.out).trans q3
          have a4 := (hxa.cell (p := ⟨(ad.add (at_ * 5)).block, (ad.add (at_ * 5)).off + 4, none⟩) HADB.out).trans q4
          have XE := Lib.hid (show Ext w ((w.alloc (.cells #[.int .i64 lg, .slice Ab base.length cb, .slice (some ad) steps.length cs] 25)).alloc (.cells #[.int .u64 (s : Int), .int .i64 5, .int .i64 on, .int .i64 0, .slice Af fr.length cf] 37)) from ((Ext.refl _).alloc _).alloc _)
          clear hxa q0 q1 q2 q3 q4
          go_enter Tryz.func58, Tryz.ntmps58
          go_wp2_with fail
          obtain ⟨W, hW⟩ : ∃ W, W = (w.alloc (.cells #[.int .i64 lg, .slice Ab base.length cb, .slice (some ad) steps.length cs] 25)).alloc (.cells #[.int .u64 (s : Int), .int .i64 5, .int .i64 on, .int .i64 0, .slice Af fr.length cf] 37) := ⟨_, rfl⟩
          have hA : W.heap[w.heap.size]? = some (.cells #[.int .i64 lg, .slice Ab base.length cb, .slice (some ad) steps.length cs] 25 (0, 0)) := by
            rw [hW]
            exact (((Ext.refl _).alloc _).block (by simp)).trans (heap_alloc_new _ _)
          have hB : W.heap[w.heap.size + 1]? = some (.cells #[.int .u64 (s : Int), .int .i64 5, .int .i64 on, .int .i64 0, .slice Af fr.length cf] 37 (0, 0)) := by
            have := heap_alloc_new (w.alloc (.cells #[.int .i64 lg, .slice Ab base.length cb, .slice (some ad) steps.length cs] 25)) (.cells #[.int .u64 (s : Int), .int .i64 5, .int .i64 on, .int .i64 0, .slice Af fr.length cf] 37)
            rw [hW]
            simpa using this
          have X0 : Hid (Ext w W) := by rw [hW]; exact XE
          rw [← hW]
          clear hW XE a0 a1 a2 a3 a4
          obtain ⟨r0, r1, r2, _, rlt⟩ := cells3 hA
          obtain ⟨m0, m1, m2, m3, m4, _, mlt⟩ := cells5s hB
          clear hA hB
          refine wp_region_held_drew (S := fun w' => w'.cell? (⟨w.heap.size, 0, none⟩) = some (.int .i64 lg) ∧ w'.cell? (⟨w.heap.size, 1, none⟩) = some (.slice Ab base.length cb) ∧ w'.cell? (⟨w.heap.size, 2, none⟩) = some (.slice (some ad) steps.length cs) ∧ w'.cell? (⟨w.heap.size + 1, 0, none⟩) = some (.int .u64 (s : Int)) ∧ w'.cell? (⟨w.heap.size + 1, 1, none⟩) = some (.int .i64 5) ∧ w'.cell? (⟨w.heap.size + 1, 2, none⟩) = some (.int .i64 on) ∧ w'.cell? (⟨w.heap.size + 1, 3, none⟩) = some (.int .i64 0) ∧ w'.cell? (⟨w.heap.size + 1, 4, none⟩) = some (.slice Af fr.length cf)) (by kernel_rfl) ⟨xc rlt r0, xc rlt r1, xc rlt r2, xc mlt m0, xc mlt m1, xc mlt m2, xc mlt m3, xc mlt m4⟩ (fun hHeld => ?_)
          refine tk 0 hHeld ?_
          refine tk 1 hHeld ?_
          refine tk 2 hHeld ?_
          refine tk 3 hHeld ?_
          refine wpAnyH_ready (rs := [4]) (by kernel_rfl) (by simp) ?_
          refine AllReadyH.cons rfl (fun K hK => ?_) AllReadyH.nil
          go_simp
          (go_at_call 56; refine (ron_any (lg := lg) (steps := steps) (As := some ad) (cs := cs) (H.out.ext (X0.out.trans xw)) s hset 5 on 0 fr Af cf 9).mono ?_; rintro e2 wz3 ⟨rfl, hv⟩; rw [Hon.out]; have hx3 : Ext W wz3 := xt hv; clear hv)
          go_wp2_with fail
          refine hK.out _ _ ⟨xc rlt r0, xc rlt r1, xc rlt r2, xc mlt m0, xc mlt m1, xc mlt m2, xc mlt m3, xc mlt m4⟩ (fun hHeld => ?_)
          clear hK K
          try simp only [Act.put, List.setIfInBounds_toArray, List.set_cons_zero, List.set_cons_succ, List.getElem_toArray, List.getElem_cons_succ, List.getElem_cons_zero]
          refine tk 5 hHeld ?_
          refine tk 6 hHeld ?_
          refine un 7 hHeld ?_
          refine un 8 hHeld ?_
          refine un 9 hHeld ?_
          refine un 10 hHeld ?_
          refine un 11 hHeld ?_
          refine un 12 hHeld ?_
          refine un 13 hHeld ?_
          refine un 14 hHeld ?_
          refine un 15 hHeld ?_
          refine un 16 hHeld ?_
          refine un 17 hHeld ?_
          refine un 18 hHeld ?_
          refine un 19 hHeld ?_
          refine un 20 hHeld ?_
          refine tk 21 hHeld ?_
          refine tk 22 hHeld ?_
          refine wpAnyH_done (by kernel_rfl) ?_ _
          go_wp2_with fail
          go_ret
          exact ⟨by rw [HE.out] <;> rfl, X0.out.trans xw⟩
        · skip
          obtain ⟨k, n, hk, hn, hop, hin⟩ := on_yes hon
          simp only at hk
          subst hk
          have Hon := Lib.hid hon
          have HNO := Lib.hid (show nodeOn base ⟨s, 5, (k : Int), 0, fr⟩ = n by unfold nodeOn; rw [show (⟨s, 5, (k : Int), 0, fr⟩ : Stp).on = (k : Int) from rfl, Int.toNat_natCast, getD_of hn])
          obtain ⟨hx0, hx1⟩ := base_x HBE.out hn (by rw [hop]; rfl)
          obtain ⟨xn, hxn⟩ := Int.eq_ofNat_of_zero_le hx0
          have hx6 : xn < 64 := by omega
          obtain ⟨ag, hag⟩ : ∃ ag, ag = n.i := ⟨_, rfl⟩
          obtain ⟨yv, hyn⟩ : ∃ yv, n.y = yv := ⟨_, rfl⟩
          have HXN := Lib.hid hxn
          have HYN := Lib.hid hyn
          have HAG := Lib.hid hag
          have HNN := Lib.hid hn
          have HOP := Lib.hid hop
          have BX := shl_one hx6
          have MX : min xn 64 = xn := by omega
          obtain ⟨A', c', eA, hcapb, hmaxb, hreadb⟩ := H.out.1
          obtain ⟨rfl, rfl⟩ : Ab = A' ∧ cb = c' := by injection eA with eA _ eC; exact ⟨eA, eC⟩
          obtain ⟨adb, rfl, hblkb, hcb⟩ := hreadb (by intro e; rw [e] at hn; cases hn)
          have HNC := Lib.hid (show (adb.add (k * 6)).block < w.heap.size ∧ w.cell? ⟨(adb.add (k * 6)).block, (adb.add (k * 6)).off + 1, none⟩ = some (.int .i64 ag) ∧ w.cell? ⟨(adb.add (k * 6)).block, (adb.add (k * 6)).off + 4, none⟩ = some (.int .i64 (xn : Int)) ∧ w.cell? ⟨(adb.add (k * 6)).block, (adb.add (k * 6)).off + 5, none⟩ = some (.int .i64 yv) from by
            obtain ⟨e0, e1, e2, e3, e4, e5⟩ := hcb k n hn
            rw [hxn] at e4
            rw [hyn] at e5
            rw [← hag] at e1
            exact ⟨by rw [block_of_add]; exact hblkb, e1, e4, e5⟩)
          unfold maxLen at hmaxb
          have hkl := (List.getElem?_eq_some_iff.1 hn).1
          have hk0 : (0 : Int) ≤ (k : Int) := by omega
          have hk1 : (k : Int) < (base.length : Int) := by omega
          clear hon hn hop hin hxn hyn hag hx0 hx1 eA hreadb hcb hblkb
          have HE := Lib.hid (show modalQ lg base steps at_ ⟨s, 5, (k : Int), 0, fr⟩ = prem1 steps at_ 0 (s ||| 2 ^ xn) by unfold modalQ; simp only [bne, hfb, hl2, hl4, hl6, Hon.out, HNO.out, HXN.out]; rfl)
          have QQ := HQ.out
          obtain ⟨q0, q1, q2, q3, q4⟩ := QQ
          have hxa : Ext w (w.alloc (.cells #[.int .i64 lg, .slice (some adb) base.length cb, .slice (some ad) steps.length cs] 25)) := (Ext.refl _).alloc _
          have a0 := (hxa.cell (p := ad.add (at_ * 5)) HADB.out).trans q0
          have a1 := (hxa.cell (p := ⟨(ad.add (at_ * 5)).block, (ad.add (at_ * 5)).off + 1, none⟩) HADB.out).trans q1
          have a2 := (hxa.cell (p := ⟨(ad.add (at_ * 5)).block, (ad.add (at_ * 5)).off + 2, none⟩) HADB.out).trans q2
          have a3 := (hxa.cell (p := ⟨(ad.add (at_ * 5)).block, (ad.add (at_ * 5)).off + 3, none⟩) HADB.out).trans q3
          have a4 := (hxa.cell (p := ⟨(ad.add (at_ * 5)).block, (ad.add (at_ * 5)).off + 4, none⟩) HADB.out).trans q4
          have XE := Lib.hid (show Ext w ((w.alloc (.cells #[.int .i64 lg, .slice (some adb) base.length cb, .slice (some ad) steps.length cs] 25)).alloc (.cells #[.int .u64 (s : Int), .int .i64 5, .int .i64 (k : Int), .int .i64 0, .slice Af fr.length cf] 37)) from ((Ext.refl _).alloc _).alloc _)
          clear hxa q0 q1 q2 q3 q4
          go_enter Tryz.func58, Tryz.ntmps58
          go_wp2_with fail
          obtain ⟨W, hW⟩ : ∃ W, W = (w.alloc (.cells #[.int .i64 lg, .slice (some adb) base.length cb, .slice (some ad) steps.length cs] 25)).alloc (.cells #[.int .u64 (s : Int), .int .i64 5, .int .i64 (k : Int), .int .i64 0, .slice Af fr.length cf] 37) := ⟨_, rfl⟩
          have hA : W.heap[w.heap.size]? = some (.cells #[.int .i64 lg, .slice (some adb) base.length cb, .slice (some ad) steps.length cs] 25 (0, 0)) := by
            rw [hW]
            exact (((Ext.refl _).alloc _).block (by simp)).trans (heap_alloc_new _ _)
          have hB : W.heap[w.heap.size + 1]? = some (.cells #[.int .u64 (s : Int), .int .i64 5, .int .i64 (k : Int), .int .i64 0, .slice Af fr.length cf] 37 (0, 0)) := by
            have := heap_alloc_new (w.alloc (.cells #[.int .i64 lg, .slice (some adb) base.length cb, .slice (some ad) steps.length cs] 25)) (.cells #[.int .u64 (s : Int), .int .i64 5, .int .i64 (k : Int), .int .i64 0, .slice Af fr.length cf] 37)
            rw [hW]
            simpa using this
          have X0 : Hid (Ext w W) := by rw [hW]; exact XE
          rw [← hW]
          clear hW XE a0 a1 a2 a3 a4
          obtain ⟨r0, r1, r2, _, rlt⟩ := cells3 hA
          obtain ⟨m0, m1, m2, m3, m4, _, mlt⟩ := cells5s hB
          clear hA hB
          have NN := HNC.out
          have NX := X0.out
          have y1 := (NX.cell (p := ⟨(adb.add (k * 6)).block, (adb.add (k * 6)).off + 1, none⟩) NN.1).trans NN.2.1
          have y4 := (NX.cell (p := ⟨(adb.add (k * 6)).block, (adb.add (k * 6)).off + 4, none⟩) NN.1).trans NN.2.2.1
          have y5 := (NX.cell (p := ⟨(adb.add (k * 6)).block, (adb.add (k * 6)).off + 5, none⟩) NN.1).trans NN.2.2.2
          have ylt := Nat.lt_of_lt_of_le NN.1 NX.size
          clear NN NX
          refine wp_region_held_drew (S := fun w' => w'.cell? (⟨w.heap.size, 0, none⟩) = some (.int .i64 lg) ∧ w'.cell? (⟨w.heap.size, 1, none⟩) = some (.slice (some adb) base.length cb) ∧ w'.cell? (⟨w.heap.size, 2, none⟩) = some (.slice (some ad) steps.length cs) ∧ w'.cell? (⟨w.heap.size + 1, 0, none⟩) = some (.int .u64 (s : Int)) ∧ w'.cell? (⟨w.heap.size + 1, 1, none⟩) = some (.int .i64 5) ∧ w'.cell? (⟨w.heap.size + 1, 2, none⟩) = some (.int .i64 (k : Int)) ∧ w'.cell? (⟨w.heap.size + 1, 3, none⟩) = some (.int .i64 0) ∧ w'.cell? (⟨w.heap.size + 1, 4, none⟩) = some (.slice Af fr.length cf) ∧ w'.cell? (⟨(adb.add (k * 6)).block, (adb.add (k * 6)).off + 1, none⟩) = some (.int .i64 ag) ∧ w'.cell? (⟨(adb.add (k * 6)).block, (adb.add (k * 6)).off + 4, none⟩) = some (.int .i64 (xn : Int)) ∧ w'.cell? (⟨(adb.add (k * 6)).block, (adb.add (k * 6)).off + 5, none⟩) = some (.int .i64 yv)) (by kernel_rfl) ⟨xc rlt r0, xc rlt r1, xc rlt r2, xc mlt m0, xc mlt m1, xc mlt m2, xc mlt m3, xc mlt m4, xc ylt y1, xc ylt y4, xc ylt y5⟩ (fun hHeld => ?_)
          refine tk 0 hHeld ?_
          refine tk 1 hHeld ?_
          refine tk 2 hHeld ?_
          refine tk 3 hHeld ?_
          refine wpAnyH_ready (rs := [4]) (by kernel_rfl) (by simp) ?_
          refine AllReadyH.cons rfl (fun K hK => ?_) AllReadyH.nil
          go_simp
          (go_at_call 56; refine (ron_any (lg := lg) (steps := steps) (As := some ad) (cs := cs) (H.out.ext (X0.out.trans xw)) s hset 5 (k : Int) 0 fr Af cf 9).mono ?_; rintro e2 wz4 ⟨rfl, hv⟩; rw [Hon.out]; have hx4 : Ext W wz4 := xt hv; clear hv)
          go_wp2_with fail
          refine hK.out _ _ ⟨xc rlt r0, xc rlt r1, xc rlt r2, xc mlt m0, xc mlt m1, xc mlt m2, xc mlt m3, xc mlt m4, xc ylt y1, xc ylt y4, xc ylt y5⟩ (fun hHeld => ?_)
          clear hK K
          try simp only [Act.put, List.setIfInBounds_toArray, List.set_cons_zero, List.set_cons_succ, List.getElem_toArray, List.getElem_cons_succ, List.getElem_cons_zero]
          refine tk 5 hHeld ?_
          refine tk 6 hHeld ?_
          refine tk 7 hHeld ?_
          refine tk 8 hHeld ?_
          refine tk 9 hHeld ?_
          refine tk 10 hHeld ?_
          refine tk 11 hHeld ?_
          refine tk 12 hHeld ?_
          refine tk 13 hHeld ?_
          refine tk 14 hHeld ?_
          refine tk 15 hHeld ?_
          refine tk 16 hHeld ?_
          refine tk 17 hHeld ?_
          refine tk 18 hHeld ?_
          refine tk 19 hHeld ?_
          refine wpAnyH_ready (rs := [20]) (by kernel_rfl) (by simp) ?_
          refine AllReadyH.cons rfl (fun K hK => ?_) AllReadyH.nil
          go_simp
          (go_at_call 57; rw [or_pow hset hx6]; refine (rprem_any (lg := lg) (base := base) (Ab := some adb) (cb := cb) (HST.out.ext (X0.out.trans xw)) at_ 0 HX.out (by show _ < fr.length; rw [HFR.out]; decide) (s ||| 2 ^ xn) (or_lt64 hset (two_pow_lt64 hx6))).mono ?_; rintro e2 wz5 ⟨rfl, hv⟩; have hx5 : Ext W wz5 := xt hv; clear hv)
          go_wp2_with fail
          refine hK.out _ _ ⟨xc rlt r0, xc rlt r1, xc rlt r2, xc mlt m0, xc mlt m1, xc mlt m2, xc mlt m3, xc mlt m4, xc ylt y1, xc ylt y4, xc ylt y5⟩ (fun hHeld => ?_)
          clear hK K
          try simp only [Act.put, List.setIfInBounds_toArray, List.set_cons_zero, List.set_cons_succ, List.getElem_toArray, List.getElem_cons_succ, List.getElem_cons_zero]
          refine tk 21 hHeld ?_
          refine tk 22 hHeld ?_
          refine wpAnyH_done (by kernel_rfl) ?_ _
          go_wp2_with fail
          go_ret
          exact ⟨by rw [HE.out] <;> rfl, X0.out.trans xw⟩
    · skip
      cases hon : onN base ⟨s, 5, on, 0, fr⟩ 9
      · have Hon := Lib.hid hon
        have HE := Lib.hid (show modalQ lg base steps at_ ⟨s, 5, on, 0, fr⟩ = false by unfold modalQ; simp only [bne, hfb, hl2, hl4, hon]; rfl)
        clear hon
        have QQ := HQ.out
        obtain ⟨q0, q1, q2, q3, q4⟩ := QQ
        have hxa : Ext w (w.alloc (.cells #[.int .i64 lg, .slice Ab base.length cb, .slice (some ad) steps.length cs] 25)) := (Ext.refl _).alloc _
        have a0 := (hxa.cell (p := ad.add (at_ * 5)) HADB.out).trans q0
        have a1 := (hxa.cell (p := ⟨(ad.add (at_ * 5)).block, (ad.add (at_ * 5)).off + 1, none⟩) HADB.out).trans q1
        have a2 := (hxa.cell (p := ⟨(ad.add (at_ * 5)).block, (ad.add (at_ * 5)).off + 2, none⟩) HADB.out).trans q2
        have a3 := (hxa.cell (p := ⟨(ad.add (at_ * 5)).block, (ad.add (at_ * 5)).off + 3, none⟩) HADB.out).trans q3
        have a4 := (hxa.cell (p := ⟨(ad.add (at_ * 5)).block, (ad.add (at_ * 5)).off + 4, none⟩) HADB.out).trans q4
        have XE := Lib.hid (show Ext w ((w.alloc (.cells #[.int .i64 lg, .slice Ab base.length cb, .slice (some ad) steps.length cs] 25)).alloc (.cells #[.int .u64 (s : Int), .int .i64 5, .int .i64 on, .int .i64 0, .slice Af fr.length cf] 37)) from ((Ext.refl _).alloc _).alloc _)
        clear hxa q0 q1 q2 q3 q4
        go_enter Tryz.func58, Tryz.ntmps58
        go_wp2_with fail
        obtain ⟨W, hW⟩ : ∃ W, W = (w.alloc (.cells #[.int .i64 lg, .slice Ab base.length cb, .slice (some ad) steps.length cs] 25)).alloc (.cells #[.int .u64 (s : Int), .int .i64 5, .int .i64 on, .int .i64 0, .slice Af fr.length cf] 37) := ⟨_, rfl⟩
        have hA : W.heap[w.heap.size]? = some (.cells #[.int .i64 lg, .slice Ab base.length cb, .slice (some ad) steps.length cs] 25 (0, 0)) := by
          rw [hW]
          exact (((Ext.refl _).alloc _).block (by simp)).trans (heap_alloc_new _ _)
        have hB : W.heap[w.heap.size + 1]? = some (.cells #[.int .u64 (s : Int), .int .i64 5, .int .i64 on, .int .i64 0, .slice Af fr.length cf] 37 (0, 0)) := by
          have := heap_alloc_new (w.alloc (.cells #[.int .i64 lg, .slice Ab base.length cb, .slice (some ad) steps.length cs] 25)) (.cells #[.int .u64 (s : Int), .int .i64 5, .int .i64 on, .int .i64 0, .slice Af fr.length cf] 37)
          rw [hW]
          simpa using this
        have X0 : Hid (Ext w W) := by rw [hW]; exact XE
        rw [← hW]
        clear hW XE a0 a1 a2 a3 a4
        obtain ⟨r0, r1, r2, _, rlt⟩ := cells3 hA
        obtain ⟨m0, m1, m2, m3, m4, _, mlt⟩ := cells5s hB
        clear hA hB
        refine wp_region_held_drew (S := fun w' => w'.cell? (⟨w.heap.size, 0, none⟩) = some (.int .i64 lg) ∧ w'.cell? (⟨w.heap.size, 1, none⟩) = some (.slice Ab base.length cb) ∧ w'.cell? (⟨w.heap.size, 2, none⟩) = some (.slice (some ad) steps.length cs) ∧ w'.cell? (⟨w.heap.size + 1, 0, none⟩) = some (.int .u64 (s : Int)) ∧ w'.cell? (⟨w.heap.size + 1, 1, none⟩) = some (.int .i64 5) ∧ w'.cell? (⟨w.heap.size + 1, 2, none⟩) = some (.int .i64 on) ∧ w'.cell? (⟨w.heap.size + 1, 3, none⟩) = some (.int .i64 0) ∧ w'.cell? (⟨w.heap.size + 1, 4, none⟩) = some (.slice Af fr.length cf)) (by kernel_rfl) ⟨xc rlt r0, xc rlt r1, xc rlt r2, xc mlt m0, xc mlt m1, xc mlt m2, xc mlt m3, xc mlt m4⟩ (fun hHeld => ?_)
        refine tk 0 hHeld ?_
        refine tk 1 hHeld ?_
        refine tk 2 hHeld ?_
        refine tk 3 hHeld ?_
        refine wpAnyH_ready (rs := [4]) (by kernel_rfl) (by simp) ?_
        refine AllReadyH.cons rfl (fun K hK => ?_) AllReadyH.nil
        go_simp
        (go_at_call 56; refine (ron_any (lg := lg) (steps := steps) (As := some ad) (cs := cs) (H.out.ext (X0.out.trans xw)) s hset 5 on 0 fr Af cf 9).mono ?_; rintro e2 wz6 ⟨rfl, hv⟩; rw [Hon.out]; have hx6 : Ext W wz6 := xt hv; clear hv)
        go_wp2_with fail
        refine hK.out _ _ ⟨xc rlt r0, xc rlt r1, xc rlt r2, xc mlt m0, xc mlt m1, xc mlt m2, xc mlt m3, xc mlt m4⟩ (fun hHeld => ?_)
        clear hK K
        try simp only [Act.put, List.setIfInBounds_toArray, List.set_cons_zero, List.set_cons_succ, List.getElem_toArray, List.getElem_cons_succ, List.getElem_cons_zero]
        refine tk 5 hHeld ?_
        refine tk 6 hHeld ?_
        refine un 7 hHeld ?_
        refine un 8 hHeld ?_
        refine un 9 hHeld ?_
        refine un 10 hHeld ?_
        refine un 11 hHeld ?_
        refine un 12 hHeld ?_
        refine un 13 hHeld ?_
        refine un 14 hHeld ?_
        refine un 15 hHeld ?_
        refine un 16 hHeld ?_
        refine un 17 hHeld ?_
        refine un 18 hHeld ?_
        refine un 19 hHeld ?_
        refine un 20 hHeld ?_
        refine tk 21 hHeld ?_
        refine tk 22 hHeld ?_
        refine wpAnyH_done (by kernel_rfl) ?_ _
        go_wp2_with fail
        go_ret
        exact ⟨by rw [HE.out] <;> rfl, X0.out.trans xw⟩
      · skip
        obtain ⟨k, n, hk, hn, hop, hin⟩ := on_yes hon
        simp only at hk
        subst hk
        have Hon := Lib.hid hon
        have HNO := Lib.hid (show nodeOn base ⟨s, 5, (k : Int), 0, fr⟩ = n by unfold nodeOn; rw [show (⟨s, 5, (k : Int), 0, fr⟩ : Stp).on = (k : Int) from rfl, Int.toNat_natCast, getD_of hn])
        obtain ⟨hx0, hx1⟩ := base_x HBE.out hn (by rw [hop]; rfl)
        obtain ⟨xn, hxn⟩ := Int.eq_ofNat_of_zero_le hx0
        have hx6 : xn < 64 := by omega
        obtain ⟨ag, hag⟩ : ∃ ag, ag = n.i := ⟨_, rfl⟩
        obtain ⟨yv, hyn⟩ : ∃ yv, n.y = yv := ⟨_, rfl⟩
        have HXN := Lib.hid hxn
        have HYN := Lib.hid hyn
        have HAG := Lib.hid hag
        have HNN := Lib.hid hn
        have HOP := Lib.hid hop
        have BX := shl_one hx6
        have MX : min xn 64 = xn := by omega
        obtain ⟨A', c', eA, hcapb, hmaxb, hreadb⟩ := H.out.1
        obtain ⟨rfl, rfl⟩ : Ab = A' ∧ cb = c' := by injection eA with eA _ eC; exact ⟨eA, eC⟩
        obtain ⟨adb, rfl, hblkb, hcb⟩ := hreadb (by intro e; rw [e] at hn; cases hn)
        have HNC := Lib.hid (show (adb.add (k * 6)).block < w.heap.size ∧ w.cell? ⟨(adb.add (k * 6)).block, (adb.add (k * 6)).off + 1, none⟩ = some (.int .i64 ag) ∧ w.cell? ⟨(adb.add (k * 6)).block, (adb.add (k * 6)).off + 4, none⟩ = some (.int .i64 (xn : Int)) ∧ w.cell? ⟨(adb.add (k * 6)).block, (adb.add (k * 6)).off + 5, none⟩ = some (.int .i64 yv) from by
          obtain ⟨e0, e1, e2, e3, e4, e5⟩ := hcb k n hn
          rw [hxn] at e4
          rw [hyn] at e5
          rw [← hag] at e1
          exact ⟨by rw [block_of_add]; exact hblkb, e1, e4, e5⟩)
        unfold maxLen at hmaxb
        have hkl := (List.getElem?_eq_some_iff.1 hn).1
        have hk0 : (0 : Int) ≤ (k : Int) := by omega
        have hk1 : (k : Int) < (base.length : Int) := by omega
        clear hon hn hop hin hxn hyn hag hx0 hx1 eA hreadb hcb hblkb
        have HE := Lib.hid (show modalQ lg base steps at_ ⟨s, 5, (k : Int), 0, fr⟩ = prem1 steps at_ 0 (s ||| 2 ^ xn) by unfold modalQ; simp only [bne, hfb, hl2, hl4, Hon.out, HNO.out, HXN.out]; rfl)
        have QQ := HQ.out
        obtain ⟨q0, q1, q2, q3, q4⟩ := QQ
        have hxa : Ext w (w.alloc (.cells #[.int .i64 lg, .slice (some adb) base.length cb, .slice (some ad) steps.length cs] 25)) := (Ext.refl _).alloc _
        have a0 := (hxa.cell (p := ad.add (at_ * 5)) HADB.out).trans q0
        have a1 := (hxa.cell (p := ⟨(ad.add (at_ * 5)).block, (ad.add (at_ * 5)).off + 1, none⟩) HADB.out).trans q1
        have a2 := (hxa.cell (p := ⟨(ad.add (at_ * 5)).block, (ad.add (at_ * 5)).off + 2, none⟩) HADB.out).trans q2
        have a3 := (hxa.cell (p := ⟨(ad.add (at_ * 5)).block, (ad.add (at_ * 5)).off + 3, none⟩) HADB.out).trans q3
        have a4 := (hxa.cell (p := ⟨(ad.add (at_ * 5)).block, (ad.add (at_ * 5)).off + 4, none⟩) HADB.out).trans q4
        have XE := Lib.hid (show Ext w ((w.alloc (.cells #[.int .i64 lg, .slice (some adb) base.length cb, .slice (some ad) steps.length cs] 25)).alloc (.cells #[.int .u64 (s : Int), .int .i64 5, .int .i64 (k : Int), .int .i64 0, .slice Af fr.length cf] 37)) from ((Ext.refl _).alloc _).alloc _)
        clear hxa q0 q1 q2 q3 q4
        go_enter Tryz.func58, Tryz.ntmps58
        go_wp2_with fail
        obtain ⟨W, hW⟩ : ∃ W, W = (w.alloc (.cells #[.int .i64 lg, .slice (some adb) base.length cb, .slice (some ad) steps.length cs] 25)).alloc (.cells #[.int .u64 (s : Int), .int .i64 5, .int .i64 (k : Int), .int .i64 0, .slice Af fr.length cf] 37) := ⟨_, rfl⟩
        have hA : W.heap[w.heap.size]? = some (.cells #[.int .i64 lg, .slice (some adb) base.length cb, .slice (some ad) steps.length cs] 25 (0, 0)) := by
          rw [hW]
          exact (((Ext.refl _).alloc _).block (by simp)).trans (heap_alloc_new _ _)
        have hB : W.heap[w.heap.size + 1]? = some (.cells #[.int .u64 (s : Int), .int .i64 5, .int .i64 (k : Int), .int .i64 0, .slice Af fr.length cf] 37 (0, 0)) := by
          have := heap_alloc_new (w.alloc (.cells #[.int .i64 lg, .slice (some adb) base.length cb, .slice (some ad) steps.length cs] 25)) (.cells #[.int .u64 (s : Int), .int .i64 5, .int .i64 (k : Int), .int .i64 0, .slice Af fr.length cf] 37)
          rw [hW]
          simpa using this
        have X0 : Hid (Ext w W) := by rw [hW]; exact XE
        rw [← hW]
        clear hW XE a0 a1 a2 a3 a4
        obtain ⟨r0, r1, r2, _, rlt⟩ := cells3 hA
        obtain ⟨m0, m1, m2, m3, m4, _, mlt⟩ := cells5s hB
        clear hA hB
        have NN := HNC.out
        have NX := X0.out
        have y1 := (NX.cell (p := ⟨(adb.add (k * 6)).block, (adb.add (k * 6)).off + 1, none⟩) NN.1).trans NN.2.1
        have y4 := (NX.cell (p := ⟨(adb.add (k * 6)).block, (adb.add (k * 6)).off + 4, none⟩) NN.1).trans NN.2.2.1
        have y5 := (NX.cell (p := ⟨(adb.add (k * 6)).block, (adb.add (k * 6)).off + 5, none⟩) NN.1).trans NN.2.2.2
        have ylt := Nat.lt_of_lt_of_le NN.1 NX.size
        clear NN NX
        refine wp_region_held_drew (S := fun w' => w'.cell? (⟨w.heap.size, 0, none⟩) = some (.int .i64 lg) ∧ w'.cell? (⟨w.heap.size, 1, none⟩) = some (.slice (some adb) base.length cb) ∧ w'.cell? (⟨w.heap.size, 2, none⟩) = some (.slice (some ad) steps.length cs) ∧ w'.cell? (⟨w.heap.size + 1, 0, none⟩) = some (.int .u64 (s : Int)) ∧ w'.cell? (⟨w.heap.size + 1, 1, none⟩) = some (.int .i64 5) ∧ w'.cell? (⟨w.heap.size + 1, 2, none⟩) = some (.int .i64 (k : Int)) ∧ w'.cell? (⟨w.heap.size + 1, 3, none⟩) = some (.int .i64 0) ∧ w'.cell? (⟨w.heap.size + 1, 4, none⟩) = some (.slice Af fr.length cf) ∧ w'.cell? (⟨(adb.add (k * 6)).block, (adb.add (k * 6)).off + 1, none⟩) = some (.int .i64 ag) ∧ w'.cell? (⟨(adb.add (k * 6)).block, (adb.add (k * 6)).off + 4, none⟩) = some (.int .i64 (xn : Int)) ∧ w'.cell? (⟨(adb.add (k * 6)).block, (adb.add (k * 6)).off + 5, none⟩) = some (.int .i64 yv)) (by kernel_rfl) ⟨xc rlt r0, xc rlt r1, xc rlt r2, xc mlt m0, xc mlt m1, xc mlt m2, xc mlt m3, xc mlt m4, xc ylt y1, xc ylt y4, xc ylt y5⟩ (fun hHeld => ?_)
        refine tk 0 hHeld ?_
        refine tk 1 hHeld ?_
        refine tk 2 hHeld ?_
        refine tk 3 hHeld ?_
        refine wpAnyH_ready (rs := [4]) (by kernel_rfl) (by simp) ?_
        refine AllReadyH.cons rfl (fun K hK => ?_) AllReadyH.nil
        go_simp
        (go_at_call 56; refine (ron_any (lg := lg) (steps := steps) (As := some ad) (cs := cs) (H.out.ext (X0.out.trans xw)) s hset 5 (k : Int) 0 fr Af cf 9).mono ?_; rintro e2 wz7 ⟨rfl, hv⟩; rw [Hon.out]; have hx7 : Ext W wz7 := xt hv; clear hv)
        go_wp2_with fail
        refine hK.out _ _ ⟨xc rlt r0, xc rlt r1, xc rlt r2, xc mlt m0, xc mlt m1, xc mlt m2, xc mlt m3, xc mlt m4, xc ylt y1, xc ylt y4, xc ylt y5⟩ (fun hHeld => ?_)
        clear hK K
        try simp only [Act.put, List.setIfInBounds_toArray, List.set_cons_zero, List.set_cons_succ, List.getElem_toArray, List.getElem_cons_succ, List.getElem_cons_zero]
        refine tk 5 hHeld ?_
        refine tk 6 hHeld ?_
        refine tk 7 hHeld ?_
        refine tk 8 hHeld ?_
        refine tk 9 hHeld ?_
        refine tk 10 hHeld ?_
        refine tk 11 hHeld ?_
        refine tk 12 hHeld ?_
        refine tk 13 hHeld ?_
        refine tk 14 hHeld ?_
        refine tk 15 hHeld ?_
        refine tk 16 hHeld ?_
        refine tk 17 hHeld ?_
        refine tk 18 hHeld ?_
        refine tk 19 hHeld ?_
        refine wpAnyH_ready (rs := [20]) (by kernel_rfl) (by simp) ?_
        refine AllReadyH.cons rfl (fun K hK => ?_) AllReadyH.nil
        go_simp
        (go_at_call 57; rw [or_pow hset hx6]; refine (rprem_any (lg := lg) (base := base) (Ab := some adb) (cb := cb) (HST.out.ext (X0.out.trans xw)) at_ 0 HX.out (by show _ < fr.length; rw [HFR.out]; decide) (s ||| 2 ^ xn) (or_lt64 hset (two_pow_lt64 hx6))).mono ?_; rintro e2 wz8 ⟨rfl, hv⟩; have hx8 : Ext W wz8 := xt hv; clear hv)
        go_wp2_with fail
        refine hK.out _ _ ⟨xc rlt r0, xc rlt r1, xc rlt r2, xc mlt m0, xc mlt m1, xc mlt m2, xc mlt m3, xc mlt m4, xc ylt y1, xc ylt y4, xc ylt y5⟩ (fun hHeld => ?_)
        clear hK K
        try simp only [Act.put, List.setIfInBounds_toArray, List.set_cons_zero, List.set_cons_succ, List.getElem_toArray, List.getElem_cons_succ, List.getElem_cons_zero]
        refine tk 21 hHeld ?_
        refine tk 22 hHeld ?_
        refine wpAnyH_done (by kernel_rfl) ?_ _
        go_wp2_with fail
        go_ret
        exact ⟨by rw [HE.out] <;> rfl, X0.out.trans xw⟩
  · skip
    cases hon : onN base ⟨s, 5, on, 0, fr⟩ 9
    · have Hon := Lib.hid hon
      have HE := Lib.hid (show modalQ lg base steps at_ ⟨s, 5, on, 0, fr⟩ = false by unfold modalQ; simp only [bne, hfb, hl2, hon]; rfl)
      clear hon
      have QQ := HQ.out
      obtain ⟨q0, q1, q2, q3, q4⟩ := QQ
      have hxa : Ext w (w.alloc (.cells #[.int .i64 lg, .slice Ab base.length cb, .slice (some ad) steps.length cs] 25)) := (Ext.refl _).alloc _
      have a0 := (hxa.cell (p := ad.add (at_ * 5)) HADB.out).trans q0
      have a1 := (hxa.cell (p := ⟨(ad.add (at_ * 5)).block, (ad.add (at_ * 5)).off + 1, none⟩) HADB.out).trans q1
      have a2 := (hxa.cell (p := ⟨(ad.add (at_ * 5)).block, (ad.add (at_ * 5)).off + 2, none⟩) HADB.out).trans q2
      have a3 := (hxa.cell (p := ⟨(ad.add (at_ * 5)).block, (ad.add (at_ * 5)).off + 3, none⟩) HADB.out).trans q3
      have a4 := (hxa.cell (p := ⟨(ad.add (at_ * 5)).block, (ad.add (at_ * 5)).off + 4, none⟩) HADB.out).trans q4
      have XE := Lib.hid (show Ext w ((w.alloc (.cells #[.int .i64 lg, .slice Ab base.length cb, .slice (some ad) steps.length cs] 25)).alloc (.cells #[.int .u64 (s : Int), .int .i64 5, .int .i64 on, .int .i64 0, .slice Af fr.length cf] 37)) from ((Ext.refl _).alloc _).alloc _)
      clear hxa q0 q1 q2 q3 q4
      go_enter Tryz.func58, Tryz.ntmps58
      go_wp2_with fail
      obtain ⟨W, hW⟩ : ∃ W, W = (w.alloc (.cells #[.int .i64 lg, .slice Ab base.length cb, .slice (some ad) steps.length cs] 25)).alloc (.cells #[.int .u64 (s : Int), .int .i64 5, .int .i64 on, .int .i64 0, .slice Af fr.length cf] 37) := ⟨_, rfl⟩
      have hA : W.heap[w.heap.size]? = some (.cells #[.int .i64 lg, .slice Ab base.length cb, .slice (some ad) steps.length cs] 25 (0, 0)) := by
        rw [hW]
        exact (((Ext.refl _).alloc _).block (by simp)).trans (heap_alloc_new _ _)
      have hB : W.heap[w.heap.size + 1]? = some (.cells #[.int .u64 (s : Int), .int .i64 5, .int .i64 on, .int .i64 0, .slice Af fr.length cf] 37 (0, 0)) := by
        have := heap_alloc_new (w.alloc (.cells #[.int .i64 lg, .slice Ab base.length cb, .slice (some ad) steps.length cs] 25)) (.cells #[.int .u64 (s : Int), .int .i64 5, .int .i64 on, .int .i64 0, .slice Af fr.length cf] 37)
        rw [hW]
        simpa using this
      have X0 : Hid (Ext w W) := by rw [hW]; exact XE
      rw [← hW]
      clear hW XE a0 a1 a2 a3 a4
      obtain ⟨r0, r1, r2, _, rlt⟩ := cells3 hA
      obtain ⟨m0, m1, m2, m3, m4, _, mlt⟩ := cells5s hB
      clear hA hB
      refine wp_region_held_drew (S := fun w' => w'.cell? (⟨w.heap.size, 0, none⟩) = some (.int .i64 lg) ∧ w'.cell? (⟨w.heap.size, 1, none⟩) = some (.slice Ab base.length cb) ∧ w'.cell? (⟨w.heap.size, 2, none⟩) = some (.slice (some ad) steps.length cs) ∧ w'.cell? (⟨w.heap.size + 1, 0, none⟩) = some (.int .u64 (s : Int)) ∧ w'.cell? (⟨w.heap.size + 1, 1, none⟩) = some (.int .i64 5) ∧ w'.cell? (⟨w.heap.size + 1, 2, none⟩) = some (.int .i64 on) ∧ w'.cell? (⟨w.heap.size + 1, 3, none⟩) = some (.int .i64 0) ∧ w'.cell? (⟨w.heap.size + 1, 4, none⟩) = some (.slice Af fr.length cf)) (by kernel_rfl) ⟨xc rlt r0, xc rlt r1, xc rlt r2, xc mlt m0, xc mlt m1, xc mlt m2, xc mlt m3, xc mlt m4⟩ (fun hHeld => ?_)
      refine tk 0 hHeld ?_
      refine tk 1 hHeld ?_
      refine tk 2 hHeld ?_
      refine tk 3 hHeld ?_
      refine wpAnyH_ready (rs := [4]) (by kernel_rfl) (by simp) ?_
      refine AllReadyH.cons rfl (fun K hK => ?_) AllReadyH.nil
      go_simp
      (go_at_call 56; refine (ron_any (lg := lg) (steps := steps) (As := some ad) (cs := cs) (H.out.ext (X0.out.trans xw)) s hset 5 on 0 fr Af cf 9).mono ?_; rintro e2 wz9 ⟨rfl, hv⟩; rw [Hon.out]; have hx9 : Ext W wz9 := xt hv; clear hv)
      go_wp2_with fail
      refine hK.out _ _ ⟨xc rlt r0, xc rlt r1, xc rlt r2, xc mlt m0, xc mlt m1, xc mlt m2, xc mlt m3, xc mlt m4⟩ (fun hHeld => ?_)
      clear hK K
      try simp only [Act.put, List.setIfInBounds_toArray, List.set_cons_zero, List.set_cons_succ, List.getElem_toArray, List.getElem_cons_succ, List.getElem_cons_zero]
      refine tk 5 hHeld ?_
      refine tk 6 hHeld ?_
      refine un 7 hHeld ?_
      refine un 8 hHeld ?_
      refine un 9 hHeld ?_
      refine un 10 hHeld ?_
      refine un 11 hHeld ?_
      refine un 12 hHeld ?_
      refine un 13 hHeld ?_
      refine un 14 hHeld ?_
      refine un 15 hHeld ?_
      refine un 16 hHeld ?_
      refine un 17 hHeld ?_
      refine un 18 hHeld ?_
      refine un 19 hHeld ?_
      refine un 20 hHeld ?_
      refine tk 21 hHeld ?_
      refine tk 22 hHeld ?_
      refine wpAnyH_done (by kernel_rfl) ?_ _
      go_wp2_with fail
      go_ret
      exact ⟨by rw [HE.out] <;> rfl, X0.out.trans xw⟩
    · skip
      obtain ⟨k, n, hk, hn, hop, hin⟩ := on_yes hon
      simp only at hk
      subst hk
      have Hon := Lib.hid hon
      have HNO := Lib.hid (show nodeOn base ⟨s, 5, (k : Int), 0, fr⟩ = n by unfold nodeOn; rw [show (⟨s, 5, (k : Int), 0, fr⟩ : Stp).on = (k : Int) from rfl, Int.toNat_natCast, getD_of hn])
      obtain ⟨hx0, hx1⟩ := base_x HBE.out hn (by rw [hop]; rfl)
      obtain ⟨xn, hxn⟩ := Int.eq_ofNat_of_zero_le hx0
      have hx6 : xn < 64 := by omega
      obtain ⟨ag, hag⟩ : ∃ ag, ag = n.i := ⟨_, rfl⟩
      obtain ⟨yv, hyn⟩ : ∃ yv, n.y = yv := ⟨_, rfl⟩
      have HXN := Lib.hid hxn
      have HYN := Lib.hid hyn
      have HAG := Lib.hid hag
      have HNN := Lib.hid hn
      have HOP := Lib.hid hop
      have BX := shl_one hx6
      have MX : min xn 64 = xn := by omega
      obtain ⟨A', c', eA, hcapb, hmaxb, hreadb⟩ := H.out.1
      obtain ⟨rfl, rfl⟩ : Ab = A' ∧ cb = c' := by injection eA with eA _ eC; exact ⟨eA, eC⟩
      obtain ⟨adb, rfl, hblkb, hcb⟩ := hreadb (by intro e; rw [e] at hn; cases hn)
      have HNC := Lib.hid (show (adb.add (k * 6)).block < w.heap.size ∧ w.cell? ⟨(adb.add (k * 6)).block, (adb.add (k * 6)).off + 1, none⟩ = some (.int .i64 ag) ∧ w.cell? ⟨(adb.add (k * 6)).block, (adb.add (k * 6)).off + 4, none⟩ = some (.int .i64 (xn : Int)) ∧ w.cell? ⟨(adb.add (k * 6)).block, (adb.add (k * 6)).off + 5, none⟩ = some (.int .i64 yv) from by
        obtain ⟨e0, e1, e2, e3, e4, e5⟩ := hcb k n hn
        rw [hxn] at e4
        rw [hyn] at e5
        rw [← hag] at e1
        exact ⟨by rw [block_of_add]; exact hblkb, e1, e4, e5⟩)
      unfold maxLen at hmaxb
      have hkl := (List.getElem?_eq_some_iff.1 hn).1
      have hk0 : (0 : Int) ≤ (k : Int) := by omega
      have hk1 : (k : Int) < (base.length : Int) := by omega
      clear hon hn hop hin hxn hyn hag hx0 hx1 eA hreadb hcb hblkb
      have HE := Lib.hid (show modalQ lg base steps at_ ⟨s, 5, (k : Int), 0, fr⟩ = prem1 steps at_ 0 (s ||| 2 ^ xn) by unfold modalQ; simp only [bne, hfb, hl2, Hon.out, HNO.out, HXN.out]; rfl)
      have QQ := HQ.out
      obtain ⟨q0, q1, q2, q3, q4⟩ := QQ
      have hxa : Ext w (w.alloc (.cells #[.int .i64 lg, .slice (some adb) base.length cb, .slice (some ad) steps.length cs] 25)) := (Ext.refl _).alloc _
      have a0 := (hxa.cell (p := ad.add (at_ * 5)) HADB.out).trans q0
      have a1 := (hxa.cell (p := ⟨(ad.add (at_ * 5)).block, (ad.add (at_ * 5)).off + 1, none⟩) HADB.out).trans q1
      have a2 := (hxa.cell (p := ⟨(ad.add (at_ * 5)).block, (ad.add (at_ * 5)).off + 2, none⟩) HADB.out).trans q2
      have a3 := (hxa.cell (p := ⟨(ad.add (at_ * 5)).block, (ad.add (at_ * 5)).off + 3, none⟩) HADB.out).trans q3
      have a4 := (hxa.cell (p := ⟨(ad.add (at_ * 5)).block, (ad.add (at_ * 5)).off + 4, none⟩) HADB.out).trans q4
      have XE := Lib.hid (show Ext w ((w.alloc (.cells #[.int .i64 lg, .slice (some adb) base.length cb, .slice (some ad) steps.length cs] 25)).alloc (.cells #[.int .u64 (s : Int), .int .i64 5, .int .i64 (k : Int), .int .i64 0, .slice Af fr.length cf] 37)) from ((Ext.refl _).alloc _).alloc _)
      clear hxa q0 q1 q2 q3 q4
      go_enter Tryz.func58, Tryz.ntmps58
      go_wp2_with fail
      obtain ⟨W, hW⟩ : ∃ W, W = (w.alloc (.cells #[.int .i64 lg, .slice (some adb) base.length cb, .slice (some ad) steps.length cs] 25)).alloc (.cells #[.int .u64 (s : Int), .int .i64 5, .int .i64 (k : Int), .int .i64 0, .slice Af fr.length cf] 37) := ⟨_, rfl⟩
      have hA : W.heap[w.heap.size]? = some (.cells #[.int .i64 lg, .slice (some adb) base.length cb, .slice (some ad) steps.length cs] 25 (0, 0)) := by
        rw [hW]
        exact (((Ext.refl _).alloc _).block (by simp)).trans (heap_alloc_new _ _)
      have hB : W.heap[w.heap.size + 1]? = some (.cells #[.int .u64 (s : Int), .int .i64 5, .int .i64 (k : Int), .int .i64 0, .slice Af fr.length cf] 37 (0, 0)) := by
        have := heap_alloc_new (w.alloc (.cells #[.int .i64 lg, .slice (some adb) base.length cb, .slice (some ad) steps.length cs] 25)) (.cells #[.int .u64 (s : Int), .int .i64 5, .int .i64 (k : Int), .int .i64 0, .slice Af fr.length cf] 37)
        rw [hW]
        simpa using this
      have X0 : Hid (Ext w W) := by rw [hW]; exact XE
      rw [← hW]
      clear hW XE a0 a1 a2 a3 a4
      obtain ⟨r0, r1, r2, _, rlt⟩ := cells3 hA
      obtain ⟨m0, m1, m2, m3, m4, _, mlt⟩ := cells5s hB
      clear hA hB
      have NN := HNC.out
      have NX := X0.out
      have y1 := (NX.cell (p := ⟨(adb.add (k * 6)).block, (adb.add (k * 6)).off + 1, none⟩) NN.1).trans NN.2.1
      have y4 := (NX.cell (p := ⟨(adb.add (k * 6)).block, (adb.add (k * 6)).off + 4, none⟩) NN.1).trans NN.2.2.1
      have y5 := (NX.cell (p := ⟨(adb.add (k * 6)).block, (adb.add (k * 6)).off + 5, none⟩) NN.1).trans NN.2.2.2
      have ylt := Nat.lt_of_lt_of_le NN.1 NX.size
      clear NN NX
      refine wp_region_held_drew (S := fun w' => w'.cell? (⟨w.heap.size, 0, none⟩) = some (.int .i64 lg) ∧ w'.cell? (⟨w.heap.size, 1, none⟩) = some (.slice (some adb) base.length cb) ∧ w'.cell? (⟨w.heap.size, 2, none⟩) = some (.slice (some ad) steps.length cs) ∧ w'.cell? (⟨w.heap.size + 1, 0, none⟩) = some (.int .u64 (s : Int)) ∧ w'.cell? (⟨w.heap.size + 1, 1, none⟩) = some (.int .i64 5) ∧ w'.cell? (⟨w.heap.size + 1, 2, none⟩) = some (.int .i64 (k : Int)) ∧ w'.cell? (⟨w.heap.size + 1, 3, none⟩) = some (.int .i64 0) ∧ w'.cell? (⟨w.heap.size + 1, 4, none⟩) = some (.slice Af fr.length cf) ∧ w'.cell? (⟨(adb.add (k * 6)).block, (adb.add (k * 6)).off + 1, none⟩) = some (.int .i64 ag) ∧ w'.cell? (⟨(adb.add (k * 6)).block, (adb.add (k * 6)).off + 4, none⟩) = some (.int .i64 (xn : Int)) ∧ w'.cell? (⟨(adb.add (k * 6)).block, (adb.add (k * 6)).off + 5, none⟩) = some (.int .i64 yv)) (by kernel_rfl) ⟨xc rlt r0, xc rlt r1, xc rlt r2, xc mlt m0, xc mlt m1, xc mlt m2, xc mlt m3, xc mlt m4, xc ylt y1, xc ylt y4, xc ylt y5⟩ (fun hHeld => ?_)
      refine tk 0 hHeld ?_
      refine tk 1 hHeld ?_
      refine tk 2 hHeld ?_
      refine tk 3 hHeld ?_
      refine wpAnyH_ready (rs := [4]) (by kernel_rfl) (by simp) ?_
      refine AllReadyH.cons rfl (fun K hK => ?_) AllReadyH.nil
      go_simp
      (go_at_call 56; refine (ron_any (lg := lg) (steps := steps) (As := some ad) (cs := cs) (H.out.ext (X0.out.trans xw)) s hset 5 (k : Int) 0 fr Af cf 9).mono ?_; rintro e2 wz10 ⟨rfl, hv⟩; rw [Hon.out]; have hx10 : Ext W wz10 := xt hv; clear hv)
      go_wp2_with fail
      refine hK.out _ _ ⟨xc rlt r0, xc rlt r1, xc rlt r2, xc mlt m0, xc mlt m1, xc mlt m2, xc mlt m3, xc mlt m4, xc ylt y1, xc ylt y4, xc ylt y5⟩ (fun hHeld => ?_)
      clear hK K
      try simp only [Act.put, List.setIfInBounds_toArray, List.set_cons_zero, List.set_cons_succ, List.getElem_toArray, List.getElem_cons_succ, List.getElem_cons_zero]
      refine tk 5 hHeld ?_
      refine tk 6 hHeld ?_
      refine tk 7 hHeld ?_
      refine tk 8 hHeld ?_
      refine tk 9 hHeld ?_
      refine tk 10 hHeld ?_
      refine tk 11 hHeld ?_
      refine tk 12 hHeld ?_
      refine tk 13 hHeld ?_
      refine tk 14 hHeld ?_
      refine tk 15 hHeld ?_
      refine tk 16 hHeld ?_
      refine tk 17 hHeld ?_
      refine tk 18 hHeld ?_
      refine tk 19 hHeld ?_
      refine wpAnyH_ready (rs := [20]) (by kernel_rfl) (by simp) ?_
      refine AllReadyH.cons rfl (fun K hK => ?_) AllReadyH.nil
      go_simp
      (go_at_call 57; rw [or_pow hset hx6]; refine (rprem_any (lg := lg) (base := base) (Ab := some adb) (cb := cb) (HST.out.ext (X0.out.trans xw)) at_ 0 HX.out (by show _ < fr.length; rw [HFR.out]; decide) (s ||| 2 ^ xn) (or_lt64 hset (two_pow_lt64 hx6))).mono ?_; rintro e2 wz11 ⟨rfl, hv⟩; have hx11 : Ext W wz11 := xt hv; clear hv)
      go_wp2_with fail
      refine hK.out _ _ ⟨xc rlt r0, xc rlt r1, xc rlt r2, xc mlt m0, xc mlt m1, xc mlt m2, xc mlt m3, xc mlt m4, xc ylt y1, xc ylt y4, xc ylt y5⟩ (fun hHeld => ?_)
      clear hK K
      try simp only [Act.put, List.setIfInBounds_toArray, List.set_cons_zero, List.set_cons_succ, List.getElem_toArray, List.getElem_cons_succ, List.getElem_cons_zero]
      refine tk 21 hHeld ?_
      refine tk 22 hHeld ?_
      refine wpAnyH_done (by kernel_rfl) ?_ _
      go_wp2_with fail
      go_ret
      exact ⟨by rw [HE.out] <;> rfl, X0.out.trans xw⟩
end Go.Proofs.YtfcmdiigfgbgbaaGreat
