/- What the reference's correct comes to: what the program's comes to. -/
import Derived.Test.YtfcmdiigfgbgbaaGreatN1
import Derived.Test.YtfcmdiigfgbgbaaGreatGA
import Derived.Test.YtfcmdiigfgbgbaaGreatN5
import Derived.Test.YtfcmdiigfgbgbaaGreatN2
import Derived.Test.YtfcmdiigfgbgbaaGreatN3
import Derived.Test.YtfcmdiigfgbgbaaGreatN4
import Derived.OrdersHeld
import Derived.Test.YtfcmdiigfgbgbaaGreatGF1
import Derived.Test.YtfcmdiigfgbgbaaGreatL9
import Derived.Test.YtfcmdiigfgbgbaaGreatGR

namespace Go.Proofs.YtfcmdiigfgbgbaaGreat

theorem premGo_one (steps : List Stp) (at_ : Nat) (j : Int) (s : Nat) (r : List Int) (t : List Nat) :
    premGo steps at_ (j :: r) (s :: t) = ((decide (0 ≤ j) && (decide (j < (at_ : Int)) && subS (steps.getD j.toNat Stp.zero).set s)) && premGo steps at_ r t) := by
  rw [premGo]
  rw [show decide (j < 0) = !decide (0 ≤ j) by by_cases h : 0 ≤ j <;> simp [h] <;> omega, show decide ((at_ : Int) ≤ j) = !decide (j < (at_ : Int)) by by_cases h : j < (at_ : Int) <;> simp [h] <;> omega]
  cases decide (0 ≤ j) <;> cases decide (j < (at_ : Int)) <;> cases subS (steps.getD j.toNat Stp.zero).set s <;> rfl
theorem prem_zero {steps : List Stp} {at_ : Nat} {x : Stp} (hx : steps[at_]? = some x) : premN steps at_ [] = decide (x.from_.length = 0) := by
  unfold premN
  rw [getD_some' hx]
  cases h : x.from_ with
  | nil => rfl
  | cons j r => rfl
theorem prem_one {steps : List Stp} {at_ : Nat} {x : Stp} (hx : steps[at_]? = some x) (a : Nat) : premN steps at_ [a] = (x.from_.length == 1 && prem1 steps at_ 0 a) := by
  unfold premN prem1
  rw [getD_some' hx]
  cases h : x.from_ with
  | nil => rfl
  | cons j r =>
    cases r with
    | nil =>
      rw [premGo_one]
      show ((1 : Nat) == 1 && _) = ((1 : Nat) == 1 && _)
      simp [premGo]
    | cons k r => simp
theorem prem_two {steps : List Stp} {at_ : Nat} {x : Stp} (hx : steps[at_]? = some x) (a b : Nat) : premN steps at_ [a, b] = (x.from_.length == 2 && (prem1 steps at_ 0 a && prem1 steps at_ 1 b)) := by
  unfold premN prem1
  rw [getD_some' hx]
  cases h : x.from_ with
  | nil => rfl
  | cons j r =>
    cases r with
    | nil => rfl
    | cons k r =>
      cases r with
      | nil =>
        rw [premGo_one, premGo_one]
        simp [premGo]
      | cons l r => simp
theorem opposed_eq {base : List Nd} (hbe : baseErr base = 0) (on e : Int) : opposedN (oppsN base) on e = (decide (0 ≤ on) && (decide (on < (base.length : Int)) && (decide (0 ≤ e) && NegationN base on == e))) := by
  have hl : (oppsN base).length = base.length := by simp [oppsN, formulasN]
  unfold opposedN
  rw [hl]
  by_cases h0 : 0 ≤ on
  · by_cases h1 : on < (base.length : Int)
    · obtain ⟨k, rfl⟩ := Int.eq_ofNat_of_zero_le h0
      have hk : k < base.length := by omega
      have e1 : (oppsN base).getD (k : Int).toNat 0 = NegationN base (k : Int) := by
        unfold NegationN negationN
        rw [hbe, decide_eq_false (show ¬ (k : Int) < 0 by omega), decide_eq_false (show ¬ (base.length : Int) ≤ (k : Int) by omega), Int.toNat_natCast]
        have : (oppsN base)[k]? = some (placeN (formulasN base) (oppN (subN base k))) := by simp [oppsN, formulasN, hk]
        simp [List.getD, this]
      rw [e1]
    · rw [decide_eq_false h1]; simp
  · rw [decide_eq_false h0]; rfl
theorem Carry_eq {lg : Int} {base : List Nd} {set : Nat} {ag : Int} (hk : knownN lg = true) (hbe : baseErr base = 0) (hi : insideS base set = true) (h0 : 0 ≤ ag) (h4 : ag < 4) : CarryN lg base set ag = carryN lg base set ag := by
  unfold CarryN
  rw [hk, hbe, hi, decide_eq_false (show ¬ ag < 0 by omega), decide_eq_false (show ¬ 4 ≤ ag by omega)]
  rfl
theorem poss_agent {base : List Nd} (hbe : baseErr base = 0) {k : Nat} {n : Nd} (hn : base[k]? = some n) (ho : n.op = 10) : 0 ≤ n.i ∧ n.i < 4 := by
  obtain ⟨_, _, h3, _, _⟩ := heads_of (baseErr_ok hbe).1 n (List.mem_of_getElem? hn)
  unfold rangeBad at h3
  rw [ho] at h3
  simp [outsideB, hasFact, hasAgent, hasEvent, hasGroup] at h3
  omega
theorem closes_eq {base : List Nd} {steps : List Stp} {at_ : Nat} {x : Stp} (hx : steps[at_]? = some x) (hbe : baseErr base = 0) : closesQ base x = closedN base (oppsN base) steps at_ := by
  unfold closesQ closedN
  simp only [getD_some' hx]
  rw [prem_zero hx, opposed_eq hbe]
  have he : inS x.set x.e = (inS x.set x.e && decide (0 ≤ x.e)) := by
    unfold inS
    cases decide (0 ≤ x.e) <;> simp
  have ho : inS x.set x.on = (inS x.set x.on && decide (0 ≤ x.on)) := by
    unfold inS
    cases decide (0 ≤ x.on) <;> simp
  rw [he, ho]
  cases decide (x.from_.length = 0) <;> cases onN base x 2 <;> cases x.e == 0 <;> cases inS x.set x.on <;> cases decide (0 ≤ x.on) <;> cases decide (x.on < (base.length : Int)) <;> cases inS x.set x.e <;> cases decide (0 ≤ x.e) <;> cases NegationN base x.on == x.e <;> rfl
theorem correct_eq {lg : Int} {base : List Nd} {steps : List Stp} {at_ : Nat} {x : Stp} (hx : steps[at_]? = some x) (hbe : baseErr base = 0) (hk : knownN lg = true) : correctQ lg base steps at_ x = correctN lg base (oppsN base) steps at_ := by
  have hcl := closes_eq hx hbe
  have hp1 := fun a => prem_one hx a
  have hp2 := fun a b => prem_two hx a b
  have hop := opposed_eq hbe x.on x.e
  unfold correctQ correctN modalQ
  simp only [getD_some' hx]
  rw [hcl]
  simp only [hp1, hp2, hop]
  cases hi : insideS base x.set
  · rfl
  · simp only [Bool.not_true, cond_false]
    cases h1 : x.rule == 1
    · cases h4 : x.rule == 4
      · cases h2 : x.rule == 2
        · cases h3 : x.rule == 3
          · cases h5 : x.rule == 5
            · cases h6 : x.rule == 6
              · simp only [cond_false]
                cases h7 : x.rule == 7
                · simp only [cond_false, Bool.false_and, Bool.and_false]
                  cases x.from_.length != 1 || x.e != 0 <;> cases x.e != 0 <;> rfl
                · simp only [cond_true, Bool.true_and, bne]
                  by_cases h0 : 0 ≤ x.on
                  · by_cases h4 : x.on < 4
                    · rw [Carry_eq hk hbe hi h0 h4]
                      cases x.from_.length == 1 <;> cases x.e == 0 <;> cases (lg == 1 || lg == 5) <;> cases decide (0 ≤ x.on) <;> cases decide (x.on < 4) <;> cases prem1 steps at_ 0 (carryN lg base x.set x.on) <;> rfl
                    · rw [decide_eq_false h4]
                      cases x.from_.length == 1 <;> cases x.e == 0 <;> cases (lg == 1 || lg == 5) <;> cases decide (0 ≤ x.on) <;> rfl
                  · rw [decide_eq_false h0]
                    cases x.from_.length == 1 <;> cases x.e == 0 <;> cases (lg == 1 || lg == 5) <;> rfl
              · simp only [cond_true, cond_false, bne]
                cases hon : onN base x 10
                · cases x.from_.length == 1 <;> cases x.e == 0 <;> rfl
                · obtain ⟨k, n, hkk, hn, ho, _⟩ := on_yes hon
                  have hno : nodeOn base x = n := by unfold nodeOn; rw [hkk, Int.toNat_natCast, getD_of hn]
                  obtain ⟨a0, a4⟩ := poss_agent hbe hn ho
                  rw [hno, Carry_eq hk hbe hi a0 a4]
                  cases x.from_.length == 1 <;> cases x.e == 0 <;> cases prem1 steps at_ 0 (2 ^ n.x.toNat ||| carryN lg base x.set n.i) <;> rfl
            · simp only [cond_true, cond_false, bne]
              cases x.from_.length == 1 <;> cases x.e == 0 <;> cases onN base x 9 <;> cases (lg == 2 || (lg == 4 || lg == 6)) <;> cases prem1 steps at_ 0 (x.set ||| 2 ^ (nodeOn base x).x.toNat) <;> rfl
          · simp only [cond_true, cond_false, bne]
            cases x.from_.length == 2 <;> cases x.e == 0 <;> cases onN base x 6 <;> cases prem1 steps at_ 0 (x.set ||| 2 ^ (nodeOn base x).x.toNat) <;> cases prem1 steps at_ 1 (x.set ||| 2 ^ (nodeOn base x).y.toNat) <;> rfl
        · simp only [cond_true, cond_false, bne]
          cases x.from_.length == 1 <;> cases x.e == 0 <;> cases onN base x 5 <;> cases prem1 steps at_ 0 (x.set ||| 2 ^ (nodeOn base x).x.toNat ||| 2 ^ (nodeOn base x).y.toNat) <;> rfl
      · have h2 : (x.rule == 2) = false := by rw [show x.rule = 4 by simpa using h4]; rfl
        have h3 : (x.rule == 3) = false := by rw [show x.rule = 4 by simpa using h4]; rfl
        simp only [h2, h3, cond_true, cond_false]
        cases x.from_.length == 2 <;> cases decide (0 ≤ x.on) <;> cases decide (x.on < (base.length : Int)) <;> cases decide (0 ≤ x.e) <;> cases NegationN base x.on == x.e <;> cases prem1 steps at_ 0 (x.set ||| 2 ^ x.on.toNat) <;> cases prem1 steps at_ 1 (x.set ||| 2 ^ x.e.toNat) <;> rfl
    · simp only [cond_true]
end Go.Proofs.YtfcmdiigfgbgbaaGreat

/- The reference's correct, form, Broken, Check. -/

namespace Go.Proofs.YtfcmdiigfgbgbaaGreat
open Go.RowKit

theorem rmodal_any {w : World} {lg : Int} {base : List Nd} {steps : List Stp} {Ab As : Option Addr} {cb cs : Nat} (hb : Fml w (.slice Ab base.length cb) base) (hst : Sps w (.slice As steps.length cs) steps) (hbe : baseErr base = 0) (at_ : Nat) {x : Stp} (hx : steps[at_]? = some x) :
    Calls Tryz.prog 58 #[.agg #[.int .i64 lg, .slice Ab base.length cb, .slice As steps.length cs], .int .i64 (at_ : Int)] w fun e' w' => e' = .returned (.bool (modalQ lg base steps at_ x)) ∧ Ext w w' := by
  obtain ⟨s, ru, on, e, fr⟩ := x
  by_cases hf : fr.length = 1
  · by_cases he : e = 0
    · by_cases h5 : ru = 5
      · subst he h5
        exact rmodal_T hb hst hbe at_ s 5 on 0 fr hx rfl hf rfl
      · by_cases h6 : ru = 6
        · subst he h6
          exact rmodal_K hb hst hbe at_ s 6 on 0 fr hx rfl hf rfl
        · subst he
          exact rmodal_D hb hst hbe at_ s ru on 0 fr hx h5 h6 hf rfl
    · exact rmodal_bad hb hst hbe at_ s ru on e fr hx (.inr he)
  · exact rmodal_bad hb hst hbe at_ s ru on e fr hx (.inl hf)
set_option maxRecDepth 100000 in
set_option maxHeartbeats 40000000 in
theorem rcor_modal {w : World} {lg : Int} {base : List Nd} {steps : List Stp} {Ab As : Option Addr} {cb cs : Nat} (hb : Fml w (.slice Ab base.length cb) base) (hst : Sps w (.slice As steps.length cs) steps) (hbe : baseErr base = 0) (at_ : Nat) (s : Nat) (ru on e : Int) (fr : List Int) (hx : steps[at_]? = some ⟨s, ru, on, e, fr⟩) (hi : insideS base s = true) (h1 : ru ≠ 1) (h2 : ru ≠ 2) (h3 : ru ≠ 3) (h4 : ru ≠ 4) :
    Calls Tryz.prog 30 #[.agg #[.int .i64 lg, .slice Ab base.length cb, .slice As steps.length cs], .int .i64 (at_ : Int)] w fun e' w' => e' = .returned (.bool (modalQ lg base steps at_ ⟨s, ru, on, e, fr⟩)) ∧ Ext w w' := by
  have H := Lib.hid hb
  have HST := Lib.hid hst
  have HBE := Lib.hid hbe
  have HX := Lib.hid hx
  obtain ⟨ad, rfl, hcap, hmax, hblk, hrow⟩ := hst.rows (by intro e; rw [e] at hx; cases hx)
  obtain ⟨ur, q0, q1, q2, q3, q4, ⟨Af, cf, rfl, _⟩, hset⟩ := hrow at_ _ hx
  have hat := (List.getElem?_eq_some_iff.1 hx).1
  have ha1 : (at_ : Int) < (steps.length : Int) := by omega
  have ha0 : (0 : Int) ≤ (at_ : Int) := by omega
  simp only at q0 q1 q2 q3 q4 hset
  have HBLK := Lib.hid hblk
  have hab := block_of_add ad (at_ * 5)
  have HQ := Lib.hid (And.intro q0 (And.intro q1 (And.intro q2 (And.intro q3 q4))))
  have HADB := Lib.hid (show (ad.add (at_ * 5)).block < w.heap.size by rw [hab]; exact hblk)
  clear hx hst hb hbe hrow hab q0 q1 q2 q3 q4 hblk
  have HIN := Lib.hid hi
  have n1 : (ru == 1) = false := by simpa using h1
  have n2 : (ru == 2) = false := by simpa using h2
  have n3 : (ru == 3) = false := by simpa using h3
  have n4 : (ru == 4) = false := by simpa using h4
  clear hi h1 h2 h3 h4
  have QQ := HQ.out
  obtain ⟨q0, q1, q2, q3, q4⟩ := QQ
  have hxa : Ext w (w.alloc (.cells #[.int .i64 lg, .slice Ab base.length cb, .slice (some ad) steps.length cs] 25)) := (Ext.refl _).alloc _
  have a0 := (hxa.cell (p := ad.add (at_ * 5)) HADB.out).trans q0
  have a1 := (hxa.cell (p := ⟨(ad.add (at_ * 5)).block, (ad.add (at_ * 5)).off + 1, none⟩) HADB.out).trans q1
  have a2 := (hxa.cell (p := ⟨(ad.add (at_ * 5)).block, (ad.add (at_ * 5)).off + 2, none⟩) HADB.out).trans q2
  have a3 := (hxa.cell (p := ⟨(ad.add (at_ * 5)).block, (ad.add (at_ * 5)).off + 3, none⟩) HADB.out).trans q3
  have a4 := (hxa.cell (p := ⟨(ad.add (at_ * 5)).block, (ad.add (at_ * 5)).off + 4, none⟩) HADB.out).trans q4
  have XE := Lib.hid (show Ext w ((w.alloc (.cells #[.int .i64 lg, .slice Ab base.length cb, .slice (some ad) steps.length cs] 25)).alloc (.cells #[.int .u64 (s : Int), .int .i64 ru, .int .i64 on, .int .i64 e, .slice Af fr.length cf] 37)) from ((Ext.refl _).alloc _).alloc _)
  clear hxa q0 q1 q2 q3 q4
  go_enter Tryz.func30, Tryz.ntmps30
  go_wp2_with (go_at_call 40; refine (rinside_any (Ab) cb base s hset _).mono ?_; rintro e5 w5 ⟨rfl, rfl⟩; rw [HIN.out])
  refine (rmodal_any (lg := lg) (H.out.ext XE.out) (HST.out.ext XE.out) HBE.out at_ HX.out).mono ?_
  rintro e1 w1 ⟨rfl, hx⟩
  have Y1 := Lib.hid (XE.out.trans hx)
  clear hx
  go_wp2_with fail
  go_ret
  exact ⟨rfl, Y1.out⟩
theorem rcorrect_any {w : World} {lg : Int} {base : List Nd} {steps : List Stp} {Ab As : Option Addr} {cb cs : Nat} (hb : Fml w (.slice Ab base.length cb) base) (hst : Sps w (.slice As steps.length cs) steps) (hbe : baseErr base = 0) (at_ : Nat) {x : Stp} (hx : steps[at_]? = some x) (hk : knownN lg = true) :
    Calls Tryz.prog 30 #[.agg #[.int .i64 lg, .slice Ab base.length cb, .slice As steps.length cs], .int .i64 (at_ : Int)] w fun e' w' => e' = .returned (.bool (correctN lg base (oppsN base) steps at_)) ∧ Ext w w' := by
  rw [← correct_eq hx hbe hk]
  obtain ⟨s, ru, on, e, fr⟩ := x
  cases hi : insideS base s
  · exact rcor_out hb hst hbe at_ s ru on e fr hx hi
  · by_cases h1 : ru = 1
    · subst h1; exact rcor_close hb hst hbe at_ s 1 on e fr hx rfl hi
    · by_cases h2 : ru = 2
      · subst h2; exact rcor_and hb hst hbe at_ s 2 on e fr hx rfl hi
      · by_cases h3 : ru = 3
        · subst h3; exact rcor_or hb hst hbe at_ s 3 on e fr hx rfl hi
        · by_cases h4 : ru = 4
          · subst h4; exact rcor_cut hb hst hbe at_ s 4 on e fr hx rfl hi
          · have hc : correctQ lg base steps at_ ⟨s, ru, on, e, fr⟩ = modalQ lg base steps at_ ⟨s, ru, on, e, fr⟩ := by
              have n1 : (ru == 1) = false := by simpa using h1
              have n2 : (ru == 2) = false := by simpa using h2
              have n3 : (ru == 3) = false := by simpa using h3
              have n4 : (ru == 4) = false := by simpa using h4
              unfold correctQ
              simp only [hi, n1, n2, n3, n4, Bool.not_true, cond_false]
            rw [hc]
            exact rcor_modal hb hst hbe at_ s ru on e fr hx hi h1 h2 h3 h4
set_option maxRecDepth 100000 in
set_option maxHeartbeats 4000000 in
theorem rform_any {w : World} {lg : Int} {base : List Nd} {steps : List Stp} {Ab As : Option Addr} {cb cs : Nat} (hb : Fml w (.slice Ab base.length cb) base) (hst : Sps w (.slice As steps.length cs) steps) :
    Calls Tryz.prog 23 #[.agg #[.int .i64 lg, .slice Ab base.length cb, .slice As steps.length cs]] w fun e' w' => e' = .returned (.int .i64 (formS lg base steps)) ∧ Ext w w' := by
  have H := Lib.hid hb
  obtain ⟨A', c', eA, hs1, hs2, _⟩ := hst
  obtain ⟨rfl, rfl⟩ : As = A' ∧ cs = c' := by injection eA with eA _ eC; exact ⟨eA, eC⟩
  unfold maxLen at hs2
  clear hb eA
  obtain ⟨z0, z1, z2, _, zlt⟩ := cells3 (heap_alloc_new w (.cells #[.int .i64 lg, .slice Ab base.length cb, .slice As steps.length cs] 25))
  have Z := Lib.hid (And.intro z0 (And.intro z1 z2))
  have ZLT := Lib.hid zlt
  have X0 := Lib.hid ((Ext.refl w).alloc (.cells #[.int .i64 lg, .slice Ab base.length cb, .slice As steps.length cs] 25))
  clear z0 z1 z2 zlt
  cases hk : knownN lg
  · by_cases hlo : 0 ≤ lg
    · have hhi : ¬ lg ≤ 6 := fun h6 => by unfold knownN at hk; rw [decide_eq_true hlo, decide_eq_true h6] at hk; cases hk
      have HE := Lib.hid (show formS lg base steps = 2 by unfold formS; rw [hk]; rfl)
      have hlo1 : ¬ lg < 0 := by omega
      have hhi1 : 6 < lg := by omega
      have hlo2 : decide (lg < 0) = false := decide_eq_false hlo1
      clear hk hlo hhi
      go_enter Tryz.func23, Tryz.ntmps23
      go_wp2_with fail
      go_ret
      exact ⟨by rw [HE.out] <;> rfl, X0.out⟩
    · have hlo1 : lg < 0 := by omega
      have HE := Lib.hid (show formS lg base steps = 2 by unfold formS; rw [hk]; rfl)
      clear hk hlo
      go_enter Tryz.func23, Tryz.ntmps23
      go_wp2_with fail
      go_ret
      exact ⟨by rw [HE.out] <;> rfl, X0.out⟩
  · have HK := Lib.hid hk
    have hlo1 : ¬ lg < 0 := fun h0 => by unfold knownN at hk; rw [decide_eq_false (show ¬ 0 ≤ lg by omega)] at hk; cases hk
    have hhi1 : ¬ 6 < lg := fun h0 => by unfold knownN at hk; rw [decide_eq_false (show ¬ lg ≤ 6 by omega)] at hk; revert hk; cases decide (0 ≤ lg) <;> simp
    have hlo2 : decide (lg < 0) = false := decide_eq_false hlo1
    have hhi2 : decide (6 < lg) = false := decide_eq_false hhi1
    clear hk
    by_cases hb0 : baseErr base = 0
    · have HB := Lib.hid hb0
      clear hb0
      by_cases hl0 : steps.length = 0
      · have hl1 : ((steps.length : Int) == 0) = true := by rw [hl0]; rfl
        have HL0 := Lib.hid hl0
        clear hl0
        have HE := Lib.hid (show formS lg base steps = 3 by unfold formS; rw [HK.out, HB.out, decide_eq_true HL0.out]; rfl)
        go_enter Tryz.func23, Tryz.ntmps23
        go_wp2_with fail
        refine (rBase_any _ base _ (H.out.ext X0.out).1).mono ?_
        rintro e w2 ⟨rfl, hx⟩
        rw [HB.out]
        have X2 := Lib.hid (X0.out.trans hx)
        have x2 := (hx.cell (p := ⟨w.heap.size, 2, none⟩) ZLT.out).trans Z.out.2.2
        clear hx
        go_wp2_with fail
        go_ret
        exact ⟨by rw [HE.out] <;> rfl, X2.out⟩
      · have hl1 : ((steps.length : Int) == 0) = false := beq_eq_false_iff_ne.2 (by omega)
        by_cases hl4 : 4096 < steps.length
        · have hl5 : (4096 : Int) < (steps.length : Int) := by omega
          have HE := Lib.hid (show formS lg base steps = 3 by unfold formS; rw [HK.out, HB.out, decide_eq_false hl0, decide_eq_true hl4]; rfl)
          go_enter Tryz.func23, Tryz.ntmps23
          go_wp2_with fail
          refine (rBase_any _ base _ (H.out.ext X0.out).1).mono ?_
          rintro e w2 ⟨rfl, hx⟩
          rw [HB.out]
          have X2 := Lib.hid (X0.out.trans hx)
          have x2 := (hx.cell (p := ⟨w.heap.size, 2, none⟩) ZLT.out).trans Z.out.2.2
          clear hx
          go_wp2_with fail
          go_ret
          exact ⟨by rw [HE.out] <;> rfl, X2.out⟩
        · have hl5 : ¬ (4096 : Int) < (steps.length : Int) := by omega
          have HE := Lib.hid (show formS lg base steps = 0 by unfold formS; rw [HK.out, HB.out, decide_eq_false hl0, decide_eq_false hl4]; rfl)
          go_enter Tryz.func23, Tryz.ntmps23
          go_wp2_with fail
          refine (rBase_any _ base _ (H.out.ext X0.out).1).mono ?_
          rintro e w2 ⟨rfl, hx⟩
          rw [HB.out]
          have X2 := Lib.hid (X0.out.trans hx)
          have x2 := (hx.cell (p := ⟨w.heap.size, 2, none⟩) ZLT.out).trans Z.out.2.2
          clear hx
          go_wp2_with fail
          go_ret
          exact ⟨by rw [HE.out] <;> rfl, X2.out⟩
    · have hb1 : (baseErr base != 0) = true := by simpa using hb0
      have HE := Lib.hid (show formS lg base steps = baseErr base by unfold formS; rw [HK.out, hb1]; rfl)
      clear hb0
      go_enter Tryz.func23, Tryz.ntmps23
      go_wp2_with fail
      refine (rBase_any _ base _ (H.out.ext X0.out).1).mono ?_
      rintro e w2 ⟨rfl, hx⟩
      have X2 := Lib.hid (X0.out.trans hx)
      clear hx
      go_wp2_with fail
      go_ret
      exact ⟨by rw [HE.out] <;> rfl, X2.out⟩
theorem form_parts {lg : Int} {base : List Nd} {steps : List Stp} (h : formS lg base steps = 0) : knownN lg = true ∧ baseErr base = 0 := by
  unfold formS at h
  cases hk : knownN lg
  · rw [hk] at h; cases h
  · rw [hk] at h
    simp only [Bool.not_true, cond_false] at h
    cases hb : baseErr base != 0
    · exact ⟨rfl, by simpa using hb⟩
    · rw [hb] at h
      have : baseErr base ≠ 0 := by simpa using hb
      exact absurd h this
theorem brokenGo_step {lg : Int} {base : List Nd} {opps : List Int} {steps : List Stp} {k : Nat} (hk : k < steps.length) :
    brokenGo lg base opps steps (steps.length - k) k = bif correctN lg base opps steps k then brokenGo lg base opps steps (steps.length - (k + 1)) (k + 1) else k := by
  rw [show steps.length - k = (steps.length - (k + 1)) + 1 by omega]
  rfl
set_option maxRecDepth 100000 in
set_option maxHeartbeats 4000000 in
theorem rbroken_any {w : World} {lg : Int} {base : List Nd} {steps : List Stp} {Ab As : Option Addr} {cb cs : Nat} (hb : Fml w (.slice Ab base.length cb) base) (hst : Sps w (.slice As steps.length cs) steps) :
    Calls Tryz.prog 10 #[.agg #[.int .i64 lg, .slice Ab base.length cb, .slice As steps.length cs]] w fun e' w' => e' = .returned (.int .i64 (brokenS lg base steps)) ∧ Ext w w' := by
  have H := Lib.hid hb
  have HST := Lib.hid hst
  obtain ⟨A', c', eA, hs1, hs2, _⟩ := hst
  obtain ⟨rfl, rfl⟩ : As = A' ∧ cs = c' := by injection eA with eA _ eC; exact ⟨eA, eC⟩
  unfold maxLen at hs2
  clear hb eA
  obtain ⟨z0, z1, z2, _, zlt⟩ := cells3 (heap_alloc_new w (.cells #[.int .i64 lg, .slice Ab base.length cb, .slice As steps.length cs] 25))
  have Z := Lib.hid (And.intro z0 (And.intro z1 z2))
  have ZLT := Lib.hid zlt
  have X0 := Lib.hid ((Ext.refl w).alloc (.cells #[.int .i64 lg, .slice Ab base.length cb, .slice As steps.length cs] 25))
  clear z0 z1 z2 zlt
  by_cases hf : formS lg base steps = 0
  · have HF := Lib.hid hf
    have HE := Lib.hid (show brokenS lg base steps = brokenGo lg base (oppsN base) steps steps.length 0 by unfold brokenS; rw [hf]; rfl)
    clear hf
    go_enter Tryz.func10, Tryz.ntmps10
    go_wp2_with fail
    refine (rform_any (lg := lg) (H.out.ext X0.out) (HST.out.ext X0.out)).mono ?_
    rintro e w1 ⟨rfl, hx⟩
    rw [HF.out]
    have Y1 := Lib.hid (show Ext (w.alloc (.cells #[.int .i64 lg, .slice Ab base.length cb, .slice As steps.length cs] 25)) w1 from hx)
    clear hx
    go_wp2_with fail
    go_loopw [3] (fun vi wr => ∃ k : Nat, vi = .int .i64 (k : Int) ∧ k ≤ steps.length ∧ Hid (brokenGo lg base (oppsN base) steps steps.length 0 = brokenGo lg base (oppsN base) steps (steps.length - k) k) ∧ Hid (Ext (w.alloc (.cells #[.int .i64 lg, .slice Ab base.length cb, .slice As steps.length cs] 25)) wr)) (fun vi _ => steps.length - (intOf vi).toNat)
    case atStart => exact ⟨0, rfl, Nat.zero_le _, Lib.hid rfl, Y1⟩
    case round =>
      obtain ⟨k, rfl, hk, HO, HX⟩ := hrel
      have x0 := (HX.out.cell (p := ⟨w.heap.size, 0, none⟩) ZLT.out).trans Z.out.1
      have x1 := (HX.out.cell (p := ⟨w.heap.size, 1, none⟩) ZLT.out).trans Z.out.2.1
      have x2 := (HX.out.cell (p := ⟨w.heap.size, 2, none⟩) ZLT.out).trans Z.out.2.2
      by_cases hlt2 : k < steps.length
      · obtain ⟨x, hx⟩ : ∃ x, steps[k]? = some x := ⟨_, List.getElem?_eq_getElem hlt2⟩
        have HC := Lib.hid (rcorrect_any (lg := lg) (H.out.ext (X0.out.trans HX.out)) (HST.out.ext (X0.out.trans HX.out)) (form_parts HF.out).2 k hx (form_parts HF.out).1)
        have HS := Lib.hid (brokenGo_step (lg := lg) (base := base) (opps := oppsN base) hlt2)
        clear hx
        cases hc : correctN lg base (oppsN base) steps k
        · have HB := Lib.hid (show brokenS lg base steps = (k : Int) by rw [HE.out, HO.out, HS.out, hc]; rfl)
          rw [hc] at HC
          clear hc
          go_wp2_with fail
          refine HC.out.mono ?_
          rintro e w3 ⟨rfl, hx⟩
          have Y3 := Lib.hid (HX.out.trans hx)
          clear hx
          go_wp2_with fail
          go_ret
          exact ⟨by rw [HB.out] <;> rfl, X0.out.trans Y3.out⟩
        · have HO2 : Hid (brokenGo lg base (oppsN base) steps steps.length 0 = brokenGo lg base (oppsN base) steps (steps.length - (k + 1)) (k + 1)) := Lib.hid (by rw [HO.out, HS.out, hc]; rfl)
          rw [hc] at HC
          clear hc
          go_wp2_with fail
          refine HC.out.mono ?_
          rintro e w3 ⟨rfl, hx⟩
          have Y3 := Lib.hid (HX.out.trans hx)
          clear hx
          go_wp2_with fail
          go_roundw
          case rel => exact ⟨k + 1, by go_num, by omega, HO2, Y3⟩
          case measure => simp [intOf]; omega
      · obtain rfl : steps.length = k := by omega
        have HB := Lib.hid (show brokenS lg base steps = -1 by rw [HE.out, HO.out, Nat.sub_self]; rfl)
        go_wp2_with fail
        go_ret
        exact ⟨by rw [HB.out] <;> rfl, X0.out.trans HX.out⟩
  · have hf1 : (formS lg base steps != 0) = true := by simpa using hf
    have HE := Lib.hid (show brokenS lg base steps = -1 by unfold brokenS; rw [hf1]; rfl)
    clear hf
    go_enter Tryz.func10, Tryz.ntmps10
    go_wp2_with fail
    refine (rform_any (lg := lg) (H.out.ext X0.out) (HST.out.ext X0.out)).mono ?_
    rintro e w1 ⟨rfl, hx⟩
    have Y1 := Lib.hid (X0.out.trans hx)
    clear hx
    go_wp2_with fail
    go_ret
    exact ⟨by rw [HE.out] <;> rfl, Y1.out⟩
set_option maxRecDepth 100000 in
set_option maxHeartbeats 4000000 in
theorem rcheck_any {w : World} {lg : Int} {base : List Nd} {steps : List Stp} {Ab As : Option Addr} {cb cs : Nat} (hb : Fml w (.slice Ab base.length cb) base) (hst : Sps w (.slice As steps.length cs) steps) :
    Calls Tryz.prog 8 #[.agg #[.int .i64 lg, .slice Ab base.length cb, .slice As steps.length cs]] w fun e' w' => e' = .returned (.int .i64 (checkS lg base steps)) ∧ Ext w w' := by
  have H := Lib.hid hb
  have HST := Lib.hid hst
  clear hb hst
  obtain ⟨z0, z1, z2, _, zlt⟩ := cells3 (heap_alloc_new w (.cells #[.int .i64 lg, .slice Ab base.length cb, .slice As steps.length cs] 25))
  have Z := Lib.hid (And.intro z0 (And.intro z1 z2))
  have ZLT := Lib.hid zlt
  have X0 := Lib.hid ((Ext.refl w).alloc (.cells #[.int .i64 lg, .slice Ab base.length cb, .slice As steps.length cs] 25))
  clear z0 z1 z2 zlt
  by_cases hf : formS lg base steps = 0
  · have HF := Lib.hid hf
    have HE := Lib.hid (show checkS lg base steps = bif decide (0 ≤ brokenS lg base steps) then 13 else 0 by unfold checkS; rw [hf]; rfl)
    clear hf
    by_cases h0 : 0 ≤ brokenS lg base steps
    · have h0d : decide (0 ≤ brokenS lg base steps) = true := decide_eq_true h0
      have HE2 := Lib.hid (show checkS lg base steps = 13 by rw [HE.out, h0d]; rfl)
      go_enter Tryz.func8, Tryz.ntmps8
      go_wp2_with fail
      refine (rform_any (lg := lg) (H.out.ext X0.out) (HST.out.ext X0.out)).mono ?_
      rintro e w1 ⟨rfl, hx⟩
      rw [HF.out]
      have Y1 := Lib.hid (X0.out.trans hx)
      have x0 := (hx.cell (p := ⟨w.heap.size, 0, none⟩) ZLT.out).trans Z.out.1
      have x1 := (hx.cell (p := ⟨w.heap.size, 1, none⟩) ZLT.out).trans Z.out.2.1
      have x2 := (hx.cell (p := ⟨w.heap.size, 2, none⟩) ZLT.out).trans Z.out.2.2
      clear hx
      go_wp2_with fail
      refine (rbroken_any (lg := lg) (H.out.ext Y1.out) (HST.out.ext Y1.out)).mono ?_
      rintro e w2 ⟨rfl, hx⟩
      have Y2 := Lib.hid (Y1.out.trans hx)
      clear hx
      go_wp2_with fail
      go_ret
      exact ⟨by rw [HE2.out] <;> rfl, Y2.out⟩
    · have h0d : decide (0 ≤ brokenS lg base steps) = false := decide_eq_false h0
      have HE2 := Lib.hid (show checkS lg base steps = 0 by rw [HE.out, h0d]; rfl)
      go_enter Tryz.func8, Tryz.ntmps8
      go_wp2_with fail
      refine (rform_any (lg := lg) (H.out.ext X0.out) (HST.out.ext X0.out)).mono ?_
      rintro e w1 ⟨rfl, hx⟩
      rw [HF.out]
      have Y1 := Lib.hid (X0.out.trans hx)
      have x0 := (hx.cell (p := ⟨w.heap.size, 0, none⟩) ZLT.out).trans Z.out.1
      have x1 := (hx.cell (p := ⟨w.heap.size, 1, none⟩) ZLT.out).trans Z.out.2.1
      have x2 := (hx.cell (p := ⟨w.heap.size, 2, none⟩) ZLT.out).trans Z.out.2.2
      clear hx
      go_wp2_with fail
      refine (rbroken_any (lg := lg) (H.out.ext Y1.out) (HST.out.ext Y1.out)).mono ?_
      rintro e w2 ⟨rfl, hx⟩
      have Y2 := Lib.hid (Y1.out.trans hx)
      clear hx
      go_wp2_with fail
      go_ret
      exact ⟨by rw [HE2.out] <;> rfl, Y2.out⟩
  · have hf1 : (formS lg base steps != 0) = true := by simpa using hf
    have hf2 : (formS lg base steps == 0) = false := by simpa using hf
    have HE := Lib.hid (show checkS lg base steps = formS lg base steps by unfold checkS; rw [hf1]; rfl)
    clear hf
    go_enter Tryz.func8, Tryz.ntmps8
    go_wp2_with fail
    refine (rform_any (lg := lg) (H.out.ext X0.out) (HST.out.ext X0.out)).mono ?_
    rintro e w1 ⟨rfl, hx⟩
    have Y1 := Lib.hid (X0.out.trans hx)
    clear hx
    go_wp2_with fail
    go_ret
    exact ⟨by rw [HE.out] <;> rfl, Y1.out⟩
end Go.Proofs.YtfcmdiigfgbgbaaGreat

/- The law SequentChecks. -/

namespace Go.Proofs.YtfcmdiigfgbgbaaGreat
open Go.RowKit

set_option maxRecDepth 100000 in
set_option maxHeartbeats 8000000 in
theorem checks_any {w : World} {lg : Int} {vb vs : Value} {base : List Nd} {steps : List Stp} (hb : Fml w vb base) (hs : Sps w vs steps) :
    Calls Tryz.prog 3 #[.agg #[.int .i64 lg, vb, vs]] w fun e w' => e = .returned (.bool true) ∧ Ext w w' := by
  have H := Lib.hid hb
  have HS := Lib.hid hs
  obtain ⟨Ab, cb, rfl, _⟩ := fml_slice hb
  obtain ⟨As, cs, rfl, hs1, hs2, _⟩ := hs
  unfold maxLen at hs2
  clear hb
  obtain ⟨z0, z1, z2, _, zlt⟩ := cells3 (heap_alloc_new w (.cells #[.int .i64 lg, .slice Ab base.length cb, .slice As steps.length cs] 25))
  have Z := Lib.hid (And.intro z0 (And.intro z1 z2))
  have ZLT := Lib.hid zlt
  have X0 := Lib.hid ((Ext.refl w).alloc (.cells #[.int .i64 lg, .slice Ab base.length cb, .slice As steps.length cs] 25))
  clear z0 z1 z2 zlt
  cases hf : fewS base steps
  · have HFW := Lib.hid hf
    clear hf
    go_enter Tryz.func3, Tryz.ntmps3
    go_wp2_with fail
    refine (awake_any _).mono ?_
    rintro e w1 ⟨rfl, hx⟩
    have Y1 := Lib.hid (X0.out.trans hx)
    have y0 := (hx.cell (p := ⟨w.heap.size, 0, none⟩) ZLT.out).trans Z.out.1
    have y1 := (hx.cell (p := ⟨w.heap.size, 1, none⟩) ZLT.out).trans Z.out.2.1
    have y2 := (hx.cell (p := ⟨w.heap.size, 2, none⟩) ZLT.out).trans Z.out.2.2
    have ylt := Nat.lt_of_lt_of_le ZLT.out hx.size
    clear hx
    go_wp2_with fail
    refine (fewS_any (lg := lg) (H.out.ext Y1.out) (HS.out.ext Y1.out)).mono ?_
    rintro e w2 ⟨rfl, hx⟩
    have Y2 := Lib.hid (Y1.out.trans hx)
    have n0 := (hx.cell (p := ⟨w.heap.size, 0, none⟩) ylt).trans y0
    have n1 := (hx.cell (p := ⟨w.heap.size, 1, none⟩) ylt).trans y1
    have n2 := (hx.cell (p := ⟨w.heap.size, 2, none⟩) ylt).trans y2
    have nlt := Nat.lt_of_lt_of_le ylt hx.size
    clear hx y0 y1 y2 ylt
    rw [HFW.out]
    go_wp2_with fail
    refine (awake_any _).mono ?_
    rintro e w3 ⟨rfl, hx⟩
    have Y3 := Lib.hid (Y2.out.trans hx)
    clear hx
    go_wp2_with fail
    go_ret
    exact ⟨rfl, Y3.out⟩
  · have HFW := Lib.hid hf
    clear hf
    go_enter Tryz.func3, Tryz.ntmps3
    go_wp2_with fail
    refine (awake_any _).mono ?_
    rintro e w1 ⟨rfl, hx⟩
    have Y1 := Lib.hid (X0.out.trans hx)
    have y0 := (hx.cell (p := ⟨w.heap.size, 0, none⟩) ZLT.out).trans Z.out.1
    have y1 := (hx.cell (p := ⟨w.heap.size, 1, none⟩) ZLT.out).trans Z.out.2.1
    have y2 := (hx.cell (p := ⟨w.heap.size, 2, none⟩) ZLT.out).trans Z.out.2.2
    have ylt := Nat.lt_of_lt_of_le ZLT.out hx.size
    clear hx
    go_wp2_with fail
    refine (fewS_any (lg := lg) (H.out.ext Y1.out) (HS.out.ext Y1.out)).mono ?_
    rintro e w2 ⟨rfl, hx⟩
    have Y2 := Lib.hid (Y1.out.trans hx)
    have n0 := (hx.cell (p := ⟨w.heap.size, 0, none⟩) ylt).trans y0
    have n1 := (hx.cell (p := ⟨w.heap.size, 1, none⟩) ylt).trans y1
    have n2 := (hx.cell (p := ⟨w.heap.size, 2, none⟩) ylt).trans y2
    have nlt := Nat.lt_of_lt_of_le ylt hx.size
    clear hx y0 y1 y2 ylt
    rw [HFW.out]
    go_wp2_with fail
    refine wp_region_held_drew (S := fun w' => w'.cell? (⟨w.heap.size, 0, none⟩) = some (.int .i64 lg) ∧ w'.cell? (⟨w.heap.size, 1, none⟩) = some (.slice Ab base.length cb) ∧ w'.cell? (⟨w.heap.size, 2, none⟩) = some (.slice As steps.length cs)) (by kernel_rfl) ⟨xc nlt n0, xc nlt n1, xc nlt n2⟩ (fun hHeld => ?_)
    refine tk 0 hHeld ?_
    refine tk 2 hHeld ?_
    refine wpAnyH_ready (rs := [1]) (by kernel_rfl) (by simp) ?_
    refine AllReadyH.cons rfl (fun K hK => ?_) AllReadyH.nil
    go_simp
    (go_at_call 7; refine (checkS_any (lg := lg) (H.out.ext (Y2.out.trans xw)) (HS.out.ext (Y2.out.trans xw))).mono ?_; rintro e2 wz3 ⟨rfl, hv⟩; have hx3 : Ext w2 wz3 := xt hv; clear hv)
    go_wp2_with fail
    refine hK.out _ _ ⟨xc nlt n0, xc nlt n1, xc nlt n2⟩ (fun hHeld => ?_)
    clear hK K
    try simp only [Act.put, List.setIfInBounds_toArray, List.set_cons_zero, List.set_cons_succ, List.getElem_toArray, List.getElem_cons_succ, List.getElem_cons_zero]
    refine wpAnyH_ready (rs := [3]) (by kernel_rfl) (by simp) ?_
    refine AllReadyH.cons rfl (fun K hK => ?_) AllReadyH.nil
    go_simp
    (go_at_call 8; refine (rcheck_any (lg := lg) (H.out.ext (Y2.out.trans xw)) (HS.out.ext (Y2.out.trans xw))).mono ?_; rintro e2 wz4 ⟨rfl, hv⟩; have hx4 : Ext w2 wz4 := xt hv; clear hv)
    go_wp2_with fail
    refine hK.out _ _ ⟨xc nlt n0, xc nlt n1, xc nlt n2⟩ (fun hHeld => ?_)
    clear hK K
    try simp only [Act.put, List.setIfInBounds_toArray, List.set_cons_zero, List.set_cons_succ, List.getElem_toArray, List.getElem_cons_succ, List.getElem_cons_zero]
    refine tk 4 hHeld ?_
    refine tk 5 hHeld ?_
    refine tk 6 hHeld ?_
    refine tk 8 hHeld ?_
    refine wpAnyH_ready (rs := [7]) (by kernel_rfl) (by simp) ?_
    refine AllReadyH.cons rfl (fun K hK => ?_) AllReadyH.nil
    go_simp
    (go_at_call 9; refine (broken_any (lg := lg) (H.out.ext (Y2.out.trans xw)) (HS.out.ext (Y2.out.trans xw))).mono ?_; rintro e2 wz5 ⟨rfl, hv⟩; have hx5 : Ext w2 wz5 := xt hv; clear hv)
    go_wp2_with fail
    refine hK.out _ _ ⟨xc nlt n0, xc nlt n1, xc nlt n2⟩ (fun hHeld => ?_)
    clear hK K
    try simp only [Act.put, List.setIfInBounds_toArray, List.set_cons_zero, List.set_cons_succ, List.getElem_toArray, List.getElem_cons_succ, List.getElem_cons_zero]
    refine wpAnyH_ready (rs := [9]) (by kernel_rfl) (by simp) ?_
    refine AllReadyH.cons rfl (fun K hK => ?_) AllReadyH.nil
    go_simp
    (go_at_call 10; refine (rbroken_any (lg := lg) (H.out.ext (Y2.out.trans xw)) (HS.out.ext (Y2.out.trans xw))).mono ?_; rintro e2 wz6 ⟨rfl, hv⟩; have hx6 : Ext w2 wz6 := xt hv; clear hv)
    go_wp2_with fail
    refine hK.out _ _ ⟨xc nlt n0, xc nlt n1, xc nlt n2⟩ (fun hHeld => ?_)
    clear hK K
    try simp only [Act.put, List.setIfInBounds_toArray, List.set_cons_zero, List.set_cons_succ, List.getElem_toArray, List.getElem_cons_succ, List.getElem_cons_zero]
    refine tk 10 hHeld ?_
    refine tk 11 hHeld ?_
    refine tk 12 hHeld ?_
    refine wpAnyH_done (by kernel_rfl) ?_ _
    go_wp2_with fail
    go_ret
    exact ⟨rfl, Y2.out.trans xw⟩
end Go.Proofs.YtfcmdiigfgbgbaaGreat

/- SequentChecks: the error of a refutation and its first step that is not correct are what is specified: for every refutation. -/

namespace Go.Proofs.YtfcmdiigfgbgbaaGreat
open Go.ChangeShapes Go.WideShapes Go.ChangeAt Go.RowKit Go.Joins

theorem laidOutP : laidOutB Tryz.prog = true := by kernel_rfl
theorem own : ownKnob Tryz.prog.godebug = none := by kernel_rfl
set_option maxRecDepth 100000 in
theorem sequentChecks_lifted (os : Os) (started : os.Started) (H : Type) (enc : TypeId × Value → H) :
    ReturnsInHanded {} Tryz.checked os 3 .any (Rows.sequentChecksSpec.pre6 enc Tryz.prog Tryz.f3 Rows.sequentChecksRow.domain false)
      (Rows.sequentChecksSpec.post enc Tryz.prog Tryz.f3 false true false false) := by
  refine returnsInHanded_of_change (C := Tryz.checked) own started (by kernel_rfl) Tryz.func3
    (ChangeSpec.witness6 (enc := enc) (C := Tryz.checked) false ⟨#[], #[.agg #[.int .i64 0, .slice none 0 0, .slice none 0 0]], []⟩ 8 (by kernel_rfl) (by kernel_rfl) (by kernel_rfl) (by kernel_rfl)) ?_
  intro W base args ds gs before hval0 hW hcnd _
  have hval : ∀ (j : Nat) t v, Tryz.f3.params[j]? = some t → args[j]? = some v → Value.okWide Tryz.prog W .any base t v := hval0
  have hW' := hW
  obtain ⟨p, q, hA0, hV, rfl, hfz, hnd⟩ := hW
  have hA : DataW.TrodAll enc Tryz.prog W 0 (fun _ => true) true Tryz.f3.params.toList args.toList ds p := hA0
  rw [Tryz.params3] at hA hval
  obtain ⟨v0, vs0, d0, ds0, p0, q0, hargs, rfl, rfl, h0, r0⟩ := trodAll_cons hA
  obtain ⟨rfl, rfl, rfl⟩ := trodAll_nil r0
  obtain rfl : args = #[v0] := by cases args; simp_all
  obtain ⟨rfl, rfl⟩ := trodVars_none hV
  obtain ⟨v10, v11, v12, y0, y1, y2, n, rfl, hd, hp, t0, t1, t2⟩ := open_agg3 Tryz.underlying25 (by kernel_rfl) (by kernel_rfl) (hval 0 25 v0 rfl rfl) h0
  obtain ⟨lg, rfl, _⟩ := int_of_trod t0
  obtain ⟨bs, hbs⟩ := fml_of_trod t1
  obtain ⟨ls, hls⟩ := sps_of_trod t2
  simp only [List.append_nil] at hW'
  clear hA0 hval0
  refine (checks_any (lg := lg) hbs hls).mono ?_
  rintro e W' ⟨rfl, hx⟩
  have hlt : ∀ x ∈ p0, x.block < W.heap.size := fun x hx' => hW'.lt x hx'
  refine ⟨_, rfl, post_of_below (pa := p0) (pv := []) hW' (fun _ _ _ => trodAll_mk1 (shut_bool Tryz.underlying4 _)) (fun sp hsp => ?_) (fun _ _ => rfl) (by simp) hx (ok_one (by kernel_rfl) rfl (okWide_bool_mk Tryz.underlying4 _))⟩
  exact trodAll_mk1 (WideElems.Trod_stays laidOutP (by kernel_rfl) (of_decide_eq_true (by kernel_rfl)) h0 (fun x hx' => hx.same (hlt x hx')) (fun x hx' => hsp x hx'))
theorem sequentChecks_said : Rows.SequentChecksSaid :=
  OpenClaim.holds_of_wide 3 Tryz.f3 rfl rfl rfl rfl rfl rfl rfl ⟨rfl, rfl, rfl, rfl, rfl⟩ rfl rfl rfl rfl rfl (by kernel_rfl) Tryz.func3 (by kernel_rfl)
    (of_decide_eq_true (by kernel_rfl)) (by unfold Func.isWrapper; first | (rw [if_pos (by decide +kernel)]; kernel_rfl) | (rw [if_neg (by decide +kernel)]; exact ⟨rfl, rfl⟩))
    (fun os started H enc _ => sequentChecks_lifted os started H enc)
end Go.Proofs.YtfcmdiigfgbgbaaGreat
