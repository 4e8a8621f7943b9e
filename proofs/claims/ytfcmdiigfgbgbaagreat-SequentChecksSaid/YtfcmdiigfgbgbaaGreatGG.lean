/- sequent's negation, Negation. -/
import Derived.Test.YtfcmdiigfgbgbaaGreatGE
import Derived.Test.YtfcmdiigfgbgbaaGreatGA
import Derived.Test.YtfcmdiigfgbgbaaGreatK8
import Derived.Test.YtfcmdiigfgbgbaaGreatGB

namespace Go.Proofs.YtfcmdiigfgbgbaaGreat
open Go.RowKit

theorem cells1 {w : World} {b : Nat} {a0 : Value} {t : TypeId} (h : w.heap[b]? = some (.cells #[a0] t (0, 0))) : w.cell? ⟨b, 0, none⟩ = some a0 ∧ b < w.heap.size :=
  ⟨by simp [World.cell?, h], lt_heap h⟩
set_option maxRecDepth 100000 in
set_option maxHeartbeats 4000000 in
theorem negation_any (v : Value) (base : List Nd) (k : Nat) (w : World) (h : Fml w v base) (hb : baseErr base = 0) (hk : k < base.length) :
    Calls Tryz.prog 32 #[v, .int .i64 (k : Int)] w fun e w' => e = .returned (.int .i64 (negationN base k)) ∧ Ext w w' := by
  have H := Lib.hid h
  have HF := Lib.hid (opp_few (baseErr_ok hb).1 (baseErr_ok hb).2.2 hk)
  have HL := Lib.hid (show base.length ≤ 1000 by have := (baseErr_ok hb).2.1; omega)
  obtain ⟨A, c, rfl, _⟩ := fml_slice h
  clear h hb
  have eg : ∀ args w, (callFunc 60 args).run Tryz.prog w = .ok (.enter 60 args) w := fun _ _ => rfl
  go_enter Tryz.func32, Tryz.ntmps32
  go_wp2_with fail
  refine (sub_any _ base (k : Int) _ H.out).mono ?_
  rintro e w1 ⟨u1, rfl, hm⟩
  have HM := Lib.hid hm
  have X1 := Lib.hid hm.2.2
  obtain ⟨A1, c1, rfl, _⟩ := fml_slice hm.fml
  clear hm
  go_wp2_with fail
  refine (opposite_any _ (subN base (k : Int)) _ HM.out.fml HF.out).mono ?_
  rintro e w2 ⟨u2, rfl, hx, hg⟩
  have X2 := Lib.hid (X1.out.trans hx)
  have HG := Lib.hid hg
  obtain ⟨A2, c2, rfl, _⟩ := fml_slice hg
  clear hx hg
  have X3 := Lib.hid (X2.out.alloc (.cells #[.slice A2 (oppN (subN base (k : Int))).length c2] 22))
  obtain ⟨g0, glt⟩ := cells1 (heap_alloc_new w2 (.cells #[.slice A2 (oppN (subN base (k : Int))).length c2] 22))
  have G0 := Lib.hid g0
  have GLT := Lib.hid glt
  have HG3 := Lib.hid (HG.out.ext ((Ext.refl w2).alloc (.cells #[.slice A2 (oppN (subN base (k : Int))).length c2] 22)))
  clear g0 glt
  go_wp2_with fail
  refine (formulas_any _ base _ (H.out.ext X3.out) HL.out).mono ?_
  rintro e w4 ⟨u4, rfl, hfr⟩
  have HFR := Lib.hid hfr
  have HFS := Lib.hid hfr.fmls
  have X4 := Lib.hid hfr.ext
  obtain ⟨A4, c4, rfl, _⟩ := hfr.fmls
  clear hfr
  go_wp2_with fail
  refine (indexF_any 60 #[.pointer (some ⟨w2.heap.size, 0, none⟩)] eg (fun t => decide (t = oppN (subN base (k : Int)))) _ (formulasN base) _ HFS.out (fun W u s hW hs => negation1_any w2.heap.size u _ s _ W hs.1 ((hW.cell (p := ⟨w2.heap.size, 0, none⟩) (Nat.lt_of_lt_of_le GLT.out X4.out.size)).trans ((X4.out.cell (p := ⟨w2.heap.size, 0, none⟩) GLT.out).trans G0.out)) (HG3.out.ext (X4.out.trans hW)).1)).mono ?_
  rintro e w5 ⟨rfl, hx⟩
  have HE := Lib.hid (show negationN base (k : Int) = findN (fun t => decide (t = oppN (subN base (k : Int)))) (formulasN base) from rfl)
  go_wp2_with fail
  go_ret
  exact ⟨by rw [HE.out] <;> rfl, (X3.out.trans X4.out).trans hx⟩
set_option maxRecDepth 100000 in
set_option maxHeartbeats 4000000 in
theorem Negation_any (v : Value) (base : List Nd) (node : Int) (w : World) (h : Fml w v base) :
    Calls Tryz.prog 11 #[v, .int .i64 node] w fun e w' => e = .returned (.int .i64 (NegationN base node)) ∧ Ext w w' := by
  have H := Lib.hid h
  obtain ⟨A, c, rfl, _⟩ := fml_slice h
  clear h
  by_cases hb : baseErr base = 0
  · have HB := Lib.hid hb
    clear hb
    by_cases h0 : 0 ≤ node
    · obtain ⟨k, rfl⟩ := Int.eq_ofNat_of_zero_le h0
      by_cases hk : k < base.length
      · have HK := Lib.hid hk
        have HE := Lib.hid (show NegationN base (k : Int) = negationN base (k : Int) by
          unfold NegationN
          rw [HB.out, decide_eq_false (show ¬ (k : Int) < 0 by omega), decide_eq_false (show ¬ (base.length : Int) ≤ (k : Int) by omega)]
          rfl)
        have h1 : ¬ (base.length : Int) ≤ (k : Int) := by omega
        have h2 : decide (base.length ≤ k) = false := decide_eq_false (by omega)
        have h3 : ¬ (k : Int) < 0 := by omega
        go_enter Tryz.func11, Tryz.ntmps11
        go_wp2_with fail
        refine (baseError_any _ base _ H.out.1).mono ?_
        rintro e w1 ⟨rfl, hx⟩
        rw [HB.out]
        have X1 := Lib.hid hx
        clear hx
        go_wp2_with fail
        refine (negation_any _ base k _ (H.out.ext X1.out) HB.out HK.out).mono ?_
        rintro e w2 ⟨rfl, hx⟩
        go_wp2_with fail
        go_ret
        exact ⟨by rw [HE.out] <;> rfl, X1.out.trans hx⟩
      · have HE := Lib.hid (show NegationN base (k : Int) = -1 by
          unfold NegationN
          rw [HB.out, decide_eq_false (show ¬ (k : Int) < 0 by omega), decide_eq_true (show (base.length : Int) ≤ (k : Int) by omega)]
          rfl)
        have h1 : (base.length : Int) ≤ (k : Int) := by omega
        have h2 : decide (base.length ≤ k) = true := decide_eq_true (by omega)
        have h3 : ¬ (k : Int) < 0 := by omega
        go_enter Tryz.func11, Tryz.ntmps11
        go_wp2_with fail
        refine (baseError_any _ base _ H.out.1).mono ?_
        rintro e w1 ⟨rfl, hx⟩
        rw [HB.out]
        have X1 := Lib.hid hx
        clear hx
        go_wp2_with fail
        go_ret
        exact ⟨by rw [HE.out] <;> rfl, X1.out⟩
    · have HE := Lib.hid (show NegationN base node = -1 by
        unfold NegationN
        rw [HB.out, decide_eq_true (show node < 0 by omega)]
        rfl)
      have h1 : decide (node < 0) = true := decide_eq_true (by omega)
      go_enter Tryz.func11, Tryz.ntmps11
      go_wp2_with fail
      refine (baseError_any _ base _ H.out.1).mono ?_
      rintro e w1 ⟨rfl, hx⟩
      rw [HB.out]
      have X1 := Lib.hid hx
      clear hx
      go_wp2_with fail
      go_ret
      exact ⟨by rw [HE.out] <;> rfl, X1.out⟩
  · have hb1 : (baseErr base != 0) = true := by simpa using hb
    have hb2 : (baseErr base == 0) = false := by simpa using hb
    have HE := Lib.hid (show NegationN base node = -1 by unfold NegationN; rw [hb1]; rfl)
    clear hb
    go_enter Tryz.func11, Tryz.ntmps11
    go_wp2_with fail
    refine (baseError_any _ base _ H.out.1).mono ?_
    rintro e w1 ⟨rfl, hx⟩
    have X1 := Lib.hid hx
    clear hx
    go_wp2_with fail
    go_ret
    exact ⟨by rw [HE.out] <;> rfl, X1.out⟩
end Go.Proofs.YtfcmdiigfgbgbaaGreat

/- sequent's form and Carry. -/

namespace Go.Proofs.YtfcmdiigfgbgbaaGreat
open Go.RowKit

theorem cells3 {w : World} {b : Nat} {a0 a1 a2 : Value} {t : TypeId} (h : w.heap[b]? = some (.cells #[a0, a1, a2] t (0, 0))) :
    w.cell? ⟨b, 0, none⟩ = some a0 ∧ w.cell? ⟨b, 1, none⟩ = some a1 ∧ w.cell? ⟨b, 2, none⟩ = some a2 ∧ (∀ j, w.frozen? ⟨b, j, none⟩ = false) ∧ b < w.heap.size :=
  ⟨by simp [World.cell?, h], by simp [World.cell?, h], by simp [World.cell?, h], fun j => by simp [World.frozen?, h], lt_heap h⟩
set_option maxRecDepth 100000 in
set_option maxHeartbeats 4000000 in
theorem form_any {w : World} {lg : Int} {vb vs : Value} {base : List Nd} {steps : List Stp} (hb : Fml w vb base) (hs : Sps w vs steps) :
    Calls Tryz.prog 22 #[.agg #[.int .i64 lg, vb, vs]] w fun e w' => e = .returned (.int .i64 (formS lg base steps)) ∧ Ext w w' := by
  have H := Lib.hid hb
  obtain ⟨Ab, cb, rfl, _⟩ := fml_slice hb
  obtain ⟨As, cs, rfl, hs1, hs2, _⟩ := hs
  unfold maxLen at hs2
  clear hb
  obtain ⟨z0, z1, z2, _, zlt⟩ := cells3 (heap_alloc_new w (.cells #[.int .i64 lg, .slice Ab base.length cb, .slice As steps.length cs] 25))
  have Z := Lib.hid (And.intro z1 z2)
  have ZLT := Lib.hid zlt
  have X0 := Lib.hid ((Ext.refl w).alloc (.cells #[.int .i64 lg, .slice Ab base.length cb, .slice As steps.length cs] 25))
  clear z0 z1 z2 zlt
  cases hk : knownN lg
  · have HK := Lib.hid hk
    have HE := Lib.hid (show formS lg base steps = 2 by unfold formS; rw [hk]; rfl)
    clear hk
    go_enter Tryz.func22, Tryz.ntmps22
    go_wp2_with fail
    refine (known_any lg _).mono ?_
    rintro e w1 ⟨rfl, hx⟩
    rw [HK.out]
    go_wp2_with fail
    go_ret
    exact ⟨by rw [HE.out] <;> rfl, X0.out.trans hx⟩
  · have HK := Lib.hid hk
    have HE := Lib.hid (show formS lg base steps = bif baseErr base != 0 then baseErr base else bif decide (steps.length = 0) || decide (4096 < steps.length) then 3 else 0 by unfold formS; rw [hk]; rfl)
    clear hk
    by_cases hb0 : baseErr base = 0
    · have HB := Lib.hid hb0
      clear hb0
      by_cases hl0 : steps.length = 0
      · have hnil : steps = [] := List.length_eq_zero_iff.1 hl0
        subst hnil
        have HE2 := Lib.hid (show formS lg base [] = 3 by rw [HE.out, HB.out, decide_eq_true (show ([] : List Stp).length = 0 from rfl)]; rfl)
        go_enter Tryz.func22, Tryz.ntmps22
        go_wp2_with fail
        refine (known_any lg _).mono ?_
        rintro e w1 ⟨rfl, hx⟩
        rw [HK.out]
        have X1 := Lib.hid (X0.out.trans hx)
        have XX := Lib.hid hx
        have y1 := (hx.cell (p := ⟨w.heap.size, 1, none⟩) ZLT.out).trans Z.out.1
        clear hx
        go_wp2_with fail
        refine (baseError_any _ base _ (H.out.ext X1.out).1).mono ?_
        rintro e w2 ⟨rfl, hx⟩
        rw [HB.out]
        have X2 := Lib.hid (X1.out.trans hx)
        have x2 := (hx.cell (p := ⟨w.heap.size, 2, none⟩) (Nat.lt_of_lt_of_le ZLT.out XX.out.size)).trans ((XX.out.cell (p := ⟨w.heap.size, 2, none⟩) ZLT.out).trans Z.out.2)
        clear hx
        go_wp2_with fail
        go_ret
        exact ⟨by rw [HE2.out] <;> rfl, X2.out⟩
      · have hl1 : ((steps.length : Int) == 0) = false := beq_eq_false_iff_ne.2 (by omega)
        by_cases hl4 : 4096 < steps.length
        · have hl5 : (4096 : Int) < (steps.length : Int) := by omega
          have HE2 := Lib.hid (show formS lg base steps = 3 by rw [HE.out, HB.out, decide_eq_false hl0, decide_eq_true hl4]; rfl)
          clear hl0
          go_enter Tryz.func22, Tryz.ntmps22
          go_wp2_with fail
          refine (known_any lg _).mono ?_
          rintro e w1 ⟨rfl, hx⟩
          rw [HK.out]
          have X1 := Lib.hid (X0.out.trans hx)
          have XX := Lib.hid hx
          have y1 := (hx.cell (p := ⟨w.heap.size, 1, none⟩) ZLT.out).trans Z.out.1
          clear hx
          go_wp2_with fail
          refine (baseError_any _ base _ (H.out.ext X1.out).1).mono ?_
          rintro e w2 ⟨rfl, hx⟩
          rw [HB.out]
          have X2 := Lib.hid (X1.out.trans hx)
          have x2 := (hx.cell (p := ⟨w.heap.size, 2, none⟩) (Nat.lt_of_lt_of_le ZLT.out XX.out.size)).trans ((XX.out.cell (p := ⟨w.heap.size, 2, none⟩) ZLT.out).trans Z.out.2)
          clear hx
          go_wp2_with fail
          go_ret
          exact ⟨by rw [HE2.out] <;> rfl, X2.out⟩
        · have hl5 : ¬ (4096 : Int) < (steps.length : Int) := by omega
          have HE2 := Lib.hid (show formS lg base steps = 0 by rw [HE.out, HB.out, decide_eq_false hl0, decide_eq_false hl4]; rfl)
          clear hl0
          go_enter Tryz.func22, Tryz.ntmps22
          go_wp2_with fail
          refine (known_any lg _).mono ?_
          rintro e w1 ⟨rfl, hx⟩
          rw [HK.out]
          have X1 := Lib.hid (X0.out.trans hx)
          have XX := Lib.hid hx
          have y1 := (hx.cell (p := ⟨w.heap.size, 1, none⟩) ZLT.out).trans Z.out.1
          clear hx
          go_wp2_with fail
          refine (baseError_any _ base _ (H.out.ext X1.out).1).mono ?_
          rintro e w2 ⟨rfl, hx⟩
          rw [HB.out]
          have X2 := Lib.hid (X1.out.trans hx)
          have x2 := (hx.cell (p := ⟨w.heap.size, 2, none⟩) (Nat.lt_of_lt_of_le ZLT.out XX.out.size)).trans ((XX.out.cell (p := ⟨w.heap.size, 2, none⟩) ZLT.out).trans Z.out.2)
          clear hx
          go_wp2_with fail
          go_ret
          exact ⟨by rw [HE2.out] <;> rfl, X2.out⟩
    · have HB1 := Lib.hid (show (baseErr base != 0) = true by simpa using hb0)
      have hb2 : (baseErr base == 0) = false := by simpa using hb0
      clear hb0
      have hb1 := HB1.out
      go_enter Tryz.func22, Tryz.ntmps22
      go_wp2_with fail
      refine (known_any lg _).mono ?_
      rintro e w1 ⟨rfl, hx⟩
      rw [HK.out]
      have X1 := Lib.hid (X0.out.trans hx)
      have XX := Lib.hid hx
      have y1 := (hx.cell (p := ⟨w.heap.size, 1, none⟩) ZLT.out).trans Z.out.1
      clear hx
      go_wp2_with fail
      refine (baseError_any _ base _ (H.out.ext X1.out).1).mono ?_
      rintro e w2 ⟨rfl, hx⟩
      have X2 := Lib.hid (X1.out.trans hx)
      have x2 := (hx.cell (p := ⟨w.heap.size, 2, none⟩) (Nat.lt_of_lt_of_le ZLT.out XX.out.size)).trans ((XX.out.cell (p := ⟨w.heap.size, 2, none⟩) ZLT.out).trans Z.out.2)
      clear hx
      go_wp2_with fail
      go_ret
      exact ⟨by rw [HE.out, HB1.out] <;> rfl, X2.out⟩
set_option maxRecDepth 100000 in
set_option maxHeartbeats 4000000 in
theorem Carry_any (lg : Int) (v : Value) (base : List Nd) (set : Nat) (ag : Int) (w : World) (h : Fml w v base) (hset : set < 18446744073709551616) :
    Calls Tryz.prog 13 #[.int .i64 lg, v, .int .u64 (set : Int), .int .i64 ag] w fun e w' => e = .returned (.int .u64 (CarryN lg base set ag : Nat)) ∧ Ext w w' := by
  have H := Lib.hid h
  obtain ⟨Ab, cb, rfl, _⟩ := fml_slice h
  clear h
  cases hk : knownN lg
  · have HK := Lib.hid hk
    have HE := Lib.hid (show CarryN lg base set ag = 0 by unfold CarryN; rw [hk]; rfl)
    clear hk
    go_enter Tryz.func13, Tryz.ntmps13
    go_wp2_with fail
    refine (known_any lg _).mono ?_
    rintro e w1 ⟨rfl, hx⟩
    rw [HK.out]
    have X1 := Lib.hid hx
    clear hx
    go_wp2_with fail
    go_ret
    exact ⟨by rw [HE.out] <;> rfl, X1.out⟩
  · have HK := Lib.hid hk
    clear hk
    by_cases hb0 : baseErr base = 0
    · have HB := Lib.hid hb0
      have HLEN := Lib.hid (show 1 ≤ base.length ∧ base.length ≤ 64 from ⟨by have := (check_parts (baseErr_ok hb0).1).1; omega, (baseErr_ok hb0).2.1⟩)
      clear hb0
      cases hi : insideS base set
      · have HI := Lib.hid hi
        have HE := Lib.hid (show CarryN lg base set ag = 0 by unfold CarryN; rw [HK.out, HB.out, hi]; rfl)
        clear hi
        go_enter Tryz.func13, Tryz.ntmps13
        go_wp2_with fail
        refine (known_any lg _).mono ?_
        rintro e w1 ⟨rfl, hx⟩
        rw [HK.out]
        have X1 := Lib.hid hx
        clear hx
        go_wp2_with fail
        refine (baseError_any _ base _ (H.out.ext X1.out).1).mono ?_
        rintro e w2 ⟨rfl, hx⟩
        rw [HB.out]
        have X2 := Lib.hid (X1.out.trans hx)
        clear hx
        go_wp2_with fail
        refine (inside_any Ab cb base set hset HLEN.out _).mono ?_
        rintro e w3 ⟨rfl, hx⟩
        rw [HI.out]
        have X3 := Lib.hid (X2.out.trans hx)
        clear hx
        go_wp2_with fail
        go_ret
        exact ⟨by rw [HE.out] <;> rfl, X3.out⟩
      · have HI := Lib.hid hi
        clear hi
        by_cases h0 : 0 ≤ ag
        · have h0n : ¬ ag < 0 := by omega
          by_cases h4 : ag < 4
          · have h4n : ¬ 4 ≤ ag := by omega
            have HE := Lib.hid (show CarryN lg base set ag = carryN lg base set ag by unfold CarryN; rw [HK.out, HB.out, HI.out, decide_eq_false h0n, decide_eq_false h4n]; rfl)
            have h0d : decide (ag < 0) = false := decide_eq_false h0n
            have h4d : decide (4 ≤ ag) = false := decide_eq_false h4n
            go_enter Tryz.func13, Tryz.ntmps13
            go_wp2_with fail
            refine (known_any lg _).mono ?_
            rintro e w1 ⟨rfl, hx⟩
            rw [HK.out]
            have X1 := Lib.hid hx
            clear hx
            go_wp2_with fail
            refine (baseError_any _ base _ (H.out.ext X1.out).1).mono ?_
            rintro e w2 ⟨rfl, hx⟩
            rw [HB.out]
            have X2 := Lib.hid (X1.out.trans hx)
            clear hx
            go_wp2_with fail
            refine (inside_any Ab cb base set hset HLEN.out _).mono ?_
            rintro e w3 ⟨rfl, hx⟩
            rw [HI.out]
            have X3 := Lib.hid (X2.out.trans hx)
            clear hx
            go_wp2_with fail
            refine (carry_any lg _ base set ag _ (H.out.ext X3.out).1 HB.out hset).mono ?_
            rintro e w4 ⟨rfl, hx⟩
            have X4 := Lib.hid (X3.out.trans hx)
            clear hx
            go_wp2_with fail
            go_ret
            exact ⟨by rw [HE.out] <;> rfl, X4.out⟩
          · have h4d : decide (4 ≤ ag) = true := decide_eq_true (by omega)
            have h0d : decide (ag < 0) = false := decide_eq_false h0n
            have HE := Lib.hid (show CarryN lg base set ag = 0 by unfold CarryN; rw [HK.out, HB.out, HI.out, h0d, h4d]; rfl)
            go_enter Tryz.func13, Tryz.ntmps13
            go_wp2_with fail
            refine (known_any lg _).mono ?_
            rintro e w1 ⟨rfl, hx⟩
            rw [HK.out]
            have X1 := Lib.hid hx
            clear hx
            go_wp2_with fail
            refine (baseError_any _ base _ (H.out.ext X1.out).1).mono ?_
            rintro e w2 ⟨rfl, hx⟩
            rw [HB.out]
            have X2 := Lib.hid (X1.out.trans hx)
            clear hx
            go_wp2_with fail
            refine (inside_any Ab cb base set hset HLEN.out _).mono ?_
            rintro e w3 ⟨rfl, hx⟩
            rw [HI.out]
            have X3 := Lib.hid (X2.out.trans hx)
            clear hx
            go_wp2_with fail
            go_ret
            exact ⟨by rw [HE.out] <;> rfl, X3.out⟩
        · have h0d : decide (ag < 0) = true := decide_eq_true (by omega)
          have HE := Lib.hid (show CarryN lg base set ag = 0 by unfold CarryN; rw [HK.out, HB.out, HI.out, h0d]; rfl)
          go_enter Tryz.func13, Tryz.ntmps13
          go_wp2_with fail
          refine (known_any lg _).mono ?_
          rintro e w1 ⟨rfl, hx⟩
          rw [HK.out]
          have X1 := Lib.hid hx
          clear hx
          go_wp2_with fail
          refine (baseError_any _ base _ (H.out.ext X1.out).1).mono ?_
          rintro e w2 ⟨rfl, hx⟩
          rw [HB.out]
          have X2 := Lib.hid (X1.out.trans hx)
          clear hx
          go_wp2_with fail
          refine (inside_any Ab cb base set hset HLEN.out _).mono ?_
          rintro e w3 ⟨rfl, hx⟩
          rw [HI.out]
          have X3 := Lib.hid (X2.out.trans hx)
          clear hx
          go_wp2_with fail
          go_ret
          exact ⟨by rw [HE.out] <;> rfl, X3.out⟩
    · have HB1 := Lib.hid (show (baseErr base != 0) = true by simpa using hb0)
      have hb1 : (baseErr base != 0) = true := HB1.out
      have hb2 : (baseErr base == 0) = false := by simpa using hb0
      have HE := Lib.hid (show CarryN lg base set ag = 0 by unfold CarryN; rw [HK.out, HB1.out]; rfl)
      clear hb0
      go_enter Tryz.func13, Tryz.ntmps13
      go_wp2_with fail
      refine (known_any lg _).mono ?_
      rintro e w1 ⟨rfl, hx⟩
      rw [HK.out]
      have X1 := Lib.hid hx
      clear hx
      go_wp2_with fail
      refine (baseError_any _ base _ (H.out.ext X1.out).1).mono ?_
      rintro e w2 ⟨rfl, hx⟩
      have X2 := Lib.hid (X1.out.trans hx)
      clear hx
      go_wp2_with fail
      go_ret
      exact ⟨by rw [HE.out] <;> rfl, X2.out⟩
end Go.Proofs.YtfcmdiigfgbgbaaGreat

/- The law's truth and Few. -/

namespace Go.Proofs.YtfcmdiigfgbgbaaGreat
open Go.RowKit

theorem at_new {W w' : World} {cs : Array Value} {t : TypeId} {B : Nat} (hB : B = W.heap.size) (he : Ext (W.alloc (.cells cs t)) w') : w'.heap[B]? = some (.cells cs t (0, 0)) := by
  subst hB
  exact (he.block (by simp)).trans (heap_alloc_new W _)
theorem ints_at {w' : World} {B : Nat} {cs : Array Value} {l : List Int} (h : w'.heap[B]? = some (.cells cs 3 (0, 0))) (hl : l.length ≤ 1000) (hc : cs.toList = l.map (Value.int .i64)) : Ints w' (.slice (some ⟨B, 0, none⟩) l.length l.length) l := by
  have hs : cs.size = l.length := by rw [← Array.length_toList, hc, List.length_map]
  exact ints_of_row (base := 0) ⟨by simp, .inr ⟨B, l.length, cs, rfl, Nat.zero_le _, h, Nat.le_refl _, by unfold maxLen; omega, by omega, by rw [hc, Nat.mul_one, List.take_of_length_le (by simp)]⟩⟩
theorem nds_at {w' : World} {B : Nat} {cs : Array Value} {l : List Nd} (h : w'.heap[B]? = some (.cells cs 53 (0, 0))) (hl : l.length ≤ 1000) (hc : cs.toList = l.flatMap Nd.cells) : Nds w' (.slice (some ⟨B, 0, none⟩) l.length l.length) l := by
  refine ⟨_, _, rfl, Nat.le_refl _, by unfold maxLen; omega, fun _ => ⟨_, rfl, lt_heap h, fun k n hk => ?_⟩⟩
  have hcell : ∀ j : Nat, w'.cell? ⟨B, j, none⟩ = cs.toList[j]? := fun j => by simp [World.cell?, h]
  rw [addr_zero]
  have hj : ∀ j : Nat, j < 6 → w'.cell? ⟨B, k * 6 + j, none⟩ = n.cells[j]? := fun j h6 => by rw [hcell, hc]; exact flat_get l k n j hk h6
  exact ⟨hj 0 (by decide), hj 1 (by decide), hj 2 (by decide), hj 3 (by decide), hj 4 (by decide), hj 5 (by decide)⟩
def baseT : List Nd := [⟨3, 0, 0, 0, 0, 0⟩, ⟨4, 0, 0, 0, 0, 0⟩, ⟨9, 0, 0, 0, 0, 0⟩, ⟨10, 0, 0, 0, 1, 0⟩, ⟨5, 0, 0, 0, 2, 1⟩]
def stepsT : List Stp := [⟨7, 1, 1, 0, []⟩, ⟨6, 5, 2, 0, [0]⟩, ⟨16, 2, 4, 0, [1]⟩]
theorem baseT_ok : ∀ n ∈ baseT, n.ok := by
  intro n hn
  simp only [baseT, List.mem_cons, List.not_mem_nil, or_false] at hn
  rcases hn with rfl | rfl | rfl | rfl | rfl <;> (unfold Nd.ok i64ok; decide)
theorem sps_of3 {w' : World} {B : Nat} {s0 s1 s2 : Stp} {u0 u1 u2 : Value} (h : w'.heap[B]? = some (.cells #[.int .u64 (s0.set : Int), .int .i64 s0.rule, .int .i64 s0.on, .int .i64 s0.e, u0, .int .u64 (s1.set : Int), .int .i64 s1.rule, .int .i64 s1.on, .int .i64 s1.e, u1, .int .u64 (s2.set : Int), .int .i64 s2.rule, .int .i64 s2.on, .int .i64 s2.e, u2] 37 (0, 0)))
    (h0 : Ints w' u0 s0.from_) (h1 : Ints w' u1 s1.from_) (h2 : Ints w' u2 s2.from_) (hs : s0.set < 18446744073709551616 ∧ s1.set < 18446744073709551616 ∧ s2.set < 18446744073709551616) : Sps w' (.slice (some ⟨B, 0, none⟩) 3 3) [s0, s1, s2] := by
  refine ⟨_, _, rfl, Nat.le_refl _, by unfold maxLen; decide, fun _ => ⟨_, rfl, lt_heap h, fun k n hk => ?_⟩⟩
  rw [addr_zero]
  match k, hk with
  | 0, hk => simp at hk; subst hk; exact ⟨u0, by simp [World.cell?, h], by simp [World.cell?, h], by simp [World.cell?, h], by simp [World.cell?, h], by simp [World.cell?, h], h0, hs.1⟩
  | 1, hk => simp at hk; subst hk; exact ⟨u1, by simp [World.cell?, h], by simp [World.cell?, h], by simp [World.cell?, h], by simp [World.cell?, h], by simp [World.cell?, h], h1, hs.2.1⟩
  | 2, hk => simp at hk; subst hk; exact ⟨u2, by simp [World.cell?, h], by simp [World.cell?, h], by simp [World.cell?, h], by simp [World.cell?, h], by simp [World.cell?, h], h2, hs.2.2⟩
theorem at_lt (w : World) (o : Obj) (k : Nat) (h : k < w.heap.size) : (w.alloc o).heap[k]? = w.heap[k]? := ((Ext.refl w).alloc o).block h
theorem at_eq (w : World) (o : Obj) (k : Nat) (h : k = w.heap.size) : (w.alloc o).heap[k]? = some o := by
  subst h
  show (w.heap.push o)[w.heap.size]? = some o
  simp
theorem five (w : World) (o0 o1 o2 o3 o4 : Obj) : (((((w.alloc o0).alloc o1).alloc o2).alloc o3).alloc o4).heap[w.heap.size + 1]? = some o1 ∧ (((((w.alloc o0).alloc o1).alloc o2).alloc o3).alloc o4).heap[w.heap.size + 1 + 1]? = some o2 ∧
    (((((w.alloc o0).alloc o1).alloc o2).alloc o3).alloc o4).heap[w.heap.size + 1 + 1 + 1]? = some o3 ∧ (((((w.alloc o0).alloc o1).alloc o2).alloc o3).alloc o4).heap[w.heap.size + 1 + 1 + 1 + 1]? = some o4 := by
  refine ⟨?_, ?_, ?_, ?_⟩
  · rw [at_lt _ _ _ (by simp), at_lt _ _ _ (by simp), at_lt _ _ _ (by simp), at_eq _ _ _ (by simp)]
  · rw [at_lt _ _ _ (by simp), at_lt _ _ _ (by simp), at_eq _ _ _ (by simp)]
  · rw [at_lt _ _ _ (by simp), at_eq _ _ _ (by simp)]
  · rw [at_eq _ _ _ (by simp)]
set_option maxRecDepth 100000 in
set_option maxHeartbeats 8000000 in
theorem truth_any (lg : Int) (w : World) :
    Calls Tryz.prog 15 #[.int .i64 lg] w fun e w' => ∃ A1 A2, e = .returned (.agg #[.int .i64 lg, .slice A1 5 5, .slice A2 3 3]) ∧ Ext w w' ∧ Fml w' (.slice A1 5 5) baseT ∧ Sps w' (.slice A2 3 3) stepsT := by
  go_enter Tryz.func15, Tryz.ntmps15
  go_wp2_with fail
  refine bodyPost_ret (v := .agg #[.int .i64 lg, .slice (some ⟨w.heap.size + 1, 0, none⟩) 5 5, .slice (some ⟨w.heap.size + 1 + 1 + 1 + 1, 0, none⟩) 3 3]) (by simp [results, Tryz.results15, go_sem]) rfl ?_
  refine ⟨_, _, rfl, (by repeat (first | exact Ext.refl _ | apply Ext.alloc)), ⟨nds_at (l := baseT) (cs := #[.int .i64 3, .int .i64 0, .int .i64 0, .int .i64 0, .int .i64 0, .int .i64 0, .int .i64 4, .int .i64 0, .int .i64 0, .int .i64 0, .int .i64 0, .int .i64 0, .int .i64 9, .int .i64 0, .int .i64 0, .int .i64 0, .int .i64 0, .int .i64 0, .int .i64 10, .int .i64 0, .int .i64 0, .int .i64 0, .int .i64 1, .int .i64 0, .int .i64 5, .int .i64 0, .int .i64 0, .int .i64 0, .int .i64 2, .int .i64 1]) (five w _ _ _ _ _).1 (by decide) rfl, baseT_ok⟩, ?_⟩
  exact sps_of3 (s0 := ⟨7, 1, 1, 0, []⟩) (s1 := ⟨6, 5, 2, 0, [0]⟩) (s2 := ⟨16, 2, 4, 0, [1]⟩) (u0 := .slice none 0 0) (u1 := .slice (some ⟨w.heap.size + 1 + 1, 0, none⟩) 1 1) (u2 := .slice (some ⟨w.heap.size + 1 + 1 + 1, 0, none⟩) 1 1) (five w _ _ _ _ _).2.2.2 (Ints.none_ _) (ints_at (l := [0]) (cs := #[.int .i64 0]) (five w _ _ _ _ _).2.1 (by decide) rfl) (ints_at (l := [1]) (cs := #[.int .i64 1]) (five w _ _ _ _ _).2.2.1 (by decide) rfl) (by decide)
end Go.Proofs.YtfcmdiigfgbgbaaGreat

/- What the law's awake checks, reckoned by the kernel. -/

namespace Go.Proofs.YtfcmdiigfgbgbaaGreat
open Go.RowKit

def baseK : List Nd := [⟨3, 0, 0, 0, 0, 0⟩, ⟨4, 0, 0, 0, 0, 0⟩, ⟨9, 0, 0, 0, 0, 0⟩, ⟨10, 0, 0, 0, 1, 0⟩]
def stepsK : List Stp := [⟨3, 1, 0, 1, []⟩, ⟨12, 6, 3, 0, [0]⟩]
theorem baseK_ok : ∀ n ∈ baseK, n.ok := by
  intro n hn
  simp only [baseK, List.mem_cons, List.not_mem_nil, or_false] at hn
  rcases hn with rfl | rfl | rfl | rfl <;> (unfold Nd.ok i64ok; decide)
theorem sps_of2 {w' : World} {B : Nat} {s0 s1 : Stp} {u0 u1 : Value} (h : w'.heap[B]? = some (.cells #[.int .u64 (s0.set : Int), .int .i64 s0.rule, .int .i64 s0.on, .int .i64 s0.e, u0, .int .u64 (s1.set : Int), .int .i64 s1.rule, .int .i64 s1.on, .int .i64 s1.e, u1] 37 (0, 0)))
    (h0 : Ints w' u0 s0.from_) (h1 : Ints w' u1 s1.from_) (hs : s0.set < 18446744073709551616 ∧ s1.set < 18446744073709551616) : Sps w' (.slice (some ⟨B, 0, none⟩) 2 2) [s0, s1] := by
  refine ⟨_, _, rfl, Nat.le_refl _, by unfold maxLen; decide, fun _ => ⟨_, rfl, lt_heap h, fun k n hk => ?_⟩⟩
  rw [addr_zero]
  match k, hk with
  | 0, hk => simp at hk; subst hk; exact ⟨u0, by simp [World.cell?, h], by simp [World.cell?, h], by simp [World.cell?, h], by simp [World.cell?, h], by simp [World.cell?, h], h0, hs.1⟩
  | 1, hk => simp at hk; subst hk; exact ⟨u1, by simp [World.cell?, h], by simp [World.cell?, h], by simp [World.cell?, h], by simp [World.cell?, h], by simp [World.cell?, h], h1, hs.2⟩
theorem nds_take4 {w : World} {A : Option Addr} (h : Fml w (.slice A 5 5) baseT) : Fml w (.slice A 4 5) baseK := by
  obtain ⟨⟨A', c', e, h1, h2, h3⟩, _⟩ := h
  injection e with e1 _ e2
  subst e1 e2
  refine ⟨⟨A, 5, rfl, by decide, h2, fun _ => ?_⟩, baseK_ok⟩
  obtain ⟨ad, hA, hlt, hc⟩ := h3 (by decide)
  exact ⟨ad, hA, hlt, fun k n hk => hc k n (by
    match k, hk with
    | 0, hk => exact hk
    | 1, hk => exact hk
    | 2, hk => exact hk
    | 3, hk => exact hk)⟩
def pN : List Nd := factN 0
def axN : List Nd := impN (knowN 0 pN) pN
theorem k1 : checkS 2 baseT stepsT = 0 := by decide +kernel
theorem k2 : (refutedS 2 baseT stepsT).2 = 0 := by decide +kernel
theorem k3 : (refutedS 2 baseT stepsT).1 = [oppN axN] := by decide +kernel
theorem k4 : check axN = 0 := by decide +kernel
theorem k5 : (bits .andNot .i64 (fragsN axN : Int) 1 == 0) = true := by decide +kernel
theorem k6 : check (notN axN) = 0 → Few10 (compactN (notN axN)) := fun _ => by
  have h : ∀ n ∈ compactN (notN axN), 1 ≤ n.op ∧ n.op ≤ 10 := by decide +kernel
  exact h
theorem k7 : check pN = 0 := by decide +kernel
theorem k8 : (bits .andNot .i64 (fragsN pN : Int) 1 == 0) = true := by decide +kernel
theorem k9 : check (notN pN) = 0 → Few10 (compactN (notN pN)) := fun _ => by
  have h : ∀ n ∈ compactN (notN pN), 1 ≤ n.op ∧ n.op ≤ 10 := by decide +kernel
  exact h
theorem k10 : decide (oppN axN = oppN pN) = false := by decide +kernel
theorem k11 : checkS 0 baseT stepsT = 13 := by decide +kernel
theorem k12 : brokenS 0 baseT stepsT = 1 := by decide +kernel
theorem k13 : checkS 0 baseK stepsK = 0 := by decide +kernel
theorem k14 : (refutedS 0 baseK stepsK).2 = 0 := by decide +kernel
theorem k15 : (refutedS 0 baseK stepsK).1.length = 2 := by decide +kernel
theorem k16 : sameN ((refutedS 0 baseK stepsK).1.getD 0 []) (knowN 0 pN) = true := by decide +kernel
theorem k17 : NegationN baseT 2 = 3 := by decide +kernel
theorem k18 : NegationN baseT 4 = -1 := by decide +kernel
theorem k19 : CarryN 0 baseT 12 0 = 1 := by decide +kernel
theorem k20 : CarryN 6 baseT 12 0 = 13 := by decide +kernel
theorem k21 : decide (oppN axN = oppN axN) = true := decide_eq_true rfl
end Go.Proofs.YtfcmdiigfgbgbaaGreat
