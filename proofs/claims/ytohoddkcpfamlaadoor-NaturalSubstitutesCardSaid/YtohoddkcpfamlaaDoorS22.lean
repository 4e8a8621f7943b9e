/- natural.Theorem as a Lean function; small functions of the law: stronger, Few. -/
import Derived.Test.YtohoddkcpfamlaaDoorS06
import Derived.Handy
import Derived.Test.YtohoddkcpfamlaaDoorS20
import Derived.Test.YtohoddkcpfamlaaDoorS21
import Derived.Test.YtohoddkcpfamlaaDoorS17
import Derived.Test.YtohoddkcpfamlaaDoorS18
import Derived.Test.YtohoddkcpfamlaaDoorCards
import Derived.Test.YtohoddkcpfamlaaDoorTie
import Derived.LaidMore
import Derived.SevenTiedAt
import Derived.Stop.Joined
import Derived.Below

namespace Go.Proofs.YtohoddkcpfamlaaDoor
open Go.RowKit

/-- Is a proof small? -/
def fewLine (n : Ln) : Bool := !(decide (40 < n.f.length) || decide (10 < n.from_.length))
def fewL (ls : List Ln) : Bool := bif (decide (60 < ls.length) && decide (ls.length ≤ 400)) || decide (500 < ls.length) then false else ls.all fewLine
section
variable {w : World} {lg : Int} {vl : Value} {ls : List Ln}
set_option maxHeartbeats 4000000 in
set_option maxRecDepth 100000 in
theorem few_out (hl : Lns w vl ls) (h : (60 < ls.length ∧ ls.length ≤ 400) ∨ 500 < ls.length) :
    Calls Tryd.prog 4 #[.agg #[.int .i64 lg, vl]] w fun e w' => e = .returned (.bool false) ∧ Ext w w' := by
  obtain ⟨Al, cl, rfl, _⟩ := hl
  by_cases h5 : 500 < ls.length
  · have i1 : (60 : Int) < (ls.length : Int) := by omega
    have i2 : ¬ (ls.length : Int) ≤ 400 := by omega
    have i3 : (500 : Int) < (ls.length : Int) := by omega
    have i4 : decide (ls.length ≤ 400) = false := by simp; omega
    have i5 : decide (60 < ls.length) = true := by simp; omega
    have i6 : decide (500 < ls.length) = true := by simp; omega
    go_enter Tryd.func4, Tryd.ntmps4
    go_wp2_with fail
    go_ret
    exact ⟨rfl, (Ext.refl _).alloc _⟩
  · have i1 : (60 : Int) < (ls.length : Int) := by omega
    have i2 : (ls.length : Int) ≤ 400 := by omega
    have i4 : decide (ls.length ≤ 400) = true := by simp; omega
    have i5 : decide (60 < ls.length) = true := by simp; omega
    go_enter Tryd.func4, Tryd.ntmps4
    go_wp2_with fail
    go_ret
    exact ⟨rfl, (Ext.refl _).alloc _⟩
theorem all_take_succ {k : Nat} {n : Ln} (h : ls[k]? = some n) : (ls.take (k + 1)).all fewLine = ((ls.take k).all fewLine && fewLine n) := by
  rw [take_succ_eq h, List.all_append]
  simp
set_option maxHeartbeats 4000000 in
set_option maxRecDepth 100000 in
theorem few_in (hl : Lns w vl ls) (h : ¬ ((60 < ls.length ∧ ls.length ≤ 400) ∨ 500 < ls.length)) :
    Calls Tryd.prog 4 #[.agg #[.int .i64 lg, vl]] w fun e w' => e = .returned (.bool (ls.all fewLine)) ∧ Ext w w' := by
  have HL := Lib.hid hl
  obtain ⟨Al, cl, rfl, hat⟩ := hl
  have hcap := hat.1
  have hcm := hat.2.1
  unfold maxLen at hcm
  have HAT := Lib.hid hat.2.2
  have h5 : decide (500 < ls.length) = false := by simp; omega
  have h6 : (decide (60 < ls.length) && decide (ls.length ≤ 400)) = false := by
    by_cases e : 60 < ls.length
    · have : ¬ ls.length ≤ 400 := by omega
      simp [e, this]
    · simp [e]
  have hd60 : 60 < ls.length → ¬ ls.length ≤ 400 := by omega
  clear hat
  by_cases h60 : 60 < ls.length
  · have i5 : decide (60 < ls.length) = true := by simpa using h60
    have i4 : decide (ls.length ≤ 400) = false := by simpa using hd60 h60
    have i1 : (60 : Int) < (ls.length : Int) := by omega
    have i2 : ¬ (ls.length : Int) ≤ 400 := by omega
    have i3 : ¬ (500 : Int) < (ls.length : Int) := by omega
    have i6 : ¬ 500 < ls.length := by omega
    have i7 : ¬ ls.length ≤ 400 := by omega
    clear hd60 h h6
    go_enter Tryd.func4, Tryd.ntmps4
    go_wp2_with fail
    go_loopw [3] (fun v wr => ∃ i : Nat, v = .int .i64 i ∧ i ≤ ls.length ∧ Hid ((ls.take i).all fewLine = true) ∧ Hid (Ext (w.alloc (.cells #[.int .i64 lg, .slice Al ls.length cl] 24)) wr)) (fun v _ => ls.length - (intOf v).toNat)
    case atStart => exact ⟨0, rfl, Nat.zero_le _, Lib.hid rfl, Lib.hid (Ext.refl _)⟩
    case round =>
      obtain ⟨i, rfl, hi, HA, HX⟩ := hrel
      obtain ⟨z0, z1, _, zlt⟩ := cells2 ((HX.out.block (by simp)).trans (heap_alloc_new w (.cells #[.int .i64 lg, .slice Al ls.length cl] 24)))
      have HXW := Lib.hid (((Ext.refl w).alloc (.cells #[.int .i64 lg, .slice Al ls.length cl] 24)).trans HX.out)
      by_cases hlt2 : i < ls.length
      · obtain ⟨n, hn⟩ : ∃ n, ls[i]? = some n := ⟨_, List.getElem?_eq_getElem hlt2⟩
        obtain ⟨ad, rfl, hblk, hcells⟩ := HAT.out (by intro e; rw [e] at hlt2; simp at hlt2)
        obtain ⟨uf, ur, q0, q1, q2, q3, q4, hff, hii⟩ := (hcells i n hn).ext HXW.out (by rw [block_of_add]; exact hblk)
        obtain ⟨Af, cf, rfl, _⟩ := fml_slice hff
        obtain ⟨Ar, cr, rfl, _⟩ := hii
        have hir0 : (0 : Int) ≤ (i : Int) := by omega
        have hir1 : (i : Int) < (ls.length : Int) := by omega
        have HS := Lib.hid (all_take_succ hn)
        have HM := Lib.hid (List.mem_of_getElem? hn)
        clear hcells hff hn
        by_cases hf : 40 < n.f.length
        · have hfd : decide (40 < n.f.length) = true := by simpa using hf
          have j1 : (40 : Int) < (n.f.length : Int) := by omega
          have HE := Lib.hid (show ls.all fewLine = false from by
            rw [List.all_eq_false]
            exact ⟨n, HM.out, by unfold fewLine; rw [hfd]; simp⟩)
          go_wp2_with fail
          go_ret
          exact ⟨by rw [HE.out] <;> rfl, HXW.out⟩
        · have hfd : decide (40 < n.f.length) = false := by simpa using hf
          have j1 : ¬ (40 : Int) < (n.f.length : Int) := by omega
          by_cases hr : 10 < n.from_.length
          · have hrd : decide (10 < n.from_.length) = true := by simpa using hr
            have j2 : (10 : Int) < (n.from_.length : Int) := by omega
            have HE := Lib.hid (show ls.all fewLine = false from by
              rw [List.all_eq_false]
              exact ⟨n, HM.out, by unfold fewLine; rw [hrd]; simp⟩)
            go_wp2_with fail
            go_ret
            exact ⟨by rw [HE.out] <;> rfl, HXW.out⟩
          · have hrd : decide (10 < n.from_.length) = false := by simpa using hr
            have j2 : ¬ (10 : Int) < (n.from_.length : Int) := by omega
            have HT : Hid ((ls.take (i + 1)).all fewLine = true) := Lib.hid (by rw [HS.out, HA.out]; unfold fewLine; rw [hfd, hrd]; rfl)
            go_wp2_with fail
            go_roundw
            case rel => exact ⟨i + 1, by go_num, by omega, HT, Lib.hid HX.out⟩
            case measure => simp [intOf]; omega
      · obtain rfl : ls.length = i := by omega
        have HE := Lib.hid (show ls.all fewLine = true by have := HA.out; rwa [List.take_of_length_le (Nat.le_refl _)] at this)
        go_wp2_with fail
        go_ret
        exact ⟨by rw [HE.out] <;> rfl, HXW.out⟩
  · have i5 : decide (60 < ls.length) = false := by simpa using h60
    clear hd60 h h6
    go_enter Tryd.func4, Tryd.ntmps4
    go_wp2_with fail
    go_loopw [3] (fun v wr => ∃ i : Nat, v = .int .i64 i ∧ i ≤ ls.length ∧ Hid ((ls.take i).all fewLine = true) ∧ Hid (Ext (w.alloc (.cells #[.int .i64 lg, .slice Al ls.length cl] 24)) wr)) (fun v _ => ls.length - (intOf v).toNat)
    case atStart => exact ⟨0, rfl, Nat.zero_le _, Lib.hid rfl, Lib.hid (Ext.refl _)⟩
    case round =>
      obtain ⟨i, rfl, hi, HA, HX⟩ := hrel
      obtain ⟨z0, z1, _, zlt⟩ := cells2 ((HX.out.block (by simp)).trans (heap_alloc_new w (.cells #[.int .i64 lg, .slice Al ls.length cl] 24)))
      have HXW := Lib.hid (((Ext.refl w).alloc (.cells #[.int .i64 lg, .slice Al ls.length cl] 24)).trans HX.out)
      by_cases hlt2 : i < ls.length
      · obtain ⟨n, hn⟩ : ∃ n, ls[i]? = some n := ⟨_, List.getElem?_eq_getElem hlt2⟩
        obtain ⟨ad, rfl, hblk, hcells⟩ := HAT.out (by intro e; rw [e] at hlt2; simp at hlt2)
        obtain ⟨uf, ur, q0, q1, q2, q3, q4, hff, hii⟩ := (hcells i n hn).ext HXW.out (by rw [block_of_add]; exact hblk)
        obtain ⟨Af, cf, rfl, _⟩ := fml_slice hff
        obtain ⟨Ar, cr, rfl, _⟩ := hii
        have hir0 : (0 : Int) ≤ (i : Int) := by omega
        have hir1 : (i : Int) < (ls.length : Int) := by omega
        have HS := Lib.hid (all_take_succ hn)
        have HM := Lib.hid (List.mem_of_getElem? hn)
        clear hcells hff hn
        by_cases hf : 40 < n.f.length
        · have hfd : decide (40 < n.f.length) = true := by simpa using hf
          have j1 : (40 : Int) < (n.f.length : Int) := by omega
          have HE := Lib.hid (show ls.all fewLine = false from by
            rw [List.all_eq_false]
            exact ⟨n, HM.out, by unfold fewLine; rw [hfd]; simp⟩)
          go_wp2_with fail
          go_ret
          exact ⟨by rw [HE.out] <;> rfl, HXW.out⟩
        · have hfd : decide (40 < n.f.length) = false := by simpa using hf
          have j1 : ¬ (40 : Int) < (n.f.length : Int) := by omega
          by_cases hr : 10 < n.from_.length
          · have hrd : decide (10 < n.from_.length) = true := by simpa using hr
            have j2 : (10 : Int) < (n.from_.length : Int) := by omega
            have HE := Lib.hid (show ls.all fewLine = false from by
              rw [List.all_eq_false]
              exact ⟨n, HM.out, by unfold fewLine; rw [hrd]; simp⟩)
            go_wp2_with fail
            go_ret
            exact ⟨by rw [HE.out] <;> rfl, HXW.out⟩
          · have hrd : decide (10 < n.from_.length) = false := by simpa using hr
            have j2 : ¬ (10 : Int) < (n.from_.length : Int) := by omega
            have HT : Hid ((ls.take (i + 1)).all fewLine = true) := Lib.hid (by rw [HS.out, HA.out]; unfold fewLine; rw [hfd, hrd]; rfl)
            go_wp2_with fail
            go_roundw
            case rel => exact ⟨i + 1, by go_num, by omega, HT, Lib.hid HX.out⟩
            case measure => simp [intOf]; omega
      · obtain rfl : ls.length = i := by omega
        have HE := Lib.hid (show ls.all fewLine = true by have := HA.out; rwa [List.take_of_length_le (Nat.le_refl _)] at this)
        go_wp2_with fail
        go_ret
        exact ⟨by rw [HE.out] <;> rfl, HXW.out⟩
theorem few_any (hl : Lns w vl ls) :
    Calls Tryd.prog 4 #[.agg #[.int .i64 lg, vl]] w fun e w' => e = .returned (.bool (fewL ls)) ∧ Ext w w' := by
  by_cases h : (60 < ls.length ∧ ls.length ≤ 400) ∨ 500 < ls.length
  · have e : fewL ls = false := by
      unfold fewL
      have : ((decide (60 < ls.length) && decide (ls.length ≤ 400)) || decide (500 < ls.length)) = true := by simpa using h
      rw [this]; rfl
    rw [e]
    exact few_out hl h
  · have e : fewL ls = ls.all fewLine := by
      unfold fewL
      have : ((decide (60 < ls.length) && decide (ls.length ≤ 400)) || decide (500 < ls.length)) = false := by
        rw [Bool.eq_false_iff]; simpa using h
      rw [this]; rfl
    rw [e]
    exact few_in hl h
end
end Go.Proofs.YtohoddkcpfamlaaDoor

/- The law NaturalSubstitutes. -/

namespace Go.Proofs.YtohoddkcpfamlaaDoor
open Go.RowKit

theorem tInfoNL : (Tryd.prog.info? 34).map (fun i => (i.zero, i.size, i.bytes)) = some (some (.agg #[.int .i64 0, .int .i64 0, .slice none 0 0, .int .i64 0, .slice none 0 0]), 5, 72) := by kernel_rfl
theorem cells2n {w : World} {b : Nat} {a0 a1 : Value} {t : TypeId} (h : w.heap[b]? = some (.cells #[a0, a1] t (0, 0))) : w.cell? ⟨b, 0, none⟩ = some a0 ∧ w.cell? ⟨b, 1, none⟩ = some a1 ∧ (∀ j, w.frozen? ⟨b, j, none⟩ = false) ∧ b < w.heap.size :=
  ⟨by simp [World.cell?, h], by simp [World.cell?, h], fun j => by simp [World.frozen?, h], lt_heap h⟩
theorem cells5n {w : World} {b : Nat} {a0 a1 a2 a3 a4 : Value} {t : TypeId} (h : w.heap[b]? = some (.cells #[a0, a1, a2, a3, a4] t (0, 0))) : w.cell? ⟨b, 0, none⟩ = some a0 ∧ w.cell? ⟨b, 1, none⟩ = some a1 ∧ w.cell? ⟨b, 2, none⟩ = some a2 ∧ w.cell? ⟨b, 3, none⟩ = some a3 ∧ w.cell? ⟨b, 4, none⟩ = some a4 ∧ (∀ j, w.frozen? ⟨b, j, none⟩ = false) ∧ b < w.heap.size :=
  ⟨by simp [World.cell?, h], by simp [World.cell?, h], by simp [World.cell?, h], by simp [World.cell?, h], by simp [World.cell?, h], fun j => by simp [World.frozen?, h], lt_heap h⟩
theorem frag_test (f : List Nd) : (bits .andNot .i64 ((fragsN f : Nat) : Int) 1 != 0) = decide (2 ≤ fragsN f) := andNot_frags _ (fragMask_lt _)
set_option maxRecDepth 100000 in
set_option maxHeartbeats 64000000 in
theorem natSubst_any {w : World} {lg : Int} {vl vt : Value} {ls : List Ln} {tl : List (List Nd)} (hl : Lns w vl ls) (ht : Fmls w vt tl) (hT : Tab w) :
    Calls Tryd.prog 3 #[.agg #[.int .i64 lg, vl], vt] w fun e w' => e = .returned (.bool true) ∧ Ext w w' := by
  have HL := Lib.hid hl
  have HTL := Lib.hid ht
  have HT := Lib.hid hT
  obtain ⟨Al, cl, rfl, hat⟩ := hl
  have hcap := hat.1
  have hcm := hat.2.1
  unfold maxLen at hcm
  have HAT := Lib.hid hat.2.2
  obtain ⟨At, ct, rfl, htc, htm, hta⟩ := ht
  unfold maxLen at htm
  have HTA := Lib.hid hta
  obtain ⟨fw, hfw⟩ : ∃ z, z = fewL ls := ⟨_, rfl⟩
  have HFW := Lib.hid hfw
  have X0 := Lib.hid ((Ext.refl w).alloc (.cells #[.int .i64 lg, .slice Al ls.length cl] 24))
  have BP := Lib.hid (heap_alloc_new w (.cells #[.int .i64 lg, .slice Al ls.length cl] 24))
  have BPL := Lib.hid (lt_heap BP.out)
  clear hat hta hT hfw
  go_enter Tryd.func3, Tryd.ntmps3
  go_wp2_with fail
  refine (few_any (lg := lg) (HL.out.ext X0.out)).mono ?_
  rintro e w1 ⟨rfl, hx⟩
  rw [← HFW.out]
  have Y1 := Lib.hid (X0.out.trans hx)
  have BP1 := Lib.hid ((hx.block BPL.out).trans BP.out)
  clear hx
  obtain ⟨z0, z1, _, zl⟩ := cells2n BP1.out
  cases fw
  · skip
    go_wp2_with fail
    refine (awake_any (HT.out.ext Y1.out)).mono ?_
    rintro e wt ⟨rfl, hxt⟩
    have YT := Lib.hid (Y1.out.trans hxt)
    clear hxt
    go_wp2_with fail
    go_ret
    exact ⟨rfl, YT.out⟩
  by_cases h30 : (30 : Int) < (ls.length : Int)
  · skip
    go_wp2_with fail
    refine (awake_any (HT.out.ext Y1.out)).mono ?_
    rintro e wt ⟨rfl, hxt⟩
    have YT := Lib.hid (Y1.out.trans hxt)
    clear hxt
    go_wp2_with fail
    go_ret
    exact ⟨rfl, YT.out⟩
  by_cases h3 : (3 : Int) < (tl.length : Int)
  · skip
    go_wp2_with fail
    refine (awake_any (HT.out.ext Y1.out)).mono ?_
    rintro e wt ⟨rfl, hxt⟩
    have YT := Lib.hid (Y1.out.trans hxt)
    clear hxt
    go_wp2_with fail
    go_ret
    exact ⟨rfl, YT.out⟩
  go_wp2_with fail
  clear z0 z1 zl
  go_loopw [5] (fun vi wr => ∃ k : Nat, vi = .int .i64 (k : Int) ∧ k ≤ tl.length ∧ Hid (∀ j g, j < k → tl[j]? = some g → check g = 0 ∧ fragsN g < 2) ∧ Ext w1 wr) (fun v _ => tl.length - (intOf v).toNat)
  case atStart => exact ⟨0, rfl, Nat.zero_le _, Lib.hid (fun j g hj => absurd hj (Nat.not_lt_zero _)), Ext.refl _⟩
  case round =>
    obtain ⟨k, rfl, hk, HOK, hext⟩ := hrel
    have E := Lib.hid (Y1.out.trans hext)
    have HEX := Lib.hid hext
    clear hext
    by_cases hlt2 : k < tl.length
    · have hk1 : (k : Int) < (tl.length : Int) := by omega
      obtain ⟨ad, rfl, hdl, hda⟩ := HTA.out (by intro e; rw [e] at hlt2; simp at hlt2)
      obtain ⟨l, hl⟩ : ∃ l, tl[k]? = some l := ⟨_, List.getElem?_eq_getElem hlt2⟩
      obtain ⟨u, hu, hfl⟩ := hda k l hl
      have hu1 := (E.out.cell (p := ad.add k) (by rw [block_of_add]; exact hdl)).trans hu
      have HFL := Lib.hid (hfl.ext E.out)
      have HLK := Lib.hid hl
      obtain ⟨Au, cu, rfl, _⟩ := fml_slice HFL.out
      clear hda hl hu hfl
      by_cases hl0 : l.length = 0
      · have hl0i : ((l.length : Int) == 0) = true := by rw [beq_iff_eq]; omega
        go_wp2_with fail
        refine (awake_any (HT.out.ext E.out)).mono ?_
        rintro e wt ⟨rfl, hxt⟩
        have YT := Lib.hid (E.out.trans hxt)
        clear hxt
        go_wp2_with fail
        go_ret
        exact ⟨rfl, YT.out⟩
      have hl0i : ((l.length : Int) == 0) = false := by rw [beq_eq_false_iff_ne]; omega
      by_cases hl8 : (8 : Int) < (l.length : Int)
      · go_wp2_with fail
        refine (awake_any (HT.out.ext E.out)).mono ?_
        rintro e wt ⟨rfl, hxt⟩
        have YT := Lib.hid (E.out.trans hxt)
        clear hxt
        go_wp2_with fail
        go_ret
        exact ⟨rfl, YT.out⟩
      obtain ⟨cv, hcv⟩ : ∃ z, z = check l := ⟨_, rfl⟩
      have HCV := Lib.hid hcv
      clear hcv
      go_wp2_with fail
      refine (check_any _ l _ HFL.out.1).mono ?_
      rintro e w2 ⟨rfl, hx⟩
      rw [← HCV.out]
      have E2 := Lib.hid (E.out.trans hx)
      have hu2 := (hx.cell (p := ad.add k) (by rw [block_of_add]; exact Nat.lt_of_lt_of_le hdl E.out.size)).trans hu1
      have HFL2 := Lib.hid (HFL.out.ext hx)
      have HX2 := Lib.hid hx
      clear hx hu1
      by_cases hc0 : cv = 0
      · subst hc0
        go_wp2_with fail
        refine (frags_any _ l _ HFL2.out).mono ?_
        rintro e w3 ⟨rfl, hx⟩
        have E3 := Lib.hid (E2.out.trans hx)
        have HX3 := Lib.hid (HX2.out.trans hx)
        have HAN := Lib.hid (frag_test l)
        obtain ⟨mf, hmf⟩ : ∃ z : Nat, z = fragsN l := ⟨_, rfl⟩
        rw [← hmf] at HAN ⊢
        have HMF := Lib.hid hmf
        clear hx hmf
        by_cases h2 : 2 ≤ mf
        · have han : (bits .andNot .i64 (mf : Int) 1 != 0) = true := by rw [HAN.out]; exact decide_eq_true h2
          go_wp2_with fail
          refine (awake_any (HT.out.ext E3.out)).mono ?_
          rintro e wt ⟨rfl, hxt⟩
          have YT := Lib.hid (E3.out.trans hxt)
          clear hxt
          go_wp2_with fail
          go_ret
          exact ⟨rfl, YT.out⟩
        · have han : (bits .andNot .i64 (mf : Int) 1 != 0) = false := by rw [HAN.out]; exact decide_eq_false h2
          have HN := Lib.hid (show check l = 0 ∧ fragsN l < 2 from ⟨HCV.out.symm, by rw [← HMF.out]; omega⟩)
          go_wp2_with fail
          go_roundw
          case rel => exact ⟨k + 1, by go_num, by omega, Lib.hid (fun j g hj hg => by
            by_cases e : j < k
            · exact HOK.out j g e hg
            · obtain rfl : j = k := by omega
              rw [HLK.out] at hg
              injection hg with hg
              subst hg
              exact HN.out), HEX.out.trans HX3.out⟩
          case measure => simp [intOf]; omega
      · have hc1 : (cv != 0) = true := by simpa using hc0
        go_wp2_with fail
        refine (awake_any (HT.out.ext E2.out)).mono ?_
        rintro e wt ⟨rfl, hxt⟩
        have YT := Lib.hid (E2.out.trans hxt)
        clear hxt
        go_wp2_with fail
        go_ret
        exact ⟨rfl, YT.out⟩
    · obtain rfl : tl.length = k := by omega
      have HTO : Hid (ToOk tl) := Lib.hid (fun g hg => by
        obtain ⟨j, hj⟩ := List.getElem?_of_mem hg
        exact HOK.out j g (List.getElem?_eq_some_iff.1 hj).1 hj)
      have BP2 := Lib.hid ((HEX.out.block (lt_heap BP1.out)).trans BP1.out)
      obtain ⟨z0, z1, _, zl⟩ := cells2n BP2.out
      obtain ⟨eg, heg⟩ : ∃ z, z = (natTheorem lg ls).2 := ⟨_, rfl⟩
      have HEG := Lib.hid heg
      obtain ⟨f, hf⟩ : ∃ z, z = (natTheorem lg ls).1 := ⟨_, rfl⟩
      have HF := Lib.hid hf
      clear heg hf
      go_wp2_with fail
      refine (natTheorem_any (lg := lg) (HL.out.ext E.out) (HT.out.ext E.out)).mono ?_
      rintro e w5 ⟨u, rfl, hx, hfm⟩
      rw [← HEG.out]
      rw [← HF.out] at hfm
      have E5 := Lib.hid (E.out.trans hx)
      have HFM := Lib.hid hfm
      have BP5 := Lib.hid ((hx.block (lt_heap BP2.out)).trans BP2.out)
      clear hx hfm z0 z1 zl
      obtain ⟨z0, z1, _, zl⟩ := cells2n BP5.out
      obtain ⟨Af, cf, rfl, _⟩ := fml_slice HFM.out
      by_cases hg : eg = 0
      · subst hg
        have Q0 := Lib.hid (QSt.first (w0 := w5) ((Ext.refl w5).alloc (.cells #[.int .i64 lg, .slice none 0 0] 24)) (Nat.le_refl _) (heap_alloc_new w5 _))
        obtain ⟨iL, hiL, hzL0, hzL1, hzL2⟩ := info_parts tInfoNL
        go_wp2_with fail
        clear z0 z1 zl
        go_loopw [9, 10, 11, 12] (fun vi _ _ _ wr => ∃ lq : List Ln, vi = .int .i64 (lq.length : Int) ∧ lq.length ≤ ls.length ∧ Hid (lq = (ls.take lq.length).map (subLn tl)) ∧ Hid (∀ j n, j < lq.length → ls[j]? = some n → (substN tl n.f).2 = 0) ∧ Hid (∃ vq, QSt w5 wr w5.heap.size lg vq lq)) (fun v _ _ _ _ => ls.length - (intOf v).toNat)
        case atStart => exact ⟨[], rfl, Nat.zero_le _, Lib.hid rfl, Lib.hid (fun j n hj => absurd hj (Nat.not_lt_zero _)), Lib.hid ⟨_, Q0.out⟩⟩
        case round =>
          obtain ⟨lq, rfl, hk, HLQ, HSZ, HQE⟩ := hrel
          obtain ⟨vq, hq⟩ := HQE.out
          clear HQE
          obtain ⟨cs, hrow, hcs⟩ := hq.row
          obtain ⟨Aq, cq, rfl⟩ := slice_of_row hrow
          have HQ := Lib.hid hq
          have HROW := Lib.hid hrow
          have HCS := Lib.hid hcs
          have ER := Lib.hid (E5.out.trans hq.ext)
          have E5R := Lib.hid hq.ext
          have BPR := Lib.hid ((hq.ext.block (lt_heap BP5.out)).trans BP5.out)
          obtain ⟨z0, z1, _, zl⟩ := cells2n BPR.out
          clear hq hrow hcs
          by_cases hlt2 : lq.length < ls.length
          · have hk1 : (lq.length : Int) < (ls.length : Int) := by omega
            obtain ⟨ad, rfl, hblk, hcells⟩ := HAT.out (by intro e; rw [e] at hlt2; simp at hlt2)
            obtain ⟨n, hn⟩ : ∃ n, ls[lq.length]? = some n := ⟨_, List.getElem?_eq_getElem hlt2⟩
            obtain ⟨uf, ur, p0, p1, p2, p3, p4, hff, hii⟩ := hcells _ _ hn
            have hbk : ∀ _ : Nat, (ad.add (lq.length * 5)).block < w.heap.size := fun _ => by rw [block_of_add]; exact hblk
            replace p0 := (ER.out.cell (p := ad.add (lq.length * 5)) (hbk 0)).trans p0
            replace p1 := (ER.out.cell (p := ⟨(ad.add (lq.length * 5)).block, (ad.add (lq.length * 5)).off + 1, none⟩) (hbk 0)).trans p1
            replace p2 := (ER.out.cell (p := ⟨(ad.add (lq.length * 5)).block, (ad.add (lq.length * 5)).off + 2, none⟩) (hbk 0)).trans p2
            replace p3 := (ER.out.cell (p := ⟨(ad.add (lq.length * 5)).block, (ad.add (lq.length * 5)).off + 3, none⟩) (hbk 0)).trans p3
            replace p4 := (ER.out.cell (p := ⟨(ad.add (lq.length * 5)).block, (ad.add (lq.length * 5)).off + 4, none⟩) (hbk 0)).trans p4
            clear hbk
            have HFF := Lib.hid (hff.ext ER.out)
            have HII := Lib.hid hii
            have HN := Lib.hid hn
            obtain ⟨ck, fk⟩ := thm_frag HEG.out.symm hn
            have HCK := Lib.hid ck
            have HFK := Lib.hid fk
            obtain ⟨Auf, cuf, rfl, _⟩ := fml_slice hff
            obtain ⟨Aur, cur, rfl, _⟩ := hii
            clear hcells hn hff ck fk
            have W0 := Lib.hid ((Ext.refl wr).alloc (.cells #[.int .i64 n.depth, .int .i64 n.rule, .slice Auf n.f.length cuf, .int .i64 n.agent, .slice Aur n.from_.length cur] 34))
            have BX := Lib.hid (heap_alloc_new wr (.cells #[.int .i64 n.depth, .int .i64 n.rule, .slice Auf n.f.length cuf, .int .i64 n.agent, .slice Aur n.from_.length cur] 34))
            go_wp2_with fail
            refine (subst_any (tl := tl) (HFF.out.ext W0.out) (HTL.out.ext (ER.out.trans W0.out)) HCK.out (few_of_frag HCK.out HFK.out) (fun g hg => (HTO.out g hg).1) (by omega)).mono ?_
            rintro e w6 ⟨u, rfl, hx, hu, hnew⟩
            obtain ⟨es, hes⟩ : ∃ z, z = (substN tl n.f).2 := ⟨_, rfl⟩
            obtain ⟨g, hg⟩ : ∃ z, z = (substN tl n.f).1 := ⟨_, rfl⟩
            rw [← hes]
            rw [← hg] at hu
            have HES := Lib.hid hes
            have HG := Lib.hid hg
            have W6 := Lib.hid (W0.out.trans hx)
            have HU := Lib.hid hu
            have HNEW := Lib.hid hnew
            have BX6 := Lib.hid ((hx.block (lt_heap BX.out)).trans BX.out)
            obtain ⟨Ag, cg, rfl, _⟩ := fml_slice hu
            have hes2 : es = 0 ∨ es = 8 := by rw [hes]; exact subst_two HTO.out HCK.out HFK.out
            have BP6 := Lib.hid ((W6.out.block (lt_heap BPR.out)).trans BPR.out)
            clear hx hu hnew hes hg p0 p1 p2 p3 p4 z0 z1 zl
            rcases hes2 with h | h
            · subst h
              have hgl : 0 < g.length := by rw [HG.out]; exact subst_pos HTO.out HCK.out HFK.out HES.out.symm
              obtain ⟨x0, x1, x2, x3, x4, xfr, xlt⟩ := cells5n BX6.out
              have xf2 := xfr 2
              have HNL := Lib.hid (show subLn tl n = ⟨n.depth, n.rule, g, n.agent, n.from_⟩ by unfold subLn; rw [HG.out])
              have HQ6 := Lib.hid (HQ.out.ext_ W6.out)
              obtain ⟨b0, b1, bfr, blt⟩ := cells2n HQ6.out.blk
              have hbq : w5.heap.size ≠ wr.heap.size := by have := lt_heap HQ.out.blk; omega
              have hc3 : lq.length + 1 ≤ maxLen := by unfold maxLen; omega
              have hc4 : (lq.length + 1) * 72 ≤ 140737488355328 := by omega
              have HNW : Hid (∀ k, (Value.slice Ag g.length cg).ownBlock = some k → wr.heap.size < k) := Lib.hid (fun k hk => by have := HNEW.out k hk; rw [World.size_alloc] at this; omega)
              have EW := Lib.hid ((W6.out.setCell (p := ⟨wr.heap.size, 2, none⟩) (Nat.le_refl _) (.slice Ag g.length cg)).alloc (.cells #[.int .i64 n.depth, .int .i64 n.rule, .slice Ag g.length cg, .int .i64 n.agent, .slice Aur n.from_.length cur] 34))
              go_wp2_with (at_builtin; refine wpList_append_own_at _ rfl _ _ 22 rfl w5.heap.size 34 iL (.agg #[.int .i64 0, .int .i64 0, .slice none 0 0, .int .i64 0, .slice none 0 0]) 5 72 Tryd.underlying22 hiL hzL0 hzL1 hzL2 rfl (by decide) _ lq.length cs rfl (row_ext HROW.out EW.out) ⟨_, 0, none⟩ 1 1 [.int .i64 n.depth, .int .i64 n.rule, .slice Ag g.length cg, .int .i64 n.agent, .slice Aur n.from_.length cur] rfl rfl (row_new_at _ _ _ (by simp)) (fun u hu => by simp only [List.mem_cons, List.not_mem_nil, or_false] at hu; rcases hu with rfl | rfl | rfl | rfl | rfl <;> rfl) hc3 hc4 (Nat.le_trans E5R.out.size EW.out.size) ?_)
              intro v7 w7 hown7 hgrow7 _ hat7
              have HPS := Lib.hid (QSt.push (n := subLn tl n) (uf := .slice Ag g.length cg) (ur := .slice Aur n.from_.length cur) (HQ.out.ext_ EW.out) (row_ext HROW.out EW.out) (fun k m hk => (HCS.out k m hk).ext EW.out) (by rw [HNL.out]; exact hown7) hgrow7 (hat7.imp id (fun e => e.trans (by simp [World.setCell]))) (by rw [HNL.out]; exact fml_past HU.out HNW.out _ 2) (by rw [HNL.out]; exact HII.out.ext (ER.out.trans EW.out))
                (.inr (ap_new HU.out hgl HNW.out (lt_heap HQ.out.blk) HROW.out (by simp [World.setCell]))) (by rw [HNL.out]; exact ap_old HII.out E5.out.size (Nat.le_refl _) HROW.out (Nat.le_trans E5R.out.size EW.out.size)))
              obtain ⟨A7, c7, rfl⟩ := slice_of_row hown7
              have kb := (hgrow7.block w5.heap.size (Nat.lt_of_lt_of_le (lt_heap HQ.out.blk) EW.out.size) (fun e => HQ.out.ne e.symm)).trans (HQ.out.ext_ EW.out).blk
              obtain ⟨y0, y1, yfr, ylt⟩ := cells2n kb
              clear hown7 hgrow7 hat7 kb b0 b1 bfr blt x0 x1 x2 x3 x4 xfr xlt xf2
              go_wp2_with fail
              go_roundw
              case rel => exact ⟨lq ++ [subLn tl n], by rw [List.length_append]; go_num, by rw [List.length_append]; simp; omega, Lib.hid (by rw [List.length_append]; show lq ++ [subLn tl n] = (ls.take (lq.length + 1)).map (subLn tl); rw [take_succ_eq HN.out, List.map_append, ← HLQ.out]; rfl), Lib.hid (fun j m hj hm => by
                rw [List.length_append] at hj
                by_cases e : j < lq.length
                · exact HSZ.out j m e hm
                · obtain rfl : j = lq.length := by simp at hj; omega
                  rw [HN.out] at hm
                  injection hm with hm
                  rw [← hm]
                  exact HES.out.symm), Lib.hid ⟨_, HPS.out⟩⟩
              case measure => simp [intOf]; omega
            · subst h
              go_wp2_with fail
              refine (awake_any (HT.out.ext (ER.out.trans W6.out))).mono ?_
              rintro e wt ⟨rfl, hxt⟩
              have YT := Lib.hid ((ER.out.trans W6.out).trans hxt)
              clear hxt
              go_wp2_with fail
              go_ret
              exact ⟨rfl, YT.out⟩
          · have hk2 : lq.length = ls.length := by omega
            have HALL := Lib.hid (show lq = ls.map (subLn tl) by have h := HLQ.out; rw [hk2, List.take_of_length_le (Nat.le_refl _)] at h; exact h)
            have HPR := Lib.hid (subs_prove HTO.out HEG.out.symm (fun k n hn => HSZ.out k n (by rw [hk2]; exact (List.getElem?_eq_some_iff.1 hn).1) hn))
            rw [← HF.out, ← HALL.out] at HPR
            have hnl : ¬ (lq.length : Int) < (ls.length : Int) := by omega
            obtain ⟨q1, q2, q3⟩ := (subst_compact (tl := tl) (f := (lastLn ls).f) (thm_frag HEG.out.symm (lastLn_get (thm_parts HEG.out.symm).2.2.2.2.1.1)).1 (thm_frag HEG.out.symm (lastLn_get (thm_parts HEG.out.symm).2.2.2.2.1.1)).2)
            rw [← (thm_parts HEG.out.symm).2.2.1, ← HF.out] at q1 q2 q3
            have QC := Lib.hid (And.intro q2 q3)
            clear q1 q2 q3 hk2
            go_wp2_with fail
            refine (subst_any (tl := tl) (HFM.out.ext E5R.out) (HTL.out.ext ER.out) QC.out.1 QC.out.2 (fun g hg => (HTO.out g hg).1) (by omega)).mono ?_
            rintro e w6 ⟨u, rfl, hx, hu, -⟩
            rw [HPR.out.1]
            have W6 := Lib.hid hx
            have HU := Lib.hid hu
            obtain ⟨Ag, cg, rfl, _⟩ := fml_slice hu
            have HQ6 := Lib.hid (HQ.out.ext_ hx)
            obtain ⟨b0, b1, bfr, blt⟩ := cells2n HQ6.out.blk
            clear hx hu z0 z1 zl
            go_wp2_with fail
            refine (proves_any (lg := lg) HQ6.out.lns HU.out (HT.out.ext (ER.out.trans W6.out))).mono ?_
            rintro e w7 ⟨rfl, hx⟩
            rw [HPR.out.2]
            have W7 := Lib.hid (W6.out.trans hx)
            clear hx
            go_wp2_with fail
            refine (awake_any (HT.out.ext (ER.out.trans W7.out))).mono ?_
            rintro e wt ⟨rfl, hxt⟩
            have YT := Lib.hid ((ER.out.trans W7.out).trans hxt)
            clear hxt
            go_wp2_with fail
            go_ret
            exact ⟨rfl, YT.out⟩
      · have hge : (eg != 0) = true := by simpa using hg
        clear hg
        go_wp2_with fail
        refine (awake_any (HT.out.ext E5.out)).mono ?_
        rintro e wt ⟨rfl, hxt⟩
        have YT := Lib.hid (E5.out.trans hxt)
        clear hxt
        go_wp2_with fail
        go_ret
        exact ⟨rfl, YT.out⟩
end Go.Proofs.YtohoddkcpfamlaaDoor

/- NaturalSubstitutes: if the facts of a proof are replaced by formulas, the result is a proof: for every proof and every list of formulas. The row, and its tied card. -/

namespace Go.Proofs.YtohoddkcpfamlaaDoor
open Go.ChangeShapes Go.WideShapes Go.ChangeAt Go.RowKit Go.Joins

theorem fmls_of_arg {H : Type} {enc : TypeId × Value → H} {w : World} {spare : Nat → Bool} {held : Bool} {v : Value} {d : DataW H} {p : List MemPlace} (h : DataW.Trod enc Tryd.prog w 0 spare held 25 v d p) (hv : ∃ a len cap, v = .slice a len cap) : ∃ l, Fmls w v l := by
  obtain ⟨a, len, cap, rfl⟩ := hv
  obtain ⟨fuel, h⟩ := h
  rcases Go.Deep.open_slice Tryd.underlying25 h with ⟨hc, _⟩ | ⟨a, len, cap, m, n, D, Pl, hc, _, hl, hm, hmm, _, hi⟩
  · injection hc with hc _
    rw [hc]
    exact ⟨[], ⟨none, 0, rfl, Nat.le_refl _, by unfold maxLen; omega, fun h => absurd rfl h⟩⟩
  · injection hc with hc _
    rw [hc]
    have hC : Tryd.prog.cellsOf 28 = 1 := by kernel_rfl
    obtain ⟨l, hlen, hp⟩ := list_of (P := fun i (r : List Nd) => ∃ u, w.cell? (a.add i) = some u ∧ Fml w u r ∧ a.block < w.heap.size) len (fun i hil => by
      obtain ⟨cs', hcs, ht'⟩ := hi i (by rw [hmm]; split <;> omega)
      rw [hC] at hcs
      obtain ⟨_, hcl, hat⟩ := World.cells?_some hcs
      obtain ⟨u, rfl⟩ : ∃ u, cs' = [u] := by
        cases cs' with
        | nil => simp at hcl
        | cons x t => cases t with
          | nil => exact ⟨x, rfl⟩
          | cons z t => simp at hcl
      have h0 := hat 0 (by omega)
      obtain ⟨r, hr⟩ := fml_of_trod ht'
      have hc0 : w.cell? (a.add i) = some u := by
        have : (a.add (i * 1)).add 0 = a.add i := by rw [Nat.mul_one]; unfold Addr.add; rfl
        rw [this] at h0
        simpa using h0
      refine ⟨r, u, hc0, hr, ?_⟩
      have := World.block_lt_of_cell? w _ hc0
      rwa [block_of_add] at this)
    refine ⟨l, ⟨some a, cap, by rw [hlen], by rw [hlen]; exact hl, hm, fun hne => ⟨a, rfl, ?_, fun k s hk => ?_⟩⟩⟩
    · obtain ⟨z, hz0⟩ : ∃ z, l[0]? = some z := by
        cases hq : l with
        | nil => exact absurd hq hne
        | cons x t => exact ⟨x, rfl⟩
      obtain ⟨_, _, _, hb⟩ := hp 0 z hz0
      exact hb
    · obtain ⟨u, h1, h2, _⟩ := hp k s hk
      exact ⟨u, h1, h2⟩
theorem laidOutP : laidOutB Tryd.prog = true := by kernel_rfl
theorem own : ownKnob Tryd.prog.godebug = none := by kernel_rfl
theorem door_met (os : Os) (args : Array Value) : laidMetH Tryd.prog [("witting/natural.table", Rows.laid_witting_natural_table)] ((World.doorLaid Tryd.prog 600 os).forCall (fun _ _ => 0) ⟨#[], args, []⟩).memory := by
  exact laidMetH_of_parts3 (fuel := 8) (laidMet_of_run' 8 (by kernel_rfl) (by kernel_rfl)) (by kernel_rfl) (by kernel_rfl)
set_option maxRecDepth 100000 in
theorem naturalSubstitutes_lifted (os : Os) (started : os.Started) (H : Type) (enc : TypeId × Value → H) :
    ReturnsInHanded {} Tryd.checked os 3 .any (fun w args => (Rows.naturalSubstitutesSpec.pre enc Tryd.prog Tryd.f3 [] false w args ∧ laidMetH Tryd.prog [("witting/natural.table", Rows.laid_witting_natural_table)] w) ∧ sizedMet enc Tryd.prog Tryd.f3 (OpenSpec.ofChange Rows.naturalSubstitutesSpec) false w args)
      (Rows.naturalSubstitutesSpec.post enc Tryd.prog Tryd.f3 false true false false) := by
  refine returnsInHanded_of_change_and (C := Tryd.checked) (X := fun w _ => laidMetH Tryd.prog [("witting/natural.table", Rows.laid_witting_natural_table)] w) (fun _ _ _ hh h => h.of_heap hh) own started (by kernel_rfl) Tryd.func3
    (ChangeSpec.witness_shaped (enc := enc) (C := Tryd.checked) (os := os) (X := fun w _ => laidMetH Tryd.prog [("witting/natural.table", Rows.laid_witting_natural_table)] w) false (World.doorLaid Tryd.prog 600 os) #[.agg #[.int .i64 0, .slice none 0 0], .slice none 0 0] 8 rfl (World.shaped_of_RefB (by kernel_rfl) (by kernel_rfl)) (by kernel_rfl) (by kernel_rfl) (by kernel_rfl) (door_met os _)) ?_
  intro W base args ds gs before hval0 hW _ _ hL _
  have hval : ∀ (j : Nat) t v, Tryd.f3.params[j]? = some t → args[j]? = some v → Value.okWide Tryd.prog W .any base t v := hval0
  have hTAB := tab_of_laid hL (List.mem_cons_self ..)
  have hW' := hW
  obtain ⟨p, q, hA0, hV, rfl, hfz, hnd⟩ := hW
  have hA : DataW.TrodAll enc Tryd.prog W 0 (fun _ => true) true Tryd.f3.params.toList args.toList ds p := hA0
  rw [Tryd.params3] at hA hval
  obtain ⟨v0, vs0, d0, ds0, p0, q0, hargs, rfl, rfl, h0, r0⟩ := trodAll_cons hA
  obtain ⟨v1, vs1, d1, ds1, p1, q1, rfl, rfl, rfl, h1, r1⟩ := trodAll_cons r0
  obtain ⟨rfl, rfl, rfl⟩ := trodAll_nil r1
  obtain rfl : args = #[v0, v1] := by cases args; simp_all
  obtain ⟨rfl, rfl⟩ := trodVars_none hV
  obtain ⟨u0a, u0b, y0a, y0b, n0, rfl, hd0, hp0, t0a, t0b⟩ := open_agg2 Tryd.underlying24 (by kernel_rfl) (by kernel_rfl) (hval 0 24 v0 rfl rfl) h0
  obtain ⟨lg0, rfl, _⟩ := int_of_trod t0a
  obtain ⟨ls0, hls0⟩ := lns_of_trod t0b
  obtain ⟨fl1, hfl1⟩ := fmls_of_arg h1 (okWide_slice Tryd.underlying25 (hval 1 25 v1 rfl rfl))
  simp only [List.append_nil] at hW'
  clear hA0 hval0
  refine (natSubst_any (lg := lg0) hls0 hfl1 hTAB).mono ?_
  rintro e W' ⟨rfl, hx⟩
  have hlt : ∀ x ∈ p0 ++ p1, x.block < W.heap.size := fun x hx' => hW'.lt x hx'
  refine ⟨_, rfl, post_of_below (pa := p0 ++ p1) (pv := []) hW' (fun _ _ _ => trodAll_mk1 (shut_bool Tryd.underlying4 _)) (fun sp hsp => ?_) (fun _ _ => rfl) (by simp) hx (ok_one (by kernel_rfl) rfl (okWide_bool_mk Tryd.underlying4 _))⟩
  have ht := (trodAll_cons_mk (WideElems.Trod_stays laidOutP (by kernel_rfl) (of_decide_eq_true (by kernel_rfl)) h0 (fun x hx' => hx.same (hlt x (List.mem_append.2 (Or.inl hx')))) (fun x hx' => hsp x (List.mem_append.2 (Or.inl hx')))) (trodAll_cons_mk (WideElems.Trod_stays laidOutP (by kernel_rfl) (of_decide_eq_true (by kernel_rfl)) h1 (fun x hx' => hx.same (hlt x (List.mem_append.2 (Or.inr hx')))) (fun x hx' => hsp x (List.mem_append.2 (Or.inr hx')))) trodAll_mk0))
  simp only [List.append_nil] at ht
  exact ht
theorem naturalSubstitutes_said : Rows.NaturalSubstitutesSaid :=
  OpenClaim.holds_of_wide 3 Tryd.f3 rfl rfl rfl rfl rfl rfl rfl ⟨rfl, rfl, rfl, rfl, rfl⟩ rfl rfl rfl rfl rfl (by kernel_rfl) Tryd.func3 (by kernel_rfl)
    (of_decide_eq_true (by kernel_rfl)) (by unfold Func.isWrapper; first | (rw [if_pos (by decide +kernel)]; kernel_rfl) | (rw [if_neg (by decide +kernel)]; exact ⟨rfl, rfl⟩))
    (fun os started H enc _ => naturalSubstitutes_lifted os started H enc)
theorem naturalSubstitutes_plain (f : FuncId) (fn : Func) (hf : Tryd.pinned.checked.prog.funcNamed "witting/wittinglaw50.NaturalSubstitutes" = some f) (hfn : Tryd.pinned.checked.prog.funcs[f]? = some fn) :
    false = Tryd.pinned.checked.prog.looks [] ∧ ∀ (j : Nat) t, fn.params[j]? = some t → Tryd.pinned.checked.prog.wantsStandIn t = false := by
  obtain rfl : f = 3 := Option.some.inj ((show Tryd.prog.funcNamed "witting/wittinglaw50.NaturalSubstitutes" = some 3 by kernel_rfl).symm.trans hf) |>.symm
  obtain rfl : fn = Tryd.f3 := (Option.some.inj (Tryd.func3.symm.trans hfn)).symm
  refine ⟨by kernel_rfl, fun j t ht => ?_⟩
  rw [Tryd.params3] at ht
  have hm : t ∈ #[(24 : TypeId), (25 : TypeId)] := Array.mem_of_getElem? ht
  simp only [List.mem_toArray, List.mem_cons, List.not_mem_nil, or_false] at hm
  rcases hm with rfl | rfl
  · exact (show Tryd.prog.wantsStandIn 24 = false by kernel_rfl)
  · exact (show Tryd.prog.wantsStandIn 25 = false by kernel_rfl)
/-- The card. -/
theorem naturalSubstitutes_card : Rows.NaturalSubstitutesCardSaid :=
  Claim7.holds_tied_plain_at .later [] _ _ _ _ naturalSubstitutes_said (fun _ h => by cases h) (by kernel_rfl) (fun _ h => by cases h) naturalSubstitutes_row_tie rfl ⟨rfl, rfl⟩ (by kernel_rfl) rfl naturalSubstitutes_plain (by kernel_rfl)
end Go.Proofs.YtohoddkcpfamlaaDoor
