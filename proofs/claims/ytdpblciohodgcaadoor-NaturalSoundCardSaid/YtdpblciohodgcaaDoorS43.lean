/- The program's Fits and request. -/
import Derived.Test.YtdpblciohodgcaaDoorS40
import Derived.Test.YtdpblciohodgcaaDoorS42
import Derived.Test.YtdpblciohodgcaaDoorS39
import Derived.Deep.MidRow

namespace Go.Proofs.YtdpblciohodgcaaDoor
open Go.RowKit

theorem div_zero_test (m n : Nat) : ((m : Int) / 2 ^ n == 0) = decide (m < 2 ^ n) := by
  have e : ((m : Int) / 2 ^ n) = ((m / 2 ^ n : Nat) : Int) := by simp
  rw [e, Bool.eq_iff_iff, beq_iff_eq, decide_eq_true_eq]
  have := Nat.div_eq_zero_iff (a := m) (b := 2 ^ n)
  have hp := Nat.two_pow_pos n
  omega
theorem fit_lt {m k a : Nat} (hm : m < 2 ^ k) : (List.range k).all (fitA a m) = decide (m < 2 ^ a) := by
  rw [Bool.eq_iff_iff, List.all_eq_true, decide_eq_true_eq]
  refine ⟨fun h => low_bits fun i hi => ?_, fun h i hi => ?_⟩
  · have h2 := h i (List.mem_range.2 (bit_lt hm hi))
    unfold fitA at h2
    rw [hi] at h2
    simpa using h2
  · unfold fitA
    cases hb : m.testBit i
    · rfl
    · rw [decide_eq_true (bit_lt h hb)]; rfl
set_option maxRecDepth 100000 in
set_option maxHeartbeats 4000000 in
theorem pBelow_any (m n : Nat) (w : World) (_hm : m < 512) (hn : n ≤ 8) : Calls Tryd.prog 75 #[.int .i64 (m : Int), .int .i64 (n : Int)] w fun e w' => e = .returned (.bool (decide (m < 2 ^ n))) ∧ w = w' := by
  have hn31 : ¬ (31 : Int) ≤ (n : Int) := by omega
  have hmax : max (n : Int) 0 = (n : Int) := by omega
  have hmin : min n 64 = n := by omega
  have HD := Lib.hid (div_zero_test m n)
  go_enter Tryd.func75, Tryd.ntmps75
  go_wp2_with fail
  go_ret
  exact ⟨by rw [← HD.out] <;> rfl, rfl⟩
set_option maxRecDepth 100000 in
set_option maxHeartbeats 2000000 in
theorem pFits_any (v : Value) (f : List Nd) (a b : Nat) (w : World) (h : Fml w v f) (ha : a ≤ 4) (hb : b ≤ 8) :
    Calls Tryd.prog 69 #[v, .int .i64 (a : Int), .int .i64 (b : Int)] w fun e w' => e = .returned (.bool (fitsN f a b)) ∧ Ext w w' := by
  have H := Lib.hid h
  clear h
  by_cases hc : check f = 0
  · have HC := Lib.hid hc
    have hh := (compactN_props hc).2.2.2
    have hma : agentsM (compactN f) < 2 ^ 4 := agents_lt _ 0 hh (by decide)
    have hmf : factsM (compactN f) < 2 ^ 8 := facts_lt _ 0 hh (by decide)
    have HF := Lib.hid (show fitsN f a b = (decide (agentsM (compactN f) < 2 ^ a) && decide (factsM (compactN f) < 2 ^ b)) by
      unfold fitsN
      rw [fit_lt hma, fit_lt hmf, HC.out]
      rfl)
    have HA := Lib.hid (fun (w : World) (h : Fml w v f) => agentsF_any v f w h hc)
    have HB := Lib.hid (fun (w : World) (h : Fml w v f) => factsF_any v f w h hc)
    obtain ⟨ma, hmae⟩ : ∃ m, m = agentsM (compactN f) := ⟨_, rfl⟩
    obtain ⟨mf, hmfe⟩ : ∃ m, m = factsM (compactN f) := ⟨_, rfl⟩
    rw [← hmae] at hma HF HA
    rw [← hmfe] at hmf HF HB
    have hma5 : ma < 512 := by omega
    have hmf5 : mf < 512 := by omega
    clear hmae hmfe hma hmf hh hc
    cases hd : decide (ma < 2 ^ a)
    · have HD := Lib.hid hd
      have HE := Lib.hid (show fitsN f a b = false by rw [HF.out, HD.out]; rfl)
      clear hd
      go_enter Tryd.func69, Tryd.ntmps69
      go_wp2_with (first | (go_at_call 25; refine (check_any _ f _ H.out.1).mono ?_; rintro e w1 ⟨rfl, hx1⟩; rw [HC.out]; have HX1 := Lib.hid hx1; clear hx1) | (go_at_call 76; refine (HA.out _ (H.out.ext HX1.out)).mono ?_; rintro e w2 ⟨rfl, hx2⟩; have HX2 := Lib.hid (HX1.out.trans hx2); clear hx2) | (go_at_call 75; refine (pBelow_any ma a _ hma5 (by omega)).mono ?_; rintro e w3 ⟨rfl, rfl⟩; rw [HD.out]))
      go_ret
      exact ⟨by rw [HE.out] <;> rfl, HX2.out⟩
    · have HD := Lib.hid hd
      have HE := Lib.hid (show fitsN f a b = decide (mf < 2 ^ b) by rw [HF.out, HD.out]; rfl)
      clear hd
      go_enter Tryd.func69, Tryd.ntmps69
      go_wp2_with (first | (go_at_call 25; refine (check_any _ f _ H.out.1).mono ?_; rintro e w1 ⟨rfl, hx1⟩; rw [HC.out]; have HX1 := Lib.hid hx1; clear hx1) | (go_at_call 76; refine (HA.out _ (H.out.ext HX1.out)).mono ?_; rintro e w2 ⟨rfl, hx2⟩; have HX2 := Lib.hid (HX1.out.trans hx2); clear hx2) | (go_at_call 77; refine (HB.out _ (H.out.ext HX2.out)).mono ?_; rintro e w4 ⟨rfl, hx4⟩; have HX4 := Lib.hid (HX2.out.trans hx4); clear hx4) | (go_at_call 75; refine (pBelow_any _ _ _ (by first | with_reducible exact hma5 | with_reducible exact hmf5) (by omega)).mono ?_; rintro e w3 ⟨rfl, rfl⟩; try rw [HD.out]))
      go_ret
      exact ⟨by rw [HE.out] <;> rfl, HX4.out⟩
  · have HE := Lib.hid (show fitsN f a b = false by
      unfold fitsN
      rw [show (check f == 0) = false by simpa using hc]
      rfl)
    obtain ⟨z, hz⟩ : ∃ z, z = check f := ⟨_, rfl⟩
    have HZ := Lib.hid hz
    rw [← hz] at hc
    have hne : (z == 0) = false := by simpa using hc
    clear hc hz
    go_enter Tryd.func69, Tryd.ntmps69
    go_wp2_with (go_at_call 25; refine (check_any _ f _ H.out.1).mono ?_; rintro e w1 ⟨rfl, hx1⟩; rw [← HZ.out]; have HX1 := Lib.hid hx1; clear hx1)
    go_ret
    exact ⟨by rw [HE.out] <;> rfl, HX1.out⟩
end Go.Proofs.YtdpblciohodgcaaDoor

/- The program's checker: request. -/

namespace Go.Proofs.YtdpblciohodgcaaDoor
open Go.RowKit

set_option maxRecDepth 100000 in
set_option maxHeartbeats 4000000 in
theorem pReq_any (vm v : Value) (md : Md) (f : List Nd) (w : World) (hm : MdV w vm md) (hok : md.ok) (h : Fml w v f) :
    Calls Tryd.prog 60 #[vm, v] w fun e w' => e = .returned (.int .i64 (chk17 md f)) ∧ Ext w w' := by
  have HM := Lib.hid hm
  have HOK := Lib.hid hok
  have HF := Lib.hid h
  obtain ⟨vv, vr, rfl, hv, hr⟩ := hm
  obtain ⟨Av, cv, rfl, _⟩ := hv
  obtain ⟨Ar, cr, rfl, _⟩ := hr
  obtain ⟨c1, hc1⟩ : ∃ z, z = checkM md := ⟨_, rfl⟩
  have HC1 := Lib.hid hc1
  obtain ⟨c2, hc2⟩ : ∃ z, z = check f := ⟨_, rfl⟩
  have HC2 := Lib.hid hc2
  clear h hok
  by_cases h1 : c1 = 0
  · have hz := checkM_zero (show checkM md = 0 by rw [← HC1.out]; exact h1)
    have hr4 := hz.2.2.1
    have hv8 := hz.2.2.2.1
    subst h1
    clear hz hc1
    by_cases h2 : c2 = 0
    · subst h2
      obtain ⟨hs1, hs2⟩ := static_test f
      clear hs1 hc2
      cases hsb : subS (fragsN f) 15
      · rw [hsb] at hs2
        have HE := Lib.hid (show chk17 md f = 10 by unfold chk17; rw [if_neg (by rw [← HC1.out]; simp), if_neg (by rw [← HC2.out]; simp), if_pos hsb])
        clear hsb
        go_enter Tryd.func60, Tryd.ntmps60
        go_wp2_with (first | (go_at_call 19; refine (pCheck13_any _ md _ (HM.out.ext (by repeat (first | exact Ext.refl _ | assumption | apply Ext.alloc | apply Ext.drew))) HOK.out).mono ?_; rintro e w1 ⟨rfl, hx1⟩; rw [← HC1.out]; have HX1 := Lib.hid (((Ext.refl w).alloc _).trans hx1); have hc1 : w1.cell? ⟨w.heap.size, 1, none⟩ = some (.slice Av md.val.length cv) := (hx1.cell (p := ⟨w.heap.size, 1, none⟩) (by simp)).trans (by simp); have hc2 : w1.cell? ⟨w.heap.size, 2, none⟩ = some (.slice Ar md.rel.length cr) := (hx1.cell (p := ⟨w.heap.size, 2, none⟩) (by simp)).trans (by simp); have hb1 : w.heap.size < w1.heap.size := Nat.lt_of_lt_of_le (by simp) hx1.size; clear hx1) | (go_at_call 25; refine (check_any _ f _ (HF.out.ext HX1.out).1).mono ?_; rintro e w2 ⟨rfl, hx2⟩; rw [← HC2.out]; have HX2 := Lib.hid (HX1.out.trans hx2); have hd1 := (hx2.cell (p := ⟨w.heap.size, 1, none⟩) hb1).trans hc1; have hd2 := (hx2.cell (p := ⟨w.heap.size, 2, none⟩) hb1).trans hc2; have hb2 := Nat.lt_of_lt_of_le hb1 hx2.size; clear hx2) | (go_at_call 26; refine (frags_any _ f _ (HF.out.ext HX2.out)).mono ?_; rintro e w3 ⟨rfl, hx3⟩; have HX3 := Lib.hid (HX2.out.trans hx3); have he1 := (hx3.cell (p := ⟨w.heap.size, 1, none⟩) hb2).trans hd1; have he2 := (hx3.cell (p := ⟨w.heap.size, 2, none⟩) hb2).trans hd2; clear hx3))
        go_ret
        exact ⟨by rw [HE.out] <;> rfl, HX3.out⟩
      · rw [hsb] at hs2
        cases hfi : fitsN f md.rel.length md.val.length
        · have HE := Lib.hid (show chk17 md f = 2 by unfold chk17; rw [if_neg (by rw [← HC1.out]; simp), if_neg (by rw [← HC2.out]; simp), if_neg (by rw [hsb]; simp), if_pos hfi])
          have HFI := Lib.hid hfi
          clear hsb hfi
          go_enter Tryd.func60, Tryd.ntmps60
          go_wp2_with (first | (go_at_call 19; refine (pCheck13_any _ md _ (HM.out.ext (by repeat (first | exact Ext.refl _ | assumption | apply Ext.alloc | apply Ext.drew))) HOK.out).mono ?_; rintro e w1 ⟨rfl, hx1⟩; rw [← HC1.out]; have HX1 := Lib.hid (((Ext.refl w).alloc _).trans hx1); have hc1 : w1.cell? ⟨w.heap.size, 1, none⟩ = some (.slice Av md.val.length cv) := (hx1.cell (p := ⟨w.heap.size, 1, none⟩) (by simp)).trans (by simp); have hc2 : w1.cell? ⟨w.heap.size, 2, none⟩ = some (.slice Ar md.rel.length cr) := (hx1.cell (p := ⟨w.heap.size, 2, none⟩) (by simp)).trans (by simp); have hb1 : w.heap.size < w1.heap.size := Nat.lt_of_lt_of_le (by simp) hx1.size; clear hx1) | (go_at_call 25; refine (check_any _ f _ (HF.out.ext HX1.out).1).mono ?_; rintro e w2 ⟨rfl, hx2⟩; rw [← HC2.out]; have HX2 := Lib.hid (HX1.out.trans hx2); have hd1 := (hx2.cell (p := ⟨w.heap.size, 1, none⟩) hb1).trans hc1; have hd2 := (hx2.cell (p := ⟨w.heap.size, 2, none⟩) hb1).trans hc2; have hb2 := Nat.lt_of_lt_of_le hb1 hx2.size; clear hx2) | (go_at_call 26; refine (frags_any _ f _ (HF.out.ext HX2.out)).mono ?_; rintro e w3 ⟨rfl, hx3⟩; have HX3 := Lib.hid (HX2.out.trans hx3); have he1 := (hx3.cell (p := ⟨w.heap.size, 1, none⟩) hb2).trans hd1; have he2 := (hx3.cell (p := ⟨w.heap.size, 2, none⟩) hb2).trans hd2; clear hx3) | (go_at_call 69; refine (pFits_any _ f md.rel.length md.val.length _ (HF.out.ext HX3.out) hr4 hv8).mono ?_; rintro e w4 ⟨rfl, hx4⟩; rw [HFI.out]; have HX4 := Lib.hid (HX3.out.trans hx4); clear hx4))
          go_ret
          exact ⟨by rw [HE.out] <;> rfl, HX4.out⟩
        · have HE := Lib.hid (show chk17 md f = 0 by unfold chk17; rw [if_neg (by rw [← HC1.out]; simp), if_neg (by rw [← HC2.out]; simp), if_neg (by rw [hsb]; simp), if_neg (by rw [hfi]; simp)])
          have HFI := Lib.hid hfi
          clear hsb hfi
          go_enter Tryd.func60, Tryd.ntmps60
          go_wp2_with (first | (go_at_call 19; refine (pCheck13_any _ md _ (HM.out.ext (by repeat (first | exact Ext.refl _ | assumption | apply Ext.alloc | apply Ext.drew))) HOK.out).mono ?_; rintro e w1 ⟨rfl, hx1⟩; rw [← HC1.out]; have HX1 := Lib.hid (((Ext.refl w).alloc _).trans hx1); have hc1 : w1.cell? ⟨w.heap.size, 1, none⟩ = some (.slice Av md.val.length cv) := (hx1.cell (p := ⟨w.heap.size, 1, none⟩) (by simp)).trans (by simp); have hc2 : w1.cell? ⟨w.heap.size, 2, none⟩ = some (.slice Ar md.rel.length cr) := (hx1.cell (p := ⟨w.heap.size, 2, none⟩) (by simp)).trans (by simp); have hb1 : w.heap.size < w1.heap.size := Nat.lt_of_lt_of_le (by simp) hx1.size; clear hx1) | (go_at_call 25; refine (check_any _ f _ (HF.out.ext HX1.out).1).mono ?_; rintro e w2 ⟨rfl, hx2⟩; rw [← HC2.out]; have HX2 := Lib.hid (HX1.out.trans hx2); have hd1 := (hx2.cell (p := ⟨w.heap.size, 1, none⟩) hb1).trans hc1; have hd2 := (hx2.cell (p := ⟨w.heap.size, 2, none⟩) hb1).trans hc2; have hb2 := Nat.lt_of_lt_of_le hb1 hx2.size; clear hx2) | (go_at_call 26; refine (frags_any _ f _ (HF.out.ext HX2.out)).mono ?_; rintro e w3 ⟨rfl, hx3⟩; have HX3 := Lib.hid (HX2.out.trans hx3); have he1 := (hx3.cell (p := ⟨w.heap.size, 1, none⟩) hb2).trans hd1; have he2 := (hx3.cell (p := ⟨w.heap.size, 2, none⟩) hb2).trans hd2; clear hx3) | (go_at_call 69; refine (pFits_any _ f md.rel.length md.val.length _ (HF.out.ext HX3.out) hr4 hv8).mono ?_; rintro e w4 ⟨rfl, hx4⟩; rw [HFI.out]; have HX4 := Lib.hid (HX3.out.trans hx4); clear hx4))
          go_ret
          exact ⟨by rw [HE.out] <;> rfl, HX4.out⟩
    · have hne : (c2 != 0) = true := by simpa using h2
      have HE := Lib.hid (show chk17 md f = c2 by unfold chk17; rw [if_neg (by rw [← HC1.out]; simp), if_pos (by rw [← HC2.out]; exact h2), HC2.out])
      clear h2 hc2
      go_enter Tryd.func60, Tryd.ntmps60
      go_wp2_with (first | (go_at_call 19; refine (pCheck13_any _ md _ (HM.out.ext (by repeat (first | exact Ext.refl _ | assumption | apply Ext.alloc | apply Ext.drew))) HOK.out).mono ?_; rintro e w1 ⟨rfl, hx1⟩; rw [← HC1.out]; have HX1 := Lib.hid (((Ext.refl w).alloc _).trans hx1); have hc1 : w1.cell? ⟨w.heap.size, 1, none⟩ = some (.slice Av md.val.length cv) := (hx1.cell (p := ⟨w.heap.size, 1, none⟩) (by simp)).trans (by simp); have hc2 : w1.cell? ⟨w.heap.size, 2, none⟩ = some (.slice Ar md.rel.length cr) := (hx1.cell (p := ⟨w.heap.size, 2, none⟩) (by simp)).trans (by simp); have hb1 : w.heap.size < w1.heap.size := Nat.lt_of_lt_of_le (by simp) hx1.size; clear hx1) | (go_at_call 25; refine (check_any _ f _ (HF.out.ext HX1.out).1).mono ?_; rintro e w2 ⟨rfl, hx2⟩; rw [← HC2.out]; have HX2 := Lib.hid (HX1.out.trans hx2); have hd1 := (hx2.cell (p := ⟨w.heap.size, 1, none⟩) hb1).trans hc1; have hd2 := (hx2.cell (p := ⟨w.heap.size, 2, none⟩) hb1).trans hc2; have hb2 := Nat.lt_of_lt_of_le hb1 hx2.size; clear hx2))
      go_ret
      exact ⟨by rw [HE.out] <;> rfl, HX2.out⟩
  · have hne : (c1 != 0) = true := by simpa using h1
    have HE := Lib.hid (show chk17 md f = c1 by unfold chk17; rw [if_pos (by rw [← HC1.out]; exact h1), HC1.out])
    clear h1 hc1 hc2
    go_enter Tryd.func60, Tryd.ntmps60
    go_wp2_with (go_at_call 19; refine (pCheck13_any _ md _ (HM.out.ext (by repeat (first | exact Ext.refl _ | assumption | apply Ext.alloc | apply Ext.drew))) HOK.out).mono ?_; rintro e w1 ⟨rfl, hx1⟩; rw [← HC1.out]; have HX1 := Lib.hid (((Ext.refl w).alloc _).trans hx1); have hc1 : w1.cell? ⟨w.heap.size, 1, none⟩ = some (.slice Av md.val.length cv) := (hx1.cell (p := ⟨w.heap.size, 1, none⟩) (by simp)).trans (by simp); have hc2 : w1.cell? ⟨w.heap.size, 2, none⟩ = some (.slice Ar md.rel.length cr) := (hx1.cell (p := ⟨w.heap.size, 2, none⟩) (by simp)).trans (by simp); have hb1 : w.heap.size < w1.heap.size := Nat.lt_of_lt_of_le (by simp) hx1.size; clear hx1)
    go_ret
    exact ⟨by rw [HE.out] <;> rfl, HX1.out⟩
end Go.Proofs.YtdpblciohodgcaaDoor

/- Bit by bit: one node on words is one node of a tree (plain; under way). -/

namespace Go.Proofs.YtdpblciohodgcaaDoor

/-- The words of a model hold worlds only. -/
theorem rel_bits {md : Md} (h : checkM md = 0) (a : Nat) : ∀ u v, ((md.rel.getD a []).getD u 0).testBit v = true → u < md.n.toNat ∧ v < md.n.toNat := by
  intro u v hb
  by_cases ha : a < md.rel.length
  · have hm : md.rel.getD a [] ∈ md.rel := by
      rw [List.getD_eq_getElem?_getD, List.getElem?_eq_getElem ha]; exact List.getElem_mem _
    obtain ⟨hv, _⟩ := rel_valid h hm
    have hl := (checkM_zero h).2.2.2.2.1 _ hm
    have hl2 : (md.rel.getD a []).length = md.n.toNat := by omega
    by_cases hu : u < md.n.toNat
    · have := (GrwI.start (eu := true) hl2 (by rw [← hl2]; exact (valid_iff.1 hv).2)).lt u hu
      exact ⟨hu, bit_lt this hb⟩
    · rw [List.getD_eq_getElem?_getD, List.getElem?_eq_none (by omega)] at hb
      simp at hb
  · have e : md.rel.getD a [] = [] := by rw [List.getD_eq_getElem?_getD, List.getElem?_eq_none (by omega)]; rfl
    rw [e] at hb
    simp at hb
theorem grp_bits {md : Md} (h : checkM md = 0) (gn : Nat) : ∀ u v, (((List.range md.n.toNat).map (grpN md.rel gn false md.n.toNat)).getD u 0).testBit v = true → u < md.n.toNat ∧ v < md.n.toNat := by
  intro u v hb
  by_cases hu : u < md.n.toNat
  · rw [grp_get _ _ _ _ _ hu, grp_bit] at hb
    obtain ⟨a, _, _, h3⟩ := hb
    exact ⟨hu, (rel_bits h a u v h3).2⟩
  · rw [List.getD_eq_getElem?_getD, List.getElem?_eq_none (by simp; omega)] at hb
    simp at hb
/-- A word is what a tree says at the worlds. -/
def IsW (md : Md) (s : Nat) (t : Tr) : Prop := ∀ w : Fin md.n.toNat, s.testBit w.1 = true ↔ (kmOf md).sat t w
theorem box_sat {md : Md} (h : checkM md = 0) {n : Nd} {s : Nat} {t : Tr} (hi : 0 ≤ n.i ∧ n.i < md.rel.length) (hs : IsW md s t) (h9 : n.op = 9) : IsW md (boxN (md.rel.getD n.i.toNat []) md.n.toNat s) (.one n t) := by
  intro w
  rw [box_bit]
  show _ ↔ (if n.op = 4 then _ else if n.op = 9 then _ else _)
  rw [if_neg (by omega), if_pos h9]
  constructor
  · rintro ⟨_, hb⟩ v hv
    refine (hs v).1 (hb v.1 ?_)
    have hv' : (if 0 ≤ n.i ∧ n.i < md.rel.length then bitR (md.rel.getD n.i.toNat []) md.n.toNat w v else w = v) := hv
    rw [if_pos hi] at hv'
    exact hv'
  · intro hf
    refine ⟨w.2, fun v hv => ?_⟩
    have hvn := (rel_bits h n.i.toNat w.1 v hv).2
    refine (hs ⟨v, hvn⟩).2 (hf ⟨v, hvn⟩ ?_)
    show (if 0 ≤ n.i ∧ n.i < md.rel.length then bitR (md.rel.getD n.i.toNat []) md.n.toNat w ⟨v, hvn⟩ else _)
    rw [if_pos hi]
    exact hv
end Go.Proofs.YtdpblciohodgcaaDoor

/- Bit by bit: the diamond, the group and the common knowledge on words (plain; under way). -/

namespace Go.Proofs.YtdpblciohodgcaaDoor

theorem dia_sat {md : Md} (h : checkM md = 0) {n : Nd} {s : Nat} {t : Tr} (hi : 0 ≤ n.i ∧ n.i < md.rel.length) (hs : IsW md s t) (h9 : n.op = 10) :
    IsW md (difN (allW md.n.toNat) (boxN (md.rel.getD n.i.toNat []) md.n.toNat (difN (allW md.n.toNat) s))) (.one n t) := by
  intro w
  rw [dia_bit _ _ _ _ (fun v hv => (rel_bits h _ _ v hv).2)]
  show _ ↔ (if n.op = 4 then _ else if n.op = 9 then _ else if n.op = 10 then _ else _)
  rw [if_neg (by omega), if_neg (by omega), if_pos h9]
  constructor
  · rintro ⟨_, v, hv, hb⟩
    have hvn := (rel_bits h n.i.toNat w.1 v hv).2
    refine ⟨⟨v, hvn⟩, ?_, (hs ⟨v, hvn⟩).1 hb⟩
    show (if 0 ≤ n.i ∧ n.i < md.rel.length then bitR (md.rel.getD n.i.toNat []) md.n.toNat w ⟨v, hvn⟩ else _)
    rw [if_pos hi]
    exact hv
  · rintro ⟨v, hv, hb⟩
    have hv' : (if 0 ≤ n.i ∧ n.i < md.rel.length then bitR (md.rel.getD n.i.toNat []) md.n.toNat w v else w = v) := hv
    rw [if_pos hi] at hv'
    exact ⟨w.2, v.1, hv', (hs v).2 hb⟩
/-- A group's agents are of the model. -/
theorem grp_agent {md : Md} {g : Int} (hg : g.toNat < 2 ^ md.rel.length) {i : Nat} (hi : gbit g i = true) : i < md.rel.length := bit_lt hg hi
theorem kmR {md : Md} {i : Nat} (hi : i < md.rel.length) (u v : Fin md.n.toNat) : (kmOf md).R (i : Int) u v ↔ ((md.rel.getD i []).getD u.1 0).testBit v.1 = true := by
  show (if 0 ≤ (i : Int) ∧ (i : Int) < md.rel.length then bitR (md.rel.getD (i : Int).toNat []) md.n.toNat u v else u = v) ↔ _
  rw [if_pos (by omega), Int.toNat_natCast]
  rfl
theorem grp_sat {md : Md} (h : checkM md = 0) {n : Nd} {s : Nat} {t : Tr} (hg : n.g.toNat < 2 ^ md.rel.length) (hs : IsW md s t) (h9 : n.op = 11) :
    IsW md (boxN ((List.range md.n.toNat).map (grpN md.rel n.g.toNat false md.n.toNat)) md.n.toNat s) (.one n t) := by
  intro w
  rw [box_bit]
  show _ ↔ (if n.op = 4 then _ else if n.op = 9 then _ else if n.op = 10 then _ else if n.op = 11 then _ else _)
  rw [if_neg (by omega), if_neg (by omega), if_neg (by omega), if_pos h9, grp_get _ _ _ _ _ w.2]
  have h4 := (checkM_zero h).2.2.1
  constructor
  · rintro ⟨_, hb⟩ i hi hgi v hv
    exact (hs v).1 (hb v.1 ((grp_bit ..).2 ⟨i, grp_agent hg hgi, hgi, (kmR (grp_agent hg hgi) w v).1 hv⟩))
  · intro hf
    refine ⟨w.2, fun v hv => ?_⟩
    obtain ⟨i, hi, hgi, hr⟩ := (grp_bit ..).1 hv
    have hvn := (rel_bits h i w.1 v hr).2
    exact (hs ⟨v, hvn⟩).2 (hf i (by omega) hgi ⟨v, hvn⟩ ((kmR hi w ⟨v, hvn⟩).2 hr))
end Go.Proofs.YtdpblciohodgcaaDoor

/- Bit by bit: common knowledge on words (plain; under way). -/

namespace Go.Proofs.YtdpblciohodgcaaDoor

theorem step_words {md : Md} (h : checkM md = 0) {g : Int} {c : Nat} {t : Tr} (hg : g.toNat < 2 ^ md.rel.length) (hc : IsW md c t) (u v : Fin md.n.toNat) :
    stpW ((List.range md.n.toNat).map (grpN md.rel g.toNat false md.n.toNat)) c u.1 v.1 ↔ (kmOf md).step g ((kmOf md).sat t) u v := by
  unfold stpW KM.step
  rw [grp_get _ _ _ _ _ u.2, grp_bit, hc v]
  have h4 := (checkM_zero h).2.2.1
  refine and_congr ⟨?_, ?_⟩ Iff.rfl
  · rintro ⟨a, ha, hga, hr⟩
    exact ⟨a, by omega, hga, (kmR ha u v).2 hr⟩
  · rintro ⟨a, _, hga, hr⟩
    exact ⟨a, grp_agent hg hga, hga, (kmR (grp_agent hg hga) u v).1 hr⟩
theorem rch_up {md : Md} (h : checkM md = 0) {g : Int} {c : Nat} {t : Tr} (hg : g.toNat < 2 ^ md.rel.length) (hc : IsW md c t) {a b : Nat} (hr : Rch (stpW ((List.range md.n.toNat).map (grpN md.rel g.toNat false md.n.toNat)) c) a b) :
    ∀ (ha : a < md.n.toNat), ∃ hb : b < md.n.toNat, Rch ((kmOf md).step g ((kmOf md).sat t)) (⟨a, ha⟩ : Fin md.n.toNat) (⟨b, hb⟩ : Fin md.n.toNat) := by
  induction hr with
  | one hs => exact fun ha => ⟨(grp_bits h _ _ _ hs.1).2, .one ((step_words h hg hc ⟨_, ha⟩ ⟨_, (grp_bits h _ _ _ hs.1).2⟩).1 hs)⟩
  | cons hs _ ih =>
    intro ha
    obtain ⟨hb, hr2⟩ := ih (grp_bits h _ _ _ hs.1).2
    exact ⟨hb, .cons ((step_words h hg hc ⟨_, ha⟩ ⟨_, (grp_bits h _ _ _ hs.1).2⟩).1 hs) hr2⟩
theorem rch_down {md : Md} (h : checkM md = 0) {g : Int} {c : Nat} {t : Tr} (hg : g.toNat < 2 ^ md.rel.length) (hc : IsW md c t) {a b : Fin md.n.toNat} (hr : Rch ((kmOf md).step g ((kmOf md).sat t)) a b) :
    Rch (stpW ((List.range md.n.toNat).map (grpN md.rel g.toNat false md.n.toNat)) c) a.1 b.1 := by
  induction hr with
  | one hs => exact .one ((step_words h hg hc _ _).2 hs)
  | cons hs _ ih => exact .cons ((step_words h hg hc _ _).2 hs) ih
theorem common_sat {md : Md} (h : checkM md = 0) {n : Nd} {c s : Nat} {t1 t2 : Tr} (hg : n.g.toNat < 2 ^ md.rel.length) (hc : IsW md c t1) (hs : IsW md s t2) (h9 : n.op = 13) :
    IsW md (commonM ((List.range md.n.toNat).map (grpN md.rel n.g.toNat false md.n.toNat)) md.n.toNat c s) (.two n t1 t2) := by
  intro w
  unfold commonM
  rw [mask_bit, Bool.and_eq_true, decide_eq_true_iff, subS_iff]
  show _ ↔ (if n.op = 5 then _ else if n.op = 6 then _ else if n.op = 7 then _ else if n.op = 8 then _ else if n.op = 13 then _ else _)
  rw [if_neg (by omega), if_neg (by omega), if_neg (by omega), if_neg (by omega), if_pos h9]
  constructor
  · rintro ⟨_, hb⟩ v hv
    exact (hs v).1 (hb v.1 ((paths_bit (grp_bits h _)).2 (rch_down h hg hc hv)))
  · intro hf
    refine ⟨w.2, fun v hv => ?_⟩
    obtain ⟨hvn, hr⟩ := rch_up h hg hc ((paths_bit (grp_bits h _)).1 hv) w.2
    exact (hs ⟨v, hvn⟩).2 (hf ⟨v, hvn⟩ hr)
end Go.Proofs.YtdpblciohodgcaaDoor

/- Bit by bit: facts and the Booleans on words (plain; under way). -/

namespace Go.Proofs.YtdpblciohodgcaaDoor

theorem top_sat {md : Md} {n : Nd} (h : n.op = 1) (x y : Nat) : IsW md (boolN n.op x y (allW md.n.toNat)) (.leaf n) := by
  intro w
  show _ ↔ (n.op = 1 ∨ _)
  unfold boolN
  rw [if_pos h, allw_bit]
  exact ⟨fun _ => Or.inl h, fun _ => decide_eq_true w.2⟩
theorem bot_sat {md : Md} {n : Nd} (h : n.op = 2) (x y : Nat) : IsW md (boolN n.op x y (allW md.n.toNat)) (.leaf n) := by
  intro w
  show _ ↔ (n.op = 1 ∨ (n.op = 3 ∧ _))
  rw [h]
  show (boolN 2 x y (allW md.n.toNat)).testBit w.1 = true ↔ _
  rw [show boolN 2 x y (allW md.n.toNat) = 0 from rfl, Nat.zero_testBit]
  simp
theorem fact_sat {md : Md} {n : Nd} (h : n.op = 3) : IsW md (md.val.getD n.i.toNat 0) (.leaf n) := by
  intro w
  show _ ↔ (n.op = 1 ∨ (n.op = 3 ∧ (md.val.getD n.i.toNat 0).testBit w.1 = true))
  rw [h]
  simp
theorem not_sat {md : Md} {n : Nd} {x y : Nat} {t : Tr} (h : n.op = 4) (hx : IsW md x t) : IsW md (boolN n.op x y (allW md.n.toNat)) (.one n t) := by
  intro w
  show _ ↔ (if n.op = 4 then ¬ (kmOf md).sat t w else _)
  rw [if_pos h, ← hx w, h]
  show (difN (allW md.n.toNat) x).testBit w.1 = true ↔ _
  rw [dif_bit, allw_bit, decide_eq_true w.2]
  simp
theorem two_sat {md : Md} {n : Nd} {x y : Nat} {t1 t2 : Tr} (h : n.op = 5 ∨ n.op = 6 ∨ n.op = 7 ∨ n.op = 8) (hx : IsW md x t1) (hy : IsW md y t2) : IsW md (boolN n.op x y (allW md.n.toNat)) (.two n t1 t2) := by
  intro w
  have h1 := hx w
  have h2 := hy w
  show _ ↔ (if n.op = 5 then (kmOf md).sat t1 w ∧ (kmOf md).sat t2 w else if n.op = 6 then (kmOf md).sat t1 w ∨ (kmOf md).sat t2 w else if n.op = 7 then (kmOf md).sat t1 w → (kmOf md).sat t2 w else if n.op = 8 then ((kmOf md).sat t1 w ↔ (kmOf md).sat t2 w) else _)
  rw [← h1, ← h2]
  rcases h with h | h | h | h <;> rw [h]
  · show (x &&& y).testBit w.1 = true ↔ _
    rw [Nat.testBit_and]; cases x.testBit w.1 <;> cases y.testBit w.1 <;> simp
  · show (x ||| y).testBit w.1 = true ↔ _
    rw [Nat.testBit_or]; cases x.testBit w.1 <;> cases y.testBit w.1 <;> simp
  · show (difN (allW md.n.toNat) x ||| y).testBit w.1 = true ↔ _
    rw [Nat.testBit_or, dif_bit, allw_bit, decide_eq_true w.2]; cases x.testBit w.1 <;> cases y.testBit w.1 <;> simp
  · show (difN (allW md.n.toNat) (x ^^^ y)).testBit w.1 = true ↔ _
    rw [dif_bit, allw_bit, decide_eq_true w.2, Nat.testBit_xor]; cases x.testBit w.1 <;> cases y.testBit w.1 <;> simp
end Go.Proofs.YtdpblciohodgcaaDoor

/- Bit by bit: one node on words (plain). -/

namespace Go.Proofs.YtdpblciohodgcaaDoor

theorem node_sat {md : Md} (h : checkM md = 0) {n : Nd} {x y : Nat} {a b : Tr} (hf : FitNd md n) (h12 : n.op ≠ 12) (hx : hasX n.op = true → IsW md x a) (hy : hasY n.op = true → IsW md y b) :
    IsW md (oneN md n x y) (mkTr n a b) := by
  have ho : 1 ≤ n.op := by
    have := hf.head.1
    unfold isOp at this
    simp at this
    omega
  have h13 := hf.op
  obtain ⟨op, i, e, g, p, q⟩ := n
  have hc : op = 1 ∨ op = 2 ∨ op = 3 ∨ op = 4 ∨ (op = 5 ∨ op = 6 ∨ op = 7 ∨ op = 8) ∨ op = 9 ∨ op = 10 ∨ op = 11 ∨ op = 13 := by
    simp at h12 ho h13; omega
  rcases hc with rfl | rfl | rfl | rfl | hc | rfl | rfl | rfl | rfl
  · exact top_sat (n := ⟨1, i, e, g, p, q⟩) rfl x y
  · exact bot_sat (n := ⟨2, i, e, g, p, q⟩) rfl x y
  · exact fact_sat (n := ⟨3, i, e, g, p, q⟩) rfl
  · exact not_sat (n := Nd.head ⟨4, i, e, g, p, q⟩) (y := y) rfl (hx rfl)
  · rcases hc with rfl | rfl | rfl | rfl
    · exact two_sat (n := Nd.head ⟨5, i, e, g, p, q⟩) (Or.inl rfl) (hx rfl) (hy rfl)
    · exact two_sat (n := Nd.head ⟨6, i, e, g, p, q⟩) (Or.inr (Or.inl rfl)) (hx rfl) (hy rfl)
    · exact two_sat (n := Nd.head ⟨7, i, e, g, p, q⟩) (Or.inr (Or.inr (Or.inl rfl))) (hx rfl) (hy rfl)
    · exact two_sat (n := Nd.head ⟨8, i, e, g, p, q⟩) (Or.inr (Or.inr (Or.inr rfl))) (hx rfl) (hy rfl)
  · exact box_sat h (n := Nd.head ⟨9, i, e, g, p, q⟩) ⟨(head_agent hf.head rfl).1, hf.agent (Or.inl rfl)⟩ (hx rfl) rfl
  · exact dia_sat h (n := Nd.head ⟨10, i, e, g, p, q⟩) ⟨(head_agent hf.head rfl).1, hf.agent (Or.inr rfl)⟩ (hx rfl) rfl
  · exact grp_sat h (n := Nd.head ⟨11, i, e, g, p, q⟩) (hf.group (show (11 : Int) ≤ 11 by decide)).2 (hx rfl) rfl
  · exact common_sat h (n := Nd.head ⟨13, i, e, g, p, q⟩) (hf.group (show (11 : Int) ≤ 13 by decide)).2 (hx rfl) (hy rfl) rfl
end Go.Proofs.YtdpblciohodgcaaDoor

/- The sets along a list: what a place holds stays (plain). -/

namespace Go.Proofs.YtdpblciohodgcaaDoor

end Go.Proofs.YtdpblciohodgcaaDoor

/- What the program's checker reckons for each node of a formula, with the flag that the node is fine; plain. -/

namespace Go.Proofs.YtdpblciohodgcaaDoor
open Go.RowKit

/-- Whether a node's operands are fine. -/
def okP (n : Nd) (fi : List Bool) : Bool :=
  (!decide (4 ≤ n.op) || fi.getD n.x.toNat false) && (!((decide (5 ≤ n.op) && decide (n.op ≤ 8)) || n.op == 13) || fi.getD n.y.toNat false)
def atP (md : Md) (f : List Nd) (out : List Nat) (fi : List Bool) (k : Nat) : Nat × Bool :=
  if okP (f.getD k Nd.zero) fi = true then (valP md (f.getD k Nd.zero) (out.getD (f.getD k Nd.zero).x.toNat 0) (out.getD (f.getD k Nd.zero).y.toNat 0), fineP md (f.getD k Nd.zero)) else (0, false)
def setsP (md : Md) (f : List Nd) : Nat → List Nat × List Bool
  | 0 => ([], [])
  | k + 1 => ((setsP md f k).1 ++ [(atP md f (setsP md f k).1 (setsP md f k).2 k).1], (setsP md f k).2 ++ [(atP md f (setsP md f k).1 (setsP md f k).2 k).2])
theorem setsP_len (md : Md) (f : List Nd) : ∀ k, (setsP md f k).1.length = k ∧ (setsP md f k).2.length = k
  | 0 => ⟨rfl, rfl⟩
  | k + 1 => by
    obtain ⟨h1, h2⟩ := setsP_len md f k
    unfold setsP
    exact ⟨by simp [h1], by simp [h2]⟩
theorem setsP_at (md : Md) (f : List Nd) : ∀ (m k : Nat), k < m → (setsP md f m).1.getD k 0 = (atP md f (setsP md f k).1 (setsP md f k).2 k).1 ∧ (setsP md f m).2.getD k false = (atP md f (setsP md f k).1 (setsP md f k).2 k).2
  | 0, k, h => absurd h (Nat.not_lt_zero _)
  | m + 1, k, h => by
    obtain ⟨h1, h2⟩ := setsP_len md f m
    by_cases hk : k < m
    · have := setsP_at md f m k hk
      rw [← this.1, ← this.2]
      constructor
      · show ((setsP md f m).1 ++ _).getD k 0 = _
        rw [List.getD_eq_getElem?_getD, List.getD_eq_getElem?_getD, List.getElem?_append_left (by omega)]
      · show ((setsP md f m).2 ++ _).getD k false = _
        rw [List.getD_eq_getElem?_getD, List.getD_eq_getElem?_getD, List.getElem?_append_left (by omega)]
    · obtain rfl : k = m := by omega
      constructor
      · show ((setsP md f k).1 ++ _).getD k 0 = _
        rw [List.getD_eq_getElem?_getD, List.getElem?_append_right (by omega), h1, Nat.sub_self]
        rfl
      · show ((setsP md f k).2 ++ _).getD k false = _
        rw [List.getD_eq_getElem?_getD, List.getElem?_append_right (by omega), h2, Nat.sub_self]
        rfl
theorem fine_fit {md : Md} {n : Nd} (hh : headOk n) (h : fineP md n = true) (hg : 11 ≤ n.op → n.op ≤ 13 → 1 ≤ n.g) : FitNd md n := by
  have hop := (isOp_iff n.op).1 hh.1
  unfold fineP at h
  refine ⟨hh, ?_, fun ho => ?_, fun ho => ?_, fun ho => ?_⟩
  · by_cases h3 : n.op = 3
    · omega
    · rw [if_neg h3] at h
      by_cases h8 : n.op ≤ 8
      · omega
      · rw [if_neg h8] at h
        by_cases h10 : n.op ≤ 10
        · omega
        · rw [if_neg h10] at h
          by_cases h13 : n.op ≤ 13
          · exact h13
          · rw [if_neg h13] at h; cases h
  · rw [if_pos ho] at h; exact of_decide_eq_true h
  · rw [if_neg (by omega), if_neg (by omega), if_pos (by omega)] at h; exact of_decide_eq_true h
  · rw [if_neg (by omega), if_neg (by omega), if_neg (by omega)] at h
    by_cases h13 : n.op ≤ 13
    · rw [if_pos h13] at h
      have h2 := of_decide_eq_true h
      have hg1 := hg ho h13
      exact ⟨hg1, by omega⟩
    · rw [if_neg h13] at h; cases h
theorem getD_ofP {f : List Nd} {k : Nat} {n : Nd} (h : f[k]? = some n) : f.getD k Nd.zero = n := by rw [List.getD_eq_getElem?_getD, h]; rfl
end Go.Proofs.YtdpblciohodgcaaDoor

/- A formula that fits a model: each part of its canonical list does (plain). -/

namespace Go.Proofs.YtdpblciohodgcaaDoor

theorem frag_src : ∀ (l : List Nd) (s i : Nat), (l.foldl (fun s n => s ||| (fragOf n.op).toNat) s).testBit i = true → s.testBit i = true ∨ ∃ n ∈ l, (fragOf n.op).toNat.testBit i = true
  | [], _, _, h => Or.inl h
  | a :: l, s, i, h => by
    rcases frag_src l (s ||| (fragOf a.op).toNat) i h with h1 | ⟨n, hn, h2⟩
    · rw [Nat.testBit_or, Bool.or_eq_true] at h1
      rcases h1 with h1 | h1
      · exact Or.inl h1
      · exact Or.inr ⟨a, List.mem_cons_self .., h1⟩
    · exact Or.inr ⟨n, List.mem_cons_of_mem _ hn, h2⟩
theorem ag_src : ∀ (l : List Nd) (s i : Nat), (l.foldl agS s).testBit i = true → s.testBit i = true ∨ ∃ n ∈ l, (hasAgent n.op = true ∧ i = n.i.toNat) ∨ n.g.toNat.testBit i = true
  | [], _, _, h => Or.inl h
  | a :: l, s, i, h => by
    rcases ag_src l (agS s a) i h with h1 | ⟨n, hn, h2⟩
    · unfold agS at h1
      rw [Nat.testBit_or, Nat.testBit_or, Bool.or_eq_true, Bool.or_eq_true] at h1
      rcases h1 with (h1 | h1) | h1
      · exact Or.inl h1
      · refine Or.inr ⟨a, List.mem_cons_self .., Or.inl ?_⟩
        cases ha : hasAgent a.op
        · rw [ha, if_neg (by simp), Nat.zero_testBit] at h1; cases h1
        · rw [ha, if_pos rfl, Nat.testBit_two_pow, decide_eq_true_iff] at h1
          exact ⟨rfl, h1.symm⟩
      · exact Or.inr ⟨a, List.mem_cons_self .., Or.inr h1⟩
    · exact Or.inr ⟨n, List.mem_cons_of_mem _ hn, h2⟩
theorem fa_src : ∀ (l : List Nd) (s i : Nat), (l.foldl faS s).testBit i = true → s.testBit i = true ∨ ∃ n ∈ l, n.op = 3 ∧ i = n.i.toNat
  | [], _, _, h => Or.inl h
  | a :: l, s, i, h => by
    rcases fa_src l (faS s a) i h with h1 | ⟨n, hn, h2⟩
    · unfold faS at h1
      by_cases ho : a.op = 3
      · rw [if_pos ho, Nat.testBit_or, Bool.or_eq_true, Nat.testBit_two_pow, decide_eq_true_iff] at h1
        rcases h1 with h1 | h1
        · exact Or.inl h1
        · exact Or.inr ⟨a, List.mem_cons_self .., ho, h1.symm⟩
      · rw [if_neg ho] at h1
        exact Or.inl h1
    · exact Or.inr ⟨n, List.mem_cons_of_mem _ hn, h2⟩
/-- The nodes of a part's list are nodes of the list, but for their operands. -/
theorem part_heads {c : List Nd} (hc : check c = 0) {k : Nat} (hk : k < c.length) : ∀ n ∈ canon (tr c k), ∃ m ∈ c, m.head = n.head := by
  have hP : ∀ (n : Nd) (k1 k2 : Nat), (∃ m ∈ c, m.head = n.head) → ∃ m ∈ c, m.head = (n.with_ k1 k2).head := fun n k1 k2 ⟨m, hm, h⟩ => ⟨m, hm, by rw [with_head]; exact h⟩
  exact ins_all (P := fun n => ∃ m ∈ c, m.head = n.head) hP (tr c k) [] (tr_all (P := fun n => ∃ m ∈ c, m.head = n.head) hP (check_wf hc) (fun n hn => ⟨n, hn, rfl⟩) k hk) (fun n hn => by cases hn)
theorem fit_part {md : Md} {c : List Nd} (hc : check c = 0) (hcc : compactN c = c) (hs : subS (fragsN c) 15 = true) (hf : fitsN c md.rel.length md.val.length = true) {k : Nat} (hk : k < c.length) : fit17 md c (k : Int) = true := by
  have hg := (sub_props hc hk).2.1
  have htk : (tr c k).ok := tr_ok (check_wf hc) k hk
  have hce : compactN (subN c (k : Int)) = canon (tr c k) := by
    rw [compactN_tree hg, subN_tree hc hk, treeOf_canon htk]
  have hh := part_heads hc hk
  unfold fitsN at hf
  rw [Bool.and_eq_true, Bool.and_eq_true, List.all_eq_true, List.all_eq_true, hcc] at hf
  unfold fit17
  rw [Bool.and_eq_true]
  refine ⟨?_, ?_⟩
  · rw [subS_iff] at hs ⊢
    intro i hi
    unfold fragsN fragMask at hi
    rw [hce] at hi
    rcases frag_src _ _ _ hi with h | ⟨n, hn, h⟩
    · rw [Nat.zero_testBit] at h; cases h
    · obtain ⟨m, hm, e⟩ := hh n hn
      refine hs i ?_
      unfold fragsN fragMask
      rw [hcc]
      exact (frag_mem c 0).2 m hm i (by rw [(head_eqs e).1]; exact h)
  · unfold fitsN
    rw [Bool.and_eq_true, Bool.and_eq_true, List.all_eq_true, List.all_eq_true, hce]
    refine ⟨by rw [hg]; rfl, fun i hi => ?_, fun i hi => ?_⟩
    · have h1 := hf.2.1 i hi
      unfold fitA at h1 ⊢
      rw [Bool.or_eq_true] at h1 ⊢
      rcases h1 with h1 | h1
      · refine Or.inl ?_
        cases hb : (agentsM (canon (tr c k))).testBit i
        · rfl
        · exfalso
          rcases ag_src _ _ _ hb with h | ⟨n, hn, h⟩
          · rw [Nat.zero_testBit] at h; cases h
          · obtain ⟨m, hm, e⟩ := hh n hn
            have := (ag_mem c 0).2 m hm i (by rw [(head_eqs e).1, (head_eqs e).2.1, (head_eqs e).2.2]; exact h)
            unfold agentsM at h1
            rw [this] at h1; cases h1
      · exact Or.inr h1
    · have h1 := hf.2.2 i hi
      unfold fitA at h1 ⊢
      rw [Bool.or_eq_true] at h1 ⊢
      rcases h1 with h1 | h1
      · refine Or.inl ?_
        cases hb : (factsM (canon (tr c k))).testBit i
        · rfl
        · exfalso
          rcases fa_src _ _ _ hb with h | ⟨n, hn, h⟩
          · rw [Nat.zero_testBit] at h; cases h
          · obtain ⟨m, hm, e⟩ := hh n hn
            have := (fa_mem c 0).2 m hm i (by rw [(head_eqs e).1, (head_eqs e).2.1]; exact h)
            unfold factsM at h1
            rw [this] at h1; cases h1
      · exact Or.inr h1
end Go.Proofs.YtdpblciohodgcaaDoor

/- A formula that fits is fine at its last node; its set is where it holds. Plain. -/

namespace Go.Proofs.YtdpblciohodgcaaDoor
open Go.RowKit

def fineT (md : Md) : Tr → Bool
  | .leaf n => fineP md n
  | .one n a => fineP md n && fineT md a
  | .two n a b => fineP md n && (fineT md a && fineT md b)
theorem fineP_head (md : Md) (n : Nd) : fineP md n.head = fineP md n := rfl
theorem fineT_mk (md : Md) (n : Nd) (a b : Tr) : fineT md (mkTr n a b) = (fineP md n && ((!hasX n.op || fineT md a) && (!hasY n.op || fineT md b))) := by
  unfold mkTr
  cases hy : hasY n.op
  · cases hx : hasX n.op
    · simp [fineT]
    · simp [fineT, fineP_head]
  · have hx : hasX n.op = true := hasX_of_hasY hy
    simp [fineT, fineP_head, hx]
theorem fineP_op {md : Md} {n : Nd} (h : fineP md n = true) : n.op ≤ 13 := by
  unfold fineP at h
  by_cases h3 : n.op = 3
  · omega
  · rw [if_neg h3] at h
    by_cases h8 : n.op ≤ 8
    · omega
    · rw [if_neg h8] at h
      by_cases h10 : n.op ≤ 10
      · omega
      · rw [if_neg h10] at h
        by_cases h13 : n.op ≤ 13
        · exact h13
        · rw [if_neg h13] at h; cases h
theorem fine_tree {md : Md} {f : List Nd} (hc : check f = 0) : ∀ k, k < f.length → (atP md f (setsP md f k).1 (setsP md f k).2 k).2 = fineT md (tr f k) := by
  intro k
  induction k using Nat.strongRecOn with
  | _ k ih =>
    intro hk
    obtain ⟨n, hn⟩ : ∃ n, f[k]? = some n := ⟨_, List.getElem?_eq_getElem hk⟩
    obtain ⟨hx, hy⟩ := check_wf hc k n hn
    rw [tr_eq (check_wf hc) hn, fineT_mk]
    unfold atP
    rw [getD_ofP hn]
    cases hf : fineP md n
    · rw [Bool.false_and]
      split
      · rfl
      · rfl
    · have h13 := fineP_op hf
      have e : okP n (setsP md f k).2 = ((!hasX n.op || fineT md (tr f n.x.toNat)) && (!hasY n.op || fineT md (tr f n.y.toNat))) := by
        unfold okP
        congr 1
        · have e1 : decide (4 ≤ n.op) = hasX n.op := by unfold hasX; rw [decide_eq_true (show n.op ≤ 21 by omega), Bool.and_true]
          rw [e1]
          cases h : hasX n.op
          · rfl
          · have hb := hx h
            rw [(setsP_at md f k _ (by omega)).2, ih _ (by omega) (by omega)]
        · have e1 : ((decide (5 ≤ n.op) && decide (n.op ≤ 8)) || n.op == 13) = hasY n.op := by
            unfold hasY
            rw [show (n.op == 14) = false by simp; omega, show (n.op == 16) = false by simp; omega, show (n.op == 19) = false by simp; omega, show (n.op == 21) = false by simp; omega]
            simp
          rw [e1]
          cases h : hasY n.op
          · rfl
          · have hb := hy h
            rw [(setsP_at md f k _ (by omega)).2, ih _ (by omega) (by omega)]
      rw [← e, Bool.true_and]
      cases ho : okP n (setsP md f k).2
      · rfl
      · rfl
theorem fit_fine {md : Md} {n : Nd} (h : FitNd md n) : fineP md n = true := by
  unfold fineP
  by_cases h3 : n.op = 3
  · rw [if_pos h3]; exact decide_eq_true (h.fact h3)
  · rw [if_neg h3]
    by_cases h8 : n.op ≤ 8
    · rw [if_pos h8]
    · rw [if_neg h8]
      by_cases h10 : n.op ≤ 10
      · rw [if_pos h10]; exact decide_eq_true (h.agent (by omega))
      · rw [if_neg h10, if_pos h.op]
        have := h.group (by omega)
        exact decide_eq_true (by omega)
theorem fineT_all {md : Md} : ∀ {t : Tr}, t.all (fun n => fineP md n = true) → fineT md t = true
  | .leaf n, h => h
  | .one n a, h => by unfold fineT; rw [h.1, fineT_all h.2]; rfl
  | .two n a b, h => by unfold fineT; rw [h.1, fineT_all h.2.1, fineT_all h.2.2]; rfl
/-- A formula that the checker takes is fine. -/
theorem chk_fine {md : Md} {f : List Nd} (h : chk17 md f = 0) : fineT md (treeOf f) = true := by
  obtain ⟨hck, hc, hs, hf⟩ := chk17_zero h
  have h2 := compact_twice hc
  have hcc := compactN_check hc
  have hs2 : subS (fragsN (compactN f)) 15 = true := by unfold fragsN at hs ⊢; rw [h2]; exact hs
  have hf2 : fitsN (compactN f) md.rel.length md.val.length = true := by
    unfold fitsN at hf ⊢
    rw [h2, hcc]
    rw [hc] at hf
    exact hf
  rw [← treeOf_compact hc]
  refine fineT_all (tr_all (P := fun n => fineP md n = true) (fun n k1 k2 h => h) (check_wf hcc) (fun n hn => ?_) _ (by have := (check_parts hcc).1; omega))
  obtain ⟨k, hk⟩ := List.mem_iff_getElem?.1 hn
  have hkl := (List.getElem?_eq_some_iff.1 hk).1
  exact fit_fine (fit_nd hcc hk (fit_part hcc h2 hs2 hf2 hkl) (checkM_zero hck).2.2.1)
end Go.Proofs.YtdpblciohodgcaaDoor

/- A formula of the language without groups: the checker's set is where it holds. Plain. -/

namespace Go.Proofs.YtdpblciohodgcaaDoor
open Go.RowKit

theorem all_mk {n : Nd} {a b : Tr} (h : (mkTr n a b).all (fun n => n.op ≤ 10)) : n.op ≤ 10 ∧ (hasX n.op = true → a.all (fun n => n.op ≤ 10)) ∧ (hasY n.op = true → b.all (fun n => n.op ≤ 10)) := by
  unfold mkTr at h
  cases hy : hasY n.op
  · cases hx : hasX n.op
    · rw [hy, hx] at h; exact ⟨h, fun e => (by cases e), fun e => (by cases e)⟩
    · rw [hy, hx] at h; exact ⟨h.1, fun _ => h.2, fun e => (by cases e)⟩
  · rw [hy] at h; exact ⟨h.1, fun _ => h.2.1, fun _ => h.2.2⟩
/-- Where a node is fine, its set is where its formula holds. -/
theorem fine_isT {md : Md} {f : List Nd} (hck : checkM md = 0) (hc : check f = 0) (_h0 : True) : ∀ k, k < f.length → (tr f k).all (fun n => n.op ≤ 10) →
    (atP md f (setsP md f k).1 (setsP md f k).2 k).2 = true → IsW md (atP md f (setsP md f k).1 (setsP md f k).2 k).1 (tr f k) := by
  intro k
  induction k using Nat.strongRecOn with
  | _ k ih =>
    intro hk hall hfi
    obtain ⟨n, hn⟩ : ∃ n, f[k]? = some n := ⟨_, List.getElem?_eq_getElem hk⟩
    have hm := List.mem_of_getElem? hn
    have hh := heads_of hc n hm
    obtain ⟨hx, hy⟩ := check_wf hc k n hn
    unfold atP at hfi ⊢
    rw [getD_ofP hn] at hfi ⊢
    by_cases ho : okP n (setsP md f k).2 = true
    · rw [if_pos ho] at hfi ⊢
      have hfi2 : fineP md n = true := hfi
      rw [tr_eq (check_wf hc) hn]
      show IsW md (valP md n _ _) _
      unfold valP
      rw [if_pos hfi2]
      rw [tr_eq (check_wf hc) hn] at hall
      obtain ⟨h10, hax, hay⟩ := all_mk hall
      unfold okP at ho
      rw [Bool.and_eq_true] at ho
      refine node_sat hck (fine_fit hh hfi2 (fun h _ => absurd h (by omega))) (by omega) (fun h => ?_) (fun h => ?_)
      · have hb := hx h
        have h4 : 4 ≤ n.op := by unfold hasX at h; rw [Bool.and_eq_true] at h; exact of_decide_eq_true h.1
        have h5 := ho.1
        rw [decide_eq_true h4, Bool.not_true, Bool.false_or] at h5
        rw [(setsP_at md f k _ (by omega)).1]
        rw [(setsP_at md f k _ (by omega)).2] at h5
        exact ih _ (by omega) (by omega) (hax h) h5
      · have hb := hy h
        have h58 : 5 ≤ n.op ∧ n.op ≤ 8 := by
          unfold hasY at h
          simp only [Bool.or_eq_true, Bool.and_eq_true, decide_eq_true_eq, beq_iff_eq] at h
          omega
        have h5 := ho.2
        rw [decide_eq_true h58.1, decide_eq_true h58.2, Bool.and_true, Bool.true_or, Bool.not_true, Bool.false_or] at h5
        rw [(setsP_at md f k _ (by omega)).1]
        rw [(setsP_at md f k _ (by omega)).2] at h5
        exact ih _ (by omega) (by omega) (hay h) h5
    · rw [if_neg ho] at hfi; cases hfi
/-- The set of a formula. -/
def holdP (md : Md) (f : List Nd) : Nat := (setsP md f f.length).1.getD (f.length - 1) 0
theorem holdP_is {md : Md} {f : List Nd} (h : chk17 md f = 0) (hF : Few10 (compactN f)) : IsW md (holdP md f) (treeOf f) := by
  obtain ⟨hck, hc, _, _⟩ := chk17_zero h
  have hp := (check_parts hc).1
  have hcc := compactN_check hc
  have hall : (treeOf f).all (fun n => n.op ≤ 10) := by
    rw [← treeOf_compact hc]
    exact tr_all (P := fun n => n.op ≤ 10) (fun n k1 k2 h => h) (check_wf hcc) (fun n hn => (hF n hn).2) _ (by have := (check_parts hcc).1; omega)
  unfold holdP
  rw [(setsP_at md f f.length (f.length - 1) (by omega)).1]
  refine fine_isT hck hc trivial (f.length - 1) (by omega) hall ?_
  rw [fine_tree hc _ (by omega)]
  exact chk_fine h
end Go.Proofs.YtdpblciohodgcaaDoor

/- The checker's sets are sets of worlds. Plain. -/

namespace Go.Proofs.YtdpblciohodgcaaDoor
open Go.RowKit

theorem dif_low {a b n : Nat} (h : a < 2 ^ n) : difN a b < 2 ^ n := low_bits fun i hi => by
  rw [dif_bit, Bool.and_eq_true] at hi
  exact bit_lt h hi.1
theorem allw_low (n : Nat) : allW n < 2 ^ n := by
  unfold allW
  have := Nat.two_pow_pos n
  omega
theorem bool_low {op : Int} {x y n : Nat} (hx : x < 2 ^ n) (hy : y < 2 ^ n) : boolN op x y (allW n) < 2 ^ n := by
  have h := Nat.two_pow_pos n
  unfold boolN
  repeat' split
  · exact allw_low n
  · exact dif_low (allw_low n)
  · exact Nat.lt_of_le_of_lt Nat.and_le_left hx
  · exact Nat.or_lt_two_pow hx hy
  · exact Nat.or_lt_two_pow (dif_low (allw_low n)) hy
  · exact dif_low (allw_low n)
  · exact h
theorem one_low {md : Md} (hck : checkM md = 0) {n : Nd} {x y : Nat} (hx : x < 2 ^ md.n.toNat) (hy : y < 2 ^ md.n.toNat) : oneN md n x y < 2 ^ md.n.toNat := by
  unfold oneN
  split
  · have hb := (checkM_zero hck).2.2.2.2.2.1
    unfold beyondN at hb
    rw [List.any_eq_false] at hb
    rw [List.getD_eq_getElem?_getD]
    cases e : md.val[n.i.toNat]? with
    | none => exact Nat.two_pow_pos _
    | some s =>
      have := hb s (List.mem_of_getElem? e)
      simpa using this
  split
  · exact bool_low hx hy
  split
  · exact mask_lt _ _
  split
  · exact dif_low (allw_low _)
  split
  · exact mask_lt _ _
  split
  · exact mask_lt _ _
  · exact mask_lt _ _
theorem getD_low {l : List Nat} {b : Nat} (h : ∀ s ∈ l, s < b) (hb : 0 < b) (i : Nat) : l.getD i 0 < b := by
  rw [List.getD_eq_getElem?_getD]
  cases e : l[i]? with
  | none => exact hb
  | some s => exact h s (List.mem_of_getElem? e)
end Go.Proofs.YtdpblciohodgcaaDoor

/- The checker's sets are sets of worlds. Plain. -/

namespace Go.Proofs.YtdpblciohodgcaaDoor
open Go.RowKit

theorem valP_low {md : Md} (hck : checkM md = 0) {n : Nd} {x y : Nat} (hx : x < 2 ^ md.n.toNat) (hy : y < 2 ^ md.n.toNat) : valP md n x y < 2 ^ md.n.toNat := by
  unfold valP
  split
  · exact one_low hck hx hy
  · exact Nat.two_pow_pos _
theorem setsP_low {md : Md} (hck : checkM md = 0) (f : List Nd) : ∀ k, ∀ s ∈ (setsP md f k).1, s < 2 ^ md.n.toNat
  | 0, s, h => by cases h
  | k + 1, s, h => by
    have ih := setsP_low hck f k
    have h2 : s ∈ (setsP md f k).1 ++ [(atP md f (setsP md f k).1 (setsP md f k).2 k).1] := h
    rcases List.mem_append.1 h2 with h2 | h2
    · exact ih s h2
    · rw [List.mem_singleton.1 h2]
      unfold atP
      split
      · exact valP_low hck (getD_low ih (Nat.two_pow_pos _) _) (getD_low ih (Nat.two_pow_pos _) _)
      · exact Nat.two_pow_pos _
theorem holdP_low {md : Md} (hck : checkM md = 0) (f : List Nd) : holdP md f < 2 ^ md.n.toNat := getD_low (setsP_low hck f _) (Nat.two_pow_pos _) _
/-- All worlds: the word of all of them. -/
theorem all_eq {n s : Nat} (hs : s < 2 ^ n) (h : ∀ i, i < n → s.testBit i = true) : s = allW n := Nat.eq_of_testBit_eq fun i => by
  rw [allw_bit]
  by_cases hi : i < n
  · rw [h i hi, decide_eq_true hi]
  · rw [decide_eq_false hi]
    cases hb : s.testBit i
    · rfl
    · exact absurd (bit_lt hs hb) hi
end Go.Proofs.YtdpblciohodgcaaDoor

/- The program's Holds, from what Sets says. -/

namespace Go.Proofs.YtdpblciohodgcaaDoor
open Go.RowKit

/-- What Sets says. -/
def SetsSaid : Prop := ∀ (vm v : Value) (md : Md) (f : List Nd) (w : World), MdV w vm md → md.ok → Fml w v f →
  Calls Tryd.prog 40 #[vm, v] w fun e w' => ∃ u, e = .returned (.tuple #[u, .int .i64 (chk17 md f)]) ∧ Ext w w' ∧ Hid (chk17 md f = 0 → U64s w' u (setsP md f f.length).1)
set_option maxRecDepth 100000 in
set_option maxHeartbeats 4000000 in
theorem pHolds_of (HSS : SetsSaid) (vm v : Value) (md : Md) (f : List Nd) (w : World) (hm : MdV w vm md) (hok : md.ok) (h : Fml w v f) :
    Calls Tryd.prog 23 #[vm, v] w fun e w' => e = .returned (.tuple #[.int .u64 ((if chk17 md f = 0 then holdP md f else 0 : Nat) : Int), .int .i64 (chk17 md f)]) ∧ Ext w w' := by
  have HM := Lib.hid hm
  have HF := Lib.hid h
  have HS := Lib.hid (fun w hm h => HSS vm v md f w hm hok h)
  obtain ⟨vv, vr, rfl, hv, hr⟩ := hm
  obtain ⟨c1, hc1⟩ : ∃ z, z = chk17 md f := ⟨_, rfl⟩
  have HC1 := Lib.hid hc1
  rw [← hc1] at HS ⊢
  clear h hok HSS hv hr hc1
  by_cases h1 : c1 = 0
  · subst h1
    obtain ⟨_, hc, _, _⟩ := chk17_zero HC1.out.symm
    have hp := (check_parts hc).1
    have hlen := (setsP_len md f f.length).1
    have HH := Lib.hid (show holdP md f = (setsP md f f.length).1.getD (f.length - 1) 0 from rfl)
    go_enter Tryd.func23, Tryd.ntmps23
    go_wp2_with fail
    refine (HS.out _ (HM.out.ext ((Ext.refl w).alloc _)) (HF.out.ext ((Ext.refl w).alloc _))).mono ?_
    rintro e w2 ⟨u, rfl, hx, hu⟩
    obtain ⟨A, c, rfl, _, _, HR⟩ := u64_at (hu.out (by trivial))
    have HX := Lib.hid (((Ext.refl w).alloc _).trans hx)
    obtain ⟨ad, rfl, hadl, hcz⟩ := HR.out (f.length - 1) (by rw [hlen]; omega)
    rw [hlen]
    rw [← HH.out] at hcz
    have h200 := (check_parts hc).2.1
    have hi0 : wrap64 ((f.length : Int) - 1) = ((f.length - 1 : Nat) : Int) := by unfold wrap64; omega
    have hi3 : ((f.length - 1 : Nat) : Int) < (f.length : Int) := by omega
    have hi1 : (f.length : Int) - 1 < (f.length : Int) := by omega
    have hi2 : ((f.length : Int) - 1).toNat = f.length - 1 := by omega
    clear hx hu hc hlen
    go_wp2_with fail
    go_ret2
    exact ⟨rfl, HX.out⟩
  · have hne : (c1 != 0) = true := by simpa using h1
    rw [if_neg h1]
    clear h1
    go_enter Tryd.func23, Tryd.ntmps23
    go_wp2_with fail
    refine (HS.out _ (HM.out.ext ((Ext.refl w).alloc _)) (HF.out.ext ((Ext.refl w).alloc _))).mono ?_
    rintro e w2 ⟨u, rfl, hx, hu⟩
    have HX := Lib.hid (((Ext.refl w).alloc _).trans hx)
    clear hx hu
    go_wp2_with fail
    go_ret2
    exact ⟨rfl, HX.out⟩
end Go.Proofs.YtdpblciohodgcaaDoor

/- The rows of Sets: what is reckoned so far, then zeros; plain. -/

namespace Go.Proofs.YtdpblciohodgcaaDoor
open Go.RowKit

def szU (md : Md) (f : List Nd) (k : Nat) : List Nat := (setsP md f k).1 ++ List.replicate (f.length - k) 0
def szF (md : Md) (f : List Nd) (k : Nat) : List Bool := (setsP md f k).2 ++ List.replicate (f.length - k) false
section
variable {md : Md} {f : List Nd} {k : Nat}
theorem szU_len (h : k ≤ f.length) : (szU md f k).length = f.length := by
  unfold szU
  rw [List.length_append, List.length_replicate, (setsP_len md f k).1]; omega
theorem szF_len (h : k ≤ f.length) : (szF md f k).length = f.length := by
  unfold szF
  rw [List.length_append, List.length_replicate, (setsP_len md f k).2]; omega
theorem szU_get (i : Nat) : (szU md f k).getD i 0 = (setsP md f k).1.getD i 0 := by
  unfold szU
  rw [List.getD_eq_getElem?_getD, List.getD_eq_getElem?_getD]
  rcases Nat.lt_or_ge i (setsP md f k).1.length with h | h
  · rw [List.getElem?_append_left h]
  · rw [List.getElem?_append_right h, List.getElem?_replicate, List.getElem?_eq_none h]
    split <;> rfl
theorem szF_get (i : Nat) : (szF md f k).getD i false = (setsP md f k).2.getD i false := by
  unfold szF
  rw [List.getD_eq_getElem?_getD, List.getD_eq_getElem?_getD]
  rcases Nat.lt_or_ge i (setsP md f k).2.length with h | h
  · rw [List.getElem?_append_left h]
  · rw [List.getElem?_append_right h, List.getElem?_replicate, List.getElem?_eq_none h]
    split <;> rfl
theorem opd_lt {b : Bool} {x : Int} (h : k < f.length) (h1 : b = true → 0 ≤ x ∧ x < k) (h2 : b = false → x = 0) : ∃ ix : Nat, x = (ix : Int) ∧ ix < f.length := by
  cases b
  · exact ⟨0, h2 rfl, by omega⟩
  · obtain ⟨h3, h4⟩ := h1 rfl
    exact ⟨x.toNat, by omega, by omega⟩
theorem szU_zero : szU md f 0 = List.replicate f.length 0 := rfl
theorem szF_zero : szF md f 0 = List.replicate f.length false := rfl
theorem szU_all : szU md f f.length = (setsP md f f.length).1 := by
  unfold szU
  rw [Nat.sub_self]; simp
theorem set_mid {α : Type} (l : List α) (n : Nat) (z v : α) : (l ++ List.replicate (n + 1) z).set l.length v = l ++ [v] ++ List.replicate n z := by
  rw [List.set_append_right _ _ (Nat.le_refl _), Nat.sub_self, List.replicate_succ, List.set_cons_zero]
  simp
theorem szU_step (h : k < f.length) : szU md f (k + 1) = (szU md f k).set k (atP md f (setsP md f k).1 (setsP md f k).2 k).1 := by
  have h1 := (setsP_len md f k).1
  have h2 := set_mid (setsP md f k).1 (f.length - (k + 1)) 0 (atP md f (setsP md f k).1 (setsP md f k).2 k).1
  rw [h1, show f.length - (k + 1) + 1 = f.length - k by omega] at h2
  exact h2.symm
theorem szF_step (h : k < f.length) : szF md f (k + 1) = (szF md f k).set k (atP md f (setsP md f k).1 (setsP md f k).2 k).2 := by
  have h1 := (setsP_len md f k).2
  have h2 := set_mid (setsP md f k).2 (f.length - (k + 1)) false (atP md f (setsP md f k).1 (setsP md f k).2 k).2
  rw [h1, show f.length - (k + 1) + 1 = f.length - k by omega] at h2
  exact h2.symm
theorem set_same {α : Type} {l : List α} {i : Nat} {z : α} (h : l[i]? = some z) : l.set i z = l := by
  refine List.ext_getElem? fun j => ?_
  rw [List.getElem?_set]
  by_cases e : i = j
  · subst e
    rw [if_pos rfl, h]
    simp [(List.getElem?_eq_some_iff.1 h).1]
  · rw [if_neg e]
theorem sz_skip (h : k < f.length) (ho : okP (f.getD k Nd.zero) (setsP md f k).2 = false) : szU md f (k + 1) = szU md f k ∧ szF md f (k + 1) = szF md f k := by
  have e : atP md f (setsP md f k).1 (setsP md f k).2 k = (0, false) := by unfold atP; rw [ho]; rfl
  refine ⟨?_, ?_⟩
  · rw [szU_step h, e]
    refine set_same ?_
    unfold szU
    have h1 := (setsP_len md f k).1
    rw [List.getElem?_append_right (by omega), List.getElem?_replicate, if_pos (by omega)]
  · rw [szF_step h, e]
    refine set_same ?_
    unfold szF
    have h1 := (setsP_len md f k).2
    rw [List.getElem?_append_right (by omega), List.getElem?_replicate, if_pos (by omega)]
theorem sz_ok (h : k < f.length) {n : Nd} (hn : f.getD k Nd.zero = n) (ho : okP n (setsP md f k).2 = true) :
    szU md f (k + 1) = (szU md f k).set k (valP md n ((szU md f k).getD n.x.toNat 0) ((szU md f k).getD n.y.toNat 0)) ∧ szF md f (k + 1) = (szF md f k).set k (fineP md n) := by
  have e : atP md f (setsP md f k).1 (setsP md f k).2 k = (valP md n ((setsP md f k).1.getD n.x.toNat 0) ((setsP md f k).1.getD n.y.toNat 0), fineP md n) := by unfold atP; rw [hn, ho]; rfl
  rw [szU_step h, szF_step h, e, szU_get, szU_get]
  exact ⟨rfl, rfl⟩
end
end Go.Proofs.YtdpblciohodgcaaDoor

/- Rows of words and of bools that a call has made with all their places. -/

namespace Go.Proofs.YtdpblciohodgcaaDoor
open Go.RowKit

def URow (base : Nat) (w : World) (g : Nat) (l : List Nat) : Prop := w.ownsRow base 56 1 (.slice (some ⟨g, 0, none⟩) l.length l.length) l.length (uV l)
def FlRow (base : Nat) (w : World) (g : Nat) (l : List Bool) : Prop := w.ownsRow base 4 1 (.slice (some ⟨g, 0, none⟩) l.length l.length) l.length (l.map Value.bool)
section
variable {base : Nat} {w w' : World} {g : Nat} {l : List Nat} {m : List Bool}
theorem URow.cell (h : URow base w g l) {j : Nat} (hj : j < l.length) : w.cell? ⟨g, j, none⟩ = some (.int .u64 ((l.getD j 0 : Nat) : Int)) := by
  rw [World.ownsRow.cellAt h j (by omega)]
  unfold uV
  rw [List.getElem?_map, List.getD_eq_getElem?_getD, List.getElem?_eq_getElem hj]; rfl
theorem FlRow.cell (h : FlRow base w g m) {j : Nat} (hj : j < m.length) : w.cell? ⟨g, j, none⟩ = some (.bool (m.getD j false)) := by
  rw [World.ownsRow.cellAt h j (by omega), List.getElem?_map, List.getD_eq_getElem?_getD, List.getElem?_eq_getElem hj]; rfl
theorem URow.frozen (h : URow base w g l) (j : Nat) : w.frozen? ⟨g, j, none⟩ = false := World.ownsRow.frozenAt h j
theorem FlRow.frozen (h : FlRow base w g m) (j : Nat) : w.frozen? ⟨g, j, none⟩ = false := World.ownsRow.frozenAt h j
theorem URow.lt (h : URow base w g l) : base ≤ g ∧ g < w.heap.size := World.ownsRow.lt h g rfl
theorem FlRow.lt (h : FlRow base w g m) : base ≤ g ∧ g < w.heap.size := World.ownsRow.lt h g rfl
theorem URow.set (h : URow base w g l) (j s : Nat) : URow base (w.setCell ⟨g, j, none⟩ (.int .u64 (s : Int))) g (l.set j s) ∧ w.grownBy (w.setCell ⟨g, j, none⟩ (.int .u64 (s : Int))) (some g) := by
  obtain ⟨h1, h2⟩ := World.ownsRow.stored h j (.int .u64 (s : Int))
  refine ⟨?_, h2⟩
  unfold URow uV
  unfold uV at h1
  rw [List.length_set, List.map_set]
  exact h1
theorem FlRow.set (h : FlRow base w g m) (j : Nat) (b : Bool) : FlRow base (w.setCell ⟨g, j, none⟩ (.bool b)) g (m.set j b) ∧ w.grownBy (w.setCell ⟨g, j, none⟩ (.bool b)) (some g) := by
  obtain ⟨h1, h2⟩ := World.ownsRow.stored h j (.bool b)
  refine ⟨?_, h2⟩
  unfold FlRow
  rw [List.length_set, ← List.map_set] at *
  exact h1
theorem URow.ext (h : URow base w g l) (he : Ext w w') : URow base w' g l := row_ext h he
theorem FlRow.ext (h : FlRow base w g m) (he : Ext w w') : FlRow base w' g m := row_ext h he
theorem URow.kept {r : Nat} (h : URow base w g l) (hg : w.grownBy w' (some r)) (hr : r ≠ g) : URow base w' g l := World.ownsRow.kept h hg (.inr fun e => hr (by injection e with e; exact e.symm))
theorem FlRow.kept {r : Nat} (h : FlRow base w g m) (hg : w.grownBy w' (some r)) (hr : r ≠ g) : FlRow base w' g m := World.ownsRow.kept h hg (.inr fun e => hr (by injection e with e; exact e.symm))
theorem URow.u64s (h : URow base w g l) : U64s w (.slice (some ⟨g, 0, none⟩) l.length l.length) l := MadeU.u64s h
end
theorem tInfoBo : (Tryd.prog.info? 4).map (fun i => (i.zero, i.size, i.bytes)) = some (some (.bool false), 1, 1) := by kernel_rfl
theorem made_zeros (n : Nat) : (madeCells (Value.cells (.int .u64 0)) (n * 1)).toList = uV (List.replicate n 0) := by
  unfold uV
  simp only [madeCells, Value.cells, Nat.mul_one, Array.toList_map, Array.toList_range, List.map_replicate]
  refine List.ext_getElem (by simp) fun i h1 h2 => ?_
  simp [Nat.mod_one]
theorem made_falses (n : Nat) : (madeCells (Value.cells (.bool false)) (n * 1)).toList = (List.replicate n false).map Value.bool := by
  simp only [madeCells, Value.cells, Nat.mul_one, Array.toList_map, Array.toList_range, List.map_replicate]
  refine List.ext_getElem (by simp) fun i h1 h2 => ?_
  simp [Nat.mod_one]
theorem made_zeros' (n : Nat) : (madeCells #[.int .u64 0] n).toList = uV (List.replicate n 0) := by
  have := made_zeros n
  rw [Nat.mul_one] at this
  exact this
theorem made_falses' (n : Nat) : (madeCells #[.bool false] n).toList = (List.replicate n false).map Value.bool := by
  have := made_falses n
  rw [Nat.mul_one] at this
  exact this
end Go.Proofs.YtdpblciohodgcaaDoor
