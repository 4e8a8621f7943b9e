/- The law SequentWeakens. -/
import Derived.Test.YtfcmdiigfgbgbaaL9
import Derived.Test.YtfcmdiigfgbgbaaGA
import Derived.Test.YtfcmdiigfgbgbaaGR
import Derived.Test.YtfcmdiigfgbgbaaGI

namespace Go.Proofs.Ytfcmdiigfgbgbaa
open Go.RowKit

set_option maxRecDepth 100000 in
set_option maxHeartbeats 16000000 in
theorem weakens_any {w : World} {lg : Int} {vb vs : Value} {base : List Nd} {steps : List Stp} (hb : Fml w vb base) (hs : Sps w vs steps) (more : Nat) (hmore : more < 18446744073709551616) (at_ : Nat) (hat : at_ < 256) :
    Calls Try.prog 4 #[.agg #[.int .i64 lg, vb, vs], .int .u64 (more : Int), .int .u8 (at_ : Int)] w fun e w' => e = .returned (.bool true) ∧ Ext w w' := by
  have H := Lib.hid hb
  have HS := Lib.hid hs
  have HOK := Lib.hid hb.2
  obtain ⟨Ab, cb, rfl, _⟩ := fml_slice hb
  obtain ⟨As, cs, rfl, hs1, hs2, _⟩ := hs
  unfold maxLen at hs2
  clear hb
  obtain ⟨z0, z1, z2, _, zlt⟩ := cells3 (heap_alloc_new w (.cells #[.int .i64 lg, .slice Ab base.length cb, .slice As steps.length cs] 25))
  have Z := Lib.hid (And.intro z0 (And.intro z1 z2))
  have ZLT := Lib.hid zlt
  have X0 := Lib.hid ((Ext.refl w).alloc (.cells #[.int .i64 lg, .slice Ab base.length cb, .slice As steps.length cs] 25))
  clear z0 z1 z2 zlt
  cases hf : fewS base steps
  · have HFW := Lib.hid hf
    clear hf
    go_enter Try.func4, Try.ntmps4
    go_wp2_with fail
    refine (awake_any _).mono ?_
    rintro e w1 ⟨rfl, hx⟩
    have Y1 := Lib.hid (show Ext (w.alloc (.cells #[.int .i64 lg, .slice Ab base.length cb, .slice As steps.length cs] 25)) w1 from hx)
    have y0 := (Y1.out.cell (p := ⟨w.heap.size, 0, none⟩) ZLT.out).trans Z.out.1
    have y1 := (Y1.out.cell (p := ⟨w.heap.size, 1, none⟩) ZLT.out).trans Z.out.2.1
    have y2 := (Y1.out.cell (p := ⟨w.heap.size, 2, none⟩) ZLT.out).trans Z.out.2.2
    clear hx
    go_wp2_with fail
    refine (fewS_any (lg := lg) (H.out.ext (X0.out.trans Y1.out)) (HS.out.ext (X0.out.trans Y1.out))).mono ?_
    rintro e w2 ⟨rfl, hx⟩
    rw [HFW.out]
    have Y2 := Lib.hid (Y1.out.trans hx)
    have x0 := (Y2.out.cell (p := ⟨w.heap.size, 0, none⟩) ZLT.out).trans Z.out.1
    have x1 := (Y2.out.cell (p := ⟨w.heap.size, 1, none⟩) ZLT.out).trans Z.out.2.1
    have x2 := (Y2.out.cell (p := ⟨w.heap.size, 2, none⟩) ZLT.out).trans Z.out.2.2
    clear hx y0 y1 y2
    go_wp2_with fail
    refine (awake_any _).mono ?_
    rintro e w4 ⟨rfl, hx⟩
    go_wp2_with fail
    go_ret
    exact ⟨rfl, (X0.out.trans Y2.out).trans hx⟩
  · have HFW := Lib.hid hf
    clear hf
    by_cases hc : checkS lg base steps = 0
    · have HCK := Lib.hid hc
      obtain ⟨hk1, hb1, hl1, hl2⟩ := formS_ok.1 (checkS_ok.1 hc).1
      have hbl := (baseErr_ok hb1).2.1
      have hl120 := (fewS_yes HFW.out).2.1
      obtain ⟨l, hla⟩ : ∃ l, steps[steps.length - 1]? = some l := ⟨_, List.getElem?_eq_getElem (by omega)⟩
      have hz0 : ((steps.length : Int) == 0) = false := beq_eq_false_iff_ne.2 (by omega)
      have hb64 : ¬ (64 : Int) < (base.length : Int) := by omega
      clear hc hk1 hb1 hl2
      by_cases hb63 : base.length < 64
      · have hb63i : (base.length : Int) < 64 := by omega
        have BX := shl_one hb63
        have MX : min base.length 64 = base.length := by omega
        have HMK := Lib.hid (mask_lt hmore hb63)
        have HMM64 := Lib.hid (show more &&& (2 ^ base.length - 1) < 18446744073709551616 from Nat.lt_trans (and_mask_lt more base.length) (two_pow_lt64 hb63))
        go_enter Try.func4, Try.ntmps4
        go_wp2_with fail
        refine (awake_any _).mono ?_
        rintro e w1 ⟨rfl, hx⟩
        have Y1 := Lib.hid (show Ext (w.alloc (.cells #[.int .i64 lg, .slice Ab base.length cb, .slice As steps.length cs] 25)) w1 from hx)
        have y0 := (Y1.out.cell (p := ⟨w.heap.size, 0, none⟩) ZLT.out).trans Z.out.1
        have y1 := (Y1.out.cell (p := ⟨w.heap.size, 1, none⟩) ZLT.out).trans Z.out.2.1
        have y2 := (Y1.out.cell (p := ⟨w.heap.size, 2, none⟩) ZLT.out).trans Z.out.2.2
        clear hx
        go_wp2_with fail
        refine (fewS_any (lg := lg) (H.out.ext (X0.out.trans Y1.out)) (HS.out.ext (X0.out.trans Y1.out))).mono ?_
        rintro e w2 ⟨rfl, hx⟩
        rw [HFW.out]
        have Y2 := Lib.hid (Y1.out.trans hx)
        have x0 := (Y2.out.cell (p := ⟨w.heap.size, 0, none⟩) ZLT.out).trans Z.out.1
        have x1 := (Y2.out.cell (p := ⟨w.heap.size, 1, none⟩) ZLT.out).trans Z.out.2.1
        have x2 := (Y2.out.cell (p := ⟨w.heap.size, 2, none⟩) ZLT.out).trans Z.out.2.2
        clear hx y0 y1 y2
        go_wp2_with fail
        refine (checkS_any (lg := lg) (H.out.ext (X0.out.trans Y2.out)) (HS.out.ext (X0.out.trans Y2.out))).mono ?_
        rintro e w3 ⟨rfl, hx⟩
        have Y3 := Lib.hid (Y2.out.trans hx)
        have v0 := (Y3.out.cell (p := ⟨w.heap.size, 0, none⟩) ZLT.out).trans Z.out.1
        have v1 := (Y3.out.cell (p := ⟨w.heap.size, 1, none⟩) ZLT.out).trans Z.out.2.1
        have v2 := (Y3.out.cell (p := ⟨w.heap.size, 2, none⟩) ZLT.out).trans Z.out.2.2
        rw [HCK.out]
        clear hx x0 x1 x2
        go_wp2_with fail
        refine (copy_any (lg := lg) (H.out.ext (X0.out.trans Y3.out)) (HS.out.ext (X0.out.trans Y3.out)) HFW.out).mono ?_
        rintro e w4 ⟨ub, us, rfl, hx, m, hm, hcr⟩
        have HCR := Lib.hid hcr.crow
        have Y4 := Lib.hid (Y3.out.trans hx)
        have u0 := (Y4.out.cell (p := ⟨w.heap.size, 0, none⟩) ZLT.out).trans Z.out.1
        have u1 := (Y4.out.cell (p := ⟨w.heap.size, 1, none⟩) ZLT.out).trans Z.out.2.1
        have u2 := (Y4.out.cell (p := ⟨w.heap.size, 2, none⟩) ZLT.out).trans Z.out.2.2
        have HFB := Lib.hid (HCR.out.fml HOK.out)
        obtain ⟨g, cap, rfl, hmg, hgl, hcap, hcapm, hgf, hsp⟩ := HCR.out.cells_ (by omega)
        obtain ⟨Au, cu, rfl, _⟩ := fml_slice HFB.out
        have XS := Lib.hid ((Ext.refl w4).alloc (.cells #[.int .i64 lg, .slice Au base.length cu, .slice (some ⟨g, 0, none⟩) steps.length cap] 25))
        have Y5 := Lib.hid (Y4.out.trans XS.out)
        obtain ⟨ul, p0, p1, p2, p3, p4, hui, hl64⟩ := hsp (steps.length - 1) l hla
        have c0 := (XS.out.cell (p := ⟨g, (steps.length - 1) * 5, none⟩) hgl).trans p0
        have c1 := (XS.out.cell (p := ⟨g, (steps.length - 1) * 5 + 1, none⟩) hgl).trans p1
        have c2 := (XS.out.cell (p := ⟨g, (steps.length - 1) * 5 + 2, none⟩) hgl).trans p2
        have c3 := (XS.out.cell (p := ⟨g, (steps.length - 1) * 5 + 3, none⟩) hgl).trans p3
        have c4 := (XS.out.cell (p := ⟨g, (steps.length - 1) * 5 + 4, none⟩) hgl).trans p4
        have cf := (XS.out.frozen (p := ⟨g, (steps.length - 1) * 5, none⟩) hgl).trans (hgf _)
        have HSP := Lib.hid hsp
        have hw1 : IntKind.i64.wrap ((steps.length : Int) - 1) = (steps.length : Int) - 1 := by rw [IntKind.wrap_i64]; omega
        have hn1 : ((steps.length : Int) - 1).toNat = steps.length - 1 := by omega
        have hn0 : (0 : Int) ≤ (steps.length : Int) - 1 := by omega
        have hn2 : (steps.length : Int) - 1 < (steps.length : Int) := by omega
        have hX34 := hx
        clear hx hcr v0 v1 v2 u0 u1 u2 hsp p0 p1 p2 p3 p4
        go_wp2_with fail
        rw [HMK.out, bits_or_u64_nat l.set _ hl64 HMM64.out]
        obtain ⟨sn, hsn⟩ : ∃ s, s = l.set ||| (more &&& (2 ^ base.length - 1)) := ⟨_, rfl⟩
        rw [← hsn]
        have HSN := Lib.hid hsn
        obtain ⟨us, hpk⟩ := poke_of HCR.out hla (s := sn) (by rw [hsn]; exact or_lt64 hl64 HMM64.out)
        have hPX := hX34.setCell (p := ⟨g, (steps.length - 1) * 5, none⟩) (Nat.le_trans hm hmg) (.int .u64 (sn : Int))
        have hPs : (w4.setCell ⟨g, (steps.length - 1) * 5, none⟩ (.int .u64 (sn : Int))).heap.size = w4.heap.size := size_setCell _ _ _
        generalize w4.setCell ⟨g, (steps.length - 1) * 5, none⟩ (.int .u64 (sn : Int)) = P at hpk hPX hPs ⊢
        have HPK := Lib.hid hpk
        have HPX := Lib.hid ((X0.out.trans Y3.out).trans hPX)
        have HFP := Lib.hid (show Fml P (.slice Au base.length cu) base from ⟨hpk.nds, HOK.out⟩)
        have SC := heap_alloc_new P (.cells #[.int .i64 lg, .slice Au base.length cu, .slice (some ⟨g, 0, none⟩) steps.length cap] 25)
        rw [hPs] at SC
        have HSC := Lib.hid SC
        obtain ⟨s0, s1, s2, _, slt⟩ := cells3 SC
        have HW1 := Lib.hid (show checkS lg base (steps.set (steps.length - 1) { l with set := sn }) = 0 by rw [hsn]; exact weakens1 HCK.out hla (and_mask_lt more base.length))
        have HPS := Lib.hid hPs
        clear hpk hPX hPs SC hX34 hsn
        refine (checkS_any (lg := lg) (HFP.out.ext ((Ext.refl P).alloc (.cells #[.int .i64 lg, .slice Au base.length cu, .slice (some ⟨g, 0, none⟩) steps.length cap] 25))) (HPK.out.sps.ext ((Ext.refl P).alloc (.cells #[.int .i64 lg, .slice Au base.length cu, .slice (some ⟨g, 0, none⟩) steps.length cap] 25)))).mono ?_
        rintro e w6 ⟨rfl, hx6⟩
        rw [HW1.out]
        have X6P := Lib.hid (((Ext.refl P).alloc (.cells #[.int .i64 lg, .slice Au base.length cu, .slice (some ⟨g, 0, none⟩) steps.length cap] 25)).trans hx6)
        have HS6 := Lib.hid ((hx6.block slt).trans HSC.out)
        obtain ⟨ul, hul⟩ : ∃ u, us[steps.length - 1]? = some u := ⟨_, List.getElem?_eq_getElem (by have := HPK.out.len; omega)⟩
        obtain ⟨a0, a1, a2, a3, a4, a5, a6⟩ := HPK.out.at_ (steps.length - 1) { l with set := sn } ul (List.getElem?_set_self (by omega)) hul
        have HA5 := Lib.hid a5
        obtain ⟨Al, cl, rfl, _⟩ := a5
        obtain ⟨j, hj⟩ : ∃ j, j = at_ % steps.length := ⟨_, rfl⟩
        have hjl : j < steps.length := by rw [hj]; exact Nat.mod_lt _ (by omega)
        obtain ⟨xj, hxj⟩ : ∃ x, (steps.set (steps.length - 1) { l with set := sn })[j]? = some x := ⟨_, List.getElem?_eq_getElem (by rw [List.length_set]; exact hjl)⟩
        obtain ⟨uj, huj⟩ : ∃ u, us[j]? = some u := ⟨_, List.getElem?_eq_getElem (by have := HPK.out.len; omega)⟩
        obtain ⟨b0, b1, b2, b3, b4, b5, b6⟩ := HPK.out.at_ j xj uj hxj huj
        have HB5 := Lib.hid b5
        obtain ⟨Aj, cj, rfl, _⟩ := b5
        have hgP := HPK.out.glt
        have t0 := (X6P.out.cell (p := ⟨g, (steps.length - 1) * 5, none⟩) hgP).trans a0
        have t1 := (X6P.out.cell (p := ⟨g, (steps.length - 1) * 5 + 1, none⟩) hgP).trans a1
        have t2 := (X6P.out.cell (p := ⟨g, (steps.length - 1) * 5 + 2, none⟩) hgP).trans a2
        have t3 := (X6P.out.cell (p := ⟨g, (steps.length - 1) * 5 + 3, none⟩) hgP).trans a3
        have t4 := (X6P.out.cell (p := ⟨g, (steps.length - 1) * 5 + 4, none⟩) hgP).trans a4
        obtain ⟨_, _, v2, _, _⟩ := cells3 HS6.out
        have hrem : Int.tmod (at_ : Int) (steps.length : Int) = (j : Int) := by rw [hj]; rfl
        have hnz : ((steps.length : Int) == 0) = false := hz0
        have hj0 : (0 : Int) ≤ (j : Int) := by omega
        have hj1 : (j : Int) < (steps.length : Int) := by omega
        have hcc : steps.length - 1 ≤ cap := by omega
        have hcc1 : (steps.length : Int) - 1 ≤ (cap : Int) := by omega
        have HJ := Lib.hid hj
        have HXJ := Lib.hid hxj
        have HUJ := Lib.hid huj
        have HUL := Lib.hid hul
        have HLA := Lib.hid hla
        obtain ⟨iS, hiS, hzS0, hzS1, hzS2⟩ := info_parts tInfoSt
        have XL := Lib.hid ((Ext.refl w6).alloc (.cells #[.int .u64 (sn : Int), .int .i64 l.rule, .int .i64 l.on, .int .i64 l.e, .slice Al l.from_.length cl] 34))
        have XPL := Lib.hid (X6P.out.trans XL.out)
        obtain ⟨k0, k1, k2, k3, k4, _, klt⟩ := cells5s (heap_alloc_new w6 (.cells #[.int .u64 (sn : Int), .int .i64 l.rule, .int .i64 l.on, .int .i64 l.e, .slice Al l.from_.length cl] 34))
        have hHS : (w6.alloc (.cells #[.int .u64 (sn : Int), .int .i64 l.rule, .int .i64 l.on, .int .i64 l.e, .slice Al l.from_.length cl] 34)).heap[w4.heap.size]? = some (.cells #[.int .i64 lg, .slice Au base.length cu, .slice (some ⟨g, 0, none⟩) steps.length cap] 25 (0, 0)) := (XL.out.block (lt_heap HS6.out)).trans HS6.out
        obtain ⟨_, _, d2, _, dlt⟩ := cells3 hHS
        have HHS := Lib.hid hHS
        have b0 := (XPL.out.cell (p := ⟨g, j * 5, none⟩) hgP).trans b0
        have b1 := (XPL.out.cell (p := ⟨g, j * 5 + 1, none⟩) hgP).trans b1
        have b2 := (XPL.out.cell (p := ⟨g, j * 5 + 2, none⟩) hgP).trans b2
        have b3 := (XPL.out.cell (p := ⟨g, j * 5 + 3, none⟩) hgP).trans b3
        have b4 := (XPL.out.cell (p := ⟨g, j * 5 + 4, none⟩) hgP).trans b4
        have hgL : g < (w6.alloc (.cells #[.int .u64 (sn : Int), .int .i64 l.rule, .int .i64 l.on, .int .i64 l.e, .slice Al l.from_.length cl] 34)).heap.size := Nat.lt_of_lt_of_le hgP XPL.out.size
        have hlus : (stepCells (steps.take (steps.length - 1)) (us.take (steps.length - 1))).length = (steps.length - 1) * 5 := by rw [stepCells_len _ _ (by rw [List.length_take, List.length_take, HPK.out.len]), List.length_take]; congr 1; omega
        have HOLD := Lib.hid (fun (j : Nat) (u : Value) (hj : (stepCells (steps.take (steps.length - 1)) (us.take (steps.length - 1)))[j]? = some u) => (XPL.out.cell (p := ⟨g, j, none⟩) hgP).trans (HPK.out.old j u hj))
        have hfull : steps.length - 1 < steps.length - 1 + 1 := by omega
        have hm1 : steps.length - 1 + 1 ≤ maxLen := by unfold maxLen; omega
        have hm2 : (steps.length - 1 + 1) * 56 ≤ 140737488355328 := by omega
        have hm3 : steps.length + 1 ≤ maxLen := by unfold maxLen; omega
        have hm4 : (steps.length + 1) * 56 ≤ 140737488355328 := by omega
        have hl1i : (1 : Int) ≤ (steps.length : Int) := by omega
        have hnn : (steps.length : Int) - 1 ≤ ((steps.length - 1 : Nat) : Int) := by omega
        have hne : steps ≠ [] := by intro e; rw [e] at hl1i; simp at hl1i
        have hwat : IntKind.i64.wrap (at_ : Int) = (at_ : Int) := by rw [IntKind.wrap_i64]; omega
        have HLEN1 := Lib.hid (show steps.length - 1 + 1 = steps.length by omega)
        clear hj hxj huj hul hla a0 a1 a2 a3 a4 hHS
        go_wp2_with fail
        refine ordU_region 21 (fun w' => w'.cell? (⟨w4.heap.size, 2, none⟩) = some (.slice (some ⟨g, 0, none⟩) steps.length cap) ∧ w'.cell? (⟨g, j * 5, none⟩) = some (.int .u64 (xj.set : Int)) ∧ w'.cell? (⟨g, j * 5 + 1, none⟩) = some (.int .i64 xj.rule) ∧ w'.cell? (⟨g, j * 5 + 2, none⟩) = some (.int .i64 xj.on) ∧ w'.cell? (⟨g, j * 5 + 3, none⟩) = some (.int .i64 xj.e) ∧ w'.cell? (⟨g, j * 5 + 4, none⟩) = some (.slice Aj xj.from_.length cj) ∧ w'.cell? (⟨w6.heap.size, 0, none⟩) = some (.int .u64 (sn : Int)) ∧ w'.cell? (⟨w6.heap.size, 1, none⟩) = some (.int .i64 l.rule) ∧ w'.cell? (⟨w6.heap.size, 2, none⟩) = some (.int .i64 l.on) ∧ w'.cell? (⟨w6.heap.size, 3, none⟩) = some (.int .i64 l.e) ∧ w'.cell? (⟨w6.heap.size, 4, none⟩) = some (.slice Al l.from_.length cl)) (by kernel_rfl) ⟨(Ext.cell (p := ⟨w4.heap.size, 2, none⟩) (by repeat (first | exact Ext.refl _ | assumption | apply Ext.alloc | apply Ext.drew | apply Ext.setCell)) dlt).trans d2, (Ext.cell (p := ⟨g, j * 5, none⟩) (by repeat (first | exact Ext.refl _ | assumption | apply Ext.alloc | apply Ext.drew | apply Ext.setCell)) hgL).trans b0, (Ext.cell (p := ⟨g, j * 5 + 1, none⟩) (by repeat (first | exact Ext.refl _ | assumption | apply Ext.alloc | apply Ext.drew | apply Ext.setCell)) hgL).trans b1, (Ext.cell (p := ⟨g, j * 5 + 2, none⟩) (by repeat (first | exact Ext.refl _ | assumption | apply Ext.alloc | apply Ext.drew | apply Ext.setCell)) hgL).trans b2, (Ext.cell (p := ⟨g, j * 5 + 3, none⟩) (by repeat (first | exact Ext.refl _ | assumption | apply Ext.alloc | apply Ext.drew | apply Ext.setCell)) hgL).trans b3, (Ext.cell (p := ⟨g, j * 5 + 4, none⟩) (by repeat (first | exact Ext.refl _ | assumption | apply Ext.alloc | apply Ext.drew | apply Ext.setCell)) hgL).trans b4, (Ext.cell (p := ⟨w6.heap.size, 0, none⟩) (by repeat (first | exact Ext.refl _ | assumption | apply Ext.alloc | apply Ext.drew | apply Ext.setCell)) klt).trans k0, (Ext.cell (p := ⟨w6.heap.size, 1, none⟩) (by repeat (first | exact Ext.refl _ | assumption | apply Ext.alloc | apply Ext.drew | apply Ext.setCell)) klt).trans k1, (Ext.cell (p := ⟨w6.heap.size, 2, none⟩) (by repeat (first | exact Ext.refl _ | assumption | apply Ext.alloc | apply Ext.drew | apply Ext.setCell)) klt).trans k2, (Ext.cell (p := ⟨w6.heap.size, 3, none⟩) (by repeat (first | exact Ext.refl _ | assumption | apply Ext.alloc | apply Ext.drew | apply Ext.setCell)) klt).trans k3, (Ext.cell (p := ⟨w6.heap.size, 4, none⟩) (by repeat (first | exact Ext.refl _ | assumption | apply Ext.alloc | apply Ext.drew | apply Ext.setCell)) klt).trans k4⟩ (fun hHeld => ?_)
        refine' ordU_take (i := 0) (v := _) rfl (by kernel_rfl) (by kernel_rfl) (by kernel_rfl) (by kernel_rfl) (fun _ _ _ h => h) (Or.inl ⟨by rfl, ?hycu21⟩) hHeld ?restcu21
        case hycu21 => (intro w' hSw; (try dsimp only at hSw); go_simp; (try with_reducible rfl))
        try simp only [Act.put, List.setIfInBounds_toArray, List.set_cons_zero, List.set_cons_succ, List.getElem_toArray, List.getElem_cons_zero]
        refine' ordU_take (i := 1) (v := _) rfl (by kernel_rfl) (by kernel_rfl) (by kernel_rfl) (by kernel_rfl) (fun _ _ _ h => h) (Or.inl ⟨by rfl, ?hycu22⟩) hHeld ?restcu22
        case hycu22 => (intro w' hSw; (try dsimp only at hSw); go_simp; (try with_reducible rfl))
        try simp only [Act.put, List.setIfInBounds_toArray, List.set_cons_zero, List.set_cons_succ, List.getElem_toArray, List.getElem_cons_succ, List.getElem_cons_zero]
        refine' ordU_take (i := 2) (v := _) rfl (by kernel_rfl) (by kernel_rfl) (by kernel_rfl) (by kernel_rfl) (fun _ _ _ h => h) (Or.inl ⟨by rfl, ?hycu23⟩) hHeld ?restcu23
        case hycu23 => (intro w' hSw; (try dsimp only at hSw); go_simp; (try with_reducible rfl))
        try simp only [Act.put, List.setIfInBounds_toArray, List.set_cons_zero, List.set_cons_succ, List.getElem_toArray, List.getElem_cons_succ, List.getElem_cons_zero]
        refine' ordU_take (i := 3) (v := _) rfl (by kernel_rfl) (by kernel_rfl) (by kernel_rfl) (by kernel_rfl) (fun _ _ _ h => h) (Or.inl ⟨by rfl, ?hycu24⟩) hHeld ?restcu24
        case hycu24 => (intro w' hSw; (try dsimp only at hSw); go_simp; (try with_reducible rfl))
        try simp only [Act.put, List.setIfInBounds_toArray, List.set_cons_zero, List.set_cons_succ, List.getElem_toArray, List.getElem_cons_succ, List.getElem_cons_zero]
        refine' ordU_take (i := 4) (v := _) rfl (by kernel_rfl) (by kernel_rfl) (by kernel_rfl) (by kernel_rfl) (fun _ _ _ h => h) (Or.inl ⟨by rfl, ?hycu25⟩) hHeld ?restcu25
        case hycu25 => (intro w' hSw; (try dsimp only at hSw); go_simp; (try with_reducible rfl))
        try simp only [Act.put, List.setIfInBounds_toArray, List.set_cons_zero, List.set_cons_succ, List.getElem_toArray, List.getElem_cons_succ, List.getElem_cons_zero]
        refine' ordU_take (i := 5) (v := _) rfl (by kernel_rfl) (by kernel_rfl) (by kernel_rfl) (by kernel_rfl) (fun _ _ _ h => h) (Or.inl ⟨by rfl, ?hycu26⟩) hHeld ?restcu26
        case hycu26 => (intro w' hSw; (try dsimp only at hSw); go_simp; (try with_reducible rfl))
        try simp only [Act.put, List.setIfInBounds_toArray, List.set_cons_zero, List.set_cons_succ, List.getElem_toArray, List.getElem_cons_succ, List.getElem_cons_zero]
        refine' ordU_take (i := 6) (v := _) rfl (by kernel_rfl) (by kernel_rfl) (by kernel_rfl) (by kernel_rfl) (fun _ _ _ h => h) (Or.inl ⟨by rfl, ?hycu27⟩) hHeld ?restcu27
        case hycu27 => (intro w' hSw; (try dsimp only at hSw); go_simp; (try with_reducible rfl))
        try simp only [Act.put, List.setIfInBounds_toArray, List.set_cons_zero, List.set_cons_succ, List.getElem_toArray, List.getElem_cons_succ, List.getElem_cons_zero]
        refine' ordU_take (i := 7) (v := _) rfl (by kernel_rfl) (by kernel_rfl) (by kernel_rfl) (by kernel_rfl) (fun _ _ _ h => h) (Or.inl ⟨by rfl, ?hycu28⟩) hHeld ?restcu28
        case hycu28 => (intro w' hSw; (try dsimp only at hSw); go_simp; (try with_reducible rfl))
        try simp only [Act.put, List.setIfInBounds_toArray, List.set_cons_zero, List.set_cons_succ, List.getElem_toArray, List.getElem_cons_succ, List.getElem_cons_zero]
        refine' ordU_take (i := 8) (v := _) rfl (by kernel_rfl) (by kernel_rfl) (by kernel_rfl) (by kernel_rfl) (fun _ _ _ h => h) (Or.inl ⟨by rfl, ?hycu29⟩) hHeld ?restcu29
        case hycu29 => (intro w' hSw; (try dsimp only at hSw); go_simp; (try with_reducible rfl))
        try simp only [Act.put, List.setIfInBounds_toArray, List.set_cons_zero, List.set_cons_succ, List.getElem_toArray, List.getElem_cons_succ, List.getElem_cons_zero]
        refine' ordU_take (i := 9) (v := _) rfl (by kernel_rfl) (by kernel_rfl) (by kernel_rfl) (by kernel_rfl) (fun _ _ _ h => h) (Or.inl ⟨by rfl, ?hycu210⟩) hHeld ?restcu210
        case hycu210 => (intro w' hSw; (try dsimp only at hSw); go_simp; (try with_reducible rfl))
        try simp only [Act.put, List.setIfInBounds_toArray, List.set_cons_zero, List.set_cons_succ, List.getElem_toArray, List.getElem_cons_succ, List.getElem_cons_zero]
        refine' ordU_take (i := 10) (v := _) rfl (by kernel_rfl) (by kernel_rfl) (by kernel_rfl) (by kernel_rfl) (fun _ _ _ h => h) (Or.inl ⟨by rfl, ?hycu211⟩) hHeld ?restcu211
        case hycu211 => (intro w' hSw; (try dsimp only at hSw); go_simp; (try with_reducible rfl))
        try simp only [Act.put, List.setIfInBounds_toArray, List.set_cons_zero, List.set_cons_succ, List.getElem_toArray, List.getElem_cons_succ, List.getElem_cons_zero]
        refine' ordU_take (i := 11) (v := _) rfl (by kernel_rfl) (by kernel_rfl) (by kernel_rfl) (by kernel_rfl) (fun _ _ _ h => h) (Or.inl ⟨by rfl, ?hycu212⟩) hHeld ?restcu212
        case hycu212 => (intro w' hSw; (try dsimp only at hSw); go_simp; (try with_reducible rfl))
        try simp only [Act.put, List.setIfInBounds_toArray, List.set_cons_zero, List.set_cons_succ, List.getElem_toArray, List.getElem_cons_succ, List.getElem_cons_zero]
        refine' ordU_take (i := 12) (v := _) rfl (by kernel_rfl) (by kernel_rfl) (by kernel_rfl) (by kernel_rfl) (fun _ _ _ h => h) (Or.inl ⟨by rfl, ?hycu213⟩) hHeld ?restcu213
        case hycu213 => (intro w' hSw; (try dsimp only at hSw); go_simp; (try with_reducible rfl))
        try simp only [Act.put, List.setIfInBounds_toArray, List.set_cons_zero, List.set_cons_succ, List.getElem_toArray, List.getElem_cons_succ, List.getElem_cons_zero]
        refine' ordU_take (i := 13) (v := _) rfl (by kernel_rfl) (by kernel_rfl) (by kernel_rfl) (by kernel_rfl) (fun _ _ _ h => h) (Or.inl ⟨by rfl, ?hycu214⟩) hHeld ?restcu214
        case hycu214 => (intro w' hSw; (try dsimp only at hSw); go_simp; (try with_reducible rfl))
        try simp only [Act.put, List.setIfInBounds_toArray, List.set_cons_zero, List.set_cons_succ, List.getElem_toArray, List.getElem_cons_succ, List.getElem_cons_zero]
        refine' ordU_take (i := 14) (v := _) rfl (by kernel_rfl) (by kernel_rfl) (by kernel_rfl) (by kernel_rfl) (fun _ _ _ h => h) (Or.inl ⟨by rfl, ?hycu215⟩) hHeld ?restcu215
        case hycu215 => (intro w' hSw; (try dsimp only at hSw); go_simp; (try with_reducible rfl))
        try simp only [Act.put, List.setIfInBounds_toArray, List.set_cons_zero, List.set_cons_succ, List.getElem_toArray, List.getElem_cons_succ, List.getElem_cons_zero]
        refine' ordU_take (i := 17) (v := _) rfl (by kernel_rfl) (by kernel_rfl) (by kernel_rfl) (by kernel_rfl) (fun _ _ _ h => h) (Or.inl ⟨by rfl, ?hycu216⟩) hHeld ?restcu216
        case hycu216 => (intro w' hSw; (try dsimp only at hSw); go_simp; (try with_reducible rfl))
        try simp only [Act.put, List.setIfInBounds_toArray, List.set_cons_zero, List.set_cons_succ, List.getElem_toArray, List.getElem_cons_succ, List.getElem_cons_zero]
        refine ordU_ready (rs := [15, 18]) (by kernel_rfl) (by simp) ?_
        refine AllU.cons rfl (fun K hK => ?_) (AllU.cons rfl (fun K hK => ?_) AllU.nil)
        · skip
          go_simp
          refine hK.out _ _ ⟨(Ext.cell (p := ⟨w4.heap.size, 2, none⟩) (by repeat (first | exact Ext.refl _ | assumption | apply Ext.alloc | apply Ext.drew | apply Ext.setCell)) dlt).trans d2, (Ext.cell (p := ⟨g, j * 5, none⟩) (by repeat (first | exact Ext.refl _ | assumption | apply Ext.alloc | apply Ext.drew | apply Ext.setCell)) hgL).trans b0, (Ext.cell (p := ⟨g, j * 5 + 1, none⟩) (by repeat (first | exact Ext.refl _ | assumption | apply Ext.alloc | apply Ext.drew | apply Ext.setCell)) hgL).trans b1, (Ext.cell (p := ⟨g, j * 5 + 2, none⟩) (by repeat (first | exact Ext.refl _ | assumption | apply Ext.alloc | apply Ext.drew | apply Ext.setCell)) hgL).trans b2, (Ext.cell (p := ⟨g, j * 5 + 3, none⟩) (by repeat (first | exact Ext.refl _ | assumption | apply Ext.alloc | apply Ext.drew | apply Ext.setCell)) hgL).trans b3, (Ext.cell (p := ⟨g, j * 5 + 4, none⟩) (by repeat (first | exact Ext.refl _ | assumption | apply Ext.alloc | apply Ext.drew | apply Ext.setCell)) hgL).trans b4, (Ext.cell (p := ⟨w6.heap.size, 0, none⟩) (by repeat (first | exact Ext.refl _ | assumption | apply Ext.alloc | apply Ext.drew | apply Ext.setCell)) klt).trans k0, (Ext.cell (p := ⟨w6.heap.size, 1, none⟩) (by repeat (first | exact Ext.refl _ | assumption | apply Ext.alloc | apply Ext.drew | apply Ext.setCell)) klt).trans k1, (Ext.cell (p := ⟨w6.heap.size, 2, none⟩) (by repeat (first | exact Ext.refl _ | assumption | apply Ext.alloc | apply Ext.drew | apply Ext.setCell)) klt).trans k2, (Ext.cell (p := ⟨w6.heap.size, 3, none⟩) (by repeat (first | exact Ext.refl _ | assumption | apply Ext.alloc | apply Ext.drew | apply Ext.setCell)) klt).trans k3, (Ext.cell (p := ⟨w6.heap.size, 4, none⟩) (by repeat (first | exact Ext.refl _ | assumption | apply Ext.alloc | apply Ext.drew | apply Ext.setCell)) klt).trans k4⟩ (fun hHeld => ?_)
          clear hK K
          try simp only [Act.put, List.setIfInBounds_toArray, List.set_cons_zero, List.set_cons_succ, List.getElem_toArray, List.getElem_cons_succ, List.getElem_cons_zero]
          refine ordU_ready (rs := [16, 18]) (by kernel_rfl) (by simp) ?_
          refine AllU.cons rfl (fun K hK => ?_) (AllU.cons rfl (fun K hK => ?_) AllU.nil)
          · skip
            refine step_append_grows rfl (.tmp 74) (.tmp 83) 23 rfl 34 iS (.agg #[.int .u64 0, .int .i64 0, .int .i64 0, .int .i64 0, .slice none 0 0]) 5 56 Try.underlying23 hiS hzS0 hzS1 hzS2 rfl (by decide) ⟨g, 0, none⟩ (steps.length - 1) (steps.length - 1) (stepCells (steps.take (steps.length - 1)) (us.take (steps.length - 1))) (by simp [Act.eval]) hlus (fun j u hu => by rw [addr_zero]; exact (Ext.cell (p := ⟨g, j, none⟩) (by repeat (first | exact Ext.refl _ | assumption | apply Ext.alloc | apply Ext.drew | apply Ext.setCell)) hgL).trans (HOLD.out j u hu)) ⟨_, 0, none⟩ 1 1 (xj.cells (.slice Aj xj.from_.length cj)) (by simp [Act.eval]; rfl) rfl (by first | exact row_new_at _ _ _ (by simp) | exact fun j u hu => (((Ext.refl _).alloc _).cell (p := (⟨_, 0, none⟩ : Addr).add j) (by rw [block_of_add]; simp)).trans (row_new_at _ _ _ (by simp) j u hu)) hfull hm1 hm2 ?_
            intro v7 w7 hown7 hgrow7
            have hxb7 := Ext.grown (Ext.refl _) hgrow7 (fun _ h => by cases h)
            have hx7 : Ext (w6.alloc (.cells #[.int .u64 (sn : Int), .int .i64 l.rule, .int .i64 l.on, .int .i64 l.e, .slice Al l.from_.length cl] 34)) w7 := Ext.grown (by repeat (first | exact Ext.refl _ | assumption | apply Ext.alloc | apply Ext.drew | apply Ext.setCell)) hgrow7 (fun _ h => by cases h)
            rw [HLEN1.out] at hown7
            have HR7 := Lib.hid hown7
            obtain ⟨A7, c7, hv7⟩ := slice_of_row hown7
            subst hv7
            clear hown7 hgrow7
            refine hK.out _ _ ⟨(Ext.cell (p := ⟨w4.heap.size, 2, none⟩) (by repeat (first | exact Ext.refl _ | assumption | apply Ext.alloc | apply Ext.drew | apply Ext.setCell)) dlt).trans d2, (Ext.cell (p := ⟨g, j * 5, none⟩) (by repeat (first | exact Ext.refl _ | assumption | apply Ext.alloc | apply Ext.drew | apply Ext.setCell)) hgL).trans b0, (Ext.cell (p := ⟨g, j * 5 + 1, none⟩) (by repeat (first | exact Ext.refl _ | assumption | apply Ext.alloc | apply Ext.drew | apply Ext.setCell)) hgL).trans b1, (Ext.cell (p := ⟨g, j * 5 + 2, none⟩) (by repeat (first | exact Ext.refl _ | assumption | apply Ext.alloc | apply Ext.drew | apply Ext.setCell)) hgL).trans b2, (Ext.cell (p := ⟨g, j * 5 + 3, none⟩) (by repeat (first | exact Ext.refl _ | assumption | apply Ext.alloc | apply Ext.drew | apply Ext.setCell)) hgL).trans b3, (Ext.cell (p := ⟨g, j * 5 + 4, none⟩) (by repeat (first | exact Ext.refl _ | assumption | apply Ext.alloc | apply Ext.drew | apply Ext.setCell)) hgL).trans b4, (Ext.cell (p := ⟨w6.heap.size, 0, none⟩) (by repeat (first | exact Ext.refl _ | assumption | apply Ext.alloc | apply Ext.drew | apply Ext.setCell)) klt).trans k0, (Ext.cell (p := ⟨w6.heap.size, 1, none⟩) (by repeat (first | exact Ext.refl _ | assumption | apply Ext.alloc | apply Ext.drew | apply Ext.setCell)) klt).trans k1, (Ext.cell (p := ⟨w6.heap.size, 2, none⟩) (by repeat (first | exact Ext.refl _ | assumption | apply Ext.alloc | apply Ext.drew | apply Ext.setCell)) klt).trans k2, (Ext.cell (p := ⟨w6.heap.size, 3, none⟩) (by repeat (first | exact Ext.refl _ | assumption | apply Ext.alloc | apply Ext.drew | apply Ext.setCell)) klt).trans k3, (Ext.cell (p := ⟨w6.heap.size, 4, none⟩) (by repeat (first | exact Ext.refl _ | assumption | apply Ext.alloc | apply Ext.drew | apply Ext.setCell)) klt).trans k4⟩ (fun hHeld => ?_)
            clear hK K
            try simp only [Act.put, List.setIfInBounds_toArray, List.set_cons_zero, List.set_cons_succ, List.getElem_toArray, List.getElem_cons_succ, List.getElem_cons_zero]
            refine ordU_ready (rs := [18]) (by kernel_rfl) (by simp) ?_
            refine AllU.cons rfl (fun K hK => ?_) AllU.nil
            go_simp
            refine hK.out _ _ ⟨(Ext.cell (p := ⟨w4.heap.size, 2, none⟩) (by repeat (first | exact Ext.refl _ | assumption | apply Ext.alloc | apply Ext.drew | apply Ext.setCell)) dlt).trans d2, (Ext.cell (p := ⟨g, j * 5, none⟩) (by repeat (first | exact Ext.refl _ | assumption | apply Ext.alloc | apply Ext.drew | apply Ext.setCell)) hgL).trans b0, (Ext.cell (p := ⟨g, j * 5 + 1, none⟩) (by repeat (first | exact Ext.refl _ | assumption | apply Ext.alloc | apply Ext.drew | apply Ext.setCell)) hgL).trans b1, (Ext.cell (p := ⟨g, j * 5 + 2, none⟩) (by repeat (first | exact Ext.refl _ | assumption | apply Ext.alloc | apply Ext.drew | apply Ext.setCell)) hgL).trans b2, (Ext.cell (p := ⟨g, j * 5 + 3, none⟩) (by repeat (first | exact Ext.refl _ | assumption | apply Ext.alloc | apply Ext.drew | apply Ext.setCell)) hgL).trans b3, (Ext.cell (p := ⟨g, j * 5 + 4, none⟩) (by repeat (first | exact Ext.refl _ | assumption | apply Ext.alloc | apply Ext.drew | apply Ext.setCell)) hgL).trans b4, (Ext.cell (p := ⟨w6.heap.size, 0, none⟩) (by repeat (first | exact Ext.refl _ | assumption | apply Ext.alloc | apply Ext.drew | apply Ext.setCell)) klt).trans k0, (Ext.cell (p := ⟨w6.heap.size, 1, none⟩) (by repeat (first | exact Ext.refl _ | assumption | apply Ext.alloc | apply Ext.drew | apply Ext.setCell)) klt).trans k1, (Ext.cell (p := ⟨w6.heap.size, 2, none⟩) (by repeat (first | exact Ext.refl _ | assumption | apply Ext.alloc | apply Ext.drew | apply Ext.setCell)) klt).trans k2, (Ext.cell (p := ⟨w6.heap.size, 3, none⟩) (by repeat (first | exact Ext.refl _ | assumption | apply Ext.alloc | apply Ext.drew | apply Ext.setCell)) klt).trans k3, (Ext.cell (p := ⟨w6.heap.size, 4, none⟩) (by repeat (first | exact Ext.refl _ | assumption | apply Ext.alloc | apply Ext.drew | apply Ext.setCell)) klt).trans k4⟩ (fun hHeld => ?_)
            clear hK K
            try simp only [Act.put, List.setIfInBounds_toArray, List.set_cons_zero, List.set_cons_succ, List.getElem_toArray, List.getElem_cons_succ, List.getElem_cons_zero]
            refine ordU_ready (rs := [19]) (by kernel_rfl) (by simp) ?_
            refine AllU.cons rfl (fun K hK => ?_) AllU.nil
            refine step_append_at rfl (.tmp 84) (.tmp 86) 23 rfl _ 34 iS (.agg #[.int .u64 0, .int .i64 0, .int .i64 0, .int .i64 0, .slice none 0 0]) 5 56 Try.underlying23 hiS hzS0 hzS1 hzS2 rfl (by decide) (.slice A7 steps.length c7) steps.length _ (by simp [Act.eval]) (row_ext HR7.out (by repeat (first | exact Ext.refl _ | assumption | apply Ext.alloc | apply Ext.drew | apply Ext.setCell))) ⟨_, 0, none⟩ 1 1 (Stp.cells { l with set := sn } (.slice Al l.from_.length cl)) (by simp [Act.eval]; rfl) rfl (by first | exact row_new_at _ _ _ (by simp) | exact fun j u hu => (hxb7.cell (p := (⟨_, 0, none⟩ : Addr).add j) (by rw [block_of_add]; simp)).trans (row_new_at _ _ _ (by simp) j u hu) | exact fun j u hu => (hxb7.cell (p := (⟨_, 0, none⟩ : Addr).add j) (by rw [block_of_add]; simp)).trans ((((Ext.refl _).alloc _).cell (p := (⟨_, 0, none⟩ : Addr).add j) (by rw [block_of_add]; simp)).trans (row_new_at _ _ _ (by simp) j u hu))) (fun u hu => stepOne _ _ _ _ u hu) hm3 hm4 (Nat.le_trans hxb7.size (Ext.size (by repeat (first | exact Ext.refl _ | assumption | apply Ext.alloc | apply Ext.drew | apply Ext.setCell)))) ?_
            intro v8 w8 hown8 hgrow8 hat8
            have hx8 : Ext (w6.alloc (.cells #[.int .u64 (sn : Int), .int .i64 l.rule, .int .i64 l.on, .int .i64 l.e, .slice Al l.from_.length cl] 34)) w8 := Ext.grown (Ext.trans hx7 (by repeat (first | exact Ext.refl _ | assumption | apply Ext.alloc | apply Ext.drew | apply Ext.setCell))) hgrow8 (fun g hg => Nat.le_trans (Ext.size (a := (w6.alloc (.cells #[.int .u64 (sn : Int), .int .i64 l.rule, .int .i64 l.on, .int .i64 l.e, .slice Al l.from_.length cl] 34))) (by repeat (first | exact Ext.refl _ | assumption | apply Ext.alloc | apply Ext.drew | apply Ext.setCell))) (HR7.out.lt g hg).1)
            have HR8 := Lib.hid hown8
            have hH8 : w8.heap[w4.heap.size]? = some (.cells #[.int .i64 lg, .slice Au base.length cu, .slice (some ⟨g, 0, none⟩) steps.length cap] 25 (0, 0)) := (hx8.block (lt_heap HHS.out)).trans HHS.out
            obtain ⟨_, _, f2, ffr, flt⟩ := cells3 hH8
            have ff2 := ffr 2
            have HH8 := Lib.hid hH8
            obtain ⟨A8, c8, hv8⟩ := slice_of_row hown8
            subst hv8
            clear hown8 hgrow8 hat8 hH8 ffr
            refine hK.out _ _ ⟨(Ext.cell (p := ⟨w4.heap.size, 2, none⟩) (by repeat (first | exact Ext.refl _ | assumption | apply Ext.alloc | apply Ext.drew | apply Ext.setCell)) dlt).trans d2, (Ext.cell (p := ⟨g, j * 5, none⟩) (by repeat (first | exact Ext.refl _ | assumption | apply Ext.alloc | apply Ext.drew | apply Ext.setCell)) hgL).trans b0, (Ext.cell (p := ⟨g, j * 5 + 1, none⟩) (by repeat (first | exact Ext.refl _ | assumption | apply Ext.alloc | apply Ext.drew | apply Ext.setCell)) hgL).trans b1, (Ext.cell (p := ⟨g, j * 5 + 2, none⟩) (by repeat (first | exact Ext.refl _ | assumption | apply Ext.alloc | apply Ext.drew | apply Ext.setCell)) hgL).trans b2, (Ext.cell (p := ⟨g, j * 5 + 3, none⟩) (by repeat (first | exact Ext.refl _ | assumption | apply Ext.alloc | apply Ext.drew | apply Ext.setCell)) hgL).trans b3, (Ext.cell (p := ⟨g, j * 5 + 4, none⟩) (by repeat (first | exact Ext.refl _ | assumption | apply Ext.alloc | apply Ext.drew | apply Ext.setCell)) hgL).trans b4, (Ext.cell (p := ⟨w6.heap.size, 0, none⟩) (by repeat (first | exact Ext.refl _ | assumption | apply Ext.alloc | apply Ext.drew | apply Ext.setCell)) klt).trans k0, (Ext.cell (p := ⟨w6.heap.size, 1, none⟩) (by repeat (first | exact Ext.refl _ | assumption | apply Ext.alloc | apply Ext.drew | apply Ext.setCell)) klt).trans k1, (Ext.cell (p := ⟨w6.heap.size, 2, none⟩) (by repeat (first | exact Ext.refl _ | assumption | apply Ext.alloc | apply Ext.drew | apply Ext.setCell)) klt).trans k2, (Ext.cell (p := ⟨w6.heap.size, 3, none⟩) (by repeat (first | exact Ext.refl _ | assumption | apply Ext.alloc | apply Ext.drew | apply Ext.setCell)) klt).trans k3, (Ext.cell (p := ⟨w6.heap.size, 4, none⟩) (by repeat (first | exact Ext.refl _ | assumption | apply Ext.alloc | apply Ext.drew | apply Ext.setCell)) klt).trans k4⟩ (fun hHeld => ?_)
            clear hK K
            try simp only [Act.put, List.setIfInBounds_toArray, List.set_cons_zero, List.set_cons_succ, List.getElem_toArray, List.getElem_cons_succ, List.getElem_cons_zero]
            refine' ordU_take (i := 20) (v := _) rfl (by kernel_rfl) (by kernel_rfl) (by kernel_rfl) (by kernel_rfl) (fun _ _ _ h => h) (Or.inl ⟨by rfl, ?hycu217⟩) hHeld ?restcu217
            case hycu217 => (intro w' hSw; (try dsimp only at hSw); go_simp; (try with_reducible rfl))
            try simp only [Act.put, List.setIfInBounds_toArray, List.set_cons_zero, List.set_cons_succ, List.getElem_toArray, List.getElem_cons_succ, List.getElem_cons_zero]
            refine ordU_last (by kernel_rfl) rfl (fun K hK => ?_)
            go_simp
            refine hK.out _ _ ?_
            clear hK K
            try simp only [Act.put, List.setIfInBounds_toArray, List.set_cons_zero, List.set_cons_succ, List.getElem_toArray, List.getElem_cons_succ, List.getElem_cons_zero]
            refine ordU_done (by kernel_rfl) ?_ _
            have SC9 := set_3rd HH8.out (.slice A8 (steps.length + 1) c8)
            obtain ⟨m0, m1, m2, _, mlt⟩ := cells3 SC9
            have XP9 := Lib.hid ((XPL.out.trans hx8).setCell (p := ⟨w4.heap.size, 2, none⟩) (Nat.le_of_eq HPS.out) (.slice A8 (steps.length + 1) c8))
            have HF9 := Lib.hid (HFP.out.ext XP9.out)
            have HR9 := Lib.hid (ownsRow_setCell_other (a := ⟨w4.heap.size, 2, none⟩) HR8.out (fun e => absurd (Nat.lt_of_lt_of_le dlt (Nat.le_trans (Ext.size (a := (w6.alloc (.cells #[.int .u64 (sn : Int), .int .i64 l.rule, .int .i64 l.on, .int .i64 l.e, .slice Al l.from_.length cl] 34))) (by repeat (first | exact Ext.refl _ | assumption | apply Ext.alloc | apply Ext.drew | apply Ext.setCell))) (HR8.out.lt _ e).1)) (Nat.lt_irrefl _)) (.slice A8 (steps.length + 1) c8))
            have HS9 := Lib.hid (tail_sps (a := steps.take (steps.length - 1)) (ua := us.take (steps.length - 1)) (by rw [List.length_take, List.length_take, HPK.out.len]) (by rw [List.length_take]; omega) HR9.out (fun k y u h1 h2 => by
              have hk : k < steps.length - 1 := by have := (List.getElem?_eq_some_iff.1 h1).1; rw [List.length_take] at this; omega
              obtain ⟨_, _, _, _, _, h3, h4⟩ := HPK.out.at_ k y u (by rw [List.getElem?_set_ne (by omega)]; exact take_get h1) (take_get h2)
              exact ⟨h3.ext XP9.out, h4⟩) ⟨HB5.out.ext XP9.out, b6⟩ ⟨HA5.out.ext XP9.out, a6⟩)
            by_cases hjn : j = steps.length - 1
            · have hj5 : ((j : Int) == (steps.length : Int) - 1) = true := by rw [beq_iff_eq]; omega
              clear hjn
              go_wp2_with fail
              go_ret
              exact ⟨rfl, HPX.out.trans XP9.out⟩
            · have hj5 : ((j : Int) == (steps.length : Int) - 1) = false := by rw [beq_eq_false_iff_ne]; omega
              have HW2 := Lib.hid (weakens2 HW1.out (by rw [List.length_set]; omega) (by rw [List.length_set]; omega) HXJ.out (by rw [List.length_set]; exact List.getElem?_set_self (by omega)))
              rw [List.length_set, take_set_last] at HW2
              clear hjn
              go_wp2_with fail
              refine (checkS_any (lg := lg) HF9.out HS9.out).mono ?_
              rintro e w10 ⟨rfl, hx10⟩
              rw [HW2.out]
              go_wp2_with fail
              go_ret
              exact ⟨rfl, (HPX.out.trans XP9.out).trans hx10⟩
          · skip
            go_simp
            refine hK.out _ _ ⟨(Ext.cell (p := ⟨w4.heap.size, 2, none⟩) (by repeat (first | exact Ext.refl _ | assumption | apply Ext.alloc | apply Ext.drew | apply Ext.setCell)) dlt).trans d2, (Ext.cell (p := ⟨g, j * 5, none⟩) (by repeat (first | exact Ext.refl _ | assumption | apply Ext.alloc | apply Ext.drew | apply Ext.setCell)) hgL).trans b0, (Ext.cell (p := ⟨g, j * 5 + 1, none⟩) (by repeat (first | exact Ext.refl _ | assumption | apply Ext.alloc | apply Ext.drew | apply Ext.setCell)) hgL).trans b1, (Ext.cell (p := ⟨g, j * 5 + 2, none⟩) (by repeat (first | exact Ext.refl _ | assumption | apply Ext.alloc | apply Ext.drew | apply Ext.setCell)) hgL).trans b2, (Ext.cell (p := ⟨g, j * 5 + 3, none⟩) (by repeat (first | exact Ext.refl _ | assumption | apply Ext.alloc | apply Ext.drew | apply Ext.setCell)) hgL).trans b3, (Ext.cell (p := ⟨g, j * 5 + 4, none⟩) (by repeat (first | exact Ext.refl _ | assumption | apply Ext.alloc | apply Ext.drew | apply Ext.setCell)) hgL).trans b4, (Ext.cell (p := ⟨w6.heap.size, 0, none⟩) (by repeat (first | exact Ext.refl _ | assumption | apply Ext.alloc | apply Ext.drew | apply Ext.setCell)) klt).trans k0, (Ext.cell (p := ⟨w6.heap.size, 1, none⟩) (by repeat (first | exact Ext.refl _ | assumption | apply Ext.alloc | apply Ext.drew | apply Ext.setCell)) klt).trans k1, (Ext.cell (p := ⟨w6.heap.size, 2, none⟩) (by repeat (first | exact Ext.refl _ | assumption | apply Ext.alloc | apply Ext.drew | apply Ext.setCell)) klt).trans k2, (Ext.cell (p := ⟨w6.heap.size, 3, none⟩) (by repeat (first | exact Ext.refl _ | assumption | apply Ext.alloc | apply Ext.drew | apply Ext.setCell)) klt).trans k3, (Ext.cell (p := ⟨w6.heap.size, 4, none⟩) (by repeat (first | exact Ext.refl _ | assumption | apply Ext.alloc | apply Ext.drew | apply Ext.setCell)) klt).trans k4⟩ (fun hHeld => ?_)
            clear hK K
            try simp only [Act.put, List.setIfInBounds_toArray, List.set_cons_zero, List.set_cons_succ, List.getElem_toArray, List.getElem_cons_succ, List.getElem_cons_zero]
            refine ordU_ready (rs := [16]) (by kernel_rfl) (by simp) ?_
            refine AllU.cons rfl (fun K hK => ?_) AllU.nil
            refine step_append_grows rfl (.tmp 74) (.tmp 83) 23 rfl 34 iS (.agg #[.int .u64 0, .int .i64 0, .int .i64 0, .int .i64 0, .slice none 0 0]) 5 56 Try.underlying23 hiS hzS0 hzS1 hzS2 rfl (by decide) ⟨g, 0, none⟩ (steps.length - 1) (steps.length - 1) (stepCells (steps.take (steps.length - 1)) (us.take (steps.length - 1))) (by simp [Act.eval]) hlus (fun j u hu => by rw [addr_zero]; exact (Ext.cell (p := ⟨g, j, none⟩) (by repeat (first | exact Ext.refl _ | assumption | apply Ext.alloc | apply Ext.drew | apply Ext.setCell)) hgL).trans (HOLD.out j u hu)) ⟨_, 0, none⟩ 1 1 (xj.cells (.slice Aj xj.from_.length cj)) (by simp [Act.eval]; rfl) rfl (by first | exact row_new_at _ _ _ (by simp) | exact fun j u hu => (((Ext.refl _).alloc _).cell (p := (⟨_, 0, none⟩ : Addr).add j) (by rw [block_of_add]; simp)).trans (row_new_at _ _ _ (by simp) j u hu)) hfull hm1 hm2 ?_
            intro v7 w7 hown7 hgrow7
            have hxb7 := Ext.grown (Ext.refl _) hgrow7 (fun _ h => by cases h)
            have hx7 : Ext (w6.alloc (.cells #[.int .u64 (sn : Int), .int .i64 l.rule, .int .i64 l.on, .int .i64 l.e, .slice Al l.from_.length cl] 34)) w7 := Ext.grown (by repeat (first | exact Ext.refl _ | assumption | apply Ext.alloc | apply Ext.drew | apply Ext.setCell)) hgrow7 (fun _ h => by cases h)
            rw [HLEN1.out] at hown7
            have HR7 := Lib.hid hown7
            obtain ⟨A7, c7, hv7⟩ := slice_of_row hown7
            subst hv7
            clear hown7 hgrow7
            refine hK.out _ _ ⟨(Ext.cell (p := ⟨w4.heap.size, 2, none⟩) (by repeat (first | exact Ext.refl _ | assumption | apply Ext.alloc | apply Ext.drew | apply Ext.setCell)) dlt).trans d2, (Ext.cell (p := ⟨g, j * 5, none⟩) (by repeat (first | exact Ext.refl _ | assumption | apply Ext.alloc | apply Ext.drew | apply Ext.setCell)) hgL).trans b0, (Ext.cell (p := ⟨g, j * 5 + 1, none⟩) (by repeat (first | exact Ext.refl _ | assumption | apply Ext.alloc | apply Ext.drew | apply Ext.setCell)) hgL).trans b1, (Ext.cell (p := ⟨g, j * 5 + 2, none⟩) (by repeat (first | exact Ext.refl _ | assumption | apply Ext.alloc | apply Ext.drew | apply Ext.setCell)) hgL).trans b2, (Ext.cell (p := ⟨g, j * 5 + 3, none⟩) (by repeat (first | exact Ext.refl _ | assumption | apply Ext.alloc | apply Ext.drew | apply Ext.setCell)) hgL).trans b3, (Ext.cell (p := ⟨g, j * 5 + 4, none⟩) (by repeat (first | exact Ext.refl _ | assumption | apply Ext.alloc | apply Ext.drew | apply Ext.setCell)) hgL).trans b4, (Ext.cell (p := ⟨w6.heap.size, 0, none⟩) (by repeat (first | exact Ext.refl _ | assumption | apply Ext.alloc | apply Ext.drew | apply Ext.setCell)) klt).trans k0, (Ext.cell (p := ⟨w6.heap.size, 1, none⟩) (by repeat (first | exact Ext.refl _ | assumption | apply Ext.alloc | apply Ext.drew | apply Ext.setCell)) klt).trans k1, (Ext.cell (p := ⟨w6.heap.size, 2, none⟩) (by repeat (first | exact Ext.refl _ | assumption | apply Ext.alloc | apply Ext.drew | apply Ext.setCell)) klt).trans k2, (Ext.cell (p := ⟨w6.heap.size, 3, none⟩) (by repeat (first | exact Ext.refl _ | assumption | apply Ext.alloc | apply Ext.drew | apply Ext.setCell)) klt).trans k3, (Ext.cell (p := ⟨w6.heap.size, 4, none⟩) (by repeat (first | exact Ext.refl _ | assumption | apply Ext.alloc | apply Ext.drew | apply Ext.setCell)) klt).trans k4⟩ (fun hHeld => ?_)
            clear hK K
            try simp only [Act.put, List.setIfInBounds_toArray, List.set_cons_zero, List.set_cons_succ, List.getElem_toArray, List.getElem_cons_succ, List.getElem_cons_zero]
            refine ordU_ready (rs := [19]) (by kernel_rfl) (by simp) ?_
            refine AllU.cons rfl (fun K hK => ?_) AllU.nil
            refine step_append_at rfl (.tmp 84) (.tmp 86) 23 rfl _ 34 iS (.agg #[.int .u64 0, .int .i64 0, .int .i64 0, .int .i64 0, .slice none 0 0]) 5 56 Try.underlying23 hiS hzS0 hzS1 hzS2 rfl (by decide) (.slice A7 steps.length c7) steps.length _ (by simp [Act.eval]) (row_ext HR7.out (by repeat (first | exact Ext.refl _ | assumption | apply Ext.alloc | apply Ext.drew | apply Ext.setCell))) ⟨_, 0, none⟩ 1 1 (Stp.cells { l with set := sn } (.slice Al l.from_.length cl)) (by simp [Act.eval]; rfl) rfl (by first | exact row_new_at _ _ _ (by simp) | exact fun j u hu => (hxb7.cell (p := (⟨_, 0, none⟩ : Addr).add j) (by rw [block_of_add]; simp)).trans (row_new_at _ _ _ (by simp) j u hu) | exact fun j u hu => (hxb7.cell (p := (⟨_, 0, none⟩ : Addr).add j) (by rw [block_of_add]; simp)).trans ((((Ext.refl _).alloc _).cell (p := (⟨_, 0, none⟩ : Addr).add j) (by rw [block_of_add]; simp)).trans (row_new_at _ _ _ (by simp) j u hu))) (fun u hu => stepOne _ _ _ _ u hu) hm3 hm4 (Nat.le_trans hxb7.size (Ext.size (by repeat (first | exact Ext.refl _ | assumption | apply Ext.alloc | apply Ext.drew | apply Ext.setCell)))) ?_
            intro v8 w8 hown8 hgrow8 hat8
            have hx8 : Ext (w6.alloc (.cells #[.int .u64 (sn : Int), .int .i64 l.rule, .int .i64 l.on, .int .i64 l.e, .slice Al l.from_.length cl] 34)) w8 := Ext.grown (Ext.trans hx7 (by repeat (first | exact Ext.refl _ | assumption | apply Ext.alloc | apply Ext.drew | apply Ext.setCell))) hgrow8 (fun g hg => Nat.le_trans (Ext.size (a := (w6.alloc (.cells #[.int .u64 (sn : Int), .int .i64 l.rule, .int .i64 l.on, .int .i64 l.e, .slice Al l.from_.length cl] 34))) (by repeat (first | exact Ext.refl _ | assumption | apply Ext.alloc | apply Ext.drew | apply Ext.setCell))) (HR7.out.lt g hg).1)
            have HR8 := Lib.hid hown8
            have hH8 : w8.heap[w4.heap.size]? = some (.cells #[.int .i64 lg, .slice Au base.length cu, .slice (some ⟨g, 0, none⟩) steps.length cap] 25 (0, 0)) := (hx8.block (lt_heap HHS.out)).trans HHS.out
            obtain ⟨_, _, f2, ffr, flt⟩ := cells3 hH8
            have ff2 := ffr 2
            have HH8 := Lib.hid hH8
            obtain ⟨A8, c8, hv8⟩ := slice_of_row hown8
            subst hv8
            clear hown8 hgrow8 hat8 hH8 ffr
            refine hK.out _ _ ⟨(Ext.cell (p := ⟨w4.heap.size, 2, none⟩) (by repeat (first | exact Ext.refl _ | assumption | apply Ext.alloc | apply Ext.drew | apply Ext.setCell)) dlt).trans d2, (Ext.cell (p := ⟨g, j * 5, none⟩) (by repeat (first | exact Ext.refl _ | assumption | apply Ext.alloc | apply Ext.drew | apply Ext.setCell)) hgL).trans b0, (Ext.cell (p := ⟨g, j * 5 + 1, none⟩) (by repeat (first | exact Ext.refl _ | assumption | apply Ext.alloc | apply Ext.drew | apply Ext.setCell)) hgL).trans b1, (Ext.cell (p := ⟨g, j * 5 + 2, none⟩) (by repeat (first | exact Ext.refl _ | assumption | apply Ext.alloc | apply Ext.drew | apply Ext.setCell)) hgL).trans b2, (Ext.cell (p := ⟨g, j * 5 + 3, none⟩) (by repeat (first | exact Ext.refl _ | assumption | apply Ext.alloc | apply Ext.drew | apply Ext.setCell)) hgL).trans b3, (Ext.cell (p := ⟨g, j * 5 + 4, none⟩) (by repeat (first | exact Ext.refl _ | assumption | apply Ext.alloc | apply Ext.drew | apply Ext.setCell)) hgL).trans b4, (Ext.cell (p := ⟨w6.heap.size, 0, none⟩) (by repeat (first | exact Ext.refl _ | assumption | apply Ext.alloc | apply Ext.drew | apply Ext.setCell)) klt).trans k0, (Ext.cell (p := ⟨w6.heap.size, 1, none⟩) (by repeat (first | exact Ext.refl _ | assumption | apply Ext.alloc | apply Ext.drew | apply Ext.setCell)) klt).trans k1, (Ext.cell (p := ⟨w6.heap.size, 2, none⟩) (by repeat (first | exact Ext.refl _ | assumption | apply Ext.alloc | apply Ext.drew | apply Ext.setCell)) klt).trans k2, (Ext.cell (p := ⟨w6.heap.size, 3, none⟩) (by repeat (first | exact Ext.refl _ | assumption | apply Ext.alloc | apply Ext.drew | apply Ext.setCell)) klt).trans k3, (Ext.cell (p := ⟨w6.heap.size, 4, none⟩) (by repeat (first | exact Ext.refl _ | assumption | apply Ext.alloc | apply Ext.drew | apply Ext.setCell)) klt).trans k4⟩ (fun hHeld => ?_)
            clear hK K
            try simp only [Act.put, List.setIfInBounds_toArray, List.set_cons_zero, List.set_cons_succ, List.getElem_toArray, List.getElem_cons_succ, List.getElem_cons_zero]
            refine' ordU_take (i := 20) (v := _) rfl (by kernel_rfl) (by kernel_rfl) (by kernel_rfl) (by kernel_rfl) (fun _ _ _ h => h) (Or.inl ⟨by rfl, ?hycu218⟩) hHeld ?restcu218
            case hycu218 => (intro w' hSw; (try dsimp only at hSw); go_simp; (try with_reducible rfl))
            try simp only [Act.put, List.setIfInBounds_toArray, List.set_cons_zero, List.set_cons_succ, List.getElem_toArray, List.getElem_cons_succ, List.getElem_cons_zero]
            refine ordU_last (by kernel_rfl) rfl (fun K hK => ?_)
            go_simp
            refine hK.out _ _ ?_
            clear hK K
            try simp only [Act.put, List.setIfInBounds_toArray, List.set_cons_zero, List.set_cons_succ, List.getElem_toArray, List.getElem_cons_succ, List.getElem_cons_zero]
            refine ordU_done (by kernel_rfl) ?_ _
            have SC9 := set_3rd HH8.out (.slice A8 (steps.length + 1) c8)
            obtain ⟨m0, m1, m2, _, mlt⟩ := cells3 SC9
            have XP9 := Lib.hid ((XPL.out.trans hx8).setCell (p := ⟨w4.heap.size, 2, none⟩) (Nat.le_of_eq HPS.out) (.slice A8 (steps.length + 1) c8))
            have HF9 := Lib.hid (HFP.out.ext XP9.out)
            have HR9 := Lib.hid (ownsRow_setCell_other (a := ⟨w4.heap.size, 2, none⟩) HR8.out (fun e => absurd (Nat.lt_of_lt_of_le dlt (Nat.le_trans (Ext.size (a := (w6.alloc (.cells #[.int .u64 (sn : Int), .int .i64 l.rule, .int .i64 l.on, .int .i64 l.e, .slice Al l.from_.length cl] 34))) (by repeat (first | exact Ext.refl _ | assumption | apply Ext.alloc | apply Ext.drew | apply Ext.setCell))) (HR8.out.lt _ e).1)) (Nat.lt_irrefl _)) (.slice A8 (steps.length + 1) c8))
            have HS9 := Lib.hid (tail_sps (a := steps.take (steps.length - 1)) (ua := us.take (steps.length - 1)) (by rw [List.length_take, List.length_take, HPK.out.len]) (by rw [List.length_take]; omega) HR9.out (fun k y u h1 h2 => by
              have hk : k < steps.length - 1 := by have := (List.getElem?_eq_some_iff.1 h1).1; rw [List.length_take] at this; omega
              obtain ⟨_, _, _, _, _, h3, h4⟩ := HPK.out.at_ k y u (by rw [List.getElem?_set_ne (by omega)]; exact take_get h1) (take_get h2)
              exact ⟨h3.ext XP9.out, h4⟩) ⟨HB5.out.ext XP9.out, b6⟩ ⟨HA5.out.ext XP9.out, a6⟩)
            by_cases hjn : j = steps.length - 1
            · have hj5 : ((j : Int) == (steps.length : Int) - 1) = true := by rw [beq_iff_eq]; omega
              clear hjn
              go_wp2_with fail
              go_ret
              exact ⟨rfl, HPX.out.trans XP9.out⟩
            · have hj5 : ((j : Int) == (steps.length : Int) - 1) = false := by rw [beq_eq_false_iff_ne]; omega
              have HW2 := Lib.hid (weakens2 HW1.out (by rw [List.length_set]; omega) (by rw [List.length_set]; omega) HXJ.out (by rw [List.length_set]; exact List.getElem?_set_self (by omega)))
              rw [List.length_set, take_set_last] at HW2
              clear hjn
              go_wp2_with fail
              refine (checkS_any (lg := lg) HF9.out HS9.out).mono ?_
              rintro e w10 ⟨rfl, hx10⟩
              rw [HW2.out]
              go_wp2_with fail
              go_ret
              exact ⟨rfl, (HPX.out.trans XP9.out).trans hx10⟩
        · skip
          go_simp
          refine hK.out _ _ ⟨(Ext.cell (p := ⟨w4.heap.size, 2, none⟩) (by repeat (first | exact Ext.refl _ | assumption | apply Ext.alloc | apply Ext.drew | apply Ext.setCell)) dlt).trans d2, (Ext.cell (p := ⟨g, j * 5, none⟩) (by repeat (first | exact Ext.refl _ | assumption | apply Ext.alloc | apply Ext.drew | apply Ext.setCell)) hgL).trans b0, (Ext.cell (p := ⟨g, j * 5 + 1, none⟩) (by repeat (first | exact Ext.refl _ | assumption | apply Ext.alloc | apply Ext.drew | apply Ext.setCell)) hgL).trans b1, (Ext.cell (p := ⟨g, j * 5 + 2, none⟩) (by repeat (first | exact Ext.refl _ | assumption | apply Ext.alloc | apply Ext.drew | apply Ext.setCell)) hgL).trans b2, (Ext.cell (p := ⟨g, j * 5 + 3, none⟩) (by repeat (first | exact Ext.refl _ | assumption | apply Ext.alloc | apply Ext.drew | apply Ext.setCell)) hgL).trans b3, (Ext.cell (p := ⟨g, j * 5 + 4, none⟩) (by repeat (first | exact Ext.refl _ | assumption | apply Ext.alloc | apply Ext.drew | apply Ext.setCell)) hgL).trans b4, (Ext.cell (p := ⟨w6.heap.size, 0, none⟩) (by repeat (first | exact Ext.refl _ | assumption | apply Ext.alloc | apply Ext.drew | apply Ext.setCell)) klt).trans k0, (Ext.cell (p := ⟨w6.heap.size, 1, none⟩) (by repeat (first | exact Ext.refl _ | assumption | apply Ext.alloc | apply Ext.drew | apply Ext.setCell)) klt).trans k1, (Ext.cell (p := ⟨w6.heap.size, 2, none⟩) (by repeat (first | exact Ext.refl _ | assumption | apply Ext.alloc | apply Ext.drew | apply Ext.setCell)) klt).trans k2, (Ext.cell (p := ⟨w6.heap.size, 3, none⟩) (by repeat (first | exact Ext.refl _ | assumption | apply Ext.alloc | apply Ext.drew | apply Ext.setCell)) klt).trans k3, (Ext.cell (p := ⟨w6.heap.size, 4, none⟩) (by repeat (first | exact Ext.refl _ | assumption | apply Ext.alloc | apply Ext.drew | apply Ext.setCell)) klt).trans k4⟩ (fun hHeld => ?_)
          clear hK K
          try simp only [Act.put, List.setIfInBounds_toArray, List.set_cons_zero, List.set_cons_succ, List.getElem_toArray, List.getElem_cons_succ, List.getElem_cons_zero]
          refine ordU_ready (rs := [15]) (by kernel_rfl) (by simp) ?_
          refine AllU.cons rfl (fun K hK => ?_) AllU.nil
          go_simp
          refine hK.out _ _ ⟨(Ext.cell (p := ⟨w4.heap.size, 2, none⟩) (by repeat (first | exact Ext.refl _ | assumption | apply Ext.alloc | apply Ext.drew | apply Ext.setCell)) dlt).trans d2, (Ext.cell (p := ⟨g, j * 5, none⟩) (by repeat (first | exact Ext.refl _ | assumption | apply Ext.alloc | apply Ext.drew | apply Ext.setCell)) hgL).trans b0, (Ext.cell (p := ⟨g, j * 5 + 1, none⟩) (by repeat (first | exact Ext.refl _ | assumption | apply Ext.alloc | apply Ext.drew | apply Ext.setCell)) hgL).trans b1, (Ext.cell (p := ⟨g, j * 5 + 2, none⟩) (by repeat (first | exact Ext.refl _ | assumption | apply Ext.alloc | apply Ext.drew | apply Ext.setCell)) hgL).trans b2, (Ext.cell (p := ⟨g, j * 5 + 3, none⟩) (by repeat (first | exact Ext.refl _ | assumption | apply Ext.alloc | apply Ext.drew | apply Ext.setCell)) hgL).trans b3, (Ext.cell (p := ⟨g, j * 5 + 4, none⟩) (by repeat (first | exact Ext.refl _ | assumption | apply Ext.alloc | apply Ext.drew | apply Ext.setCell)) hgL).trans b4, (Ext.cell (p := ⟨w6.heap.size, 0, none⟩) (by repeat (first | exact Ext.refl _ | assumption | apply Ext.alloc | apply Ext.drew | apply Ext.setCell)) klt).trans k0, (Ext.cell (p := ⟨w6.heap.size, 1, none⟩) (by repeat (first | exact Ext.refl _ | assumption | apply Ext.alloc | apply Ext.drew | apply Ext.setCell)) klt).trans k1, (Ext.cell (p := ⟨w6.heap.size, 2, none⟩) (by repeat (first | exact Ext.refl _ | assumption | apply Ext.alloc | apply Ext.drew | apply Ext.setCell)) klt).trans k2, (Ext.cell (p := ⟨w6.heap.size, 3, none⟩) (by repeat (first | exact Ext.refl _ | assumption | apply Ext.alloc | apply Ext.drew | apply Ext.setCell)) klt).trans k3, (Ext.cell (p := ⟨w6.heap.size, 4, none⟩) (by repeat (first | exact Ext.refl _ | assumption | apply Ext.alloc | apply Ext.drew | apply Ext.setCell)) klt).trans k4⟩ (fun hHeld => ?_)
          clear hK K
          try simp only [Act.put, List.setIfInBounds_toArray, List.set_cons_zero, List.set_cons_succ, List.getElem_toArray, List.getElem_cons_succ, List.getElem_cons_zero]
          refine ordU_ready (rs := [16]) (by kernel_rfl) (by simp) ?_
          refine AllU.cons rfl (fun K hK => ?_) AllU.nil
          refine step_append_grows rfl (.tmp 74) (.tmp 83) 23 rfl 34 iS (.agg #[.int .u64 0, .int .i64 0, .int .i64 0, .int .i64 0, .slice none 0 0]) 5 56 Try.underlying23 hiS hzS0 hzS1 hzS2 rfl (by decide) ⟨g, 0, none⟩ (steps.length - 1) (steps.length - 1) (stepCells (steps.take (steps.length - 1)) (us.take (steps.length - 1))) (by simp [Act.eval]) hlus (fun j u hu => by rw [addr_zero]; exact (Ext.cell (p := ⟨g, j, none⟩) (by repeat (first | exact Ext.refl _ | assumption | apply Ext.alloc | apply Ext.drew | apply Ext.setCell)) hgL).trans (HOLD.out j u hu)) ⟨_, 0, none⟩ 1 1 (xj.cells (.slice Aj xj.from_.length cj)) (by simp [Act.eval]; rfl) rfl (by first | exact row_new_at _ _ _ (by simp) | exact fun j u hu => (((Ext.refl _).alloc _).cell (p := (⟨_, 0, none⟩ : Addr).add j) (by rw [block_of_add]; simp)).trans (row_new_at _ _ _ (by simp) j u hu)) hfull hm1 hm2 ?_
          intro v7 w7 hown7 hgrow7
          have hxb7 := Ext.grown (Ext.refl _) hgrow7 (fun _ h => by cases h)
          have hx7 : Ext (w6.alloc (.cells #[.int .u64 (sn : Int), .int .i64 l.rule, .int .i64 l.on, .int .i64 l.e, .slice Al l.from_.length cl] 34)) w7 := Ext.grown (by repeat (first | exact Ext.refl _ | assumption | apply Ext.alloc | apply Ext.drew | apply Ext.setCell)) hgrow7 (fun _ h => by cases h)
          rw [HLEN1.out] at hown7
          have HR7 := Lib.hid hown7
          obtain ⟨A7, c7, hv7⟩ := slice_of_row hown7
          subst hv7
          clear hown7 hgrow7
          refine hK.out _ _ ⟨(Ext.cell (p := ⟨w4.heap.size, 2, none⟩) (by repeat (first | exact Ext.refl _ | assumption | apply Ext.alloc | apply Ext.drew | apply Ext.setCell)) dlt).trans d2, (Ext.cell (p := ⟨g, j * 5, none⟩) (by repeat (first | exact Ext.refl _ | assumption | apply Ext.alloc | apply Ext.drew | apply Ext.setCell)) hgL).trans b0, (Ext.cell (p := ⟨g, j * 5 + 1, none⟩) (by repeat (first | exact Ext.refl _ | assumption | apply Ext.alloc | apply Ext.drew | apply Ext.setCell)) hgL).trans b1, (Ext.cell (p := ⟨g, j * 5 + 2, none⟩) (by repeat (first | exact Ext.refl _ | assumption | apply Ext.alloc | apply Ext.drew | apply Ext.setCell)) hgL).trans b2, (Ext.cell (p := ⟨g, j * 5 + 3, none⟩) (by repeat (first | exact Ext.refl _ | assumption | apply Ext.alloc | apply Ext.drew | apply Ext.setCell)) hgL).trans b3, (Ext.cell (p := ⟨g, j * 5 + 4, none⟩) (by repeat (first | exact Ext.refl _ | assumption | apply Ext.alloc | apply Ext.drew | apply Ext.setCell)) hgL).trans b4, (Ext.cell (p := ⟨w6.heap.size, 0, none⟩) (by repeat (first | exact Ext.refl _ | assumption | apply Ext.alloc | apply Ext.drew | apply Ext.setCell)) klt).trans k0, (Ext.cell (p := ⟨w6.heap.size, 1, none⟩) (by repeat (first | exact Ext.refl _ | assumption | apply Ext.alloc | apply Ext.drew | apply Ext.setCell)) klt).trans k1, (Ext.cell (p := ⟨w6.heap.size, 2, none⟩) (by repeat (first | exact Ext.refl _ | assumption | apply Ext.alloc | apply Ext.drew | apply Ext.setCell)) klt).trans k2, (Ext.cell (p := ⟨w6.heap.size, 3, none⟩) (by repeat (first | exact Ext.refl _ | assumption | apply Ext.alloc | apply Ext.drew | apply Ext.setCell)) klt).trans k3, (Ext.cell (p := ⟨w6.heap.size, 4, none⟩) (by repeat (first | exact Ext.refl _ | assumption | apply Ext.alloc | apply Ext.drew | apply Ext.setCell)) klt).trans k4⟩ (fun hHeld => ?_)
          clear hK K
          try simp only [Act.put, List.setIfInBounds_toArray, List.set_cons_zero, List.set_cons_succ, List.getElem_toArray, List.getElem_cons_succ, List.getElem_cons_zero]
          refine ordU_ready (rs := [19]) (by kernel_rfl) (by simp) ?_
          refine AllU.cons rfl (fun K hK => ?_) AllU.nil
          refine step_append_at rfl (.tmp 84) (.tmp 86) 23 rfl _ 34 iS (.agg #[.int .u64 0, .int .i64 0, .int .i64 0, .int .i64 0, .slice none 0 0]) 5 56 Try.underlying23 hiS hzS0 hzS1 hzS2 rfl (by decide) (.slice A7 steps.length c7) steps.length _ (by simp [Act.eval]) (row_ext HR7.out (by repeat (first | exact Ext.refl _ | assumption | apply Ext.alloc | apply Ext.drew | apply Ext.setCell))) ⟨_, 0, none⟩ 1 1 (Stp.cells { l with set := sn } (.slice Al l.from_.length cl)) (by simp [Act.eval]; rfl) rfl (by first | exact row_new_at _ _ _ (by simp) | exact fun j u hu => (hxb7.cell (p := (⟨_, 0, none⟩ : Addr).add j) (by rw [block_of_add]; simp)).trans (row_new_at _ _ _ (by simp) j u hu) | exact fun j u hu => (hxb7.cell (p := (⟨_, 0, none⟩ : Addr).add j) (by rw [block_of_add]; simp)).trans ((((Ext.refl _).alloc _).cell (p := (⟨_, 0, none⟩ : Addr).add j) (by rw [block_of_add]; simp)).trans (row_new_at _ _ _ (by simp) j u hu))) (fun u hu => stepOne _ _ _ _ u hu) hm3 hm4 (Nat.le_trans hxb7.size (Ext.size (by repeat (first | exact Ext.refl _ | assumption | apply Ext.alloc | apply Ext.drew | apply Ext.setCell)))) ?_
          intro v8 w8 hown8 hgrow8 hat8
          have hx8 : Ext (w6.alloc (.cells #[.int .u64 (sn : Int), .int .i64 l.rule, .int .i64 l.on, .int .i64 l.e, .slice Al l.from_.length cl] 34)) w8 := Ext.grown (Ext.trans hx7 (by repeat (first | exact Ext.refl _ | assumption | apply Ext.alloc | apply Ext.drew | apply Ext.setCell))) hgrow8 (fun g hg => Nat.le_trans (Ext.size (a := (w6.alloc (.cells #[.int .u64 (sn : Int), .int .i64 l.rule, .int .i64 l.on, .int .i64 l.e, .slice Al l.from_.length cl] 34))) (by repeat (first | exact Ext.refl _ | assumption | apply Ext.alloc | apply Ext.drew | apply Ext.setCell))) (HR7.out.lt g hg).1)
          have HR8 := Lib.hid hown8
          have hH8 : w8.heap[w4.heap.size]? = some (.cells #[.int .i64 lg, .slice Au base.length cu, .slice (some ⟨g, 0, none⟩) steps.length cap] 25 (0, 0)) := (hx8.block (lt_heap HHS.out)).trans HHS.out
          obtain ⟨_, _, f2, ffr, flt⟩ := cells3 hH8
          have ff2 := ffr 2
          have HH8 := Lib.hid hH8
          obtain ⟨A8, c8, hv8⟩ := slice_of_row hown8
          subst hv8
          clear hown8 hgrow8 hat8 hH8 ffr
          refine hK.out _ _ ⟨(Ext.cell (p := ⟨w4.heap.size, 2, none⟩) (by repeat (first | exact Ext.refl _ | assumption | apply Ext.alloc | apply Ext.drew | apply Ext.setCell)) dlt).trans d2, (Ext.cell (p := ⟨g, j * 5, none⟩) (by repeat (first | exact Ext.refl _ | assumption | apply Ext.alloc | apply Ext.drew | apply Ext.setCell)) hgL).trans b0, (Ext.cell (p := ⟨g, j * 5 + 1, none⟩) (by repeat (first | exact Ext.refl _ | assumption | apply Ext.alloc | apply Ext.drew | apply Ext.setCell)) hgL).trans b1, (Ext.cell (p := ⟨g, j * 5 + 2, none⟩) (by repeat (first | exact Ext.refl _ | assumption | apply Ext.alloc | apply Ext.drew | apply Ext.setCell)) hgL).trans b2, (Ext.cell (p := ⟨g, j * 5 + 3, none⟩) (by repeat (first | exact Ext.refl _ | assumption | apply Ext.alloc | apply Ext.drew | apply Ext.setCell)) hgL).trans b3, (Ext.cell (p := ⟨g, j * 5 + 4, none⟩) (by repeat (first | exact Ext.refl _ | assumption | apply Ext.alloc | apply Ext.drew | apply Ext.setCell)) hgL).trans b4, (Ext.cell (p := ⟨w6.heap.size, 0, none⟩) (by repeat (first | exact Ext.refl _ | assumption | apply Ext.alloc | apply Ext.drew | apply Ext.setCell)) klt).trans k0, (Ext.cell (p := ⟨w6.heap.size, 1, none⟩) (by repeat (first | exact Ext.refl _ | assumption | apply Ext.alloc | apply Ext.drew | apply Ext.setCell)) klt).trans k1, (Ext.cell (p := ⟨w6.heap.size, 2, none⟩) (by repeat (first | exact Ext.refl _ | assumption | apply Ext.alloc | apply Ext.drew | apply Ext.setCell)) klt).trans k2, (Ext.cell (p := ⟨w6.heap.size, 3, none⟩) (by repeat (first | exact Ext.refl _ | assumption | apply Ext.alloc | apply Ext.drew | apply Ext.setCell)) klt).trans k3, (Ext.cell (p := ⟨w6.heap.size, 4, none⟩) (by repeat (first | exact Ext.refl _ | assumption | apply Ext.alloc | apply Ext.drew | apply Ext.setCell)) klt).trans k4⟩ (fun hHeld => ?_)
          clear hK K
          try simp only [Act.put, List.setIfInBounds_toArray, List.set_cons_zero, List.set_cons_succ, List.getElem_toArray, List.getElem_cons_succ, List.getElem_cons_zero]
          refine' ordU_take (i := 20) (v := _) rfl (by kernel_rfl) (by kernel_rfl) (by kernel_rfl) (by kernel_rfl) (fun _ _ _ h => h) (Or.inl ⟨by rfl, ?hycu219⟩) hHeld ?restcu219
          case hycu219 => (intro w' hSw; (try dsimp only at hSw); go_simp; (try with_reducible rfl))
          try simp only [Act.put, List.setIfInBounds_toArray, List.set_cons_zero, List.set_cons_succ, List.getElem_toArray, List.getElem_cons_succ, List.getElem_cons_zero]
          refine ordU_last (by kernel_rfl) rfl (fun K hK => ?_)
          go_simp
          refine hK.out _ _ ?_
          clear hK K
          try simp only [Act.put, List.setIfInBounds_toArray, List.set_cons_zero, List.set_cons_succ, List.getElem_toArray, List.getElem_cons_succ, List.getElem_cons_zero]
          refine ordU_done (by kernel_rfl) ?_ _
          have SC9 := set_3rd HH8.out (.slice A8 (steps.length + 1) c8)
          obtain ⟨m0, m1, m2, _, mlt⟩ := cells3 SC9
          have XP9 := Lib.hid ((XPL.out.trans hx8).setCell (p := ⟨w4.heap.size, 2, none⟩) (Nat.le_of_eq HPS.out) (.slice A8 (steps.length + 1) c8))
          have HF9 := Lib.hid (HFP.out.ext XP9.out)
          have HR9 := Lib.hid (ownsRow_setCell_other (a := ⟨w4.heap.size, 2, none⟩) HR8.out (fun e => absurd (Nat.lt_of_lt_of_le dlt (Nat.le_trans (Ext.size (a := (w6.alloc (.cells #[.int .u64 (sn : Int), .int .i64 l.rule, .int .i64 l.on, .int .i64 l.e, .slice Al l.from_.length cl] 34))) (by repeat (first | exact Ext.refl _ | assumption | apply Ext.alloc | apply Ext.drew | apply Ext.setCell))) (HR8.out.lt _ e).1)) (Nat.lt_irrefl _)) (.slice A8 (steps.length + 1) c8))
          have HS9 := Lib.hid (tail_sps (a := steps.take (steps.length - 1)) (ua := us.take (steps.length - 1)) (by rw [List.length_take, List.length_take, HPK.out.len]) (by rw [List.length_take]; omega) HR9.out (fun k y u h1 h2 => by
            have hk : k < steps.length - 1 := by have := (List.getElem?_eq_some_iff.1 h1).1; rw [List.length_take] at this; omega
            obtain ⟨_, _, _, _, _, h3, h4⟩ := HPK.out.at_ k y u (by rw [List.getElem?_set_ne (by omega)]; exact take_get h1) (take_get h2)
            exact ⟨h3.ext XP9.out, h4⟩) ⟨HB5.out.ext XP9.out, b6⟩ ⟨HA5.out.ext XP9.out, a6⟩)
          by_cases hjn : j = steps.length - 1
          · have hj5 : ((j : Int) == (steps.length : Int) - 1) = true := by rw [beq_iff_eq]; omega
            clear hjn
            go_wp2_with fail
            go_ret
            exact ⟨rfl, HPX.out.trans XP9.out⟩
          · have hj5 : ((j : Int) == (steps.length : Int) - 1) = false := by rw [beq_eq_false_iff_ne]; omega
            have HW2 := Lib.hid (weakens2 HW1.out (by rw [List.length_set]; omega) (by rw [List.length_set]; omega) HXJ.out (by rw [List.length_set]; exact List.getElem?_set_self (by omega)))
            rw [List.length_set, take_set_last] at HW2
            clear hjn
            go_wp2_with fail
            refine (checkS_any (lg := lg) HF9.out HS9.out).mono ?_
            rintro e w10 ⟨rfl, hx10⟩
            rw [HW2.out]
            go_wp2_with fail
            go_ret
            exact ⟨rfl, (HPX.out.trans XP9.out).trans hx10⟩
        
      · have hb63i : ¬ (base.length : Int) < 64 := by omega
        have HMK := Lib.hid (show bits .and .u64 (more : Int) 18446744073709551615 = ((more &&& (2 ^ base.length - 1) : Nat) : Int) by rw [show base.length = 64 by omega]; exact mask_64 hmore)
        have HMM64 := Lib.hid (show more &&& (2 ^ base.length - 1) < 18446744073709551616 from Nat.lt_of_le_of_lt Nat.and_le_left hmore)
        go_enter Try.func4, Try.ntmps4
        go_wp2_with fail
        refine (awake_any _).mono ?_
        rintro e w1 ⟨rfl, hx⟩
        have Y1 := Lib.hid (show Ext (w.alloc (.cells #[.int .i64 lg, .slice Ab base.length cb, .slice As steps.length cs] 25)) w1 from hx)
        have y0 := (Y1.out.cell (p := ⟨w.heap.size, 0, none⟩) ZLT.out).trans Z.out.1
        have y1 := (Y1.out.cell (p := ⟨w.heap.size, 1, none⟩) ZLT.out).trans Z.out.2.1
        have y2 := (Y1.out.cell (p := ⟨w.heap.size, 2, none⟩) ZLT.out).trans Z.out.2.2
        clear hx
        go_wp2_with fail
        refine (fewS_any (lg := lg) (H.out.ext (X0.out.trans Y1.out)) (HS.out.ext (X0.out.trans Y1.out))).mono ?_
        rintro e w2 ⟨rfl, hx⟩
        rw [HFW.out]
        have Y2 := Lib.hid (Y1.out.trans hx)
        have x0 := (Y2.out.cell (p := ⟨w.heap.size, 0, none⟩) ZLT.out).trans Z.out.1
        have x1 := (Y2.out.cell (p := ⟨w.heap.size, 1, none⟩) ZLT.out).trans Z.out.2.1
        have x2 := (Y2.out.cell (p := ⟨w.heap.size, 2, none⟩) ZLT.out).trans Z.out.2.2
        clear hx y0 y1 y2
        go_wp2_with fail
        refine (checkS_any (lg := lg) (H.out.ext (X0.out.trans Y2.out)) (HS.out.ext (X0.out.trans Y2.out))).mono ?_
        rintro e w3 ⟨rfl, hx⟩
        have Y3 := Lib.hid (Y2.out.trans hx)
        have v0 := (Y3.out.cell (p := ⟨w.heap.size, 0, none⟩) ZLT.out).trans Z.out.1
        have v1 := (Y3.out.cell (p := ⟨w.heap.size, 1, none⟩) ZLT.out).trans Z.out.2.1
        have v2 := (Y3.out.cell (p := ⟨w.heap.size, 2, none⟩) ZLT.out).trans Z.out.2.2
        rw [HCK.out]
        clear hx x0 x1 x2
        go_wp2_with fail
        refine (copy_any (lg := lg) (H.out.ext (X0.out.trans Y3.out)) (HS.out.ext (X0.out.trans Y3.out)) HFW.out).mono ?_
        rintro e w4 ⟨ub, us, rfl, hx, m, hm, hcr⟩
        have HCR := Lib.hid hcr.crow
        have Y4 := Lib.hid (Y3.out.trans hx)
        have u0 := (Y4.out.cell (p := ⟨w.heap.size, 0, none⟩) ZLT.out).trans Z.out.1
        have u1 := (Y4.out.cell (p := ⟨w.heap.size, 1, none⟩) ZLT.out).trans Z.out.2.1
        have u2 := (Y4.out.cell (p := ⟨w.heap.size, 2, none⟩) ZLT.out).trans Z.out.2.2
        have HFB := Lib.hid (HCR.out.fml HOK.out)
        obtain ⟨g, cap, rfl, hmg, hgl, hcap, hcapm, hgf, hsp⟩ := HCR.out.cells_ (by omega)
        obtain ⟨Au, cu, rfl, _⟩ := fml_slice HFB.out
        have XS := Lib.hid ((Ext.refl w4).alloc (.cells #[.int .i64 lg, .slice Au base.length cu, .slice (some ⟨g, 0, none⟩) steps.length cap] 25))
        have Y5 := Lib.hid (Y4.out.trans XS.out)
        obtain ⟨ul, p0, p1, p2, p3, p4, hui, hl64⟩ := hsp (steps.length - 1) l hla
        have c0 := (XS.out.cell (p := ⟨g, (steps.length - 1) * 5, none⟩) hgl).trans p0
        have c1 := (XS.out.cell (p := ⟨g, (steps.length - 1) * 5 + 1, none⟩) hgl).trans p1
        have c2 := (XS.out.cell (p := ⟨g, (steps.length - 1) * 5 + 2, none⟩) hgl).trans p2
        have c3 := (XS.out.cell (p := ⟨g, (steps.length - 1) * 5 + 3, none⟩) hgl).trans p3
        have c4 := (XS.out.cell (p := ⟨g, (steps.length - 1) * 5 + 4, none⟩) hgl).trans p4
        have cf := (XS.out.frozen (p := ⟨g, (steps.length - 1) * 5, none⟩) hgl).trans (hgf _)
        have HSP := Lib.hid hsp
        have hw1 : IntKind.i64.wrap ((steps.length : Int) - 1) = (steps.length : Int) - 1 := by rw [IntKind.wrap_i64]; omega
        have hn1 : ((steps.length : Int) - 1).toNat = steps.length - 1 := by omega
        have hn0 : (0 : Int) ≤ (steps.length : Int) - 1 := by omega
        have hn2 : (steps.length : Int) - 1 < (steps.length : Int) := by omega
        have hX34 := hx
        clear hx hcr v0 v1 v2 u0 u1 u2 hsp p0 p1 p2 p3 p4
        go_wp2_with fail
        rw [HMK.out, bits_or_u64_nat l.set _ hl64 HMM64.out]
        obtain ⟨sn, hsn⟩ : ∃ s, s = l.set ||| (more &&& (2 ^ base.length - 1)) := ⟨_, rfl⟩
        rw [← hsn]
        have HSN := Lib.hid hsn
        obtain ⟨us, hpk⟩ := poke_of HCR.out hla (s := sn) (by rw [hsn]; exact or_lt64 hl64 HMM64.out)
        have hPX := hX34.setCell (p := ⟨g, (steps.length - 1) * 5, none⟩) (Nat.le_trans hm hmg) (.int .u64 (sn : Int))
        have hPs : (w4.setCell ⟨g, (steps.length - 1) * 5, none⟩ (.int .u64 (sn : Int))).heap.size = w4.heap.size := size_setCell _ _ _
        generalize w4.setCell ⟨g, (steps.length - 1) * 5, none⟩ (.int .u64 (sn : Int)) = P at hpk hPX hPs ⊢
        have HPK := Lib.hid hpk
        have HPX := Lib.hid ((X0.out.trans Y3.out).trans hPX)
        have HFP := Lib.hid (show Fml P (.slice Au base.length cu) base from ⟨hpk.nds, HOK.out⟩)
        have SC := heap_alloc_new P (.cells #[.int .i64 lg, .slice Au base.length cu, .slice (some ⟨g, 0, none⟩) steps.length cap] 25)
        rw [hPs] at SC
        have HSC := Lib.hid SC
        obtain ⟨s0, s1, s2, _, slt⟩ := cells3 SC
        have HW1 := Lib.hid (show checkS lg base (steps.set (steps.length - 1) { l with set := sn }) = 0 by rw [hsn]; exact weakens1 HCK.out hla (and_mask_lt more base.length))
        have HPS := Lib.hid hPs
        clear hpk hPX hPs SC hX34 hsn
        refine (checkS_any (lg := lg) (HFP.out.ext ((Ext.refl P).alloc (.cells #[.int .i64 lg, .slice Au base.length cu, .slice (some ⟨g, 0, none⟩) steps.length cap] 25))) (HPK.out.sps.ext ((Ext.refl P).alloc (.cells #[.int .i64 lg, .slice Au base.length cu, .slice (some ⟨g, 0, none⟩) steps.length cap] 25)))).mono ?_
        rintro e w6 ⟨rfl, hx6⟩
        rw [HW1.out]
        have X6P := Lib.hid (((Ext.refl P).alloc (.cells #[.int .i64 lg, .slice Au base.length cu, .slice (some ⟨g, 0, none⟩) steps.length cap] 25)).trans hx6)
        have HS6 := Lib.hid ((hx6.block slt).trans HSC.out)
        obtain ⟨ul, hul⟩ : ∃ u, us[steps.length - 1]? = some u := ⟨_, List.getElem?_eq_getElem (by have := HPK.out.len; omega)⟩
        obtain ⟨a0, a1, a2, a3, a4, a5, a6⟩ := HPK.out.at_ (steps.length - 1) { l with set := sn } ul (List.getElem?_set_self (by omega)) hul
        have HA5 := Lib.hid a5
        obtain ⟨Al, cl, rfl, _⟩ := a5
        obtain ⟨j, hj⟩ : ∃ j, j = at_ % steps.length := ⟨_, rfl⟩
        have hjl : j < steps.length := by rw [hj]; exact Nat.mod_lt _ (by omega)
        obtain ⟨xj, hxj⟩ : ∃ x, (steps.set (steps.length - 1) { l with set := sn })[j]? = some x := ⟨_, List.getElem?_eq_getElem (by rw [List.length_set]; exact hjl)⟩
        obtain ⟨uj, huj⟩ : ∃ u, us[j]? = some u := ⟨_, List.getElem?_eq_getElem (by have := HPK.out.len; omega)⟩
        obtain ⟨b0, b1, b2, b3, b4, b5, b6⟩ := HPK.out.at_ j xj uj hxj huj
        have HB5 := Lib.hid b5
        obtain ⟨Aj, cj, rfl, _⟩ := b5
        have hgP := HPK.out.glt
        have t0 := (X6P.out.cell (p := ⟨g, (steps.length - 1) * 5, none⟩) hgP).trans a0
        have t1 := (X6P.out.cell (p := ⟨g, (steps.length - 1) * 5 + 1, none⟩) hgP).trans a1
        have t2 := (X6P.out.cell (p := ⟨g, (steps.length - 1) * 5 + 2, none⟩) hgP).trans a2
        have t3 := (X6P.out.cell (p := ⟨g, (steps.length - 1) * 5 + 3, none⟩) hgP).trans a3
        have t4 := (X6P.out.cell (p := ⟨g, (steps.length - 1) * 5 + 4, none⟩) hgP).trans a4
        obtain ⟨_, _, v2, _, _⟩ := cells3 HS6.out
        have hrem : Int.tmod (at_ : Int) (steps.length : Int) = (j : Int) := by rw [hj]; rfl
        have hnz : ((steps.length : Int) == 0) = false := hz0
        have hj0 : (0 : Int) ≤ (j : Int) := by omega
        have hj1 : (j : Int) < (steps.length : Int) := by omega
        have hcc : steps.length - 1 ≤ cap := by omega
        have hcc1 : (steps.length : Int) - 1 ≤ (cap : Int) := by omega
        have HJ := Lib.hid hj
        have HXJ := Lib.hid hxj
        have HUJ := Lib.hid huj
        have HUL := Lib.hid hul
        have HLA := Lib.hid hla
        obtain ⟨iS, hiS, hzS0, hzS1, hzS2⟩ := info_parts tInfoSt
        have XL := Lib.hid ((Ext.refl w6).alloc (.cells #[.int .u64 (sn : Int), .int .i64 l.rule, .int .i64 l.on, .int .i64 l.e, .slice Al l.from_.length cl] 34))
        have XPL := Lib.hid (X6P.out.trans XL.out)
        obtain ⟨k0, k1, k2, k3, k4, _, klt⟩ := cells5s (heap_alloc_new w6 (.cells #[.int .u64 (sn : Int), .int .i64 l.rule, .int .i64 l.on, .int .i64 l.e, .slice Al l.from_.length cl] 34))
        have hHS : (w6.alloc (.cells #[.int .u64 (sn : Int), .int .i64 l.rule, .int .i64 l.on, .int .i64 l.e, .slice Al l.from_.length cl] 34)).heap[w4.heap.size]? = some (.cells #[.int .i64 lg, .slice Au base.length cu, .slice (some ⟨g, 0, none⟩) steps.length cap] 25 (0, 0)) := (XL.out.block (lt_heap HS6.out)).trans HS6.out
        obtain ⟨_, _, d2, _, dlt⟩ := cells3 hHS
        have HHS := Lib.hid hHS
        have b0 := (XPL.out.cell (p := ⟨g, j * 5, none⟩) hgP).trans b0
        have b1 := (XPL.out.cell (p := ⟨g, j * 5 + 1, none⟩) hgP).trans b1
        have b2 := (XPL.out.cell (p := ⟨g, j * 5 + 2, none⟩) hgP).trans b2
        have b3 := (XPL.out.cell (p := ⟨g, j * 5 + 3, none⟩) hgP).trans b3
        have b4 := (XPL.out.cell (p := ⟨g, j * 5 + 4, none⟩) hgP).trans b4
        have hgL : g < (w6.alloc (.cells #[.int .u64 (sn : Int), .int .i64 l.rule, .int .i64 l.on, .int .i64 l.e, .slice Al l.from_.length cl] 34)).heap.size := Nat.lt_of_lt_of_le hgP XPL.out.size
        have hlus : (stepCells (steps.take (steps.length - 1)) (us.take (steps.length - 1))).length = (steps.length - 1) * 5 := by rw [stepCells_len _ _ (by rw [List.length_take, List.length_take, HPK.out.len]), List.length_take]; congr 1; omega
        have HOLD := Lib.hid (fun (j : Nat) (u : Value) (hj : (stepCells (steps.take (steps.length - 1)) (us.take (steps.length - 1)))[j]? = some u) => (XPL.out.cell (p := ⟨g, j, none⟩) hgP).trans (HPK.out.old j u hj))
        have hfull : steps.length - 1 < steps.length - 1 + 1 := by omega
        have hm1 : steps.length - 1 + 1 ≤ maxLen := by unfold maxLen; omega
        have hm2 : (steps.length - 1 + 1) * 56 ≤ 140737488355328 := by omega
        have hm3 : steps.length + 1 ≤ maxLen := by unfold maxLen; omega
        have hm4 : (steps.length + 1) * 56 ≤ 140737488355328 := by omega
        have hl1i : (1 : Int) ≤ (steps.length : Int) := by omega
        have hnn : (steps.length : Int) - 1 ≤ ((steps.length - 1 : Nat) : Int) := by omega
        have hne : steps ≠ [] := by intro e; rw [e] at hl1i; simp at hl1i
        have hwat : IntKind.i64.wrap (at_ : Int) = (at_ : Int) := by rw [IntKind.wrap_i64]; omega
        have HLEN1 := Lib.hid (show steps.length - 1 + 1 = steps.length by omega)
        clear hj hxj huj hul hla a0 a1 a2 a3 a4 hHS
        go_wp2_with fail
        refine ordU_region 21 (fun w' => w'.cell? (⟨w4.heap.size, 2, none⟩) = some (.slice (some ⟨g, 0, none⟩) steps.length cap) ∧ w'.cell? (⟨g, j * 5, none⟩) = some (.int .u64 (xj.set : Int)) ∧ w'.cell? (⟨g, j * 5 + 1, none⟩) = some (.int .i64 xj.rule) ∧ w'.cell? (⟨g, j * 5 + 2, none⟩) = some (.int .i64 xj.on) ∧ w'.cell? (⟨g, j * 5 + 3, none⟩) = some (.int .i64 xj.e) ∧ w'.cell? (⟨g, j * 5 + 4, none⟩) = some (.slice Aj xj.from_.length cj) ∧ w'.cell? (⟨w6.heap.size, 0, none⟩) = some (.int .u64 (sn : Int)) ∧ w'.cell? (⟨w6.heap.size, 1, none⟩) = some (.int .i64 l.rule) ∧ w'.cell? (⟨w6.heap.size, 2, none⟩) = some (.int .i64 l.on) ∧ w'.cell? (⟨w6.heap.size, 3, none⟩) = some (.int .i64 l.e) ∧ w'.cell? (⟨w6.heap.size, 4, none⟩) = some (.slice Al l.from_.length cl)) (by kernel_rfl) ⟨(Ext.cell (p := ⟨w4.heap.size, 2, none⟩) (by repeat (first | exact Ext.refl _ | assumption | apply Ext.alloc | apply Ext.drew | apply Ext.setCell)) dlt).trans d2, (Ext.cell (p := ⟨g, j * 5, none⟩) (by repeat (first | exact Ext.refl _ | assumption | apply Ext.alloc | apply Ext.drew | apply Ext.setCell)) hgL).trans b0, (Ext.cell (p := ⟨g, j * 5 + 1, none⟩) (by repeat (first | exact Ext.refl _ | assumption | apply Ext.alloc | apply Ext.drew | apply Ext.setCell)) hgL).trans b1, (Ext.cell (p := ⟨g, j * 5 + 2, none⟩) (by repeat (first | exact Ext.refl _ | assumption | apply Ext.alloc | apply Ext.drew | apply Ext.setCell)) hgL).trans b2, (Ext.cell (p := ⟨g, j * 5 + 3, none⟩) (by repeat (first | exact Ext.refl _ | assumption | apply Ext.alloc | apply Ext.drew | apply Ext.setCell)) hgL).trans b3, (Ext.cell (p := ⟨g, j * 5 + 4, none⟩) (by repeat (first | exact Ext.refl _ | assumption | apply Ext.alloc | apply Ext.drew | apply Ext.setCell)) hgL).trans b4, (Ext.cell (p := ⟨w6.heap.size, 0, none⟩) (by repeat (first | exact Ext.refl _ | assumption | apply Ext.alloc | apply Ext.drew | apply Ext.setCell)) klt).trans k0, (Ext.cell (p := ⟨w6.heap.size, 1, none⟩) (by repeat (first | exact Ext.refl _ | assumption | apply Ext.alloc | apply Ext.drew | apply Ext.setCell)) klt).trans k1, (Ext.cell (p := ⟨w6.heap.size, 2, none⟩) (by repeat (first | exact Ext.refl _ | assumption | apply Ext.alloc | apply Ext.drew | apply Ext.setCell)) klt).trans k2, (Ext.cell (p := ⟨w6.heap.size, 3, none⟩) (by repeat (first | exact Ext.refl _ | assumption | apply Ext.alloc | apply Ext.drew | apply Ext.setCell)) klt).trans k3, (Ext.cell (p := ⟨w6.heap.size, 4, none⟩) (by repeat (first | exact Ext.refl _ | assumption | apply Ext.alloc | apply Ext.drew | apply Ext.setCell)) klt).trans k4⟩ (fun hHeld => ?_)
        refine' ordU_take (i := 0) (v := _) rfl (by kernel_rfl) (by kernel_rfl) (by kernel_rfl) (by kernel_rfl) (fun _ _ _ h => h) (Or.inl ⟨by rfl, ?hydu31⟩) hHeld ?restdu31
        case hydu31 => (intro w' hSw; (try dsimp only at hSw); go_simp; (try with_reducible rfl))
        try simp only [Act.put, List.setIfInBounds_toArray, List.set_cons_zero, List.set_cons_succ, List.getElem_toArray, List.getElem_cons_zero]
        refine' ordU_take (i := 1) (v := _) rfl (by kernel_rfl) (by kernel_rfl) (by kernel_rfl) (by kernel_rfl) (fun _ _ _ h => h) (Or.inl ⟨by rfl, ?hydu32⟩) hHeld ?restdu32
        case hydu32 => (intro w' hSw; (try dsimp only at hSw); go_simp; (try with_reducible rfl))
        try simp only [Act.put, List.setIfInBounds_toArray, List.set_cons_zero, List.set_cons_succ, List.getElem_toArray, List.getElem_cons_succ, List.getElem_cons_zero]
        refine' ordU_take (i := 2) (v := _) rfl (by kernel_rfl) (by kernel_rfl) (by kernel_rfl) (by kernel_rfl) (fun _ _ _ h => h) (Or.inl ⟨by rfl, ?hydu33⟩) hHeld ?restdu33
        case hydu33 => (intro w' hSw; (try dsimp only at hSw); go_simp; (try with_reducible rfl))
        try simp only [Act.put, List.setIfInBounds_toArray, List.set_cons_zero, List.set_cons_succ, List.getElem_toArray, List.getElem_cons_succ, List.getElem_cons_zero]
        refine' ordU_take (i := 3) (v := _) rfl (by kernel_rfl) (by kernel_rfl) (by kernel_rfl) (by kernel_rfl) (fun _ _ _ h => h) (Or.inl ⟨by rfl, ?hydu34⟩) hHeld ?restdu34
        case hydu34 => (intro w' hSw; (try dsimp only at hSw); go_simp; (try with_reducible rfl))
        try simp only [Act.put, List.setIfInBounds_toArray, List.set_cons_zero, List.set_cons_succ, List.getElem_toArray, List.getElem_cons_succ, List.getElem_cons_zero]
        refine' ordU_take (i := 4) (v := _) rfl (by kernel_rfl) (by kernel_rfl) (by kernel_rfl) (by kernel_rfl) (fun _ _ _ h => h) (Or.inl ⟨by rfl, ?hydu35⟩) hHeld ?restdu35
        case hydu35 => (intro w' hSw; (try dsimp only at hSw); go_simp; (try with_reducible rfl))
        try simp only [Act.put, List.setIfInBounds_toArray, List.set_cons_zero, List.set_cons_succ, List.getElem_toArray, List.getElem_cons_succ, List.getElem_cons_zero]
        refine' ordU_take (i := 5) (v := _) rfl (by kernel_rfl) (by kernel_rfl) (by kernel_rfl) (by kernel_rfl) (fun _ _ _ h => h) (Or.inl ⟨by rfl, ?hydu36⟩) hHeld ?restdu36
        case hydu36 => (intro w' hSw; (try dsimp only at hSw); go_simp; (try with_reducible rfl))
        try simp only [Act.put, List.setIfInBounds_toArray, List.set_cons_zero, List.set_cons_succ, List.getElem_toArray, List.getElem_cons_succ, List.getElem_cons_zero]
        refine' ordU_take (i := 6) (v := _) rfl (by kernel_rfl) (by kernel_rfl) (by kernel_rfl) (by kernel_rfl) (fun _ _ _ h => h) (Or.inl ⟨by rfl, ?hydu37⟩) hHeld ?restdu37
        case hydu37 => (intro w' hSw; (try dsimp only at hSw); go_simp; (try with_reducible rfl))
        try simp only [Act.put, List.setIfInBounds_toArray, List.set_cons_zero, List.set_cons_succ, List.getElem_toArray, List.getElem_cons_succ, List.getElem_cons_zero]
        refine' ordU_take (i := 7) (v := _) rfl (by kernel_rfl) (by kernel_rfl) (by kernel_rfl) (by kernel_rfl) (fun _ _ _ h => h) (Or.inl ⟨by rfl, ?hydu38⟩) hHeld ?restdu38
        case hydu38 => (intro w' hSw; (try dsimp only at hSw); go_simp; (try with_reducible rfl))
        try simp only [Act.put, List.setIfInBounds_toArray, List.set_cons_zero, List.set_cons_succ, List.getElem_toArray, List.getElem_cons_succ, List.getElem_cons_zero]
        refine' ordU_take (i := 8) (v := _) rfl (by kernel_rfl) (by kernel_rfl) (by kernel_rfl) (by kernel_rfl) (fun _ _ _ h => h) (Or.inl ⟨by rfl, ?hydu39⟩) hHeld ?restdu39
        case hydu39 => (intro w' hSw; (try dsimp only at hSw); go_simp; (try with_reducible rfl))
        try simp only [Act.put, List.setIfInBounds_toArray, List.set_cons_zero, List.set_cons_succ, List.getElem_toArray, List.getElem_cons_succ, List.getElem_cons_zero]
        refine' ordU_take (i := 9) (v := _) rfl (by kernel_rfl) (by kernel_rfl) (by kernel_rfl) (by kernel_rfl) (fun _ _ _ h => h) (Or.inl ⟨by rfl, ?hydu310⟩) hHeld ?restdu310
        case hydu310 => (intro w' hSw; (try dsimp only at hSw); go_simp; (try with_reducible rfl))
        try simp only [Act.put, List.setIfInBounds_toArray, List.set_cons_zero, List.set_cons_succ, List.getElem_toArray, List.getElem_cons_succ, List.getElem_cons_zero]
        refine' ordU_take (i := 10) (v := _) rfl (by kernel_rfl) (by kernel_rfl) (by kernel_rfl) (by kernel_rfl) (fun _ _ _ h => h) (Or.inl ⟨by rfl, ?hydu311⟩) hHeld ?restdu311
        case hydu311 => (intro w' hSw; (try dsimp only at hSw); go_simp; (try with_reducible rfl))
        try simp only [Act.put, List.setIfInBounds_toArray, List.set_cons_zero, List.set_cons_succ, List.getElem_toArray, List.getElem_cons_succ, List.getElem_cons_zero]
        refine' ordU_take (i := 11) (v := _) rfl (by kernel_rfl) (by kernel_rfl) (by kernel_rfl) (by kernel_rfl) (fun _ _ _ h => h) (Or.inl ⟨by rfl, ?hydu312⟩) hHeld ?restdu312
        case hydu312 => (intro w' hSw; (try dsimp only at hSw); go_simp; (try with_reducible rfl))
        try simp only [Act.put, List.setIfInBounds_toArray, List.set_cons_zero, List.set_cons_succ, List.getElem_toArray, List.getElem_cons_succ, List.getElem_cons_zero]
        refine' ordU_take (i := 12) (v := _) rfl (by kernel_rfl) (by kernel_rfl) (by kernel_rfl) (by kernel_rfl) (fun _ _ _ h => h) (Or.inl ⟨by rfl, ?hydu313⟩) hHeld ?restdu313
        case hydu313 => (intro w' hSw; (try dsimp only at hSw); go_simp; (try with_reducible rfl))
        try simp only [Act.put, List.setIfInBounds_toArray, List.set_cons_zero, List.set_cons_succ, List.getElem_toArray, List.getElem_cons_succ, List.getElem_cons_zero]
        refine' ordU_take (i := 13) (v := _) rfl (by kernel_rfl) (by kernel_rfl) (by kernel_rfl) (by kernel_rfl) (fun _ _ _ h => h) (Or.inl ⟨by rfl, ?hydu314⟩) hHeld ?restdu314
        case hydu314 => (intro w' hSw; (try dsimp only at hSw); go_simp; (try with_reducible rfl))
        try simp only [Act.put, List.setIfInBounds_toArray, List.set_cons_zero, List.set_cons_succ, List.getElem_toArray, List.getElem_cons_succ, List.getElem_cons_zero]
        refine' ordU_take (i := 14) (v := _) rfl (by kernel_rfl) (by kernel_rfl) (by kernel_rfl) (by kernel_rfl) (fun _ _ _ h => h) (Or.inl ⟨by rfl, ?hydu315⟩) hHeld ?restdu315
        case hydu315 => (intro w' hSw; (try dsimp only at hSw); go_simp; (try with_reducible rfl))
        try simp only [Act.put, List.setIfInBounds_toArray, List.set_cons_zero, List.set_cons_succ, List.getElem_toArray, List.getElem_cons_succ, List.getElem_cons_zero]
        refine' ordU_take (i := 17) (v := _) rfl (by kernel_rfl) (by kernel_rfl) (by kernel_rfl) (by kernel_rfl) (fun _ _ _ h => h) (Or.inl ⟨by rfl, ?hydu316⟩) hHeld ?restdu316
        case hydu316 => (intro w' hSw; (try dsimp only at hSw); go_simp; (try with_reducible rfl))
        try simp only [Act.put, List.setIfInBounds_toArray, List.set_cons_zero, List.set_cons_succ, List.getElem_toArray, List.getElem_cons_succ, List.getElem_cons_zero]
        refine ordU_ready (rs := [15, 18]) (by kernel_rfl) (by simp) ?_
        refine AllU.cons rfl (fun K hK => ?_) (AllU.cons rfl (fun K hK => ?_) AllU.nil)
        · skip
          go_simp
          refine hK.out _ _ ⟨(Ext.cell (p := ⟨w4.heap.size, 2, none⟩) (by repeat (first | exact Ext.refl _ | assumption | apply Ext.alloc | apply Ext.drew | apply Ext.setCell)) dlt).trans d2, (Ext.cell (p := ⟨g, j * 5, none⟩) (by repeat (first | exact Ext.refl _ | assumption | apply Ext.alloc | apply Ext.drew | apply Ext.setCell)) hgL).trans b0, (Ext.cell (p := ⟨g, j * 5 + 1, none⟩) (by repeat (first | exact Ext.refl _ | assumption | apply Ext.alloc | apply Ext.drew | apply Ext.setCell)) hgL).trans b1, (Ext.cell (p := ⟨g, j * 5 + 2, none⟩) (by repeat (first | exact Ext.refl _ | assumption | apply Ext.alloc | apply Ext.drew | apply Ext.setCell)) hgL).trans b2, (Ext.cell (p := ⟨g, j * 5 + 3, none⟩) (by repeat (first | exact Ext.refl _ | assumption | apply Ext.alloc | apply Ext.drew | apply Ext.setCell)) hgL).trans b3, (Ext.cell (p := ⟨g, j * 5 + 4, none⟩) (by repeat (first | exact Ext.refl _ | assumption | apply Ext.alloc | apply Ext.drew | apply Ext.setCell)) hgL).trans b4, (Ext.cell (p := ⟨w6.heap.size, 0, none⟩) (by repeat (first | exact Ext.refl _ | assumption | apply Ext.alloc | apply Ext.drew | apply Ext.setCell)) klt).trans k0, (Ext.cell (p := ⟨w6.heap.size, 1, none⟩) (by repeat (first | exact Ext.refl _ | assumption | apply Ext.alloc | apply Ext.drew | apply Ext.setCell)) klt).trans k1, (Ext.cell (p := ⟨w6.heap.size, 2, none⟩) (by repeat (first | exact Ext.refl _ | assumption | apply Ext.alloc | apply Ext.drew | apply Ext.setCell)) klt).trans k2, (Ext.cell (p := ⟨w6.heap.size, 3, none⟩) (by repeat (first | exact Ext.refl _ | assumption | apply Ext.alloc | apply Ext.drew | apply Ext.setCell)) klt).trans k3, (Ext.cell (p := ⟨w6.heap.size, 4, none⟩) (by repeat (first | exact Ext.refl _ | assumption | apply Ext.alloc | apply Ext.drew | apply Ext.setCell)) klt).trans k4⟩ (fun hHeld => ?_)
          clear hK K
          try simp only [Act.put, List.setIfInBounds_toArray, List.set_cons_zero, List.set_cons_succ, List.getElem_toArray, List.getElem_cons_succ, List.getElem_cons_zero]
          refine ordU_ready (rs := [16, 18]) (by kernel_rfl) (by simp) ?_
          refine AllU.cons rfl (fun K hK => ?_) (AllU.cons rfl (fun K hK => ?_) AllU.nil)
          · skip
            refine step_append_grows rfl (.tmp 74) (.tmp 83) 23 rfl 34 iS (.agg #[.int .u64 0, .int .i64 0, .int .i64 0, .int .i64 0, .slice none 0 0]) 5 56 Try.underlying23 hiS hzS0 hzS1 hzS2 rfl (by decide) ⟨g, 0, none⟩ (steps.length - 1) (steps.length - 1) (stepCells (steps.take (steps.length - 1)) (us.take (steps.length - 1))) (by simp [Act.eval]) hlus (fun j u hu => by rw [addr_zero]; exact (Ext.cell (p := ⟨g, j, none⟩) (by repeat (first | exact Ext.refl _ | assumption | apply Ext.alloc | apply Ext.drew | apply Ext.setCell)) hgL).trans (HOLD.out j u hu)) ⟨_, 0, none⟩ 1 1 (xj.cells (.slice Aj xj.from_.length cj)) (by simp [Act.eval]; rfl) rfl (by first | exact row_new_at _ _ _ (by simp) | exact fun j u hu => (((Ext.refl _).alloc _).cell (p := (⟨_, 0, none⟩ : Addr).add j) (by rw [block_of_add]; simp)).trans (row_new_at _ _ _ (by simp) j u hu)) hfull hm1 hm2 ?_
            intro v7 w7 hown7 hgrow7
            have hxb7 := Ext.grown (Ext.refl _) hgrow7 (fun _ h => by cases h)
            have hx7 : Ext (w6.alloc (.cells #[.int .u64 (sn : Int), .int .i64 l.rule, .int .i64 l.on, .int .i64 l.e, .slice Al l.from_.length cl] 34)) w7 := Ext.grown (by repeat (first | exact Ext.refl _ | assumption | apply Ext.alloc | apply Ext.drew | apply Ext.setCell)) hgrow7 (fun _ h => by cases h)
            rw [HLEN1.out] at hown7
            have HR7 := Lib.hid hown7
            obtain ⟨A7, c7, hv7⟩ := slice_of_row hown7
            subst hv7
            clear hown7 hgrow7
            refine hK.out _ _ ⟨(Ext.cell (p := ⟨w4.heap.size, 2, none⟩) (by repeat (first | exact Ext.refl _ | assumption | apply Ext.alloc | apply Ext.drew | apply Ext.setCell)) dlt).trans d2, (Ext.cell (p := ⟨g, j * 5, none⟩) (by repeat (first | exact Ext.refl _ | assumption | apply Ext.alloc | apply Ext.drew | apply Ext.setCell)) hgL).trans b0, (Ext.cell (p := ⟨g, j * 5 + 1, none⟩) (by repeat (first | exact Ext.refl _ | assumption | apply Ext.alloc | apply Ext.drew | apply Ext.setCell)) hgL).trans b1, (Ext.cell (p := ⟨g, j * 5 + 2, none⟩) (by repeat (first | exact Ext.refl _ | assumption | apply Ext.alloc | apply Ext.drew | apply Ext.setCell)) hgL).trans b2, (Ext.cell (p := ⟨g, j * 5 + 3, none⟩) (by repeat (first | exact Ext.refl _ | assumption | apply Ext.alloc | apply Ext.drew | apply Ext.setCell)) hgL).trans b3, (Ext.cell (p := ⟨g, j * 5 + 4, none⟩) (by repeat (first | exact Ext.refl _ | assumption | apply Ext.alloc | apply Ext.drew | apply Ext.setCell)) hgL).trans b4, (Ext.cell (p := ⟨w6.heap.size, 0, none⟩) (by repeat (first | exact Ext.refl _ | assumption | apply Ext.alloc | apply Ext.drew | apply Ext.setCell)) klt).trans k0, (Ext.cell (p := ⟨w6.heap.size, 1, none⟩) (by repeat (first | exact Ext.refl _ | assumption | apply Ext.alloc | apply Ext.drew | apply Ext.setCell)) klt).trans k1, (Ext.cell (p := ⟨w6.heap.size, 2, none⟩) (by repeat (first | exact Ext.refl _ | assumption | apply Ext.alloc | apply Ext.drew | apply Ext.setCell)) klt).trans k2, (Ext.cell (p := ⟨w6.heap.size, 3, none⟩) (by repeat (first | exact Ext.refl _ | assumption | apply Ext.alloc | apply Ext.drew | apply Ext.setCell)) klt).trans k3, (Ext.cell (p := ⟨w6.heap.size, 4, none⟩) (by repeat (first | exact Ext.refl _ | assumption | apply Ext.alloc | apply Ext.drew | apply Ext.setCell)) klt).trans k4⟩ (fun hHeld => ?_)
            clear hK K
            try simp only [Act.put, List.setIfInBounds_toArray, List.set_cons_zero, List.set_cons_succ, List.getElem_toArray, List.getElem_cons_succ, List.getElem_cons_zero]
            refine ordU_ready (rs := [18]) (by kernel_rfl) (by simp) ?_
            refine AllU.cons rfl (fun K hK => ?_) AllU.nil
            go_simp
            refine hK.out _ _ ⟨(Ext.cell (p := ⟨w4.heap.size, 2, none⟩) (by repeat (first | exact Ext.refl _ | assumption | apply Ext.alloc | apply Ext.drew | apply Ext.setCell)) dlt).trans d2, (Ext.cell (p := ⟨g, j * 5, none⟩) (by repeat (first | exact Ext.refl _ | assumption | apply Ext.alloc | apply Ext.drew | apply Ext.setCell)) hgL).trans b0, (Ext.cell (p := ⟨g, j * 5 + 1, none⟩) (by repeat (first | exact Ext.refl _ | assumption | apply Ext.alloc | apply Ext.drew | apply Ext.setCell)) hgL).trans b1, (Ext.cell (p := ⟨g, j * 5 + 2, none⟩) (by repeat (first | exact Ext.refl _ | assumption | apply Ext.alloc | apply Ext.drew | apply Ext.setCell)) hgL).trans b2, (Ext.cell (p := ⟨g, j * 5 + 3, none⟩) (by repeat (first | exact Ext.refl _ | assumption | apply Ext.alloc | apply Ext.drew | apply Ext.setCell)) hgL).trans b3, (Ext.cell (p := ⟨g, j * 5 + 4, none⟩) (by repeat (first | exact Ext.refl _ | assumption | apply Ext.alloc | apply Ext.drew | apply Ext.setCell)) hgL).trans b4, (Ext.cell (p := ⟨w6.heap.size, 0, none⟩) (by repeat (first | exact Ext.refl _ | assumption | apply Ext.alloc | apply Ext.drew | apply Ext.setCell)) klt).trans k0, (Ext.cell (p := ⟨w6.heap.size, 1, none⟩) (by repeat (first | exact Ext.refl _ | assumption | apply Ext.alloc | apply Ext.drew | apply Ext.setCell)) klt).trans k1, (Ext.cell (p := ⟨w6.heap.size, 2, none⟩) (by repeat (first | exact Ext.refl _ | assumption | apply Ext.alloc | apply Ext.drew | apply Ext.setCell)) klt).trans k2, (Ext.cell (p := ⟨w6.heap.size, 3, none⟩) (by repeat (first | exact Ext.refl _ | assumption | apply Ext.alloc | apply Ext.drew | apply Ext.setCell)) klt).trans k3, (Ext.cell (p := ⟨w6.heap.size, 4, none⟩) (by repeat (first | exact Ext.refl _ | assumption | apply Ext.alloc | apply Ext.drew | apply Ext.setCell)) klt).trans k4⟩ (fun hHeld => ?_)
            clear hK K
            try simp only [Act.put, List.setIfInBounds_toArray, List.set_cons_zero, List.set_cons_succ, List.getElem_toArray, List.getElem_cons_succ, List.getElem_cons_zero]
            refine ordU_ready (rs := [19]) (by kernel_rfl) (by simp) ?_
            refine AllU.cons rfl (fun K hK => ?_) AllU.nil
            refine step_append_at rfl (.tmp 84) (.tmp 86) 23 rfl _ 34 iS (.agg #[.int .u64 0, .int .i64 0, .int .i64 0, .int .i64 0, .slice none 0 0]) 5 56 Try.underlying23 hiS hzS0 hzS1 hzS2 rfl (by decide) (.slice A7 steps.length c7) steps.length _ (by simp [Act.eval]) (row_ext HR7.out (by repeat (first | exact Ext.refl _ | assumption | apply Ext.alloc | apply Ext.drew | apply Ext.setCell))) ⟨_, 0, none⟩ 1 1 (Stp.cells { l with set := sn } (.slice Al l.from_.length cl)) (by simp [Act.eval]; rfl) rfl (by first | exact row_new_at _ _ _ (by simp) | exact fun j u hu => (hxb7.cell (p := (⟨_, 0, none⟩ : Addr).add j) (by rw [block_of_add]; simp)).trans (row_new_at _ _ _ (by simp) j u hu) | exact fun j u hu => (hxb7.cell (p := (⟨_, 0, none⟩ : Addr).add j) (by rw [block_of_add]; simp)).trans ((((Ext.refl _).alloc _).cell (p := (⟨_, 0, none⟩ : Addr).add j) (by rw [block_of_add]; simp)).trans (row_new_at _ _ _ (by simp) j u hu))) (fun u hu => stepOne _ _ _ _ u hu) hm3 hm4 (Nat.le_trans hxb7.size (Ext.size (by repeat (first | exact Ext.refl _ | assumption | apply Ext.alloc | apply Ext.drew | apply Ext.setCell)))) ?_
            intro v8 w8 hown8 hgrow8 hat8
            have hx8 : Ext (w6.alloc (.cells #[.int .u64 (sn : Int), .int .i64 l.rule, .int .i64 l.on, .int .i64 l.e, .slice Al l.from_.length cl] 34)) w8 := Ext.grown (Ext.trans hx7 (by repeat (first | exact Ext.refl _ | assumption | apply Ext.alloc | apply Ext.drew | apply Ext.setCell))) hgrow8 (fun g hg => Nat.le_trans (Ext.size (a := (w6.alloc (.cells #[.int .u64 (sn : Int), .int .i64 l.rule, .int .i64 l.on, .int .i64 l.e, .slice Al l.from_.length cl] 34))) (by repeat (first | exact Ext.refl _ | assumption | apply Ext.alloc | apply Ext.drew | apply Ext.setCell))) (HR7.out.lt g hg).1)
            have HR8 := Lib.hid hown8
            have hH8 : w8.heap[w4.heap.size]? = some (.cells #[.int .i64 lg, .slice Au base.length cu, .slice (some ⟨g, 0, none⟩) steps.length cap] 25 (0, 0)) := (hx8.block (lt_heap HHS.out)).trans HHS.out
            obtain ⟨_, _, f2, ffr, flt⟩ := cells3 hH8
            have ff2 := ffr 2
            have HH8 := Lib.hid hH8
            obtain ⟨A8, c8, hv8⟩ := slice_of_row hown8
            subst hv8
            clear hown8 hgrow8 hat8 hH8 ffr
            refine hK.out _ _ ⟨(Ext.cell (p := ⟨w4.heap.size, 2, none⟩) (by repeat (first | exact Ext.refl _ | assumption | apply Ext.alloc | apply Ext.drew | apply Ext.setCell)) dlt).trans d2, (Ext.cell (p := ⟨g, j * 5, none⟩) (by repeat (first | exact Ext.refl _ | assumption | apply Ext.alloc | apply Ext.drew | apply Ext.setCell)) hgL).trans b0, (Ext.cell (p := ⟨g, j * 5 + 1, none⟩) (by repeat (first | exact Ext.refl _ | assumption | apply Ext.alloc | apply Ext.drew | apply Ext.setCell)) hgL).trans b1, (Ext.cell (p := ⟨g, j * 5 + 2, none⟩) (by repeat (first | exact Ext.refl _ | assumption | apply Ext.alloc | apply Ext.drew | apply Ext.setCell)) hgL).trans b2, (Ext.cell (p := ⟨g, j * 5 + 3, none⟩) (by repeat (first | exact Ext.refl _ | assumption | apply Ext.alloc | apply Ext.drew | apply Ext.setCell)) hgL).trans b3, (Ext.cell (p := ⟨g, j * 5 + 4, none⟩) (by repeat (first | exact Ext.refl _ | assumption | apply Ext.alloc | apply Ext.drew | apply Ext.setCell)) hgL).trans b4, (Ext.cell (p := ⟨w6.heap.size, 0, none⟩) (by repeat (first | exact Ext.refl _ | assumption | apply Ext.alloc | apply Ext.drew | apply Ext.setCell)) klt).trans k0, (Ext.cell (p := ⟨w6.heap.size, 1, none⟩) (by repeat (first | exact Ext.refl _ | assumption | apply Ext.alloc | apply Ext.drew | apply Ext.setCell)) klt).trans k1, (Ext.cell (p := ⟨w6.heap.size, 2, none⟩) (by repeat (first | exact Ext.refl _ | assumption | apply Ext.alloc | apply Ext.drew | apply Ext.setCell)) klt).trans k2, (Ext.cell (p := ⟨w6.heap.size, 3, none⟩) (by repeat (first | exact Ext.refl _ | assumption | apply Ext.alloc | apply Ext.drew | apply Ext.setCell)) klt).trans k3, (Ext.cell (p := ⟨w6.heap.size, 4, none⟩) (by repeat (first | exact Ext.refl _ | assumption | apply Ext.alloc | apply Ext.drew | apply Ext.setCell)) klt).trans k4⟩ (fun hHeld => ?_)
            clear hK K
            try simp only [Act.put, List.setIfInBounds_toArray, List.set_cons_zero, List.set_cons_succ, List.getElem_toArray, List.getElem_cons_succ, List.getElem_cons_zero]
            refine' ordU_take (i := 20) (v := _) rfl (by kernel_rfl) (by kernel_rfl) (by kernel_rfl) (by kernel_rfl) (fun _ _ _ h => h) (Or.inl ⟨by rfl, ?hydu317⟩) hHeld ?restdu317
            case hydu317 => (intro w' hSw; (try dsimp only at hSw); go_simp; (try with_reducible rfl))
            try simp only [Act.put, List.setIfInBounds_toArray, List.set_cons_zero, List.set_cons_succ, List.getElem_toArray, List.getElem_cons_succ, List.getElem_cons_zero]
            refine ordU_last (by kernel_rfl) rfl (fun K hK => ?_)
            go_simp
            refine hK.out _ _ ?_
            clear hK K
            try simp only [Act.put, List.setIfInBounds_toArray, List.set_cons_zero, List.set_cons_succ, List.getElem_toArray, List.getElem_cons_succ, List.getElem_cons_zero]
            refine ordU_done (by kernel_rfl) ?_ _
            have SC9 := set_3rd HH8.out (.slice A8 (steps.length + 1) c8)
            obtain ⟨m0, m1, m2, _, mlt⟩ := cells3 SC9
            have XP9 := Lib.hid ((XPL.out.trans hx8).setCell (p := ⟨w4.heap.size, 2, none⟩) (Nat.le_of_eq HPS.out) (.slice A8 (steps.length + 1) c8))
            have HF9 := Lib.hid (HFP.out.ext XP9.out)
            have HR9 := Lib.hid (ownsRow_setCell_other (a := ⟨w4.heap.size, 2, none⟩) HR8.out (fun e => absurd (Nat.lt_of_lt_of_le dlt (Nat.le_trans (Ext.size (a := (w6.alloc (.cells #[.int .u64 (sn : Int), .int .i64 l.rule, .int .i64 l.on, .int .i64 l.e, .slice Al l.from_.length cl] 34))) (by repeat (first | exact Ext.refl _ | assumption | apply Ext.alloc | apply Ext.drew | apply Ext.setCell))) (HR8.out.lt _ e).1)) (Nat.lt_irrefl _)) (.slice A8 (steps.length + 1) c8))
            have HS9 := Lib.hid (tail_sps (a := steps.take (steps.length - 1)) (ua := us.take (steps.length - 1)) (by rw [List.length_take, List.length_take, HPK.out.len]) (by rw [List.length_take]; omega) HR9.out (fun k y u h1 h2 => by
              have hk : k < steps.length - 1 := by have := (List.getElem?_eq_some_iff.1 h1).1; rw [List.length_take] at this; omega
              obtain ⟨_, _, _, _, _, h3, h4⟩ := HPK.out.at_ k y u (by rw [List.getElem?_set_ne (by omega)]; exact take_get h1) (take_get h2)
              exact ⟨h3.ext XP9.out, h4⟩) ⟨HB5.out.ext XP9.out, b6⟩ ⟨HA5.out.ext XP9.out, a6⟩)
            by_cases hjn : j = steps.length - 1
            · have hj5 : ((j : Int) == (steps.length : Int) - 1) = true := by rw [beq_iff_eq]; omega
              clear hjn
              go_wp2_with fail
              go_ret
              exact ⟨rfl, HPX.out.trans XP9.out⟩
            · have hj5 : ((j : Int) == (steps.length : Int) - 1) = false := by rw [beq_eq_false_iff_ne]; omega
              have HW2 := Lib.hid (weakens2 HW1.out (by rw [List.length_set]; omega) (by rw [List.length_set]; omega) HXJ.out (by rw [List.length_set]; exact List.getElem?_set_self (by omega)))
              rw [List.length_set, take_set_last] at HW2
              clear hjn
              go_wp2_with fail
              refine (checkS_any (lg := lg) HF9.out HS9.out).mono ?_
              rintro e w10 ⟨rfl, hx10⟩
              rw [HW2.out]
              go_wp2_with fail
              go_ret
              exact ⟨rfl, (HPX.out.trans XP9.out).trans hx10⟩
          · skip
            go_simp
            refine hK.out _ _ ⟨(Ext.cell (p := ⟨w4.heap.size, 2, none⟩) (by repeat (first | exact Ext.refl _ | assumption | apply Ext.alloc | apply Ext.drew | apply Ext.setCell)) dlt).trans d2, (Ext.cell (p := ⟨g, j * 5, none⟩) (by repeat (first | exact Ext.refl _ | assumption | apply Ext.alloc | apply Ext.drew | apply Ext.setCell)) hgL).trans b0, (Ext.cell (p := ⟨g, j * 5 + 1, none⟩) (by repeat (first | exact Ext.refl _ | assumption | apply Ext.alloc | apply Ext.drew | apply Ext.setCell)) hgL).trans b1, (Ext.cell (p := ⟨g, j * 5 + 2, none⟩) (by repeat (first | exact Ext.refl _ | assumption | apply Ext.alloc | apply Ext.drew | apply Ext.setCell)) hgL).trans b2, (Ext.cell (p := ⟨g, j * 5 + 3, none⟩) (by repeat (first | exact Ext.refl _ | assumption | apply Ext.alloc | apply Ext.drew | apply Ext.setCell)) hgL).trans b3, (Ext.cell (p := ⟨g, j * 5 + 4, none⟩) (by repeat (first | exact Ext.refl _ | assumption | apply Ext.alloc | apply Ext.drew | apply Ext.setCell)) hgL).trans b4, (Ext.cell (p := ⟨w6.heap.size, 0, none⟩) (by repeat (first | exact Ext.refl _ | assumption | apply Ext.alloc | apply Ext.drew | apply Ext.setCell)) klt).trans k0, (Ext.cell (p := ⟨w6.heap.size, 1, none⟩) (by repeat (first | exact Ext.refl _ | assumption | apply Ext.alloc | apply Ext.drew | apply Ext.setCell)) klt).trans k1, (Ext.cell (p := ⟨w6.heap.size, 2, none⟩) (by repeat (first | exact Ext.refl _ | assumption | apply Ext.alloc | apply Ext.drew | apply Ext.setCell)) klt).trans k2, (Ext.cell (p := ⟨w6.heap.size, 3, none⟩) (by repeat (first | exact Ext.refl _ | assumption | apply Ext.alloc | apply Ext.drew | apply Ext.setCell)) klt).trans k3, (Ext.cell (p := ⟨w6.heap.size, 4, none⟩) (by repeat (first | exact Ext.refl _ | assumption | apply Ext.alloc | apply Ext.drew | apply Ext.setCell)) klt).trans k4⟩ (fun hHeld => ?_)
            clear hK K
            try simp only [Act.put, List.setIfInBounds_toArray, List.set_cons_zero, List.set_cons_succ, List.getElem_toArray, List.getElem_cons_succ, List.getElem_cons_zero]
            refine ordU_ready (rs := [16]) (by kernel_rfl) (by simp) ?_
            refine AllU.cons rfl (fun K hK => ?_) AllU.nil
            refine step_append_grows rfl (.tmp 74) (.tmp 83) 23 rfl 34 iS (.agg #[.int .u64 0, .int .i64 0, .int .i64 0, .int .i64 0, .slice none 0 0]) 5 56 Try.underlying23 hiS hzS0 hzS1 hzS2 rfl (by decide) ⟨g, 0, none⟩ (steps.length - 1) (steps.length - 1) (stepCells (steps.take (steps.length - 1)) (us.take (steps.length - 1))) (by simp [Act.eval]) hlus (fun j u hu => by rw [addr_zero]; exact (Ext.cell (p := ⟨g, j, none⟩) (by repeat (first | exact Ext.refl _ | assumption | apply Ext.alloc | apply Ext.drew | apply Ext.setCell)) hgL).trans (HOLD.out j u hu)) ⟨_, 0, none⟩ 1 1 (xj.cells (.slice Aj xj.from_.length cj)) (by simp [Act.eval]; rfl) rfl (by first | exact row_new_at _ _ _ (by simp) | exact fun j u hu => (((Ext.refl _).alloc _).cell (p := (⟨_, 0, none⟩ : Addr).add j) (by rw [block_of_add]; simp)).trans (row_new_at _ _ _ (by simp) j u hu)) hfull hm1 hm2 ?_
            intro v7 w7 hown7 hgrow7
            have hxb7 := Ext.grown (Ext.refl _) hgrow7 (fun _ h => by cases h)
            have hx7 : Ext (w6.alloc (.cells #[.int .u64 (sn : Int), .int .i64 l.rule, .int .i64 l.on, .int .i64 l.e, .slice Al l.from_.length cl] 34)) w7 := Ext.grown (by repeat (first | exact Ext.refl _ | assumption | apply Ext.alloc | apply Ext.drew | apply Ext.setCell)) hgrow7 (fun _ h => by cases h)
            rw [HLEN1.out] at hown7
            have HR7 := Lib.hid hown7
            obtain ⟨A7, c7, hv7⟩ := slice_of_row hown7
            subst hv7
            clear hown7 hgrow7
            refine hK.out _ _ ⟨(Ext.cell (p := ⟨w4.heap.size, 2, none⟩) (by repeat (first | exact Ext.refl _ | assumption | apply Ext.alloc | apply Ext.drew | apply Ext.setCell)) dlt).trans d2, (Ext.cell (p := ⟨g, j * 5, none⟩) (by repeat (first | exact Ext.refl _ | assumption | apply Ext.alloc | apply Ext.drew | apply Ext.setCell)) hgL).trans b0, (Ext.cell (p := ⟨g, j * 5 + 1, none⟩) (by repeat (first | exact Ext.refl _ | assumption | apply Ext.alloc | apply Ext.drew | apply Ext.setCell)) hgL).trans b1, (Ext.cell (p := ⟨g, j * 5 + 2, none⟩) (by repeat (first | exact Ext.refl _ | assumption | apply Ext.alloc | apply Ext.drew | apply Ext.setCell)) hgL).trans b2, (Ext.cell (p := ⟨g, j * 5 + 3, none⟩) (by repeat (first | exact Ext.refl _ | assumption | apply Ext.alloc | apply Ext.drew | apply Ext.setCell)) hgL).trans b3, (Ext.cell (p := ⟨g, j * 5 + 4, none⟩) (by repeat (first | exact Ext.refl _ | assumption | apply Ext.alloc | apply Ext.drew | apply Ext.setCell)) hgL).trans b4, (Ext.cell (p := ⟨w6.heap.size, 0, none⟩) (by repeat (first | exact Ext.refl _ | assumption | apply Ext.alloc | apply Ext.drew | apply Ext.setCell)) klt).trans k0, (Ext.cell (p := ⟨w6.heap.size, 1, none⟩) (by repeat (first | exact Ext.refl _ | assumption | apply Ext.alloc | apply Ext.drew | apply Ext.setCell)) klt).trans k1, (Ext.cell (p := ⟨w6.heap.size, 2, none⟩) (by repeat (first | exact Ext.refl _ | assumption | apply Ext.alloc | apply Ext.drew | apply Ext.setCell)) klt).trans k2, (Ext.cell (p := ⟨w6.heap.size, 3, none⟩) (by repeat (first | exact Ext.refl _ | assumption | apply Ext.alloc | apply Ext.drew | apply Ext.setCell)) klt).trans k3, (Ext.cell (p := ⟨w6.heap.size, 4, none⟩) (by repeat (first | exact Ext.refl _ | assumption | apply Ext.alloc | apply Ext.drew | apply Ext.setCell)) klt).trans k4⟩ (fun hHeld => ?_)
            clear hK K
            try simp only [Act.put, List.setIfInBounds_toArray, List.set_cons_zero, List.set_cons_succ, List.getElem_toArray, List.getElem_cons_succ, List.getElem_cons_zero]
            refine ordU_ready (rs := [19]) (by kernel_rfl) (by simp) ?_
            refine AllU.cons rfl (fun K hK => ?_) AllU.nil
            refine step_append_at rfl (.tmp 84) (.tmp 86) 23 rfl _ 34 iS (.agg #[.int .u64 0, .int .i64 0, .int .i64 0, .int .i64 0, .slice none 0 0]) 5 56 Try.underlying23 hiS hzS0 hzS1 hzS2 rfl (by decide) (.slice A7 steps.length c7) steps.length _ (by simp [Act.eval]) (row_ext HR7.out (by repeat (first | exact Ext.refl _ | assumption | apply Ext.alloc | apply Ext.drew | apply Ext.setCell))) ⟨_, 0, none⟩ 1 1 (Stp.cells { l with set := sn } (.slice Al l.from_.length cl)) (by simp [Act.eval]; rfl) rfl (by first | exact row_new_at _ _ _ (by simp) | exact fun j u hu => (hxb7.cell (p := (⟨_, 0, none⟩ : Addr).add j) (by rw [block_of_add]; simp)).trans (row_new_at _ _ _ (by simp) j u hu) | exact fun j u hu => (hxb7.cell (p := (⟨_, 0, none⟩ : Addr).add j) (by rw [block_of_add]; simp)).trans ((((Ext.refl _).alloc _).cell (p := (⟨_, 0, none⟩ : Addr).add j) (by rw [block_of_add]; simp)).trans (row_new_at _ _ _ (by simp) j u hu))) (fun u hu => stepOne _ _ _ _ u hu) hm3 hm4 (Nat.le_trans hxb7.size (Ext.size (by repeat (first | exact Ext.refl _ | assumption | apply Ext.alloc | apply Ext.drew | apply Ext.setCell)))) ?_
            intro v8 w8 hown8 hgrow8 hat8
            have hx8 : Ext (w6.alloc (.cells #[.int .u64 (sn : Int), .int .i64 l.rule, .int .i64 l.on, .int .i64 l.e, .slice Al l.from_.length cl] 34)) w8 := Ext.grown (Ext.trans hx7 (by repeat (first | exact Ext.refl _ | assumption | apply Ext.alloc | apply Ext.drew | apply Ext.setCell))) hgrow8 (fun g hg => Nat.le_trans (Ext.size (a := (w6.alloc (.cells #[.int .u64 (sn : Int), .int .i64 l.rule, .int .i64 l.on, .int .i64 l.e, .slice Al l.from_.length cl] 34))) (by repeat (first | exact Ext.refl _ | assumption | apply Ext.alloc | apply Ext.drew | apply Ext.setCell))) (HR7.out.lt g hg).1)
            have HR8 := Lib.hid hown8
            have hH8 : w8.heap[w4.heap.size]? = some (.cells #[.int .i64 lg, .slice Au base.length cu, .slice (some ⟨g, 0, none⟩) steps.length cap] 25 (0, 0)) := (hx8.block (lt_heap HHS.out)).trans HHS.out
            obtain ⟨_, _, f2, ffr, flt⟩ := cells3 hH8
            have ff2 := ffr 2
            have HH8 := Lib.hid hH8
            obtain ⟨A8, c8, hv8⟩ := slice_of_row hown8
            subst hv8
            clear hown8 hgrow8 hat8 hH8 ffr
            refine hK.out _ _ ⟨(Ext.cell (p := ⟨w4.heap.size, 2, none⟩) (by repeat (first | exact Ext.refl _ | assumption | apply Ext.alloc | apply Ext.drew | apply Ext.setCell)) dlt).trans d2, (Ext.cell (p := ⟨g, j * 5, none⟩) (by repeat (first | exact Ext.refl _ | assumption | apply Ext.alloc | apply Ext.drew | apply Ext.setCell)) hgL).trans b0, (Ext.cell (p := ⟨g, j * 5 + 1, none⟩) (by repeat (first | exact Ext.refl _ | assumption | apply Ext.alloc | apply Ext.drew | apply Ext.setCell)) hgL).trans b1, (Ext.cell (p := ⟨g, j * 5 + 2, none⟩) (by repeat (first | exact Ext.refl _ | assumption | apply Ext.alloc | apply Ext.drew | apply Ext.setCell)) hgL).trans b2, (Ext.cell (p := ⟨g, j * 5 + 3, none⟩) (by repeat (first | exact Ext.refl _ | assumption | apply Ext.alloc | apply Ext.drew | apply Ext.setCell)) hgL).trans b3, (Ext.cell (p := ⟨g, j * 5 + 4, none⟩) (by repeat (first | exact Ext.refl _ | assumption | apply Ext.alloc | apply Ext.drew | apply Ext.setCell)) hgL).trans b4, (Ext.cell (p := ⟨w6.heap.size, 0, none⟩) (by repeat (first | exact Ext.refl _ | assumption | apply Ext.alloc | apply Ext.drew | apply Ext.setCell)) klt).trans k0, (Ext.cell (p := ⟨w6.heap.size, 1, none⟩) (by repeat (first | exact Ext.refl _ | assumption | apply Ext.alloc | apply Ext.drew | apply Ext.setCell)) klt).trans k1, (Ext.cell (p := ⟨w6.heap.size, 2, none⟩) (by repeat (first | exact Ext.refl _ | assumption | apply Ext.alloc | apply Ext.drew | apply Ext.setCell)) klt).trans k2, (Ext.cell (p := ⟨w6.heap.size, 3, none⟩) (by repeat (first | exact Ext.refl _ | assumption | apply Ext.alloc | apply Ext.drew | apply Ext.setCell)) klt).trans k3, (Ext.cell (p := ⟨w6.heap.size, 4, none⟩) (by repeat (first | exact Ext.refl _ | assumption | apply Ext.alloc | apply Ext.drew | apply Ext.setCell)) klt).trans k4⟩ (fun hHeld => ?_)
            clear hK K
            try simp only [Act.put, List.setIfInBounds_toArray, List.set_cons_zero, List.set_cons_succ, List.getElem_toArray, List.getElem_cons_succ, List.getElem_cons_zero]
            refine' ordU_take (i := 20) (v := _) rfl (by kernel_rfl) (by kernel_rfl) (by kernel_rfl) (by kernel_rfl) (fun _ _ _ h => h) (Or.inl ⟨by rfl, ?hydu318⟩) hHeld ?restdu318
            case hydu318 => (intro w' hSw; (try dsimp only at hSw); go_simp; (try with_reducible rfl))
            try simp only [Act.put, List.setIfInBounds_toArray, List.set_cons_zero, List.set_cons_succ, List.getElem_toArray, List.getElem_cons_succ, List.getElem_cons_zero]
            refine ordU_last (by kernel_rfl) rfl (fun K hK => ?_)
            go_simp
            refine hK.out _ _ ?_
            clear hK K
            try simp only [Act.put, List.setIfInBounds_toArray, List.set_cons_zero, List.set_cons_succ, List.getElem_toArray, List.getElem_cons_succ, List.getElem_cons_zero]
            refine ordU_done (by kernel_rfl) ?_ _
            have SC9 := set_3rd HH8.out (.slice A8 (steps.length + 1) c8)
            obtain ⟨m0, m1, m2, _, mlt⟩ := cells3 SC9
            have XP9 := Lib.hid ((XPL.out.trans hx8).setCell (p := ⟨w4.heap.size, 2, none⟩) (Nat.le_of_eq HPS.out) (.slice A8 (steps.length + 1) c8))
            have HF9 := Lib.hid (HFP.out.ext XP9.out)
            have HR9 := Lib.hid (ownsRow_setCell_other (a := ⟨w4.heap.size, 2, none⟩) HR8.out (fun e => absurd (Nat.lt_of_lt_of_le dlt (Nat.le_trans (Ext.size (a := (w6.alloc (.cells #[.int .u64 (sn : Int), .int .i64 l.rule, .int .i64 l.on, .int .i64 l.e, .slice Al l.from_.length cl] 34))) (by repeat (first | exact Ext.refl _ | assumption | apply Ext.alloc | apply Ext.drew | apply Ext.setCell))) (HR8.out.lt _ e).1)) (Nat.lt_irrefl _)) (.slice A8 (steps.length + 1) c8))
            have HS9 := Lib.hid (tail_sps (a := steps.take (steps.length - 1)) (ua := us.take (steps.length - 1)) (by rw [List.length_take, List.length_take, HPK.out.len]) (by rw [List.length_take]; omega) HR9.out (fun k y u h1 h2 => by
              have hk : k < steps.length - 1 := by have := (List.getElem?_eq_some_iff.1 h1).1; rw [List.length_take] at this; omega
              obtain ⟨_, _, _, _, _, h3, h4⟩ := HPK.out.at_ k y u (by rw [List.getElem?_set_ne (by omega)]; exact take_get h1) (take_get h2)
              exact ⟨h3.ext XP9.out, h4⟩) ⟨HB5.out.ext XP9.out, b6⟩ ⟨HA5.out.ext XP9.out, a6⟩)
            by_cases hjn : j = steps.length - 1
            · have hj5 : ((j : Int) == (steps.length : Int) - 1) = true := by rw [beq_iff_eq]; omega
              clear hjn
              go_wp2_with fail
              go_ret
              exact ⟨rfl, HPX.out.trans XP9.out⟩
            · have hj5 : ((j : Int) == (steps.length : Int) - 1) = false := by rw [beq_eq_false_iff_ne]; omega
              have HW2 := Lib.hid (weakens2 HW1.out (by rw [List.length_set]; omega) (by rw [List.length_set]; omega) HXJ.out (by rw [List.length_set]; exact List.getElem?_set_self (by omega)))
              rw [List.length_set, take_set_last] at HW2
              clear hjn
              go_wp2_with fail
              refine (checkS_any (lg := lg) HF9.out HS9.out).mono ?_
              rintro e w10 ⟨rfl, hx10⟩
              rw [HW2.out]
              go_wp2_with fail
              go_ret
              exact ⟨rfl, (HPX.out.trans XP9.out).trans hx10⟩
        · skip
          go_simp
          refine hK.out _ _ ⟨(Ext.cell (p := ⟨w4.heap.size, 2, none⟩) (by repeat (first | exact Ext.refl _ | assumption | apply Ext.alloc | apply Ext.drew | apply Ext.setCell)) dlt).trans d2, (Ext.cell (p := ⟨g, j * 5, none⟩) (by repeat (first | exact Ext.refl _ | assumption | apply Ext.alloc | apply Ext.drew | apply Ext.setCell)) hgL).trans b0, (Ext.cell (p := ⟨g, j * 5 + 1, none⟩) (by repeat (first | exact Ext.refl _ | assumption | apply Ext.alloc | apply Ext.drew | apply Ext.setCell)) hgL).trans b1, (Ext.cell (p := ⟨g, j * 5 + 2, none⟩) (by repeat (first | exact Ext.refl _ | assumption | apply Ext.alloc | apply Ext.drew | apply Ext.setCell)) hgL).trans b2, (Ext.cell (p := ⟨g, j * 5 + 3, none⟩) (by repeat (first | exact Ext.refl _ | assumption | apply Ext.alloc | apply Ext.drew | apply Ext.setCell)) hgL).trans b3, (Ext.cell (p := ⟨g, j * 5 + 4, none⟩) (by repeat (first | exact Ext.refl _ | assumption | apply Ext.alloc | apply Ext.drew | apply Ext.setCell)) hgL).trans b4, (Ext.cell (p := ⟨w6.heap.size, 0, none⟩) (by repeat (first | exact Ext.refl _ | assumption | apply Ext.alloc | apply Ext.drew | apply Ext.setCell)) klt).trans k0, (Ext.cell (p := ⟨w6.heap.size, 1, none⟩) (by repeat (first | exact Ext.refl _ | assumption | apply Ext.alloc | apply Ext.drew | apply Ext.setCell)) klt).trans k1, (Ext.cell (p := ⟨w6.heap.size, 2, none⟩) (by repeat (first | exact Ext.refl _ | assumption | apply Ext.alloc | apply Ext.drew | apply Ext.setCell)) klt).trans k2, (Ext.cell (p := ⟨w6.heap.size, 3, none⟩) (by repeat (first | exact Ext.refl _ | assumption | apply Ext.alloc | apply Ext.drew | apply Ext.setCell)) klt).trans k3, (Ext.cell (p := ⟨w6.heap.size, 4, none⟩) (by repeat (first | exact Ext.refl _ | assumption | apply Ext.alloc | apply Ext.drew | apply Ext.setCell)) klt).trans k4⟩ (fun hHeld => ?_)
          clear hK K
          try simp only [Act.put, List.setIfInBounds_toArray, List.set_cons_zero, List.set_cons_succ, List.getElem_toArray, List.getElem_cons_succ, List.getElem_cons_zero]
          refine ordU_ready (rs := [15]) (by kernel_rfl) (by simp) ?_
          refine AllU.cons rfl (fun K hK => ?_) AllU.nil
          go_simp
          refine hK.out _ _ ⟨(Ext.cell (p := ⟨w4.heap.size, 2, none⟩) (by repeat (first | exact Ext.refl _ | assumption | apply Ext.alloc | apply Ext.drew | apply Ext.setCell)) dlt).trans d2, (Ext.cell (p := ⟨g, j * 5, none⟩) (by repeat (first | exact Ext.refl _ | assumption | apply Ext.alloc | apply Ext.drew | apply Ext.setCell)) hgL).trans b0, (Ext.cell (p := ⟨g, j * 5 + 1, none⟩) (by repeat (first | exact Ext.refl _ | assumption | apply Ext.alloc | apply Ext.drew | apply Ext.setCell)) hgL).trans b1, (Ext.cell (p := ⟨g, j * 5 + 2, none⟩) (by repeat (first | exact Ext.refl _ | assumption | apply Ext.alloc | apply Ext.drew | apply Ext.setCell)) hgL).trans b2, (Ext.cell (p := ⟨g, j * 5 + 3, none⟩) (by repeat (first | exact Ext.refl _ | assumption | apply Ext.alloc | apply Ext.drew | apply Ext.setCell)) hgL).trans b3, (Ext.cell (p := ⟨g, j * 5 + 4, none⟩) (by repeat (first | exact Ext.refl _ | assumption | apply Ext.alloc | apply Ext.drew | apply Ext.setCell)) hgL).trans b4, (Ext.cell (p := ⟨w6.heap.size, 0, none⟩) (by repeat (first | exact Ext.refl _ | assumption | apply Ext.alloc | apply Ext.drew | apply Ext.setCell)) klt).trans k0, (Ext.cell (p := ⟨w6.heap.size, 1, none⟩) (by repeat (first | exact Ext.refl _ | assumption | apply Ext.alloc | apply Ext.drew | apply Ext.setCell)) klt).trans k1, (Ext.cell (p := ⟨w6.heap.size, 2, none⟩) (by repeat (first | exact Ext.refl _ | assumption | apply Ext.alloc | apply Ext.drew | apply Ext.setCell)) klt).trans k2, (Ext.cell (p := ⟨w6.heap.size, 3, none⟩) (by repeat (first | exact Ext.refl _ | assumption | apply Ext.alloc | apply Ext.drew | apply Ext.setCell)) klt).trans k3, (Ext.cell (p := ⟨w6.heap.size, 4, none⟩) (by repeat (first | exact Ext.refl _ | assumption | apply Ext.alloc | apply Ext.drew | apply Ext.setCell)) klt).trans k4⟩ (fun hHeld => ?_)
          clear hK K
          try simp only [Act.put, List.setIfInBounds_toArray, List.set_cons_zero, List.set_cons_succ, List.getElem_toArray, List.getElem_cons_succ, List.getElem_cons_zero]
          refine ordU_ready (rs := [16]) (by kernel_rfl) (by simp) ?_
          refine AllU.cons rfl (fun K hK => ?_) AllU.nil
          refine step_append_grows rfl (.tmp 74) (.tmp 83) 23 rfl 34 iS (.agg #[.int .u64 0, .int .i64 0, .int .i64 0, .int .i64 0, .slice none 0 0]) 5 56 Try.underlying23 hiS hzS0 hzS1 hzS2 rfl (by decide) ⟨g, 0, none⟩ (steps.length - 1) (steps.length - 1) (stepCells (steps.take (steps.length - 1)) (us.take (steps.length - 1))) (by simp [Act.eval]) hlus (fun j u hu => by rw [addr_zero]; exact (Ext.cell (p := ⟨g, j, none⟩) (by repeat (first | exact Ext.refl _ | assumption | apply Ext.alloc | apply Ext.drew | apply Ext.setCell)) hgL).trans (HOLD.out j u hu)) ⟨_, 0, none⟩ 1 1 (xj.cells (.slice Aj xj.from_.length cj)) (by simp [Act.eval]; rfl) rfl (by first | exact row_new_at _ _ _ (by simp) | exact fun j u hu => (((Ext.refl _).alloc _).cell (p := (⟨_, 0, none⟩ : Addr).add j) (by rw [block_of_add]; simp)).trans (row_new_at _ _ _ (by simp) j u hu)) hfull hm1 hm2 ?_
          intro v7 w7 hown7 hgrow7
          have hxb7 := Ext.grown (Ext.refl _) hgrow7 (fun _ h => by cases h)
          have hx7 : Ext (w6.alloc (.cells #[.int .u64 (sn : Int), .int .i64 l.rule, .int .i64 l.on, .int .i64 l.e, .slice Al l.from_.length cl] 34)) w7 := Ext.grown (by repeat (first | exact Ext.refl _ | assumption | apply Ext.alloc | apply Ext.drew | apply Ext.setCell)) hgrow7 (fun _ h => by cases h)
          rw [HLEN1.out] at hown7
          have HR7 := Lib.hid hown7
          obtain ⟨A7, c7, hv7⟩ := slice_of_row hown7
          subst hv7
          clear hown7 hgrow7
          refine hK.out _ _ ⟨(Ext.cell (p := ⟨w4.heap.size, 2, none⟩) (by repeat (first | exact Ext.refl _ | assumption | apply Ext.alloc | apply Ext.drew | apply Ext.setCell)) dlt).trans d2, (Ext.cell (p := ⟨g, j * 5, none⟩) (by repeat (first | exact Ext.refl _ | assumption | apply Ext.alloc | apply Ext.drew | apply Ext.setCell)) hgL).trans b0, (Ext.cell (p := ⟨g, j * 5 + 1, none⟩) (by repeat (first | exact Ext.refl _ | assumption | apply Ext.alloc | apply Ext.drew | apply Ext.setCell)) hgL).trans b1, (Ext.cell (p := ⟨g, j * 5 + 2, none⟩) (by repeat (first | exact Ext.refl _ | assumption | apply Ext.alloc | apply Ext.drew | apply Ext.setCell)) hgL).trans b2, (Ext.cell (p := ⟨g, j * 5 + 3, none⟩) (by repeat (first | exact Ext.refl _ | assumption | apply Ext.alloc | apply Ext.drew | apply Ext.setCell)) hgL).trans b3, (Ext.cell (p := ⟨g, j * 5 + 4, none⟩) (by repeat (first | exact Ext.refl _ | assumption | apply Ext.alloc | apply Ext.drew | apply Ext.setCell)) hgL).trans b4, (Ext.cell (p := ⟨w6.heap.size, 0, none⟩) (by repeat (first | exact Ext.refl _ | assumption | apply Ext.alloc | apply Ext.drew | apply Ext.setCell)) klt).trans k0, (Ext.cell (p := ⟨w6.heap.size, 1, none⟩) (by repeat (first | exact Ext.refl _ | assumption | apply Ext.alloc | apply Ext.drew | apply Ext.setCell)) klt).trans k1, (Ext.cell (p := ⟨w6.heap.size, 2, none⟩) (by repeat (first | exact Ext.refl _ | assumption | apply Ext.alloc | apply Ext.drew | apply Ext.setCell)) klt).trans k2, (Ext.cell (p := ⟨w6.heap.size, 3, none⟩) (by repeat (first | exact Ext.refl _ | assumption | apply Ext.alloc | apply Ext.drew | apply Ext.setCell)) klt).trans k3, (Ext.cell (p := ⟨w6.heap.size, 4, none⟩) (by repeat (first | exact Ext.refl _ | assumption | apply Ext.alloc | apply Ext.drew | apply Ext.setCell)) klt).trans k4⟩ (fun hHeld => ?_)
          clear hK K
          try simp only [Act.put, List.setIfInBounds_toArray, List.set_cons_zero, List.set_cons_succ, List.getElem_toArray, List.getElem_cons_succ, List.getElem_cons_zero]
          refine ordU_ready (rs := [19]) (by kernel_rfl) (by simp) ?_
          refine AllU.cons rfl (fun K hK => ?_) AllU.nil
          refine step_append_at rfl (.tmp 84) (.tmp 86) 23 rfl _ 34 iS (.agg #[.int .u64 0, .int .i64 0, .int .i64 0, .int .i64 0, .slice none 0 0]) 5 56 Try.underlying23 hiS hzS0 hzS1 hzS2 rfl (by decide) (.slice A7 steps.length c7) steps.length _ (by simp [Act.eval]) (row_ext HR7.out (by repeat (first | exact Ext.refl _ | assumption | apply Ext.alloc | apply Ext.drew | apply Ext.setCell))) ⟨_, 0, none⟩ 1 1 (Stp.cells { l with set := sn } (.slice Al l.from_.length cl)) (by simp [Act.eval]; rfl) rfl (by first | exact row_new_at _ _ _ (by simp) | exact fun j u hu => (hxb7.cell (p := (⟨_, 0, none⟩ : Addr).add j) (by rw [block_of_add]; simp)).trans (row_new_at _ _ _ (by simp) j u hu) | exact fun j u hu => (hxb7.cell (p := (⟨_, 0, none⟩ : Addr).add j) (by rw [block_of_add]; simp)).trans ((((Ext.refl _).alloc _).cell (p := (⟨_, 0, none⟩ : Addr).add j) (by rw [block_of_add]; simp)).trans (row_new_at _ _ _ (by simp) j u hu))) (fun u hu => stepOne _ _ _ _ u hu) hm3 hm4 (Nat.le_trans hxb7.size (Ext.size (by repeat (first | exact Ext.refl _ | assumption | apply Ext.alloc | apply Ext.drew | apply Ext.setCell)))) ?_
          intro v8 w8 hown8 hgrow8 hat8
          have hx8 : Ext (w6.alloc (.cells #[.int .u64 (sn : Int), .int .i64 l.rule, .int .i64 l.on, .int .i64 l.e, .slice Al l.from_.length cl] 34)) w8 := Ext.grown (Ext.trans hx7 (by repeat (first | exact Ext.refl _ | assumption | apply Ext.alloc | apply Ext.drew | apply Ext.setCell))) hgrow8 (fun g hg => Nat.le_trans (Ext.size (a := (w6.alloc (.cells #[.int .u64 (sn : Int), .int .i64 l.rule, .int .i64 l.on, .int .i64 l.e, .slice Al l.from_.length cl] 34))) (by repeat (first | exact Ext.refl _ | assumption | apply Ext.alloc | apply Ext.drew | apply Ext.setCell))) (HR7.out.lt g hg).1)
          have HR8 := Lib.hid hown8
          have hH8 : w8.heap[w4.heap.size]? = some (.cells #[.int .i64 lg, .slice Au base.length cu, .slice (some ⟨g, 0, none⟩) steps.length cap] 25 (0, 0)) := (hx8.block (lt_heap HHS.out)).trans HHS.out
          obtain ⟨_, _, f2, ffr, flt⟩ := cells3 hH8
          have ff2 := ffr 2
          have HH8 := Lib.hid hH8
          obtain ⟨A8, c8, hv8⟩ := slice_of_row hown8
          subst hv8
          clear hown8 hgrow8 hat8 hH8 ffr
          refine hK.out _ _ ⟨(Ext.cell (p := ⟨w4.heap.size, 2, none⟩) (by repeat (first | exact Ext.refl _ | assumption | apply Ext.alloc | apply Ext.drew | apply Ext.setCell)) dlt).trans d2, (Ext.cell (p := ⟨g, j * 5, none⟩) (by repeat (first | exact Ext.refl _ | assumption | apply Ext.alloc | apply Ext.drew | apply Ext.setCell)) hgL).trans b0, (Ext.cell (p := ⟨g, j * 5 + 1, none⟩) (by repeat (first | exact Ext.refl _ | assumption | apply Ext.alloc | apply Ext.drew | apply Ext.setCell)) hgL).trans b1, (Ext.cell (p := ⟨g, j * 5 + 2, none⟩) (by repeat (first | exact Ext.refl _ | assumption | apply Ext.alloc | apply Ext.drew | apply Ext.setCell)) hgL).trans b2, (Ext.cell (p := ⟨g, j * 5 + 3, none⟩) (by repeat (first | exact Ext.refl _ | assumption | apply Ext.alloc | apply Ext.drew | apply Ext.setCell)) hgL).trans b3, (Ext.cell (p := ⟨g, j * 5 + 4, none⟩) (by repeat (first | exact Ext.refl _ | assumption | apply Ext.alloc | apply Ext.drew | apply Ext.setCell)) hgL).trans b4, (Ext.cell (p := ⟨w6.heap.size, 0, none⟩) (by repeat (first | exact Ext.refl _ | assumption | apply Ext.alloc | apply Ext.drew | apply Ext.setCell)) klt).trans k0, (Ext.cell (p := ⟨w6.heap.size, 1, none⟩) (by repeat (first | exact Ext.refl _ | assumption | apply Ext.alloc | apply Ext.drew | apply Ext.setCell)) klt).trans k1, (Ext.cell (p := ⟨w6.heap.size, 2, none⟩) (by repeat (first | exact Ext.refl _ | assumption | apply Ext.alloc | apply Ext.drew | apply Ext.setCell)) klt).trans k2, (Ext.cell (p := ⟨w6.heap.size, 3, none⟩) (by repeat (first | exact Ext.refl _ | assumption | apply Ext.alloc | apply Ext.drew | apply Ext.setCell)) klt).trans k3, (Ext.cell (p := ⟨w6.heap.size, 4, none⟩) (by repeat (first | exact Ext.refl _ | assumption | apply Ext.alloc | apply Ext.drew | apply Ext.setCell)) klt).trans k4⟩ (fun hHeld => ?_)
          clear hK K
          try simp only [Act.put, List.setIfInBounds_toArray, List.set_cons_zero, List.set_cons_succ, List.getElem_toArray, List.getElem_cons_succ, List.getElem_cons_zero]
          refine' ordU_take (i := 20) (v := _) rfl (by kernel_rfl) (by kernel_rfl) (by kernel_rfl) (by kernel_rfl) (fun _ _ _ h => h) (Or.inl ⟨by rfl, ?hydu319⟩) hHeld ?restdu319
          case hydu319 => (intro w' hSw; (try dsimp only at hSw); go_simp; (try with_reducible rfl))
          try simp only [Act.put, List.setIfInBounds_toArray, List.set_cons_zero, List.set_cons_succ, List.getElem_toArray, List.getElem_cons_succ, List.getElem_cons_zero]
          refine ordU_last (by kernel_rfl) rfl (fun K hK => ?_)
          go_simp
          refine hK.out _ _ ?_
          clear hK K
          try simp only [Act.put, List.setIfInBounds_toArray, List.set_cons_zero, List.set_cons_succ, List.getElem_toArray, List.getElem_cons_succ, List.getElem_cons_zero]
          refine ordU_done (by kernel_rfl) ?_ _
          have SC9 := set_3rd HH8.out (.slice A8 (steps.length + 1) c8)
          obtain ⟨m0, m1, m2, _, mlt⟩ := cells3 SC9
          have XP9 := Lib.hid ((XPL.out.trans hx8).setCell (p := ⟨w4.heap.size, 2, none⟩) (Nat.le_of_eq HPS.out) (.slice A8 (steps.length + 1) c8))
          have HF9 := Lib.hid (HFP.out.ext XP9.out)
          have HR9 := Lib.hid (ownsRow_setCell_other (a := ⟨w4.heap.size, 2, none⟩) HR8.out (fun e => absurd (Nat.lt_of_lt_of_le dlt (Nat.le_trans (Ext.size (a := (w6.alloc (.cells #[.int .u64 (sn : Int), .int .i64 l.rule, .int .i64 l.on, .int .i64 l.e, .slice Al l.from_.length cl] 34))) (by repeat (first | exact Ext.refl _ | assumption | apply Ext.alloc | apply Ext.drew | apply Ext.setCell))) (HR8.out.lt _ e).1)) (Nat.lt_irrefl _)) (.slice A8 (steps.length + 1) c8))
          have HS9 := Lib.hid (tail_sps (a := steps.take (steps.length - 1)) (ua := us.take (steps.length - 1)) (by rw [List.length_take, List.length_take, HPK.out.len]) (by rw [List.length_take]; omega) HR9.out (fun k y u h1 h2 => by
            have hk : k < steps.length - 1 := by have := (List.getElem?_eq_some_iff.1 h1).1; rw [List.length_take] at this; omega
            obtain ⟨_, _, _, _, _, h3, h4⟩ := HPK.out.at_ k y u (by rw [List.getElem?_set_ne (by omega)]; exact take_get h1) (take_get h2)
            exact ⟨h3.ext XP9.out, h4⟩) ⟨HB5.out.ext XP9.out, b6⟩ ⟨HA5.out.ext XP9.out, a6⟩)
          by_cases hjn : j = steps.length - 1
          · have hj5 : ((j : Int) == (steps.length : Int) - 1) = true := by rw [beq_iff_eq]; omega
            clear hjn
            go_wp2_with fail
            go_ret
            exact ⟨rfl, HPX.out.trans XP9.out⟩
          · have hj5 : ((j : Int) == (steps.length : Int) - 1) = false := by rw [beq_eq_false_iff_ne]; omega
            have HW2 := Lib.hid (weakens2 HW1.out (by rw [List.length_set]; omega) (by rw [List.length_set]; omega) HXJ.out (by rw [List.length_set]; exact List.getElem?_set_self (by omega)))
            rw [List.length_set, take_set_last] at HW2
            clear hjn
            go_wp2_with fail
            refine (checkS_any (lg := lg) HF9.out HS9.out).mono ?_
            rintro e w10 ⟨rfl, hx10⟩
            rw [HW2.out]
            go_wp2_with fail
            go_ret
            exact ⟨rfl, (HPX.out.trans XP9.out).trans hx10⟩
        
    · have hc1 : (checkS lg base steps != 0) = true := by simpa using hc
      have hc2 : (checkS lg base steps == 0) = false := by simpa using hc
      clear hc
      go_enter Try.func4, Try.ntmps4
      go_wp2_with fail
      refine (awake_any _).mono ?_
      rintro e w1 ⟨rfl, hx⟩
      have Y1 := Lib.hid (show Ext (w.alloc (.cells #[.int .i64 lg, .slice Ab base.length cb, .slice As steps.length cs] 25)) w1 from hx)
      have y0 := (Y1.out.cell (p := ⟨w.heap.size, 0, none⟩) ZLT.out).trans Z.out.1
      have y1 := (Y1.out.cell (p := ⟨w.heap.size, 1, none⟩) ZLT.out).trans Z.out.2.1
      have y2 := (Y1.out.cell (p := ⟨w.heap.size, 2, none⟩) ZLT.out).trans Z.out.2.2
      clear hx
      go_wp2_with fail
      refine (fewS_any (lg := lg) (H.out.ext (X0.out.trans Y1.out)) (HS.out.ext (X0.out.trans Y1.out))).mono ?_
      rintro e w2 ⟨rfl, hx⟩
      rw [HFW.out]
      have Y2 := Lib.hid (Y1.out.trans hx)
      have x0 := (Y2.out.cell (p := ⟨w.heap.size, 0, none⟩) ZLT.out).trans Z.out.1
      have x1 := (Y2.out.cell (p := ⟨w.heap.size, 1, none⟩) ZLT.out).trans Z.out.2.1
      have x2 := (Y2.out.cell (p := ⟨w.heap.size, 2, none⟩) ZLT.out).trans Z.out.2.2
      clear hx y0 y1 y2
      go_wp2_with fail
      refine (checkS_any (lg := lg) (H.out.ext (X0.out.trans Y2.out)) (HS.out.ext (X0.out.trans Y2.out))).mono ?_
      rintro e w3 ⟨rfl, hx⟩
      have Y3 := Lib.hid (Y2.out.trans hx)
      have v0 := (Y3.out.cell (p := ⟨w.heap.size, 0, none⟩) ZLT.out).trans Z.out.1
      have v1 := (Y3.out.cell (p := ⟨w.heap.size, 1, none⟩) ZLT.out).trans Z.out.2.1
      have v2 := (Y3.out.cell (p := ⟨w.heap.size, 2, none⟩) ZLT.out).trans Z.out.2.2
      clear hx x0 x1 x2
      go_wp2_with fail
      refine (awake_any _).mono ?_
      rintro e w4 ⟨rfl, hx⟩
      go_wp2_with fail
      go_ret
      exact ⟨rfl, (X0.out.trans Y3.out).trans hx⟩
end Go.Proofs.Ytfcmdiigfgbgbaa

/- SequentWeakens: a refutation remains accepted if its last set gets more formulas, and if steps that nobody uses are put before the last one: for every refutation, set and place. -/

namespace Go.Proofs.Ytfcmdiigfgbgbaa
open Go.ChangeShapes Go.WideShapes Go.ChangeAt Go.RowKit Go.Joins

theorem laidOutP : laidOutB Try.prog = true := by kernel_rfl
theorem own : ownKnob Try.prog.godebug = none := by kernel_rfl
theorem u8_of_wf {z : Int} (h : (Lit.int .u8 z).wf = true) : 0 ≤ z ∧ z < 256 := by
  unfold Lit.wf at h
  rw [Bool.and_eq_true, decide_eq_true_iff, decide_eq_true_iff] at h
  have h1 : IntKind.u8.min = 0 := by decide +kernel
  have h2 : IntKind.u8.max = 255 := by decide +kernel
  rw [h1, h2] at h
  omega
set_option maxRecDepth 100000 in
theorem sequentWeakens_lifted (os : Os) (started : os.Started) (H : Type) (enc : TypeId × Value → H) :
    ReturnsInHanded {} Try.checked os 4 .any (Rows.sequentWeakensSpec.pre6 enc Try.prog Try.f4 Rows.sequentWeakensRow.domain false)
      (Rows.sequentWeakensSpec.post enc Try.prog Try.f4 false true false false) := by
  refine returnsInHanded_of_change (C := Try.checked) own started (by kernel_rfl) Try.func4
    (ChangeSpec.witness6 (enc := enc) (C := Try.checked) false ⟨#[], #[.agg #[.int .i64 0, .slice none 0 0, .slice none 0 0], .int .u64 0, .int .u8 0], []⟩ 8 (by kernel_rfl) (by kernel_rfl) (by kernel_rfl) (by kernel_rfl)) ?_
  intro W base args ds gs before hval0 hW hcnd _
  have hval : ∀ (j : Nat) t v, Try.f4.params[j]? = some t → args[j]? = some v → Value.okWide Try.prog W .any base t v := hval0
  have hW' := hW
  obtain ⟨p, q, hA0, hV, rfl, hfz, hnd⟩ := hW
  have hA : DataW.TrodAll enc Try.prog W 0 (fun _ => true) true Try.f4.params.toList args.toList ds p := hA0
  rw [Try.params4] at hA hval
  obtain ⟨v0, vs0, d0, ds0, p0, q0, hargs, rfl, rfl, h0, r0⟩ := trodAll_cons hA
  obtain ⟨vm, vs1, d1, ds1, p1, q1, rfl, rfl, rfl, h1, r1⟩ := trodAll_cons r0
  obtain ⟨va, vs2, d2, ds2, p2, q2, rfl, rfl, rfl, h2, r2⟩ := trodAll_cons r1
  obtain ⟨rfl, rfl, rfl⟩ := trodAll_nil r2
  obtain rfl : args = #[v0, vm, va] := by cases args; simp_all
  obtain ⟨rfl, rfl⟩ := trodVars_none hV
  obtain ⟨v10, v11, v12, y0, y1, y2, n, rfl, hd, hp, t0, t1, t2⟩ := open_agg3 Try.underlying25 (by kernel_rfl) (by kernel_rfl) (hval 0 25 v0 rfl rfl) h0
  obtain ⟨lg, rfl, _⟩ := int_of_trod t0
  obtain ⟨bs, hbs⟩ := fml_of_trod t1
  obtain ⟨ls, hls⟩ := sps_of_trod t2
  obtain ⟨more, rfl, rfl, rfl, wm⟩ := open_int Try.underlying31 (hval 1 31 vm rfl rfl) h1
  obtain ⟨at_, rfl, rfl, rfl, wa⟩ := open_int Try.underlying5 (hval 2 5 va rfl rfl) h2
  obtain ⟨hm0, hm1⟩ := u64_of_wf wm
  obtain ⟨ha0, ha1⟩ := u8_of_wf wa
  obtain ⟨mn, rfl⟩ := Int.eq_ofNat_of_zero_le hm0
  obtain ⟨an, rfl⟩ := Int.eq_ofNat_of_zero_le ha0
  simp only [List.append_nil] at hW'
  clear hA0 hval0
  refine (weakens_any (lg := lg) hbs hls mn (by omega) an (by omega)).mono ?_
  rintro e W' ⟨rfl, hx⟩
  have hlt : ∀ x ∈ p0, x.block < W.heap.size := fun x hx' => hW'.lt x hx'
  refine ⟨_, rfl, post_of_below (pa := p0) (pv := []) hW' (fun _ _ _ => trodAll_mk1 (shut_bool Try.underlying4 _)) (fun sp hsp => ?_) (fun _ _ => rfl) (by simp) hx (ok_one (by kernel_rfl) rfl (okWide_bool_mk Try.underlying4 _))⟩
  have ht := trodAll_cons_mk (WideElems.Trod_stays laidOutP (by kernel_rfl) (of_decide_eq_true (by kernel_rfl)) h0 (fun x hx' => hx.same (hlt x hx')) (fun x hx' => hsp x hx')) (trodAll_cons_mk (shut_int Try.underlying31 wm) (trodAll_cons_mk (shut_int Try.underlying5 wa) trodAll_mk0))
  simp only [List.append_nil] at ht
  exact ht
theorem sequentWeakens_said : Rows.SequentWeakensSaid :=
  OpenClaim.holds_of_wide 4 Try.f4 rfl rfl rfl rfl rfl rfl rfl ⟨rfl, rfl, rfl, rfl, rfl⟩ rfl rfl rfl rfl rfl (by kernel_rfl) Try.func4 (by kernel_rfl)
    (of_decide_eq_true (by kernel_rfl)) (by unfold Func.isWrapper; first | (rw [if_pos (by decide +kernel)]; kernel_rfl) | (rw [if_neg (by decide +kernel)]; exact ⟨rfl, rfl⟩))
    (fun os started H enc _ => sequentWeakens_lifted os started H enc)
end Go.Proofs.Ytfcmdiigfgbgbaa
