/- natural's logic and isDual. -/
import Derived.Test.YtdpblciohodgcaaDoorS09

namespace Go.Proofs.YtdpblciohodgcaaDoor
open Go.RowKit

theorem ints_new (w : World) (l : List Int) (h : l.length ≤ 1000) : Ints (w.alloc (.cells (l.map (Value.int .i64)).toArray 3)) (.slice (some ⟨w.heap.size, 0, none⟩) l.length l.length) l := by
  refine ⟨_, _, rfl, Nat.le_refl _, by unfold maxLen; omega, fun _ => ⟨_, rfl, by simp, fun k z hk => ?_⟩⟩
  exact row_new w _ _ k _ (by simp [hk])
set_option maxRecDepth 100000 in
set_option maxHeartbeats 1000000 in
theorem named_q {w : World} {b : Nat} {lg : Int} {ls : List Ln} {fs : List (List Nd)} {st : List (List Int)} (h : Chk w b lg ls fs st) (i : Nat) (n : Ln) (m : Nat) (hi : ls[i]? = some n) :
    Calls Tryd.prog 118 #[.pointer (some ⟨b, 0, none⟩), .int .i64 i, .int .i64 (m : Int)] w fun e w' => e = .returned (.bool (decide (n.from_.length = m))) ∧ ∃ m, w' = w.drewN m := by
  obtain ⟨ad, c, vf, vs, uf, ur, hc1, hc2, hlt, d0, d1, d2, d3, q0, q1, q2, q3, q4, _, ⟨Ar, cr, rfl, hir⟩⟩ := h.line hi
  have hil : i < ls.length := (List.getElem?_eq_some_iff.1 hi).1
  have hr1 := hir.1
  have hr2 := hir.2.1
  unfold maxLen at hr2
  have HB := Lib.hid (show ((n.from_.length : Int) == (m : Int)) = decide (n.from_.length = m) by
    by_cases e : n.from_.length = m
    · simp [e]
    · rw [decide_eq_false e, beq_eq_false_iff_ne]; omega)
  clear h hi hir
  go_enter Tryd.func118, Tryd.ntmps118
  go_wp2_with fail
  go_ret
  exact ⟨same_of HB.out, 0, rfl⟩
theorem logic_any {w : World} {b : Nat} {lg : Int} {ls : List Ln} {fs : List (List Nd)} {st : List (List Int)} (h : Chk w b lg ls fs st) (v : Value) (l : List Int) (hv : Ints w v l) :
    Calls Tryd.prog 131 #[.pointer (some ⟨b, 0, none⟩), v] w fun e w' => e = .returned (.bool (inL l lg)) ∧ Ext w w' := by
  obtain ⟨vl, vf, vs, hb, _⟩ := h.all
  obtain ⟨d0, d1, d2, d3, _, _⟩ := cells4 hb
  have HV := Lib.hid hv
  obtain ⟨A, c, rfl, _⟩ := hv
  clear h hb
  go_enter Tryd.func131, Tryd.ntmps131
  go_wp2_with fail
  refine (containsI_any _ l lg _ HV.out).mono ?_
  rintro e w1 ⟨rfl, hx⟩
  go_wp2_with fail
  go_ret
  exact ⟨rfl, hx⟩

set_option maxRecDepth 100000 in
set_option maxHeartbeats 4000000 in
theorem isDual_any (v1 : Value) (f : List Nd) (v2 : Value) (g : List Nd) (w : World) (h1 : Fml w v1 f) (h2 : Fml w v2 g) (h0L : 0 < f.length) :
    Calls Tryd.prog 132 #[v1, v2] w fun e w' => e = .returned (.bool (isDualL f g)) ∧ Ext w w' := by
  have HG := Lib.hid h2
  have HLF := Lib.hid h1
  obtain ⟨A2, c2, rfl, _⟩ := fml_slice h2
  obtain ⟨⟨AL, cL, rfl, hcapL, hmaxL, hreadL⟩, hokL⟩ := h1
  unfold maxLen at hmaxL
  obtain ⟨adL, rfl, hltL, hcellsL⟩ := hreadL (by intro e; rw [e] at h0L; simp at h0L)
  have hlast := lastN_get h0L
  obtain ⟨n0, n1, n2, n3, n4, n5⟩ := hcellsL _ _ hlast
  have hi1L : ((f.length : Int) - 1) < (f.length : Int) := by omega
  have hi0L : (0 : Int) ≤ (f.length : Int) - 1 := by omega
  have e1L : ((f.length : Int) - 1).toNat = f.length - 1 := by omega
  have hniL := (hokL _ (List.mem_of_getElem? hlast)).2.1
  clear hreadL hokL hcellsL hlast h2
  obtain ⟨nn, hnn⟩ : ∃ nn, nn = lastN f := ⟨_, rfl⟩
  rw [← hnn] at n0 n1 n2 n3 n4 n5 hniL
  have HNN := Lib.hid hnn.symm
  have HNI := Lib.hid hniL
  clear hnn hniL
  have hw0 : w.heap.size < (w.alloc (.cells #[.int .i64 nn.op, .int .i64 nn.i, .int .i64 nn.e, .int .i64 nn.g, .int .i64 nn.x, .int .i64 nn.y] 61)).heap.size := by simp
  cases hd : (nn.op == 10)
  case false =>
    have D1 := Lib.hid hd
    have hd2 : (nn.op != 10) = true := by rw [bne, hd]; rfl
    go_enter Tryd.func132, Tryd.ntmps132
    go_wp2_with fail
    go_ret
    exact ⟨same_of (by simp only [isDualL, HNN.out, D1.out] <;> rfl), (Ext.refl _).alloc _⟩
  case true =>
    have D1 := Lib.hid hd
    have hd2 : (nn.op != 10) = false := by rw [bne, hd]; rfl
    go_enter Tryd.func132, Tryd.ntmps132
    go_wp2_with fail
    go_region_with (first | (go_at_call 32; refine (sub_any _ f nn.x _ (by exact HLF.out.ext (by repeat (first | exact Ext.refl _ | assumption | apply Ext.alloc | apply Ext.drew)))).mono ?_; rintro e wa ⟨ua, rfl, hma⟩; have MA := Lib.hid hma; have hxa : Ext w wa := Ext.trans (by repeat (first | exact Ext.refl _ | assumption | apply Ext.alloc | apply Ext.drew)) hma.2.2; obtain ⟨hca, _, hza0⟩ := hma.2.2.facts; have hza : w.heap.size < wa.heap.size := (by first | omega | (simp at hza0; omega)); clear hza0; clear hma) | (go_at_call 126; refine (not_any _ (subN f nn.x) _ (by exact MA.out.fml.ext (by repeat (first | exact Ext.refl _ | assumption | apply Ext.alloc | apply Ext.drew)))).mono ?_; rintro e wb ⟨ub, rfl, hmb⟩; have MB := Lib.hid hmb; have hxb : Ext w wb := Ext.trans (by repeat (first | exact Ext.refl _ | assumption | apply Ext.alloc | apply Ext.drew)) hmb.2.2; obtain ⟨hcb, _, hzb0⟩ := hmb.2.2.facts; have hzb : w.heap.size < wb.heap.size := (by first | omega | (simp at hzb0; omega)); clear hzb0; clear hmb) | (go_at_call 14; refine (know_any nn.i HNI.out _ (notN (subN f nn.x)) _ (by exact MB.out.fml.ext (by repeat (first | exact Ext.refl _ | assumption | apply Ext.alloc | apply Ext.drew)))).mono ?_; rintro e wc ⟨uc, rfl, hmc⟩; have MC := Lib.hid hmc; have hxc : Ext w wc := Ext.trans (by repeat (first | exact Ext.refl _ | assumption | apply Ext.alloc | apply Ext.drew)) hmc.2.2; obtain ⟨hcc, _, hzc0⟩ := hmc.2.2.facts; have hzc : w.heap.size < wc.heap.size := (by first | omega | (simp at hzc0; omega)); clear hzc0; clear hmc) | (go_at_call 126; refine (not_any _ (knowN nn.i (notN (subN f nn.x))) _ (by exact MC.out.fml.ext (by repeat (first | exact Ext.refl _ | assumption | apply Ext.alloc | apply Ext.drew)))).mono ?_; rintro e wd ⟨ud, rfl, hmd⟩; have MD := Lib.hid hmd; have hxd : Ext w wd := Ext.trans (by repeat (first | exact Ext.refl _ | assumption | apply Ext.alloc | apply Ext.drew)) hmd.2.2; obtain ⟨hcd, _, hzd0⟩ := hmd.2.2.facts; have hzd : w.heap.size < wd.heap.size := (by first | omega | (simp at hzd0; omega)); clear hzd0; clear hmd) | (go_at_call 48; refine (equal_any _ _ (notN (knowN nn.i (notN (subN f nn.x)))) g _ (by exact (MD.out.fml.ext (by repeat (first | exact Ext.refl _ | assumption | apply Ext.alloc | apply Ext.drew))).1) (by exact (HG.out.ext (by repeat (first | exact Ext.refl _ | assumption | apply Ext.alloc | apply Ext.drew))).1)).mono ?_; rintro e we ⟨rfl, hxe⟩; have hye : Ext w we := Ext.trans (by repeat (first | exact Ext.refl _ | assumption | apply Ext.alloc | apply Ext.drew)) hxe))
    all_goals
      go_wp2_with fail
      go_ret
      exact ⟨same_of (by simp only [isDualL, HNN.out, D1.out] <;> rfl), hye⟩
end Go.Proofs.YtdpblciohodgcaaDoor
