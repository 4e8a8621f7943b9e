/- The reference's modal: RuleK, RuleD. -/
import Derived.Test.YtfcmdiigfgbgbaaGreatN1
import Derived.OrdersHeld
import Derived.Test.YtfcmdiigfgbgbaaGreatGF1

namespace Go.Proofs.YtfcmdiigfgbgbaaGreat
open Go.RowKit

set_option maxRecDepth 100000 in
set_option maxHeartbeats 40000000 in
theorem rmodal_K {w : World} {lg : Int} {base : List Nd} {steps : List Stp} {Ab As : Option Addr} {cb cs : Nat} (hb : Fml w (.slice Ab base.length cb) base) (hst : Sps w (.slice As steps.length cs) steps) (hbe : baseErr base = 0) (at_ : Nat) (s : Nat) (ru on e : Int) (fr : List Int) (hx : steps[at_]? = some ⟨s, ru, on, e, fr⟩) (hr : ru = 6) (hfr : fr.length = 1) (he : e = 0) :
    Calls Tryz.prog 58 #[.agg #[.int .i64 lg, .slice Ab base.length cb, .slice As steps.length cs], .int .i64 (at_ : Int)] w fun e' w' => e' = .returned (.bool (modalQ lg base steps at_ ⟨s, 6, on, 0, fr⟩)) ∧ Ext w w' := by
  subst hr
  have H := Lib.hid hb
  have HST := Lib.hid hst
  have HBE := Lib.hid hbe
  have HX := Lib.hid hx
  obtain ⟨ad, rfl, hcap, hmax, hblk, hrow⟩ := hst.rows (by intro e; rw [e] at hx; cases hx)
  obtain ⟨ur, q0, q1, q2, q3, q4, ⟨Af, cf, rfl, _⟩, hset⟩ := hrow at_ _ hx
  have hat := (List.getElem?_eq_some_iff.1 hx).1
  have ha1 : (at_ : Int) < (steps.length : Int) := by omega
  have ha0 : (0 : Int) ≤ (at_ : Int) := by omega
  simp only at q0 q1 q2 q3 q4 hset
  have HBLK := Lib.hid hblk
  have hab := block_of_add ad (at_ * 5)
  have HQ := Lib.hid (And.intro q0 (And.intro q1 (And.intro q2 (And.intro q3 q4))))
  have HADB := Lib.hid (show (ad.add (at_ * 5)).block < w.heap.size by rw [hab]; exact hblk)
  clear hx hst hb hbe hrow hab q0 q1 q2 q3 q4 hblk
  subst he
  have hfi : ((fr.length : Int) == 1) = true := by rw [hfr]; rfl
  have hfn : ((fr.length : Int) != 1) = false := by rw [hfr]; rfl
  have hfb : (fr.length == 1) = true := by rw [hfr]; rfl
  have HFR := Lib.hid hfr
  clear hfr
  cases hon : onN base ⟨s, 6, on, 0, fr⟩ 10
  · have Hon := Lib.hid hon
    have HE := Lib.hid (show modalQ lg base steps at_ ⟨s, 6, on, 0, fr⟩ = false by unfold modalQ; simp only [bne, hfb, hon]; rfl)
    clear hon
    have QQ := HQ.out
    obtain ⟨q0, q1, q2, q3, q4⟩ := QQ
    have hxa : Ext w (w.alloc (.cells #[.int .i64 lg, .slice Ab base.length cb, .slice (some ad) steps.length cs] 25)) := (Ext.refl _).alloc _
    have a0 := (hxa.cell (p := ad.add (at_ * 5)) HADB.out).trans q0
    have a1 := (hxa.cell (p := ⟨(ad.add (at_ * 5)).block, (ad.add (at_ * 5)).off + 1, none⟩) HADB.out).trans q1
    have a2 := (hxa.cell (p := ⟨(ad.add (at_ * 5)).block, (ad.add (at_ * 5)).off + 2, none⟩) HADB.out).trans q2
    have a3 := (hxa.cell (p := ⟨(ad.add (at_ * 5)).block, (ad.add (at_ * 5)).off + 3, none⟩) HADB.out).trans q3
    have a4 := (hxa.cell (p := ⟨(ad.add (at_ * 5)).block, (ad.add (at_ * 5)).off + 4, none⟩) HADB.out).trans q4
    have XE := Lib.hid (show Ext w ((w.alloc (.cells #[.int .i64 lg, .slice Ab base.length cb, .slice (some ad) steps.length cs] 25)).alloc (.cells #[.int .u64 (s : Int), .int .i64 6, .int .i64 on, .int .i64 0, .slice Af fr.length cf] 37)) from ((Ext.refl _).alloc _).alloc _)
    clear hxa q0 q1 q2 q3 q4
    go_enter Tryz.func58, Tryz.ntmps58
    go_wp2_with fail
    obtain ⟨W, hW⟩ : ∃ W, W = (w.alloc (.cells #[.int .i64 lg, .slice Ab base.length cb, .slice (some ad) steps.length cs] 25)).alloc (.cells #[.int .u64 (s : Int), .int .i64 6, .int .i64 on, .int .i64 0, .slice Af fr.length cf] 37) := ⟨_, rfl⟩
    have hA : W.heap[w.heap.size]? = some (.cells #[.int .i64 lg, .slice Ab base.length cb, .slice (some ad) steps.length cs] 25 (0, 0)) := by
      rw [hW]
      exact (((Ext.refl _).alloc _).block (by simp)).trans (heap_alloc_new _ _)
    have hB : W.heap[w.heap.size + 1]? = some (.cells #[.int .u64 (s : Int), .int .i64 6, .int .i64 on, .int .i64 0, .slice Af fr.length cf] 37 (0, 0)) := by
      have := heap_alloc_new (w.alloc (.cells #[.int .i64 lg, .slice Ab base.length cb, .slice (some ad) steps.length cs] 25)) (.cells #[.int .u64 (s : Int), .int .i64 6, .int .i64 on, .int .i64 0, .slice Af fr.length cf] 37)
      rw [hW]
      simpa using this
    have X0 : Hid (Ext w W) := by rw [hW]; exact XE
    rw [← hW]
    clear hW XE a0 a1 a2 a3 a4
    obtain ⟨r0, r1, r2, _, rlt⟩ := cells3 hA
    obtain ⟨m0, m1, m2, m3, m4, _, mlt⟩ := cells5s hB
    clear hA hB
    refine wp_region_held_drew (S := fun w' => w'.cell? (⟨w.heap.size, 0, none⟩) = some (.int .i64 lg) ∧ w'.cell? (⟨w.heap.size, 1, none⟩) = some (.slice Ab base.length cb) ∧ w'.cell? (⟨w.heap.size, 2, none⟩) = some (.slice (some ad) steps.length cs) ∧ w'.cell? (⟨w.heap.size + 1, 0, none⟩) = some (.int .u64 (s : Int)) ∧ w'.cell? (⟨w.heap.size + 1, 1, none⟩) = some (.int .i64 6) ∧ w'.cell? (⟨w.heap.size + 1, 2, none⟩) = some (.int .i64 on) ∧ w'.cell? (⟨w.heap.size + 1, 3, none⟩) = some (.int .i64 0) ∧ w'.cell? (⟨w.heap.size + 1, 4, none⟩) = some (.slice Af fr.length cf)) (by kernel_rfl) ⟨xc rlt r0, xc rlt r1, xc rlt r2, xc mlt m0, xc mlt m1, xc mlt m2, xc mlt m3, xc mlt m4⟩ (fun hHeld => ?_)
    refine tk 0 hHeld ?_
    refine tk 1 hHeld ?_
    refine wpAnyH_ready (rs := [2]) (by kernel_rfl) (by simp) ?_
    refine AllReadyH.cons rfl (fun K hK => ?_) AllReadyH.nil
    go_simp
    (go_at_call 56; refine (ron_any (lg := lg) (steps := steps) (As := some ad) (cs := cs) (H.out.ext (X0.out.trans xw)) s hset 6 on 0 fr Af cf 10).mono ?_; rintro e2 wz12 ⟨rfl, hv⟩; rw [Hon.out]; have hx12 : Ext W wz12 := xt hv; clear hv)
    go_wp2_with fail
    refine hK.out _ _ ⟨xc rlt r0, xc rlt r1, xc rlt r2, xc mlt m0, xc mlt m1, xc mlt m2, xc mlt m3, xc mlt m4⟩ (fun hHeld => ?_)
    clear hK K
    try simp only [Act.put, List.setIfInBounds_toArray, List.set_cons_zero, List.set_cons_succ, List.getElem_toArray, List.getElem_cons_succ, List.getElem_cons_zero]
    refine tk 3 hHeld ?_
    refine un 4 hHeld ?_
    refine un 5 hHeld ?_
    refine un 6 hHeld ?_
    refine un 7 hHeld ?_
    refine un 8 hHeld ?_
    refine un 9 hHeld ?_
    refine un 10 hHeld ?_
    refine un 11 hHeld ?_
    refine un 12 hHeld ?_
    refine un 13 hHeld ?_
    refine un 14 hHeld ?_
    refine un 15 hHeld ?_
    refine un 16 hHeld ?_
    refine un 17 hHeld ?_
    refine un 18 hHeld ?_
    refine un 19 hHeld ?_
    refine un 20 hHeld ?_
    refine un 21 hHeld ?_
    refine un 22 hHeld ?_
    refine un 23 hHeld ?_
    refine un 24 hHeld ?_
    refine un 25 hHeld ?_
    refine un 26 hHeld ?_
    refine un 27 hHeld ?_
    refine un 28 hHeld ?_
    refine un 29 hHeld ?_
    refine tk 30 hHeld ?_
    refine tk 31 hHeld ?_
    refine wpAnyH_done (by kernel_rfl) ?_ _
    go_wp2_with fail
    go_ret
    exact ⟨by rw [HE.out] <;> rfl, X0.out.trans xw⟩
  · skip
    obtain ⟨k, n, hk, hn, hop, hin⟩ := on_yes hon
    simp only at hk
    subst hk
    have Hon := Lib.hid hon
    have HNO := Lib.hid (show nodeOn base ⟨s, 6, (k : Int), 0, fr⟩ = n by unfold nodeOn; rw [show (⟨s, 6, (k : Int), 0, fr⟩ : Stp).on = (k : Int) from rfl, Int.toNat_natCast, getD_of hn])
    obtain ⟨hx0, hx1⟩ := base_x HBE.out hn (by rw [hop]; rfl)
    obtain ⟨xn, hxn⟩ := Int.eq_ofNat_of_zero_le hx0
    have hx6 : xn < 64 := by omega
    obtain ⟨ag, hag⟩ : ∃ ag, ag = n.i := ⟨_, rfl⟩
    obtain ⟨yv, hyn⟩ : ∃ yv, n.y = yv := ⟨_, rfl⟩
    have HXN := Lib.hid hxn
    have HYN := Lib.hid hyn
    have HAG := Lib.hid hag
    have HNN := Lib.hid hn
    have HOP := Lib.hid hop
    have BX := shl_one hx6
    have MX : min xn 64 = xn := by omega
    obtain ⟨A', c', eA, hcapb, hmaxb, hreadb⟩ := H.out.1
    obtain ⟨rfl, rfl⟩ : Ab = A' ∧ cb = c' := by injection eA with eA _ eC; exact ⟨eA, eC⟩
    obtain ⟨adb, rfl, hblkb, hcb⟩ := hreadb (by intro e; rw [e] at hn; cases hn)
    have HNC := Lib.hid (show (adb.add (k * 6)).block < w.heap.size ∧ w.cell? ⟨(adb.add (k * 6)).block, (adb.add (k * 6)).off + 1, none⟩ = some (.int .i64 ag) ∧ w.cell? ⟨(adb.add (k * 6)).block, (adb.add (k * 6)).off + 4, none⟩ = some (.int .i64 (xn : Int)) ∧ w.cell? ⟨(adb.add (k * 6)).block, (adb.add (k * 6)).off + 5, none⟩ = some (.int .i64 yv) from by
      obtain ⟨e0, e1, e2, e3, e4, e5⟩ := hcb k n hn
      rw [hxn] at e4
      rw [hyn] at e5
      rw [← hag] at e1
      exact ⟨by rw [block_of_add]; exact hblkb, e1, e4, e5⟩)
    unfold maxLen at hmaxb
    have hkl := (List.getElem?_eq_some_iff.1 hn).1
    have hk0 : (0 : Int) ≤ (k : Int) := by omega
    have hk1 : (k : Int) < (base.length : Int) := by omega
    clear hon hn hop hin hxn hyn hag hx0 hx1 eA hreadb hcb hblkb
    have HE := Lib.hid (show modalQ lg base steps at_ ⟨s, 6, (k : Int), 0, fr⟩ = prem1 steps at_ 0 (2 ^ xn ||| CarryN lg base s ag) by unfold modalQ; simp only [bne, hfb, Hon.out, HNO.out, HXN.out, HAG.out]; rfl)
    have HCL := Lib.hid (CarryN_lt (lg := lg) (set := s) (ag := ag) HBE.out)
    have QQ := HQ.out
    obtain ⟨q0, q1, q2, q3, q4⟩ := QQ
    have hxa : Ext w (w.alloc (.cells #[.int .i64 lg, .slice (some adb) base.length cb, .slice (some ad) steps.length cs] 25)) := (Ext.refl _).alloc _
    have a0 := (hxa.cell (p := ad.add (at_ * 5)) HADB.out).trans q0
    have a1 := (hxa.cell (p := ⟨(ad.add (at_ * 5)).block, (ad.add (at_ * 5)).off + 1, none⟩) HADB.out).trans q1
    have a2 := (hxa.cell (p := ⟨(ad.add (at_ * 5)).block, (ad.add (at_ * 5)).off + 2, none⟩) HADB.out).trans q2
    have a3 := (hxa.cell (p := ⟨(ad.add (at_ * 5)).block, (ad.add (at_ * 5)).off + 3, none⟩) HADB.out).trans q3
    have a4 := (hxa.cell (p := ⟨(ad.add (at_ * 5)).block, (ad.add (at_ * 5)).off + 4, none⟩) HADB.out).trans q4
    have XE := Lib.hid (show Ext w ((w.alloc (.cells #[.int .i64 lg, .slice (some adb) base.length cb, .slice (some ad) steps.length cs] 25)).alloc (.cells #[.int .u64 (s : Int), .int .i64 6, .int .i64 (k : Int), .int .i64 0, .slice Af fr.length cf] 37)) from ((Ext.refl _).alloc _).alloc _)
    clear hxa q0 q1 q2 q3 q4
    go_enter Tryz.func58, Tryz.ntmps58
    go_wp2_with fail
    obtain ⟨W, hW⟩ : ∃ W, W = (w.alloc (.cells #[.int .i64 lg, .slice (some adb) base.length cb, .slice (some ad) steps.length cs] 25)).alloc (.cells #[.int .u64 (s : Int), .int .i64 6, .int .i64 (k : Int), .int .i64 0, .slice Af fr.length cf] 37) := ⟨_, rfl⟩
    have hA : W.heap[w.heap.size]? = some (.cells #[.int .i64 lg, .slice (some adb) base.length cb, .slice (some ad) steps.length cs] 25 (0, 0)) := by
      rw [hW]
      exact (((Ext.refl _).alloc _).block (by simp)).trans (heap_alloc_new _ _)
    have hB : W.heap[w.heap.size + 1]? = some (.cells #[.int .u64 (s : Int), .int .i64 6, .int .i64 (k : Int), .int .i64 0, .slice Af fr.length cf] 37 (0, 0)) := by
      have := heap_alloc_new (w.alloc (.cells #[.int .i64 lg, .slice (some adb) base.length cb, .slice (some ad) steps.length cs] 25)) (.cells #[.int .u64 (s : Int), .int .i64 6, .int .i64 (k : Int), .int .i64 0, .slice Af fr.length cf] 37)
      rw [hW]
      simpa using this
    have X0 : Hid (Ext w W) := by rw [hW]; exact XE
    rw [← hW]
    clear hW XE a0 a1 a2 a3 a4
    obtain ⟨r0, r1, r2, _, rlt⟩ := cells3 hA
    obtain ⟨m0, m1, m2, m3, m4, _, mlt⟩ := cells5s hB
    clear hA hB
    have NN := HNC.out
    have NX := X0.out
    have y1 := (NX.cell (p := ⟨(adb.add (k * 6)).block, (adb.add (k * 6)).off + 1, none⟩) NN.1).trans NN.2.1
    have y4 := (NX.cell (p := ⟨(adb.add (k * 6)).block, (adb.add (k * 6)).off + 4, none⟩) NN.1).trans NN.2.2.1
    have y5 := (NX.cell (p := ⟨(adb.add (k * 6)).block, (adb.add (k * 6)).off + 5, none⟩) NN.1).trans NN.2.2.2
    have ylt := Nat.lt_of_lt_of_le NN.1 NX.size
    clear NN NX
    refine wp_region_held_drew (S := fun w' => w'.cell? (⟨w.heap.size, 0, none⟩) = some (.int .i64 lg) ∧ w'.cell? (⟨w.heap.size, 1, none⟩) = some (.slice (some adb) base.length cb) ∧ w'.cell? (⟨w.heap.size, 2, none⟩) = some (.slice (some ad) steps.length cs) ∧ w'.cell? (⟨w.heap.size + 1, 0, none⟩) = some (.int .u64 (s : Int)) ∧ w'.cell? (⟨w.heap.size + 1, 1, none⟩) = some (.int .i64 6) ∧ w'.cell? (⟨w.heap.size + 1, 2, none⟩) = some (.int .i64 (k : Int)) ∧ w'.cell? (⟨w.heap.size + 1, 3, none⟩) = some (.int .i64 0) ∧ w'.cell? (⟨w.heap.size + 1, 4, none⟩) = some (.slice Af fr.length cf) ∧ w'.cell? (⟨(adb.add (k * 6)).block, (adb.add (k * 6)).off + 1, none⟩) = some (.int .i64 ag) ∧ w'.cell? (⟨(adb.add (k * 6)).block, (adb.add (k * 6)).off + 4, none⟩) = some (.int .i64 (xn : Int)) ∧ w'.cell? (⟨(adb.add (k * 6)).block, (adb.add (k * 6)).off + 5, none⟩) = some (.int .i64 yv)) (by kernel_rfl) ⟨xc rlt r0, xc rlt r1, xc rlt r2, xc mlt m0, xc mlt m1, xc mlt m2, xc mlt m3, xc mlt m4, xc ylt y1, xc ylt y4, xc ylt y5⟩ (fun hHeld => ?_)
    refine tk 0 hHeld ?_
    refine tk 1 hHeld ?_
    refine wpAnyH_ready (rs := [2]) (by kernel_rfl) (by simp) ?_
    refine AllReadyH.cons rfl (fun K hK => ?_) AllReadyH.nil
    go_simp
    (go_at_call 56; refine (ron_any (lg := lg) (steps := steps) (As := some ad) (cs := cs) (H.out.ext (X0.out.trans xw)) s hset 6 (k : Int) 0 fr Af cf 10).mono ?_; rintro e2 wz14 ⟨rfl, hv⟩; rw [Hon.out]; have hx14 : Ext W wz14 := xt hv; clear hv)
    go_wp2_with fail
    refine hK.out _ _ ⟨xc rlt r0, xc rlt r1, xc rlt r2, xc mlt m0, xc mlt m1, xc mlt m2, xc mlt m3, xc mlt m4, xc ylt y1, xc ylt y4, xc ylt y5⟩ (fun hHeld => ?_)
    clear hK K
    try simp only [Act.put, List.setIfInBounds_toArray, List.set_cons_zero, List.set_cons_succ, List.getElem_toArray, List.getElem_cons_succ, List.getElem_cons_zero]
    refine tk 3 hHeld ?_
    refine tk 4 hHeld ?_
    refine tk 5 hHeld ?_
    refine tk 6 hHeld ?_
    refine tk 7 hHeld ?_
    refine tk 8 hHeld ?_
    refine tk 9 hHeld ?_
    refine tk 10 hHeld ?_
    refine tk 11 hHeld ?_
    refine tk 12 hHeld ?_
    refine tk 13 hHeld ?_
    refine tk 14 hHeld ?_
    refine tk 15 hHeld ?_
    refine tk 16 hHeld ?_
    refine tk 17 hHeld ?_
    refine tk 18 hHeld ?_
    refine tk 19 hHeld ?_
    refine tk 20 hHeld ?_
    refine tk 21 hHeld ?_
    refine tk 22 hHeld ?_
    refine tk 23 hHeld ?_
    refine tk 24 hHeld ?_
    refine tk 25 hHeld ?_
    refine tk 26 hHeld ?_
    refine wpAnyH_ready (rs := [27]) (by kernel_rfl) (by simp) ?_
    refine AllReadyH.cons rfl (fun K hK => ?_) AllReadyH.nil
    go_simp
    (go_at_call 14; refine (rCarry_any lg _ base s ag _ (H.out.ext (X0.out.trans xw)) hset).mono ?_; rintro e2 wz13 ⟨rfl, hv⟩; have hx13 : Ext W wz13 := xt hv; clear hv)
    go_wp2_with fail
    refine hK.out _ _ ⟨xc rlt r0, xc rlt r1, xc rlt r2, xc mlt m0, xc mlt m1, xc mlt m2, xc mlt m3, xc mlt m4, xc ylt y1, xc ylt y4, xc ylt y5⟩ (fun hHeld => ?_)
    clear hK K
    try simp only [Act.put, List.setIfInBounds_toArray, List.set_cons_zero, List.set_cons_succ, List.getElem_toArray, List.getElem_cons_succ, List.getElem_cons_zero]
    refine tk 28 hHeld ?_
    refine wpAnyH_ready (rs := [29]) (by kernel_rfl) (by simp) ?_
    refine AllReadyH.cons rfl (fun K hK => ?_) AllReadyH.nil
    go_simp
    (go_at_call 57; rw [pow_orq hx6 HCL.out]; refine (rprem_any (lg := lg) (base := base) (Ab := some adb) (cb := cb) (HST.out.ext (X0.out.trans xw)) at_ 0 HX.out (by show _ < fr.length; rw [HFR.out]; decide) (2 ^ xn ||| CarryN lg base s ag) (or_lt64 (two_pow_lt64 hx6) HCL.out)).mono ?_; rintro e2 wz15 ⟨rfl, hv⟩; have hx15 : Ext W wz15 := xt hv; clear hv)
    go_wp2_with fail
    refine hK.out _ _ ⟨xc rlt r0, xc rlt r1, xc rlt r2, xc mlt m0, xc mlt m1, xc mlt m2, xc mlt m3, xc mlt m4, xc ylt y1, xc ylt y4, xc ylt y5⟩ (fun hHeld => ?_)
    clear hK K
    try simp only [Act.put, List.setIfInBounds_toArray, List.set_cons_zero, List.set_cons_succ, List.getElem_toArray, List.getElem_cons_succ, List.getElem_cons_zero]
    refine tk 30 hHeld ?_
    refine tk 31 hHeld ?_
    refine wpAnyH_done (by kernel_rfl) ?_ _
    go_wp2_with fail
    go_ret
    exact ⟨by rw [HE.out] <;> rfl, X0.out.trans xw⟩
set_option maxRecDepth 100000 in
set_option maxHeartbeats 40000000 in
theorem rmodal_D {w : World} {lg : Int} {base : List Nd} {steps : List Stp} {Ab As : Option Addr} {cb cs : Nat} (hb : Fml w (.slice Ab base.length cb) base) (hst : Sps w (.slice As steps.length cs) steps) (hbe : baseErr base = 0) (at_ : Nat) (s : Nat) (ru on e : Int) (fr : List Int) (hx : steps[at_]? = some ⟨s, ru, on, e, fr⟩) (h5 : ru ≠ 5) (h6 : ru ≠ 6) (hfr : fr.length = 1) (he : e = 0) :
    Calls Tryz.prog 58 #[.agg #[.int .i64 lg, .slice Ab base.length cb, .slice As steps.length cs], .int .i64 (at_ : Int)] w fun e' w' => e' = .returned (.bool (modalQ lg base steps at_ ⟨s, ru, on, 0, fr⟩)) ∧ Ext w w' := by
  have H := Lib.hid hb
  have HST := Lib.hid hst
  have HBE := Lib.hid hbe
  have HX := Lib.hid hx
  obtain ⟨ad, rfl, hcap, hmax, hblk, hrow⟩ := hst.rows (by intro e; rw [e] at hx; cases hx)
  obtain ⟨ur, q0, q1, q2, q3, q4, ⟨Af, cf, rfl, _⟩, hset⟩ := hrow at_ _ hx
  have hat := (List.getElem?_eq_some_iff.1 hx).1
  have ha1 : (at_ : Int) < (steps.length : Int) := by omega
  have ha0 : (0 : Int) ≤ (at_ : Int) := by omega
  simp only at q0 q1 q2 q3 q4 hset
  have HBLK := Lib.hid hblk
  have hab := block_of_add ad (at_ * 5)
  have HQ := Lib.hid (And.intro q0 (And.intro q1 (And.intro q2 (And.intro q3 q4))))
  have HADB := Lib.hid (show (ad.add (at_ * 5)).block < w.heap.size by rw [hab]; exact hblk)
  clear hx hst hb hbe hrow hab q0 q1 q2 q3 q4 hblk
  subst he
  have hfi : ((fr.length : Int) == 1) = true := by rw [hfr]; rfl
  have hfn : ((fr.length : Int) != 1) = false := by rw [hfr]; rfl
  have hfb : (fr.length == 1) = true := by rw [hfr]; rfl
  have HFR := Lib.hid hfr
  clear hfr
  have hr5 : (ru == 5) = false := by simpa using h5
  have hr6 : (ru == 6) = false := by simpa using h6
  clear h5 h6
  cases hl1 : lg == 1
  · skip
    cases hl5 : lg == 5
    · skip
      have HE := Lib.hid (show modalQ lg base steps at_ ⟨s, ru, on, 0, fr⟩ = false by unfold modalQ; simp only [bne, hfb, hr5, hr6, hl1, hl5]; rfl)
      have QQ := HQ.out
      obtain ⟨q0, q1, q2, q3, q4⟩ := QQ
      have hxa : Ext w (w.alloc (.cells #[.int .i64 lg, .slice Ab base.length cb, .slice (some ad) steps.length cs] 25)) := (Ext.refl _).alloc _
      have a0 := (hxa.cell (p := ad.add (at_ * 5)) HADB.out).trans q0
      have a1 := (hxa.cell (p := ⟨(ad.add (at_ * 5)).block, (ad.add (at_ * 5)).off + 1, none⟩) HADB.out).trans q1
      have a2 := (hxa.cell (p := ⟨(ad.add (at_ * 5)).block, (ad.add (at_ * 5)).off + 2, none⟩) HADB.out).trans q2
      have a3 := (hxa.cell (p := ⟨(ad.add (at_ * 5)).block, (ad.add (at_ * 5)).off + 3, none⟩) HADB.out).trans q3
      have a4 := (hxa.cell (p := ⟨(ad.add (at_ * 5)).block, (ad.add (at_ * 5)).off + 4, none⟩) HADB.out).trans q4
      have XE := Lib.hid (show Ext w ((w.alloc (.cells #[.int .i64 lg, .slice Ab base.length cb, .slice (some ad) steps.length cs] 25)).alloc (.cells #[.int .u64 (s : Int), .int .i64 ru, .int .i64 on, .int .i64 0, .slice Af fr.length cf] 37)) from ((Ext.refl _).alloc _).alloc _)
      clear hxa q0 q1 q2 q3 q4
      go_enter Tryz.func58, Tryz.ntmps58
      go_wp2_with fail
      obtain ⟨W, hW⟩ : ∃ W, W = (w.alloc (.cells #[.int .i64 lg, .slice Ab base.length cb, .slice (some ad) steps.length cs] 25)).alloc (.cells #[.int .u64 (s : Int), .int .i64 ru, .int .i64 on, .int .i64 0, .slice Af fr.length cf] 37) := ⟨_, rfl⟩
      have hA : W.heap[w.heap.size]? = some (.cells #[.int .i64 lg, .slice Ab base.length cb, .slice (some ad) steps.length cs] 25 (0, 0)) := by
        rw [hW]
        exact (((Ext.refl _).alloc _).block (by simp)).trans (heap_alloc_new _ _)
      have hB : W.heap[w.heap.size + 1]? = some (.cells #[.int .u64 (s : Int), .int .i64 ru, .int .i64 on, .int .i64 0, .slice Af fr.length cf] 37 (0, 0)) := by
        have := heap_alloc_new (w.alloc (.cells #[.int .i64 lg, .slice Ab base.length cb, .slice (some ad) steps.length cs] 25)) (.cells #[.int .u64 (s : Int), .int .i64 ru, .int .i64 on, .int .i64 0, .slice Af fr.length cf] 37)
        rw [hW]
        simpa using this
      have X0 : Hid (Ext w W) := by rw [hW]; exact XE
      rw [← hW]
      clear hW XE a0 a1 a2 a3 a4
      obtain ⟨r0, r1, r2, _, rlt⟩ := cells3 hA
      obtain ⟨m0, m1, m2, m3, m4, _, mlt⟩ := cells5s hB
      clear hA hB
      refine wp_region_held_drew (S := fun w' => w'.cell? (⟨w.heap.size, 0, none⟩) = some (.int .i64 lg) ∧ w'.cell? (⟨w.heap.size, 1, none⟩) = some (.slice Ab base.length cb) ∧ w'.cell? (⟨w.heap.size, 2, none⟩) = some (.slice (some ad) steps.length cs) ∧ w'.cell? (⟨w.heap.size + 1, 0, none⟩) = some (.int .u64 (s : Int)) ∧ w'.cell? (⟨w.heap.size + 1, 1, none⟩) = some (.int .i64 ru) ∧ w'.cell? (⟨w.heap.size + 1, 2, none⟩) = some (.int .i64 on) ∧ w'.cell? (⟨w.heap.size + 1, 3, none⟩) = some (.int .i64 0) ∧ w'.cell? (⟨w.heap.size + 1, 4, none⟩) = some (.slice Af fr.length cf)) (by kernel_rfl) ⟨xc rlt r0, xc rlt r1, xc rlt r2, xc mlt m0, xc mlt m1, xc mlt m2, xc mlt m3, xc mlt m4⟩ (fun hHeld => ?_)
      refine tk 0 hHeld ?_
      refine tk 1 hHeld ?_
      refine un 2 hHeld ?_
      refine un 3 hHeld ?_
      refine un 4 hHeld ?_
      refine tk 5 hHeld ?_
      refine tk 6 hHeld ?_
      refine un 7 hHeld ?_
      refine un 8 hHeld ?_
      refine un 9 hHeld ?_
      refine tk 10 hHeld ?_
      refine tk 11 hHeld ?_
      refine un 12 hHeld ?_
      refine un 13 hHeld ?_
      refine un 14 hHeld ?_
      refine tk 15 hHeld ?_
      refine tk 16 hHeld ?_
      refine un 17 hHeld ?_
      refine un 18 hHeld ?_
      refine un 19 hHeld ?_
      refine un 20 hHeld ?_
      refine un 21 hHeld ?_
      refine un 22 hHeld ?_
      refine un 23 hHeld ?_
      refine un 24 hHeld ?_
      refine un 25 hHeld ?_
      refine un 26 hHeld ?_
      refine un 27 hHeld ?_
      refine un 28 hHeld ?_
      refine tk 29 hHeld ?_
      refine tk 30 hHeld ?_
      refine wpAnyH_done (by kernel_rfl) ?_ _
      go_wp2_with fail
      go_ret
      exact ⟨by rw [HE.out] <;> rfl, X0.out.trans xw⟩
    · skip
      cases hr7 : ru == 7
      · skip
        have HE := Lib.hid (show modalQ lg base steps at_ ⟨s, ru, on, 0, fr⟩ = false by unfold modalQ; simp only [bne, hfb, hr5, hr6, hl1, hl5, hr7]; rfl)
        have QQ := HQ.out
        obtain ⟨q0, q1, q2, q3, q4⟩ := QQ
        have hxa : Ext w (w.alloc (.cells #[.int .i64 lg, .slice Ab base.length cb, .slice (some ad) steps.length cs] 25)) := (Ext.refl _).alloc _
        have a0 := (hxa.cell (p := ad.add (at_ * 5)) HADB.out).trans q0
        have a1 := (hxa.cell (p := ⟨(ad.add (at_ * 5)).block, (ad.add (at_ * 5)).off + 1, none⟩) HADB.out).trans q1
        have a2 := (hxa.cell (p := ⟨(ad.add (at_ * 5)).block, (ad.add (at_ * 5)).off + 2, none⟩) HADB.out).trans q2
        have a3 := (hxa.cell (p := ⟨(ad.add (at_ * 5)).block, (ad.add (at_ * 5)).off + 3, none⟩) HADB.out).trans q3
        have a4 := (hxa.cell (p := ⟨(ad.add (at_ * 5)).block, (ad.add (at_ * 5)).off + 4, none⟩) HADB.out).trans q4
        have XE := Lib.hid (show Ext w ((w.alloc (.cells #[.int .i64 lg, .slice Ab base.length cb, .slice (some ad) steps.length cs] 25)).alloc (.cells #[.int .u64 (s : Int), .int .i64 ru, .int .i64 on, .int .i64 0, .slice Af fr.length cf] 37)) from ((Ext.refl _).alloc _).alloc _)
        clear hxa q0 q1 q2 q3 q4
        go_enter Tryz.func58, Tryz.ntmps58
        go_wp2_with fail
        obtain ⟨W, hW⟩ : ∃ W, W = (w.alloc (.cells #[.int .i64 lg, .slice Ab base.length cb, .slice (some ad) steps.length cs] 25)).alloc (.cells #[.int .u64 (s : Int), .int .i64 ru, .int .i64 on, .int .i64 0, .slice Af fr.length cf] 37) := ⟨_, rfl⟩
        have hA : W.heap[w.heap.size]? = some (.cells #[.int .i64 lg, .slice Ab base.length cb, .slice (some ad) steps.length cs] 25 (0, 0)) := by
          rw [hW]
          exact (((Ext.refl _).alloc _).block (by simp)).trans (heap_alloc_new _ _)
        have hB : W.heap[w.heap.size + 1]? = some (.cells #[.int .u64 (s : Int), .int .i64 ru, .int .i64 on, .int .i64 0, .slice Af fr.length cf] 37 (0, 0)) := by
          have := heap_alloc_new (w.alloc (.cells #[.int .i64 lg, .slice Ab base.length cb, .slice (some ad) steps.length cs] 25)) (.cells #[.int .u64 (s : Int), .int .i64 ru, .int .i64 on, .int .i64 0, .slice Af fr.length cf] 37)
          rw [hW]
          simpa using this
        have X0 : Hid (Ext w W) := by rw [hW]; exact XE
        rw [← hW]
        clear hW XE a0 a1 a2 a3 a4
        obtain ⟨r0, r1, r2, _, rlt⟩ := cells3 hA
        obtain ⟨m0, m1, m2, m3, m4, _, mlt⟩ := cells5s hB
        clear hA hB
        refine wp_region_held_drew (S := fun w' => w'.cell? (⟨w.heap.size, 0, none⟩) = some (.int .i64 lg) ∧ w'.cell? (⟨w.heap.size, 1, none⟩) = some (.slice Ab base.length cb) ∧ w'.cell? (⟨w.heap.size, 2, none⟩) = some (.slice (some ad) steps.length cs) ∧ w'.cell? (⟨w.heap.size + 1, 0, none⟩) = some (.int .u64 (s : Int)) ∧ w'.cell? (⟨w.heap.size + 1, 1, none⟩) = some (.int .i64 ru) ∧ w'.cell? (⟨w.heap.size + 1, 2, none⟩) = some (.int .i64 on) ∧ w'.cell? (⟨w.heap.size + 1, 3, none⟩) = some (.int .i64 0) ∧ w'.cell? (⟨w.heap.size + 1, 4, none⟩) = some (.slice Af fr.length cf)) (by kernel_rfl) ⟨xc rlt r0, xc rlt r1, xc rlt r2, xc mlt m0, xc mlt m1, xc mlt m2, xc mlt m3, xc mlt m4⟩ (fun hHeld => ?_)
        refine tk 0 hHeld ?_
        refine tk 1 hHeld ?_
        refine tk 2 hHeld ?_
        refine tk 3 hHeld ?_
        refine tk 4 hHeld ?_
        refine tk 5 hHeld ?_
        refine tk 6 hHeld ?_
        refine un 7 hHeld ?_
        refine un 8 hHeld ?_
        refine un 9 hHeld ?_
        refine tk 10 hHeld ?_
        refine tk 11 hHeld ?_
        refine un 12 hHeld ?_
        refine un 13 hHeld ?_
        refine un 14 hHeld ?_
        refine tk 15 hHeld ?_
        refine tk 16 hHeld ?_
        refine un 17 hHeld ?_
        refine un 18 hHeld ?_
        refine un 19 hHeld ?_
        refine un 20 hHeld ?_
        refine un 21 hHeld ?_
        refine un 22 hHeld ?_
        refine un 23 hHeld ?_
        refine un 24 hHeld ?_
        refine un 25 hHeld ?_
        refine un 26 hHeld ?_
        refine un 27 hHeld ?_
        refine un 28 hHeld ?_
        refine tk 29 hHeld ?_
        refine tk 30 hHeld ?_
        refine wpAnyH_done (by kernel_rfl) ?_ _
        go_wp2_with fail
        go_ret
        exact ⟨by rw [HE.out] <;> rfl, X0.out.trans xw⟩
      · by_cases h0 : 0 ≤ on
        · have h0d : decide (0 ≤ on) = true := decide_eq_true h0
          by_cases h4 : on < 4
          · have h4d : decide (on < 4) = true := decide_eq_true h4
            have HE := Lib.hid (show modalQ lg base steps at_ ⟨s, ru, on, 0, fr⟩ = prem1 steps at_ 0 (CarryN lg base s on) by unfold modalQ; simp only [bne, hfb, hr5, hr6, hr7, h0d, h4d, hl1, hl5]; rfl)
            have HCL := Lib.hid (CarryN_lt (lg := lg) (set := s) (ag := on) HBE.out)
            have QQ := HQ.out
            obtain ⟨q0, q1, q2, q3, q4⟩ := QQ
            have hxa : Ext w (w.alloc (.cells #[.int .i64 lg, .slice Ab base.length cb, .slice (some ad) steps.length cs] 25)) := (Ext.refl _).alloc _
            have a0 := (hxa.cell (p := ad.add (at_ * 5)) HADB.out).trans q0
            have a1 := (hxa.cell (p := ⟨(ad.add (at_ * 5)).block, (ad.add (at_ * 5)).off + 1, none⟩) HADB.out).trans q1
            have a2 := (hxa.cell (p := ⟨(ad.add (at_ * 5)).block, (ad.add (at_ * 5)).off + 2, none⟩) HADB.out).trans q2
            have a3 := (hxa.cell (p := ⟨(ad.add (at_ * 5)).block, (ad.add (at_ * 5)).off + 3, none⟩) HADB.out).trans q3
            have a4 := (hxa.cell (p := ⟨(ad.add (at_ * 5)).block, (ad.add (at_ * 5)).off + 4, none⟩) HADB.out).trans q4
            have XE := Lib.hid (show Ext w ((w.alloc (.cells #[.int .i64 lg, .slice Ab base.length cb, .slice (some ad) steps.length cs] 25)).alloc (.cells #[.int .u64 (s : Int), .int .i64 ru, .int .i64 on, .int .i64 0, .slice Af fr.length cf] 37)) from ((Ext.refl _).alloc _).alloc _)
            clear hxa q0 q1 q2 q3 q4
            go_enter Tryz.func58, Tryz.ntmps58
            go_wp2_with fail
            obtain ⟨W, hW⟩ : ∃ W, W = (w.alloc (.cells #[.int .i64 lg, .slice Ab base.length cb, .slice (some ad) steps.length cs] 25)).alloc (.cells #[.int .u64 (s : Int), .int .i64 ru, .int .i64 on, .int .i64 0, .slice Af fr.length cf] 37) := ⟨_, rfl⟩
            have hA : W.heap[w.heap.size]? = some (.cells #[.int .i64 lg, .slice Ab base.length cb, .slice (some ad) steps.length cs] 25 (0, 0)) := by
              rw [hW]
              exact (((Ext.refl _).alloc _).block (by simp)).trans (heap_alloc_new _ _)
            have hB : W.heap[w.heap.size + 1]? = some (.cells #[.int .u64 (s : Int), .int .i64 ru, .int .i64 on, .int .i64 0, .slice Af fr.length cf] 37 (0, 0)) := by
              have := heap_alloc_new (w.alloc (.cells #[.int .i64 lg, .slice Ab base.length cb, .slice (some ad) steps.length cs] 25)) (.cells #[.int .u64 (s : Int), .int .i64 ru, .int .i64 on, .int .i64 0, .slice Af fr.length cf] 37)
              rw [hW]
              simpa using this
            have X0 : Hid (Ext w W) := by rw [hW]; exact XE
            rw [← hW]
            clear hW XE a0 a1 a2 a3 a4
            obtain ⟨r0, r1, r2, _, rlt⟩ := cells3 hA
            obtain ⟨m0, m1, m2, m3, m4, _, mlt⟩ := cells5s hB
            clear hA hB
            refine wp_region_held_drew (S := fun w' => w'.cell? (⟨w.heap.size, 0, none⟩) = some (.int .i64 lg) ∧ w'.cell? (⟨w.heap.size, 1, none⟩) = some (.slice Ab base.length cb) ∧ w'.cell? (⟨w.heap.size, 2, none⟩) = some (.slice (some ad) steps.length cs) ∧ w'.cell? (⟨w.heap.size + 1, 0, none⟩) = some (.int .u64 (s : Int)) ∧ w'.cell? (⟨w.heap.size + 1, 1, none⟩) = some (.int .i64 ru) ∧ w'.cell? (⟨w.heap.size + 1, 2, none⟩) = some (.int .i64 on) ∧ w'.cell? (⟨w.heap.size + 1, 3, none⟩) = some (.int .i64 0) ∧ w'.cell? (⟨w.heap.size + 1, 4, none⟩) = some (.slice Af fr.length cf)) (by kernel_rfl) ⟨xc rlt r0, xc rlt r1, xc rlt r2, xc mlt m0, xc mlt m1, xc mlt m2, xc mlt m3, xc mlt m4⟩ (fun hHeld => ?_)
            refine tk 0 hHeld ?_
            refine tk 1 hHeld ?_
            refine tk 2 hHeld ?_
            refine tk 3 hHeld ?_
            refine tk 4 hHeld ?_
            refine tk 5 hHeld ?_
            refine tk 6 hHeld ?_
            refine tk 7 hHeld ?_
            refine tk 8 hHeld ?_
            refine tk 9 hHeld ?_
            refine tk 10 hHeld ?_
            refine tk 11 hHeld ?_
            refine tk 12 hHeld ?_
            refine tk 13 hHeld ?_
            refine tk 14 hHeld ?_
            refine tk 15 hHeld ?_
            refine tk 16 hHeld ?_
            refine tk 17 hHeld ?_
            refine tk 18 hHeld ?_
            refine tk 19 hHeld ?_
            refine tk 20 hHeld ?_
            refine tk 21 hHeld ?_
            refine tk 22 hHeld ?_
            refine tk 23 hHeld ?_
            refine tk 24 hHeld ?_
            refine tk 25 hHeld ?_
            refine tk 26 hHeld ?_
            refine wpAnyH_ready (rs := [27]) (by kernel_rfl) (by simp) ?_
            refine AllReadyH.cons rfl (fun K hK => ?_) AllReadyH.nil
            go_simp
            (go_at_call 14; refine (rCarry_any lg _ base s on _ (H.out.ext (X0.out.trans xw)) hset).mono ?_; rintro e2 wz16 ⟨rfl, hv⟩; have hx16 : Ext W wz16 := xt hv; clear hv)
            go_wp2_with fail
            refine hK.out _ _ ⟨xc rlt r0, xc rlt r1, xc rlt r2, xc mlt m0, xc mlt m1, xc mlt m2, xc mlt m3, xc mlt m4⟩ (fun hHeld => ?_)
            clear hK K
            try simp only [Act.put, List.setIfInBounds_toArray, List.set_cons_zero, List.set_cons_succ, List.getElem_toArray, List.getElem_cons_succ, List.getElem_cons_zero]
            refine wpAnyH_ready (rs := [28]) (by kernel_rfl) (by simp) ?_
            refine AllReadyH.cons rfl (fun K hK => ?_) AllReadyH.nil
            go_simp
            (go_at_call 57; refine (rprem_any (lg := lg) (base := base) (Ab := Ab) (cb := cb) (HST.out.ext (X0.out.trans xw)) at_ 0 HX.out (by show _ < fr.length; rw [HFR.out]; decide) (CarryN lg base s on) (HCL.out)).mono ?_; rintro e2 wz17 ⟨rfl, hv⟩; have hx17 : Ext W wz17 := xt hv; clear hv)
            go_wp2_with fail
            refine hK.out _ _ ⟨xc rlt r0, xc rlt r1, xc rlt r2, xc mlt m0, xc mlt m1, xc mlt m2, xc mlt m3, xc mlt m4⟩ (fun hHeld => ?_)
            clear hK K
            try simp only [Act.put, List.setIfInBounds_toArray, List.set_cons_zero, List.set_cons_succ, List.getElem_toArray, List.getElem_cons_succ, List.getElem_cons_zero]
            refine tk 29 hHeld ?_
            refine tk 30 hHeld ?_
            refine wpAnyH_done (by kernel_rfl) ?_ _
            go_wp2_with fail
            go_ret
            exact ⟨by rw [HE.out] <;> rfl, X0.out.trans xw⟩
          · have h4d : decide (on < 4) = false := decide_eq_false h4
            have HE := Lib.hid (show modalQ lg base steps at_ ⟨s, ru, on, 0, fr⟩ = false by unfold modalQ; simp only [bne, hfb, hr5, hr6, hl1, hl5, hr7, h0d, h4d]; rfl)
            have QQ := HQ.out
            obtain ⟨q0, q1, q2, q3, q4⟩ := QQ
            have hxa : Ext w (w.alloc (.cells #[.int .i64 lg, .slice Ab base.length cb, .slice (some ad) steps.length cs] 25)) := (Ext.refl _).alloc _
            have a0 := (hxa.cell (p := ad.add (at_ * 5)) HADB.out).trans q0
            have a1 := (hxa.cell (p := ⟨(ad.add (at_ * 5)).block, (ad.add (at_ * 5)).off + 1, none⟩) HADB.out).trans q1
            have a2 := (hxa.cell (p := ⟨(ad.add (at_ * 5)).block, (ad.add (at_ * 5)).off + 2, none⟩) HADB.out).trans q2
            have a3 := (hxa.cell (p := ⟨(ad.add (at_ * 5)).block, (ad.add (at_ * 5)).off + 3, none⟩) HADB.out).trans q3
            have a4 := (hxa.cell (p := ⟨(ad.add (at_ * 5)).block, (ad.add (at_ * 5)).off + 4, none⟩) HADB.out).trans q4
            have XE := Lib.hid (show Ext w ((w.alloc (.cells #[.int .i64 lg, .slice Ab base.length cb, .slice (some ad) steps.length cs] 25)).alloc (.cells #[.int .u64 (s : Int), .int .i64 ru, .int .i64 on, .int .i64 0, .slice Af fr.length cf] 37)) from ((Ext.refl _).alloc _).alloc _)
            clear hxa q0 q1 q2 q3 q4
            go_enter Tryz.func58, Tryz.ntmps58
            go_wp2_with fail
            obtain ⟨W, hW⟩ : ∃ W, W = (w.alloc (.cells #[.int .i64 lg, .slice Ab base.length cb, .slice (some ad) steps.length cs] 25)).alloc (.cells #[.int .u64 (s : Int), .int .i64 ru, .int .i64 on, .int .i64 0, .slice Af fr.length cf] 37) := ⟨_, rfl⟩
            have hA : W.heap[w.heap.size]? = some (.cells #[.int .i64 lg, .slice Ab base.length cb, .slice (some ad) steps.length cs] 25 (0, 0)) := by
              rw [hW]
              exact (((Ext.refl _).alloc _).block (by simp)).trans (heap_alloc_new _ _)
            have hB : W.heap[w.heap.size + 1]? = some (.cells #[.int .u64 (s : Int), .int .i64 ru, .int .i64 on, .int .i64 0, .slice Af fr.length cf] 37 (0, 0)) := by
              have := heap_alloc_new (w.alloc (.cells #[.int .i64 lg, .slice Ab base.length cb, .slice (some ad) steps.length cs] 25)) (.cells #[.int .u64 (s : Int), .int .i64 ru, .int .i64 on, .int .i64 0, .slice Af fr.length cf] 37)
              rw [hW]
              simpa using this
            have X0 : Hid (Ext w W) := by rw [hW]; exact XE
            rw [← hW]
            clear hW XE a0 a1 a2 a3 a4
            obtain ⟨r0, r1, r2, _, rlt⟩ := cells3 hA
            obtain ⟨m0, m1, m2, m3, m4, _, mlt⟩ := cells5s hB
            clear hA hB
            refine wp_region_held_drew (S := fun w' => w'.cell? (⟨w.heap.size, 0, none⟩) = some (.int .i64 lg) ∧ w'.cell? (⟨w.heap.size, 1, none⟩) = some (.slice Ab base.length cb) ∧ w'.cell? (⟨w.heap.size, 2, none⟩) = some (.slice (some ad) steps.length cs) ∧ w'.cell? (⟨w.heap.size + 1, 0, none⟩) = some (.int .u64 (s : Int)) ∧ w'.cell? (⟨w.heap.size + 1, 1, none⟩) = some (.int .i64 ru) ∧ w'.cell? (⟨w.heap.size + 1, 2, none⟩) = some (.int .i64 on) ∧ w'.cell? (⟨w.heap.size + 1, 3, none⟩) = some (.int .i64 0) ∧ w'.cell? (⟨w.heap.size + 1, 4, none⟩) = some (.slice Af fr.length cf)) (by kernel_rfl) ⟨xc rlt r0, xc rlt r1, xc rlt r2, xc mlt m0, xc mlt m1, xc mlt m2, xc mlt m3, xc mlt m4⟩ (fun hHeld => ?_)
            refine tk 0 hHeld ?_
            refine tk 1 hHeld ?_
            refine tk 2 hHeld ?_
            refine tk 3 hHeld ?_
            refine tk 4 hHeld ?_
            refine tk 5 hHeld ?_
            refine tk 6 hHeld ?_
            refine tk 7 hHeld ?_
            refine tk 8 hHeld ?_
            refine tk 9 hHeld ?_
            refine tk 10 hHeld ?_
            refine tk 11 hHeld ?_
            refine tk 12 hHeld ?_
            refine tk 13 hHeld ?_
            refine tk 14 hHeld ?_
            refine tk 15 hHeld ?_
            refine tk 16 hHeld ?_
            refine un 17 hHeld ?_
            refine un 18 hHeld ?_
            refine un 19 hHeld ?_
            refine un 20 hHeld ?_
            refine un 21 hHeld ?_
            refine un 22 hHeld ?_
            refine un 23 hHeld ?_
            refine un 24 hHeld ?_
            refine un 25 hHeld ?_
            refine un 26 hHeld ?_
            refine un 27 hHeld ?_
            refine un 28 hHeld ?_
            refine tk 29 hHeld ?_
            refine tk 30 hHeld ?_
            refine wpAnyH_done (by kernel_rfl) ?_ _
            go_wp2_with fail
            go_ret
            exact ⟨by rw [HE.out] <;> rfl, X0.out.trans xw⟩
        · have h0d : decide (0 ≤ on) = false := decide_eq_false h0
          have HE := Lib.hid (show modalQ lg base steps at_ ⟨s, ru, on, 0, fr⟩ = false by unfold modalQ; simp only [bne, hfb, hr5, hr6, hl1, hl5, hr7, h0d]; rfl)
          have QQ := HQ.out
          obtain ⟨q0, q1, q2, q3, q4⟩ := QQ
          have hxa : Ext w (w.alloc (.cells #[.int .i64 lg, .slice Ab base.length cb, .slice (some ad) steps.length cs] 25)) := (Ext.refl _).alloc _
          have a0 := (hxa.cell (p := ad.add (at_ * 5)) HADB.out).trans q0
          have a1 := (hxa.cell (p := ⟨(ad.add (at_ * 5)).block, (ad.add (at_ * 5)).off + 1, none⟩) HADB.out).trans q1
          have a2 := (hxa.cell (p := ⟨(ad.add (at_ * 5)).block, (ad.add (at_ * 5)).off + 2, none⟩) HADB.out).trans q2
          have a3 := (hxa.cell (p := ⟨(ad.add (at_ * 5)).block, (ad.add (at_ * 5)).off + 3, none⟩) HADB.out).trans q3
          have a4 := (hxa.cell (p := ⟨(ad.add (at_ * 5)).block, (ad.add (at_ * 5)).off + 4, none⟩) HADB.out).trans q4
          have XE := Lib.hid (show Ext w ((w.alloc (.cells #[.int .i64 lg, .slice Ab base.length cb, .slice (some ad) steps.length cs] 25)).alloc (.cells #[.int .u64 (s : Int), .int .i64 ru, .int .i64 on, .int .i64 0, .slice Af fr.length cf] 37)) from ((Ext.refl _).alloc _).alloc _)
          clear hxa q0 q1 q2 q3 q4
          go_enter Tryz.func58, Tryz.ntmps58
          go_wp2_with fail
          obtain ⟨W, hW⟩ : ∃ W, W = (w.alloc (.cells #[.int .i64 lg, .slice Ab base.length cb, .slice (some ad) steps.length cs] 25)).alloc (.cells #[.int .u64 (s : Int), .int .i64 ru, .int .i64 on, .int .i64 0, .slice Af fr.length cf] 37) := ⟨_, rfl⟩
          have hA : W.heap[w.heap.size]? = some (.cells #[.int .i64 lg, .slice Ab base.length cb, .slice (some ad) steps.length cs] 25 (0, 0)) := by
            rw [hW]
            exact (((Ext.refl _).alloc _).block (by simp)).trans (heap_alloc_new _ _)
          have hB : W.heap[w.heap.size + 1]? = some (.cells #[.int .u64 (s : Int), .int .i64 ru, .int .i64 on, .int .i64 0, .slice Af fr.length cf] 37 (0, 0)) := by
            have := heap_alloc_new (w.alloc (.cells #[.int .i64 lg, .slice Ab base.length cb, .slice (some ad) steps.length cs] 25)) (.cells #[.int .u64 (s : Int), .int .i64 ru, .int .i64 on, .int .i64 0, .slice Af fr.length cf] 37)
            rw [hW]
            simpa using this
          have X0 : Hid (Ext w W) := by rw [hW]; exact XE
          rw [← hW]
          clear hW XE a0 a1 a2 a3 a4
          obtain ⟨r0, r1, r2, _, rlt⟩ := cells3 hA
          obtain ⟨m0, m1, m2, m3, m4, _, mlt⟩ := cells5s hB
          clear hA hB
          refine wp_region_held_drew (S := fun w' => w'.cell? (⟨w.heap.size, 0, none⟩) = some (.int .i64 lg) ∧ w'.cell? (⟨w.heap.size, 1, none⟩) = some (.slice Ab base.length cb) ∧ w'.cell? (⟨w.heap.size, 2, none⟩) = some (.slice (some ad) steps.length cs) ∧ w'.cell? (⟨w.heap.size + 1, 0, none⟩) = some (.int .u64 (s : Int)) ∧ w'.cell? (⟨w.heap.size + 1, 1, none⟩) = some (.int .i64 ru) ∧ w'.cell? (⟨w.heap.size + 1, 2, none⟩) = some (.int .i64 on) ∧ w'.cell? (⟨w.heap.size + 1, 3, none⟩) = some (.int .i64 0) ∧ w'.cell? (⟨w.heap.size + 1, 4, none⟩) = some (.slice Af fr.length cf)) (by kernel_rfl) ⟨xc rlt r0, xc rlt r1, xc rlt r2, xc mlt m0, xc mlt m1, xc mlt m2, xc mlt m3, xc mlt m4⟩ (fun hHeld => ?_)
          refine tk 0 hHeld ?_
          refine tk 1 hHeld ?_
          refine tk 2 hHeld ?_
          refine tk 3 hHeld ?_
          refine tk 4 hHeld ?_
          refine tk 5 hHeld ?_
          refine tk 6 hHeld ?_
          refine tk 7 hHeld ?_
          refine tk 8 hHeld ?_
          refine tk 9 hHeld ?_
          refine tk 10 hHeld ?_
          refine tk 11 hHeld ?_
          refine un 12 hHeld ?_
          refine un 13 hHeld ?_
          refine un 14 hHeld ?_
          refine tk 15 hHeld ?_
          refine tk 16 hHeld ?_
          refine un 17 hHeld ?_
          refine un 18 hHeld ?_
          refine un 19 hHeld ?_
          refine un 20 hHeld ?_
          refine un 21 hHeld ?_
          refine un 22 hHeld ?_
          refine un 23 hHeld ?_
          refine un 24 hHeld ?_
          refine un 25 hHeld ?_
          refine un 26 hHeld ?_
          refine un 27 hHeld ?_
          refine un 28 hHeld ?_
          refine tk 29 hHeld ?_
          refine tk 30 hHeld ?_
          refine wpAnyH_done (by kernel_rfl) ?_ _
          go_wp2_with fail
          go_ret
          exact ⟨by rw [HE.out] <;> rfl, X0.out.trans xw⟩
  · skip
    cases hr7 : ru == 7
    · skip
      have HE := Lib.hid (show modalQ lg base steps at_ ⟨s, ru, on, 0, fr⟩ = false by unfold modalQ; simp only [bne, hfb, hr5, hr6, hl1, hr7]; rfl)
      have QQ := HQ.out
      obtain ⟨q0, q1, q2, q3, q4⟩ := QQ
      have hxa : Ext w (w.alloc (.cells #[.int .i64 lg, .slice Ab base.length cb, .slice (some ad) steps.length cs] 25)) := (Ext.refl _).alloc _
      have a0 := (hxa.cell (p := ad.add (at_ * 5)) HADB.out).trans q0
      have a1 := (hxa.cell (p := ⟨(ad.add (at_ * 5)).block, (ad.add (at_ * 5)).off + 1, none⟩) HADB.out).trans q1
      have a2 := (hxa.cell (p := ⟨(ad.add (at_ * 5)).block, (ad.add (at_ * 5)).off + 2, none⟩) HADB.out).trans q2
      have a3 := (hxa.cell (p := ⟨(ad.add (at_ * 5)).block, (ad.add (at_ * 5)).off + 3, none⟩) HADB.out).trans q3
      have a4 := (hxa.cell (p := ⟨(ad.add (at_ * 5)).block, (ad.add (at_ * 5)).off + 4, none⟩) HADB.out).trans q4
      have XE := Lib.hid (show Ext w ((w.alloc (.cells #[.int .i64 lg, .slice Ab base.length cb, .slice (some ad) steps.length cs] 25)).alloc (.cells #[.int .u64 (s : Int), .int .i64 ru, .int .i64 on, .int .i64 0, .slice Af fr.length cf] 37)) from ((Ext.refl _).alloc _).alloc _)
      clear hxa q0 q1 q2 q3 q4
      go_enter Tryz.func58, Tryz.ntmps58
      go_wp2_with fail
      obtain ⟨W, hW⟩ : ∃ W, W = (w.alloc (.cells #[.int .i64 lg, .slice Ab base.length cb, .slice (some ad) steps.length cs] 25)).alloc (.cells #[.int .u64 (s : Int), .int .i64 ru, .int .i64 on, .int .i64 0, .slice Af fr.length cf] 37) := ⟨_, rfl⟩
      have hA : W.heap[w.heap.size]? = some (.cells #[.int .i64 lg, .slice Ab base.length cb, .slice (some ad) steps.length cs] 25 (0, 0)) := by
        rw [hW]
        exact (((Ext.refl _).alloc _).block (by simp)).trans (heap_alloc_new _ _)
      have hB : W.heap[w.heap.size + 1]? = some (.cells #[.int .u64 (s : Int), .int .i64 ru, .int .i64 on, .int .i64 0, .slice Af fr.length cf] 37 (0, 0)) := by
        have := heap_alloc_new (w.alloc (.cells #[.int .i64 lg, .slice Ab base.length cb, .slice (some ad) steps.length cs] 25)) (.cells #[.int .u64 (s : Int), .int .i64 ru, .int .i64 on, .int .i64 0, .slice Af fr.length cf] 37)
        rw [hW]
        simpa using this
      have X0 : Hid (Ext w W) := by rw [hW]; exact XE
      rw [← hW]
      clear hW XE a0 a1 a2 a3 a4
      obtain ⟨r0, r1, r2, _, rlt⟩ := cells3 hA
      obtain ⟨m0, m1, m2, m3, m4, _, mlt⟩ := cells5s hB
      clear hA hB
      refine wp_region_held_drew (S := fun w' => w'.cell? (⟨w.heap.size, 0, none⟩) = some (.int .i64 lg) ∧ w'.cell? (⟨w.heap.size, 1, none⟩) = some (.slice Ab base.length cb) ∧ w'.cell? (⟨w.heap.size, 2, none⟩) = some (.slice (some ad) steps.length cs) ∧ w'.cell? (⟨w.heap.size + 1, 0, none⟩) = some (.int .u64 (s : Int)) ∧ w'.cell? (⟨w.heap.size + 1, 1, none⟩) = some (.int .i64 ru) ∧ w'.cell? (⟨w.heap.size + 1, 2, none⟩) = some (.int .i64 on) ∧ w'.cell? (⟨w.heap.size + 1, 3, none⟩) = some (.int .i64 0) ∧ w'.cell? (⟨w.heap.size + 1, 4, none⟩) = some (.slice Af fr.length cf)) (by kernel_rfl) ⟨xc rlt r0, xc rlt r1, xc rlt r2, xc mlt m0, xc mlt m1, xc mlt m2, xc mlt m3, xc mlt m4⟩ (fun hHeld => ?_)
      refine tk 0 hHeld ?_
      refine tk 1 hHeld ?_
      refine tk 2 hHeld ?_
      refine tk 3 hHeld ?_
      refine tk 4 hHeld ?_
      refine tk 5 hHeld ?_
      refine tk 6 hHeld ?_
      refine un 7 hHeld ?_
      refine un 8 hHeld ?_
      refine un 9 hHeld ?_
      refine tk 10 hHeld ?_
      refine tk 11 hHeld ?_
      refine un 12 hHeld ?_
      refine un 13 hHeld ?_
      refine un 14 hHeld ?_
      refine tk 15 hHeld ?_
      refine tk 16 hHeld ?_
      refine un 17 hHeld ?_
      refine un 18 hHeld ?_
      refine un 19 hHeld ?_
      refine un 20 hHeld ?_
      refine un 21 hHeld ?_
      refine un 22 hHeld ?_
      refine un 23 hHeld ?_
      refine un 24 hHeld ?_
      refine un 25 hHeld ?_
      refine un 26 hHeld ?_
      refine un 27 hHeld ?_
      refine un 28 hHeld ?_
      refine tk 29 hHeld ?_
      refine tk 30 hHeld ?_
      refine wpAnyH_done (by kernel_rfl) ?_ _
      go_wp2_with fail
      go_ret
      exact ⟨by rw [HE.out] <;> rfl, X0.out.trans xw⟩
    · by_cases h0 : 0 ≤ on
      · have h0d : decide (0 ≤ on) = true := decide_eq_true h0
        by_cases h4 : on < 4
        · have h4d : decide (on < 4) = true := decide_eq_true h4
          have HE := Lib.hid (show modalQ lg base steps at_ ⟨s, ru, on, 0, fr⟩ = prem1 steps at_ 0 (CarryN lg base s on) by unfold modalQ; simp only [bne, hfb, hr5, hr6, hr7, h0d, h4d, hl1]; rfl)
          have HCL := Lib.hid (CarryN_lt (lg := lg) (set := s) (ag := on) HBE.out)
          have QQ := HQ.out
          obtain ⟨q0, q1, q2, q3, q4⟩ := QQ
          have hxa : Ext w (w.alloc (.cells #[.int .i64 lg, .slice Ab base.length cb, .slice (some ad) steps.length cs] 25)) := (Ext.refl _).alloc _
          have a0 := (hxa.cell (p := ad.add (at_ * 5)) HADB.out).trans q0
          have a1 := (hxa.cell (p := ⟨(ad.add (at_ * 5)).block, (ad.add (at_ * 5)).off + 1, none⟩) HADB.out).trans q1
          have a2 := (hxa.cell (p := ⟨(ad.add (at_ * 5)).block, (ad.add (at_ * 5)).off + 2, none⟩) HADB.out).trans q2
          have a3 := (hxa.cell (p := ⟨(ad.add (at_ * 5)).block, (ad.add (at_ * 5)).off + 3, none⟩) HADB.out).trans q3
          have a4 := (hxa.cell (p := ⟨(ad.add (at_ * 5)).block, (ad.add (at_ * 5)).off + 4, none⟩) HADB.out).trans q4
          have XE := Lib.hid (show Ext w ((w.alloc (.cells #[.int .i64 lg, .slice Ab base.length cb, .slice (some ad) steps.length cs] 25)).alloc (.cells #[.int .u64 (s : Int), .int .i64 ru, .int .i64 on, .int .i64 0, .slice Af fr.length cf] 37)) from ((Ext.refl _).alloc _).alloc _)
          clear hxa q0 q1 q2 q3 q4
          go_enter Tryz.func58, Tryz.ntmps58
          go_wp2_with fail
          obtain ⟨W, hW⟩ : ∃ W, W = (w.alloc (.cells #[.int .i64 lg, .slice Ab base.length cb, .slice (some ad) steps.length cs] 25)).alloc (.cells #[.int .u64 (s : Int), .int .i64 ru, .int .i64 on, .int .i64 0, .slice Af fr.length cf] 37) := ⟨_, rfl⟩
          have hA : W.heap[w.heap.size]? = some (.cells #[.int .i64 lg, .slice Ab base.length cb, .slice (some ad) steps.length cs] 25 (0, 0)) := by
            rw [hW]
            exact (((Ext.refl _).alloc _).block (by simp)).trans (heap_alloc_new _ _)
          have hB : W.heap[w.heap.size + 1]? = some (.cells #[.int .u64 (s : Int), .int .i64 ru, .int .i64 on, .int .i64 0, .slice Af fr.length cf] 37 (0, 0)) := by
            have := heap_alloc_new (w.alloc (.cells #[.int .i64 lg, .slice Ab base.length cb, .slice (some ad) steps.length cs] 25)) (.cells #[.int .u64 (s : Int), .int .i64 ru, .int .i64 on, .int .i64 0, .slice Af fr.length cf] 37)
            rw [hW]
            simpa using this
          have X0 : Hid (Ext w W) := by rw [hW]; exact XE
          rw [← hW]
          clear hW XE a0 a1 a2 a3 a4
          obtain ⟨r0, r1, r2, _, rlt⟩ := cells3 hA
          obtain ⟨m0, m1, m2, m3, m4, _, mlt⟩ := cells5s hB
          clear hA hB
          refine wp_region_held_drew (S := fun w' => w'.cell? (⟨w.heap.size, 0, none⟩) = some (.int .i64 lg) ∧ w'.cell? (⟨w.heap.size, 1, none⟩) = some (.slice Ab base.length cb) ∧ w'.cell? (⟨w.heap.size, 2, none⟩) = some (.slice (some ad) steps.length cs) ∧ w'.cell? (⟨w.heap.size + 1, 0, none⟩) = some (.int .u64 (s : Int)) ∧ w'.cell? (⟨w.heap.size + 1, 1, none⟩) = some (.int .i64 ru) ∧ w'.cell? (⟨w.heap.size + 1, 2, none⟩) = some (.int .i64 on) ∧ w'.cell? (⟨w.heap.size + 1, 3, none⟩) = some (.int .i64 0) ∧ w'.cell? (⟨w.heap.size + 1, 4, none⟩) = some (.slice Af fr.length cf)) (by kernel_rfl) ⟨xc rlt r0, xc rlt r1, xc rlt r2, xc mlt m0, xc mlt m1, xc mlt m2, xc mlt m3, xc mlt m4⟩ (fun hHeld => ?_)
          refine tk 0 hHeld ?_
          refine tk 1 hHeld ?_
          refine tk 2 hHeld ?_
          refine tk 3 hHeld ?_
          refine tk 4 hHeld ?_
          refine tk 5 hHeld ?_
          refine tk 6 hHeld ?_
          refine tk 7 hHeld ?_
          refine tk 8 hHeld ?_
          refine tk 9 hHeld ?_
          refine tk 10 hHeld ?_
          refine tk 11 hHeld ?_
          refine tk 12 hHeld ?_
          refine tk 13 hHeld ?_
          refine tk 14 hHeld ?_
          refine tk 15 hHeld ?_
          refine tk 16 hHeld ?_
          refine tk 17 hHeld ?_
          refine tk 18 hHeld ?_
          refine tk 19 hHeld ?_
          refine tk 20 hHeld ?_
          refine tk 21 hHeld ?_
          refine tk 22 hHeld ?_
          refine tk 23 hHeld ?_
          refine tk 24 hHeld ?_
          refine tk 25 hHeld ?_
          refine tk 26 hHeld ?_
          refine wpAnyH_ready (rs := [27]) (by kernel_rfl) (by simp) ?_
          refine AllReadyH.cons rfl (fun K hK => ?_) AllReadyH.nil
          go_simp
          (go_at_call 14; refine (rCarry_any lg _ base s on _ (H.out.ext (X0.out.trans xw)) hset).mono ?_; rintro e2 wz18 ⟨rfl, hv⟩; have hx18 : Ext W wz18 := xt hv; clear hv)
          go_wp2_with fail
          refine hK.out _ _ ⟨xc rlt r0, xc rlt r1, xc rlt r2, xc mlt m0, xc mlt m1, xc mlt m2, xc mlt m3, xc mlt m4⟩ (fun hHeld => ?_)
          clear hK K
          try simp only [Act.put, List.setIfInBounds_toArray, List.set_cons_zero, List.set_cons_succ, List.getElem_toArray, List.getElem_cons_succ, List.getElem_cons_zero]
          refine wpAnyH_ready (rs := [28]) (by kernel_rfl) (by simp) ?_
          refine AllReadyH.cons rfl (fun K hK => ?_) AllReadyH.nil
          go_simp
          (go_at_call 57; refine (rprem_any (lg := lg) (base := base) (Ab := Ab) (cb := cb) (HST.out.ext (X0.out.trans xw)) at_ 0 HX.out (by show _ < fr.length; rw [HFR.out]; decide) (CarryN lg base s on) (HCL.out)).mono ?_; rintro e2 wz19 ⟨rfl, hv⟩; have hx19 : Ext W wz19 := xt hv; clear hv)
          go_wp2_with fail
          refine hK.out _ _ ⟨xc rlt r0, xc rlt r1, xc rlt r2, xc mlt m0, xc mlt m1, xc mlt m2, xc mlt m3, xc mlt m4⟩ (fun hHeld => ?_)
          clear hK K
          try simp only [Act.put, List.setIfInBounds_toArray, List.set_cons_zero, List.set_cons_succ, List.getElem_toArray, List.getElem_cons_succ, List.getElem_cons_zero]
          refine tk 29 hHeld ?_
          refine tk 30 hHeld ?_
          refine wpAnyH_done (by kernel_rfl) ?_ _
          go_wp2_with fail
          go_ret
          exact ⟨by rw [HE.out] <;> rfl, X0.out.trans xw⟩
        · have h4d : decide (on < 4) = false := decide_eq_false h4
          have HE := Lib.hid (show modalQ lg base steps at_ ⟨s, ru, on, 0, fr⟩ = false by unfold modalQ; simp only [bne, hfb, hr5, hr6, hl1, hr7, h0d, h4d]; rfl)
          have QQ := HQ.out
          obtain ⟨q0, q1, q2, q3, q4⟩ := QQ
          have hxa : Ext w (w.alloc (.cells #[.int .i64 lg, .slice Ab base.length cb, .slice (some ad) steps.length cs] 25)) := (Ext.refl _).alloc _
          have a0 := (hxa.cell (p := ad.add (at_ * 5)) HADB.out).trans q0
          have a1 := (hxa.cell (p := ⟨(ad.add (at_ * 5)).block, (ad.add (at_ * 5)).off + 1, none⟩) HADB.out).trans q1
          have a2 := (hxa.cell (p := ⟨(ad.add (at_ * 5)).block, (ad.add (at_ * 5)).off + 2, none⟩) HADB.out).trans q2
          have a3 := (hxa.cell (p := ⟨(ad.add (at_ * 5)).block, (ad.add (at_ * 5)).off + 3, none⟩) HADB.out).trans q3
          have a4 := (hxa.cell (p := ⟨(ad.add (at_ * 5)).block, (ad.add (at_ * 5)).off + 4, none⟩) HADB.out).trans q4
          have XE := Lib.hid (show Ext w ((w.alloc (.cells #[.int .i64 lg, .slice Ab base.length cb, .slice (some ad) steps.length cs] 25)).alloc (.cells #[.int .u64 (s : Int), .int .i64 ru, .int .i64 on, .int .i64 0, .slice Af fr.length cf] 37)) from ((Ext.refl _).alloc _).alloc _)
          clear hxa q0 q1 q2 q3 q4
          go_enter Tryz.func58, Tryz.ntmps58
          go_wp2_with fail
          obtain ⟨W, hW⟩ : ∃ W, W = (w.alloc (.cells #[.int .i64 lg, .slice Ab base.length cb, .slice (some ad) steps.length cs] 25)).alloc (.cells #[.int .u64 (s : Int), .int .i64 ru, .int .i64 on, .int .i64 0, .slice Af fr.length cf] 37) := ⟨_, rfl⟩
          have hA : W.heap[w.heap.size]? = some (.cells #[.int .i64 lg, .slice Ab base.length cb, .slice (some ad) steps.length cs] 25 (0, 0)) := by
            rw [hW]
            exact (((Ext.refl _).alloc _).block (by simp)).trans (heap_alloc_new _ _)
          have hB : W.heap[w.heap.size + 1]? = some (.cells #[.int .u64 (s : Int), .int .i64 ru, .int .i64 on, .int .i64 0, .slice Af fr.length cf] 37 (0, 0)) := by
            have := heap_alloc_new (w.alloc (.cells #[.int .i64 lg, .slice Ab base.length cb, .slice (some ad) steps.length cs] 25)) (.cells #[.int .u64 (s : Int), .int .i64 ru, .int .i64 on, .int .i64 0, .slice Af fr.length cf] 37)
            rw [hW]
            simpa using this
          have X0 : Hid (Ext w W) := by rw [hW]; exact XE
          rw [← hW]
          clear hW XE a0 a1 a2 a3 a4
          obtain ⟨r0, r1, r2, _, rlt⟩ := cells3 hA
          obtain ⟨m0, m1, m2, m3, m4, _, mlt⟩ := cells5s hB
          clear hA hB
          refine wp_region_held_drew (S := fun w' => w'.cell? (⟨w.heap.size, 0, none⟩) = some (.int .i64 lg) ∧ w'.cell? (⟨w.heap.size, 1, none⟩) = some (.slice Ab base.length cb) ∧ w'.cell? (⟨w.heap.size, 2, none⟩) = some (.slice (some ad) steps.length cs) ∧ w'.cell? (⟨w.heap.size + 1, 0, none⟩) = some (.int .u64 (s : Int)) ∧ w'.cell? (⟨w.heap.size + 1, 1, none⟩) = some (.int .i64 ru) ∧ w'.cell? (⟨w.heap.size + 1, 2, none⟩) = some (.int .i64 on) ∧ w'.cell? (⟨w.heap.size + 1, 3, none⟩) = some (.int .i64 0) ∧ w'.cell? (⟨w.heap.size + 1, 4, none⟩) = some (.slice Af fr.length cf)) (by kernel_rfl) ⟨xc rlt r0, xc rlt r1, xc rlt r2, xc mlt m0, xc mlt m1, xc mlt m2, xc mlt m3, xc mlt m4⟩ (fun hHeld => ?_)
          refine tk 0 hHeld ?_
          refine tk 1 hHeld ?_
          refine tk 2 hHeld ?_
          refine tk 3 hHeld ?_
          refine tk 4 hHeld ?_
          refine tk 5 hHeld ?_
          refine tk 6 hHeld ?_
          refine tk 7 hHeld ?_
          refine tk 8 hHeld ?_
          refine tk 9 hHeld ?_
          refine tk 10 hHeld ?_
          refine tk 11 hHeld ?_
          refine tk 12 hHeld ?_
          refine tk 13 hHeld ?_
          refine tk 14 hHeld ?_
          refine tk 15 hHeld ?_
          refine tk 16 hHeld ?_
          refine un 17 hHeld ?_
          refine un 18 hHeld ?_
          refine un 19 hHeld ?_
          refine un 20 hHeld ?_
          refine un 21 hHeld ?_
          refine un 22 hHeld ?_
          refine un 23 hHeld ?_
          refine un 24 hHeld ?_
          refine un 25 hHeld ?_
          refine un 26 hHeld ?_
          refine un 27 hHeld ?_
          refine un 28 hHeld ?_
          refine tk 29 hHeld ?_
          refine tk 30 hHeld ?_
          refine wpAnyH_done (by kernel_rfl) ?_ _
          go_wp2_with fail
          go_ret
          exact ⟨by rw [HE.out] <;> rfl, X0.out.trans xw⟩
      · have h0d : decide (0 ≤ on) = false := decide_eq_false h0
        have HE := Lib.hid (show modalQ lg base steps at_ ⟨s, ru, on, 0, fr⟩ = false by unfold modalQ; simp only [bne, hfb, hr5, hr6, hl1, hr7, h0d]; rfl)
        have QQ := HQ.out
        obtain ⟨q0, q1, q2, q3, q4⟩ := QQ
        have hxa : Ext w (w.alloc (.cells #[.int .i64 lg, .slice Ab base.length cb, .slice (some ad) steps.length cs] 25)) := (Ext.refl _).alloc _
        have a0 := (hxa.cell (p := ad.add (at_ * 5)) HADB.out).trans q0
        have a1 := (hxa.cell (p := ⟨(ad.add (at_ * 5)).block, (ad.add (at_ * 5)).off + 1, none⟩) HADB.out).trans q1
        have a2 := (hxa.cell (p := ⟨(ad.add (at_ * 5)).block, (ad.add (at_ * 5)).off + 2, none⟩) HADB.out).trans q2
        have a3 := (hxa.cell (p := ⟨(ad.add (at_ * 5)).block, (ad.add (at_ * 5)).off + 3, none⟩) HADB.out).trans q3
        have a4 := (hxa.cell (p := ⟨(ad.add (at_ * 5)).block, (ad.add (at_ * 5)).off + 4, none⟩) HADB.out).trans q4
        have XE := Lib.hid (show Ext w ((w.alloc (.cells #[.int .i64 lg, .slice Ab base.length cb, .slice (some ad) steps.length cs] 25)).alloc (.cells #[.int .u64 (s : Int), .int .i64 ru, .int .i64 on, .int .i64 0, .slice Af fr.length cf] 37)) from ((Ext.refl _).alloc _).alloc _)
        clear hxa q0 q1 q2 q3 q4
        go_enter Tryz.func58, Tryz.ntmps58
        go_wp2_with fail
        obtain ⟨W, hW⟩ : ∃ W, W = (w.alloc (.cells #[.int .i64 lg, .slice Ab base.length cb, .slice (some ad) steps.length cs] 25)).alloc (.cells #[.int .u64 (s : Int), .int .i64 ru, .int .i64 on, .int .i64 0, .slice Af fr.length cf] 37) := ⟨_, rfl⟩
        have hA : W.heap[w.heap.size]? = some (.cells #[.int .i64 lg, .slice Ab base.length cb, .slice (some ad) steps.length cs] 25 (0, 0)) := by
          rw [hW]
          exact (((Ext.refl _).alloc _).block (by simp)).trans (heap_alloc_new _ _)
        have hB : W.heap[w.heap.size + 1]? = some (.cells #[.int .u64 (s : Int), .int .i64 ru, .int .i64 on, .int .i64 0, .slice Af fr.length cf] 37 (0, 0)) := by
          have := heap_alloc_new (w.alloc (.cells #[.int .i64 lg, .slice Ab base.length cb, .slice (some ad) steps.length cs] 25)) (.cells #[.int .u64 (s : Int), .int .i64 ru, .int .i64 on, .int .i64 0, .slice Af fr.length cf] 37)
          rw [hW]
          simpa using this
        have X0 : Hid (Ext w W) := by rw [hW]; exact XE
        rw [← hW]
        clear hW XE a0 a1 a2 a3 a4
        obtain ⟨r0, r1, r2, _, rlt⟩ := cells3 hA
        obtain ⟨m0, m1, m2, m3, m4, _, mlt⟩ := cells5s hB
        clear hA hB
        refine wp_region_held_drew (S := fun w' => w'.cell? (⟨w.heap.size, 0, none⟩) = some (.int .i64 lg) ∧ w'.cell? (⟨w.heap.size, 1, none⟩) = some (.slice Ab base.length cb) ∧ w'.cell? (⟨w.heap.size, 2, none⟩) = some (.slice (some ad) steps.length cs) ∧ w'.cell? (⟨w.heap.size + 1, 0, none⟩) = some (.int .u64 (s : Int)) ∧ w'.cell? (⟨w.heap.size + 1, 1, none⟩) = some (.int .i64 ru) ∧ w'.cell? (⟨w.heap.size + 1, 2, none⟩) = some (.int .i64 on) ∧ w'.cell? (⟨w.heap.size + 1, 3, none⟩) = some (.int .i64 0) ∧ w'.cell? (⟨w.heap.size + 1, 4, none⟩) = some (.slice Af fr.length cf)) (by kernel_rfl) ⟨xc rlt r0, xc rlt r1, xc rlt r2, xc mlt m0, xc mlt m1, xc mlt m2, xc mlt m3, xc mlt m4⟩ (fun hHeld => ?_)
        refine tk 0 hHeld ?_
        refine tk 1 hHeld ?_
        refine tk 2 hHeld ?_
        refine tk 3 hHeld ?_
        refine tk 4 hHeld ?_
        refine tk 5 hHeld ?_
        refine tk 6 hHeld ?_
        refine tk 7 hHeld ?_
        refine tk 8 hHeld ?_
        refine tk 9 hHeld ?_
        refine tk 10 hHeld ?_
        refine tk 11 hHeld ?_
        refine un 12 hHeld ?_
        refine un 13 hHeld ?_
        refine un 14 hHeld ?_
        refine tk 15 hHeld ?_
        refine tk 16 hHeld ?_
        refine un 17 hHeld ?_
        refine un 18 hHeld ?_
        refine un 19 hHeld ?_
        refine un 20 hHeld ?_
        refine un 21 hHeld ?_
        refine un 22 hHeld ?_
        refine un 23 hHeld ?_
        refine un 24 hHeld ?_
        refine un 25 hHeld ?_
        refine un 26 hHeld ?_
        refine un 27 hHeld ?_
        refine un 28 hHeld ?_
        refine tk 29 hHeld ?_
        refine tk 30 hHeld ?_
        refine wpAnyH_done (by kernel_rfl) ?_ _
        go_wp2_with fail
        go_ret
        exact ⟨by rw [HE.out] <;> rfl, X0.out.trans xw⟩
end Go.Proofs.YtfcmdiigfgbgbaaGreat
