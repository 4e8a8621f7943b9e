/- The reference's correct: RuleOr. -/
import Derived.Test.YtfcmdiigfgbgbaaGreatN1
import Derived.OrdersHeld
import Derived.Test.YtfcmdiigfgbgbaaGreatGF1

namespace Go.Proofs.YtfcmdiigfgbgbaaGreat
open Go.RowKit

set_option maxRecDepth 100000 in
set_option maxHeartbeats 40000000 in
theorem rcor_or {w : World} {lg : Int} {base : List Nd} {steps : List Stp} {Ab As : Option Addr} {cb cs : Nat} (hb : Fml w (.slice Ab base.length cb) base) (hst : Sps w (.slice As steps.length cs) steps) (hbe : baseErr base = 0) (at_ : Nat) (s : Nat) (ru on e : Int) (fr : List Int) (hx : steps[at_]? = some ⟨s, ru, on, e, fr⟩) (hr : ru = 3) (hi : insideS base s = true) :
    Calls Tryz.prog 30 #[.agg #[.int .i64 lg, .slice Ab base.length cb, .slice As steps.length cs], .int .i64 (at_ : Int)] w fun e' w' => e' = .returned (.bool (correctQ lg base steps at_ ⟨s, 3, on, e, fr⟩)) ∧ Ext w w' := by
  subst hr
  have H := Lib.hid hb
  have HST := Lib.hid hst
  have HBE := Lib.hid hbe
  have HX := Lib.hid hx
  obtain ⟨ad, rfl, hcap, hmax, hblk, hrow⟩ := hst.rows (by intro e; rw [e] at hx; cases hx)
  obtain ⟨ur, q0, q1, q2, q3, q4, ⟨Af, cf, rfl, _⟩, hset⟩ := hrow at_ _ hx
  have hat := (List.getElem?_eq_some_iff.1 hx).1
  have ha1 : (at_ : Int) < (steps.length : Int) := by omega
  have ha0 : (0 : Int) ≤ (at_ : Int) := by omega
  simp only at q0 q1 q2 q3 q4 hset
  have HBLK := Lib.hid hblk
  have hab := block_of_add ad (at_ * 5)
  have HQ := Lib.hid (And.intro q0 (And.intro q1 (And.intro q2 (And.intro q3 q4))))
  have HADB := Lib.hid (show (ad.add (at_ * 5)).block < w.heap.size by rw [hab]; exact hblk)
  clear hx hst hb hbe hrow hab q0 q1 q2 q3 q4 hblk
  have HIN := Lib.hid hi
  by_cases hfr : fr.length = 2
  · skip
    have hfi : ((fr.length : Int) == 2) = true := by rw [hfr]; rfl
    have hfn : ((fr.length : Int) != 2) = false := by rw [hfr]; rfl
    have hfb : (fr.length == 2) = true := by rw [hfr]; rfl
    have HFR := Lib.hid hfr
    clear hfr
    by_cases he : e = 0
    · subst he
      cases hon : onN base ⟨s, 3, on, 0, fr⟩ 6
      · have Hon := Lib.hid hon
        have HE := Lib.hid (show correctQ lg base steps at_ ⟨s, 3, on, 0, fr⟩ = false by unfold correctQ; simp only [hi, hfb, hon]; rfl)
        have QQ := HQ.out
        obtain ⟨q0, q1, q2, q3, q4⟩ := QQ
        have hxa : Ext w (w.alloc (.cells #[.int .i64 lg, .slice Ab base.length cb, .slice (some ad) steps.length cs] 25)) := (Ext.refl _).alloc _
        have a0 := (hxa.cell (p := ad.add (at_ * 5)) HADB.out).trans q0
        have a1 := (hxa.cell (p := ⟨(ad.add (at_ * 5)).block, (ad.add (at_ * 5)).off + 1, none⟩) HADB.out).trans q1
        have a2 := (hxa.cell (p := ⟨(ad.add (at_ * 5)).block, (ad.add (at_ * 5)).off + 2, none⟩) HADB.out).trans q2
        have a3 := (hxa.cell (p := ⟨(ad.add (at_ * 5)).block, (ad.add (at_ * 5)).off + 3, none⟩) HADB.out).trans q3
        have a4 := (hxa.cell (p := ⟨(ad.add (at_ * 5)).block, (ad.add (at_ * 5)).off + 4, none⟩) HADB.out).trans q4
        have XE := Lib.hid (show Ext w ((w.alloc (.cells #[.int .i64 lg, .slice Ab base.length cb, .slice (some ad) steps.length cs] 25)).alloc (.cells #[.int .u64 (s : Int), .int .i64 3, .int .i64 on, .int .i64 0, .slice Af fr.length cf] 37)) from ((Ext.refl _).alloc _).alloc _)
        clear hxa q0 q1 q2 q3 q4
        go_enter Tryz.func30, Tryz.ntmps30
        go_wp2_with (go_at_call 40; refine (rinside_any (Ab) cb base s hset _).mono ?_; rintro e5 w5 ⟨rfl, rfl⟩; rw [HIN.out])
        obtain ⟨W, hW⟩ : ∃ W, W = (w.alloc (.cells #[.int .i64 lg, .slice Ab base.length cb, .slice (some ad) steps.length cs] 25)).alloc (.cells #[.int .u64 (s : Int), .int .i64 3, .int .i64 on, .int .i64 0, .slice Af fr.length cf] 37) := ⟨_, rfl⟩
        have hA : W.heap[w.heap.size]? = some (.cells #[.int .i64 lg, .slice Ab base.length cb, .slice (some ad) steps.length cs] 25 (0, 0)) := by
          rw [hW]
          exact (((Ext.refl _).alloc _).block (by simp)).trans (heap_alloc_new _ _)
        have hB : W.heap[w.heap.size + 1]? = some (.cells #[.int .u64 (s : Int), .int .i64 3, .int .i64 on, .int .i64 0, .slice Af fr.length cf] 37 (0, 0)) := by
          have := heap_alloc_new (w.alloc (.cells #[.int .i64 lg, .slice Ab base.length cb, .slice (some ad) steps.length cs] 25)) (.cells #[.int .u64 (s : Int), .int .i64 3, .int .i64 on, .int .i64 0, .slice Af fr.length cf] 37)
          rw [hW]
          simpa using this
        have X0 : Hid (Ext w W) := by rw [hW]; exact XE
        rw [← hW]
        clear hW XE a0 a1 a2 a3 a4
        obtain ⟨r0, r1, r2, _, rlt⟩ := cells3 hA
        obtain ⟨m0, m1, m2, m3, m4, _, mlt⟩ := cells5s hB
        clear hA hB
        refine wp_region_held_drew (S := fun w' => w'.cell? (⟨w.heap.size, 0, none⟩) = some (.int .i64 lg) ∧ w'.cell? (⟨w.heap.size, 1, none⟩) = some (.slice Ab base.length cb) ∧ w'.cell? (⟨w.heap.size, 2, none⟩) = some (.slice (some ad) steps.length cs) ∧ w'.cell? (⟨w.heap.size + 1, 0, none⟩) = some (.int .u64 (s : Int)) ∧ w'.cell? (⟨w.heap.size + 1, 1, none⟩) = some (.int .i64 3) ∧ w'.cell? (⟨w.heap.size + 1, 2, none⟩) = some (.int .i64 on) ∧ w'.cell? (⟨w.heap.size + 1, 3, none⟩) = some (.int .i64 0) ∧ w'.cell? (⟨w.heap.size + 1, 4, none⟩) = some (.slice Af fr.length cf)) (by kernel_rfl) ⟨xc rlt r0, xc rlt r1, xc rlt r2, xc mlt m0, xc mlt m1, xc mlt m2, xc mlt m3, xc mlt m4⟩ (fun hHeld => ?_)
        refine tk 0 hHeld ?_
        refine tk 1 hHeld ?_
        refine tk 2 hHeld ?_
        refine tk 3 hHeld ?_
        refine tk 4 hHeld ?_
        refine tk 5 hHeld ?_
        refine tk 6 hHeld ?_
        refine tk 7 hHeld ?_
        refine tk 8 hHeld ?_
        refine tk 9 hHeld ?_
        refine tk 10 hHeld ?_
        refine tk 11 hHeld ?_
        refine wpAnyH_ready (rs := [12]) (by kernel_rfl) (by simp) ?_
        refine AllReadyH.cons rfl (fun K hK => ?_) AllReadyH.nil
        go_simp
        (go_at_call 56; refine (ron_any (lg := lg) (steps := steps) (As := some ad) (cs := cs) (H.out.ext (X0.out.trans xw)) s hset 3 on 0 fr Af cf 6).mono ?_; rintro e2 wz23 ⟨rfl, hv⟩; rw [Hon.out]; have hx23 : Ext W wz23 := xt hv; clear hv)
        go_wp2_with fail
        refine hK.out _ _ ⟨xc rlt r0, xc rlt r1, xc rlt r2, xc mlt m0, xc mlt m1, xc mlt m2, xc mlt m3, xc mlt m4⟩ (fun hHeld => ?_)
        clear hK K
        try simp only [Act.put, List.setIfInBounds_toArray, List.set_cons_zero, List.set_cons_succ, List.getElem_toArray, List.getElem_cons_succ, List.getElem_cons_zero]
        refine tk 13 hHeld ?_
        refine tk 14 hHeld ?_
        refine un 15 hHeld ?_
        refine un 16 hHeld ?_
        refine un 17 hHeld ?_
        refine un 18 hHeld ?_
        refine un 19 hHeld ?_
        refine un 20 hHeld ?_
        refine un 21 hHeld ?_
        refine un 22 hHeld ?_
        refine un 23 hHeld ?_
        refine un 24 hHeld ?_
        refine un 25 hHeld ?_
        refine un 26 hHeld ?_
        refine un 27 hHeld ?_
        refine un 28 hHeld ?_
        refine tk 29 hHeld ?_
        refine tk 30 hHeld ?_
        refine un 31 hHeld ?_
        refine un 32 hHeld ?_
        refine un 33 hHeld ?_
        refine un 34 hHeld ?_
        refine un 35 hHeld ?_
        refine un 36 hHeld ?_
        refine un 37 hHeld ?_
        refine un 38 hHeld ?_
        refine un 39 hHeld ?_
        refine un 40 hHeld ?_
        refine un 41 hHeld ?_
        refine un 42 hHeld ?_
        refine un 43 hHeld ?_
        refine un 44 hHeld ?_
        refine tk 45 hHeld ?_
        refine tk 46 hHeld ?_
        refine wpAnyH_done (by kernel_rfl) ?_ _
        go_wp2_with fail
        go_ret
        exact ⟨by rw [HE.out] <;> rfl, X0.out.trans xw⟩
      · skip
        obtain ⟨k, n, hk, hn, hop, hin⟩ := on_yes hon
        simp only at hk
        subst hk
        have Hon := Lib.hid hon
        have HNO := Lib.hid (show nodeOn base ⟨s, 3, (k : Int), 0, fr⟩ = n by unfold nodeOn; rw [show (⟨s, 3, (k : Int), 0, fr⟩ : Stp).on = (k : Int) from rfl, Int.toNat_natCast, getD_of hn])
        obtain ⟨hx0, hx1⟩ := base_x HBE.out hn (by rw [hop]; rfl)
        obtain ⟨xn, hxn⟩ := Int.eq_ofNat_of_zero_le hx0
        have hx6 : xn < 64 := by omega
        obtain ⟨ag, hag⟩ : ∃ ag, ag = n.i := ⟨_, rfl⟩
        obtain ⟨hy0, hy1⟩ := base_y HBE.out hn (by rw [hop]; rfl)
        obtain ⟨yn, hyn⟩ := Int.eq_ofNat_of_zero_le hy0
        have hy6 : yn < 64 := by omega
        have hny : n.y = .ofNat yn := hyn
        have BY := shl_one hy6
        have MY : min yn 64 = yn := by omega
        have HXN := Lib.hid hxn
        have HYN := Lib.hid hyn
        have HAG := Lib.hid hag
        have HNN := Lib.hid hn
        have HOP := Lib.hid hop
        have BX := shl_one hx6
        have MX : min xn 64 = xn := by omega
        obtain ⟨A', c', eA, hcapb, hmaxb, hreadb⟩ := H.out.1
        obtain ⟨rfl, rfl⟩ : Ab = A' ∧ cb = c' := by injection eA with eA _ eC; exact ⟨eA, eC⟩
        obtain ⟨adb, rfl, hblkb, hcb⟩ := hreadb (by intro e; rw [e] at hn; cases hn)
        have HNC := Lib.hid (show (adb.add (k * 6)).block < w.heap.size ∧ w.cell? ⟨(adb.add (k * 6)).block, (adb.add (k * 6)).off + 1, none⟩ = some (.int .i64 ag) ∧ w.cell? ⟨(adb.add (k * 6)).block, (adb.add (k * 6)).off + 4, none⟩ = some (.int .i64 (xn : Int)) ∧ w.cell? ⟨(adb.add (k * 6)).block, (adb.add (k * 6)).off + 5, none⟩ = some (.int .i64 (yn : Int)) from by
          obtain ⟨e0, e1, e2, e3, e4, e5⟩ := hcb k n hn
          rw [hxn] at e4
          rw [hyn] at e5
          rw [← hag] at e1
          exact ⟨by rw [block_of_add]; exact hblkb, e1, e4, e5⟩)
        unfold maxLen at hmaxb
        have hkl := (List.getElem?_eq_some_iff.1 hn).1
        have hk0 : (0 : Int) ≤ (k : Int) := by omega
        have hk1 : (k : Int) < (base.length : Int) := by omega
        clear hon hn hop hin hxn hyn hag hx0 hx1 eA hreadb hcb hblkb hy0 hy1 hny
        cases hp : prem1 steps at_ 0 (s ||| 2 ^ xn)
        · have HP := Lib.hid hp
          have HE := Lib.hid (show correctQ lg base steps at_ ⟨s, 3, (k : Int), 0, fr⟩ = false by unfold correctQ; simp only [HIN.out, hfb, Hon.out, HNO.out, HXN.out, HYN.out, Int.toNat_natCast, hp]; rfl)
          clear hi hp
          have QQ := HQ.out
          obtain ⟨q0, q1, q2, q3, q4⟩ := QQ
          have hxa : Ext w (w.alloc (.cells #[.int .i64 lg, .slice (some adb) base.length cb, .slice (some ad) steps.length cs] 25)) := (Ext.refl _).alloc _
          have a0 := (hxa.cell (p := ad.add (at_ * 5)) HADB.out).trans q0
          have a1 := (hxa.cell (p := ⟨(ad.add (at_ * 5)).block, (ad.add (at_ * 5)).off + 1, none⟩) HADB.out).trans q1
          have a2 := (hxa.cell (p := ⟨(ad.add (at_ * 5)).block, (ad.add (at_ * 5)).off + 2, none⟩) HADB.out).trans q2
          have a3 := (hxa.cell (p := ⟨(ad.add (at_ * 5)).block, (ad.add (at_ * 5)).off + 3, none⟩) HADB.out).trans q3
          have a4 := (hxa.cell (p := ⟨(ad.add (at_ * 5)).block, (ad.add (at_ * 5)).off + 4, none⟩) HADB.out).trans q4
          have XE := Lib.hid (show Ext w ((w.alloc (.cells #[.int .i64 lg, .slice (some adb) base.length cb, .slice (some ad) steps.length cs] 25)).alloc (.cells #[.int .u64 (s : Int), .int .i64 3, .int .i64 (k : Int), .int .i64 0, .slice Af fr.length cf] 37)) from ((Ext.refl _).alloc _).alloc _)
          clear hxa q0 q1 q2 q3 q4
          go_enter Tryz.func30, Tryz.ntmps30
          go_wp2_with (go_at_call 40; refine (rinside_any (some adb) cb base s hset _).mono ?_; rintro e5 w5 ⟨rfl, rfl⟩; rw [HIN.out])
          obtain ⟨W, hW⟩ : ∃ W, W = (w.alloc (.cells #[.int .i64 lg, .slice (some adb) base.length cb, .slice (some ad) steps.length cs] 25)).alloc (.cells #[.int .u64 (s : Int), .int .i64 3, .int .i64 (k : Int), .int .i64 0, .slice Af fr.length cf] 37) := ⟨_, rfl⟩
          have hA : W.heap[w.heap.size]? = some (.cells #[.int .i64 lg, .slice (some adb) base.length cb, .slice (some ad) steps.length cs] 25 (0, 0)) := by
            rw [hW]
            exact (((Ext.refl _).alloc _).block (by simp)).trans (heap_alloc_new _ _)
          have hB : W.heap[w.heap.size + 1]? = some (.cells #[.int .u64 (s : Int), .int .i64 3, .int .i64 (k : Int), .int .i64 0, .slice Af fr.length cf] 37 (0, 0)) := by
            have := heap_alloc_new (w.alloc (.cells #[.int .i64 lg, .slice (some adb) base.length cb, .slice (some ad) steps.length cs] 25)) (.cells #[.int .u64 (s : Int), .int .i64 3, .int .i64 (k : Int), .int .i64 0, .slice Af fr.length cf] 37)
            rw [hW]
            simpa using this
          have X0 : Hid (Ext w W) := by rw [hW]; exact XE
          rw [← hW]
          clear hW XE a0 a1 a2 a3 a4
          obtain ⟨r0, r1, r2, _, rlt⟩ := cells3 hA
          obtain ⟨m0, m1, m2, m3, m4, _, mlt⟩ := cells5s hB
          clear hA hB
          have NN := HNC.out
          have NX := X0.out
          have y1 := (NX.cell (p := ⟨(adb.add (k * 6)).block, (adb.add (k * 6)).off + 1, none⟩) NN.1).trans NN.2.1
          have y4 := (NX.cell (p := ⟨(adb.add (k * 6)).block, (adb.add (k * 6)).off + 4, none⟩) NN.1).trans NN.2.2.1
          have y5 := (NX.cell (p := ⟨(adb.add (k * 6)).block, (adb.add (k * 6)).off + 5, none⟩) NN.1).trans NN.2.2.2
          have ylt := Nat.lt_of_lt_of_le NN.1 NX.size
          clear NN NX
          refine wp_region_held_drew (S := fun w' => w'.cell? (⟨w.heap.size, 0, none⟩) = some (.int .i64 lg) ∧ w'.cell? (⟨w.heap.size, 1, none⟩) = some (.slice (some adb) base.length cb) ∧ w'.cell? (⟨w.heap.size, 2, none⟩) = some (.slice (some ad) steps.length cs) ∧ w'.cell? (⟨w.heap.size + 1, 0, none⟩) = some (.int .u64 (s : Int)) ∧ w'.cell? (⟨w.heap.size + 1, 1, none⟩) = some (.int .i64 3) ∧ w'.cell? (⟨w.heap.size + 1, 2, none⟩) = some (.int .i64 (k : Int)) ∧ w'.cell? (⟨w.heap.size + 1, 3, none⟩) = some (.int .i64 0) ∧ w'.cell? (⟨w.heap.size + 1, 4, none⟩) = some (.slice Af fr.length cf) ∧ w'.cell? (⟨(adb.add (k * 6)).block, (adb.add (k * 6)).off + 1, none⟩) = some (.int .i64 ag) ∧ w'.cell? (⟨(adb.add (k * 6)).block, (adb.add (k * 6)).off + 4, none⟩) = some (.int .i64 (xn : Int)) ∧ w'.cell? (⟨(adb.add (k * 6)).block, (adb.add (k * 6)).off + 5, none⟩) = some (.int .i64 (yn : Int))) (by kernel_rfl) ⟨xc rlt r0, xc rlt r1, xc rlt r2, xc mlt m0, xc mlt m1, xc mlt m2, xc mlt m3, xc mlt m4, xc ylt y1, xc ylt y4, xc ylt y5⟩ (fun hHeld => ?_)
          refine tk 0 hHeld ?_
          refine tk 1 hHeld ?_
          refine tk 2 hHeld ?_
          refine tk 3 hHeld ?_
          refine tk 4 hHeld ?_
          refine tk 5 hHeld ?_
          refine tk 6 hHeld ?_
          refine tk 7 hHeld ?_
          refine tk 8 hHeld ?_
          refine tk 9 hHeld ?_
          refine tk 10 hHeld ?_
          refine tk 11 hHeld ?_
          refine wpAnyH_ready (rs := [12]) (by kernel_rfl) (by simp) ?_
          refine AllReadyH.cons rfl (fun K hK => ?_) AllReadyH.nil
          go_simp
          (go_at_call 56; refine (ron_any (lg := lg) (steps := steps) (As := some ad) (cs := cs) (H.out.ext (X0.out.trans xw)) s hset 3 (k : Int) 0 fr Af cf 6).mono ?_; rintro e2 wz25 ⟨rfl, hv⟩; rw [Hon.out]; have hx25 : Ext W wz25 := xt hv; clear hv)
          go_wp2_with fail
          refine hK.out _ _ ⟨xc rlt r0, xc rlt r1, xc rlt r2, xc mlt m0, xc mlt m1, xc mlt m2, xc mlt m3, xc mlt m4, xc ylt y1, xc ylt y4, xc ylt y5⟩ (fun hHeld => ?_)
          clear hK K
          try simp only [Act.put, List.setIfInBounds_toArray, List.set_cons_zero, List.set_cons_succ, List.getElem_toArray, List.getElem_cons_succ, List.getElem_cons_zero]
          refine tk 13 hHeld ?_
          refine tk 14 hHeld ?_
          refine tk 15 hHeld ?_
          refine tk 16 hHeld ?_
          refine tk 17 hHeld ?_
          refine tk 18 hHeld ?_
          refine tk 19 hHeld ?_
          refine tk 20 hHeld ?_
          refine tk 21 hHeld ?_
          refine tk 22 hHeld ?_
          refine tk 23 hHeld ?_
          refine tk 24 hHeld ?_
          refine tk 25 hHeld ?_
          refine tk 26 hHeld ?_
          refine tk 27 hHeld ?_
          refine wpAnyH_ready (rs := [28]) (by kernel_rfl) (by simp) ?_
          refine AllReadyH.cons rfl (fun K hK => ?_) AllReadyH.nil
          go_simp
          (go_at_call 57; rw [or_pow hset hx6]; refine (rprem_any (lg := lg) (base := base) (Ab := some adb) (cb := cb) (HST.out.ext (X0.out.trans xw)) at_ 0 HX.out (by show _ < fr.length; rw [HFR.out]; decide) (s ||| 2 ^ xn) (or_lt64 hset (two_pow_lt64 hx6))).mono ?_; rintro e2 wz26 ⟨rfl, hv⟩; rw [HP.out]; have hx26 : Ext W wz26 := xt hv; clear hv)
          go_wp2_with fail
          refine hK.out _ _ ⟨xc rlt r0, xc rlt r1, xc rlt r2, xc mlt m0, xc mlt m1, xc mlt m2, xc mlt m3, xc mlt m4, xc ylt y1, xc ylt y4, xc ylt y5⟩ (fun hHeld => ?_)
          clear hK K
          try simp only [Act.put, List.setIfInBounds_toArray, List.set_cons_zero, List.set_cons_succ, List.getElem_toArray, List.getElem_cons_succ, List.getElem_cons_zero]
          refine tk 29 hHeld ?_
          refine tk 30 hHeld ?_
          refine un 31 hHeld ?_
          refine un 32 hHeld ?_
          refine un 33 hHeld ?_
          refine un 34 hHeld ?_
          refine un 35 hHeld ?_
          refine un 36 hHeld ?_
          refine un 37 hHeld ?_
          refine un 38 hHeld ?_
          refine un 39 hHeld ?_
          refine un 40 hHeld ?_
          refine un 41 hHeld ?_
          refine un 42 hHeld ?_
          refine un 43 hHeld ?_
          refine un 44 hHeld ?_
          refine tk 45 hHeld ?_
          refine tk 46 hHeld ?_
          refine wpAnyH_done (by kernel_rfl) ?_ _
          go_wp2_with fail
          go_ret
          exact ⟨by rw [HE.out] <;> rfl, X0.out.trans xw⟩
        · have HP := Lib.hid hp
          have HE := Lib.hid (show correctQ lg base steps at_ ⟨s, 3, (k : Int), 0, fr⟩ = prem1 steps at_ 1 (s ||| 2 ^ yn) by unfold correctQ; simp only [HIN.out, hfb, Hon.out, HNO.out, HXN.out, HYN.out, Int.toNat_natCast, hp]; rfl)
          clear hi hp
          have QQ := HQ.out
          obtain ⟨q0, q1, q2, q3, q4⟩ := QQ
          have hxa : Ext w (w.alloc (.cells #[.int .i64 lg, .slice (some adb) base.length cb, .slice (some ad) steps.length cs] 25)) := (Ext.refl _).alloc _
          have a0 := (hxa.cell (p := ad.add (at_ * 5)) HADB.out).trans q0
          have a1 := (hxa.cell (p := ⟨(ad.add (at_ * 5)).block, (ad.add (at_ * 5)).off + 1, none⟩) HADB.out).trans q1
          have a2 := (hxa.cell (p := ⟨(ad.add (at_ * 5)).block, (ad.add (at_ * 5)).off + 2, none⟩) HADB.out).trans q2
          have a3 := (hxa.cell (p := ⟨(ad.add (at_ * 5)).block, (ad.add (at_ * 5)).off + 3, none⟩) HADB.out).trans q3
          have a4 := (hxa.cell (p := ⟨(ad.add (at_ * 5)).block, (ad.add (at_ * 5)).off + 4, none⟩) HADB.out).trans q4
          have XE := Lib.hid (show Ext w ((w.alloc (.cells #[.int .i64 lg, .slice (some adb) base.length cb, .slice (some ad) steps.length cs] 25)).alloc (.cells #[.int .u64 (s : Int), .int .i64 3, .int .i64 (k : Int), .int .i64 0, .slice Af fr.length cf] 37)) from ((Ext.refl _).alloc _).alloc _)
          clear hxa q0 q1 q2 q3 q4
          go_enter Tryz.func30, Tryz.ntmps30
          go_wp2_with (go_at_call 40; refine (rinside_any (some adb) cb base s hset _).mono ?_; rintro e5 w5 ⟨rfl, rfl⟩; rw [HIN.out])
          obtain ⟨W, hW⟩ : ∃ W, W = (w.alloc (.cells #[.int .i64 lg, .slice (some adb) base.length cb, .slice (some ad) steps.length cs] 25)).alloc (.cells #[.int .u64 (s : Int), .int .i64 3, .int .i64 (k : Int), .int .i64 0, .slice Af fr.length cf] 37) := ⟨_, rfl⟩
          have hA : W.heap[w.heap.size]? = some (.cells #[.int .i64 lg, .slice (some adb) base.length cb, .slice (some ad) steps.length cs] 25 (0, 0)) := by
            rw [hW]
            exact (((Ext.refl _).alloc _).block (by simp)).trans (heap_alloc_new _ _)
          have hB : W.heap[w.heap.size + 1]? = some (.cells #[.int .u64 (s : Int), .int .i64 3, .int .i64 (k : Int), .int .i64 0, .slice Af fr.length cf] 37 (0, 0)) := by
            have := heap_alloc_new (w.alloc (.cells #[.int .i64 lg, .slice (some adb) base.length cb, .slice (some ad) steps.length cs] 25)) (.cells #[.int .u64 (s : Int), .int .i64 3, .int .i64 (k : Int), .int .i64 0, .slice Af fr.length cf] 37)
            rw [hW]
            simpa using this
          have X0 : Hid (Ext w W) := by rw [hW]; exact XE
          rw [← hW]
          clear hW XE a0 a1 a2 a3 a4
          obtain ⟨r0, r1, r2, _, rlt⟩ := cells3 hA
          obtain ⟨m0, m1, m2, m3, m4, _, mlt⟩ := cells5s hB
          clear hA hB
          have NN := HNC.out
          have NX := X0.out
          have y1 := (NX.cell (p := ⟨(adb.add (k * 6)).block, (adb.add (k * 6)).off + 1, none⟩) NN.1).trans NN.2.1
          have y4 := (NX.cell (p := ⟨(adb.add (k * 6)).block, (adb.add (k * 6)).off + 4, none⟩) NN.1).trans NN.2.2.1
          have y5 := (NX.cell (p := ⟨(adb.add (k * 6)).block, (adb.add (k * 6)).off + 5, none⟩) NN.1).trans NN.2.2.2
          have ylt := Nat.lt_of_lt_of_le NN.1 NX.size
          clear NN NX
          refine wp_region_held_drew (S := fun w' => w'.cell? (⟨w.heap.size, 0, none⟩) = some (.int .i64 lg) ∧ w'.cell? (⟨w.heap.size, 1, none⟩) = some (.slice (some adb) base.length cb) ∧ w'.cell? (⟨w.heap.size, 2, none⟩) = some (.slice (some ad) steps.length cs) ∧ w'.cell? (⟨w.heap.size + 1, 0, none⟩) = some (.int .u64 (s : Int)) ∧ w'.cell? (⟨w.heap.size + 1, 1, none⟩) = some (.int .i64 3) ∧ w'.cell? (⟨w.heap.size + 1, 2, none⟩) = some (.int .i64 (k : Int)) ∧ w'.cell? (⟨w.heap.size + 1, 3, none⟩) = some (.int .i64 0) ∧ w'.cell? (⟨w.heap.size + 1, 4, none⟩) = some (.slice Af fr.length cf) ∧ w'.cell? (⟨(adb.add (k * 6)).block, (adb.add (k * 6)).off + 1, none⟩) = some (.int .i64 ag) ∧ w'.cell? (⟨(adb.add (k * 6)).block, (adb.add (k * 6)).off + 4, none⟩) = some (.int .i64 (xn : Int)) ∧ w'.cell? (⟨(adb.add (k * 6)).block, (adb.add (k * 6)).off + 5, none⟩) = some (.int .i64 (yn : Int))) (by kernel_rfl) ⟨xc rlt r0, xc rlt r1, xc rlt r2, xc mlt m0, xc mlt m1, xc mlt m2, xc mlt m3, xc mlt m4, xc ylt y1, xc ylt y4, xc ylt y5⟩ (fun hHeld => ?_)
          refine tk 0 hHeld ?_
          refine tk 1 hHeld ?_
          refine tk 2 hHeld ?_
          refine tk 3 hHeld ?_
          refine tk 4 hHeld ?_
          refine tk 5 hHeld ?_
          refine tk 6 hHeld ?_
          refine tk 7 hHeld ?_
          refine tk 8 hHeld ?_
          refine tk 9 hHeld ?_
          refine tk 10 hHeld ?_
          refine tk 11 hHeld ?_
          refine wpAnyH_ready (rs := [12]) (by kernel_rfl) (by simp) ?_
          refine AllReadyH.cons rfl (fun K hK => ?_) AllReadyH.nil
          go_simp
          (go_at_call 56; refine (ron_any (lg := lg) (steps := steps) (As := some ad) (cs := cs) (H.out.ext (X0.out.trans xw)) s hset 3 (k : Int) 0 fr Af cf 6).mono ?_; rintro e2 wz27 ⟨rfl, hv⟩; rw [Hon.out]; have hx27 : Ext W wz27 := xt hv; clear hv)
          go_wp2_with fail
          refine hK.out _ _ ⟨xc rlt r0, xc rlt r1, xc rlt r2, xc mlt m0, xc mlt m1, xc mlt m2, xc mlt m3, xc mlt m4, xc ylt y1, xc ylt y4, xc ylt y5⟩ (fun hHeld => ?_)
          clear hK K
          try simp only [Act.put, List.setIfInBounds_toArray, List.set_cons_zero, List.set_cons_succ, List.getElem_toArray, List.getElem_cons_succ, List.getElem_cons_zero]
          refine tk 13 hHeld ?_
          refine tk 14 hHeld ?_
          refine tk 15 hHeld ?_
          refine tk 16 hHeld ?_
          refine tk 17 hHeld ?_
          refine tk 18 hHeld ?_
          refine tk 19 hHeld ?_
          refine tk 20 hHeld ?_
          refine tk 21 hHeld ?_
          refine tk 22 hHeld ?_
          refine tk 23 hHeld ?_
          refine tk 24 hHeld ?_
          refine tk 25 hHeld ?_
          refine tk 26 hHeld ?_
          refine tk 27 hHeld ?_
          refine wpAnyH_ready (rs := [28]) (by kernel_rfl) (by simp) ?_
          refine AllReadyH.cons rfl (fun K hK => ?_) AllReadyH.nil
          go_simp
          (go_at_call 57; rw [or_pow hset hx6]; refine (rprem_any (lg := lg) (base := base) (Ab := some adb) (cb := cb) (HST.out.ext (X0.out.trans xw)) at_ 0 HX.out (by show _ < fr.length; rw [HFR.out]; decide) (s ||| 2 ^ xn) (or_lt64 hset (two_pow_lt64 hx6))).mono ?_; rintro e2 wz28 ⟨rfl, hv⟩; rw [HP.out]; have hx28 : Ext W wz28 := xt hv; clear hv)
          go_wp2_with fail
          refine hK.out _ _ ⟨xc rlt r0, xc rlt r1, xc rlt r2, xc mlt m0, xc mlt m1, xc mlt m2, xc mlt m3, xc mlt m4, xc ylt y1, xc ylt y4, xc ylt y5⟩ (fun hHeld => ?_)
          clear hK K
          try simp only [Act.put, List.setIfInBounds_toArray, List.set_cons_zero, List.set_cons_succ, List.getElem_toArray, List.getElem_cons_succ, List.getElem_cons_zero]
          refine tk 29 hHeld ?_
          refine tk 30 hHeld ?_
          refine tk 31 hHeld ?_
          refine tk 32 hHeld ?_
          refine tk 33 hHeld ?_
          refine tk 34 hHeld ?_
          refine tk 35 hHeld ?_
          refine tk 36 hHeld ?_
          refine tk 37 hHeld ?_
          refine tk 38 hHeld ?_
          refine tk 39 hHeld ?_
          refine tk 40 hHeld ?_
          refine tk 41 hHeld ?_
          refine tk 42 hHeld ?_
          refine tk 43 hHeld ?_
          refine wpAnyH_ready (rs := [44]) (by kernel_rfl) (by simp) ?_
          refine AllReadyH.cons rfl (fun K hK => ?_) AllReadyH.nil
          go_simp
          (go_at_call 57; rw [or_pow hset hy6]; refine (rprem_any (lg := lg) (base := base) (Ab := some adb) (cb := cb) (HST.out.ext (X0.out.trans xw)) at_ 1 HX.out (by show _ < fr.length; rw [HFR.out]; decide) (s ||| 2 ^ yn) (or_lt64 hset (two_pow_lt64 hy6))).mono ?_; rintro e2 wz24 ⟨rfl, hv⟩; have hx24 : Ext W wz24 := xt hv; clear hv)
          go_wp2_with fail
          refine hK.out _ _ ⟨xc rlt r0, xc rlt r1, xc rlt r2, xc mlt m0, xc mlt m1, xc mlt m2, xc mlt m3, xc mlt m4, xc ylt y1, xc ylt y4, xc ylt y5⟩ (fun hHeld => ?_)
          clear hK K
          try simp only [Act.put, List.setIfInBounds_toArray, List.set_cons_zero, List.set_cons_succ, List.getElem_toArray, List.getElem_cons_succ, List.getElem_cons_zero]
          refine tk 45 hHeld ?_
          refine tk 46 hHeld ?_
          refine wpAnyH_done (by kernel_rfl) ?_ _
          go_wp2_with fail
          go_ret
          exact ⟨by rw [HE.out] <;> rfl, X0.out.trans xw⟩
    · have heq : (e == 0) = false := by simpa using he
      have HE := Lib.hid (show correctQ lg base steps at_ ⟨s, 3, on, e, fr⟩ = false by unfold correctQ; simp only [hi, hfb, heq]; rfl)
      have QQ := HQ.out
      obtain ⟨q0, q1, q2, q3, q4⟩ := QQ
      have hxa : Ext w (w.alloc (.cells #[.int .i64 lg, .slice Ab base.length cb, .slice (some ad) steps.length cs] 25)) := (Ext.refl _).alloc _
      have a0 := (hxa.cell (p := ad.add (at_ * 5)) HADB.out).trans q0
      have a1 := (hxa.cell (p := ⟨(ad.add (at_ * 5)).block, (ad.add (at_ * 5)).off + 1, none⟩) HADB.out).trans q1
      have a2 := (hxa.cell (p := ⟨(ad.add (at_ * 5)).block, (ad.add (at_ * 5)).off + 2, none⟩) HADB.out).trans q2
      have a3 := (hxa.cell (p := ⟨(ad.add (at_ * 5)).block, (ad.add (at_ * 5)).off + 3, none⟩) HADB.out).trans q3
      have a4 := (hxa.cell (p := ⟨(ad.add (at_ * 5)).block, (ad.add (at_ * 5)).off + 4, none⟩) HADB.out).trans q4
      have XE := Lib.hid (show Ext w ((w.alloc (.cells #[.int .i64 lg, .slice Ab base.length cb, .slice (some ad) steps.length cs] 25)).alloc (.cells #[.int .u64 (s : Int), .int .i64 3, .int .i64 on, .int .i64 e, .slice Af fr.length cf] 37)) from ((Ext.refl _).alloc _).alloc _)
      clear hxa q0 q1 q2 q3 q4
      go_enter Tryz.func30, Tryz.ntmps30
      go_wp2_with (go_at_call 40; refine (rinside_any (Ab) cb base s hset _).mono ?_; rintro e5 w5 ⟨rfl, rfl⟩; rw [HIN.out])
      obtain ⟨W, hW⟩ : ∃ W, W = (w.alloc (.cells #[.int .i64 lg, .slice Ab base.length cb, .slice (some ad) steps.length cs] 25)).alloc (.cells #[.int .u64 (s : Int), .int .i64 3, .int .i64 on, .int .i64 e, .slice Af fr.length cf] 37) := ⟨_, rfl⟩
      have hA : W.heap[w.heap.size]? = some (.cells #[.int .i64 lg, .slice Ab base.length cb, .slice (some ad) steps.length cs] 25 (0, 0)) := by
        rw [hW]
        exact (((Ext.refl _).alloc _).block (by simp)).trans (heap_alloc_new _ _)
      have hB : W.heap[w.heap.size + 1]? = some (.cells #[.int .u64 (s : Int), .int .i64 3, .int .i64 on, .int .i64 e, .slice Af fr.length cf] 37 (0, 0)) := by
        have := heap_alloc_new (w.alloc (.cells #[.int .i64 lg, .slice Ab base.length cb, .slice (some ad) steps.length cs] 25)) (.cells #[.int .u64 (s : Int), .int .i64 3, .int .i64 on, .int .i64 e, .slice Af fr.length cf] 37)
        rw [hW]
        simpa using this
      have X0 : Hid (Ext w W) := by rw [hW]; exact XE
      rw [← hW]
      clear hW XE a0 a1 a2 a3 a4
      obtain ⟨r0, r1, r2, _, rlt⟩ := cells3 hA
      obtain ⟨m0, m1, m2, m3, m4, _, mlt⟩ := cells5s hB
      clear hA hB
      refine wp_region_held_drew (S := fun w' => w'.cell? (⟨w.heap.size, 0, none⟩) = some (.int .i64 lg) ∧ w'.cell? (⟨w.heap.size, 1, none⟩) = some (.slice Ab base.length cb) ∧ w'.cell? (⟨w.heap.size, 2, none⟩) = some (.slice (some ad) steps.length cs) ∧ w'.cell? (⟨w.heap.size + 1, 0, none⟩) = some (.int .u64 (s : Int)) ∧ w'.cell? (⟨w.heap.size + 1, 1, none⟩) = some (.int .i64 3) ∧ w'.cell? (⟨w.heap.size + 1, 2, none⟩) = some (.int .i64 on) ∧ w'.cell? (⟨w.heap.size + 1, 3, none⟩) = some (.int .i64 e) ∧ w'.cell? (⟨w.heap.size + 1, 4, none⟩) = some (.slice Af fr.length cf)) (by kernel_rfl) ⟨xc rlt r0, xc rlt r1, xc rlt r2, xc mlt m0, xc mlt m1, xc mlt m2, xc mlt m3, xc mlt m4⟩ (fun hHeld => ?_)
      refine tk 0 hHeld ?_
      refine tk 1 hHeld ?_
      refine tk 2 hHeld ?_
      refine tk 3 hHeld ?_
      refine tk 4 hHeld ?_
      refine tk 5 hHeld ?_
      refine tk 6 hHeld ?_
      refine tk 7 hHeld ?_
      refine tk 8 hHeld ?_
      refine tk 9 hHeld ?_
      refine un 10 hHeld ?_
      refine un 11 hHeld ?_
      refine un 12 hHeld ?_
      refine tk 13 hHeld ?_
      refine tk 14 hHeld ?_
      refine un 15 hHeld ?_
      refine un 16 hHeld ?_
      refine un 17 hHeld ?_
      refine un 18 hHeld ?_
      refine un 19 hHeld ?_
      refine un 20 hHeld ?_
      refine un 21 hHeld ?_
      refine un 22 hHeld ?_
      refine un 23 hHeld ?_
      refine un 24 hHeld ?_
      refine un 25 hHeld ?_
      refine un 26 hHeld ?_
      refine un 27 hHeld ?_
      refine un 28 hHeld ?_
      refine tk 29 hHeld ?_
      refine tk 30 hHeld ?_
      refine un 31 hHeld ?_
      refine un 32 hHeld ?_
      refine un 33 hHeld ?_
      refine un 34 hHeld ?_
      refine un 35 hHeld ?_
      refine un 36 hHeld ?_
      refine un 37 hHeld ?_
      refine un 38 hHeld ?_
      refine un 39 hHeld ?_
      refine un 40 hHeld ?_
      refine un 41 hHeld ?_
      refine un 42 hHeld ?_
      refine un 43 hHeld ?_
      refine un 44 hHeld ?_
      refine tk 45 hHeld ?_
      refine tk 46 hHeld ?_
      refine wpAnyH_done (by kernel_rfl) ?_ _
      go_wp2_with fail
      go_ret
      exact ⟨by rw [HE.out] <;> rfl, X0.out.trans xw⟩
  · skip
    have hfb : (fr.length == 2) = false := by rw [beq_eq_false_iff_ne]; exact hfr
    have hfi : ((fr.length : Int) == 2) = false := by rw [beq_eq_false_iff_ne]; omega
    have hfn : ((fr.length : Int) != 2) = true := by simp [bne, hfi]
    have HE := Lib.hid (show correctQ lg base steps at_ ⟨s, 3, on, e, fr⟩ = false by unfold correctQ; simp only [hi, hfb]; rfl)
    have QQ := HQ.out
    obtain ⟨q0, q1, q2, q3, q4⟩ := QQ
    have hxa : Ext w (w.alloc (.cells #[.int .i64 lg, .slice Ab base.length cb, .slice (some ad) steps.length cs] 25)) := (Ext.refl _).alloc _
    have a0 := (hxa.cell (p := ad.add (at_ * 5)) HADB.out).trans q0
    have a1 := (hxa.cell (p := ⟨(ad.add (at_ * 5)).block, (ad.add (at_ * 5)).off + 1, none⟩) HADB.out).trans q1
    have a2 := (hxa.cell (p := ⟨(ad.add (at_ * 5)).block, (ad.add (at_ * 5)).off + 2, none⟩) HADB.out).trans q2
    have a3 := (hxa.cell (p := ⟨(ad.add (at_ * 5)).block, (ad.add (at_ * 5)).off + 3, none⟩) HADB.out).trans q3
    have a4 := (hxa.cell (p := ⟨(ad.add (at_ * 5)).block, (ad.add (at_ * 5)).off + 4, none⟩) HADB.out).trans q4
    have XE := Lib.hid (show Ext w ((w.alloc (.cells #[.int .i64 lg, .slice Ab base.length cb, .slice (some ad) steps.length cs] 25)).alloc (.cells #[.int .u64 (s : Int), .int .i64 3, .int .i64 on, .int .i64 e, .slice Af fr.length cf] 37)) from ((Ext.refl _).alloc _).alloc _)
    clear hxa q0 q1 q2 q3 q4
    go_enter Tryz.func30, Tryz.ntmps30
    go_wp2_with (go_at_call 40; refine (rinside_any (Ab) cb base s hset _).mono ?_; rintro e5 w5 ⟨rfl, rfl⟩; rw [HIN.out])
    obtain ⟨W, hW⟩ : ∃ W, W = (w.alloc (.cells #[.int .i64 lg, .slice Ab base.length cb, .slice (some ad) steps.length cs] 25)).alloc (.cells #[.int .u64 (s : Int), .int .i64 3, .int .i64 on, .int .i64 e, .slice Af fr.length cf] 37) := ⟨_, rfl⟩
    have hA : W.heap[w.heap.size]? = some (.cells #[.int .i64 lg, .slice Ab base.length cb, .slice (some ad) steps.length cs] 25 (0, 0)) := by
      rw [hW]
      exact (((Ext.refl _).alloc _).block (by simp)).trans (heap_alloc_new _ _)
    have hB : W.heap[w.heap.size + 1]? = some (.cells #[.int .u64 (s : Int), .int .i64 3, .int .i64 on, .int .i64 e, .slice Af fr.length cf] 37 (0, 0)) := by
      have := heap_alloc_new (w.alloc (.cells #[.int .i64 lg, .slice Ab base.length cb, .slice (some ad) steps.length cs] 25)) (.cells #[.int .u64 (s : Int), .int .i64 3, .int .i64 on, .int .i64 e, .slice Af fr.length cf] 37)
      rw [hW]
      simpa using this
    have X0 : Hid (Ext w W) := by rw [hW]; exact XE
    rw [← hW]
    clear hW XE a0 a1 a2 a3 a4
    obtain ⟨r0, r1, r2, _, rlt⟩ := cells3 hA
    obtain ⟨m0, m1, m2, m3, m4, _, mlt⟩ := cells5s hB
    clear hA hB
    refine wp_region_held_drew (S := fun w' => w'.cell? (⟨w.heap.size, 0, none⟩) = some (.int .i64 lg) ∧ w'.cell? (⟨w.heap.size, 1, none⟩) = some (.slice Ab base.length cb) ∧ w'.cell? (⟨w.heap.size, 2, none⟩) = some (.slice (some ad) steps.length cs) ∧ w'.cell? (⟨w.heap.size + 1, 0, none⟩) = some (.int .u64 (s : Int)) ∧ w'.cell? (⟨w.heap.size + 1, 1, none⟩) = some (.int .i64 3) ∧ w'.cell? (⟨w.heap.size + 1, 2, none⟩) = some (.int .i64 on) ∧ w'.cell? (⟨w.heap.size + 1, 3, none⟩) = some (.int .i64 e) ∧ w'.cell? (⟨w.heap.size + 1, 4, none⟩) = some (.slice Af fr.length cf)) (by kernel_rfl) ⟨xc rlt r0, xc rlt r1, xc rlt r2, xc mlt m0, xc mlt m1, xc mlt m2, xc mlt m3, xc mlt m4⟩ (fun hHeld => ?_)
    refine tk 0 hHeld ?_
    refine tk 1 hHeld ?_
    refine tk 2 hHeld ?_
    refine tk 3 hHeld ?_
    refine tk 4 hHeld ?_
    refine un 5 hHeld ?_
    refine un 6 hHeld ?_
    refine un 7 hHeld ?_
    refine tk 8 hHeld ?_
    refine tk 9 hHeld ?_
    refine un 10 hHeld ?_
    refine un 11 hHeld ?_
    refine un 12 hHeld ?_
    refine tk 13 hHeld ?_
    refine tk 14 hHeld ?_
    refine un 15 hHeld ?_
    refine un 16 hHeld ?_
    refine un 17 hHeld ?_
    refine un 18 hHeld ?_
    refine un 19 hHeld ?_
    refine un 20 hHeld ?_
    refine un 21 hHeld ?_
    refine un 22 hHeld ?_
    refine un 23 hHeld ?_
    refine un 24 hHeld ?_
    refine un 25 hHeld ?_
    refine un 26 hHeld ?_
    refine un 27 hHeld ?_
    refine un 28 hHeld ?_
    refine tk 29 hHeld ?_
    refine tk 30 hHeld ?_
    refine un 31 hHeld ?_
    refine un 32 hHeld ?_
    refine un 33 hHeld ?_
    refine un 34 hHeld ?_
    refine un 35 hHeld ?_
    refine un 36 hHeld ?_
    refine un 37 hHeld ?_
    refine un 38 hHeld ?_
    refine un 39 hHeld ?_
    refine un 40 hHeld ?_
    refine un 41 hHeld ?_
    refine un 42 hHeld ?_
    refine un 43 hHeld ?_
    refine un 44 hHeld ?_
    refine tk 45 hHeld ?_
    refine tk 46 hHeld ?_
    refine wpAnyH_done (by kernel_rfl) ?_ _
    go_wp2_with fail
    go_ret
    exact ⟨by rw [HE.out] <;> rfl, X0.out.trans xw⟩
end Go.Proofs.YtfcmdiigfgbgbaaGreat
