/- The reference's correct: RuleCut. -/
import Derived.Test.YtfcmdiigfgbgbaaGreatN1
import Derived.OrdersHeld
import Derived.Test.YtfcmdiigfgbgbaaGreatGF1

namespace Go.Proofs.YtfcmdiigfgbgbaaGreat
open Go.RowKit

set_option maxRecDepth 100000 in
set_option maxHeartbeats 40000000 in
theorem rcor_cut {w : World} {lg : Int} {base : List Nd} {steps : List Stp} {Ab As : Option Addr} {cb cs : Nat} (hb : Fml w (.slice Ab base.length cb) base) (hst : Sps w (.slice As steps.length cs) steps) (hbe : baseErr base = 0) (at_ : Nat) (s : Nat) (ru on e : Int) (fr : List Int) (hx : steps[at_]? = some ⟨s, ru, on, e, fr⟩) (hr : ru = 4) (hi : insideS base s = true) :
    Calls Tryz.prog 30 #[.agg #[.int .i64 lg, .slice Ab base.length cb, .slice As steps.length cs], .int .i64 (at_ : Int)] w fun e' w' => e' = .returned (.bool (correctQ lg base steps at_ ⟨s, 4, on, e, fr⟩)) ∧ Ext w w' := by
  subst hr
  have H := Lib.hid hb
  have HST := Lib.hid hst
  have HBE := Lib.hid hbe
  have HX := Lib.hid hx
  obtain ⟨ad, rfl, hcap, hmax, hblk, hrow⟩ := hst.rows (by intro e; rw [e] at hx; cases hx)
  obtain ⟨ur, q0, q1, q2, q3, q4, ⟨Af, cf, rfl, _⟩, hset⟩ := hrow at_ _ hx
  have hat := (List.getElem?_eq_some_iff.1 hx).1
  have ha1 : (at_ : Int) < (steps.length : Int) := by omega
  have ha0 : (0 : Int) ≤ (at_ : Int) := by omega
  simp only at q0 q1 q2 q3 q4 hset
  have HBLK := Lib.hid hblk
  have hab := block_of_add ad (at_ * 5)
  have HQ := Lib.hid (And.intro q0 (And.intro q1 (And.intro q2 (And.intro q3 q4))))
  have HADB := Lib.hid (show (ad.add (at_ * 5)).block < w.heap.size by rw [hab]; exact hblk)
  clear hx hst hb hbe hrow hab q0 q1 q2 q3 q4 hblk
  have HIN := Lib.hid hi
  by_cases hfr : fr.length = 2
  · skip
    have hfi : ((fr.length : Int) == 2) = true := by rw [hfr]; rfl
    have hfn : ((fr.length : Int) != 2) = false := by rw [hfr]; rfl
    have hfb : (fr.length == 2) = true := by rw [hfr]; rfl
    have HFR := Lib.hid hfr
    clear hfr
    by_cases h0 : 0 ≤ on
    · have h0d : decide (0 ≤ on) = true := decide_eq_true h0
      by_cases h1 : on < (base.length : Int)
      · have h1d : decide (on < (base.length : Int)) = true := decide_eq_true h1
        by_cases h2 : 0 ≤ e
        · have h2d : decide (0 ≤ e) = true := decide_eq_true h2
          by_cases hne : NegationN base on = e
          · have hnb : (NegationN base on == e) = true := by simpa using hne
            obtain ⟨k, rfl⟩ := Int.eq_ofNat_of_zero_le h0
            obtain ⟨j, rfl⟩ := Int.eq_ofNat_of_zero_le h2
            have hl64 := (baseErr_ok HBE.out).2.1
            have hk6 : k < 64 := by omega
            have hj6 : j < 64 := by rcases neg_range (base := base) (z := (k : Int)) with h | h <;> omega
            have BK := shl_one hk6
            have MK : min k 64 = k := by omega
            have BJ := shl_one hj6
            have MJ : min j 64 = j := by omega
            have HNB := Lib.hid hnb
            have HNE := Lib.hid hne
            cases hp : prem1 steps at_ 0 (s ||| 2 ^ k)
            · have HP := Lib.hid hp
              have HE := Lib.hid (show correctQ lg base steps at_ ⟨s, 4, (k : Int), (j : Int), fr⟩ = false by unfold correctQ; simp only [HIN.out, hfb, decide_eq_true h0, decide_eq_true h1, decide_eq_true h2, hnb, Int.toNat_natCast, hp]; rfl)
              clear hi hp hnb hne
              have QQ := HQ.out
              obtain ⟨q0, q1, q2, q3, q4⟩ := QQ
              have hxa : Ext w (w.alloc (.cells #[.int .i64 lg, .slice Ab base.length cb, .slice (some ad) steps.length cs] 25)) := (Ext.refl _).alloc _
              have a0 := (hxa.cell (p := ad.add (at_ * 5)) HADB.out).trans q0
              have a1 := (hxa.cell (p := ⟨(ad.add (at_ * 5)).block, (ad.add (at_ * 5)).off + 1, none⟩) HADB.out).trans q1
              have a2 := (hxa.cell (p := ⟨(ad.add (at_ * 5)).block, (ad.add (at_ * 5)).off + 2, none⟩) HADB.out).trans q2
              have a3 := (hxa.cell (p := ⟨(ad.add (at_ * 5)).block, (ad.add (at_ * 5)).off + 3, none⟩) HADB.out).trans q3
              have a4 := (hxa.cell (p := ⟨(ad.add (at_ * 5)).block, (ad.add (at_ * 5)).off + 4, none⟩) HADB.out).trans q4
              have XE := Lib.hid (show Ext w ((w.alloc (.cells #[.int .i64 lg, .slice Ab base.length cb, .slice (some ad) steps.length cs] 25)).alloc (.cells #[.int .u64 (s : Int), .int .i64 4, .int .i64 (k : Int), .int .i64 (j : Int), .slice Af fr.length cf] 37)) from ((Ext.refl _).alloc _).alloc _)
              clear hxa q0 q1 q2 q3 q4
              go_enter Tryz.func30, Tryz.ntmps30
              go_wp2_with (go_at_call 40; refine (rinside_any (Ab) cb base s hset _).mono ?_; rintro e5 w5 ⟨rfl, rfl⟩; rw [HIN.out])
              obtain ⟨W, hW⟩ : ∃ W, W = (w.alloc (.cells #[.int .i64 lg, .slice Ab base.length cb, .slice (some ad) steps.length cs] 25)).alloc (.cells #[.int .u64 (s : Int), .int .i64 4, .int .i64 (k : Int), .int .i64 (j : Int), .slice Af fr.length cf] 37) := ⟨_, rfl⟩
              have hA : W.heap[w.heap.size]? = some (.cells #[.int .i64 lg, .slice Ab base.length cb, .slice (some ad) steps.length cs] 25 (0, 0)) := by
                rw [hW]
                exact (((Ext.refl _).alloc _).block (by simp)).trans (heap_alloc_new _ _)
              have hB : W.heap[w.heap.size + 1]? = some (.cells #[.int .u64 (s : Int), .int .i64 4, .int .i64 (k : Int), .int .i64 (j : Int), .slice Af fr.length cf] 37 (0, 0)) := by
                have := heap_alloc_new (w.alloc (.cells #[.int .i64 lg, .slice Ab base.length cb, .slice (some ad) steps.length cs] 25)) (.cells #[.int .u64 (s : Int), .int .i64 4, .int .i64 (k : Int), .int .i64 (j : Int), .slice Af fr.length cf] 37)
                rw [hW]
                simpa using this
              have X0 : Hid (Ext w W) := by rw [hW]; exact XE
              rw [← hW]
              clear hW XE a0 a1 a2 a3 a4
              obtain ⟨r0, r1, r2, _, rlt⟩ := cells3 hA
              obtain ⟨m0, m1, m2, m3, m4, _, mlt⟩ := cells5s hB
              clear hA hB
              refine wp_region_held_drew (S := fun w' => w'.cell? (⟨w.heap.size, 0, none⟩) = some (.int .i64 lg) ∧ w'.cell? (⟨w.heap.size, 1, none⟩) = some (.slice Ab base.length cb) ∧ w'.cell? (⟨w.heap.size, 2, none⟩) = some (.slice (some ad) steps.length cs) ∧ w'.cell? (⟨w.heap.size + 1, 0, none⟩) = some (.int .u64 (s : Int)) ∧ w'.cell? (⟨w.heap.size + 1, 1, none⟩) = some (.int .i64 4) ∧ w'.cell? (⟨w.heap.size + 1, 2, none⟩) = some (.int .i64 (k : Int)) ∧ w'.cell? (⟨w.heap.size + 1, 3, none⟩) = some (.int .i64 (j : Int)) ∧ w'.cell? (⟨w.heap.size + 1, 4, none⟩) = some (.slice Af fr.length cf)) (by kernel_rfl) ⟨xc rlt r0, xc rlt r1, xc rlt r2, xc mlt m0, xc mlt m1, xc mlt m2, xc mlt m3, xc mlt m4⟩ (fun hHeld => ?_)
              refine tk 0 hHeld ?_
              refine tk 1 hHeld ?_
              refine tk 2 hHeld ?_
              refine tk 3 hHeld ?_
              refine tk 4 hHeld ?_
              refine tk 5 hHeld ?_
              refine tk 6 hHeld ?_
              refine tk 7 hHeld ?_
              refine tk 8 hHeld ?_
              refine tk 9 hHeld ?_
              refine tk 10 hHeld ?_
              refine tk 11 hHeld ?_
              refine tk 12 hHeld ?_
              refine tk 13 hHeld ?_
              refine tk 14 hHeld ?_
              refine tk 15 hHeld ?_
              refine tk 16 hHeld ?_
              refine tk 17 hHeld ?_
              refine tk 18 hHeld ?_
              refine tk 19 hHeld ?_
              refine tk 20 hHeld ?_
              refine tk 21 hHeld ?_
              refine tk 22 hHeld ?_
              refine tk 23 hHeld ?_
              refine tk 24 hHeld ?_
              refine tk 25 hHeld ?_
              refine tk 26 hHeld ?_
              refine tk 28 hHeld ?_
              refine tk 29 hHeld ?_
              refine wpAnyH_ready (rs := [27]) (by kernel_rfl) (by simp) ?_
              refine AllReadyH.cons rfl (fun K hK => ?_) AllReadyH.nil
              go_simp
              (go_at_call 12; refine (rNegation_any _ base (k : Int) _ (H.out.ext (X0.out.trans xw))).mono ?_; rintro e2 wz30 ⟨rfl, hv⟩; rw [HNE.out]; have hx30 : Ext W wz30 := xt hv; clear hv)
              go_wp2_with fail
              refine hK.out _ _ ⟨xc rlt r0, xc rlt r1, xc rlt r2, xc mlt m0, xc mlt m1, xc mlt m2, xc mlt m3, xc mlt m4⟩ (fun hHeld => ?_)
              clear hK K
              try simp only [Act.put, List.setIfInBounds_toArray, List.set_cons_zero, List.set_cons_succ, List.getElem_toArray, List.getElem_cons_succ, List.getElem_cons_zero]
              refine tk 30 hHeld ?_
              refine tk 31 hHeld ?_
              refine tk 32 hHeld ?_
              refine wpAnyH_done (by kernel_rfl) ?_ _
              go_wp2_with fail
              refine wp_region_held_drew (S := fun w' => w'.cell? (⟨w.heap.size, 0, none⟩) = some (.int .i64 lg) ∧ w'.cell? (⟨w.heap.size, 1, none⟩) = some (.slice Ab base.length cb) ∧ w'.cell? (⟨w.heap.size, 2, none⟩) = some (.slice (some ad) steps.length cs) ∧ w'.cell? (⟨w.heap.size + 1, 0, none⟩) = some (.int .u64 (s : Int)) ∧ w'.cell? (⟨w.heap.size + 1, 1, none⟩) = some (.int .i64 4) ∧ w'.cell? (⟨w.heap.size + 1, 2, none⟩) = some (.int .i64 (k : Int)) ∧ w'.cell? (⟨w.heap.size + 1, 3, none⟩) = some (.int .i64 (j : Int)) ∧ w'.cell? (⟨w.heap.size + 1, 4, none⟩) = some (.slice Af fr.length cf)) (by kernel_rfl) ⟨xc rlt r0, xc rlt r1, xc rlt r2, xc mlt m0, xc mlt m1, xc mlt m2, xc mlt m3, xc mlt m4⟩ (fun hHeld => ?_)
              refine tk 0 hHeld ?_
              refine tk 1 hHeld ?_
              refine tk 2 hHeld ?_
              refine tk 3 hHeld ?_
              refine tk 4 hHeld ?_
              refine tk 5 hHeld ?_
              refine tk 6 hHeld ?_
              refine tk 7 hHeld ?_
              refine tk 8 hHeld ?_
              refine tk 9 hHeld ?_
              refine wpAnyH_ready (rs := [10]) (by kernel_rfl) (by simp) ?_
              refine AllReadyH.cons rfl (fun K hK => ?_) AllReadyH.nil
              go_simp
              (go_at_call 57; rw [or_pow hset hk6]; refine (rprem_any (lg := lg) (base := base) (Ab := Ab) (cb := cb) (HST.out.ext (X0.out.trans xw)) at_ 0 HX.out (by show _ < fr.length; rw [HFR.out]; decide) (s ||| 2 ^ k) (or_lt64 hset (two_pow_lt64 hk6))).mono ?_; rintro e2 wz32 ⟨rfl, hv⟩; rw [HP.out]; have hx32 : Ext W wz32 := xt hv; clear hv)
              go_wp2_with fail
              refine hK.out _ _ ⟨xc rlt r0, xc rlt r1, xc rlt r2, xc mlt m0, xc mlt m1, xc mlt m2, xc mlt m3, xc mlt m4⟩ (fun hHeld => ?_)
              clear hK K
              try simp only [Act.put, List.setIfInBounds_toArray, List.set_cons_zero, List.set_cons_succ, List.getElem_toArray, List.getElem_cons_succ, List.getElem_cons_zero]
              refine tk 11 hHeld ?_
              refine tk 12 hHeld ?_
              refine un 13 hHeld ?_
              refine un 14 hHeld ?_
              refine un 15 hHeld ?_
              refine un 16 hHeld ?_
              refine un 17 hHeld ?_
              refine un 18 hHeld ?_
              refine un 19 hHeld ?_
              refine un 20 hHeld ?_
              refine un 21 hHeld ?_
              refine tk 22 hHeld ?_
              refine tk 23 hHeld ?_
              refine wpAnyH_done (by kernel_rfl) ?_ _
              go_wp2_with fail
              go_ret
              exact ⟨by rw [HE.out] <;> rfl, X0.out.trans xw⟩
            · have HP := Lib.hid hp
              have HE := Lib.hid (show correctQ lg base steps at_ ⟨s, 4, (k : Int), (j : Int), fr⟩ = prem1 steps at_ 1 (s ||| 2 ^ j) by unfold correctQ; simp only [HIN.out, hfb, decide_eq_true h0, decide_eq_true h1, decide_eq_true h2, hnb, Int.toNat_natCast, hp]; rfl)
              clear hi hp hnb hne
              have QQ := HQ.out
              obtain ⟨q0, q1, q2, q3, q4⟩ := QQ
              have hxa : Ext w (w.alloc (.cells #[.int .i64 lg, .slice Ab base.length cb, .slice (some ad) steps.length cs] 25)) := (Ext.refl _).alloc _
              have a0 := (hxa.cell (p := ad.add (at_ * 5)) HADB.out).trans q0
              have a1 := (hxa.cell (p := ⟨(ad.add (at_ * 5)).block, (ad.add (at_ * 5)).off + 1, none⟩) HADB.out).trans q1
              have a2 := (hxa.cell (p := ⟨(ad.add (at_ * 5)).block, (ad.add (at_ * 5)).off + 2, none⟩) HADB.out).trans q2
              have a3 := (hxa.cell (p := ⟨(ad.add (at_ * 5)).block, (ad.add (at_ * 5)).off + 3, none⟩) HADB.out).trans q3
              have a4 := (hxa.cell (p := ⟨(ad.add (at_ * 5)).block, (ad.add (at_ * 5)).off + 4, none⟩) HADB.out).trans q4
              have XE := Lib.hid (show Ext w ((w.alloc (.cells #[.int .i64 lg, .slice Ab base.length cb, .slice (some ad) steps.length cs] 25)).alloc (.cells #[.int .u64 (s : Int), .int .i64 4, .int .i64 (k : Int), .int .i64 (j : Int), .slice Af fr.length cf] 37)) from ((Ext.refl _).alloc _).alloc _)
              clear hxa q0 q1 q2 q3 q4
              go_enter Tryz.func30, Tryz.ntmps30
              go_wp2_with (go_at_call 40; refine (rinside_any (Ab) cb base s hset _).mono ?_; rintro e5 w5 ⟨rfl, rfl⟩; rw [HIN.out])
              obtain ⟨W, hW⟩ : ∃ W, W = (w.alloc (.cells #[.int .i64 lg, .slice Ab base.length cb, .slice (some ad) steps.length cs] 25)).alloc (.cells #[.int .u64 (s : Int), .int .i64 4, .int .i64 (k : Int), .int .i64 (j : Int), .slice Af fr.length cf] 37) := ⟨_, rfl⟩
              have hA : W.heap[w.heap.size]? = some (.cells #[.int .i64 lg, .slice Ab base.length cb, .slice (some ad) steps.length cs] 25 (0, 0)) := by
                rw [hW]
                exact (((Ext.refl _).alloc _).block (by simp)).trans (heap_alloc_new _ _)
              have hB : W.heap[w.heap.size + 1]? = some (.cells #[.int .u64 (s : Int), .int .i64 4, .int .i64 (k : Int), .int .i64 (j : Int), .slice Af fr.length cf] 37 (0, 0)) := by
                have := heap_alloc_new (w.alloc (.cells #[.int .i64 lg, .slice Ab base.length cb, .slice (some ad) steps.length cs] 25)) (.cells #[.int .u64 (s : Int), .int .i64 4, .int .i64 (k : Int), .int .i64 (j : Int), .slice Af fr.length cf] 37)
                rw [hW]
                simpa using this
              have X0 : Hid (Ext w W) := by rw [hW]; exact XE
              rw [← hW]
              clear hW XE a0 a1 a2 a3 a4
              obtain ⟨r0, r1, r2, _, rlt⟩ := cells3 hA
              obtain ⟨m0, m1, m2, m3, m4, _, mlt⟩ := cells5s hB
              clear hA hB
              refine wp_region_held_drew (S := fun w' => w'.cell? (⟨w.heap.size, 0, none⟩) = some (.int .i64 lg) ∧ w'.cell? (⟨w.heap.size, 1, none⟩) = some (.slice Ab base.length cb) ∧ w'.cell? (⟨w.heap.size, 2, none⟩) = some (.slice (some ad) steps.length cs) ∧ w'.cell? (⟨w.heap.size + 1, 0, none⟩) = some (.int .u64 (s : Int)) ∧ w'.cell? (⟨w.heap.size + 1, 1, none⟩) = some (.int .i64 4) ∧ w'.cell? (⟨w.heap.size + 1, 2, none⟩) = some (.int .i64 (k : Int)) ∧ w'.cell? (⟨w.heap.size + 1, 3, none⟩) = some (.int .i64 (j : Int)) ∧ w'.cell? (⟨w.heap.size + 1, 4, none⟩) = some (.slice Af fr.length cf)) (by kernel_rfl) ⟨xc rlt r0, xc rlt r1, xc rlt r2, xc mlt m0, xc mlt m1, xc mlt m2, xc mlt m3, xc mlt m4⟩ (fun hHeld => ?_)
              refine tk 0 hHeld ?_
              refine tk 1 hHeld ?_
              refine tk 2 hHeld ?_
              refine tk 3 hHeld ?_
              refine tk 4 hHeld ?_
              refine tk 5 hHeld ?_
              refine tk 6 hHeld ?_
              refine tk 7 hHeld ?_
              refine tk 8 hHeld ?_
              refine tk 9 hHeld ?_
              refine tk 10 hHeld ?_
              refine tk 11 hHeld ?_
              refine tk 12 hHeld ?_
              refine tk 13 hHeld ?_
              refine tk 14 hHeld ?_
              refine tk 15 hHeld ?_
              refine tk 16 hHeld ?_
              refine tk 17 hHeld ?_
              refine tk 18 hHeld ?_
              refine tk 19 hHeld ?_
              refine tk 20 hHeld ?_
              refine tk 21 hHeld ?_
              refine tk 22 hHeld ?_
              refine tk 23 hHeld ?_
              refine tk 24 hHeld ?_
              refine tk 25 hHeld ?_
              refine tk 26 hHeld ?_
              refine tk 28 hHeld ?_
              refine tk 29 hHeld ?_
              refine wpAnyH_ready (rs := [27]) (by kernel_rfl) (by simp) ?_
              refine AllReadyH.cons rfl (fun K hK => ?_) AllReadyH.nil
              go_simp
              (go_at_call 12; refine (rNegation_any _ base (k : Int) _ (H.out.ext (X0.out.trans xw))).mono ?_; rintro e2 wz30 ⟨rfl, hv⟩; rw [HNE.out]; have hx30 : Ext W wz30 := xt hv; clear hv)
              go_wp2_with fail
              refine hK.out _ _ ⟨xc rlt r0, xc rlt r1, xc rlt r2, xc mlt m0, xc mlt m1, xc mlt m2, xc mlt m3, xc mlt m4⟩ (fun hHeld => ?_)
              clear hK K
              try simp only [Act.put, List.setIfInBounds_toArray, List.set_cons_zero, List.set_cons_succ, List.getElem_toArray, List.getElem_cons_succ, List.getElem_cons_zero]
              refine tk 30 hHeld ?_
              refine tk 31 hHeld ?_
              refine tk 32 hHeld ?_
              refine wpAnyH_done (by kernel_rfl) ?_ _
              go_wp2_with fail
              refine wp_region_held_drew (S := fun w' => w'.cell? (⟨w.heap.size, 0, none⟩) = some (.int .i64 lg) ∧ w'.cell? (⟨w.heap.size, 1, none⟩) = some (.slice Ab base.length cb) ∧ w'.cell? (⟨w.heap.size, 2, none⟩) = some (.slice (some ad) steps.length cs) ∧ w'.cell? (⟨w.heap.size + 1, 0, none⟩) = some (.int .u64 (s : Int)) ∧ w'.cell? (⟨w.heap.size + 1, 1, none⟩) = some (.int .i64 4) ∧ w'.cell? (⟨w.heap.size + 1, 2, none⟩) = some (.int .i64 (k : Int)) ∧ w'.cell? (⟨w.heap.size + 1, 3, none⟩) = some (.int .i64 (j : Int)) ∧ w'.cell? (⟨w.heap.size + 1, 4, none⟩) = some (.slice Af fr.length cf)) (by kernel_rfl) ⟨xc rlt r0, xc rlt r1, xc rlt r2, xc mlt m0, xc mlt m1, xc mlt m2, xc mlt m3, xc mlt m4⟩ (fun hHeld => ?_)
              refine tk 0 hHeld ?_
              refine tk 1 hHeld ?_
              refine tk 2 hHeld ?_
              refine tk 3 hHeld ?_
              refine tk 4 hHeld ?_
              refine tk 5 hHeld ?_
              refine tk 6 hHeld ?_
              refine tk 7 hHeld ?_
              refine tk 8 hHeld ?_
              refine tk 9 hHeld ?_
              refine wpAnyH_ready (rs := [10]) (by kernel_rfl) (by simp) ?_
              refine AllReadyH.cons rfl (fun K hK => ?_) AllReadyH.nil
              go_simp
              (go_at_call 57; rw [or_pow hset hk6]; refine (rprem_any (lg := lg) (base := base) (Ab := Ab) (cb := cb) (HST.out.ext (X0.out.trans xw)) at_ 0 HX.out (by show _ < fr.length; rw [HFR.out]; decide) (s ||| 2 ^ k) (or_lt64 hset (two_pow_lt64 hk6))).mono ?_; rintro e2 wz33 ⟨rfl, hv⟩; rw [HP.out]; have hx33 : Ext W wz33 := xt hv; clear hv)
              go_wp2_with fail
              refine hK.out _ _ ⟨xc rlt r0, xc rlt r1, xc rlt r2, xc mlt m0, xc mlt m1, xc mlt m2, xc mlt m3, xc mlt m4⟩ (fun hHeld => ?_)
              clear hK K
              try simp only [Act.put, List.setIfInBounds_toArray, List.set_cons_zero, List.set_cons_succ, List.getElem_toArray, List.getElem_cons_succ, List.getElem_cons_zero]
              refine tk 11 hHeld ?_
              refine tk 12 hHeld ?_
              refine tk 13 hHeld ?_
              refine tk 14 hHeld ?_
              refine tk 15 hHeld ?_
              refine tk 16 hHeld ?_
              refine tk 17 hHeld ?_
              refine tk 18 hHeld ?_
              refine tk 19 hHeld ?_
              refine tk 20 hHeld ?_
              refine wpAnyH_ready (rs := [21]) (by kernel_rfl) (by simp) ?_
              refine AllReadyH.cons rfl (fun K hK => ?_) AllReadyH.nil
              go_simp
              (go_at_call 57; rw [or_pow hset hj6]; refine (rprem_any (lg := lg) (base := base) (Ab := Ab) (cb := cb) (HST.out.ext (X0.out.trans xw)) at_ 1 HX.out (by show _ < fr.length; rw [HFR.out]; decide) (s ||| 2 ^ j) (or_lt64 hset (two_pow_lt64 hj6))).mono ?_; rintro e2 wz31 ⟨rfl, hv⟩; have hx31 : Ext W wz31 := xt hv; clear hv)
              go_wp2_with fail
              refine hK.out _ _ ⟨xc rlt r0, xc rlt r1, xc rlt r2, xc mlt m0, xc mlt m1, xc mlt m2, xc mlt m3, xc mlt m4⟩ (fun hHeld => ?_)
              clear hK K
              try simp only [Act.put, List.setIfInBounds_toArray, List.set_cons_zero, List.set_cons_succ, List.getElem_toArray, List.getElem_cons_succ, List.getElem_cons_zero]
              refine tk 22 hHeld ?_
              refine tk 23 hHeld ?_
              refine wpAnyH_done (by kernel_rfl) ?_ _
              go_wp2_with fail
              go_ret
              exact ⟨by rw [HE.out] <;> rfl, X0.out.trans xw⟩
          · have hnb : (NegationN base on == e) = false := by simpa using hne
            clear hne
            have HE := Lib.hid (show correctQ lg base steps at_ ⟨s, 4, on, e, fr⟩ = false by unfold correctQ; simp only [hi, hfb, h0d, h1d, h2d, hnb]; rfl)
            have QQ := HQ.out
            obtain ⟨q0, q1, q2, q3, q4⟩ := QQ
            have hxa : Ext w (w.alloc (.cells #[.int .i64 lg, .slice Ab base.length cb, .slice (some ad) steps.length cs] 25)) := (Ext.refl _).alloc _
            have a0 := (hxa.cell (p := ad.add (at_ * 5)) HADB.out).trans q0
            have a1 := (hxa.cell (p := ⟨(ad.add (at_ * 5)).block, (ad.add (at_ * 5)).off + 1, none⟩) HADB.out).trans q1
            have a2 := (hxa.cell (p := ⟨(ad.add (at_ * 5)).block, (ad.add (at_ * 5)).off + 2, none⟩) HADB.out).trans q2
            have a3 := (hxa.cell (p := ⟨(ad.add (at_ * 5)).block, (ad.add (at_ * 5)).off + 3, none⟩) HADB.out).trans q3
            have a4 := (hxa.cell (p := ⟨(ad.add (at_ * 5)).block, (ad.add (at_ * 5)).off + 4, none⟩) HADB.out).trans q4
            have XE := Lib.hid (show Ext w ((w.alloc (.cells #[.int .i64 lg, .slice Ab base.length cb, .slice (some ad) steps.length cs] 25)).alloc (.cells #[.int .u64 (s : Int), .int .i64 4, .int .i64 on, .int .i64 e, .slice Af fr.length cf] 37)) from ((Ext.refl _).alloc _).alloc _)
            clear hxa q0 q1 q2 q3 q4
            go_enter Tryz.func30, Tryz.ntmps30
            go_wp2_with (go_at_call 40; refine (rinside_any (Ab) cb base s hset _).mono ?_; rintro e5 w5 ⟨rfl, rfl⟩; rw [HIN.out])
            obtain ⟨W, hW⟩ : ∃ W, W = (w.alloc (.cells #[.int .i64 lg, .slice Ab base.length cb, .slice (some ad) steps.length cs] 25)).alloc (.cells #[.int .u64 (s : Int), .int .i64 4, .int .i64 on, .int .i64 e, .slice Af fr.length cf] 37) := ⟨_, rfl⟩
            have hA : W.heap[w.heap.size]? = some (.cells #[.int .i64 lg, .slice Ab base.length cb, .slice (some ad) steps.length cs] 25 (0, 0)) := by
              rw [hW]
              exact (((Ext.refl _).alloc _).block (by simp)).trans (heap_alloc_new _ _)
            have hB : W.heap[w.heap.size + 1]? = some (.cells #[.int .u64 (s : Int), .int .i64 4, .int .i64 on, .int .i64 e, .slice Af fr.length cf] 37 (0, 0)) := by
              have := heap_alloc_new (w.alloc (.cells #[.int .i64 lg, .slice Ab base.length cb, .slice (some ad) steps.length cs] 25)) (.cells #[.int .u64 (s : Int), .int .i64 4, .int .i64 on, .int .i64 e, .slice Af fr.length cf] 37)
              rw [hW]
              simpa using this
            have X0 : Hid (Ext w W) := by rw [hW]; exact XE
            rw [← hW]
            clear hW XE a0 a1 a2 a3 a4
            obtain ⟨r0, r1, r2, _, rlt⟩ := cells3 hA
            obtain ⟨m0, m1, m2, m3, m4, _, mlt⟩ := cells5s hB
            clear hA hB
            refine wp_region_held_drew (S := fun w' => w'.cell? (⟨w.heap.size, 0, none⟩) = some (.int .i64 lg) ∧ w'.cell? (⟨w.heap.size, 1, none⟩) = some (.slice Ab base.length cb) ∧ w'.cell? (⟨w.heap.size, 2, none⟩) = some (.slice (some ad) steps.length cs) ∧ w'.cell? (⟨w.heap.size + 1, 0, none⟩) = some (.int .u64 (s : Int)) ∧ w'.cell? (⟨w.heap.size + 1, 1, none⟩) = some (.int .i64 4) ∧ w'.cell? (⟨w.heap.size + 1, 2, none⟩) = some (.int .i64 on) ∧ w'.cell? (⟨w.heap.size + 1, 3, none⟩) = some (.int .i64 e) ∧ w'.cell? (⟨w.heap.size + 1, 4, none⟩) = some (.slice Af fr.length cf)) (by kernel_rfl) ⟨xc rlt r0, xc rlt r1, xc rlt r2, xc mlt m0, xc mlt m1, xc mlt m2, xc mlt m3, xc mlt m4⟩ (fun hHeld => ?_)
            refine tk 0 hHeld ?_
            refine tk 1 hHeld ?_
            refine tk 2 hHeld ?_
            refine tk 3 hHeld ?_
            refine tk 4 hHeld ?_
            refine tk 5 hHeld ?_
            refine tk 6 hHeld ?_
            refine tk 7 hHeld ?_
            refine tk 8 hHeld ?_
            refine tk 9 hHeld ?_
            refine tk 10 hHeld ?_
            refine tk 11 hHeld ?_
            refine tk 12 hHeld ?_
            refine tk 13 hHeld ?_
            refine tk 14 hHeld ?_
            refine tk 15 hHeld ?_
            refine tk 16 hHeld ?_
            refine tk 17 hHeld ?_
            refine tk 18 hHeld ?_
            refine tk 19 hHeld ?_
            refine tk 20 hHeld ?_
            refine tk 21 hHeld ?_
            refine tk 22 hHeld ?_
            refine tk 23 hHeld ?_
            refine tk 24 hHeld ?_
            refine tk 25 hHeld ?_
            refine tk 26 hHeld ?_
            refine tk 28 hHeld ?_
            refine tk 29 hHeld ?_
            refine wpAnyH_ready (rs := [27]) (by kernel_rfl) (by simp) ?_
            refine AllReadyH.cons rfl (fun K hK => ?_) AllReadyH.nil
            go_simp
            (go_at_call 12; refine (rNegation_any _ base on _ (H.out.ext (X0.out.trans xw))).mono ?_; rintro e2 wz29 ⟨rfl, hv⟩; have hx29 : Ext W wz29 := xt hv; clear hv)
            go_wp2_with fail
            refine hK.out _ _ ⟨xc rlt r0, xc rlt r1, xc rlt r2, xc mlt m0, xc mlt m1, xc mlt m2, xc mlt m3, xc mlt m4⟩ (fun hHeld => ?_)
            clear hK K
            try simp only [Act.put, List.setIfInBounds_toArray, List.set_cons_zero, List.set_cons_succ, List.getElem_toArray, List.getElem_cons_succ, List.getElem_cons_zero]
            refine tk 30 hHeld ?_
            refine tk 31 hHeld ?_
            refine tk 32 hHeld ?_
            refine wpAnyH_done (by kernel_rfl) ?_ _
            go_wp2_with fail
            refine wp_region_held_drew (S := fun w' => w'.cell? (⟨w.heap.size, 0, none⟩) = some (.int .i64 lg) ∧ w'.cell? (⟨w.heap.size, 1, none⟩) = some (.slice Ab base.length cb) ∧ w'.cell? (⟨w.heap.size, 2, none⟩) = some (.slice (some ad) steps.length cs) ∧ w'.cell? (⟨w.heap.size + 1, 0, none⟩) = some (.int .u64 (s : Int)) ∧ w'.cell? (⟨w.heap.size + 1, 1, none⟩) = some (.int .i64 4) ∧ w'.cell? (⟨w.heap.size + 1, 2, none⟩) = some (.int .i64 on) ∧ w'.cell? (⟨w.heap.size + 1, 3, none⟩) = some (.int .i64 e) ∧ w'.cell? (⟨w.heap.size + 1, 4, none⟩) = some (.slice Af fr.length cf)) (by kernel_rfl) ⟨xc rlt r0, xc rlt r1, xc rlt r2, xc mlt m0, xc mlt m1, xc mlt m2, xc mlt m3, xc mlt m4⟩ (fun hHeld => ?_)
            refine tk 0 hHeld ?_
            refine tk 1 hHeld ?_
            refine un 2 hHeld ?_
            refine un 3 hHeld ?_
            refine un 4 hHeld ?_
            refine un 5 hHeld ?_
            refine un 6 hHeld ?_
            refine un 7 hHeld ?_
            refine un 8 hHeld ?_
            refine un 9 hHeld ?_
            refine un 10 hHeld ?_
            refine tk 11 hHeld ?_
            refine tk 12 hHeld ?_
            refine un 13 hHeld ?_
            refine un 14 hHeld ?_
            refine un 15 hHeld ?_
            refine un 16 hHeld ?_
            refine un 17 hHeld ?_
            refine un 18 hHeld ?_
            refine un 19 hHeld ?_
            refine un 20 hHeld ?_
            refine un 21 hHeld ?_
            refine tk 22 hHeld ?_
            refine tk 23 hHeld ?_
            refine wpAnyH_done (by kernel_rfl) ?_ _
            go_wp2_with fail
            go_ret
            exact ⟨by rw [HE.out] <;> rfl, X0.out.trans xw⟩
        · have h2d : decide (0 ≤ e) = false := decide_eq_false h2
          have HE := Lib.hid (show correctQ lg base steps at_ ⟨s, 4, on, e, fr⟩ = false by unfold correctQ; simp only [hi, hfb, h0d, h1d, h2d]; rfl)
          have QQ := HQ.out
          obtain ⟨q0, q1, q2, q3, q4⟩ := QQ
          have hxa : Ext w (w.alloc (.cells #[.int .i64 lg, .slice Ab base.length cb, .slice (some ad) steps.length cs] 25)) := (Ext.refl _).alloc _
          have a0 := (hxa.cell (p := ad.add (at_ * 5)) HADB.out).trans q0
          have a1 := (hxa.cell (p := ⟨(ad.add (at_ * 5)).block, (ad.add (at_ * 5)).off + 1, none⟩) HADB.out).trans q1
          have a2 := (hxa.cell (p := ⟨(ad.add (at_ * 5)).block, (ad.add (at_ * 5)).off + 2, none⟩) HADB.out).trans q2
          have a3 := (hxa.cell (p := ⟨(ad.add (at_ * 5)).block, (ad.add (at_ * 5)).off + 3, none⟩) HADB.out).trans q3
          have a4 := (hxa.cell (p := ⟨(ad.add (at_ * 5)).block, (ad.add (at_ * 5)).off + 4, none⟩) HADB.out).trans q4
          have XE := Lib.hid (show Ext w ((w.alloc (.cells #[.int .i64 lg, .slice Ab base.length cb, .slice (some ad) steps.length cs] 25)).alloc (.cells #[.int .u64 (s : Int), .int .i64 4, .int .i64 on, .int .i64 e, .slice Af fr.length cf] 37)) from ((Ext.refl _).alloc _).alloc _)
          clear hxa q0 q1 q2 q3 q4
          go_enter Tryz.func30, Tryz.ntmps30
          go_wp2_with (go_at_call 40; refine (rinside_any (Ab) cb base s hset _).mono ?_; rintro e5 w5 ⟨rfl, rfl⟩; rw [HIN.out])
          obtain ⟨W, hW⟩ : ∃ W, W = (w.alloc (.cells #[.int .i64 lg, .slice Ab base.length cb, .slice (some ad) steps.length cs] 25)).alloc (.cells #[.int .u64 (s : Int), .int .i64 4, .int .i64 on, .int .i64 e, .slice Af fr.length cf] 37) := ⟨_, rfl⟩
          have hA : W.heap[w.heap.size]? = some (.cells #[.int .i64 lg, .slice Ab base.length cb, .slice (some ad) steps.length cs] 25 (0, 0)) := by
            rw [hW]
            exact (((Ext.refl _).alloc _).block (by simp)).trans (heap_alloc_new _ _)
          have hB : W.heap[w.heap.size + 1]? = some (.cells #[.int .u64 (s : Int), .int .i64 4, .int .i64 on, .int .i64 e, .slice Af fr.length cf] 37 (0, 0)) := by
            have := heap_alloc_new (w.alloc (.cells #[.int .i64 lg, .slice Ab base.length cb, .slice (some ad) steps.length cs] 25)) (.cells #[.int .u64 (s : Int), .int .i64 4, .int .i64 on, .int .i64 e, .slice Af fr.length cf] 37)
            rw [hW]
            simpa using this
          have X0 : Hid (Ext w W) := by rw [hW]; exact XE
          rw [← hW]
          clear hW XE a0 a1 a2 a3 a4
          obtain ⟨r0, r1, r2, _, rlt⟩ := cells3 hA
          obtain ⟨m0, m1, m2, m3, m4, _, mlt⟩ := cells5s hB
          clear hA hB
          refine wp_region_held_drew (S := fun w' => w'.cell? (⟨w.heap.size, 0, none⟩) = some (.int .i64 lg) ∧ w'.cell? (⟨w.heap.size, 1, none⟩) = some (.slice Ab base.length cb) ∧ w'.cell? (⟨w.heap.size, 2, none⟩) = some (.slice (some ad) steps.length cs) ∧ w'.cell? (⟨w.heap.size + 1, 0, none⟩) = some (.int .u64 (s : Int)) ∧ w'.cell? (⟨w.heap.size + 1, 1, none⟩) = some (.int .i64 4) ∧ w'.cell? (⟨w.heap.size + 1, 2, none⟩) = some (.int .i64 on) ∧ w'.cell? (⟨w.heap.size + 1, 3, none⟩) = some (.int .i64 e) ∧ w'.cell? (⟨w.heap.size + 1, 4, none⟩) = some (.slice Af fr.length cf)) (by kernel_rfl) ⟨xc rlt r0, xc rlt r1, xc rlt r2, xc mlt m0, xc mlt m1, xc mlt m2, xc mlt m3, xc mlt m4⟩ (fun hHeld => ?_)
          refine tk 0 hHeld ?_
          refine tk 1 hHeld ?_
          refine tk 2 hHeld ?_
          refine tk 3 hHeld ?_
          refine tk 4 hHeld ?_
          refine tk 5 hHeld ?_
          refine tk 6 hHeld ?_
          refine tk 7 hHeld ?_
          refine tk 8 hHeld ?_
          refine tk 9 hHeld ?_
          refine tk 10 hHeld ?_
          refine tk 11 hHeld ?_
          refine tk 12 hHeld ?_
          refine tk 13 hHeld ?_
          refine tk 14 hHeld ?_
          refine tk 15 hHeld ?_
          refine tk 16 hHeld ?_
          refine tk 17 hHeld ?_
          refine tk 18 hHeld ?_
          refine tk 19 hHeld ?_
          refine tk 20 hHeld ?_
          refine tk 21 hHeld ?_
          refine tk 22 hHeld ?_
          refine un 23 hHeld ?_
          refine un 24 hHeld ?_
          refine un 25 hHeld ?_
          refine un 26 hHeld ?_
          refine un 27 hHeld ?_
          refine un 28 hHeld ?_
          refine un 29 hHeld ?_
          refine un 30 hHeld ?_
          refine tk 31 hHeld ?_
          refine tk 32 hHeld ?_
          refine wpAnyH_done (by kernel_rfl) ?_ _
          go_wp2_with fail
          refine wp_region_held_drew (S := fun w' => w'.cell? (⟨w.heap.size, 0, none⟩) = some (.int .i64 lg) ∧ w'.cell? (⟨w.heap.size, 1, none⟩) = some (.slice Ab base.length cb) ∧ w'.cell? (⟨w.heap.size, 2, none⟩) = some (.slice (some ad) steps.length cs) ∧ w'.cell? (⟨w.heap.size + 1, 0, none⟩) = some (.int .u64 (s : Int)) ∧ w'.cell? (⟨w.heap.size + 1, 1, none⟩) = some (.int .i64 4) ∧ w'.cell? (⟨w.heap.size + 1, 2, none⟩) = some (.int .i64 on) ∧ w'.cell? (⟨w.heap.size + 1, 3, none⟩) = some (.int .i64 e) ∧ w'.cell? (⟨w.heap.size + 1, 4, none⟩) = some (.slice Af fr.length cf)) (by kernel_rfl) ⟨xc rlt r0, xc rlt r1, xc rlt r2, xc mlt m0, xc mlt m1, xc mlt m2, xc mlt m3, xc mlt m4⟩ (fun hHeld => ?_)
          refine tk 0 hHeld ?_
          refine tk 1 hHeld ?_
          refine un 2 hHeld ?_
          refine un 3 hHeld ?_
          refine un 4 hHeld ?_
          refine un 5 hHeld ?_
          refine un 6 hHeld ?_
          refine un 7 hHeld ?_
          refine un 8 hHeld ?_
          refine un 9 hHeld ?_
          refine un 10 hHeld ?_
          refine tk 11 hHeld ?_
          refine tk 12 hHeld ?_
          refine un 13 hHeld ?_
          refine un 14 hHeld ?_
          refine un 15 hHeld ?_
          refine un 16 hHeld ?_
          refine un 17 hHeld ?_
          refine un 18 hHeld ?_
          refine un 19 hHeld ?_
          refine un 20 hHeld ?_
          refine un 21 hHeld ?_
          refine tk 22 hHeld ?_
          refine tk 23 hHeld ?_
          refine wpAnyH_done (by kernel_rfl) ?_ _
          go_wp2_with fail
          go_ret
          exact ⟨by rw [HE.out] <;> rfl, X0.out.trans xw⟩
      · have h1d : decide (on < (base.length : Int)) = false := decide_eq_false h1
        have HE := Lib.hid (show correctQ lg base steps at_ ⟨s, 4, on, e, fr⟩ = false by unfold correctQ; simp only [hi, hfb, h0d, h1d]; rfl)
        have QQ := HQ.out
        obtain ⟨q0, q1, q2, q3, q4⟩ := QQ
        have hxa : Ext w (w.alloc (.cells #[.int .i64 lg, .slice Ab base.length cb, .slice (some ad) steps.length cs] 25)) := (Ext.refl _).alloc _
        have a0 := (hxa.cell (p := ad.add (at_ * 5)) HADB.out).trans q0
        have a1 := (hxa.cell (p := ⟨(ad.add (at_ * 5)).block, (ad.add (at_ * 5)).off + 1, none⟩) HADB.out).trans q1
        have a2 := (hxa.cell (p := ⟨(ad.add (at_ * 5)).block, (ad.add (at_ * 5)).off + 2, none⟩) HADB.out).trans q2
        have a3 := (hxa.cell (p := ⟨(ad.add (at_ * 5)).block, (ad.add (at_ * 5)).off + 3, none⟩) HADB.out).trans q3
        have a4 := (hxa.cell (p := ⟨(ad.add (at_ * 5)).block, (ad.add (at_ * 5)).off + 4, none⟩) HADB.out).trans q4
        have XE := Lib.hid (show Ext w ((w.alloc (.cells #[.int .i64 lg, .slice Ab base.length cb, .slice (some ad) steps.length cs] 25)).alloc (.cells #[.int .u64 (s : Int), .int .i64 4, .int .i64 on, .int .i64 e, .slice Af fr.length cf] 37)) from ((Ext.refl _).alloc _).alloc _)
        clear hxa q0 q1 q2 q3 q4
        go_enter Tryz.func30, Tryz.ntmps30
        go_wp2_with (go_at_call 40; refine (rinside_any (Ab) cb base s hset _).mono ?_; rintro e5 w5 ⟨rfl, rfl⟩; rw [HIN.out])
        obtain ⟨W, hW⟩ : ∃ W, W = (w.alloc (.cells #[.int .i64 lg, .slice Ab base.length cb, .slice (some ad) steps.length cs] 25)).alloc (.cells #[.int .u64 (s : Int), .int .i64 4, .int .i64 on, .int .i64 e, .slice Af fr.length cf] 37) := ⟨_, rfl⟩
        have hA : W.heap[w.heap.size]? = some (.cells #[.int .i64 lg, .slice Ab base.length cb, .slice (some ad) steps.length cs] 25 (0, 0)) := by
          rw [hW]
          exact (((Ext.refl _).alloc _).block (by simp)).trans (heap_alloc_new _ _)
        have hB : W.heap[w.heap.size + 1]? = some (.cells #[.int .u64 (s : Int), .int .i64 4, .int .i64 on, .int .i64 e, .slice Af fr.length cf] 37 (0, 0)) := by
          have := heap_alloc_new (w.alloc (.cells #[.int .i64 lg, .slice Ab base.length cb, .slice (some ad) steps.length cs] 25)) (.cells #[.int .u64 (s : Int), .int .i64 4, .int .i64 on, .int .i64 e, .slice Af fr.length cf] 37)
          rw [hW]
          simpa using this
        have X0 : Hid (Ext w W) := by rw [hW]; exact XE
        rw [← hW]
        clear hW XE a0 a1 a2 a3 a4
        obtain ⟨r0, r1, r2, _, rlt⟩ := cells3 hA
        obtain ⟨m0, m1, m2, m3, m4, _, mlt⟩ := cells5s hB
        clear hA hB
        refine wp_region_held_drew (S := fun w' => w'.cell? (⟨w.heap.size, 0, none⟩) = some (.int .i64 lg) ∧ w'.cell? (⟨w.heap.size, 1, none⟩) = some (.slice Ab base.length cb) ∧ w'.cell? (⟨w.heap.size, 2, none⟩) = some (.slice (some ad) steps.length cs) ∧ w'.cell? (⟨w.heap.size + 1, 0, none⟩) = some (.int .u64 (s : Int)) ∧ w'.cell? (⟨w.heap.size + 1, 1, none⟩) = some (.int .i64 4) ∧ w'.cell? (⟨w.heap.size + 1, 2, none⟩) = some (.int .i64 on) ∧ w'.cell? (⟨w.heap.size + 1, 3, none⟩) = some (.int .i64 e) ∧ w'.cell? (⟨w.heap.size + 1, 4, none⟩) = some (.slice Af fr.length cf)) (by kernel_rfl) ⟨xc rlt r0, xc rlt r1, xc rlt r2, xc mlt m0, xc mlt m1, xc mlt m2, xc mlt m3, xc mlt m4⟩ (fun hHeld => ?_)
        refine tk 0 hHeld ?_
        refine tk 1 hHeld ?_
        refine tk 2 hHeld ?_
        refine tk 3 hHeld ?_
        refine tk 4 hHeld ?_
        refine tk 5 hHeld ?_
        refine tk 6 hHeld ?_
        refine tk 7 hHeld ?_
        refine tk 8 hHeld ?_
        refine tk 9 hHeld ?_
        refine tk 10 hHeld ?_
        refine tk 11 hHeld ?_
        refine tk 12 hHeld ?_
        refine tk 13 hHeld ?_
        refine tk 14 hHeld ?_
        refine tk 15 hHeld ?_
        refine tk 16 hHeld ?_
        refine tk 17 hHeld ?_
        refine un 18 hHeld ?_
        refine un 19 hHeld ?_
        refine un 20 hHeld ?_
        refine tk 21 hHeld ?_
        refine tk 22 hHeld ?_
        refine un 23 hHeld ?_
        refine un 24 hHeld ?_
        refine un 25 hHeld ?_
        refine un 26 hHeld ?_
        refine un 27 hHeld ?_
        refine un 28 hHeld ?_
        refine un 29 hHeld ?_
        refine un 30 hHeld ?_
        refine tk 31 hHeld ?_
        refine tk 32 hHeld ?_
        refine wpAnyH_done (by kernel_rfl) ?_ _
        go_wp2_with fail
        refine wp_region_held_drew (S := fun w' => w'.cell? (⟨w.heap.size, 0, none⟩) = some (.int .i64 lg) ∧ w'.cell? (⟨w.heap.size, 1, none⟩) = some (.slice Ab base.length cb) ∧ w'.cell? (⟨w.heap.size, 2, none⟩) = some (.slice (some ad) steps.length cs) ∧ w'.cell? (⟨w.heap.size + 1, 0, none⟩) = some (.int .u64 (s : Int)) ∧ w'.cell? (⟨w.heap.size + 1, 1, none⟩) = some (.int .i64 4) ∧ w'.cell? (⟨w.heap.size + 1, 2, none⟩) = some (.int .i64 on) ∧ w'.cell? (⟨w.heap.size + 1, 3, none⟩) = some (.int .i64 e) ∧ w'.cell? (⟨w.heap.size + 1, 4, none⟩) = some (.slice Af fr.length cf)) (by kernel_rfl) ⟨xc rlt r0, xc rlt r1, xc rlt r2, xc mlt m0, xc mlt m1, xc mlt m2, xc mlt m3, xc mlt m4⟩ (fun hHeld => ?_)
        refine tk 0 hHeld ?_
        refine tk 1 hHeld ?_
        refine un 2 hHeld ?_
        refine un 3 hHeld ?_
        refine un 4 hHeld ?_
        refine un 5 hHeld ?_
        refine un 6 hHeld ?_
        refine un 7 hHeld ?_
        refine un 8 hHeld ?_
        refine un 9 hHeld ?_
        refine un 10 hHeld ?_
        refine tk 11 hHeld ?_
        refine tk 12 hHeld ?_
        refine un 13 hHeld ?_
        refine un 14 hHeld ?_
        refine un 15 hHeld ?_
        refine un 16 hHeld ?_
        refine un 17 hHeld ?_
        refine un 18 hHeld ?_
        refine un 19 hHeld ?_
        refine un 20 hHeld ?_
        refine un 21 hHeld ?_
        refine tk 22 hHeld ?_
        refine tk 23 hHeld ?_
        refine wpAnyH_done (by kernel_rfl) ?_ _
        go_wp2_with fail
        go_ret
        exact ⟨by rw [HE.out] <;> rfl, X0.out.trans xw⟩
    · have h0d : decide (0 ≤ on) = false := decide_eq_false h0
      have HE := Lib.hid (show correctQ lg base steps at_ ⟨s, 4, on, e, fr⟩ = false by unfold correctQ; simp only [hi, hfb, h0d]; rfl)
      have QQ := HQ.out
      obtain ⟨q0, q1, q2, q3, q4⟩ := QQ
      have hxa : Ext w (w.alloc (.cells #[.int .i64 lg, .slice Ab base.length cb, .slice (some ad) steps.length cs] 25)) := (Ext.refl _).alloc _
      have a0 := (hxa.cell (p := ad.add (at_ * 5)) HADB.out).trans q0
      have a1 := (hxa.cell (p := ⟨(ad.add (at_ * 5)).block, (ad.add (at_ * 5)).off + 1, none⟩) HADB.out).trans q1
      have a2 := (hxa.cell (p := ⟨(ad.add (at_ * 5)).block, (ad.add (at_ * 5)).off + 2, none⟩) HADB.out).trans q2
      have a3 := (hxa.cell (p := ⟨(ad.add (at_ * 5)).block, (ad.add (at_ * 5)).off + 3, none⟩) HADB.out).trans q3
      have a4 := (hxa.cell (p := ⟨(ad.add (at_ * 5)).block, (ad.add (at_ * 5)).off + 4, none⟩) HADB.out).trans q4
      have XE := Lib.hid (show Ext w ((w.alloc (.cells #[.int .i64 lg, .slice Ab base.length cb, .slice (some ad) steps.length cs] 25)).alloc (.cells #[.int .u64 (s : Int), .int .i64 4, .int .i64 on, .int .i64 e, .slice Af fr.length cf] 37)) from ((Ext.refl _).alloc _).alloc _)
      clear hxa q0 q1 q2 q3 q4
      go_enter Tryz.func30, Tryz.ntmps30
      go_wp2_with (go_at_call 40; refine (rinside_any (Ab) cb base s hset _).mono ?_; rintro e5 w5 ⟨rfl, rfl⟩; rw [HIN.out])
      obtain ⟨W, hW⟩ : ∃ W, W = (w.alloc (.cells #[.int .i64 lg, .slice Ab base.length cb, .slice (some ad) steps.length cs] 25)).alloc (.cells #[.int .u64 (s : Int), .int .i64 4, .int .i64 on, .int .i64 e, .slice Af fr.length cf] 37) := ⟨_, rfl⟩
      have hA : W.heap[w.heap.size]? = some (.cells #[.int .i64 lg, .slice Ab base.length cb, .slice (some ad) steps.length cs] 25 (0, 0)) := by
        rw [hW]
        exact (((Ext.refl _).alloc _).block (by simp)).trans (heap_alloc_new _ _)
      have hB : W.heap[w.heap.size + 1]? = some (.cells #[.int .u64 (s : Int), .int .i64 4, .int .i64 on, .int .i64 e, .slice Af fr.length cf] 37 (0, 0)) := by
        have := heap_alloc_new (w.alloc (.cells #[.int .i64 lg, .slice Ab base.length cb, .slice (some ad) steps.length cs] 25)) (.cells #[.int .u64 (s : Int), .int .i64 4, .int .i64 on, .int .i64 e, .slice Af fr.length cf] 37)
        rw [hW]
        simpa using this
      have X0 : Hid (Ext w W) := by rw [hW]; exact XE
      rw [← hW]
      clear hW XE a0 a1 a2 a3 a4
      obtain ⟨r0, r1, r2, _, rlt⟩ := cells3 hA
      obtain ⟨m0, m1, m2, m3, m4, _, mlt⟩ := cells5s hB
      clear hA hB
      refine wp_region_held_drew (S := fun w' => w'.cell? (⟨w.heap.size, 0, none⟩) = some (.int .i64 lg) ∧ w'.cell? (⟨w.heap.size, 1, none⟩) = some (.slice Ab base.length cb) ∧ w'.cell? (⟨w.heap.size, 2, none⟩) = some (.slice (some ad) steps.length cs) ∧ w'.cell? (⟨w.heap.size + 1, 0, none⟩) = some (.int .u64 (s : Int)) ∧ w'.cell? (⟨w.heap.size + 1, 1, none⟩) = some (.int .i64 4) ∧ w'.cell? (⟨w.heap.size + 1, 2, none⟩) = some (.int .i64 on) ∧ w'.cell? (⟨w.heap.size + 1, 3, none⟩) = some (.int .i64 e) ∧ w'.cell? (⟨w.heap.size + 1, 4, none⟩) = some (.slice Af fr.length cf)) (by kernel_rfl) ⟨xc rlt r0, xc rlt r1, xc rlt r2, xc mlt m0, xc mlt m1, xc mlt m2, xc mlt m3, xc mlt m4⟩ (fun hHeld => ?_)
      refine tk 0 hHeld ?_
      refine tk 1 hHeld ?_
      refine tk 2 hHeld ?_
      refine tk 3 hHeld ?_
      refine tk 4 hHeld ?_
      refine tk 5 hHeld ?_
      refine tk 6 hHeld ?_
      refine tk 7 hHeld ?_
      refine tk 8 hHeld ?_
      refine tk 9 hHeld ?_
      refine un 10 hHeld ?_
      refine un 11 hHeld ?_
      refine un 12 hHeld ?_
      refine un 13 hHeld ?_
      refine un 14 hHeld ?_
      refine un 15 hHeld ?_
      refine tk 16 hHeld ?_
      refine tk 17 hHeld ?_
      refine un 18 hHeld ?_
      refine un 19 hHeld ?_
      refine un 20 hHeld ?_
      refine tk 21 hHeld ?_
      refine tk 22 hHeld ?_
      refine un 23 hHeld ?_
      refine un 24 hHeld ?_
      refine un 25 hHeld ?_
      refine un 26 hHeld ?_
      refine un 27 hHeld ?_
      refine un 28 hHeld ?_
      refine un 29 hHeld ?_
      refine un 30 hHeld ?_
      refine tk 31 hHeld ?_
      refine tk 32 hHeld ?_
      refine wpAnyH_done (by kernel_rfl) ?_ _
      go_wp2_with fail
      refine wp_region_held_drew (S := fun w' => w'.cell? (⟨w.heap.size, 0, none⟩) = some (.int .i64 lg) ∧ w'.cell? (⟨w.heap.size, 1, none⟩) = some (.slice Ab base.length cb) ∧ w'.cell? (⟨w.heap.size, 2, none⟩) = some (.slice (some ad) steps.length cs) ∧ w'.cell? (⟨w.heap.size + 1, 0, none⟩) = some (.int .u64 (s : Int)) ∧ w'.cell? (⟨w.heap.size + 1, 1, none⟩) = some (.int .i64 4) ∧ w'.cell? (⟨w.heap.size + 1, 2, none⟩) = some (.int .i64 on) ∧ w'.cell? (⟨w.heap.size + 1, 3, none⟩) = some (.int .i64 e) ∧ w'.cell? (⟨w.heap.size + 1, 4, none⟩) = some (.slice Af fr.length cf)) (by kernel_rfl) ⟨xc rlt r0, xc rlt r1, xc rlt r2, xc mlt m0, xc mlt m1, xc mlt m2, xc mlt m3, xc mlt m4⟩ (fun hHeld => ?_)
      refine tk 0 hHeld ?_
      refine tk 1 hHeld ?_
      refine un 2 hHeld ?_
      refine un 3 hHeld ?_
      refine un 4 hHeld ?_
      refine un 5 hHeld ?_
      refine un 6 hHeld ?_
      refine un 7 hHeld ?_
      refine un 8 hHeld ?_
      refine un 9 hHeld ?_
      refine un 10 hHeld ?_
      refine tk 11 hHeld ?_
      refine tk 12 hHeld ?_
      refine un 13 hHeld ?_
      refine un 14 hHeld ?_
      refine un 15 hHeld ?_
      refine un 16 hHeld ?_
      refine un 17 hHeld ?_
      refine un 18 hHeld ?_
      refine un 19 hHeld ?_
      refine un 20 hHeld ?_
      refine un 21 hHeld ?_
      refine tk 22 hHeld ?_
      refine tk 23 hHeld ?_
      refine wpAnyH_done (by kernel_rfl) ?_ _
      go_wp2_with fail
      go_ret
      exact ⟨by rw [HE.out] <;> rfl, X0.out.trans xw⟩
  · skip
    have hfb : (fr.length == 2) = false := by rw [beq_eq_false_iff_ne]; exact hfr
    have hfi : ((fr.length : Int) == 2) = false := by rw [beq_eq_false_iff_ne]; omega
    have hfn : ((fr.length : Int) != 2) = true := by simp [bne, hfi]
    have HE := Lib.hid (show correctQ lg base steps at_ ⟨s, 4, on, e, fr⟩ = false by unfold correctQ; simp only [hi, hfb]; rfl)
    have QQ := HQ.out
    obtain ⟨q0, q1, q2, q3, q4⟩ := QQ
    have hxa : Ext w (w.alloc (.cells #[.int .i64 lg, .slice Ab base.length cb, .slice (some ad) steps.length cs] 25)) := (Ext.refl _).alloc _
    have a0 := (hxa.cell (p := ad.add (at_ * 5)) HADB.out).trans q0
    have a1 := (hxa.cell (p := ⟨(ad.add (at_ * 5)).block, (ad.add (at_ * 5)).off + 1, none⟩) HADB.out).trans q1
    have a2 := (hxa.cell (p := ⟨(ad.add (at_ * 5)).block, (ad.add (at_ * 5)).off + 2, none⟩) HADB.out).trans q2
    have a3 := (hxa.cell (p := ⟨(ad.add (at_ * 5)).block, (ad.add (at_ * 5)).off + 3, none⟩) HADB.out).trans q3
    have a4 := (hxa.cell (p := ⟨(ad.add (at_ * 5)).block, (ad.add (at_ * 5)).off + 4, none⟩) HADB.out).trans q4
    have XE := Lib.hid (show Ext w ((w.alloc (.cells #[.int .i64 lg, .slice Ab base.length cb, .slice (some ad) steps.length cs] 25)).alloc (.cells #[.int .u64 (s : Int), .int .i64 4, .int .i64 on, .int .i64 e, .slice Af fr.length cf] 37)) from ((Ext.refl _).alloc _).alloc _)
    clear hxa q0 q1 q2 q3 q4
    go_enter Tryz.func30, Tryz.ntmps30
    go_wp2_with (go_at_call 40; refine (rinside_any (Ab) cb base s hset _).mono ?_; rintro e5 w5 ⟨rfl, rfl⟩; rw [HIN.out])
    obtain ⟨W, hW⟩ : ∃ W, W = (w.alloc (.cells #[.int .i64 lg, .slice Ab base.length cb, .slice (some ad) steps.length cs] 25)).alloc (.cells #[.int .u64 (s : Int), .int .i64 4, .int .i64 on, .int .i64 e, .slice Af fr.length cf] 37) := ⟨_, rfl⟩
    have hA : W.heap[w.heap.size]? = some (.cells #[.int .i64 lg, .slice Ab base.length cb, .slice (some ad) steps.length cs] 25 (0, 0)) := by
      rw [hW]
      exact (((Ext.refl _).alloc _).block (by simp)).trans (heap_alloc_new _ _)
    have hB : W.heap[w.heap.size + 1]? = some (.cells #[.int .u64 (s : Int), .int .i64 4, .int .i64 on, .int .i64 e, .slice Af fr.length cf] 37 (0, 0)) := by
      have := heap_alloc_new (w.alloc (.cells #[.int .i64 lg, .slice Ab base.length cb, .slice (some ad) steps.length cs] 25)) (.cells #[.int .u64 (s : Int), .int .i64 4, .int .i64 on, .int .i64 e, .slice Af fr.length cf] 37)
      rw [hW]
      simpa using this
    have X0 : Hid (Ext w W) := by rw [hW]; exact XE
    rw [← hW]
    clear hW XE a0 a1 a2 a3 a4
    obtain ⟨r0, r1, r2, _, rlt⟩ := cells3 hA
    obtain ⟨m0, m1, m2, m3, m4, _, mlt⟩ := cells5s hB
    clear hA hB
    refine wp_region_held_drew (S := fun w' => w'.cell? (⟨w.heap.size, 0, none⟩) = some (.int .i64 lg) ∧ w'.cell? (⟨w.heap.size, 1, none⟩) = some (.slice Ab base.length cb) ∧ w'.cell? (⟨w.heap.size, 2, none⟩) = some (.slice (some ad) steps.length cs) ∧ w'.cell? (⟨w.heap.size + 1, 0, none⟩) = some (.int .u64 (s : Int)) ∧ w'.cell? (⟨w.heap.size + 1, 1, none⟩) = some (.int .i64 4) ∧ w'.cell? (⟨w.heap.size + 1, 2, none⟩) = some (.int .i64 on) ∧ w'.cell? (⟨w.heap.size + 1, 3, none⟩) = some (.int .i64 e) ∧ w'.cell? (⟨w.heap.size + 1, 4, none⟩) = some (.slice Af fr.length cf)) (by kernel_rfl) ⟨xc rlt r0, xc rlt r1, xc rlt r2, xc mlt m0, xc mlt m1, xc mlt m2, xc mlt m3, xc mlt m4⟩ (fun hHeld => ?_)
    refine tk 0 hHeld ?_
    refine tk 1 hHeld ?_
    refine tk 2 hHeld ?_
    refine tk 3 hHeld ?_
    refine tk 4 hHeld ?_
    refine un 5 hHeld ?_
    refine un 6 hHeld ?_
    refine un 7 hHeld ?_
    refine tk 8 hHeld ?_
    refine tk 9 hHeld ?_
    refine un 10 hHeld ?_
    refine un 11 hHeld ?_
    refine un 12 hHeld ?_
    refine un 13 hHeld ?_
    refine un 14 hHeld ?_
    refine un 15 hHeld ?_
    refine tk 16 hHeld ?_
    refine tk 17 hHeld ?_
    refine un 18 hHeld ?_
    refine un 19 hHeld ?_
    refine un 20 hHeld ?_
    refine tk 21 hHeld ?_
    refine tk 22 hHeld ?_
    refine un 23 hHeld ?_
    refine un 24 hHeld ?_
    refine un 25 hHeld ?_
    refine un 26 hHeld ?_
    refine un 27 hHeld ?_
    refine un 28 hHeld ?_
    refine un 29 hHeld ?_
    refine un 30 hHeld ?_
    refine tk 31 hHeld ?_
    refine tk 32 hHeld ?_
    refine wpAnyH_done (by kernel_rfl) ?_ _
    go_wp2_with fail
    refine wp_region_held_drew (S := fun w' => w'.cell? (⟨w.heap.size, 0, none⟩) = some (.int .i64 lg) ∧ w'.cell? (⟨w.heap.size, 1, none⟩) = some (.slice Ab base.length cb) ∧ w'.cell? (⟨w.heap.size, 2, none⟩) = some (.slice (some ad) steps.length cs) ∧ w'.cell? (⟨w.heap.size + 1, 0, none⟩) = some (.int .u64 (s : Int)) ∧ w'.cell? (⟨w.heap.size + 1, 1, none⟩) = some (.int .i64 4) ∧ w'.cell? (⟨w.heap.size + 1, 2, none⟩) = some (.int .i64 on) ∧ w'.cell? (⟨w.heap.size + 1, 3, none⟩) = some (.int .i64 e) ∧ w'.cell? (⟨w.heap.size + 1, 4, none⟩) = some (.slice Af fr.length cf)) (by kernel_rfl) ⟨xc rlt r0, xc rlt r1, xc rlt r2, xc mlt m0, xc mlt m1, xc mlt m2, xc mlt m3, xc mlt m4⟩ (fun hHeld => ?_)
    refine tk 0 hHeld ?_
    refine tk 1 hHeld ?_
    refine un 2 hHeld ?_
    refine un 3 hHeld ?_
    refine un 4 hHeld ?_
    refine un 5 hHeld ?_
    refine un 6 hHeld ?_
    refine un 7 hHeld ?_
    refine un 8 hHeld ?_
    refine un 9 hHeld ?_
    refine un 10 hHeld ?_
    refine tk 11 hHeld ?_
    refine tk 12 hHeld ?_
    refine un 13 hHeld ?_
    refine un 14 hHeld ?_
    refine un 15 hHeld ?_
    refine un 16 hHeld ?_
    refine un 17 hHeld ?_
    refine un 18 hHeld ?_
    refine un 19 hHeld ?_
    refine un 20 hHeld ?_
    refine un 21 hHeld ?_
    refine tk 22 hHeld ?_
    refine tk 23 hHeld ?_
    refine wpAnyH_done (by kernel_rfl) ?_ _
    go_wp2_with fail
    go_ret
    exact ⟨by rw [HE.out] <;> rfl, X0.out.trans xw⟩
end Go.Proofs.YtfcmdiigfgbgbaaGreat
