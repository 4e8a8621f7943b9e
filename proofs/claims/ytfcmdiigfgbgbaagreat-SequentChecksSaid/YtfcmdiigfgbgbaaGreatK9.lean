/- sequent's checker: opposed, on. -/
import Derived.Test.YtfcmdiigfgbgbaaGreatK8
import Derived.Test.YtfcmdiigfgbgbaaGreatGB
import Derived.Test.YtfcmdiigfgbgbaaGreatGF1

namespace Go.Proofs.YtfcmdiigfgbgbaaGreat
open Go.RowKit

section
variable {w : World} {b : Nat} {lg : Int} {base : List Nd} {steps : List Stp} {opps : List Int}
set_option maxRecDepth 100000 in
set_option maxHeartbeats 2000000 in
theorem opposed_any (h : SChk w b lg base steps opps) (node other : Int) :
    Calls Tryz.prog 52 #[.pointer (some ⟨b, 0, none⟩), .int .i64 node, .int .i64 other] w fun e w' => e = .returned (.bool (opposedN opps node other)) ∧ Ext w w' := by
  obtain ⟨Ab, cb, As, cs, Ao, co, d0, d1, d2, d3, _, _, A', c', e', hcap, hmax, hr⟩ := h.cells
  injection e' with e1 _ e2
  subst e1 e2
  unfold maxLen at hmax
  clear h
  by_cases h0 : 0 ≤ node
  · by_cases h1 : node < (opps.length : Int)
    · by_cases h2 : 0 ≤ other
      · obtain ⟨k, rfl⟩ := Int.eq_ofNat_of_zero_le h0
        obtain ⟨z, hz⟩ : ∃ z, opps[k]? = some z := ⟨_, List.getElem?_eq_getElem (show k < opps.length by omega)⟩
        obtain ⟨ad, rfl, hb1, hc⟩ := hr (by intro e; rw [e] at h1; simp at h1; omega)
        have q := hc k z hz
        have HE := Lib.hid (show opposedN opps (k : Int) other = (z == other) by
          unfold opposedN
          rw [decide_eq_true h0, decide_eq_true h1, decide_eq_true h2, Int.toNat_natCast, List.getD_eq_getElem?_getD, hz]
          rfl)
        clear hc hr hz
        cases hq : z == other
        · have HE2 := Lib.hid (HE.out.trans hq)
          go_enter Tryz.func52, Tryz.ntmps52
          go_wp2_with fail
          go_ret
          exact ⟨by rw [HE2.out] <;> rfl, Ext.refl _⟩
        · have HE2 := Lib.hid (HE.out.trans hq)
          go_enter Tryz.func52, Tryz.ntmps52
          go_wp2_with fail
          go_ret
          exact ⟨by rw [HE2.out] <;> rfl, Ext.refl _⟩
      · have HE := Lib.hid (show opposedN opps node other = false by unfold opposedN; rw [decide_eq_false h2]; simp)
        clear hr
        go_enter Tryz.func52, Tryz.ntmps52
        go_wp2_with fail
        go_ret
        exact ⟨by rw [HE.out] <;> rfl, Ext.refl _⟩
    · have HE := Lib.hid (show opposedN opps node other = false by unfold opposedN; rw [decide_eq_false h1]; simp)
      clear hr
      go_enter Tryz.func52, Tryz.ntmps52
      go_wp2_with fail
      go_ret
      exact ⟨by rw [HE.out] <;> rfl, Ext.refl _⟩
  · have HE := Lib.hid (show opposedN opps node other = false by unfold opposedN; rw [decide_eq_false h0]; rfl)
    clear hr
    go_enter Tryz.func52, Tryz.ntmps52
    go_wp2_with fail
    go_ret
    exact ⟨by rw [HE.out] <;> rfl, Ext.refl _⟩
end
set_option maxRecDepth 100000 in
set_option maxHeartbeats 1000000 in
theorem in_eq (s : Nat) (hs : s < 18446744073709551616) (node : Int) (w : World) : Calls Tryz.prog 44 #[.int .u64 (s : Int), .int .i64 node] w fun e w' => e = .returned (.bool (inS s node)) ∧ w' = w := by
  by_cases h0 : 0 ≤ node
  · by_cases h6 : node < 64
    · obtain ⟨k, rfl⟩ := Int.eq_ofNat_of_zero_le h0
      have hk : min k 64 = k := by omega
      have HE := Lib.hid (show inS s (k : Int) = s.testBit k by unfold inS; rw [decide_eq_true h0, decide_eq_true h6, Int.toNat_natCast]; rfl)
      have hb := shr_and_one s k hs
      go_enter Tryz.func44, Tryz.ntmps44
      go_wp2_with fail
      go_ret
      exact ⟨by rw [HE.out] <;> rfl, rfl⟩
    · have HE := Lib.hid (show inS s node = false by unfold inS; rw [decide_eq_true h0, decide_eq_false h6]; rfl)
      have h6d : decide (node < 64) = false := decide_eq_false h6
      go_enter Tryz.func44, Tryz.ntmps44
      go_wp2_with fail
      go_ret
      exact ⟨by rw [HE.out] <;> rfl, rfl⟩
  · have HE := Lib.hid (show inS s node = false by unfold inS; rw [decide_eq_false h0]; rfl)
    have h0d : decide (0 ≤ node) = false := decide_eq_false h0
    go_enter Tryz.func44, Tryz.ntmps44
    go_wp2_with fail
    go_ret
    exact ⟨by rw [HE.out] <;> rfl, rfl⟩
set_option maxRecDepth 100000 in
set_option maxHeartbeats 1000000 in
theorem inside_eq (A : Option Addr) (c : Nat) (base : List Nd) (s : Nat) (hs : s < 18446744073709551616) (hn : 1 ≤ base.length ∧ base.length ≤ 64) (w : World) :
    Calls Tryz.prog 38 #[.slice A base.length c, .int .u64 (s : Int)] w fun e w' => e = .returned (.bool (insideS base s)) ∧ w' = w := by
  have HE := Lib.hid (show insideS base s = decide (s < 2 ^ base.length) from rfl)
  have hb := inside_bits s base.length hs hn
  have hw : IntKind.i64.wrap (64 - (base.length : Int)) = 64 - (base.length : Int) := by rw [IntKind.wrap_i64]; omega
  have h0 : ¬ (64 - (base.length : Int) < 0) := by omega
  have h1 : min (64 - (base.length : Int)).toNat 64 = 64 - base.length := by omega
  go_enter Tryz.func38, Tryz.ntmps38
  go_wp2_with fail
  go_ret
  exact ⟨by rw [HE.out] <;> rfl, rfl⟩
section
variable {w : World} {b : Nat} {lg : Int} {base : List Nd} {steps : List Stp} {opps : List Int}
/-- The value of a step. -/
def Stp.val (x : Stp) (ur : Value) : Value := .agg #[.int .u64 (x.set : Int), .int .i64 x.rule, .int .i64 x.on, .int .i64 x.e, ur]
def onV (base : List Nd) (x : Stp) (op : Int) : Nd := bif onN base x op then nodeOn base x else Nd.zero
theorem inS_range {s : Nat} {i : Int} (h : inS s i = true) : 0 ≤ i ∧ i < 64 := by
  unfold inS at h
  simp only [Bool.and_eq_true, decide_eq_true_eq] at h
  exact ⟨h.1, h.2.1⟩
set_option maxRecDepth 100000 in
set_option maxHeartbeats 8000000 in
theorem on_any (h : SChk w b lg base steps opps) (x : Stp) (hx : x.set < 18446744073709551616) (ur : Value) (op : Int) :
    Calls Tryz.prog 54 #[.pointer (some ⟨b, 0, none⟩), x.val ur, .int .i64 op] w fun e w' => e = .returned (.tuple #[(onV base x op).val, .bool (onN base x op)]) ∧ Ext w w' := by
  obtain ⟨Ab, cb, As, cs, Ao, co, d0, d1, d2, d3, ⟨⟨A', c', e', hcap, hmax, hr⟩, _⟩, _, _⟩ := h.cells
  injection e' with e1 _ e2
  subst e1 e2
  unfold maxLen at hmax
  have hb := h.blt
  have HR := Lib.hid hr
  clear h hr
  obtain ⟨s, ru, on, e, fr⟩ := x
  unfold Stp.val
  simp only at hx ⊢
  obtain ⟨z0, z1, z2, z3, z4, zfr, zlt⟩ := cells5s (heap_alloc_new w (.cells #[.int .u64 (s : Int), .int .i64 ru, .int .i64 on, .int .i64 e, ur] 37))
  by_cases h1 : (base.length : Int) ≤ on
  · have HE := Lib.hid (show onN base ⟨s, ru, on, e, fr⟩ op = false by unfold onN; rw [decide_eq_true h1]; rfl)
    have HV := Lib.hid (show onV base ⟨s, ru, on, e, fr⟩ op = Nd.zero by unfold onV; rw [HE.out]; rfl)
    go_enter Tryz.func54, Tryz.ntmps54
    go_wp2_with fail
    refine wp_region_held_drew (S := fun w' => w'.cell? (⟨b, 1, none⟩) = some (.slice Ab base.length cb) ∧ w'.cell? (⟨w.heap.size, 0, none⟩) = some (.int .u64 (s : Int)) ∧ w'.cell? (⟨w.heap.size, 2, none⟩) = some (.int .i64 on)) (by kernel_rfl) ⟨xc hb d1, xc zlt z0, xc zlt z2⟩ (fun hHeld => ?_)
    refine tk 0 hHeld ?_
    refine tk 1 hHeld ?_
    refine tk 2 hHeld ?_
    refine tk 3 hHeld ?_
    refine tk 4 hHeld ?_
    refine tk 5 hHeld ?_
    refine tk 6 hHeld ?_
    refine tk 7 hHeld ?_
    refine tk 8 hHeld ?_
    refine tk 9 hHeld ?_
    refine un 10 hHeld ?_
    refine un 11 hHeld ?_
    refine un 12 hHeld ?_
    refine un 13 hHeld ?_
    refine un 14 hHeld ?_
    refine un 15 hHeld ?_
    refine tk 16 hHeld ?_
    refine tk 17 hHeld ?_
    refine un 18 hHeld ?_
    refine un 19 hHeld ?_
    refine un 20 hHeld ?_
    refine un 21 hHeld ?_
    refine un 22 hHeld ?_
    refine un 23 hHeld ?_
    refine un 24 hHeld ?_
    refine un 25 hHeld ?_
    refine un 26 hHeld ?_
    refine un 27 hHeld ?_
    refine un 28 hHeld ?_
    refine un 29 hHeld ?_
    refine tk 30 hHeld ?_
    refine wpAnyH_done (by kernel_rfl) ?_ _
    go_wp2_with fail
    exact bodyPost_ret (v := .tuple #[Nd.zero.val, .bool false]) (by simp [results, Tryz.results54, go_sem]; rfl) rfl ⟨by rw [HE.out, HV.out], by repeat (first | exact Ext.refl _ | assumption | apply Ext.alloc | apply Ext.drew)⟩
  · have h1d : decide ((base.length : Int) ≤ on) = false := decide_eq_false h1
    cases hin : inS s on
    · have HIN := Lib.hid hin
      have HE := Lib.hid (show onN base ⟨s, ru, on, e, fr⟩ op = false by unfold onN; rw [decide_eq_false h1]; simp only [hin]; rfl)
      have HV := Lib.hid (show onV base ⟨s, ru, on, e, fr⟩ op = Nd.zero by unfold onV; rw [HE.out]; rfl)
      clear hin
      go_enter Tryz.func54, Tryz.ntmps54
      go_wp2_with fail
      refine wp_region_held_drew (S := fun w' => w'.cell? (⟨b, 1, none⟩) = some (.slice Ab base.length cb) ∧ w'.cell? (⟨w.heap.size, 0, none⟩) = some (.int .u64 (s : Int)) ∧ w'.cell? (⟨w.heap.size, 2, none⟩) = some (.int .i64 on)) (by kernel_rfl) ⟨xc hb d1, xc zlt z0, xc zlt z2⟩ (fun hHeld => ?_)
      refine tk 0 hHeld ?_
      refine tk 1 hHeld ?_
      refine tk 2 hHeld ?_
      refine tk 3 hHeld ?_
      refine tk 4 hHeld ?_
      refine tk 5 hHeld ?_
      refine tk 6 hHeld ?_
      refine tk 7 hHeld ?_
      refine tk 8 hHeld ?_
      refine tk 9 hHeld ?_
      refine tk 10 hHeld ?_
      refine tk 11 hHeld ?_
      refine tk 12 hHeld ?_
      refine tk 13 hHeld ?_
      refine wpAnyH_ready (rs := [14]) (by kernel_rfl) (by simp) ?_
      refine AllReadyH.cons rfl (fun K hK => ?_) AllReadyH.nil
      go_simp
      (go_at_call 44; refine (in_eq s hx on _).mono ?_; rintro e w3 ⟨rfl, rfl⟩; rw [HIN.out])
      go_wp2_with fail
      refine hK.out _ _ ⟨xc hb d1, xc zlt z0, xc zlt z2⟩ (fun hHeld => ?_)
      clear hK K
      try simp only [Act.put, List.setIfInBounds_toArray, List.set_cons_zero, List.set_cons_succ, List.getElem_toArray, List.getElem_cons_succ, List.getElem_cons_zero]
      refine tk 15 hHeld ?_
      refine tk 16 hHeld ?_
      refine tk 17 hHeld ?_
      refine un 18 hHeld ?_
      refine un 19 hHeld ?_
      refine un 20 hHeld ?_
      refine un 21 hHeld ?_
      refine un 22 hHeld ?_
      refine un 23 hHeld ?_
      refine un 24 hHeld ?_
      refine un 25 hHeld ?_
      refine un 26 hHeld ?_
      refine un 27 hHeld ?_
      refine un 28 hHeld ?_
      refine un 29 hHeld ?_
      refine tk 30 hHeld ?_
      refine wpAnyH_done (by kernel_rfl) ?_ _
      go_wp2_with fail
      exact bodyPost_ret (v := .tuple #[Nd.zero.val, .bool false]) (by simp [results, Tryz.results54, go_sem]; rfl) rfl ⟨by rw [HE.out, HV.out], by repeat (first | exact Ext.refl _ | assumption | apply Ext.alloc | apply Ext.drew)⟩
    · obtain ⟨h00, h64⟩ := inS_range hin
      obtain ⟨k, rfl⟩ := Int.eq_ofNat_of_zero_le h00
      obtain ⟨n, hn⟩ : ∃ n, base[k]? = some n := ⟨_, List.getElem?_eq_getElem (by omega)⟩
      obtain ⟨ad, rfl, hblk, hcells⟩ := HR.out (by intro e; rw [e] at hn; simp at hn)
      obtain ⟨q0, q1, q2, q3, q4, q5⟩ := hcells k n hn
      have HIN := Lib.hid hin
      have HN := Lib.hid (show base.getD (k : Int).toNat Nd.zero = n by rw [Int.toNat_natCast, List.getD_eq_getElem?_getD, hn]; rfl)
      have hk1 : (k : Int) < (base.length : Int) := by omega
      have hk2 : decide (base.length ≤ k) = false := decide_eq_false (by omega)
      have hqb : (ad.add (k * 6)).block < w.heap.size := by rw [block_of_add]; exact hblk
      clear hin hcells hn
      cases hop : n.op != op
      · have HE := Lib.hid (show onN base ⟨s, ru, k, e, fr⟩ op = true by unfold onN; rw [decide_eq_false h1]; simp only [HIN.out, HN.out, hop]; rfl)
        have HV := Lib.hid (show onV base ⟨s, ru, k, e, fr⟩ op = n by unfold onV; rw [HE.out]; exact HN.out)
        go_enter Tryz.func54, Tryz.ntmps54
        go_wp2_with fail
        refine wp_region_held_drew (S := fun w' => w'.cell? (⟨b, 1, none⟩) = some (.slice (some ad) base.length cb) ∧ w'.cell? (⟨w.heap.size, 0, none⟩) = some (.int .u64 (s : Int)) ∧ w'.cell? (⟨w.heap.size, 2, none⟩) = some (.int .i64 (k : Int)) ∧ w'.cell? (ad.add (k * 6)) = some (.int .i64 n.op)) (by kernel_rfl) ⟨xc hb d1, xc zlt z0, xc zlt z2, xc hqb q0⟩ (fun hHeld => ?_)
        refine tk 0 hHeld ?_
        refine tk 1 hHeld ?_
        refine tk 2 hHeld ?_
        refine tk 3 hHeld ?_
        refine tk 4 hHeld ?_
        refine tk 5 hHeld ?_
        refine tk 6 hHeld ?_
        refine tk 7 hHeld ?_
        refine tk 8 hHeld ?_
        refine tk 9 hHeld ?_
        refine tk 10 hHeld ?_
        refine tk 11 hHeld ?_
        refine tk 12 hHeld ?_
        refine tk 13 hHeld ?_
        refine wpAnyH_ready (rs := [14]) (by kernel_rfl) (by simp) ?_
        refine AllReadyH.cons rfl (fun K hK => ?_) AllReadyH.nil
        go_simp
        (go_at_call 44; refine (in_eq s hx (k : Int) _).mono ?_; rintro e w3 ⟨rfl, rfl⟩; rw [HIN.out])
        go_wp2_with fail
        refine hK.out _ _ ⟨xc hb d1, xc zlt z0, xc zlt z2, xc hqb q0⟩ (fun hHeld => ?_)
        clear hK K
        try simp only [Act.put, List.setIfInBounds_toArray, List.set_cons_zero, List.set_cons_succ, List.getElem_toArray, List.getElem_cons_succ, List.getElem_cons_zero]
        refine tk 15 hHeld ?_
        refine tk 16 hHeld ?_
        refine tk 17 hHeld ?_
        refine tk 18 hHeld ?_
        refine tk 19 hHeld ?_
        refine tk 20 hHeld ?_
        refine tk 21 hHeld ?_
        refine tk 22 hHeld ?_
        refine tk 23 hHeld ?_
        refine tk 24 hHeld ?_
        refine tk 25 hHeld ?_
        refine tk 26 hHeld ?_
        refine tk 27 hHeld ?_
        refine tk 28 hHeld ?_
        refine tk 29 hHeld ?_
        refine tk 30 hHeld ?_
        refine wpAnyH_done (by kernel_rfl) ?_ _
        go_wp2_with fail
        refine wp_region_held_drew (S := fun w' => w'.cell? (⟨b, 1, none⟩) = some (.slice (some ad) base.length cb) ∧ w'.cell? (⟨w.heap.size, 0, none⟩) = some (.int .u64 (s : Int)) ∧ w'.cell? (⟨w.heap.size, 2, none⟩) = some (.int .i64 (k : Int)) ∧ w'.cell? (ad.add (k * 6)) = some (.int .i64 n.op) ∧ w'.cell? (⟨(ad.add (k * 6)).block, (ad.add (k * 6)).off + 1, none⟩) = some (.int .i64 n.i) ∧ w'.cell? (⟨(ad.add (k * 6)).block, (ad.add (k * 6)).off + 2, none⟩) = some (.int .i64 n.e) ∧ w'.cell? (⟨(ad.add (k * 6)).block, (ad.add (k * 6)).off + 3, none⟩) = some (.int .i64 n.g) ∧ w'.cell? (⟨(ad.add (k * 6)).block, (ad.add (k * 6)).off + 4, none⟩) = some (.int .i64 n.x) ∧ w'.cell? (⟨(ad.add (k * 6)).block, (ad.add (k * 6)).off + 5, none⟩) = some (.int .i64 n.y)) (by kernel_rfl) ⟨xc hb d1, xc zlt z0, xc zlt z2, xc hqb q0, xc hqb q1, xc hqb q2, xc hqb q3, xc hqb q4, xc hqb q5⟩ (fun hHeld => ?_)
        refine tk 0 hHeld ?_
        refine tk 1 hHeld ?_
        refine tk 2 hHeld ?_
        refine tk 3 hHeld ?_
        refine tk 4 hHeld ?_
        refine tk 5 hHeld ?_
        refine tk 6 hHeld ?_
        refine tk 7 hHeld ?_
        refine tk 8 hHeld ?_
        refine wpAnyH_ready (rs := [9]) (by kernel_rfl) (by simp) ?_
        refine AllReadyH.cons rfl (fun K hK => ?_) AllReadyH.nil
        go_simp
        refine hK.out _ _ ⟨xc hb d1, xc zlt z0, xc zlt z2, xc hqb q0, xc hqb q1, xc hqb q2, xc hqb q3, xc hqb q4, xc hqb q5⟩ (fun hHeld => ?_)
        clear hK K
        try simp only [Act.put, List.setIfInBounds_toArray, List.set_cons_zero, List.set_cons_succ, List.getElem_toArray, List.getElem_cons_succ, List.getElem_cons_zero]
        refine tk 10 hHeld ?_
        refine wpAnyH_done (by kernel_rfl) ?_ _
        go_wp2_with fail
        exact bodyPost_ret (v := .tuple #[n.val, .bool true]) (by simp [results, Tryz.results54, go_sem]; rfl) rfl ⟨by rw [HE.out, HV.out], by repeat (first | exact Ext.refl _ | assumption | apply Ext.alloc | apply Ext.drew)⟩
      · have HE := Lib.hid (show onN base ⟨s, ru, k, e, fr⟩ op = false by unfold onN; rw [decide_eq_false h1]; simp only [HIN.out, HN.out, hop]; rfl)
        have HV := Lib.hid (show onV base ⟨s, ru, k, e, fr⟩ op = Nd.zero by unfold onV; rw [HE.out]; rfl)
        go_enter Tryz.func54, Tryz.ntmps54
        go_wp2_with fail
        refine wp_region_held_drew (S := fun w' => w'.cell? (⟨b, 1, none⟩) = some (.slice (some ad) base.length cb) ∧ w'.cell? (⟨w.heap.size, 0, none⟩) = some (.int .u64 (s : Int)) ∧ w'.cell? (⟨w.heap.size, 2, none⟩) = some (.int .i64 (k : Int)) ∧ w'.cell? (ad.add (k * 6)) = some (.int .i64 n.op)) (by kernel_rfl) ⟨xc hb d1, xc zlt z0, xc zlt z2, xc hqb q0⟩ (fun hHeld => ?_)
        refine tk 0 hHeld ?_
        refine tk 1 hHeld ?_
        refine tk 2 hHeld ?_
        refine tk 3 hHeld ?_
        refine tk 4 hHeld ?_
        refine tk 5 hHeld ?_
        refine tk 6 hHeld ?_
        refine tk 7 hHeld ?_
        refine tk 8 hHeld ?_
        refine tk 9 hHeld ?_
        refine tk 10 hHeld ?_
        refine tk 11 hHeld ?_
        refine tk 12 hHeld ?_
        refine tk 13 hHeld ?_
        refine wpAnyH_ready (rs := [14]) (by kernel_rfl) (by simp) ?_
        refine AllReadyH.cons rfl (fun K hK => ?_) AllReadyH.nil
        go_simp
        (go_at_call 44; refine (in_eq s hx (k : Int) _).mono ?_; rintro e w3 ⟨rfl, rfl⟩; rw [HIN.out])
        go_wp2_with fail
        refine hK.out _ _ ⟨xc hb d1, xc zlt z0, xc zlt z2, xc hqb q0⟩ (fun hHeld => ?_)
        clear hK K
        try simp only [Act.put, List.setIfInBounds_toArray, List.set_cons_zero, List.set_cons_succ, List.getElem_toArray, List.getElem_cons_succ, List.getElem_cons_zero]
        refine tk 15 hHeld ?_
        refine tk 16 hHeld ?_
        refine tk 17 hHeld ?_
        refine tk 18 hHeld ?_
        refine tk 19 hHeld ?_
        refine tk 20 hHeld ?_
        refine tk 21 hHeld ?_
        refine tk 22 hHeld ?_
        refine tk 23 hHeld ?_
        refine tk 24 hHeld ?_
        refine tk 25 hHeld ?_
        refine tk 26 hHeld ?_
        refine tk 27 hHeld ?_
        refine tk 28 hHeld ?_
        refine tk 29 hHeld ?_
        refine tk 30 hHeld ?_
        refine wpAnyH_done (by kernel_rfl) ?_ _
        go_wp2_with fail
        exact bodyPost_ret (v := .tuple #[Nd.zero.val, .bool false]) (by simp [results, Tryz.results54, go_sem]; rfl) rfl ⟨by rw [HE.out, HV.out], by repeat (first | exact Ext.refl _ | assumption | apply Ext.alloc | apply Ext.drew)⟩
end
end Go.Proofs.YtfcmdiigfgbgbaaGreat
