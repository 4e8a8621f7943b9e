/- The reference's on and premise. -/
import Derived.Test.YtfcmdiigfgbgbaaGreatGP
import Derived.OrdersHeld
import Derived.Test.YtfcmdiigfgbgbaaGreatGF1

namespace Go.Proofs.YtfcmdiigfgbgbaaGreat
open Go.RowKit

def prem1 (steps : List Stp) (at_ k : Nat) (s : Nat) : Bool :=
  decide (0 ≤ (steps.getD at_ Stp.zero).from_.getD k 0) && (decide ((steps.getD at_ Stp.zero).from_.getD k 0 < (at_ : Int)) && subS (steps.getD ((steps.getD at_ Stp.zero).from_.getD k 0).toNat Stp.zero).set s)
theorem onN_no1 {base : List Nd} {x : Stp} {op : Int} (h : x.on < 0) : onN base x op = false := by
  unfold onN inS
  rw [decide_eq_false (show ¬ 0 ≤ x.on by omega)]
  simp
theorem onN_no2 {base : List Nd} {x : Stp} {op : Int} (h : (base.length : Int) ≤ x.on) : onN base x op = false := by
  unfold onN
  rw [decide_eq_true h]
  simp
theorem onN_no3 {base : List Nd} {x : Stp} {op : Int} (h : inS x.set x.on = false) : onN base x op = false := by
  unfold onN
  rw [h]
  simp
theorem onN_yes {base : List Nd} {x : Stp} {op : Int} {k : Nat} {n : Nd} (hk : x.on = k) (hn : base[k]? = some n) (h : inS x.set x.on = true) : onN base x op = (n.op == op) := by
  have hl := (List.getElem?_eq_some_iff.1 hn).1
  unfold onN
  rw [h, hk, Int.toNat_natCast, getD_of hn, decide_eq_false (show ¬ (base.length : Int) ≤ (k : Int) by omega)]
  cases hb : n.op == op <;> simp [bne, hb]
set_option maxRecDepth 100000 in
set_option maxHeartbeats 4000000 in
theorem ron_any {w : World} {lg : Int} {base : List Nd} {steps : List Stp} {Ab As : Option Addr} {cb cs : Nat} (hb : Fml w (.slice Ab base.length cb) base) (s : Nat) (hs : s < 18446744073709551616) (ru on e : Int) (fr : List Int) (Af : Option Addr) (cf : Nat) (op : Int) :
    Calls Tryz.prog 56 #[.agg #[.int .i64 lg, .slice Ab base.length cb, .slice As steps.length cs], .agg #[.int .u64 (s : Int), .int .i64 ru, .int .i64 on, .int .i64 e, .slice Af fr.length cf], .int .i64 op] w
      fun e' w' => e' = .returned (.bool (onN base ⟨s, ru, on, e, fr⟩ op)) ∧ Ext w w' := by
  obtain ⟨⟨A', c', e1, hcap, hmax, hread⟩, _⟩ := hb
  injection e1 with e1 _ e3
  subst e1 e3
  unfold maxLen at hmax
  have HREAD := Lib.hid hread
  clear hread
  have X0 := Lib.hid (show Ext w ((w.alloc (.cells #[.int .i64 lg, .slice Ab base.length cb, .slice As steps.length cs] 25)).alloc (.cells #[.int .u64 (s : Int), .int .i64 ru, .int .i64 on, .int .i64 e, .slice Af fr.length cf] 37)) from ((Ext.refl _).alloc _).alloc _)
  by_cases h0 : 0 ≤ on
  · obtain ⟨k, rfl⟩ := Int.eq_ofNat_of_zero_le h0
    by_cases h1 : k < base.length
    · obtain ⟨n, hn⟩ : ∃ n, base[k]? = some n := ⟨_, List.getElem?_eq_getElem h1⟩
      obtain ⟨ad, rfl, hblk, hc⟩ := HREAD.out (by intro e; rw [e] at h1; simp at h1)
      have q0 := (hc k n hn).1
      have q0 := (X0.out.cell (p := ad.add (k * 6)) (by rw [block_of_add]; exact hblk)).trans q0
      have h1i : (k : Int) < (base.length : Int) := by omega
      cases hin : inS s (k : Int)
      · have HIN := Lib.hid hin
        have HE := Lib.hid (onN_no3 (base := base) (x := ⟨s, ru, k, e, fr⟩) (op := op) hin)
        clear hin hn hc
        go_enter Tryz.func56, Tryz.ntmps56
        go_wp2_with (go_at_call 41; refine (rHas_any s hs (k : Int) _).mono ?_; rintro e5 w5 ⟨rfl, rfl⟩; rw [HIN.out])
        go_ret
        exact ⟨by rw [HE.out] <;> rfl, X0.out⟩
      · have HIN := Lib.hid hin
        have HE := Lib.hid (onN_yes (base := base) (x := ⟨s, ru, k, e, fr⟩) (op := op) rfl hn hin)
        clear hin hn hc
        cases ho : n.op == op
        · have HE2 := Lib.hid (HE.out.trans ho)
          go_enter Tryz.func56, Tryz.ntmps56
          go_wp2_with (go_at_call 41; refine (rHas_any s hs (k : Int) _).mono ?_; rintro e5 w5 ⟨rfl, rfl⟩; rw [HIN.out])
          go_ret
          exact ⟨by rw [HE2.out] <;> rfl, X0.out⟩
        · have HE2 := Lib.hid (HE.out.trans ho)
          go_enter Tryz.func56, Tryz.ntmps56
          go_wp2_with (go_at_call 41; refine (rHas_any s hs (k : Int) _).mono ?_; rintro e5 w5 ⟨rfl, rfl⟩; rw [HIN.out])
          go_ret
          exact ⟨by rw [HE2.out] <;> rfl, X0.out⟩
    · have HE := Lib.hid (onN_no2 (base := base) (x := ⟨s, ru, k, e, fr⟩) (op := op) (by show (base.length : Int) ≤ (k : Int); omega))
      have h1i : ¬ (k : Int) < (base.length : Int) := by omega
      have h1d : decide (k < base.length) = false := decide_eq_false h1
      go_enter Tryz.func56, Tryz.ntmps56
      go_wp2_with fail
      go_ret
      exact ⟨by rw [HE.out] <;> rfl, X0.out⟩
  · have HE := Lib.hid (onN_no1 (base := base) (x := ⟨s, ru, on, e, fr⟩) (op := op) (by show on < 0; omega))
    have h0d : decide (0 ≤ on) = false := decide_eq_false h0
    go_enter Tryz.func56, Tryz.ntmps56
    go_wp2_with fail
    go_ret
    exact ⟨by rw [HE.out] <;> rfl, X0.out⟩
theorem Sps.rows {w : World} {A : Option Addr} {c : Nat} {steps : List Stp} (h : Sps w (.slice A steps.length c) steps) (hn : steps ≠ []) :
    ∃ ad, A = some ad ∧ steps.length ≤ c ∧ c ≤ 9223372036854775807 ∧ ad.block < w.heap.size ∧ ∀ (i : Nat) (n : Stp), steps[i]? = some n → SpAt w (ad.add (i * 5)) n := by
  obtain ⟨A', c', e, h1, h2, h3⟩ := h
  injection e with e1 _ e3
  subst e1 e3
  obtain ⟨ad, rfl, hlt, hc⟩ := h3 hn
  unfold maxLen at h2
  exact ⟨ad, rfl, h1, by omega, hlt, hc⟩
theorem getD_some' {steps : List Stp} {i : Nat} {x : Stp} (h : steps[i]? = some x) : steps.getD i Stp.zero = x := by simp [List.getD, h]
theorem getD_int {l : List Int} {k : Nat} {j : Int} (h : l[k]? = some j) : l.getD k 0 = j := by simp [List.getD, h]
set_option maxRecDepth 100000 in
set_option maxHeartbeats 4000000 in
theorem rprem_any {w : World} {lg : Int} {base : List Nd} {steps : List Stp} {Ab As : Option Addr} {cb cs : Nat} (hst : Sps w (.slice As steps.length cs) steps) (at_ k : Nat) {x : Stp} (hx : steps[at_]? = some x) (hk : k < x.from_.length) (s : Nat) (hs : s < 18446744073709551616) :
    Calls Tryz.prog 57 #[.agg #[.int .i64 lg, .slice Ab base.length cb, .slice As steps.length cs], .int .i64 (at_ : Int), .int .i64 (k : Int), .int .u64 (s : Int)] w
      fun e' w' => e' = .returned (.bool (prem1 steps at_ k s)) ∧ Ext w w' := by
  have hat := (List.getElem?_eq_some_iff.1 hx).1
  obtain ⟨ad, rfl, hcap, hmax, hblk, hrow⟩ := hst.rows (by intro e; rw [e] at hx; cases hx)
  obtain ⟨j, hj⟩ : ∃ j, x.from_[k]? = some j := ⟨_, List.getElem?_eq_getElem hk⟩
  have HE := Lib.hid (show prem1 steps at_ k s = (decide (0 ≤ j) && (decide (j < (at_ : Int)) && subS (steps.getD j.toNat Stp.zero).set s)) by unfold prem1; rw [getD_some' hx, getD_int hj])
  have X0 := Lib.hid (show Ext w (w.alloc (.cells #[.int .i64 lg, .slice Ab base.length cb, .slice (some ad) steps.length cs] 25)) from (Ext.refl _).alloc _)
  obtain ⟨ur, q0, q1, q2, q3, q4, ⟨Af, cf, rfl, hf1, hf2, hf3⟩, hset⟩ := hrow at_ x hx
  obtain ⟨adf, rfl, hbf, hcf⟩ := hf3 (by intro e; rw [e] at hk; simp at hk)
  unfold maxLen at hf2
  have c0 := (X0.out.cell (p := adf.add k) (by rw [block_of_add]; exact hbf)).trans (hcf k j hj)
  have d4 := (X0.out.cell (p := ⟨(ad.add (at_ * 5)).block, (ad.add (at_ * 5)).off + 4, none⟩) (by show (ad.add (at_ * 5)).block < _; rw [block_of_add]; exact hblk)).trans q4
  have ha0 : (0 : Int) ≤ (at_ : Int) := by omega
  have ha1 : (at_ : Int) < (steps.length : Int) := by omega
  have hk0 : (0 : Int) ≤ (k : Int) := by omega
  have hk1 : (k : Int) < (x.from_.length : Int) := by omega
  have HROW := Lib.hid hrow
  clear hrow q0 q1 q2 q3 q4 hcf hx hj hf3
  by_cases h0 : 0 ≤ j
  · obtain ⟨i, rfl⟩ := Int.eq_ofNat_of_zero_le h0
    by_cases h1 : i < at_
    · obtain ⟨y, hy⟩ : ∃ y, steps[i]? = some y := ⟨_, List.getElem?_eq_getElem (show i < steps.length by omega)⟩
      have HE2 := Lib.hid (show prem1 steps at_ k s = subS y.set s by rw [HE.out, decide_eq_true h0, decide_eq_true (show (i : Int) < (at_ : Int) by omega), Int.toNat_natCast, getD_some' hy]; rfl)
      obtain ⟨ur2, y0, _, _, _, _, _, hset2⟩ := HROW.out i y hy
      have z0 := (X0.out.cell (p := ad.add (i * 5)) (by rw [block_of_add]; exact hblk)).trans y0
      have h1i : (i : Int) < (at_ : Int) := by omega
      have hi0 : (0 : Int) ≤ (i : Int) := by omega
      have hi1 : (i : Int) < (steps.length : Int) := by omega
      have HAN := Lib.hid (andNot_sub y.set s hset2 hs)
      clear y0 hy
      go_enter Tryz.func57, Tryz.ntmps57
      go_wp2_with fail
      go_ret
      exact ⟨by rw [HE2.out, ← HAN.out] <;> rfl, X0.out⟩
    · have HE2 := Lib.hid (show prem1 steps at_ k s = false by rw [HE.out, decide_eq_false (show ¬ (i : Int) < (at_ : Int) by omega)]; simp)
      have h1i : ¬ (i : Int) < (at_ : Int) := by omega
      have h1d : decide (i < at_) = false := decide_eq_false h1
      go_enter Tryz.func57, Tryz.ntmps57
      go_wp2_with fail
      go_ret
      exact ⟨by rw [HE2.out] <;> rfl, X0.out⟩
  · have HE2 := Lib.hid (show prem1 steps at_ k s = false by rw [HE.out, decide_eq_false h0]; rfl)
    have h0d : decide (0 ≤ j) = false := decide_eq_false h0
    go_enter Tryz.func57, Tryz.ntmps57
    go_wp2_with fail
    go_ret
    exact ⟨by rw [HE2.out] <;> rfl, X0.out⟩
end Go.Proofs.YtfcmdiigfgbgbaaGreat

/- The reference's closes. -/

namespace Go.Proofs.YtfcmdiigfgbgbaaGreat
open Go.RowKit

def closesQ (base : List Nd) (x : Stp) : Bool :=
  bif decide (x.from_.length = 0) then (bif onN base x 2 && x.e == 0 then true else inS x.set x.on && (decide (x.on < (base.length : Int)) && (inS x.set x.e && NegationN base x.on == x.e))) else false
set_option maxRecDepth 100000 in
set_option maxHeartbeats 16000000 in
theorem rcloses_any {w : World} {lg : Int} {base : List Nd} {steps : List Stp} {Ab As : Option Addr} {cb cs : Nat} (hb : Fml w (.slice Ab base.length cb) base) (s : Nat) (hs : s < 18446744073709551616) (ru on e : Int) (fr : List Int) (Af : Option Addr) (cf : Nat) :
    Calls Tryz.prog 55 #[.agg #[.int .i64 lg, .slice Ab base.length cb, .slice As steps.length cs], .agg #[.int .u64 (s : Int), .int .i64 ru, .int .i64 on, .int .i64 e, .slice Af fr.length cf]] w fun e' w' => e' = .returned (.bool (closesQ base ⟨s, ru, on, e, fr⟩)) ∧ Ext w w' := by
  have H := Lib.hid hb
  clear hb
  have X0 := Lib.hid (show Ext w ((w.alloc (.cells #[.int .i64 lg, .slice Ab base.length cb, .slice As steps.length cs] 25)).alloc (.cells #[.int .u64 (s : Int), .int .i64 ru, .int .i64 on, .int .i64 e, .slice Af fr.length cf] 37)) from ((Ext.refl _).alloc _).alloc _)
  have Z := Lib.hid (show (((w.alloc (.cells #[.int .i64 lg, .slice Ab base.length cb, .slice As steps.length cs] 25)).alloc (.cells #[.int .u64 (s : Int), .int .i64 ru, .int .i64 on, .int .i64 e, .slice Af fr.length cf] 37)).cell? ⟨w.heap.size, 1, none⟩ = some (.slice Ab base.length cb) ∧ ((w.alloc (.cells #[.int .i64 lg, .slice Ab base.length cb, .slice As steps.length cs] 25)).alloc (.cells #[.int .u64 (s : Int), .int .i64 ru, .int .i64 on, .int .i64 e, .slice Af fr.length cf] 37)).cell? ⟨w.heap.size + 1, 0, none⟩ = some (.int .u64 (s : Int)) ∧ ((w.alloc (.cells #[.int .i64 lg, .slice Ab base.length cb, .slice As steps.length cs] 25)).alloc (.cells #[.int .u64 (s : Int), .int .i64 ru, .int .i64 on, .int .i64 e, .slice Af fr.length cf] 37)).cell? ⟨w.heap.size + 1, 2, none⟩ = some (.int .i64 on) ∧ ((w.alloc (.cells #[.int .i64 lg, .slice Ab base.length cb, .slice As steps.length cs] 25)).alloc (.cells #[.int .u64 (s : Int), .int .i64 ru, .int .i64 on, .int .i64 e, .slice Af fr.length cf] 37)).cell? ⟨w.heap.size + 1, 3, none⟩ = some (.int .i64 e)) from by
    have hA : ((w.alloc (.cells #[.int .i64 lg, .slice Ab base.length cb, .slice As steps.length cs] 25)).alloc (.cells #[.int .u64 (s : Int), .int .i64 ru, .int .i64 on, .int .i64 e, .slice Af fr.length cf] 37)).heap[w.heap.size]? = some (.cells #[.int .i64 lg, .slice Ab base.length cb, .slice As steps.length cs] 25 (0, 0)) := (((Ext.refl _).alloc _).block (by simp)).trans (heap_alloc_new _ _)
    have hB : ((w.alloc (.cells #[.int .i64 lg, .slice Ab base.length cb, .slice As steps.length cs] 25)).alloc (.cells #[.int .u64 (s : Int), .int .i64 ru, .int .i64 on, .int .i64 e, .slice Af fr.length cf] 37)).heap[w.heap.size + 1]? = some (.cells #[.int .u64 (s : Int), .int .i64 ru, .int .i64 on, .int .i64 e, .slice Af fr.length cf] 37 (0, 0)) := by
      have := heap_alloc_new (w.alloc (.cells #[.int .i64 lg, .slice Ab base.length cb, .slice As steps.length cs] 25)) (.cells #[.int .u64 (s : Int), .int .i64 ru, .int .i64 on, .int .i64 e, .slice Af fr.length cf] 37)
      simpa using this
    exact ⟨cell_block hA rfl, cell_block hB rfl, cell_block hB rfl, cell_block hB rfl⟩)
  have ZLT := Lib.hid (show w.heap.size < ((w.alloc (.cells #[.int .i64 lg, .slice Ab base.length cb, .slice As steps.length cs] 25)).alloc (.cells #[.int .u64 (s : Int), .int .i64 ru, .int .i64 on, .int .i64 e, .slice Af fr.length cf] 37)).heap.size ∧ w.heap.size + 1 < ((w.alloc (.cells #[.int .i64 lg, .slice Ab base.length cb, .slice As steps.length cs] 25)).alloc (.cells #[.int .u64 (s : Int), .int .i64 ru, .int .i64 on, .int .i64 e, .slice Af fr.length cf] 37)).heap.size from by simp <;> omega)
  by_cases hf : fr.length = 0
  · have hf0 := hf
    have HFR := Lib.hid hf
    have hfi : ((fr.length : Int) == 0) = true := by rw [hf]; rfl
    have hfb : ((fr.length : Int) != 0) = false := by rw [hf]; rfl
    cases hon : onN base ⟨s, ru, on, e, fr⟩ 2
    · have HON := Lib.hid hon
      have HC := Lib.hid (show closesQ base ⟨s, ru, on, e, fr⟩ = (inS s on && (decide (on < (base.length : Int)) && (inS s e && NegationN base on == e))) by unfold closesQ; rw [decide_eq_true hf, hon]; rfl)
      clear hon hf hf0
      cases h1 : inS s on
      · have H1 := Lib.hid h1
        have HE := Lib.hid (show closesQ base ⟨s, ru, on, e, fr⟩ = false by rw [HC.out, h1]; rfl)
        clear h1
        go_enter Tryz.func55, Tryz.ntmps55
        go_wp2_with fail
        refine (ron_any (lg := lg) (steps := steps) (As := As) (cs := cs) (H.out.ext X0.out) s hs ru on e fr Af cf 2).mono ?_
        rintro e1 w1 ⟨rfl, hx⟩
        rw [HON.out]
        have Y1 := Lib.hid (X0.out.trans hx)
        have n1 := (hx.cell (p := ⟨w.heap.size, 1, none⟩) ZLT.out.1).trans Z.out.1
        have m0 := (hx.cell (p := ⟨w.heap.size + 1, 0, none⟩) ZLT.out.2).trans Z.out.2.1
        have m2 := (hx.cell (p := ⟨w.heap.size + 1, 2, none⟩) ZLT.out.2).trans Z.out.2.2.1
        have m3 := (hx.cell (p := ⟨w.heap.size + 1, 3, none⟩) ZLT.out.2).trans Z.out.2.2.2
        have nlt := Nat.lt_of_lt_of_le ZLT.out.1 hx.size
        have mlt := Nat.lt_of_lt_of_le ZLT.out.2 hx.size
        clear hx
        go_wp2_with fail
        refine wp_region_held_drew (S := fun w' => w'.cell? (⟨w.heap.size, 1, none⟩) = some (.slice Ab base.length cb) ∧ w'.cell? (⟨w.heap.size + 1, 0, none⟩) = some (.int .u64 (s : Int)) ∧ w'.cell? (⟨w.heap.size + 1, 2, none⟩) = some (.int .i64 on) ∧ w'.cell? (⟨w.heap.size + 1, 3, none⟩) = some (.int .i64 e)) (by kernel_rfl) ⟨xc nlt n1, xc mlt m0, xc mlt m2, xc mlt m3⟩ (fun hHeld => ?_)
        refine tk 0 hHeld ?_
        refine tk 1 hHeld ?_
        refine tk 2 hHeld ?_
        refine tk 3 hHeld ?_
        refine wpAnyH_ready (rs := [4]) (by kernel_rfl) (by simp) ?_
        refine AllReadyH.cons rfl (fun K hK => ?_) AllReadyH.nil
        go_simp
        (go_at_call 41; refine (rHas_any s hs on _).mono ?_; rintro e2 w2 ⟨rfl, rfl⟩; rw [H1.out])
        go_wp2_with fail
        refine hK.out _ _ ⟨xc nlt n1, xc mlt m0, xc mlt m2, xc mlt m3⟩ (fun hHeld => ?_)
        clear hK K
        try simp only [Act.put, List.setIfInBounds_toArray, List.set_cons_zero, List.set_cons_succ, List.getElem_toArray, List.getElem_cons_succ, List.getElem_cons_zero]
        refine tk 5 hHeld ?_
        refine un 6 hHeld ?_
        refine un 7 hHeld ?_
        refine un 8 hHeld ?_
        refine un 9 hHeld ?_
        refine un 10 hHeld ?_
        refine un 11 hHeld ?_
        refine tk 12 hHeld ?_
        refine tk 13 hHeld ?_
        refine un 14 hHeld ?_
        refine un 15 hHeld ?_
        refine un 16 hHeld ?_
        refine un 17 hHeld ?_
        refine un 18 hHeld ?_
        refine tk 19 hHeld ?_
        refine tk 20 hHeld ?_
        refine un 21 hHeld ?_
        refine un 22 hHeld ?_
        refine un 23 hHeld ?_
        refine un 24 hHeld ?_
        refine un 25 hHeld ?_
        refine un 26 hHeld ?_
        refine un 27 hHeld ?_
        refine un 28 hHeld ?_
        refine tk 29 hHeld ?_
        refine tk 30 hHeld ?_
        refine wpAnyH_done (by kernel_rfl) ?_ _
        go_wp2_with fail
        go_ret
        exact ⟨by rw [HE.out] <;> rfl, Y1.out.trans xw⟩
      · have H1 := Lib.hid h1
        by_cases h2 : on < (base.length : Int)
        · have h2d : decide (on < (base.length : Int)) = true := decide_eq_true h2
          cases h3 : inS s e
          · have H3 := Lib.hid h3
            have HE := Lib.hid (show closesQ base ⟨s, ru, on, e, fr⟩ = false by rw [HC.out, h1, h2d, h3]; rfl)
            clear h1 h3
            go_enter Tryz.func55, Tryz.ntmps55
            go_wp2_with fail
            refine (ron_any (lg := lg) (steps := steps) (As := As) (cs := cs) (H.out.ext X0.out) s hs ru on e fr Af cf 2).mono ?_
            rintro e1 w1 ⟨rfl, hx⟩
            rw [HON.out]
            have Y1 := Lib.hid (X0.out.trans hx)
            have n1 := (hx.cell (p := ⟨w.heap.size, 1, none⟩) ZLT.out.1).trans Z.out.1
            have m0 := (hx.cell (p := ⟨w.heap.size + 1, 0, none⟩) ZLT.out.2).trans Z.out.2.1
            have m2 := (hx.cell (p := ⟨w.heap.size + 1, 2, none⟩) ZLT.out.2).trans Z.out.2.2.1
            have m3 := (hx.cell (p := ⟨w.heap.size + 1, 3, none⟩) ZLT.out.2).trans Z.out.2.2.2
            have nlt := Nat.lt_of_lt_of_le ZLT.out.1 hx.size
            have mlt := Nat.lt_of_lt_of_le ZLT.out.2 hx.size
            clear hx
            go_wp2_with fail
            refine wp_region_held_drew (S := fun w' => w'.cell? (⟨w.heap.size, 1, none⟩) = some (.slice Ab base.length cb) ∧ w'.cell? (⟨w.heap.size + 1, 0, none⟩) = some (.int .u64 (s : Int)) ∧ w'.cell? (⟨w.heap.size + 1, 2, none⟩) = some (.int .i64 on) ∧ w'.cell? (⟨w.heap.size + 1, 3, none⟩) = some (.int .i64 e)) (by kernel_rfl) ⟨xc nlt n1, xc mlt m0, xc mlt m2, xc mlt m3⟩ (fun hHeld => ?_)
            refine tk 0 hHeld ?_
            refine tk 1 hHeld ?_
            refine tk 2 hHeld ?_
            refine tk 3 hHeld ?_
            refine wpAnyH_ready (rs := [4]) (by kernel_rfl) (by simp) ?_
            refine AllReadyH.cons rfl (fun K hK => ?_) AllReadyH.nil
            go_simp
            (go_at_call 41; refine (rHas_any s hs on _).mono ?_; rintro e2 w2 ⟨rfl, rfl⟩; rw [H1.out])
            go_wp2_with fail
            refine hK.out _ _ ⟨xc nlt n1, xc mlt m0, xc mlt m2, xc mlt m3⟩ (fun hHeld => ?_)
            clear hK K
            try simp only [Act.put, List.setIfInBounds_toArray, List.set_cons_zero, List.set_cons_succ, List.getElem_toArray, List.getElem_cons_succ, List.getElem_cons_zero]
            refine tk 5 hHeld ?_
            refine tk 6 hHeld ?_
            refine tk 7 hHeld ?_
            refine tk 8 hHeld ?_
            refine tk 9 hHeld ?_
            refine tk 10 hHeld ?_
            refine tk 11 hHeld ?_
            refine tk 12 hHeld ?_
            refine tk 13 hHeld ?_
            refine tk 14 hHeld ?_
            refine tk 15 hHeld ?_
            refine tk 16 hHeld ?_
            refine tk 17 hHeld ?_
            refine wpAnyH_ready (rs := [18]) (by kernel_rfl) (by simp) ?_
            refine AllReadyH.cons rfl (fun K hK => ?_) AllReadyH.nil
            go_simp
            (go_at_call 41; refine (rHas_any s hs e _).mono ?_; rintro e2 w2 ⟨rfl, rfl⟩; rw [H3.out])
            go_wp2_with fail
            refine hK.out _ _ ⟨xc nlt n1, xc mlt m0, xc mlt m2, xc mlt m3⟩ (fun hHeld => ?_)
            clear hK K
            try simp only [Act.put, List.setIfInBounds_toArray, List.set_cons_zero, List.set_cons_succ, List.getElem_toArray, List.getElem_cons_succ, List.getElem_cons_zero]
            refine tk 19 hHeld ?_
            refine tk 20 hHeld ?_
            refine un 21 hHeld ?_
            refine un 22 hHeld ?_
            refine un 23 hHeld ?_
            refine un 24 hHeld ?_
            refine un 25 hHeld ?_
            refine un 26 hHeld ?_
            refine un 27 hHeld ?_
            refine un 28 hHeld ?_
            refine tk 29 hHeld ?_
            refine tk 30 hHeld ?_
            refine wpAnyH_done (by kernel_rfl) ?_ _
            go_wp2_with fail
            go_ret
            exact ⟨by rw [HE.out] <;> rfl, Y1.out.trans xw⟩
          · have H3 := Lib.hid h3
            have HE := Lib.hid (show closesQ base ⟨s, ru, on, e, fr⟩ = (NegationN base on == e) by rw [HC.out, h1, h2d, h3]; rfl)
            clear h1 h3
            go_enter Tryz.func55, Tryz.ntmps55
            go_wp2_with fail
            refine (ron_any (lg := lg) (steps := steps) (As := As) (cs := cs) (H.out.ext X0.out) s hs ru on e fr Af cf 2).mono ?_
            rintro e1 w1 ⟨rfl, hx⟩
            rw [HON.out]
            have Y1 := Lib.hid (X0.out.trans hx)
            have n1 := (hx.cell (p := ⟨w.heap.size, 1, none⟩) ZLT.out.1).trans Z.out.1
            have m0 := (hx.cell (p := ⟨w.heap.size + 1, 0, none⟩) ZLT.out.2).trans Z.out.2.1
            have m2 := (hx.cell (p := ⟨w.heap.size + 1, 2, none⟩) ZLT.out.2).trans Z.out.2.2.1
            have m3 := (hx.cell (p := ⟨w.heap.size + 1, 3, none⟩) ZLT.out.2).trans Z.out.2.2.2
            have nlt := Nat.lt_of_lt_of_le ZLT.out.1 hx.size
            have mlt := Nat.lt_of_lt_of_le ZLT.out.2 hx.size
            clear hx
            go_wp2_with fail
            refine wp_region_held_drew (S := fun w' => w'.cell? (⟨w.heap.size, 1, none⟩) = some (.slice Ab base.length cb) ∧ w'.cell? (⟨w.heap.size + 1, 0, none⟩) = some (.int .u64 (s : Int)) ∧ w'.cell? (⟨w.heap.size + 1, 2, none⟩) = some (.int .i64 on) ∧ w'.cell? (⟨w.heap.size + 1, 3, none⟩) = some (.int .i64 e)) (by kernel_rfl) ⟨xc nlt n1, xc mlt m0, xc mlt m2, xc mlt m3⟩ (fun hHeld => ?_)
            refine tk 0 hHeld ?_
            refine tk 1 hHeld ?_
            refine tk 2 hHeld ?_
            refine tk 3 hHeld ?_
            refine wpAnyH_ready (rs := [4]) (by kernel_rfl) (by simp) ?_
            refine AllReadyH.cons rfl (fun K hK => ?_) AllReadyH.nil
            go_simp
            (go_at_call 41; refine (rHas_any s hs on _).mono ?_; rintro e2 w2 ⟨rfl, rfl⟩; rw [H1.out])
            go_wp2_with fail
            refine hK.out _ _ ⟨xc nlt n1, xc mlt m0, xc mlt m2, xc mlt m3⟩ (fun hHeld => ?_)
            clear hK K
            try simp only [Act.put, List.setIfInBounds_toArray, List.set_cons_zero, List.set_cons_succ, List.getElem_toArray, List.getElem_cons_succ, List.getElem_cons_zero]
            refine tk 5 hHeld ?_
            refine tk 6 hHeld ?_
            refine tk 7 hHeld ?_
            refine tk 8 hHeld ?_
            refine tk 9 hHeld ?_
            refine tk 10 hHeld ?_
            refine tk 11 hHeld ?_
            refine tk 12 hHeld ?_
            refine tk 13 hHeld ?_
            refine tk 14 hHeld ?_
            refine tk 15 hHeld ?_
            refine tk 16 hHeld ?_
            refine tk 17 hHeld ?_
            refine wpAnyH_ready (rs := [18]) (by kernel_rfl) (by simp) ?_
            refine AllReadyH.cons rfl (fun K hK => ?_) AllReadyH.nil
            go_simp
            (go_at_call 41; refine (rHas_any s hs e _).mono ?_; rintro e2 w2 ⟨rfl, rfl⟩; rw [H3.out])
            go_wp2_with fail
            refine hK.out _ _ ⟨xc nlt n1, xc mlt m0, xc mlt m2, xc mlt m3⟩ (fun hHeld => ?_)
            clear hK K
            try simp only [Act.put, List.setIfInBounds_toArray, List.set_cons_zero, List.set_cons_succ, List.getElem_toArray, List.getElem_cons_succ, List.getElem_cons_zero]
            refine tk 19 hHeld ?_
            refine tk 20 hHeld ?_
            refine tk 21 hHeld ?_
            refine tk 22 hHeld ?_
            refine tk 23 hHeld ?_
            refine tk 24 hHeld ?_
            refine tk 26 hHeld ?_
            refine tk 27 hHeld ?_
            refine wpAnyH_ready (rs := [25]) (by kernel_rfl) (by simp) ?_
            refine AllReadyH.cons rfl (fun K hK => ?_) AllReadyH.nil
            go_simp
            (go_at_call 12; refine (rNegation_any _ base on _ (H.out.ext (Y1.out.trans xw))).mono ?_; rintro e2 w6 ⟨rfl, hv⟩; have hx6 : Ext w1 w6 := xt hv; clear hv)
            go_wp2_with fail
            refine hK.out _ _ ⟨xc nlt n1, xc mlt m0, xc mlt m2, xc mlt m3⟩ (fun hHeld => ?_)
            clear hK K
            try simp only [Act.put, List.setIfInBounds_toArray, List.set_cons_zero, List.set_cons_succ, List.getElem_toArray, List.getElem_cons_succ, List.getElem_cons_zero]
            refine tk 28 hHeld ?_
            refine tk 29 hHeld ?_
            refine tk 30 hHeld ?_
            refine wpAnyH_done (by kernel_rfl) ?_ _
            go_wp2_with fail
            go_ret
            exact ⟨by rw [HE.out] <;> rfl, Y1.out.trans xw⟩
        · have h2d : decide (on < (base.length : Int)) = false := decide_eq_false h2
          have HE := Lib.hid (show closesQ base ⟨s, ru, on, e, fr⟩ = false by rw [HC.out, h1, h2d]; rfl)
          clear h1
          go_enter Tryz.func55, Tryz.ntmps55
          go_wp2_with fail
          refine (ron_any (lg := lg) (steps := steps) (As := As) (cs := cs) (H.out.ext X0.out) s hs ru on e fr Af cf 2).mono ?_
          rintro e1 w1 ⟨rfl, hx⟩
          rw [HON.out]
          have Y1 := Lib.hid (X0.out.trans hx)
          have n1 := (hx.cell (p := ⟨w.heap.size, 1, none⟩) ZLT.out.1).trans Z.out.1
          have m0 := (hx.cell (p := ⟨w.heap.size + 1, 0, none⟩) ZLT.out.2).trans Z.out.2.1
          have m2 := (hx.cell (p := ⟨w.heap.size + 1, 2, none⟩) ZLT.out.2).trans Z.out.2.2.1
          have m3 := (hx.cell (p := ⟨w.heap.size + 1, 3, none⟩) ZLT.out.2).trans Z.out.2.2.2
          have nlt := Nat.lt_of_lt_of_le ZLT.out.1 hx.size
          have mlt := Nat.lt_of_lt_of_le ZLT.out.2 hx.size
          clear hx
          go_wp2_with fail
          refine wp_region_held_drew (S := fun w' => w'.cell? (⟨w.heap.size, 1, none⟩) = some (.slice Ab base.length cb) ∧ w'.cell? (⟨w.heap.size + 1, 0, none⟩) = some (.int .u64 (s : Int)) ∧ w'.cell? (⟨w.heap.size + 1, 2, none⟩) = some (.int .i64 on) ∧ w'.cell? (⟨w.heap.size + 1, 3, none⟩) = some (.int .i64 e)) (by kernel_rfl) ⟨xc nlt n1, xc mlt m0, xc mlt m2, xc mlt m3⟩ (fun hHeld => ?_)
          refine tk 0 hHeld ?_
          refine tk 1 hHeld ?_
          refine tk 2 hHeld ?_
          refine tk 3 hHeld ?_
          refine wpAnyH_ready (rs := [4]) (by kernel_rfl) (by simp) ?_
          refine AllReadyH.cons rfl (fun K hK => ?_) AllReadyH.nil
          go_simp
          (go_at_call 41; refine (rHas_any s hs on _).mono ?_; rintro e2 w2 ⟨rfl, rfl⟩; rw [H1.out])
          go_wp2_with fail
          refine hK.out _ _ ⟨xc nlt n1, xc mlt m0, xc mlt m2, xc mlt m3⟩ (fun hHeld => ?_)
          clear hK K
          try simp only [Act.put, List.setIfInBounds_toArray, List.set_cons_zero, List.set_cons_succ, List.getElem_toArray, List.getElem_cons_succ, List.getElem_cons_zero]
          refine tk 5 hHeld ?_
          refine tk 6 hHeld ?_
          refine tk 7 hHeld ?_
          refine tk 8 hHeld ?_
          refine tk 9 hHeld ?_
          refine tk 10 hHeld ?_
          refine tk 11 hHeld ?_
          refine tk 12 hHeld ?_
          refine tk 13 hHeld ?_
          refine un 14 hHeld ?_
          refine un 15 hHeld ?_
          refine un 16 hHeld ?_
          refine un 17 hHeld ?_
          refine un 18 hHeld ?_
          refine tk 19 hHeld ?_
          refine tk 20 hHeld ?_
          refine un 21 hHeld ?_
          refine un 22 hHeld ?_
          refine un 23 hHeld ?_
          refine un 24 hHeld ?_
          refine un 25 hHeld ?_
          refine un 26 hHeld ?_
          refine un 27 hHeld ?_
          refine un 28 hHeld ?_
          refine tk 29 hHeld ?_
          refine tk 30 hHeld ?_
          refine wpAnyH_done (by kernel_rfl) ?_ _
          go_wp2_with fail
          go_ret
          exact ⟨by rw [HE.out] <;> rfl, Y1.out.trans xw⟩
    · have HON := Lib.hid hon
      by_cases he : e = 0
      · have HE := Lib.hid (show closesQ base ⟨s, ru, on, e, fr⟩ = true by unfold closesQ; rw [decide_eq_true hf, hon, he]; rfl)
        have heb : (e == 0) = true := by simpa using he
        clear hon hf hf0 he
        go_enter Tryz.func55, Tryz.ntmps55
        go_wp2_with fail
        refine (ron_any (lg := lg) (steps := steps) (As := As) (cs := cs) (H.out.ext X0.out) s hs ru on e fr Af cf 2).mono ?_
        rintro e1 w1 ⟨rfl, hx⟩
        rw [HON.out]
        have Y1 := Lib.hid (X0.out.trans hx)
        have n1 := (hx.cell (p := ⟨w.heap.size, 1, none⟩) ZLT.out.1).trans Z.out.1
        have m0 := (hx.cell (p := ⟨w.heap.size + 1, 0, none⟩) ZLT.out.2).trans Z.out.2.1
        have m2 := (hx.cell (p := ⟨w.heap.size + 1, 2, none⟩) ZLT.out.2).trans Z.out.2.2.1
        have m3 := (hx.cell (p := ⟨w.heap.size + 1, 3, none⟩) ZLT.out.2).trans Z.out.2.2.2
        have nlt := Nat.lt_of_lt_of_le ZLT.out.1 hx.size
        have mlt := Nat.lt_of_lt_of_le ZLT.out.2 hx.size
        clear hx
        go_wp2_with fail
        go_ret
        exact ⟨by rw [HE.out] <;> rfl, Y1.out⟩
      · have heb : (e == 0) = false := by simpa using he
        have HC := Lib.hid (show closesQ base ⟨s, ru, on, e, fr⟩ = (inS s on && (decide (on < (base.length : Int)) && (inS s e && NegationN base on == e))) by unfold closesQ; rw [decide_eq_true hf, hon]; simp only [heb]; rfl)
        clear hon hf hf0 he
        cases h1 : inS s on
        · have H1 := Lib.hid h1
          have HE := Lib.hid (show closesQ base ⟨s, ru, on, e, fr⟩ = false by rw [HC.out, h1]; rfl)
          clear h1
          go_enter Tryz.func55, Tryz.ntmps55
          go_wp2_with fail
          refine (ron_any (lg := lg) (steps := steps) (As := As) (cs := cs) (H.out.ext X0.out) s hs ru on e fr Af cf 2).mono ?_
          rintro e1 w1 ⟨rfl, hx⟩
          rw [HON.out]
          have Y1 := Lib.hid (X0.out.trans hx)
          have n1 := (hx.cell (p := ⟨w.heap.size, 1, none⟩) ZLT.out.1).trans Z.out.1
          have m0 := (hx.cell (p := ⟨w.heap.size + 1, 0, none⟩) ZLT.out.2).trans Z.out.2.1
          have m2 := (hx.cell (p := ⟨w.heap.size + 1, 2, none⟩) ZLT.out.2).trans Z.out.2.2.1
          have m3 := (hx.cell (p := ⟨w.heap.size + 1, 3, none⟩) ZLT.out.2).trans Z.out.2.2.2
          have nlt := Nat.lt_of_lt_of_le ZLT.out.1 hx.size
          have mlt := Nat.lt_of_lt_of_le ZLT.out.2 hx.size
          clear hx
          go_wp2_with fail
          refine wp_region_held_drew (S := fun w' => w'.cell? (⟨w.heap.size, 1, none⟩) = some (.slice Ab base.length cb) ∧ w'.cell? (⟨w.heap.size + 1, 0, none⟩) = some (.int .u64 (s : Int)) ∧ w'.cell? (⟨w.heap.size + 1, 2, none⟩) = some (.int .i64 on) ∧ w'.cell? (⟨w.heap.size + 1, 3, none⟩) = some (.int .i64 e)) (by kernel_rfl) ⟨xc nlt n1, xc mlt m0, xc mlt m2, xc mlt m3⟩ (fun hHeld => ?_)
          refine tk 0 hHeld ?_
          refine tk 1 hHeld ?_
          refine tk 2 hHeld ?_
          refine tk 3 hHeld ?_
          refine wpAnyH_ready (rs := [4]) (by kernel_rfl) (by simp) ?_
          refine AllReadyH.cons rfl (fun K hK => ?_) AllReadyH.nil
          go_simp
          (go_at_call 41; refine (rHas_any s hs on _).mono ?_; rintro e2 w2 ⟨rfl, rfl⟩; rw [H1.out])
          go_wp2_with fail
          refine hK.out _ _ ⟨xc nlt n1, xc mlt m0, xc mlt m2, xc mlt m3⟩ (fun hHeld => ?_)
          clear hK K
          try simp only [Act.put, List.setIfInBounds_toArray, List.set_cons_zero, List.set_cons_succ, List.getElem_toArray, List.getElem_cons_succ, List.getElem_cons_zero]
          refine tk 5 hHeld ?_
          refine un 6 hHeld ?_
          refine un 7 hHeld ?_
          refine un 8 hHeld ?_
          refine un 9 hHeld ?_
          refine un 10 hHeld ?_
          refine un 11 hHeld ?_
          refine tk 12 hHeld ?_
          refine tk 13 hHeld ?_
          refine un 14 hHeld ?_
          refine un 15 hHeld ?_
          refine un 16 hHeld ?_
          refine un 17 hHeld ?_
          refine un 18 hHeld ?_
          refine tk 19 hHeld ?_
          refine tk 20 hHeld ?_
          refine un 21 hHeld ?_
          refine un 22 hHeld ?_
          refine un 23 hHeld ?_
          refine un 24 hHeld ?_
          refine un 25 hHeld ?_
          refine un 26 hHeld ?_
          refine un 27 hHeld ?_
          refine un 28 hHeld ?_
          refine tk 29 hHeld ?_
          refine tk 30 hHeld ?_
          refine wpAnyH_done (by kernel_rfl) ?_ _
          go_wp2_with fail
          go_ret
          exact ⟨by rw [HE.out] <;> rfl, Y1.out.trans xw⟩
        · have H1 := Lib.hid h1
          by_cases h2 : on < (base.length : Int)
          · have h2d : decide (on < (base.length : Int)) = true := decide_eq_true h2
            cases h3 : inS s e
            · have H3 := Lib.hid h3
              have HE := Lib.hid (show closesQ base ⟨s, ru, on, e, fr⟩ = false by rw [HC.out, h1, h2d, h3]; rfl)
              clear h1 h3
              go_enter Tryz.func55, Tryz.ntmps55
              go_wp2_with fail
              refine (ron_any (lg := lg) (steps := steps) (As := As) (cs := cs) (H.out.ext X0.out) s hs ru on e fr Af cf 2).mono ?_
              rintro e1 w1 ⟨rfl, hx⟩
              rw [HON.out]
              have Y1 := Lib.hid (X0.out.trans hx)
              have n1 := (hx.cell (p := ⟨w.heap.size, 1, none⟩) ZLT.out.1).trans Z.out.1
              have m0 := (hx.cell (p := ⟨w.heap.size + 1, 0, none⟩) ZLT.out.2).trans Z.out.2.1
              have m2 := (hx.cell (p := ⟨w.heap.size + 1, 2, none⟩) ZLT.out.2).trans Z.out.2.2.1
              have m3 := (hx.cell (p := ⟨w.heap.size + 1, 3, none⟩) ZLT.out.2).trans Z.out.2.2.2
              have nlt := Nat.lt_of_lt_of_le ZLT.out.1 hx.size
              have mlt := Nat.lt_of_lt_of_le ZLT.out.2 hx.size
              clear hx
              go_wp2_with fail
              refine wp_region_held_drew (S := fun w' => w'.cell? (⟨w.heap.size, 1, none⟩) = some (.slice Ab base.length cb) ∧ w'.cell? (⟨w.heap.size + 1, 0, none⟩) = some (.int .u64 (s : Int)) ∧ w'.cell? (⟨w.heap.size + 1, 2, none⟩) = some (.int .i64 on) ∧ w'.cell? (⟨w.heap.size + 1, 3, none⟩) = some (.int .i64 e)) (by kernel_rfl) ⟨xc nlt n1, xc mlt m0, xc mlt m2, xc mlt m3⟩ (fun hHeld => ?_)
              refine tk 0 hHeld ?_
              refine tk 1 hHeld ?_
              refine tk 2 hHeld ?_
              refine tk 3 hHeld ?_
              refine wpAnyH_ready (rs := [4]) (by kernel_rfl) (by simp) ?_
              refine AllReadyH.cons rfl (fun K hK => ?_) AllReadyH.nil
              go_simp
              (go_at_call 41; refine (rHas_any s hs on _).mono ?_; rintro e2 w2 ⟨rfl, rfl⟩; rw [H1.out])
              go_wp2_with fail
              refine hK.out _ _ ⟨xc nlt n1, xc mlt m0, xc mlt m2, xc mlt m3⟩ (fun hHeld => ?_)
              clear hK K
              try simp only [Act.put, List.setIfInBounds_toArray, List.set_cons_zero, List.set_cons_succ, List.getElem_toArray, List.getElem_cons_succ, List.getElem_cons_zero]
              refine tk 5 hHeld ?_
              refine tk 6 hHeld ?_
              refine tk 7 hHeld ?_
              refine tk 8 hHeld ?_
              refine tk 9 hHeld ?_
              refine tk 10 hHeld ?_
              refine tk 11 hHeld ?_
              refine tk 12 hHeld ?_
              refine tk 13 hHeld ?_
              refine tk 14 hHeld ?_
              refine tk 15 hHeld ?_
              refine tk 16 hHeld ?_
              refine tk 17 hHeld ?_
              refine wpAnyH_ready (rs := [18]) (by kernel_rfl) (by simp) ?_
              refine AllReadyH.cons rfl (fun K hK => ?_) AllReadyH.nil
              go_simp
              (go_at_call 41; refine (rHas_any s hs e _).mono ?_; rintro e2 w2 ⟨rfl, rfl⟩; rw [H3.out])
              go_wp2_with fail
              refine hK.out _ _ ⟨xc nlt n1, xc mlt m0, xc mlt m2, xc mlt m3⟩ (fun hHeld => ?_)
              clear hK K
              try simp only [Act.put, List.setIfInBounds_toArray, List.set_cons_zero, List.set_cons_succ, List.getElem_toArray, List.getElem_cons_succ, List.getElem_cons_zero]
              refine tk 19 hHeld ?_
              refine tk 20 hHeld ?_
              refine un 21 hHeld ?_
              refine un 22 hHeld ?_
              refine un 23 hHeld ?_
              refine un 24 hHeld ?_
              refine un 25 hHeld ?_
              refine un 26 hHeld ?_
              refine un 27 hHeld ?_
              refine un 28 hHeld ?_
              refine tk 29 hHeld ?_
              refine tk 30 hHeld ?_
              refine wpAnyH_done (by kernel_rfl) ?_ _
              go_wp2_with fail
              go_ret
              exact ⟨by rw [HE.out] <;> rfl, Y1.out.trans xw⟩
            · have H3 := Lib.hid h3
              have HE := Lib.hid (show closesQ base ⟨s, ru, on, e, fr⟩ = (NegationN base on == e) by rw [HC.out, h1, h2d, h3]; rfl)
              clear h1 h3
              go_enter Tryz.func55, Tryz.ntmps55
              go_wp2_with fail
              refine (ron_any (lg := lg) (steps := steps) (As := As) (cs := cs) (H.out.ext X0.out) s hs ru on e fr Af cf 2).mono ?_
              rintro e1 w1 ⟨rfl, hx⟩
              rw [HON.out]
              have Y1 := Lib.hid (X0.out.trans hx)
              have n1 := (hx.cell (p := ⟨w.heap.size, 1, none⟩) ZLT.out.1).trans Z.out.1
              have m0 := (hx.cell (p := ⟨w.heap.size + 1, 0, none⟩) ZLT.out.2).trans Z.out.2.1
              have m2 := (hx.cell (p := ⟨w.heap.size + 1, 2, none⟩) ZLT.out.2).trans Z.out.2.2.1
              have m3 := (hx.cell (p := ⟨w.heap.size + 1, 3, none⟩) ZLT.out.2).trans Z.out.2.2.2
              have nlt := Nat.lt_of_lt_of_le ZLT.out.1 hx.size
              have mlt := Nat.lt_of_lt_of_le ZLT.out.2 hx.size
              clear hx
              go_wp2_with fail
              refine wp_region_held_drew (S := fun w' => w'.cell? (⟨w.heap.size, 1, none⟩) = some (.slice Ab base.length cb) ∧ w'.cell? (⟨w.heap.size + 1, 0, none⟩) = some (.int .u64 (s : Int)) ∧ w'.cell? (⟨w.heap.size + 1, 2, none⟩) = some (.int .i64 on) ∧ w'.cell? (⟨w.heap.size + 1, 3, none⟩) = some (.int .i64 e)) (by kernel_rfl) ⟨xc nlt n1, xc mlt m0, xc mlt m2, xc mlt m3⟩ (fun hHeld => ?_)
              refine tk 0 hHeld ?_
              refine tk 1 hHeld ?_
              refine tk 2 hHeld ?_
              refine tk 3 hHeld ?_
              refine wpAnyH_ready (rs := [4]) (by kernel_rfl) (by simp) ?_
              refine AllReadyH.cons rfl (fun K hK => ?_) AllReadyH.nil
              go_simp
              (go_at_call 41; refine (rHas_any s hs on _).mono ?_; rintro e2 w2 ⟨rfl, rfl⟩; rw [H1.out])
              go_wp2_with fail
              refine hK.out _ _ ⟨xc nlt n1, xc mlt m0, xc mlt m2, xc mlt m3⟩ (fun hHeld => ?_)
              clear hK K
              try simp only [Act.put, List.setIfInBounds_toArray, List.set_cons_zero, List.set_cons_succ, List.getElem_toArray, List.getElem_cons_succ, List.getElem_cons_zero]
              refine tk 5 hHeld ?_
              refine tk 6 hHeld ?_
              refine tk 7 hHeld ?_
              refine tk 8 hHeld ?_
              refine tk 9 hHeld ?_
              refine tk 10 hHeld ?_
              refine tk 11 hHeld ?_
              refine tk 12 hHeld ?_
              refine tk 13 hHeld ?_
              refine tk 14 hHeld ?_
              refine tk 15 hHeld ?_
              refine tk 16 hHeld ?_
              refine tk 17 hHeld ?_
              refine wpAnyH_ready (rs := [18]) (by kernel_rfl) (by simp) ?_
              refine AllReadyH.cons rfl (fun K hK => ?_) AllReadyH.nil
              go_simp
              (go_at_call 41; refine (rHas_any s hs e _).mono ?_; rintro e2 w2 ⟨rfl, rfl⟩; rw [H3.out])
              go_wp2_with fail
              refine hK.out _ _ ⟨xc nlt n1, xc mlt m0, xc mlt m2, xc mlt m3⟩ (fun hHeld => ?_)
              clear hK K
              try simp only [Act.put, List.setIfInBounds_toArray, List.set_cons_zero, List.set_cons_succ, List.getElem_toArray, List.getElem_cons_succ, List.getElem_cons_zero]
              refine tk 19 hHeld ?_
              refine tk 20 hHeld ?_
              refine tk 21 hHeld ?_
              refine tk 22 hHeld ?_
              refine tk 23 hHeld ?_
              refine tk 24 hHeld ?_
              refine tk 26 hHeld ?_
              refine tk 27 hHeld ?_
              refine wpAnyH_ready (rs := [25]) (by kernel_rfl) (by simp) ?_
              refine AllReadyH.cons rfl (fun K hK => ?_) AllReadyH.nil
              go_simp
              (go_at_call 12; refine (rNegation_any _ base on _ (H.out.ext (Y1.out.trans xw))).mono ?_; rintro e2 w6 ⟨rfl, hv⟩; have hx6 : Ext w1 w6 := xt hv; clear hv)
              go_wp2_with fail
              refine hK.out _ _ ⟨xc nlt n1, xc mlt m0, xc mlt m2, xc mlt m3⟩ (fun hHeld => ?_)
              clear hK K
              try simp only [Act.put, List.setIfInBounds_toArray, List.set_cons_zero, List.set_cons_succ, List.getElem_toArray, List.getElem_cons_succ, List.getElem_cons_zero]
              refine tk 28 hHeld ?_
              refine tk 29 hHeld ?_
              refine tk 30 hHeld ?_
              refine wpAnyH_done (by kernel_rfl) ?_ _
              go_wp2_with fail
              go_ret
              exact ⟨by rw [HE.out] <;> rfl, Y1.out.trans xw⟩
          · have h2d : decide (on < (base.length : Int)) = false := decide_eq_false h2
            have HE := Lib.hid (show closesQ base ⟨s, ru, on, e, fr⟩ = false by rw [HC.out, h1, h2d]; rfl)
            clear h1
            go_enter Tryz.func55, Tryz.ntmps55
            go_wp2_with fail
            refine (ron_any (lg := lg) (steps := steps) (As := As) (cs := cs) (H.out.ext X0.out) s hs ru on e fr Af cf 2).mono ?_
            rintro e1 w1 ⟨rfl, hx⟩
            rw [HON.out]
            have Y1 := Lib.hid (X0.out.trans hx)
            have n1 := (hx.cell (p := ⟨w.heap.size, 1, none⟩) ZLT.out.1).trans Z.out.1
            have m0 := (hx.cell (p := ⟨w.heap.size + 1, 0, none⟩) ZLT.out.2).trans Z.out.2.1
            have m2 := (hx.cell (p := ⟨w.heap.size + 1, 2, none⟩) ZLT.out.2).trans Z.out.2.2.1
            have m3 := (hx.cell (p := ⟨w.heap.size + 1, 3, none⟩) ZLT.out.2).trans Z.out.2.2.2
            have nlt := Nat.lt_of_lt_of_le ZLT.out.1 hx.size
            have mlt := Nat.lt_of_lt_of_le ZLT.out.2 hx.size
            clear hx
            go_wp2_with fail
            refine wp_region_held_drew (S := fun w' => w'.cell? (⟨w.heap.size, 1, none⟩) = some (.slice Ab base.length cb) ∧ w'.cell? (⟨w.heap.size + 1, 0, none⟩) = some (.int .u64 (s : Int)) ∧ w'.cell? (⟨w.heap.size + 1, 2, none⟩) = some (.int .i64 on) ∧ w'.cell? (⟨w.heap.size + 1, 3, none⟩) = some (.int .i64 e)) (by kernel_rfl) ⟨xc nlt n1, xc mlt m0, xc mlt m2, xc mlt m3⟩ (fun hHeld => ?_)
            refine tk 0 hHeld ?_
            refine tk 1 hHeld ?_
            refine tk 2 hHeld ?_
            refine tk 3 hHeld ?_
            refine wpAnyH_ready (rs := [4]) (by kernel_rfl) (by simp) ?_
            refine AllReadyH.cons rfl (fun K hK => ?_) AllReadyH.nil
            go_simp
            (go_at_call 41; refine (rHas_any s hs on _).mono ?_; rintro e2 w2 ⟨rfl, rfl⟩; rw [H1.out])
            go_wp2_with fail
            refine hK.out _ _ ⟨xc nlt n1, xc mlt m0, xc mlt m2, xc mlt m3⟩ (fun hHeld => ?_)
            clear hK K
            try simp only [Act.put, List.setIfInBounds_toArray, List.set_cons_zero, List.set_cons_succ, List.getElem_toArray, List.getElem_cons_succ, List.getElem_cons_zero]
            refine tk 5 hHeld ?_
            refine tk 6 hHeld ?_
            refine tk 7 hHeld ?_
            refine tk 8 hHeld ?_
            refine tk 9 hHeld ?_
            refine tk 10 hHeld ?_
            refine tk 11 hHeld ?_
            refine tk 12 hHeld ?_
            refine tk 13 hHeld ?_
            refine un 14 hHeld ?_
            refine un 15 hHeld ?_
            refine un 16 hHeld ?_
            refine un 17 hHeld ?_
            refine un 18 hHeld ?_
            refine tk 19 hHeld ?_
            refine tk 20 hHeld ?_
            refine un 21 hHeld ?_
            refine un 22 hHeld ?_
            refine un 23 hHeld ?_
            refine un 24 hHeld ?_
            refine un 25 hHeld ?_
            refine un 26 hHeld ?_
            refine un 27 hHeld ?_
            refine un 28 hHeld ?_
            refine tk 29 hHeld ?_
            refine tk 30 hHeld ?_
            refine wpAnyH_done (by kernel_rfl) ?_ _
            go_wp2_with fail
            go_ret
            exact ⟨by rw [HE.out] <;> rfl, Y1.out.trans xw⟩
  · have hfi : ((fr.length : Int) == 0) = false := by rw [beq_eq_false_iff_ne]; omega
    have hfb : ((fr.length : Int) != 0) = true := by simp [bne, hfi]
    have HE := Lib.hid (show closesQ base ⟨s, ru, on, e, fr⟩ = false by unfold closesQ; rw [decide_eq_false hf]; rfl)
    go_enter Tryz.func55, Tryz.ntmps55
    go_wp2_with fail
    go_ret
    exact ⟨by rw [HE.out] <;> rfl, X0.out⟩
end Go.Proofs.YtfcmdiigfgbgbaaGreat
