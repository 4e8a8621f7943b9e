/- sequent's checker: premises. -/
import Derived.Test.YtdpblciohodgcaaGreatDoorS09
import Derived.Test.YtdpblciohodgcaaGreatDoorS17
import Derived.Test.YtdpblciohodgcaaGreatDoorS15
import Derived.Test.YtdpblciohodgcaaGreatDoorS13

namespace Go.Proofs.YtdpblciohodgcaaGreatDoor
open Go.RowKit

theorem SChk.rows {w : World} {b : Nat} {lg : Int} {base : List Nd} {steps : List Stp} {opps : List Int} (h : SChk w b lg base steps opps) (hn : steps ≠ []) :
    ∃ (ad : Addr) (c : Nat), steps.length ≤ c ∧ c ≤ 9223372036854775807 ∧ ad.block < w.heap.size ∧ w.cell? ⟨b, 2, none⟩ = some (.slice (some ad) steps.length c) ∧ ∀ (i : Nat) (n : Stp), steps[i]? = some n → SpAt w (ad.add (i * 5)) n := by
  obtain ⟨vb, vs, vo, hb, _, ⟨A, c, rfl, h1, h2, h3⟩, _⟩ := h.all
  obtain ⟨d0, d1, d2, d3, _, _⟩ := cells4s hb
  obtain ⟨ad, rfl, hlt, hc⟩ := h3 hn
  unfold maxLen at h2
  exact ⟨ad, c, h1, by omega, hlt, d2, hc⟩
theorem drop_cons {α : Type} {l : List α} {k : Nat} {a : α} (h : l[k]? = some a) : l.drop k = a :: l.drop (k + 1) := by
  obtain ⟨hk, e⟩ := List.getElem?_eq_some_iff.1 h
  rw [List.drop_eq_getElem_cons hk, e]
theorem prem_step {steps : List Stp} {at_ : Nat} {fr : List Int} {sets : List Nat} {k : Nat} {j : Int} {s : Nat} (hj : fr[k]? = some j) (hs : sets[k]? = some s) :
    premGo steps at_ (fr.drop k) (sets.drop k) = bif decide (j < 0) || (decide ((at_ : Int) ≤ j) || !subS (steps.getD j.toNat Stp.zero).set s) then false else premGo steps at_ (fr.drop (k + 1)) (sets.drop (k + 1)) := by
  rw [drop_cons hj, drop_cons hs, premGo]
set_option maxRecDepth 100000 in
set_option maxHeartbeats 8000000 in
theorem premises_any {w : World} {b : Nat} {lg : Int} {base : List Nd} {steps : List Stp} {opps : List Int} (h : SChk w b lg base steps opps) (at_ : Nat) (hat : at_ < steps.length) (u : Value) (sets : List Nat) (hs : Sets w u sets) :
    Calls Tryz.prog 67 #[.pointer (some ⟨b, 0, none⟩), .int .i64 (at_ : Int), u] w fun e w' => e = .returned (.bool (premN steps at_ sets)) ∧ Ext w w' := by
  obtain ⟨x, hx⟩ : ∃ x, steps[at_]? = some x := ⟨_, List.getElem?_eq_getElem hat⟩
  obtain ⟨ad, c, h1, h2, hblk, d2, hrow⟩ := h.rows (by intro e; rw [e] at hat; simp at hat)
  obtain ⟨ur, q0, q1, q2, q3, q4, ⟨Af, cf, rfl, hcapf, hmaxf, hrf⟩, hset⟩ := hrow at_ x hx
  obtain ⟨Au, cu, rfl, hcapu, hmaxu, hru⟩ := hs
  unfold maxLen at hmaxf hmaxu
  have hblt := h.blt
  have HROW := Lib.hid hrow
  have HRF := Lib.hid hrf
  have HRU := Lib.hid hru
  have HP := Lib.hid (show premN steps at_ sets = (x.from_.length == sets.length && premGo steps at_ x.from_ sets) by unfold premN; rw [getD_some hx])
  have ha1 : (at_ : Int) < (steps.length : Int) := by omega
  have ha0 : (0 : Int) ≤ (at_ : Int) := by omega
  clear h hx hrf hru hrow hset q0 q1 q2 q3
  by_cases hl : x.from_.length = sets.length
  · have HP2 := Lib.hid (show premN steps at_ sets = premGo steps at_ x.from_ sets by rw [HP.out, hl]; simp)
    go_enter Tryz.func67, Tryz.ntmps67
    go_wp2_with fail
    go_loopw [26] (fun vi wr => ∃ k : Nat, vi = .int .i64 (k : Int) ∧ k ≤ sets.length ∧ Hid (premN steps at_ sets = premGo steps at_ (x.from_.drop k) (sets.drop k)) ∧ Hid (Ext w wr)) (fun vi _ => sets.length - (intOf vi).toNat)
    case atStart => exact ⟨0, rfl, Nat.zero_le _, Lib.hid (by rw [HP2.out]; rfl), Lib.hid (Ext.refl _)⟩
    case round =>
      obtain ⟨k, rfl, hk, HO, HX⟩ := hrel
      by_cases hlt2 : k < sets.length
      · obtain ⟨s, hs⟩ : ∃ s, sets[k]? = some s := ⟨_, List.getElem?_eq_getElem hlt2⟩
        obtain ⟨j, hj⟩ : ∃ j, x.from_[k]? = some j := ⟨_, List.getElem?_eq_getElem (by omega)⟩
        obtain ⟨adf, rfl, hbf, hcf⟩ := HRF.out (by intro e; rw [e] at hj; simp at hj)
        obtain ⟨adu, rfl, hbu, hcu⟩ := HRU.out (by intro e; rw [e] at hs; simp at hs)
        obtain ⟨hu0, hs64⟩ := hcu k s hs
        have a0 := (HX.out.cell (p := adf.add k) (by rw [block_of_add]; exact hbf)).trans (hcf k j hj)
        have b0 := (HX.out.cell (p := adu.add k) (by rw [block_of_add]; exact hbu)).trans hu0
        have c2 := (HX.out.cell (p := ⟨b, 2, none⟩) hblt).trans d2
        have HST := Lib.hid (prem_step (steps := steps) (at_ := at_) hj hs)
        have hk0 : (0 : Int) ≤ (k : Int) := by omega
        have hk1 : (k : Int) < (sets.length : Int) := by omega
        have hk2 : (k : Int) < (x.from_.length : Int) := by omega
        clear hcf hcu hu0 hs hj
        by_cases hj0 : j < 0
        · have HE := Lib.hid (show premN steps at_ sets = false by rw [HO.out, HST.out, decide_eq_true hj0]; rfl)
          go_wp2_with fail
          go_quiet (fail)
          go_wp2_with fail
          go_ret
          exact ⟨by rw [HE.out] <;> rfl, HX.out.drewN _⟩
        · obtain ⟨jn, rfl⟩ := Int.eq_ofNat_of_zero_le (show 0 ≤ j by omega)
          have hjl0 : (0 : Int) ≤ (jn : Int) := by omega
          have haf : (adf.add k).block < wr.heap.size := by rw [block_of_add]; exact Nat.lt_of_lt_of_le hbf HX.out.size
          by_cases hja : at_ ≤ jn
          · have HE := Lib.hid (show premN steps at_ sets = false by rw [HO.out, HST.out, decide_eq_false hj0, decide_eq_true (show (at_ : Int) ≤ (jn : Int) by omega)]; rfl)
            have hja1 : (at_ : Int) ≤ (jn : Int) := by omega
            have hja2 : decide (at_ ≤ jn) = true := decide_eq_true hja
            go_wp2_with fail
            refine wp_region_held_drew (S := fun w' => w'.cell? (adf.add k) = some (.int .i64 (jn : Int))) (by kernel_rfl) ((Ext.cell xw haf).trans a0) (fun hHeld => ?_)
            refine tk 0 hHeld ?_
            refine tk 1 hHeld ?_
            refine tk 2 hHeld ?_
            refine tk 3 hHeld ?_
            refine tk 4 hHeld ?_
            refine tk 5 hHeld ?_
            refine tk 6 hHeld ?_
            refine tk 7 hHeld ?_
            refine tk 8 hHeld ?_
            refine tk 9 hHeld ?_
            refine tk 10 hHeld ?_
            refine tk 11 hHeld ?_
            refine tk 12 hHeld ?_
            refine tk 13 hHeld ?_
            refine un 14 hHeld ?_
            refine un 15 hHeld ?_
            refine un 16 hHeld ?_
            refine un 17 hHeld ?_
            refine un 18 hHeld ?_
            refine un 19 hHeld ?_
            refine un 20 hHeld ?_
            refine un 21 hHeld ?_
            refine un 22 hHeld ?_
            refine un 23 hHeld ?_
            refine un 24 hHeld ?_
            refine un 25 hHeld ?_
            refine un 26 hHeld ?_
            refine un 27 hHeld ?_
            refine un 28 hHeld ?_
            refine tk 29 hHeld ?_
            refine wpAnyH_done (by kernel_rfl) ?_ _
            go_wp2_with fail
            go_ret
            exact ⟨by rw [HE.out] <;> rfl, HX.out.trans xw⟩
          · have hja1 : ¬ (at_ : Int) ≤ (jn : Int) := by omega
            have hja2 : decide (at_ ≤ jn) = false := decide_eq_false hja
            have hjl : jn < steps.length := by omega
            obtain ⟨y, hy⟩ : ∃ y, steps[jn]? = some y := ⟨_, List.getElem?_eq_getElem hjl⟩
            obtain ⟨_, r0, _, _, _, _, _, hy64⟩ := HROW.out jn y hy
            have r0 := (HX.out.cell (p := ad.add (jn * 5)) (by rw [block_of_add]; exact hblk)).trans r0
            have hjl1 : (jn : Int) < (steps.length : Int) := by omega
            have HJ := Lib.hid (show premN steps at_ sets = bif !subS y.set s then false else premGo steps at_ (x.from_.drop (k + 1)) (sets.drop (k + 1)) by
              rw [HO.out, HST.out, decide_eq_false hj0, decide_eq_false hja1, Int.toNat_natCast, getD_some hy]; rfl)
            have hb2w : b < wr.heap.size := Nat.lt_of_lt_of_le hblt HX.out.size
            have hadw : (ad.add (jn * 5)).block < wr.heap.size := by rw [block_of_add]; exact Nat.lt_of_lt_of_le hblk HX.out.size
            have hb := andNot_sub y.set s hy64 hs64
            clear hy
            cases hsub : subS y.set s
            · have HE := Lib.hid (show premN steps at_ sets = false by rw [HJ.out, hsub]; rfl)
              rw [hsub] at hb
              have hb2 : (bits .andNot .u64 (y.set : Int) (s : Int) != 0) = true := by rw [bne, hb]; rfl
              go_wp2_with fail
              refine wp_region_held_drew (S := fun w' => w'.cell? (adf.add k) = some (.int .i64 (jn : Int)) ∧ w'.cell? (⟨b, 2, none⟩) = some (.slice (some ad) steps.length c) ∧ w'.cell? (ad.add (jn * 5)) = some (.int .u64 (y.set : Int))) (by kernel_rfl) ⟨(Ext.cell xw haf).trans a0, (Ext.cell xw hb2w).trans c2, (Ext.cell xw hadw).trans r0⟩ (fun hHeld => ?_)
              refine tk 0 hHeld ?_
              refine tk 1 hHeld ?_
              refine tk 2 hHeld ?_
              refine tk 3 hHeld ?_
              refine tk 4 hHeld ?_
              refine tk 5 hHeld ?_
              refine tk 6 hHeld ?_
              refine tk 7 hHeld ?_
              refine tk 8 hHeld ?_
              refine tk 9 hHeld ?_
              refine tk 10 hHeld ?_
              refine tk 11 hHeld ?_
              refine tk 12 hHeld ?_
              refine tk 13 hHeld ?_
              refine tk 14 hHeld ?_
              refine tk 15 hHeld ?_
              refine tk 16 hHeld ?_
              refine tk 17 hHeld ?_
              refine tk 18 hHeld ?_
              refine tk 19 hHeld ?_
              refine tk 20 hHeld ?_
              refine tk 21 hHeld ?_
              refine tk 22 hHeld ?_
              refine tk 23 hHeld ?_
              refine tk 24 hHeld ?_
              refine tk 25 hHeld ?_
              refine tk 26 hHeld ?_
              refine tk 27 hHeld ?_
              refine tk 28 hHeld ?_
              refine tk 29 hHeld ?_
              refine wpAnyH_done (by kernel_rfl) ?_ _
              go_wp2_with fail
              go_ret
              exact ⟨by rw [HE.out] <;> rfl, HX.out.trans xw⟩
            · have HE := Lib.hid (show premN steps at_ sets = premGo steps at_ (x.from_.drop (k + 1)) (sets.drop (k + 1)) by rw [HJ.out, hsub]; rfl)
              rw [hsub] at hb
              have hb2 : (bits .andNot .u64 (y.set : Int) (s : Int) != 0) = false := by rw [bne, hb]; rfl
              go_wp2_with fail
              refine wp_region_held_drew (S := fun w' => w'.cell? (adf.add k) = some (.int .i64 (jn : Int)) ∧ w'.cell? (⟨b, 2, none⟩) = some (.slice (some ad) steps.length c) ∧ w'.cell? (ad.add (jn * 5)) = some (.int .u64 (y.set : Int))) (by kernel_rfl) ⟨(Ext.cell xw haf).trans a0, (Ext.cell xw hb2w).trans c2, (Ext.cell xw hadw).trans r0⟩ (fun hHeld => ?_)
              refine tk 0 hHeld ?_
              refine tk 1 hHeld ?_
              refine tk 2 hHeld ?_
              refine tk 3 hHeld ?_
              refine tk 4 hHeld ?_
              refine tk 5 hHeld ?_
              refine tk 6 hHeld ?_
              refine tk 7 hHeld ?_
              refine tk 8 hHeld ?_
              refine tk 9 hHeld ?_
              refine tk 10 hHeld ?_
              refine tk 11 hHeld ?_
              refine tk 12 hHeld ?_
              refine tk 13 hHeld ?_
              refine tk 14 hHeld ?_
              refine tk 15 hHeld ?_
              refine tk 16 hHeld ?_
              refine tk 17 hHeld ?_
              refine tk 18 hHeld ?_
              refine tk 19 hHeld ?_
              refine tk 20 hHeld ?_
              refine tk 21 hHeld ?_
              refine tk 22 hHeld ?_
              refine tk 23 hHeld ?_
              refine tk 24 hHeld ?_
              refine tk 25 hHeld ?_
              refine tk 26 hHeld ?_
              refine tk 27 hHeld ?_
              refine tk 28 hHeld ?_
              refine tk 29 hHeld ?_
              refine wpAnyH_done (by kernel_rfl) ?_ _
              go_wp2_with fail
              go_roundw
              case rel => exact ⟨k + 1, by go_num, by omega, HE, Lib.hid (HX.out.trans xw)⟩
              case measure => simp [intOf]; omega
      · obtain rfl : sets.length = k := by omega
        have HE := Lib.hid (show premN steps at_ sets = true by rw [HO.out, List.drop_length, ← hl, List.drop_length]; rfl)
        go_wp2_with fail
        go_ret
        exact ⟨by rw [HE.out] <;> rfl, HX.out⟩
  · have HE := Lib.hid (show premN steps at_ sets = false by
      rw [HP.out]
      have : (x.from_.length == sets.length) = false := beq_eq_false_iff_ne.2 hl
      rw [this]; rfl)
    go_enter Tryz.func67, Tryz.ntmps67
    go_wp2_with fail
    go_ret
    exact ⟨by rw [HE.out] <;> rfl, Ext.refl _⟩
end Go.Proofs.YtdpblciohodgcaaGreatDoor

/- sequent's checker: closed. -/

namespace Go.Proofs.YtdpblciohodgcaaGreatDoor
open Go.RowKit

set_option maxRecDepth 100000 in
set_option maxHeartbeats 8000000 in
theorem closed_any {w : World} {b : Nat} {lg : Int} {base : List Nd} {steps : List Stp} {opps : List Int} (h : SChk w b lg base steps opps) (at_ : Nat) (hat : at_ < steps.length) :
    Calls Tryz.prog 65 #[.pointer (some ⟨b, 0, none⟩), .int .i64 (at_ : Int)] w fun e w' => e = .returned (.bool (closedN base opps steps at_)) ∧ Ext w w' := by
  obtain ⟨x, hx⟩ : ∃ x, steps[at_]? = some x := ⟨_, List.getElem?_eq_getElem hat⟩
  obtain ⟨ad, c, h1, h2, hblk, d2, hrow⟩ := h.rows (by intro e; rw [e] at hat; simp at hat)
  obtain ⟨ur, q0, q1, q2, q3, q4, ⟨Af, cf, rfl, _⟩, hset⟩ := hrow at_ x hx
  have H := Lib.hid h
  have HAT := Lib.hid hat
  have HC := Lib.hid (show closedN base opps steps at_ = bif onN base x 2 && x.e == 0 then premN steps at_ [] else inS x.set x.on && (inS x.set x.e && (opposedN opps x.on x.e && premN steps at_ [])) by unfold closedN; rw [getD_some hx])
  have ha1 : (at_ : Int) < (steps.length : Int) := by omega
  have ha0 : (0 : Int) ≤ (at_ : Int) := by omega
  obtain ⟨s, ru, on, e, fr⟩ := x
  simp only at q0 q1 q2 q3 q4 hset HC
  obtain ⟨z0, z1, z2, z3, z4, zfr, zlt⟩ := cells5s (heap_alloc_new w (.cells #[.int .u64 (s : Int), .int .i64 ru, .int .i64 on, .int .i64 e, .slice Af fr.length cf] 49))
  have Z := Lib.hid (And.intro z0 (And.intro z2 z3))
  have ZLT := Lib.hid zlt
  have X0 := Lib.hid ((Ext.refl w).alloc (.cells #[.int .u64 (s : Int), .int .i64 ru, .int .i64 on, .int .i64 e, .slice Af fr.length cf] 49))
  obtain ⟨n, hn⟩ : ∃ n, n = onV base ⟨s, ru, on, e, fr⟩ 2 := ⟨_, rfl⟩
  have HNV := Lib.hid hn.symm
  clear hn
  clear h hx hrow hat z0 z1 z2 z3 z4 zfr zlt
  cases hon : onN base ⟨s, ru, on, e, fr⟩ 2
  · have HON := Lib.hid hon
    clear hon
    go_enter Tryz.func65, Tryz.ntmps65
    go_wp2_with fail
    refine (on_any (H.out.ext (X0.out.trans xw)) ⟨s, ru, on, e, fr⟩ hset (.slice Af fr.length cf) 2).mono ?_
    rintro e2 w1 ⟨rfl, hx⟩
    rw [HNV.out, HON.out]
    unfold Nd.val
    have X1 := Lib.hid ((Ext.trans (show Ext (w.alloc (.cells #[.int .u64 (s : Int), .int .i64 ru, .int .i64 on, .int .i64 e, .slice Af fr.length cf] 49)) _ by repeat (first | exact Ext.refl _ | assumption | apply Ext.alloc | apply Ext.drew)) hx).alloc (.cells #[.int .i64 n.op, .int .i64 n.i, .int .i64 n.e, .int .i64 n.g, .int .i64 n.x, .int .i64 n.y] 68))
    have z0a := (X1.out.cell (p := ⟨w.heap.size, 0, none⟩) ZLT.out).trans Z.out.1
    have z2a := (X1.out.cell (p := ⟨w.heap.size, 2, none⟩) ZLT.out).trans Z.out.2.1
    have z3a := (X1.out.cell (p := ⟨w.heap.size, 3, none⟩) ZLT.out).trans Z.out.2.2
    clear hx
    cases h1 : inS s on
    · have H1 := Lib.hid h1
      go_wp2_with fail
      refine (in_any s hset on _).mono ?_
      rintro e2 w2 ⟨rfl, hx⟩
      rw [H1.out]
      have X2 := Lib.hid (X1.out.trans (Ext.trans xw hx))
      have z0b := (X2.out.cell (p := ⟨w.heap.size, 0, none⟩) ZLT.out).trans Z.out.1
      have z2b := (X2.out.cell (p := ⟨w.heap.size, 2, none⟩) ZLT.out).trans Z.out.2.1
      have z3b := (X2.out.cell (p := ⟨w.heap.size, 3, none⟩) ZLT.out).trans Z.out.2.2
      clear hx
      have HE := Lib.hid (show closedN base opps steps at_ = false by rw [HC.out, HON.out, H1.out]; rfl)
      go_wp2_with fail
      go_ret
      exact ⟨by rw [HE.out] <;> rfl, X0.out.trans (X2.out.trans xw)⟩
    · have H1 := Lib.hid h1
      go_wp2_with fail
      refine (in_any s hset on _).mono ?_
      rintro e2 w2 ⟨rfl, hx⟩
      rw [H1.out]
      have X2 := Lib.hid (X1.out.trans (Ext.trans xw hx))
      have z0b := (X2.out.cell (p := ⟨w.heap.size, 0, none⟩) ZLT.out).trans Z.out.1
      have z2b := (X2.out.cell (p := ⟨w.heap.size, 2, none⟩) ZLT.out).trans Z.out.2.1
      have z3b := (X2.out.cell (p := ⟨w.heap.size, 3, none⟩) ZLT.out).trans Z.out.2.2
      clear hx
      cases h2 : inS s e
      · have H2 := Lib.hid h2
        go_wp2_with fail
        refine (in_any s hset e _).mono ?_
        rintro e2 w3 ⟨rfl, hx⟩
        rw [H2.out]
        have X3 := Lib.hid (X2.out.trans (Ext.trans xw hx))
        have z0c := (X3.out.cell (p := ⟨w.heap.size, 0, none⟩) ZLT.out).trans Z.out.1
        have z2c := (X3.out.cell (p := ⟨w.heap.size, 2, none⟩) ZLT.out).trans Z.out.2.1
        have z3c := (X3.out.cell (p := ⟨w.heap.size, 3, none⟩) ZLT.out).trans Z.out.2.2
        clear hx
        have HE := Lib.hid (show closedN base opps steps at_ = false by rw [HC.out, HON.out, H1.out, H2.out]; rfl)
        go_wp2_with fail
        go_ret
        exact ⟨by rw [HE.out] <;> rfl, X0.out.trans (X3.out.trans xw)⟩
      · have H2 := Lib.hid h2
        go_wp2_with fail
        refine (in_any s hset e _).mono ?_
        rintro e2 w3 ⟨rfl, hx⟩
        rw [H2.out]
        have X3 := Lib.hid (X2.out.trans (Ext.trans xw hx))
        have z0c := (X3.out.cell (p := ⟨w.heap.size, 0, none⟩) ZLT.out).trans Z.out.1
        have z2c := (X3.out.cell (p := ⟨w.heap.size, 2, none⟩) ZLT.out).trans Z.out.2.1
        have z3c := (X3.out.cell (p := ⟨w.heap.size, 3, none⟩) ZLT.out).trans Z.out.2.2
        clear hx
        cases h3 : opposedN opps on e
        · have H3 := Lib.hid h3
          go_wp2_with fail
          refine (opposed_any (H.out.ext (X0.out.trans (X3.out.trans xw))) on e).mono ?_
          rintro e2 w4 ⟨rfl, hx⟩
          rw [H3.out]
          have X4 := Lib.hid (X3.out.trans (Ext.trans xw hx))
          clear hx
          have HE := Lib.hid (show closedN base opps steps at_ = false by rw [HC.out, HON.out, H1.out, H2.out, H3.out]; rfl)
          go_wp2_with fail
          go_ret
          exact ⟨by rw [HE.out] <;> rfl, X0.out.trans (X4.out.trans xw)⟩
        · have H3 := Lib.hid h3
          go_wp2_with fail
          refine (opposed_any (H.out.ext (X0.out.trans (X3.out.trans xw))) on e).mono ?_
          rintro e2 w4 ⟨rfl, hx⟩
          rw [H3.out]
          have X4 := Lib.hid (X3.out.trans (Ext.trans xw hx))
          clear hx
          go_wp2_with fail
          refine (premises_any (H.out.ext (X0.out.trans (X4.out.trans xw))) at_ HAT.out _ [] (Sets.none_ _)).mono ?_
          rintro e2 w9 ⟨rfl, hx⟩
          have HE := Lib.hid (show closedN base opps steps at_ = premN steps at_ [] by rw [HC.out, HON.out, H1.out, H2.out, H3.out]; rfl)
          go_wp2_with fail
          go_ret
          exact ⟨by rw [HE.out] <;> rfl, X0.out.trans (X4.out.trans (Ext.trans xw hx))⟩
  · have HON := Lib.hid hon
    clear hon
    cases he : e == 0
    · have HEE := Lib.hid he
      go_enter Tryz.func65, Tryz.ntmps65
      go_wp2_with fail
      refine (on_any (H.out.ext (X0.out.trans xw)) ⟨s, ru, on, e, fr⟩ hset (.slice Af fr.length cf) 2).mono ?_
      rintro e2 w1 ⟨rfl, hx⟩
      rw [HNV.out, HON.out]
      unfold Nd.val
      have X1 := Lib.hid ((Ext.trans (show Ext (w.alloc (.cells #[.int .u64 (s : Int), .int .i64 ru, .int .i64 on, .int .i64 e, .slice Af fr.length cf] 49)) _ by repeat (first | exact Ext.refl _ | assumption | apply Ext.alloc | apply Ext.drew)) hx).alloc (.cells #[.int .i64 n.op, .int .i64 n.i, .int .i64 n.e, .int .i64 n.g, .int .i64 n.x, .int .i64 n.y] 68))
      have z0a := (X1.out.cell (p := ⟨w.heap.size, 0, none⟩) ZLT.out).trans Z.out.1
      have z2a := (X1.out.cell (p := ⟨w.heap.size, 2, none⟩) ZLT.out).trans Z.out.2.1
      have z3a := (X1.out.cell (p := ⟨w.heap.size, 3, none⟩) ZLT.out).trans Z.out.2.2
      clear hx
      cases h1 : inS s on
      · have H1 := Lib.hid h1
        go_wp2_with fail
        refine (in_any s hset on _).mono ?_
        rintro e2 w2 ⟨rfl, hx⟩
        rw [H1.out]
        have X2 := Lib.hid (X1.out.trans (Ext.trans xw hx))
        have z0b := (X2.out.cell (p := ⟨w.heap.size, 0, none⟩) ZLT.out).trans Z.out.1
        have z2b := (X2.out.cell (p := ⟨w.heap.size, 2, none⟩) ZLT.out).trans Z.out.2.1
        have z3b := (X2.out.cell (p := ⟨w.heap.size, 3, none⟩) ZLT.out).trans Z.out.2.2
        clear hx
        have HE := Lib.hid (show closedN base opps steps at_ = false by rw [HC.out, HON.out, HEE.out, H1.out]; rfl)
        go_wp2_with fail
        go_ret
        exact ⟨by rw [HE.out] <;> rfl, X0.out.trans (X2.out.trans xw)⟩
      · have H1 := Lib.hid h1
        go_wp2_with fail
        refine (in_any s hset on _).mono ?_
        rintro e2 w2 ⟨rfl, hx⟩
        rw [H1.out]
        have X2 := Lib.hid (X1.out.trans (Ext.trans xw hx))
        have z0b := (X2.out.cell (p := ⟨w.heap.size, 0, none⟩) ZLT.out).trans Z.out.1
        have z2b := (X2.out.cell (p := ⟨w.heap.size, 2, none⟩) ZLT.out).trans Z.out.2.1
        have z3b := (X2.out.cell (p := ⟨w.heap.size, 3, none⟩) ZLT.out).trans Z.out.2.2
        clear hx
        cases h2 : inS s e
        · have H2 := Lib.hid h2
          go_wp2_with fail
          refine (in_any s hset e _).mono ?_
          rintro e2 w3 ⟨rfl, hx⟩
          rw [H2.out]
          have X3 := Lib.hid (X2.out.trans (Ext.trans xw hx))
          have z0c := (X3.out.cell (p := ⟨w.heap.size, 0, none⟩) ZLT.out).trans Z.out.1
          have z2c := (X3.out.cell (p := ⟨w.heap.size, 2, none⟩) ZLT.out).trans Z.out.2.1
          have z3c := (X3.out.cell (p := ⟨w.heap.size, 3, none⟩) ZLT.out).trans Z.out.2.2
          clear hx
          have HE := Lib.hid (show closedN base opps steps at_ = false by rw [HC.out, HON.out, HEE.out, H1.out, H2.out]; rfl)
          go_wp2_with fail
          go_ret
          exact ⟨by rw [HE.out] <;> rfl, X0.out.trans (X3.out.trans xw)⟩
        · have H2 := Lib.hid h2
          go_wp2_with fail
          refine (in_any s hset e _).mono ?_
          rintro e2 w3 ⟨rfl, hx⟩
          rw [H2.out]
          have X3 := Lib.hid (X2.out.trans (Ext.trans xw hx))
          have z0c := (X3.out.cell (p := ⟨w.heap.size, 0, none⟩) ZLT.out).trans Z.out.1
          have z2c := (X3.out.cell (p := ⟨w.heap.size, 2, none⟩) ZLT.out).trans Z.out.2.1
          have z3c := (X3.out.cell (p := ⟨w.heap.size, 3, none⟩) ZLT.out).trans Z.out.2.2
          clear hx
          cases h3 : opposedN opps on e
          · have H3 := Lib.hid h3
            go_wp2_with fail
            refine (opposed_any (H.out.ext (X0.out.trans (X3.out.trans xw))) on e).mono ?_
            rintro e2 w4 ⟨rfl, hx⟩
            rw [H3.out]
            have X4 := Lib.hid (X3.out.trans (Ext.trans xw hx))
            clear hx
            have HE := Lib.hid (show closedN base opps steps at_ = false by rw [HC.out, HON.out, HEE.out, H1.out, H2.out, H3.out]; rfl)
            go_wp2_with fail
            go_ret
            exact ⟨by rw [HE.out] <;> rfl, X0.out.trans (X4.out.trans xw)⟩
          · have H3 := Lib.hid h3
            go_wp2_with fail
            refine (opposed_any (H.out.ext (X0.out.trans (X3.out.trans xw))) on e).mono ?_
            rintro e2 w4 ⟨rfl, hx⟩
            rw [H3.out]
            have X4 := Lib.hid (X3.out.trans (Ext.trans xw hx))
            clear hx
            go_wp2_with fail
            refine (premises_any (H.out.ext (X0.out.trans (X4.out.trans xw))) at_ HAT.out _ [] (Sets.none_ _)).mono ?_
            rintro e2 w9 ⟨rfl, hx⟩
            have HE := Lib.hid (show closedN base opps steps at_ = premN steps at_ [] by rw [HC.out, HON.out, HEE.out, H1.out, H2.out, H3.out]; rfl)
            go_wp2_with fail
            go_ret
            exact ⟨by rw [HE.out] <;> rfl, X0.out.trans (X4.out.trans (Ext.trans xw hx))⟩
    · have HEE := Lib.hid he
      go_enter Tryz.func65, Tryz.ntmps65
      go_wp2_with fail
      refine (on_any (H.out.ext (X0.out.trans xw)) ⟨s, ru, on, e, fr⟩ hset (.slice Af fr.length cf) 2).mono ?_
      rintro e2 w1 ⟨rfl, hx⟩
      rw [HNV.out, HON.out]
      unfold Nd.val
      have X1 := Lib.hid ((Ext.trans (show Ext (w.alloc (.cells #[.int .u64 (s : Int), .int .i64 ru, .int .i64 on, .int .i64 e, .slice Af fr.length cf] 49)) _ by repeat (first | exact Ext.refl _ | assumption | apply Ext.alloc | apply Ext.drew)) hx).alloc (.cells #[.int .i64 n.op, .int .i64 n.i, .int .i64 n.e, .int .i64 n.g, .int .i64 n.x, .int .i64 n.y] 68))
      have z0a := (X1.out.cell (p := ⟨w.heap.size, 0, none⟩) ZLT.out).trans Z.out.1
      have z2a := (X1.out.cell (p := ⟨w.heap.size, 2, none⟩) ZLT.out).trans Z.out.2.1
      have z3a := (X1.out.cell (p := ⟨w.heap.size, 3, none⟩) ZLT.out).trans Z.out.2.2
      clear hx
      go_wp2_with fail
      refine (premises_any (H.out.ext (X0.out.trans (X1.out.trans xw))) at_ HAT.out _ [] (Sets.none_ _)).mono ?_
      rintro e2 w9 ⟨rfl, hx⟩
      have HE := Lib.hid (show closedN base opps steps at_ = premN steps at_ [] by rw [HC.out, HON.out, HEE.out]; rfl)
      go_wp2_with fail
      go_ret
      exact ⟨by rw [HE.out] <;> rfl, X0.out.trans (X1.out.trans (Ext.trans xw hx))⟩
end Go.Proofs.YtdpblciohodgcaaGreatDoor

/- What the walk of sequent's correct stands on: rows of sets made by the call, the node of a step. -/

namespace Go.Proofs.YtdpblciohodgcaaGreatDoor
open Go.RowKit

theorem sets_one {w : World} {a : Int} {A B : Nat} (h : a = (A : Int)) (hA : A < 18446744073709551616) (hB : B = w.heap.size) : Sets (w.alloc (.cells #[.int .u64 a] 37)) (.slice (some ⟨B, 0, none⟩) 1 1) [A] := by
  subst h hB
  refine ⟨_, _, rfl, Nat.le_refl _, by unfold maxLen; omega, fun _ => ⟨_, rfl, by simp, fun k z hk => ?_⟩⟩
  match k, hk with
  | 0, hk => simp at hk; subst hk; exact ⟨row_new w _ _ 0 _ (by simp), hA⟩
theorem sets_two {w : World} {a b : Int} {A B C : Nat} (h : a = (A : Int)) (hA : A < 18446744073709551616) (g : b = (B : Int)) (hB : B < 18446744073709551616) (hC : C = w.heap.size) :
    Sets (w.alloc (.cells #[.int .u64 a, .int .u64 b] 37)) (.slice (some ⟨C, 0, none⟩) 2 2) [A, B] := by
  subst h g hC
  refine ⟨_, _, rfl, Nat.le_refl _, by unfold maxLen; omega, fun _ => ⟨_, rfl, by simp, fun k z hk => ?_⟩⟩
  match k, hk with
  | 0, hk => simp at hk; subst hk; exact ⟨row_new w _ _ 0 _ (by simp), hA⟩
  | 1, hk => simp at hk; subst hk; exact ⟨row_new w _ _ 1 _ (by simp), hB⟩
theorem on_true {base : List Nd} {x : Stp} {op : Int} (h : onN base x op = true) : ∃ (k : Nat) (n : Nd), x.on = (k : Int) ∧ base[k]? = some n ∧ n.op = op ∧ onV base x op = n ∧ nodeOn base x = n := by
  have h' := h
  unfold onN at h
  simp only [Bool.not_eq_true', Bool.or_eq_false_iff, decide_eq_false_iff_not] at h
  obtain ⟨h1, h2, h3⟩ := h
  have h2 : inS x.set x.on = true := by simpa using h2
  obtain ⟨h4, h5⟩ := inS_range h2
  obtain ⟨k, hk⟩ := Int.eq_ofNat_of_zero_le h4
  have hl : k < base.length := by omega
  have hn : base[k]? = some base[k] := List.getElem?_eq_getElem hl
  have he : base.getD x.on.toNat Nd.zero = base[k] := by rw [hk, Int.toNat_natCast, List.getD_eq_getElem?_getD, hn]; rfl
  refine ⟨k, base[k], hk, hn, ?_, ?_, he⟩
  · rw [he] at h3
    simpa using h3
  · unfold onV nodeOn
    rw [h', he]
    rfl
theorem opposed_true {opps : List Int} {on e : Int} (h : opposedN opps on e = true) (hl : opps.length ≤ 64) (hz : ∀ z ∈ opps, z < 64) : ∃ k j : Nat, on = (k : Int) ∧ e = (j : Int) ∧ k < 64 ∧ j < 64 := by
  unfold opposedN at h
  simp only [Bool.and_eq_true, decide_eq_true_eq, beq_iff_eq] at h
  obtain ⟨h1, h2, h3, h4⟩ := h
  obtain ⟨k, rfl⟩ := Int.eq_ofNat_of_zero_le h1
  obtain ⟨j, rfl⟩ := Int.eq_ofNat_of_zero_le h3
  have hk : k < opps.length := by omega
  have hm := hz _ (List.getElem_mem hk)
  rw [Int.toNat_natCast, List.getD_eq_getElem?_getD, List.getElem?_eq_getElem hk] at h4
  simp only [Option.getD_some] at h4
  exact ⟨k, j, rfl, rfl, by omega, by omega⟩
theorem pow_or {c x : Nat} (hc : c < 18446744073709551616) (hx : x < 64) : bits .or .u64 ((2 : Int) ^ x) (c : Int) = ((2 ^ x ||| c : Nat) : Int) := by
  rw [show ((2 : Int) ^ x) = ((2 ^ x : Nat) : Int) by simp]
  exact bits_or_u64_nat _ _ (two_pow_lt64 hx) hc
end Go.Proofs.YtdpblciohodgcaaGreatDoor
