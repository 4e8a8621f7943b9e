/- The reference's makePositive. -/
import Derived.Test.YtfcmdiigfgbgbaaGreatGL
import Derived.Test.YtfcmdiigfgbgbaaGreatGM

namespace Go.Proofs.YtfcmdiigfgbgbaaGreat
open Go.RowKit

theorem fml_none (w : World) : Fml w (.slice none 0 0) [] := ⟨⟨none, 0, rfl, Nat.le_refl _, by unfold maxLen; omega, fun h => absurd rfl h⟩, by simp⟩
section
variable {W0 w w' : World} {bn b1 b2 b3 b4 cp : Nat} {A : Option Addr} {c : List Nd}
theorem REnv.node (h : REnv W0 w bn b1 b2 b3 b4 A cp c) {i : Nat} {n : Nd} (hn : c[i]? = some n) : ∃ ad, A = some ad ∧ NdAt w (ad.add (i * 6)) n ∧ c.length ≤ cp ∧ cp ≤ maxLen := by
  obtain ⟨⟨A', c', e, h1, h2, h3⟩, _⟩ := h.nds
  injection e with e1 _ e3
  subst e1 e3
  obtain ⟨ad, rfl, hlt, hc⟩ := h3 (fun e => by rw [e] at hn; cases hn)
  exact ⟨ad, rfl, (hc i n hn).keep fun p hp => h.ext.cell (p := p) (by rw [hp, block_of_add]; exact hlt), h1, h2⟩
theorem LStep.box {R : List Nat} (hs : LStep R w w') {b : Nat} {o : Obj} (hb : w.heap[b]? = some o) (hn : b ∉ R) : w'.heap[b]? = some o := (hs.block b (lt_heap hb) hn).trans hb
theorem REnv.new_ (h : REnv W0 w bn b1 b2 b3 b4 A cp c) : w.heap.size ∉ [b1, b2, b3, b4] := fun hm => by
  have := h.lts _ hm
  omega
end
set_option maxRecDepth 100000 in
set_option maxHeartbeats 4000000 in
theorem mkpos_not {W0 : World} {bn b1 b2 b3 b4 cp : Nat} {A : Option Addr} {c : List Nd} {i : Nat} {n : Nd} (hc : Wf c) (hn : c[i]? = some n) (hop : n.op = 4) (hx : NegSaid W0 bn b1 b2 b3 b4 A cp c n.x) : MakePosSaid W0 bn b1 b2 b3 b4 A cp c i := by
  intro w henv
  rw [Int.toNat_natCast]
  have HE := Lib.hid henv
  have HX := Lib.hid hx
  have hi := (List.getElem?_eq_some_iff.1 hn).1
  have hi1 : (i : Int) < (c.length : Int) := by omega
  obtain ⟨⟨q0, q1, q2, q3, q4⟩, qlt⟩ := cells5 henv.blk
  obtain ⟨ad, rfl, ⟨a0, a1, a2, a3, a4, a5⟩, hcap, hmax⟩ := henv.node hn
  unfold maxLen at hmax
  obtain ⟨o, i1, e1, k1, x, y⟩ := n
  simp only at hop
  subst hop
  have HR : Hid (nnfN c false i = nnfN c true x.toNat) := Lib.hid (by
    rw [nnfN_eq hc hn]
    rfl)
  clear henv hx hn hc
  go_enter Tryz.func90, Tryz.ntmps90
  go_wp2_with fail
  refine (HX.out _ (HE.out.keep ((Ext.refl _).alloc _))).mono ?_
  rintro e w1 ⟨u, rfl, he, hs, hu⟩
  have E1 := Lib.hid he
  have S1 := Lib.hid hs
  have F1 : Hid (Fml w1 u (nnfN c false i)) := Lib.hid (by rw [HR.out]; exact hu)
  obtain ⟨Au, cu, rfl, _⟩ := fml_slice hu
  clear he hs hu
  go_wp2_with fail
  go_ret
  exact ⟨_, rfl, E1.out, (LStep.of_ext ((Ext.refl _).alloc _)).trans S1.out, F1.out⟩
set_option maxRecDepth 100000 in
set_option maxHeartbeats 8000000 in
theorem mkpos_re {W0 : World} {bn b1 b2 b3 b4 cp : Nat} {A : Option Addr} {c : List Nd} {i : Nat} {n : Nd} (hc : Wf c) (hn : c[i]? = some n) (hd : headOk n) (hok : n.ok) (hop : OpN n) (h4 : n.op ≠ 4) (hx : hasX n.op = true → PosSaid W0 bn b1 b2 b3 b4 A cp c n.x) (hy : hasY n.op = true → PosSaid W0 bn b1 b2 b3 b4 A cp c n.y) : MakePosSaid W0 bn b1 b2 b3 b4 A cp c i := by
  intro w henv
  rw [Int.toNat_natCast]
  have HE := Lib.hid henv
  have hi := (List.getElem?_eq_some_iff.1 hn).1
  have hi1 : (i : Int) < (c.length : Int) := by omega
  obtain ⟨⟨q0, q1, q2, q3, q4⟩, qlt⟩ := cells5 henv.blk
  obtain ⟨ad, rfl, ⟨a0, a1, a2, a3, a4, a5⟩, hcap, hmax⟩ := henv.node hn
  unfold maxLen at hmax
  have hq4 : (n.op == 4) = false := by simpa using h4
  have hq7 : (n.op == 7) = false := by simpa using hop.2.1
  have hq8 : (n.op == 8) = false := by simpa using hop.2.2
  have hr := (nnfN_eq hc hn false).trans (rebuild_pos hd hop.1 h4 hop.2.1 hop.2.2 (fun b j => nnfN c b j.toNat))
  have HD := Lib.hid hd
  have HOK := Lib.hid hok
  have HNW := Lib.hid henv.new_
  rcases xy_cases n.op with ⟨hux, huy⟩ | ⟨hux, huy⟩ | ⟨hux, huy⟩
  · have HUX := Lib.hid hux; have HUY := Lib.hid huy
    obtain ⟨o, i1, e1, k1, x, y⟩ := n
    have HR : Hid (nnfN c false i = rebuildN ⟨o, i1, e1, k1, x, y⟩ [] []) := Lib.hid (by first | exact hr | (rw [hr]; unfold rebuildN; simp only [hux, huy] <;> rfl))
    simp only at hq4 hq7 hq8
    have hbx : (w.alloc (.cells #[.int .i64 o, .int .i64 i1, .int .i64 e1, .int .i64 k1, .int .i64 x, .int .i64 y] 53)).heap[w.heap.size]? = some (.cells #[.int .i64 o, .int .i64 i1, .int .i64 e1, .int .i64 k1, .int .i64 x, .int .i64 y] 53 (0, 0)) := heap_alloc_new _ _
    have B0 := Lib.hid hbx
    have X0 := Lib.hid ((Ext.refl w).alloc (.cells #[.int .i64 o, .int .i64 i1, .int .i64 e1, .int .i64 k1, .int .i64 x, .int .i64 y] 53))
    have E0 := Lib.hid (henv.keep X0.out)
    clear henv hx hy hn hc hd hok hop h4 hr hux huy hbx
    go_enter Tryz.func90, Tryz.ntmps90
    go_wp2_with (first | (go_at_call 80; refine (usesX_as HUX.out _).mono ?_; rintro e5 w5 ⟨rfl, rfl⟩) | (go_at_call 81; refine (usesY_as HUY.out _).mono ?_; rintro e5 w5 ⟨rfl, rfl⟩))
    refine (rebuild_any ⟨o, i1, e1, k1, x, y⟩ _ _ [] [] _ HD.out HOK.out (fml_none _) (fml_none _)).mono ?_
    rintro e w3 ⟨u3, rfl, hm⟩
    rw [← HR.out] at hm
    have E3 := Lib.hid (E0.out.keep hm.2.2)
    have S3 := Lib.hid ((LStep.of_ext (R := [b1, b2, b3, b4]) X0.out).trans (LStep.of_ext hm.2.2))
    have F3 := Lib.hid hm.fml
    obtain ⟨A3, c3, rfl, _⟩ := fml_slice hm.fml
    clear hm
    go_wp2_with fail
    go_ret
    exact ⟨_, rfl, E3.out, S3.out, F3.out⟩
  · have HUX := Lib.hid hux; have HUY := Lib.hid huy
    have HX := Lib.hid (hx hux)
    obtain ⟨o, i1, e1, k1, x, y⟩ := n
    have HR : Hid (nnfN c false i = rebuildN ⟨o, i1, e1, k1, x, y⟩ (nnfN c false x.toNat) []) := Lib.hid (by first | exact hr | (rw [hr]; unfold rebuildN; simp only [hux, huy] <;> rfl))
    simp only at hq4 hq7 hq8
    have hbx : (w.alloc (.cells #[.int .i64 o, .int .i64 i1, .int .i64 e1, .int .i64 k1, .int .i64 x, .int .i64 y] 53)).heap[w.heap.size]? = some (.cells #[.int .i64 o, .int .i64 i1, .int .i64 e1, .int .i64 k1, .int .i64 x, .int .i64 y] 53 (0, 0)) := heap_alloc_new _ _
    have B0 := Lib.hid hbx
    have X0 := Lib.hid ((Ext.refl w).alloc (.cells #[.int .i64 o, .int .i64 i1, .int .i64 e1, .int .i64 k1, .int .i64 x, .int .i64 y] 53))
    have E0 := Lib.hid (henv.keep X0.out)
    clear henv hx hy hn hc hd hok hop h4 hr hux huy hbx
    go_enter Tryz.func90, Tryz.ntmps90
    go_wp2_with (first | (go_at_call 80; refine (usesX_as HUX.out _).mono ?_; rintro e5 w5 ⟨rfl, rfl⟩) | (go_at_call 81; refine (usesY_as HUY.out _).mono ?_; rintro e5 w5 ⟨rfl, rfl⟩))
    refine (HX.out _ E0.out).mono ?_
    rintro e w1 ⟨u1, rfl, he, hs, hu⟩
    have E1 := Lib.hid he
    have S1 := Lib.hid (LStep.trans (LStep.of_ext X0.out) hs)
    have B1 := Lib.hid (hs.box B0.out HNW.out)
    have F1 := Lib.hid hu
    obtain ⟨A1, c1, rfl, _⟩ := fml_slice hu
    obtain ⟨⟨z0, z1, z2, z3, z4, z5⟩, _, _⟩ := cells6 B1.out
    clear he hs hu
    go_wp2_with (first | (go_at_call 80; refine (usesX_as HUX.out _).mono ?_; rintro e5 w5 ⟨rfl, rfl⟩) | (go_at_call 81; refine (usesY_as HUY.out _).mono ?_; rintro e5 w5 ⟨rfl, rfl⟩))
    refine (rebuild_any ⟨o, i1, e1, k1, x, y⟩ _ _ (nnfN c false x.toNat) [] _ HD.out HOK.out F1.out (fml_none _)).mono ?_
    rintro e w3 ⟨u3, rfl, hm⟩
    rw [← HR.out] at hm
    have E3 := Lib.hid (E1.out.keep hm.2.2)
    have S3 := Lib.hid (S1.out.trans (LStep.of_ext hm.2.2))
    have F3 := Lib.hid hm.fml
    obtain ⟨A3, c3, rfl, _⟩ := fml_slice hm.fml
    clear hm
    go_wp2_with fail
    go_ret
    exact ⟨_, rfl, E3.out, S3.out, F3.out⟩
  · have HUX := Lib.hid hux; have HUY := Lib.hid huy
    have HX := Lib.hid (hx hux)
    have HY := Lib.hid (hy huy)
    obtain ⟨o, i1, e1, k1, x, y⟩ := n
    have HR : Hid (nnfN c false i = rebuildN ⟨o, i1, e1, k1, x, y⟩ (nnfN c false x.toNat) (nnfN c false y.toNat)) := Lib.hid (by first | exact hr | (rw [hr]; unfold rebuildN; simp only [hux, huy] <;> rfl))
    simp only at hq4 hq7 hq8
    have hbx : (w.alloc (.cells #[.int .i64 o, .int .i64 i1, .int .i64 e1, .int .i64 k1, .int .i64 x, .int .i64 y] 53)).heap[w.heap.size]? = some (.cells #[.int .i64 o, .int .i64 i1, .int .i64 e1, .int .i64 k1, .int .i64 x, .int .i64 y] 53 (0, 0)) := heap_alloc_new _ _
    have B0 := Lib.hid hbx
    have X0 := Lib.hid ((Ext.refl w).alloc (.cells #[.int .i64 o, .int .i64 i1, .int .i64 e1, .int .i64 k1, .int .i64 x, .int .i64 y] 53))
    have E0 := Lib.hid (henv.keep X0.out)
    clear henv hx hy hn hc hd hok hop h4 hr hux huy hbx
    go_enter Tryz.func90, Tryz.ntmps90
    go_wp2_with (first | (go_at_call 80; refine (usesX_as HUX.out _).mono ?_; rintro e5 w5 ⟨rfl, rfl⟩) | (go_at_call 81; refine (usesY_as HUY.out _).mono ?_; rintro e5 w5 ⟨rfl, rfl⟩))
    refine (HX.out _ E0.out).mono ?_
    rintro e w1 ⟨u1, rfl, he, hs, hu⟩
    have E1 := Lib.hid he
    have S1 := Lib.hid (LStep.trans (LStep.of_ext X0.out) hs)
    have B1 := Lib.hid (hs.box B0.out HNW.out)
    have F1 := Lib.hid hu
    obtain ⟨A1, c1, rfl, _⟩ := fml_slice hu
    obtain ⟨⟨z0, z1, z2, z3, z4, z5⟩, _, _⟩ := cells6 B1.out
    clear he hs hu
    go_wp2_with (first | (go_at_call 80; refine (usesX_as HUX.out _).mono ?_; rintro e5 w5 ⟨rfl, rfl⟩) | (go_at_call 81; refine (usesY_as HUY.out _).mono ?_; rintro e5 w5 ⟨rfl, rfl⟩))
    refine (HY.out _ E1.out).mono ?_
    rintro e w2 ⟨u2, rfl, he, hs, hu⟩
    have E2 := Lib.hid he
    have S2 := Lib.hid (S1.out.trans hs)
    have B2 := Lib.hid (hs.box B1.out HNW.out)
    have F2 := Lib.hid hu
    have F12 := Lib.hid (E1.out.fml F1.out hs)
    obtain ⟨A2, c2, rfl, _⟩ := fml_slice hu
    clear he hs hu z0 z1 z2 z3 z4 z5
    obtain ⟨⟨z0, z1, z2, z3, z4, z5⟩, _, _⟩ := cells6 B2.out
    go_wp2_with (first | (go_at_call 80; refine (usesX_as HUX.out _).mono ?_; rintro e5 w5 ⟨rfl, rfl⟩) | (go_at_call 81; refine (usesY_as HUY.out _).mono ?_; rintro e5 w5 ⟨rfl, rfl⟩))
    refine (rebuild_any ⟨o, i1, e1, k1, x, y⟩ _ _ (nnfN c false x.toNat) (nnfN c false y.toNat) _ HD.out HOK.out F12.out F2.out).mono ?_
    rintro e w3 ⟨u3, rfl, hm⟩
    rw [← HR.out] at hm
    have E3 := Lib.hid (E2.out.keep hm.2.2)
    have S3 := Lib.hid (S2.out.trans (LStep.of_ext hm.2.2))
    have F3 := Lib.hid hm.fml
    obtain ⟨A3, c3, rfl, _⟩ := fml_slice hm.fml
    clear hm
    go_wp2_with fail
    go_ret
    exact ⟨_, rfl, E3.out, S3.out, F3.out⟩
end Go.Proofs.YtfcmdiigfgbgbaaGreat

/- The reference's makeNegative. -/

namespace Go.Proofs.YtfcmdiigfgbgbaaGreat
open Go.RowKit

set_option maxRecDepth 100000 in
set_option maxHeartbeats 8000000 in
theorem mkneg_1 {W0 : World} {bn b1 b2 b3 b4 cp : Nat} {A : Option Addr} {c : List Nd} {i : Nat} {n : Nd} (hc : Wf c) (hn : c[i]? = some n) (hop : n.op = 1) : MakeNegSaid W0 bn b1 b2 b3 b4 A cp c i := by
  intro w henv
  rw [Int.toNat_natCast]
  have HE := Lib.hid henv
  have hi := (List.getElem?_eq_some_iff.1 hn).1
  have hi1 : (i : Int) < (c.length : Int) := by omega
  obtain ⟨⟨q0, q1, q2, q3, q4⟩, qlt⟩ := cells5 henv.blk
  obtain ⟨ad, rfl, ⟨a0, a1, a2, a3, a4, a5⟩, hcap, hmax⟩ := henv.node hn
  unfold maxLen at hmax
  have HNW := Lib.hid henv.new_
  obtain ⟨o, i1, e1, k1, x, y⟩ := n
  simp only at hop
  subst hop
  have HR : Hid (nnfN c true i = falseN) := Lib.hid (by
    rw [nnfN_eq hc hn]
    rfl)
  have hbx : (w.alloc (.cells #[.int .i64 1, .int .i64 i1, .int .i64 e1, .int .i64 k1, .int .i64 x, .int .i64 y] 53)).heap[w.heap.size]? = some (.cells #[.int .i64 1, .int .i64 i1, .int .i64 e1, .int .i64 k1, .int .i64 x, .int .i64 y] 53 (0, 0)) := heap_alloc_new _ _
  have B0 := Lib.hid hbx
  have X0 := Lib.hid ((Ext.refl w).alloc (.cells #[.int .i64 1, .int .i64 i1, .int .i64 e1, .int .i64 k1, .int .i64 x, .int .i64 y] 53))
  have E0 := Lib.hid (henv.keep X0.out)
  clear henv hbx hn hc
  go_enter Tryz.func115, Tryz.ntmps115
  go_wp2_with fail
  refine (rFalse_any _).mono ?_
  rintro e w1 ⟨u, rfl, hm⟩
  rw [← HR.out] at hm
  have E1 := Lib.hid (E0.out.keep hm.2.2)
  have S1 := Lib.hid (LStep.of_ext (R := [b1, b2, b3, b4]) (X0.out.trans hm.2.2))
  have F1 := Lib.hid hm.fml
  obtain ⟨A1, c1, rfl, _⟩ := fml_slice hm.fml
  clear hm
  go_wp2_with fail
  go_ret
  exact ⟨_, rfl, E1.out, S1.out, F1.out⟩
set_option maxRecDepth 100000 in
set_option maxHeartbeats 8000000 in
theorem mkneg_2 {W0 : World} {bn b1 b2 b3 b4 cp : Nat} {A : Option Addr} {c : List Nd} {i : Nat} {n : Nd} (hc : Wf c) (hn : c[i]? = some n) (hop : n.op = 2) : MakeNegSaid W0 bn b1 b2 b3 b4 A cp c i := by
  intro w henv
  rw [Int.toNat_natCast]
  have HE := Lib.hid henv
  have hi := (List.getElem?_eq_some_iff.1 hn).1
  have hi1 : (i : Int) < (c.length : Int) := by omega
  obtain ⟨⟨q0, q1, q2, q3, q4⟩, qlt⟩ := cells5 henv.blk
  obtain ⟨ad, rfl, ⟨a0, a1, a2, a3, a4, a5⟩, hcap, hmax⟩ := henv.node hn
  unfold maxLen at hmax
  have HNW := Lib.hid henv.new_
  obtain ⟨o, i1, e1, k1, x, y⟩ := n
  simp only at hop
  subst hop
  have HR : Hid (nnfN c true i = trueN) := Lib.hid (by
    rw [nnfN_eq hc hn]
    rfl)
  have hbx : (w.alloc (.cells #[.int .i64 2, .int .i64 i1, .int .i64 e1, .int .i64 k1, .int .i64 x, .int .i64 y] 53)).heap[w.heap.size]? = some (.cells #[.int .i64 2, .int .i64 i1, .int .i64 e1, .int .i64 k1, .int .i64 x, .int .i64 y] 53 (0, 0)) := heap_alloc_new _ _
  have B0 := Lib.hid hbx
  have X0 := Lib.hid ((Ext.refl w).alloc (.cells #[.int .i64 2, .int .i64 i1, .int .i64 e1, .int .i64 k1, .int .i64 x, .int .i64 y] 53))
  have E0 := Lib.hid (henv.keep X0.out)
  clear henv hbx hn hc
  go_enter Tryz.func115, Tryz.ntmps115
  go_wp2_with fail
  refine (rTrue_any _).mono ?_
  rintro e w1 ⟨u, rfl, hm⟩
  rw [← HR.out] at hm
  have E1 := Lib.hid (E0.out.keep hm.2.2)
  have S1 := Lib.hid (LStep.of_ext (R := [b1, b2, b3, b4]) (X0.out.trans hm.2.2))
  have F1 := Lib.hid hm.fml
  obtain ⟨A1, c1, rfl, _⟩ := fml_slice hm.fml
  clear hm
  go_wp2_with fail
  go_ret
  exact ⟨_, rfl, E1.out, S1.out, F1.out⟩
set_option maxRecDepth 100000 in
set_option maxHeartbeats 8000000 in
theorem mkneg_4 {W0 : World} {bn b1 b2 b3 b4 cp : Nat} {A : Option Addr} {c : List Nd} {i : Nat} {n : Nd} (hc : Wf c) (hn : c[i]? = some n) (hop : n.op = 4) (hx : PosSaid W0 bn b1 b2 b3 b4 A cp c n.x) : MakeNegSaid W0 bn b1 b2 b3 b4 A cp c i := by
  intro w henv
  rw [Int.toNat_natCast]
  have HE := Lib.hid henv
  have hi := (List.getElem?_eq_some_iff.1 hn).1
  have hi1 : (i : Int) < (c.length : Int) := by omega
  obtain ⟨⟨q0, q1, q2, q3, q4⟩, qlt⟩ := cells5 henv.blk
  obtain ⟨ad, rfl, ⟨a0, a1, a2, a3, a4, a5⟩, hcap, hmax⟩ := henv.node hn
  unfold maxLen at hmax
  have HNW := Lib.hid henv.new_
  have HX := Lib.hid hx
  obtain ⟨o, i1, e1, k1, x, y⟩ := n
  simp only at hop
  subst hop
  have HR : Hid (nnfN c true i = nnfN c false x.toNat) := Lib.hid (by
    rw [nnfN_eq hc hn]
    rfl)
  have hbx : (w.alloc (.cells #[.int .i64 4, .int .i64 i1, .int .i64 e1, .int .i64 k1, .int .i64 x, .int .i64 y] 53)).heap[w.heap.size]? = some (.cells #[.int .i64 4, .int .i64 i1, .int .i64 e1, .int .i64 k1, .int .i64 x, .int .i64 y] 53 (0, 0)) := heap_alloc_new _ _
  have B0 := Lib.hid hbx
  have X0 := Lib.hid ((Ext.refl w).alloc (.cells #[.int .i64 4, .int .i64 i1, .int .i64 e1, .int .i64 k1, .int .i64 x, .int .i64 y] 53))
  have E0 := Lib.hid (henv.keep X0.out)
  clear henv hbx hx hn hc
  go_enter Tryz.func115, Tryz.ntmps115
  go_wp2_with fail
  refine (HX.out _ E0.out).mono ?_
  rintro e w1 ⟨u, rfl, he, hs, hu⟩
  have E1 := Lib.hid he
  have S1 := Lib.hid (LStep.trans (LStep.of_ext X0.out) hs)
  have F1 : Hid (Fml w1 u (nnfN c true i)) := Lib.hid (by rw [HR.out]; exact hu)
  obtain ⟨Au, cu, rfl, _⟩ := fml_slice hu
  clear he hs hu
  go_wp2_with fail
  go_ret
  exact ⟨_, rfl, E1.out, S1.out, F1.out⟩
set_option maxRecDepth 100000 in
set_option maxHeartbeats 8000000 in
theorem mkneg_3 {W0 : World} {bn b1 b2 b3 b4 cp : Nat} {A : Option Addr} {c : List Nd} {i : Nat} {n : Nd} (hc : Wf c) (hn : c[i]? = some n) (hop : n.op = 3) (hp : PosSaid W0 bn b1 b2 b3 b4 A cp c i) : MakeNegSaid W0 bn b1 b2 b3 b4 A cp c i := by
  intro w henv
  rw [Int.toNat_natCast]
  have HE := Lib.hid henv
  have hi := (List.getElem?_eq_some_iff.1 hn).1
  have hi1 : (i : Int) < (c.length : Int) := by omega
  obtain ⟨⟨q0, q1, q2, q3, q4⟩, qlt⟩ := cells5 henv.blk
  obtain ⟨ad, rfl, ⟨a0, a1, a2, a3, a4, a5⟩, hcap, hmax⟩ := henv.node hn
  unfold maxLen at hmax
  have HNW := Lib.hid henv.new_
  have HP := Lib.hid hp
  have hps : nnfN c false i = posS n (fun b j => nnfN c b j.toNat) := nnfN_eq hc hn false
  obtain ⟨o, i1, e1, k1, x, y⟩ := n
  simp only at hop
  subst hop
  have HR : Hid (nnfN c true i = notN (nnfN c false i)) := Lib.hid (by
    rw [nnfN_eq hc hn true, hps]
    rfl)
  have hbx : (w.alloc (.cells #[.int .i64 3, .int .i64 i1, .int .i64 e1, .int .i64 k1, .int .i64 x, .int .i64 y] 53)).heap[w.heap.size]? = some (.cells #[.int .i64 3, .int .i64 i1, .int .i64 e1, .int .i64 k1, .int .i64 x, .int .i64 y] 53 (0, 0)) := heap_alloc_new _ _
  have B0 := Lib.hid hbx
  have X0 := Lib.hid ((Ext.refl w).alloc (.cells #[.int .i64 3, .int .i64 i1, .int .i64 e1, .int .i64 k1, .int .i64 x, .int .i64 y] 53))
  have E0 := Lib.hid (henv.keep X0.out)
  clear henv hbx hp hn hc hps
  go_enter Tryz.func115, Tryz.ntmps115
  go_wp2_with fail
  refine (HP.out _ E0.out).mono ?_
  rw [Int.toNat_natCast]
  rintro e w1 ⟨u, rfl, he, hs, hu⟩
  have E1 := Lib.hid he
  have S1 := Lib.hid (LStep.trans (LStep.of_ext X0.out) hs)
  have F1 := Lib.hid hu
  obtain ⟨Au, cu, rfl, _⟩ := fml_slice hu
  clear he hs hu
  go_wp2_with fail
  refine (rNot_any _ _ _ F1.out).mono ?_
  rintro e w2 ⟨u2, rfl, hm⟩
  rw [← HR.out] at hm
  have E2 := Lib.hid (E1.out.keep hm.2.2)
  have S2 := Lib.hid (S1.out.trans (LStep.of_ext hm.2.2))
  have F2 := Lib.hid hm.fml
  obtain ⟨A2, c2, rfl, _⟩ := fml_slice hm.fml
  clear hm
  go_wp2_with fail
  go_ret
  exact ⟨_, rfl, E2.out, S2.out, F2.out⟩
set_option maxRecDepth 100000 in
set_option maxHeartbeats 8000000 in
theorem mkneg_5 {W0 : World} {bn b1 b2 b3 b4 cp : Nat} {A : Option Addr} {c : List Nd} {i : Nat} {n : Nd} (hc : Wf c) (hn : c[i]? = some n) (hop : n.op = 5) (hx : NegSaid W0 bn b1 b2 b3 b4 A cp c n.x) (hy : NegSaid W0 bn b1 b2 b3 b4 A cp c n.y) : MakeNegSaid W0 bn b1 b2 b3 b4 A cp c i := by
  intro w henv
  rw [Int.toNat_natCast]
  have HE := Lib.hid henv
  have hi := (List.getElem?_eq_some_iff.1 hn).1
  have hi1 : (i : Int) < (c.length : Int) := by omega
  obtain ⟨⟨q0, q1, q2, q3, q4⟩, qlt⟩ := cells5 henv.blk
  obtain ⟨ad, rfl, ⟨a0, a1, a2, a3, a4, a5⟩, hcap, hmax⟩ := henv.node hn
  unfold maxLen at hmax
  have HNW := Lib.hid henv.new_
  have HX := Lib.hid hx
  have HY := Lib.hid hy
  obtain ⟨o, i1, e1, k1, x, y⟩ := n
  simp only at hop
  subst hop
  have HR : Hid (nnfN c true i = orN (nnfN c true x.toNat) (nnfN c true y.toNat)) := Lib.hid (by
    rw [nnfN_eq hc hn]
    rfl)
  have hbx : (w.alloc (.cells #[.int .i64 5, .int .i64 i1, .int .i64 e1, .int .i64 k1, .int .i64 x, .int .i64 y] 53)).heap[w.heap.size]? = some (.cells #[.int .i64 5, .int .i64 i1, .int .i64 e1, .int .i64 k1, .int .i64 x, .int .i64 y] 53 (0, 0)) := heap_alloc_new _ _
  have B0 := Lib.hid hbx
  have X0 := Lib.hid ((Ext.refl w).alloc (.cells #[.int .i64 5, .int .i64 i1, .int .i64 e1, .int .i64 k1, .int .i64 x, .int .i64 y] 53))
  have E0 := Lib.hid (henv.keep X0.out)
  clear henv hbx hx hy hn hc
  go_enter Tryz.func115, Tryz.ntmps115
  have HK := Lib.hid (show ∀ w', LStep [b1, b2, b3, b4] (w.alloc (.cells #[.int .i64 5, .int .i64 i1, .int .i64 e1, .int .i64 k1, .int .i64 x, .int .i64 y] 53)) w' → (w'.cell? ⟨w.heap.size, 4, none⟩ = some (.int .i64 x) ∧ w'.cell? ⟨w.heap.size, 5, none⟩ = some (.int .i64 y) ∧ w'.cell? ⟨w.heap.size, 1, none⟩ = some (.int .i64 i1)) from fun w' hs => by
    obtain ⟨⟨z0, z1, z2, z3, z4, z5⟩, _, _⟩ := cells6 (hs.box B0.out HNW.out)
    exact ⟨z4, z5, z1⟩)
  go_wp2_with fail
  obtain ⟨W, hW⟩ : ∃ W, W = w.alloc (.cells #[.int .i64 5, .int .i64 i1, .int .i64 e1, .int .i64 k1, .int .i64 x, .int .i64 y] 53) := ⟨_, rfl⟩
  rw [← hW] at X0 E0 B0 HK ⊢
  clear hW
  have KS := HK.out W (LStep.refl _)
  go_region_held3 (fun w' => w'.cell? ⟨w.heap.size, 4, none⟩ = some (.int .i64 x) ∧ w'.cell? ⟨w.heap.size, 5, none⟩ = some (.int .i64 y) ∧ w'.cell? ⟨w.heap.size, 1, none⟩ = some (.int .i64 i1)) (first | exact KS | exact KSa | exact KSb | exact KSc | go_keep) (first | (have hq := Eb.out; clear hq; go_at_call 100; refine (rOr_any _ _ (nnfN c true x.toNat) (nnfN c true y.toNat) _ (by exact Fab.out.ext (by repeat (first | exact Ext.refl _ | assumption | apply Ext.alloc | apply Ext.drew))) (by exact Fbb.out.ext (by repeat (first | exact Ext.refl _ | assumption | apply Ext.alloc | apply Ext.drew)))).mono ?_; rintro e wc ⟨uc, rfl, hmc⟩; have hxc : Ext wb wc := Ext.trans (by repeat (first | exact Ext.refl _ | assumption | apply Ext.alloc | apply Ext.drew)) hmc.2.2; have Ec := Lib.hid (Eb.out.keep hxc); have Sc := Lib.hid (Sb.out.trans (LStep.of_ext hxc)); have Fcc := Lib.hid hmc.fml; obtain ⟨Ac, cc, rfl, _⟩ := fml_slice hmc.fml; have KSc := HK.out _ Sc.out; clear hmc hxc) | (have hq := Ea.out; clear hq; go_at_call 99; refine (HY.out _ (by exact Ea.out.keep (by repeat (first | exact Ext.refl _ | assumption | apply Ext.alloc | apply Ext.drew)))).mono ?_; rintro e wb ⟨ub, rfl, heb, hsb, hub⟩; have Eb := Lib.hid heb; have Sb := Lib.hid (LStep.trans (Sa.out.trans (LStep.of_ext (a := wa) (by repeat (first | exact Ext.refl _ | assumption | apply Ext.alloc | apply Ext.drew)))) hsb); have Fbb := Lib.hid hub; have Fab := Lib.hid ((Ea.out.keep (show Ext wa _ from (by repeat (first | exact Ext.refl _ | assumption | apply Ext.alloc | apply Ext.drew)))).fml (Faa.out.ext (by repeat (first | exact Ext.refl _ | assumption | apply Ext.alloc | apply Ext.drew))) hsb); obtain ⟨Ab, cb, rfl, _⟩ := fml_slice hub; have KSb := HK.out _ Sb.out; clear heb hsb hub) | (go_at_call 99; refine (HX.out _ (by exact E0.out.keep (by repeat (first | exact Ext.refl _ | assumption | apply Ext.alloc | apply Ext.drew)))).mono ?_; rintro e wa ⟨ua, rfl, hea, hsa, hua⟩; have Ea := Lib.hid hea; have Sa := Lib.hid (LStep.trans (LStep.of_ext (a := W) (by repeat (first | exact Ext.refl _ | assumption | apply Ext.alloc | apply Ext.drew))) hsa); have Faa := Lib.hid hua; obtain ⟨Aa, ca, rfl, _⟩ := fml_slice hua; have KSa := HK.out _ Sa.out; clear hea hsa hua))
  all_goals
    go_wp2_with fail
    go_ret
    rw [HR.out]
    exact ⟨_, rfl, Ec.out.keep (by repeat (first | exact Ext.refl _ | assumption | apply Ext.alloc | apply Ext.drew)), ((LStep.of_ext X0.out).trans Sc.out).trans (LStep.of_ext (a := wc) (by repeat (first | exact Ext.refl _ | assumption | apply Ext.alloc | apply Ext.drew))), Fcc.out.ext (by repeat (first | exact Ext.refl _ | assumption | apply Ext.alloc | apply Ext.drew))⟩
set_option maxRecDepth 100000 in
set_option maxHeartbeats 8000000 in
theorem mkneg_6 {W0 : World} {bn b1 b2 b3 b4 cp : Nat} {A : Option Addr} {c : List Nd} {i : Nat} {n : Nd} (hc : Wf c) (hn : c[i]? = some n) (hop : n.op = 6) (hx : NegSaid W0 bn b1 b2 b3 b4 A cp c n.x) (hy : NegSaid W0 bn b1 b2 b3 b4 A cp c n.y) : MakeNegSaid W0 bn b1 b2 b3 b4 A cp c i := by
  intro w henv
  rw [Int.toNat_natCast]
  have HE := Lib.hid henv
  have hi := (List.getElem?_eq_some_iff.1 hn).1
  have hi1 : (i : Int) < (c.length : Int) := by omega
  obtain ⟨⟨q0, q1, q2, q3, q4⟩, qlt⟩ := cells5 henv.blk
  obtain ⟨ad, rfl, ⟨a0, a1, a2, a3, a4, a5⟩, hcap, hmax⟩ := henv.node hn
  unfold maxLen at hmax
  have HNW := Lib.hid henv.new_
  have HX := Lib.hid hx
  have HY := Lib.hid hy
  obtain ⟨o, i1, e1, k1, x, y⟩ := n
  simp only at hop
  subst hop
  have HR : Hid (nnfN c true i = andN (nnfN c true x.toNat) (nnfN c true y.toNat)) := Lib.hid (by
    rw [nnfN_eq hc hn]
    rfl)
  have hbx : (w.alloc (.cells #[.int .i64 6, .int .i64 i1, .int .i64 e1, .int .i64 k1, .int .i64 x, .int .i64 y] 53)).heap[w.heap.size]? = some (.cells #[.int .i64 6, .int .i64 i1, .int .i64 e1, .int .i64 k1, .int .i64 x, .int .i64 y] 53 (0, 0)) := heap_alloc_new _ _
  have B0 := Lib.hid hbx
  have X0 := Lib.hid ((Ext.refl w).alloc (.cells #[.int .i64 6, .int .i64 i1, .int .i64 e1, .int .i64 k1, .int .i64 x, .int .i64 y] 53))
  have E0 := Lib.hid (henv.keep X0.out)
  clear henv hbx hx hy hn hc
  go_enter Tryz.func115, Tryz.ntmps115
  have HK := Lib.hid (show ∀ w', LStep [b1, b2, b3, b4] (w.alloc (.cells #[.int .i64 6, .int .i64 i1, .int .i64 e1, .int .i64 k1, .int .i64 x, .int .i64 y] 53)) w' → (w'.cell? ⟨w.heap.size, 4, none⟩ = some (.int .i64 x) ∧ w'.cell? ⟨w.heap.size, 5, none⟩ = some (.int .i64 y) ∧ w'.cell? ⟨w.heap.size, 1, none⟩ = some (.int .i64 i1)) from fun w' hs => by
    obtain ⟨⟨z0, z1, z2, z3, z4, z5⟩, _, _⟩ := cells6 (hs.box B0.out HNW.out)
    exact ⟨z4, z5, z1⟩)
  go_wp2_with fail
  obtain ⟨W, hW⟩ : ∃ W, W = w.alloc (.cells #[.int .i64 6, .int .i64 i1, .int .i64 e1, .int .i64 k1, .int .i64 x, .int .i64 y] 53) := ⟨_, rfl⟩
  rw [← hW] at X0 E0 B0 HK ⊢
  clear hW
  have KS := HK.out W (LStep.refl _)
  go_region_held3 (fun w' => w'.cell? ⟨w.heap.size, 4, none⟩ = some (.int .i64 x) ∧ w'.cell? ⟨w.heap.size, 5, none⟩ = some (.int .i64 y) ∧ w'.cell? ⟨w.heap.size, 1, none⟩ = some (.int .i64 i1)) (first | exact KS | exact KSa | exact KSb | exact KSc | go_keep) (first | (have hq := Eb.out; clear hq; go_at_call 101; refine (rAnd_any _ _ (nnfN c true x.toNat) (nnfN c true y.toNat) _ (by exact Fab.out.ext (by repeat (first | exact Ext.refl _ | assumption | apply Ext.alloc | apply Ext.drew))) (by exact Fbb.out.ext (by repeat (first | exact Ext.refl _ | assumption | apply Ext.alloc | apply Ext.drew)))).mono ?_; rintro e wc ⟨uc, rfl, hmc⟩; have hxc : Ext wb wc := Ext.trans (by repeat (first | exact Ext.refl _ | assumption | apply Ext.alloc | apply Ext.drew)) hmc.2.2; have Ec := Lib.hid (Eb.out.keep hxc); have Sc := Lib.hid (Sb.out.trans (LStep.of_ext hxc)); have Fcc := Lib.hid hmc.fml; obtain ⟨Ac, cc, rfl, _⟩ := fml_slice hmc.fml; have KSc := HK.out _ Sc.out; clear hmc hxc) | (have hq := Ea.out; clear hq; go_at_call 99; refine (HY.out _ (by exact Ea.out.keep (by repeat (first | exact Ext.refl _ | assumption | apply Ext.alloc | apply Ext.drew)))).mono ?_; rintro e wb ⟨ub, rfl, heb, hsb, hub⟩; have Eb := Lib.hid heb; have Sb := Lib.hid (LStep.trans (Sa.out.trans (LStep.of_ext (a := wa) (by repeat (first | exact Ext.refl _ | assumption | apply Ext.alloc | apply Ext.drew)))) hsb); have Fbb := Lib.hid hub; have Fab := Lib.hid ((Ea.out.keep (show Ext wa _ from (by repeat (first | exact Ext.refl _ | assumption | apply Ext.alloc | apply Ext.drew)))).fml (Faa.out.ext (by repeat (first | exact Ext.refl _ | assumption | apply Ext.alloc | apply Ext.drew))) hsb); obtain ⟨Ab, cb, rfl, _⟩ := fml_slice hub; have KSb := HK.out _ Sb.out; clear heb hsb hub) | (go_at_call 99; refine (HX.out _ (by exact E0.out.keep (by repeat (first | exact Ext.refl _ | assumption | apply Ext.alloc | apply Ext.drew)))).mono ?_; rintro e wa ⟨ua, rfl, hea, hsa, hua⟩; have Ea := Lib.hid hea; have Sa := Lib.hid (LStep.trans (LStep.of_ext (a := W) (by repeat (first | exact Ext.refl _ | assumption | apply Ext.alloc | apply Ext.drew))) hsa); have Faa := Lib.hid hua; obtain ⟨Aa, ca, rfl, _⟩ := fml_slice hua; have KSa := HK.out _ Sa.out; clear hea hsa hua))
  all_goals
    go_wp2_with fail
    go_ret
    rw [HR.out]
    exact ⟨_, rfl, Ec.out.keep (by repeat (first | exact Ext.refl _ | assumption | apply Ext.alloc | apply Ext.drew)), ((LStep.of_ext X0.out).trans Sc.out).trans (LStep.of_ext (a := wc) (by repeat (first | exact Ext.refl _ | assumption | apply Ext.alloc | apply Ext.drew))), Fcc.out.ext (by repeat (first | exact Ext.refl _ | assumption | apply Ext.alloc | apply Ext.drew))⟩
set_option maxRecDepth 100000 in
set_option maxHeartbeats 8000000 in
theorem mkneg_9 {W0 : World} {bn b1 b2 b3 b4 cp : Nat} {A : Option Addr} {c : List Nd} {i : Nat} {n : Nd} (hc : Wf c) (hn : c[i]? = some n) (hop : n.op = 9) (hd : headOk n) (hok : n.ok) (hx : NegSaid W0 bn b1 b2 b3 b4 A cp c n.x) : MakeNegSaid W0 bn b1 b2 b3 b4 A cp c i := by
  intro w henv
  rw [Int.toNat_natCast]
  have HE := Lib.hid henv
  have hi := (List.getElem?_eq_some_iff.1 hn).1
  have hi1 : (i : Int) < (c.length : Int) := by omega
  obtain ⟨⟨q0, q1, q2, q3, q4⟩, qlt⟩ := cells5 henv.blk
  obtain ⟨ad, rfl, ⟨a0, a1, a2, a3, a4, a5⟩, hcap, hmax⟩ := henv.node hn
  unfold maxLen at hmax
  have HNW := Lib.hid henv.new_
  have HX := Lib.hid hx
  have HD : Hid (headOk ⟨10, n.i, 0, 0, 0, 0⟩) := Lib.hid (head9 hd 10 (by omega) (by omega))
  have HI := Lib.hid hok.2.1
  obtain ⟨o, i1, e1, k1, x, y⟩ := n
  simp only at hop
  subst hop
  have HR : Hid (nnfN c true i = possN i1 (nnfN c true x.toNat)) := Lib.hid (by
    rw [nnfN_eq hc hn]
    rfl)
  have hbx : (w.alloc (.cells #[.int .i64 9, .int .i64 i1, .int .i64 e1, .int .i64 k1, .int .i64 x, .int .i64 y] 53)).heap[w.heap.size]? = some (.cells #[.int .i64 9, .int .i64 i1, .int .i64 e1, .int .i64 k1, .int .i64 x, .int .i64 y] 53 (0, 0)) := heap_alloc_new _ _
  have B0 := Lib.hid hbx
  have X0 := Lib.hid ((Ext.refl w).alloc (.cells #[.int .i64 9, .int .i64 i1, .int .i64 e1, .int .i64 k1, .int .i64 x, .int .i64 y] 53))
  have E0 := Lib.hid (henv.keep X0.out)
  clear henv hbx hx hd hok hn hc
  go_enter Tryz.func115, Tryz.ntmps115
  have HK := Lib.hid (show ∀ w', LStep [b1, b2, b3, b4] (w.alloc (.cells #[.int .i64 9, .int .i64 i1, .int .i64 e1, .int .i64 k1, .int .i64 x, .int .i64 y] 53)) w' → (w'.cell? ⟨w.heap.size, 4, none⟩ = some (.int .i64 x) ∧ w'.cell? ⟨w.heap.size, 5, none⟩ = some (.int .i64 y) ∧ w'.cell? ⟨w.heap.size, 1, none⟩ = some (.int .i64 i1)) from fun w' hs => by
    obtain ⟨⟨z0, z1, z2, z3, z4, z5⟩, _, _⟩ := cells6 (hs.box B0.out HNW.out)
    exact ⟨z4, z5, z1⟩)
  go_wp2_with fail
  obtain ⟨W, hW⟩ : ∃ W, W = w.alloc (.cells #[.int .i64 9, .int .i64 i1, .int .i64 e1, .int .i64 k1, .int .i64 x, .int .i64 y] 53) := ⟨_, rfl⟩
  rw [← hW] at X0 E0 B0 HK ⊢
  clear hW
  have KS := HK.out W (LStep.refl _)
  go_region_held3 (fun w' => w'.cell? ⟨w.heap.size, 4, none⟩ = some (.int .i64 x) ∧ w'.cell? ⟨w.heap.size, 5, none⟩ = some (.int .i64 y) ∧ w'.cell? ⟨w.heap.size, 1, none⟩ = some (.int .i64 i1)) (first | exact KS | exact KSa | exact KSc | go_keep) (first | (have hq := Ea.out; clear hq; go_at_call 120; refine (rPoss_any i1 HI.out HD.out _ (nnfN c true x.toNat) _ (by exact Faa.out.ext (by repeat (first | exact Ext.refl _ | assumption | apply Ext.alloc | apply Ext.drew)))).mono ?_; rintro e wc ⟨uc, rfl, hmc⟩; have hxc : Ext wa wc := Ext.trans (by repeat (first | exact Ext.refl _ | assumption | apply Ext.alloc | apply Ext.drew)) hmc.2.2; have Ec := Lib.hid (Ea.out.keep hxc); have Sc := Lib.hid (Sa.out.trans (LStep.of_ext hxc)); have Fcc := Lib.hid hmc.fml; obtain ⟨Ac, cc, rfl, _⟩ := fml_slice hmc.fml; have KSc := HK.out _ Sc.out; clear hmc hxc) | (go_at_call 99; refine (HX.out _ (by exact E0.out.keep (by repeat (first | exact Ext.refl _ | assumption | apply Ext.alloc | apply Ext.drew)))).mono ?_; rintro e wa ⟨ua, rfl, hea, hsa, hua⟩; have Ea := Lib.hid hea; have Sa := Lib.hid (LStep.trans (LStep.of_ext (a := W) (by repeat (first | exact Ext.refl _ | assumption | apply Ext.alloc | apply Ext.drew))) hsa); have Faa := Lib.hid hua; obtain ⟨Aa, ca, rfl, _⟩ := fml_slice hua; have KSa := HK.out _ Sa.out; clear hea hsa hua))
  all_goals
    go_wp2_with fail
    go_ret
    rw [HR.out]
    exact ⟨_, rfl, Ec.out.keep (by repeat (first | exact Ext.refl _ | assumption | apply Ext.alloc | apply Ext.drew)), ((LStep.of_ext X0.out).trans Sc.out).trans (LStep.of_ext (a := wc) (by repeat (first | exact Ext.refl _ | assumption | apply Ext.alloc | apply Ext.drew))), Fcc.out.ext (by repeat (first | exact Ext.refl _ | assumption | apply Ext.alloc | apply Ext.drew))⟩
set_option maxRecDepth 100000 in
set_option maxHeartbeats 8000000 in
theorem mkneg_10 {W0 : World} {bn b1 b2 b3 b4 cp : Nat} {A : Option Addr} {c : List Nd} {i : Nat} {n : Nd} (hc : Wf c) (hn : c[i]? = some n) (hop : n.op = 10) (hd : headOk n) (hok : n.ok) (hx : NegSaid W0 bn b1 b2 b3 b4 A cp c n.x) : MakeNegSaid W0 bn b1 b2 b3 b4 A cp c i := by
  intro w henv
  rw [Int.toNat_natCast]
  have HE := Lib.hid henv
  have hi := (List.getElem?_eq_some_iff.1 hn).1
  have hi1 : (i : Int) < (c.length : Int) := by omega
  obtain ⟨⟨q0, q1, q2, q3, q4⟩, qlt⟩ := cells5 henv.blk
  obtain ⟨ad, rfl, ⟨a0, a1, a2, a3, a4, a5⟩, hcap, hmax⟩ := henv.node hn
  unfold maxLen at hmax
  have HNW := Lib.hid henv.new_
  have HX := Lib.hid hx
  have HD : Hid (headOk ⟨9, n.i, 0, 0, 0, 0⟩) := Lib.hid (head9 hd 9 (by omega) (by omega))
  have HI := Lib.hid hok.2.1
  obtain ⟨o, i1, e1, k1, x, y⟩ := n
  simp only at hop
  subst hop
  have HR : Hid (nnfN c true i = knowN i1 (nnfN c true x.toNat)) := Lib.hid (by
    rw [nnfN_eq hc hn]
    rfl)
  have hbx : (w.alloc (.cells #[.int .i64 10, .int .i64 i1, .int .i64 e1, .int .i64 k1, .int .i64 x, .int .i64 y] 53)).heap[w.heap.size]? = some (.cells #[.int .i64 10, .int .i64 i1, .int .i64 e1, .int .i64 k1, .int .i64 x, .int .i64 y] 53 (0, 0)) := heap_alloc_new _ _
  have B0 := Lib.hid hbx
  have X0 := Lib.hid ((Ext.refl w).alloc (.cells #[.int .i64 10, .int .i64 i1, .int .i64 e1, .int .i64 k1, .int .i64 x, .int .i64 y] 53))
  have E0 := Lib.hid (henv.keep X0.out)
  clear henv hbx hx hd hok hn hc
  go_enter Tryz.func115, Tryz.ntmps115
  have HK := Lib.hid (show ∀ w', LStep [b1, b2, b3, b4] (w.alloc (.cells #[.int .i64 10, .int .i64 i1, .int .i64 e1, .int .i64 k1, .int .i64 x, .int .i64 y] 53)) w' → (w'.cell? ⟨w.heap.size, 4, none⟩ = some (.int .i64 x) ∧ w'.cell? ⟨w.heap.size, 5, none⟩ = some (.int .i64 y) ∧ w'.cell? ⟨w.heap.size, 1, none⟩ = some (.int .i64 i1)) from fun w' hs => by
    obtain ⟨⟨z0, z1, z2, z3, z4, z5⟩, _, _⟩ := cells6 (hs.box B0.out HNW.out)
    exact ⟨z4, z5, z1⟩)
  go_wp2_with fail
  obtain ⟨W, hW⟩ : ∃ W, W = w.alloc (.cells #[.int .i64 10, .int .i64 i1, .int .i64 e1, .int .i64 k1, .int .i64 x, .int .i64 y] 53) := ⟨_, rfl⟩
  rw [← hW] at X0 E0 B0 HK ⊢
  clear hW
  have KS := HK.out W (LStep.refl _)
  go_region_held3 (fun w' => w'.cell? ⟨w.heap.size, 4, none⟩ = some (.int .i64 x) ∧ w'.cell? ⟨w.heap.size, 5, none⟩ = some (.int .i64 y) ∧ w'.cell? ⟨w.heap.size, 1, none⟩ = some (.int .i64 i1)) (first | exact KS | exact KSa | exact KSc | go_keep) (first | (have hq := Ea.out; clear hq; go_at_call 121; refine (rKnow_any i1 HI.out HD.out _ (nnfN c true x.toNat) _ (by exact Faa.out.ext (by repeat (first | exact Ext.refl _ | assumption | apply Ext.alloc | apply Ext.drew)))).mono ?_; rintro e wc ⟨uc, rfl, hmc⟩; have hxc : Ext wa wc := Ext.trans (by repeat (first | exact Ext.refl _ | assumption | apply Ext.alloc | apply Ext.drew)) hmc.2.2; have Ec := Lib.hid (Ea.out.keep hxc); have Sc := Lib.hid (Sa.out.trans (LStep.of_ext hxc)); have Fcc := Lib.hid hmc.fml; obtain ⟨Ac, cc, rfl, _⟩ := fml_slice hmc.fml; have KSc := HK.out _ Sc.out; clear hmc hxc) | (go_at_call 99; refine (HX.out _ (by exact E0.out.keep (by repeat (first | exact Ext.refl _ | assumption | apply Ext.alloc | apply Ext.drew)))).mono ?_; rintro e wa ⟨ua, rfl, hea, hsa, hua⟩; have Ea := Lib.hid hea; have Sa := Lib.hid (LStep.trans (LStep.of_ext (a := W) (by repeat (first | exact Ext.refl _ | assumption | apply Ext.alloc | apply Ext.drew))) hsa); have Faa := Lib.hid hua; obtain ⟨Aa, ca, rfl, _⟩ := fml_slice hua; have KSa := HK.out _ Sa.out; clear hea hsa hua))
  all_goals
    go_wp2_with fail
    go_ret
    rw [HR.out]
    exact ⟨_, rfl, Ec.out.keep (by repeat (first | exact Ext.refl _ | assumption | apply Ext.alloc | apply Ext.drew)), ((LStep.of_ext X0.out).trans Sc.out).trans (LStep.of_ext (a := wc) (by repeat (first | exact Ext.refl _ | assumption | apply Ext.alloc | apply Ext.drew))), Fcc.out.ext (by repeat (first | exact Ext.refl _ | assumption | apply Ext.alloc | apply Ext.drew))⟩
end Go.Proofs.YtfcmdiigfgbgbaaGreat
