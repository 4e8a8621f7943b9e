/- sequent's known, in, normal. -/
import Derived.Test.YtfcmdiigfgbgbaaGreatGD
import Derived.Test.YtfcmdiigfgbgbaaGreatGA
import Derived.Laws.Bits64b
import Derived.Test.YtfcmdiigfgbgbaaGreatGB

namespace Go.Proofs.YtfcmdiigfgbgbaaGreat
open Go.RowKit

set_option maxRecDepth 100000 in
set_option maxHeartbeats 1000000 in
theorem known_any (lg : Int) (w : World) : Calls Tryz.prog 37 #[.int .i64 lg] w fun e w' => e = .returned (.bool (knownN lg)) ∧ Ext w w' := by
  by_cases h0 : 0 ≤ lg
  · by_cases h6 : lg ≤ 6
    · have HE := Lib.hid (show knownN lg = true by unfold knownN; rw [decide_eq_true h0, decide_eq_true h6]; rfl)
      go_enter Tryz.func37, Tryz.ntmps37
      go_wp2_with fail
      go_ret
      exact ⟨by rw [HE.out] <;> rfl, Ext.refl _⟩
    · have HE := Lib.hid (show knownN lg = false by unfold knownN; rw [decide_eq_true h0, decide_eq_false h6]; rfl)
      go_enter Tryz.func37, Tryz.ntmps37
      go_wp2_with fail
      go_ret
      exact ⟨by rw [HE.out] <;> rfl, Ext.refl _⟩
  · have HE := Lib.hid (show knownN lg = false by unfold knownN; rw [decide_eq_false h0]; rfl)
    go_enter Tryz.func37, Tryz.ntmps37
    go_wp2_with fail
    go_ret
    exact ⟨by rw [HE.out] <;> rfl, Ext.refl _⟩
theorem testBit_int (s k : Nat) : s.testBit k = (s / 2 ^ k % 2 == 1) := by
  rw [Nat.testBit_eq_decide_div_mod_eq]
  rfl
theorem shr_nat (s k : Nat) : (s : Int) / 2 ^ k = ((s / 2 ^ k : Nat) : Int) := by
  rw [show ((2 : Int) ^ k) = ((2 ^ k : Nat) : Int) by simp]
  rfl
theorem shr_and_one (s k : Nat) (hs : s < 18446744073709551616) : (bits .and .u64 ((s : Int) / 2 ^ k) 1 == 1) = s.testBit k := by
  have hlt : s / 2 ^ k < 18446744073709551616 := Nat.lt_of_le_of_lt (Nat.div_le_self _ _) hs
  rw [shr_nat, show (1 : Int) = ((1 : Nat) : Int) from rfl, bits_and_u64_nat _ 1 hlt (by decide), Nat.and_one_is_mod, testBit_int]
  generalize s / 2 ^ k % 2 = r
  rw [Bool.eq_iff_iff, beq_iff_eq, beq_iff_eq]
  omega
theorem andNot_zero (x y : BitVec 64) : x &&& ~~~y = 0#64 ↔ x &&& y = x := by
  constructor
  · intro h
    apply BitVec.eq_of_getLsbD_eq
    intro i hi
    have := congrArg (fun z => z.getLsbD i) h
    simp only [BitVec.getLsbD_and, BitVec.getLsbD_not, hi, decide_true, Bool.true_and, BitVec.getLsbD_zero] at this ⊢
    revert this
    cases x.getLsbD i <;> cases y.getLsbD i <;> simp
  · intro h
    apply BitVec.eq_of_getLsbD_eq
    intro i hi
    have := congrArg (fun z => z.getLsbD i) h
    simp only [BitVec.getLsbD_and, BitVec.getLsbD_not, hi, decide_true, Bool.true_and, BitVec.getLsbD_zero] at this ⊢
    revert this
    cases x.getLsbD i <;> cases y.getLsbD i <;> simp
/-- 'a &^ b == 0' says that a is within b. -/
theorem andNot_sub (a b : Nat) (ha : a < 18446744073709551616) (hb : b < 18446744073709551616) : (bits .andNot .u64 (a : Int) (b : Int) == 0) = subS a b := by
  have h1 : (BitVec.ofInt 64 (a : Int)).toNat = a := by
    rw [BitVec.ofInt_natCast, BitVec.toNat_ofNat]; exact Nat.mod_eq_of_lt (by omega)
  have h2 : (BitVec.ofInt 64 (b : Int)).toNat = b := by
    rw [BitVec.ofInt_natCast, BitVec.toNat_ofNat]; exact Nat.mod_eq_of_lt (by omega)
  show (IntKind.u64.wrap ((BitVec.ofInt 64 (a : Int) &&& ~~~BitVec.ofInt 64 (b : Int)).toNat : Int) == 0) = _
  have hlt : (BitVec.ofInt 64 (a : Int) &&& ~~~BitVec.ofInt 64 (b : Int)).toNat < 2 ^ 64 := BitVec.isLt _
  rw [IntKind.wrap_u64]
  unfold subS
  rw [Bool.eq_iff_iff, beq_iff_eq, beq_iff_eq]
  constructor
  · intro h
    have h0 : (BitVec.ofInt 64 (a : Int) &&& ~~~BitVec.ofInt 64 (b : Int)) = 0#64 := BitVec.eq_of_toNat_eq (by
      show _ = 0
      omega)
    have := congrArg BitVec.toNat ((andNot_zero _ _).1 h0)
    rw [BitVec.toNat_and, h1, h2] at this
    exact this
  · intro h
    have h0 : BitVec.ofInt 64 (a : Int) &&& BitVec.ofInt 64 (b : Int) = BitVec.ofInt 64 (a : Int) := BitVec.eq_of_toNat_eq (by
      rw [BitVec.toNat_and, h1, h2]
      exact h)
    rw [(andNot_zero _ _).2 h0]
    rfl
/-- 'set &^ (^0 >> (64 - n)) == 0' says that the set is below 2 ^ n. -/
theorem inside_bits (s n : Nat) (hs : s < 18446744073709551616) (hn : 1 ≤ n ∧ n ≤ 64) : (bits .andNot .u64 (s : Int) (18446744073709551615 / 2 ^ (64 - n)) == 0) = decide (s < 2 ^ n) := by
  have e : (18446744073709551615 : Int) / 2 ^ (64 - n) = ((2 ^ n - 1 : Nat) : Int) := by
    rw [show (18446744073709551615 : Int) = ((18446744073709551615 : Nat) : Int) from rfl, shr_nat]
    congr 1
    have hp : (18446744073709551615 : Nat) + 1 = 2 ^ n * 2 ^ (64 - n) := by rw [← Nat.pow_add, show n + (64 - n) = 64 by omega]
    have h1 : 0 < 2 ^ (64 - n) := Nat.two_pow_pos _
    have h2 : 0 < 2 ^ n := Nat.two_pow_pos _
    have : (18446744073709551615 : Nat) = (2 ^ n - 1) * 2 ^ (64 - n) + (2 ^ (64 - n) - 1) := by
      have : (2 ^ n - 1) * 2 ^ (64 - n) + 2 ^ (64 - n) = 2 ^ n * 2 ^ (64 - n) := by
        rw [← Nat.succ_mul, Nat.succ_eq_add_one, Nat.sub_add_cancel h2]
      omega
    rw [this, Nat.mul_comm, Nat.mul_add_div h1, Nat.div_eq_of_lt (by omega : 2 ^ (64 - n) - 1 < 2 ^ (64 - n)), Nat.add_zero]
  have h3 : 2 ^ n ≤ 18446744073709551616 := by
    rw [show (18446744073709551616 : Nat) = 2 ^ 64 from rfl]
    exact Nat.pow_le_pow_right (by decide) hn.2
  rw [e, andNot_sub s (2 ^ n - 1) hs (by have := Nat.two_pow_pos n; omega)]
  unfold subS
  rw [Nat.and_two_pow_sub_one_eq_mod, Bool.eq_iff_iff, beq_iff_eq, decide_eq_true_iff]
  constructor
  · intro h
    rw [← h]
    exact Nat.mod_lt _ (Nat.two_pow_pos n)
  · exact Nat.mod_eq_of_lt
set_option maxRecDepth 100000 in
set_option maxHeartbeats 1000000 in
theorem in_any (s : Nat) (hs : s < 18446744073709551616) (node : Int) (w : World) : Calls Tryz.prog 44 #[.int .u64 (s : Int), .int .i64 node] w fun e w' => e = .returned (.bool (inS s node)) ∧ Ext w w' := by
  by_cases h0 : 0 ≤ node
  · by_cases h6 : node < 64
    · obtain ⟨k, rfl⟩ := Int.eq_ofNat_of_zero_le h0
      have hk : min k 64 = k := by omega
      have HE := Lib.hid (show inS s (k : Int) = s.testBit k by unfold inS; rw [decide_eq_true h0, decide_eq_true h6, Int.toNat_natCast]; rfl)
      have hb := shr_and_one s k hs
      go_enter Tryz.func44, Tryz.ntmps44
      go_wp2_with fail
      go_ret
      exact ⟨by rw [HE.out] <;> rfl, Ext.refl _⟩
    · have HE := Lib.hid (show inS s node = false by unfold inS; rw [decide_eq_true h0, decide_eq_false h6]; rfl)
      have h6d : decide (node < 64) = false := decide_eq_false h6
      go_enter Tryz.func44, Tryz.ntmps44
      go_wp2_with fail
      go_ret
      exact ⟨by rw [HE.out] <;> rfl, Ext.refl _⟩
  · have HE := Lib.hid (show inS s node = false by unfold inS; rw [decide_eq_false h0]; rfl)
    have h0d : decide (0 ≤ node) = false := decide_eq_false h0
    go_enter Tryz.func44, Tryz.ntmps44
    go_wp2_with fail
    go_ret
    exact ⟨by rw [HE.out] <;> rfl, Ext.refl _⟩
set_option maxRecDepth 100000 in
set_option maxHeartbeats 1000000 in
theorem inside_any (A : Option Addr) (c : Nat) (base : List Nd) (s : Nat) (hs : s < 18446744073709551616) (hn : 1 ≤ base.length ∧ base.length ≤ 64) (w : World) :
    Calls Tryz.prog 38 #[.slice A base.length c, .int .u64 (s : Int)] w fun e w' => e = .returned (.bool (insideS base s)) ∧ Ext w w' := by
  have HE := Lib.hid (show insideS base s = decide (s < 2 ^ base.length) from rfl)
  have hb := inside_bits s base.length hs hn
  have hw : IntKind.i64.wrap (64 - (base.length : Int)) = 64 - (base.length : Int) := by rw [IntKind.wrap_i64]; omega
  have h0 : ¬ (64 - (base.length : Int) < 0) := by omega
  have h1 : min (64 - (base.length : Int)).toNat 64 = 64 - base.length := by omega
  go_enter Tryz.func38, Tryz.ntmps38
  go_wp2_with fail
  go_ret
  exact ⟨by rw [HE.out] <;> rfl, Ext.refl _⟩
end Go.Proofs.YtfcmdiigfgbgbaaGreat

/- sequent's normal, baseError. -/

namespace Go.Proofs.YtfcmdiigfgbgbaaGreat
open Go.RowKit

theorem normalN_yes {base : List Nd} {n : Nd} (h : n.op = 1 ∨ n.op = 2 ∨ n.op = 3 ∨ n.op = 5 ∨ n.op = 6 ∨ n.op = 9 ∨ n.op = 10) : normalN base n = true := by
  unfold normalN
  rcases h with h | h | h | h | h | h | h <;> rw [h] <;> rfl
theorem normalN_no {base : List Nd} {n : Nd} (h1 : (n.op == 1) = false) (h2 : (n.op == 2) = false) (h3 : (n.op == 3) = false) (h4 : (n.op == 4) = false) (h5 : (n.op == 5) = false) (h6 : (n.op == 6) = false) (h9 : (n.op == 9) = false) (h10 : (n.op == 10) = false) : normalN base n = false := by
  unfold normalN
  rw [h1, h2, h3, h4, h5, h6, h9, h10]
  rfl
set_option maxRecDepth 100000 in
set_option maxHeartbeats 4000000 in
theorem normal_any (v : Value) (base : List Nd) (n : Nd) (w : World) (h : Nds w v base) (hx : n.op = 4 → 0 ≤ n.x ∧ n.x < base.length) :
    Calls Tryz.prog 59 #[v, n.val] w fun e w' => e = .returned (.bool (normalN base n)) ∧ Ext w w' := by
  obtain ⟨A, c, rfl, hcap, hmax, hread⟩ := h
  unfold maxLen at hmax
  obtain ⟨o, i, e, k, x, y⟩ := n
  have HA := Lib.hid (show Ext w (w.alloc (.cells #[.int .i64 o, .int .i64 i, .int .i64 e, .int .i64 k, .int .i64 x, .int .i64 y] 53)) from (Ext.refl _).alloc _)
  by_cases hy : o = 1 ∨ o = 2 ∨ o = 3 ∨ o = 5 ∨ o = 6 ∨ o = 9 ∨ o = 10
  · have HE := Lib.hid (normalN_yes (base := base) (n := ⟨o, i, e, k, x, y⟩) hy)
    clear hread hx
    unfold Nd.val
    rcases hy with rfl | rfl | rfl | rfl | rfl | rfl | rfl <;>
      (go_enter Tryz.func59, Tryz.ntmps59
       go_wp2_with fail
       go_ret
       exact ⟨by rw [HE.out] <;> rfl, HA.out⟩)
  · by_cases h4 : o = 4
    · subst h4
      obtain ⟨hx0, hx1⟩ := hx rfl
      simp only at hx0 hx1
      obtain ⟨ad, rfl, hblk, hcells⟩ := hread (by intro e; rw [e] at hx1; simp at hx1; omega)
      obtain ⟨j, rfl⟩ := Int.eq_ofNat_of_zero_le hx0
      obtain ⟨m, hm⟩ : ∃ m, base[j]? = some m := ⟨_, List.getElem?_eq_getElem (show j < base.length by omega)⟩
      have c0 := (HA.out.cell (by rw [block_of_add]; exact hblk)).trans (hcells j m hm).1
      have HE := Lib.hid (show normalN base ⟨4, i, e, k, (j : Int), y⟩ = (m.op == 3) by
        unfold normalN
        simp only [Int.toNat_natCast]
        rw [getD_of hm]
        rfl)
      clear hcells hread hm hy hx
      unfold Nd.val
      cases h3 : m.op == 3
      · have HE2 := Lib.hid (HE.out.trans h3)
        go_enter Tryz.func59, Tryz.ntmps59
        go_wp2_with fail
        go_ret
        exact ⟨by rw [HE2.out] <;> rfl, HA.out⟩
      · have HE2 := Lib.hid (HE.out.trans h3)
        go_enter Tryz.func59, Tryz.ntmps59
        go_wp2_with fail
        go_ret
        exact ⟨by rw [HE2.out] <;> rfl, HA.out⟩
    · have b1 : (o == 1) = false := by rw [beq_eq_false_iff_ne]; omega
      have b2 : (o == 2) = false := by clear b1; rw [beq_eq_false_iff_ne]; omega
      have b3 : (o == 3) = false := by clear b1 b2; rw [beq_eq_false_iff_ne]; omega
      have b4 : (o == 4) = false := by clear b1 b2 b3; rw [beq_eq_false_iff_ne]; omega
      have b5 : (o == 5) = false := by clear b1 b2 b3 b4; rw [beq_eq_false_iff_ne]; omega
      have b6 : (o == 6) = false := by clear b1 b2 b3 b4 b5; rw [beq_eq_false_iff_ne]; omega
      have b9 : (o == 9) = false := by clear b1 b2 b3 b4 b5 b6; rw [beq_eq_false_iff_ne]; omega
      have b10 : (o == 10) = false := by clear b1 b2 b3 b4 b5 b6 b9; rw [beq_eq_false_iff_ne]; omega
      have HE := Lib.hid (normalN_no (base := base) (n := ⟨o, i, e, k, x, y⟩) b1 b2 b3 b4 b5 b6 b9 b10)
      clear hread hx hy h4
      unfold Nd.val
      go_enter Tryz.func59, Tryz.ntmps59
      go_wp2_with fail
      go_ret
      exact ⟨by rw [HE.out] <;> rfl, HA.out⟩
theorem all_take {base l : List Nd} {k : Nat} {n : Nd} (h : l[k]? = some n) : (l.take (k + 1)).all (normalN base) = ((l.take k).all (normalN base) && normalN base n) := by
  rw [take_succ_eq h, List.all_append]
  simp
set_option maxRecDepth 100000 in
set_option maxHeartbeats 8000000 in
theorem baseError_any (v : Value) (base : List Nd) (w : World) (h : Nds w v base) :
    Calls Tryz.prog 31 #[v] w fun e w' => e = .returned (.int .i64 (baseErr base)) ∧ Ext w w' := by
  have H := Lib.hid h
  obtain ⟨A, c, rfl, hcap, hmax, hread⟩ := h
  unfold maxLen at hmax
  have HR := Lib.hid hread
  clear hread
  go_enter Tryz.func31, Tryz.ntmps31
  go_wp2_with fail
  refine (check_any _ base _ H.out).mono ?_
  rintro e w1 ⟨rfl, hx⟩
  have X1 := Lib.hid hx
  clear hx
  cases hc : check base != 0
  case true =>
    have HE := Lib.hid (show baseErr base = check base by unfold baseErr; rw [hc]; rfl)
    go_wp2_with fail
    go_ret
    exact ⟨by rw [HE.out] <;> rfl, X1.out⟩
  case false =>
    have hc0 : check base = 0 := by simpa using hc
    by_cases hl : 64 < base.length
    · have hl1 : (64 : Int) < (base.length : Int) := by omega
      have HE := Lib.hid (show baseErr base = 8 by unfold baseErr; rw [hc, decide_eq_true hl]; rfl)
      clear hc0
      go_wp2_with fail
      go_ret
      exact ⟨by rw [HE.out] <;> rfl, X1.out⟩
    · have hl1 : ¬ (64 : Int) < (base.length : Int) := by omega
      have HE := Lib.hid (show baseErr base = bif base.all (normalN base) then 0 else 10 by unfold baseErr; rw [hc, decide_eq_false hl]; rfl)
      have CW := Lib.hid (check_wf hc0)
      clear hc0
      go_wp2_with fail
      go_loopw [16] (fun v wr => ∃ k : Nat, v = .int .i64 (k : Int) ∧ k ≤ base.length ∧ Hid ((base.take k).all (normalN base) = true) ∧ Hid (Ext w wr)) (fun v _ => base.length - (intOf v).toNat)
      case atStart => exact ⟨0, rfl, Nat.zero_le _, Lib.hid rfl, X1⟩
      case round =>
        obtain ⟨k, rfl, hk, HT, HX⟩ := hrel
        by_cases hlt2 : k < base.length
        · obtain ⟨n, hn⟩ : ∃ n, base[k]? = some n := ⟨_, List.getElem?_eq_getElem hlt2⟩
          obtain ⟨ad, rfl, hblk, hcells⟩ := HR.out (by intro e; rw [e] at hlt2; simp at hlt2)
          obtain ⟨q0, q1, q2, q3, q4, q5⟩ := hcells k n hn
          have hkk : ∀ p : Addr, p.block = ad.block → wr.cell? p = w.cell? p := fun p hp => HX.out.cell (by rw [hp]; exact hblk)
          have q0 := (hkk _ (by rw [block_of_add])).trans q0
          have q1 := (hkk _ (by show (ad.add _).block = _; rw [block_of_add])).trans q1
          have q2 := (hkk _ (by show (ad.add _).block = _; rw [block_of_add])).trans q2
          have q3 := (hkk _ (by show (ad.add _).block = _; rw [block_of_add])).trans q3
          have q4 := (hkk _ (by show (ad.add _).block = _; rw [block_of_add])).trans q4
          have q5 := (hkk _ (by show (ad.add _).block = _; rw [block_of_add])).trans q5
          have hk0 : (0 : Int) ≤ (k : Int) := by omega
          have hk1 : (k : Int) < (base.length : Int) := by omega
          have X2 := Lib.hid (HX.out.alloc (.cells #[.int .i64 n.op, .int .i64 n.i, .int .i64 n.e, .int .i64 n.g, .int .i64 n.x, .int .i64 n.y] 53))
          obtain ⟨⟨z0, z1, z2, z3, z4, z5⟩, _, zlt⟩ := cells6 (heap_alloc_new wr (.cells #[.int .i64 n.op, .int .i64 n.i, .int .i64 n.e, .int .i64 n.g, .int .i64 n.x, .int .i64 n.y] 53))
          have hxr : n.op = 4 → 0 ≤ n.x ∧ n.x < base.length := fun h4 => by
            have := (CW.out k n hn).1 (by rw [h4]; rfl)
            omega
          have HXR := Lib.hid hxr
          have HAT := Lib.hid (all_take (base := base) hn)
          have HM := Lib.hid (List.mem_of_getElem? hn)
          clear hkk hcells hxr hn
          go_wp2_with fail
          refine (normal_any _ base n _ (H.out.ext X2.out) HXR.out).mono ?_
          rintro e w3 ⟨rfl, hx⟩
          have X3 := Lib.hid (X2.out.trans hx)
          clear hx z0 z1 z2 z3 z4 z5 zlt q0 q1 q2 q3 q4 q5
          cases hnn : normalN base n
          · have HE2 := Lib.hid (show baseErr base = 10 by
              rw [HE.out, show base.all (normalN base) = false from by
                rw [List.all_eq_false]
                exact ⟨n, HM.out, by rw [hnn]; simp⟩]
              rfl)
            go_wp2_with fail
            go_ret
            exact ⟨by rw [HE2.out] <;> rfl, X3.out⟩
          · have HT2 := Lib.hid (show (base.take (k + 1)).all (normalN base) = true by rw [HAT.out, HT.out, hnn]; rfl)
            go_wp2_with fail
            go_roundw
            case rel => exact ⟨k + 1, by go_num, by omega, HT2, X3⟩
            case measure => simp [intOf]; omega
        · obtain rfl : base.length = k := by omega
          have HE2 := Lib.hid (show baseErr base = 0 by
            have := HT.out
            rw [List.take_of_length_le (Nat.le_refl _)] at this
            rw [HE.out, this]
            rfl)
          go_wp2_with fail
          go_ret
          exact ⟨by rw [HE2.out] <;> rfl, HX.out⟩
end Go.Proofs.YtfcmdiigfgbgbaaGreat

/- sequent's formulas: the formulas of a base, in a row of the call's own. -/

namespace Go.Proofs.YtfcmdiigfgbgbaaGreat
open Go.RowKit

/-- A value's block is not the row's, and lies from m on. -/
def Away (m : Nat) (w : World) (vo u : Value) : Prop := ∀ g, u.ownBlock = some g → g < w.heap.size ∧ vo.ownBlock ≠ some g ∧ m ≤ g
theorem Away.ext {m : Nat} {w w' : World} {vo u : Value} (h : Away m w vo u) (he : Ext w w') : Away m w' vo u := fun g hg => ⟨Nat.lt_of_lt_of_le (h g hg).1 he.size, (h g hg).2⟩
theorem tInfoF2 : (Tryz.prog.info? 22).map (fun i => (i.zero, i.size, i.bytes)) = some (some (.slice none 0 0), 1, 24) := by kernel_rfl
theorem Nds.keepF {w w' : World} {v : Value} {l : List Nd} (h : Nds w v l) (hb : ∀ g, v.ownBlock = some g → g < w.heap.size → w'.heap[g]? = w.heap[g]?) (hs : w.heap.size ≤ w'.heap.size) : Nds w' v l := by
  obtain ⟨A, c, rfl, h1, h2, h3⟩ := h
  refine ⟨A, c, rfl, h1, h2, fun hn => ?_⟩
  obtain ⟨ad, rfl, hlt, hc⟩ := h3 hn
  refine ⟨ad, rfl, Nat.lt_of_lt_of_le hlt hs, fun k n hk => (hc k n hk).keep fun p hp => World.cell?_of_block ?_⟩
  rw [hp, block_of_add]
  exact hb ad.block rfl hlt
/-- Formulas in a row of the call's own. -/
structure FRow (w0 w : World) (vo : Value) (out : List (List Nd)) : Prop where
  ext : Ext w0 w
  row : ∃ us, w.ownsRow w0.heap.size 22 1 vo out.length us ∧ ∀ (k : Nat) (s : List Nd), out[k]? = some s → ∃ u, us[k]? = some u ∧ Fml w u s ∧ Away w0.heap.size w vo u
theorem FRow.ext_ {w0 w w' : World} {vo : Value} {out : List (List Nd)} (h : FRow w0 w vo out) (he : Ext w w') : FRow w0 w' vo out := by
  obtain ⟨us, hr, hu⟩ := h.row
  refine ⟨h.ext.trans he, us, row_ext hr he, fun k s hk => ?_⟩
  obtain ⟨u, a, b, c⟩ := hu k s hk
  exact ⟨u, a, b.ext he, c.ext he⟩
theorem FRow.nil (w : World) : FRow w w (.slice none 0 0) [] := ⟨Ext.refl _, [], World.ownsRow_nil _ _ _ _, fun k s h => by simp at h⟩
theorem row1_cellsF {w : World} {base n : Nat} {t : TypeId} {v : Value} {us : List Value} (h : w.ownsRow base t 1 v n us) (hn : 0 < n) :
    ∃ g cap, v = .slice (some ⟨g, 0, none⟩) n cap ∧ g < w.heap.size ∧ n ≤ cap ∧ cap ≤ maxLen ∧ ∀ i z, us[i]? = some z → w.cell? ⟨g, i, none⟩ = some z := by
  rcases h.2 with ⟨_, h0⟩ | ⟨g, cap, cur, rfl, _, hg, hnc, hm, hs, ht⟩
  · omega
  · refine ⟨g, cap, rfl, lt_heap hg, hnc, hm, fun i z h1 => ?_⟩
    rw [← ht, List.getElem?_take] at h1
    split at h1
    · have h2 : cur[i]? = some z := by simpa using h1
      simp [World.cell?, hg, h2]
    · cases h1
/-- What lies in the row lies in blocks of the call's own: so it stays where these blocks stay. -/
theorem FRow.keep {w0 w w' : World} {vo : Value} {out : List (List Nd)} (h : FRow w0 w vo out) (hb : ∀ g, w0.heap.size ≤ g → g < w.heap.size → w'.heap[g]? = w.heap[g]?) (hs : w.heap.size ≤ w'.heap.size) (he : Ext w0 w') : FRow w0 w' vo out := by
  obtain ⟨us, hr, hu⟩ := h.row
  refine ⟨he, us, ⟨hr.1, ?_⟩, fun k s hk => ?_⟩
  · rcases hr.2 with h0 | ⟨g, cap, cur, e, h1, h2, h3, h4, h5, h6⟩
    · exact .inl h0
    · exact .inr ⟨g, cap, cur, e, h1, (hb g h1 (lt_heap h2)).trans h2, h3, h4, h5, h6⟩
  · obtain ⟨u, a, b, c⟩ := hu k s hk
    exact ⟨u, a, ⟨b.1.keepF (fun g hg _ => hb g (c g hg).2.2 (c g hg).1) hs, b.2⟩, fun g hg => ⟨Nat.lt_of_lt_of_le (c g hg).1 hs, (c g hg).2⟩⟩
theorem FRow.fmls {w0 w : World} {vo : Value} {out : List (List Nd)} (h : FRow w0 w vo out) : Fmls w vo out := by
  obtain ⟨ss, hs, hv⟩ := h.row
  by_cases h0 : 0 < out.length
  · obtain ⟨g, cap, rfl, hg, h1, h2, hc⟩ := row1_cellsF hs h0
    refine ⟨_, cap, rfl, h1, h2, fun _ => ⟨_, rfl, hg, fun k f hk => ?_⟩⟩
    obtain ⟨u, a, b, _⟩ := hv k f hk
    exact ⟨u, by rw [addr_zero]; exact hc k u a, b⟩
  · have e : out = [] := List.length_eq_zero_iff.1 (by omega)
    subst e
    obtain ⟨A, c, rfl⟩ := slice_of_row hs
    rcases hs.2 with ⟨e, _⟩ | ⟨g, cap, cur, e, _, _, hn, hm, _⟩
    · injection e with e1 _ e2
      subst e1 e2
      exact ⟨_, _, rfl, Nat.le_refl _, by unfold maxLen; omega, fun h => absurd rfl h⟩
    · injection e with e1 _ e2
      subst e1 e2
      exact ⟨_, _, rfl, Nat.zero_le _, hm, fun h => absurd rfl h⟩
theorem FRow.push {w0 W w4 : World} {vo v' x : Value} {out : List (List Nd)} {s : List Nd} {ss : List Value} (he : Ext w0 W) (hs : W.ownsRow w0.heap.size 22 1 vo out.length ss) (hv : ∀ (k : Nat) (s : List Nd), out[k]? = some s → ∃ u, ss[k]? = some u ∧ Fml W u s ∧ Away w0.heap.size W vo u)
    (hrow : w4.ownsRow w0.heap.size 22 1 v' (out.length + 1) (ss ++ [x])) (hg : W.grownBy w4 vo.ownBlock) (hat : v'.ownBlock = vo.ownBlock ∨ v'.ownBlock = some W.heap.size) (hx : Fml W x s) (hxf : Away w0.heap.size W vo x) :
    FRow w0 w4 v' (out ++ [s]) := by
  have hlen : ss.length = out.length := by simpa using hs.1
  have hkeep : ∀ g, g < W.heap.size → vo.ownBlock ≠ some g → w4.heap[g]? = W.heap[g]? := fun g h1 h2 => hg.block g h1 (fun e => h2 e.symm)
  have haway : ∀ u, Away w0.heap.size W vo u → Away w0.heap.size w4 v' u := fun u hu g hgu => by
    obtain ⟨a, b, hm⟩ := hu g hgu
    refine ⟨Nat.lt_of_lt_of_le a hg.size, fun e => ?_, hm⟩
    rcases hat with e1 | e1
    · exact b (e1.symm.trans e)
    · rw [e1] at e; injection e with e; omega
  have hfml : ∀ u s, Away w0.heap.size W vo u → Fml W u s → Fml w4 u s := fun u s ha hi => ⟨hi.1.keepF (fun g hg' _ => hkeep g (ha g hg').1 (ha g hg').2.1) hg.size, hi.2⟩
  refine ⟨he.grown hg (fun g hg' => (hs.lt g hg').1), ss ++ [x], by rw [List.length_append]; exact hrow, fun k s' hk => ?_⟩
  by_cases hk' : k < out.length
  · rw [List.getElem?_append_left hk'] at hk
    obtain ⟨u, a, b, c⟩ := hv k s' hk
    exact ⟨u, by rw [List.getElem?_append_left (by omega)]; exact a, hfml u s' c b, haway u c⟩
  · rw [List.getElem?_append_right (by omega)] at hk
    have hk0 : k = out.length := by
      by_cases e : k - out.length = 0
      · omega
      · rw [List.getElem?_eq_none (by simp; omega)] at hk; cases hk
    subst hk0
    simp at hk
    subst hk
    exact ⟨x, by rw [List.getElem?_append_right (by omega), hlen]; simp, hfml x _ hxf hx, haway x hxf⟩
theorem made_away {w W : World} {vo x : Value} {B n k : Nat} {us zs : List Value} {e : TypeId} {sz m : Nat} (hB : w.heap.size ≤ B) (hx : W.ownsRow B e sz x n zs) (hs : w.ownsRow m 22 1 vo k us) (hm : m ≤ w.heap.size) : Away m W vo x := fun g hg => by
  obtain ⟨h1, h2⟩ := hx.lt g hg
  exact ⟨h2, fun e => by have := (hs.lt g e).2; omega, by omega⟩
theorem range_step (base : List Nd) (k : Nat) : (List.range (k + 1)).map (fun (i : Nat) => subN base i) = (List.range k).map (fun (i : Nat) => subN base i) ++ [subN base k] := by
  rw [List.range_succ, List.map_append]
  rfl
set_option maxRecDepth 100000 in
set_option maxHeartbeats 8000000 in
theorem formulas_any (v : Value) (base : List Nd) (w : World) (h : Fml w v base) (hlen : base.length ≤ 1000) :
    Calls Tryz.prog 24 #[v] w fun e w' => ∃ u, e = .returned u ∧ FRow w w' u (formulasN base) := by
  have H := Lib.hid h
  obtain ⟨iI, hiI, hzI0, hzI1, hzI2⟩ := info_parts tInfoF2
  obtain ⟨A, c, rfl, _⟩ := fml_slice h
  clear h
  go_enter Tryz.func24, Tryz.ntmps24
  go_wp2_with fail
  go_loopw [3, 7] (fun vo vi wr => ∃ k : Nat, vi = .int .i64 (k : Int) ∧ k ≤ base.length ∧ Hid (∃ out, out = (List.range k).map (fun (i : Nat) => subN base i) ∧ FRow w wr vo out)) (fun _ v _ => base.length - (intOf v).toNat)
  case atStart => exact ⟨0, rfl, Nat.zero_le _, Lib.hid ⟨[], rfl, FRow.nil _⟩⟩
  case round =>
    obtain ⟨k, rfl, hk, HREL⟩ := hrel
    obtain ⟨out, ho, hfr⟩ := HREL.out
    obtain ⟨us, hrow, hus⟩ := hfr.row
    obtain ⟨Ao, co, rfl⟩ := slice_of_row hrow
    have HO := Lib.hid ho
    have HFR := Lib.hid hfr
    have HROW := Lib.hid hrow
    have HUS := Lib.hid hus
    have hol : out.length ≤ 1000 := by rw [ho]; simp; omega
    clear HREL ho hfr hrow hus
    by_cases hlt2 : k < base.length
    · have hk1 : (k : Int) < (base.length : Int) := by omega
      have hc3 : out.length + 1 ≤ maxLen := by unfold maxLen; omega
      have hc4 : (out.length + 1) * 24 ≤ 140737488355328 := by omega
      go_wp2_with fail
      refine (sub_any _ base (k : Int) _ (H.out.ext HFR.out.ext)).mono ?_
      rintro e w1 ⟨u, rfl, hm⟩
      have X1 := Lib.hid (HFR.out.ext.trans hm.2.2)
      have Y1 := Lib.hid hm.2.2
      have HM := Lib.hid hm
      obtain ⟨Au, cu, rfl, _⟩ := fml_slice hm.fml
      clear hm
      go_wp2_with (at_builtin; refine wpList_append_own_at _ rfl _ _ 41 rfl w.heap.size 22 iI (.slice none 0 0) 1 24 Tryz.underlying41 hiI hzI0 hzI1 hzI2 rfl (by decide) _ out.length us rfl (row_ext HROW.out (Y1.out.alloc _)) ⟨_, 0, none⟩ 1 1 [.slice Au (subN base (k : Int)).length cu] rfl rfl (row_new_at _ _ _ (by simp)) (fun u hu => by rw [List.mem_singleton.1 hu]; rfl) hc3 hc4 (Nat.le_trans HFR.out.ext.size (Y1.out.alloc _).size) ?_)
      intro v7 w7 hown7 hgrow7 _ hat7
      have HPS := Lib.hid (FRow.push (s := subN base (k : Int)) (X1.out.alloc _) (row_ext HROW.out (Y1.out.alloc _)) (fun k s hk => by
        obtain ⟨u, a, b, c⟩ := HUS.out k s hk
        exact ⟨u, a, b.ext (Y1.out.alloc _), c.ext (Y1.out.alloc _)⟩) hown7 hgrow7 (hat7.imp id (fun e => e.trans (by simp))) (HM.out.fml.ext ((Ext.refl _).alloc _)) (made_away (Nat.le_refl _) (row_ext HM.out.1 ((Ext.refl _).alloc _)) HROW.out HFR.out.ext.size))
      obtain ⟨A7, c7, rfl⟩ := slice_of_row hown7
      clear hown7 hgrow7 hat7
      go_wp2_with fail
      go_roundw
      case rel => exact ⟨k + 1, by go_num, by omega, Lib.hid ⟨_, by rw [range_step, ← HO.out], HPS.out⟩⟩
      case measure => simp [intOf]; omega
    · obtain rfl : base.length = k := by omega
      go_wp2_with fail
      go_ret
      exact ⟨_, rfl, by rw [show formulasN base = out from HO.out.symm]; exact HFR.out⟩
end Go.Proofs.YtfcmdiigfgbgbaaGreat

/- slices.IndexFunc at lists of nodes with the closures of sequent; sequent's negation. -/

namespace Go.Proofs.YtfcmdiigfgbgbaaGreat
open Go.RowKit

/-- The first place at which a test holds, or -1. -/
def findN (p : List Nd → Bool) (l : List (List Nd)) : Int := match l.findIdx? p with | none => -1 | some j => j
theorem findIdx_hit (p : List Nd → Bool) : ∀ (l : List (List Nd)) (k : Nat) (s : List Nd), l[k]? = some s → p s = true → (∀ t ∈ l.take k, p t = false) → l.findIdx? p = some k
  | [], k, s, h, _, _ => by simp at h
  | a :: r, 0, s, h, hp, _ => by
    simp only [List.getElem?_cons_zero, Option.some.injEq] at h
    subst h
    rw [List.findIdx?_cons, hp]
    rfl
  | a :: r, k + 1, s, h, hp, hn => by
    have ha : p a = false := hn a (by simp)
    rw [List.findIdx?_cons, ha, findIdx_hit p r k s (by simpa using h) hp (fun t ht => hn t (by simp [ht]))]
    rfl
theorem findIdx_miss (p : List Nd → Bool) : ∀ (l : List (List Nd)), (∀ t ∈ l, p t = false) → l.findIdx? p = none
  | [], _ => by simp
  | a :: r, hn => by
    rw [List.findIdx?_cons, hn a (by simp), findIdx_miss p r (fun t ht => hn t (by simp [ht]))]
    rfl
set_option maxRecDepth 100000 in
set_option maxHeartbeats 4000000 in
theorem indexF_any (g : Nat) (lb : Array Value) (eg : ∀ args w, (callFunc g args).run Tryz.prog w = .ok (.enter g args) w) (p : List Nd → Bool) (v : Value) (l : List (List Nd)) (w : World) (h : Fmls w v l)
    (hp : ∀ (W : World) (u : Value) (s : List Nd), Ext w W → Fml W u s → Calls Tryz.prog g (#[u] ++ lb) W fun e w' => e = .returned (.bool (p s)) ∧ Ext W w') :
    Calls Tryz.prog 26 #[v, .func (.func g) #[] lb] w fun e w' => e = .returned (.int .i64 (findN p l)) ∧ Ext w w' := by
  obtain ⟨A, c, rfl, hcap, hmax, hr⟩ := h
  unfold maxLen at hmax
  have HR := Lib.hid hr
  have HP := Lib.hid hp
  clear hr hp
  go_enter Tryz.func26, Tryz.ntmps26
  go_wp2_with fail
  go_loopw [5, 8] (fun _ i wr => ∃ k : Nat, k ≤ l.length ∧ i = .int .i64 (k : Int) ∧ Hid (∀ t ∈ l.take k, p t = false) ∧ Hid (Ext w wr)) (fun _ i _ => l.length - (intOf i).toNat)
  case atStart => exact ⟨0, Nat.zero_le _, rfl, Lib.hid (by simp), Lib.hid (Ext.refl _)⟩
  case round =>
    obtain ⟨k, hk, rfl, HNI, HX⟩ := hrel
    by_cases hlt2 : k < l.length
    · obtain ⟨s, hs⟩ : ∃ s, l[k]? = some s := ⟨_, List.getElem?_eq_getElem hlt2⟩
      obtain ⟨ad, rfl, hb1, hc1⟩ := HR.out (by intro e; rw [e] at hlt2; simp at hlt2)
      obtain ⟨u, hu, hf⟩ := hc1 k s hs
      have a0 := (HX.out.cell (p := ad.add k) (by rw [block_of_add]; exact hb1)).trans hu
      have HF := Lib.hid (hf.ext HX.out)
      have HA := Lib.hid hs
      have hk1 : (k : Int) < (l.length : Int) := by omega
      clear hs hc1 hf hu
      cases hps : p s
      · have HT : Hid (∀ t ∈ l.take (k + 1), p t = false) := Lib.hid (by
          rw [take_succ_eq HA.out]
          intro t ht
          rcases List.mem_append.1 ht with ht | ht
          · exact HNI.out t ht
          · rw [List.mem_singleton.1 ht]; exact hps)
        go_wp2_with (refine (HP.out _ u s (by exact HX.out.trans (by repeat (first | exact Ext.refl _ | assumption | apply Ext.alloc | apply Ext.drew))) (by exact HF.out.ext (by repeat (first | exact Ext.refl _ | assumption | apply Ext.alloc | apply Ext.drew)))).mono ?_; rintro e w1 ⟨rfl, hx⟩; rw [hps])
        go_roundw
        case rel => exact ⟨k + 1, by omega, by go_num, HT, Lib.hid (HX.out.trans (by first | exact hx | exact Ext.trans (by repeat (first | exact Ext.refl _ | assumption | apply Ext.alloc | apply Ext.drew)) hx))⟩
        case measure => simp [intOf]; omega
      · have HE := Lib.hid (show findN p l = (k : Int) by unfold findN; rw [findIdx_hit p l k s HA.out hps HNI.out])
        go_wp2_with (refine (HP.out _ u s (by exact HX.out.trans (by repeat (first | exact Ext.refl _ | assumption | apply Ext.alloc | apply Ext.drew))) (by exact HF.out.ext (by repeat (first | exact Ext.refl _ | assumption | apply Ext.alloc | apply Ext.drew)))).mono ?_; rintro e w1 ⟨rfl, hx⟩; rw [hps])
        go_ret
        exact ⟨by rw [HE.out] <;> rfl, HX.out.trans (by first | exact hx | exact Ext.trans (by repeat (first | exact Ext.refl _ | assumption | apply Ext.alloc | apply Ext.drew)) hx)⟩
    · obtain rfl : l.length = k := by omega
      have HE := Lib.hid (show findN p l = -1 by
        unfold findN
        rw [findIdx_miss p l (fun t ht => HNI.out t (by rw [List.take_of_length_le (Nat.le_refl _)]; exact ht))])
      go_wp2_with fail
      go_ret
      exact ⟨by rw [HE.out] <;> rfl, HX.out⟩
set_option maxRecDepth 100000 in
set_option maxHeartbeats 2000000 in
theorem negation1_any (B : Nat) (u gv : Value) (s g : List Nd) (w : World) (hs : Nds w u s) (hB : w.cell? ⟨B, 0, none⟩ = some gv) (hg : Nds w gv g) :
    Calls Tryz.prog 60 (#[u] ++ #[.pointer (some ⟨B, 0, none⟩)]) w fun e w' => e = .returned (.bool (decide (s = g))) ∧ Ext w w' := by
  have HS := Lib.hid hs
  have HG := Lib.hid hg
  obtain ⟨A, c, rfl, _⟩ := hs
  obtain ⟨A2, c2, rfl, _⟩ := hg
  show Calls Tryz.prog 60 #[.slice A s.length c, .pointer (some ⟨B, 0, none⟩)] w _
  go_enter Tryz.func60, Tryz.ntmps60
  go_wp2_with (go_at_call 28; refine (equalN_any _ _ s g _ (by exact HS.out.ext (by repeat (first | exact Ext.refl _ | assumption | apply Ext.alloc | apply Ext.drew))) (by exact HG.out.ext (by repeat (first | exact Ext.refl _ | assumption | apply Ext.alloc | apply Ext.drew)))).mono ?_; rintro e w1 ⟨rfl, hx⟩)
  go_ret
  exact ⟨rfl, by first | exact hx | exact Ext.trans (by repeat (first | exact Ext.refl _ | assumption | apply Ext.alloc | apply Ext.drew)) hx⟩
set_option maxRecDepth 100000 in
set_option maxHeartbeats 2000000 in
theorem broken1_any (B : Nat) (u gv : Value) (s g : List Nd) (w : World) (hs : Nds w u s) (hB : w.cell? ⟨B, 0, none⟩ = some gv) (hg : Nds w gv g) :
    Calls Tryz.prog 27 (#[u] ++ #[.pointer (some ⟨B, 0, none⟩)]) w fun e w' => e = .returned (.bool (decide (s = g))) ∧ Ext w w' := by
  have HS := Lib.hid hs
  have HG := Lib.hid hg
  obtain ⟨A, c, rfl, _⟩ := hs
  obtain ⟨A2, c2, rfl, _⟩ := hg
  have HE := Lib.hid (show decide (s = g) = decide (g = s) by rw [decide_eq_decide]; exact eq_comm)
  show Calls Tryz.prog 27 #[.slice A s.length c, .pointer (some ⟨B, 0, none⟩)] w _
  go_enter Tryz.func27, Tryz.ntmps27
  go_wp2_with (go_at_call 28; refine (equalN_any _ _ g s _ (by exact HG.out.ext (by repeat (first | exact Ext.refl _ | assumption | apply Ext.alloc | apply Ext.drew))) (by exact HS.out.ext (by repeat (first | exact Ext.refl _ | assumption | apply Ext.alloc | apply Ext.drew)))).mono ?_; rintro e w1 ⟨rfl, hx⟩)
  go_ret
  exact ⟨by rw [HE.out] <;> rfl, by first | exact hx | exact Ext.trans (by repeat (first | exact Ext.refl _ | assumption | apply Ext.alloc | apply Ext.drew)) hx⟩
end Go.Proofs.YtfcmdiigfgbgbaaGreat
