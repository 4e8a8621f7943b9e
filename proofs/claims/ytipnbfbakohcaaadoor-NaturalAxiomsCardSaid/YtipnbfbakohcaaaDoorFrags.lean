/- formula.Frags and formula.Same. -/
import Derived.Test.YtipnbfbakohcaaaDoorEqualWalk
import Derived.Laws.BitsAllLaws
import Derived.Laws.BitsLemmas
namespace Go.Proofs.YtipnbfbakohcaaaDoor
open Go.RowKit

theorem ofInt_i64 (a : Nat) (ha : a < 9223372036854775808) : (BitVec.ofInt 64 (a : Int)).toNat = a := by
  rw [BitVec.ofInt_natCast, BitVec.toNat_ofNat]; exact Nat.mod_eq_of_lt (by omega)
theorem i64_or_nat (a b : Nat) (ha : a < 9223372036854775808) (hb : b < 9223372036854775808) : bits .or .i64 (a : Int) (b : Int) = ((a ||| b : Nat) : Int) := by
  have hx : a ||| b < 2 ^ 63 := Nat.or_lt_two_pow (by omega) (by omega)
  show IntKind.i64.wrap ((BitVec.ofInt 64 (a : Int) ||| BitVec.ofInt 64 (b : Int)).toNat : Int) = _
  rw [BitVec.toNat_or, ofInt_i64 a ha, ofInt_i64 b hb, IntKind.wrap_i64]
  omega
theorem fragOf_nn (op : Int) : 0 ≤ fragOf op ∧ fragOf op ≤ 256 := by
  unfold fragOf
  repeat' split
  all_goals omega
theorem fragMask_snoc (l : List Nd) (n : Nd) : fragMask (l ++ [n]) = fragMask l ||| (fragOf n.op).toNat := by simp [fragMask, List.foldl_append]
theorem fragMask_lt (l : List Nd) : fragMask l < 512 := by
  have : ∀ (l : List Nd) (m : Nat), m < 512 → l.foldl (fun m n => m ||| (fragOf n.op).toNat) m < 512 := by
    intro l
    induction l with
    | nil => intro m h; exact h
    | cons a r ih =>
      intro m h
      refine ih _ (Nat.or_lt_two_pow (n := 9) h ?_)
      have := fragOf_nn a.op
      omega
  exact this l 0 (by omega)

set_option maxHeartbeats 400000 in
theorem fragsMask_any (n : Nd) (u0 u1 u2 u3 u4 u5 : Bool) (g : Int) (w : World) :
    Calls Tryd.prog 38 #[.agg #[.int .i64 n.op, .int .i64 n.i, .int .i64 n.e, .int .i64 n.g, .int .i64 n.x, .int .i64 n.y], .agg #[.bool u0, .bool u1, .bool u2, .bool u3, .bool u4, .bool u5, .int .i64 g]] w
      fun e w' => e = .returned (.int .i64 g) ∧ Ext w w' := by
  go_enter Tryd.func38, Tryd.ntmps38
  go_wp2_with fail
  go_ret
  exact ⟨rfl, ((Ext.refl _).alloc _).alloc _⟩

set_option maxRecDepth 100000 in
set_option maxHeartbeats 1000000 in
theorem union_any (v : Value) (l : List Nd) (w : World) (h : Fml w v l) :
    Calls Tryd.prog 37 #[v, .func (Fn.func 38) #[] #[]] w fun e w' => e = .returned (.int .i64 (fragsN l : Nat)) ∧ Ext w w' := by
  have H := Lib.hid h
  clear h
  go_enter Tryd.func37, Tryd.ntmps37
  go_wp2_with fail
  refine (compactF_any _ l _ H.out).mono ?_
  rintro e w1 ⟨u, rfl, hm⟩
  have HX := Lib.hid hm.2.2
  obtain ⟨A, c, rfl, hcap, hmax, hread⟩ := hm.fml.1
  unfold maxLen at hmax
  have HR := Lib.hid hread
  obtain ⟨cl, hcl⟩ : ∃ cl, cl = compactN l := ⟨_, rfl⟩
  have HCL := Lib.hid (show fragsN l = fragMask cl by rw [hcl]; rfl)
  rw [← hcl] at HR hcap
  rw [← hcl]
  clear hm hread hcl
  go_wp2_with fail
  go_loopw [5, 13] (fun out i wr => ∃ k : Nat, k ≤ cl.length ∧ i = .int .i64 k ∧ out = .int .i64 (fragMask (cl.take k) : Nat) ∧ Ext w1 wr) (fun _ i _ => cl.length - (intOf i).toNat)
  case atStart => exact ⟨0, Nat.zero_le _, rfl, rfl, Ext.refl _⟩
  case round =>
    obtain ⟨k, hk, rfl, rfl, hext⟩ := hrel
    by_cases hlt2 : k < cl.length
    · obtain ⟨a, ha⟩ : ∃ a, cl[k]? = some a := ⟨_, List.getElem?_eq_getElem hlt2⟩
      obtain ⟨ad, rfl, hb1, hc1⟩ := HR.out (by intro e; rw [e] at hlt2; simp at hlt2)
      obtain ⟨a0, a1, a2, a3, a4, a5⟩ := (hc1 k a ha).keep fun p hp => hext.cell (p := p) (by rw [hp, block_of_add]; exact hb1)
      have hfr := fragOf_nn a.op
      obtain ⟨fa, hfa⟩ := Int.eq_ofNat_of_zero_le hfr.1
      have hor := i64_or_nat (fragMask (cl.take k)) fa (by have := fragMask_lt (cl.take k); omega) (by omega)
      have HS : Hid (fragMask (cl.take (k + 1)) = (fragMask (cl.take k) ||| fa)) := Lib.hid (by rw [take_succ_eq ha, fragMask_snoc, hfa]; rfl)
      have HFA := Lib.hid hfa
      generalize fragMask (cl.take k) = m at hor HS
      clear ha hc1 hfr hfa
      go_wp2_with (first | (go_at_call 56; refine (uses_as _ _ _ _ _ _ _ _ rfl rfl rfl rfl rfl rfl rfl _).mono ?_; rintro e w2 ⟨rfl, hb⟩; rw [HFA.out]; have HB := Lib.hid hb; obtain ⟨hc, _, hz0⟩ := hb.facts; clear hb; have hz : wr.heap.size < w2.heap.size := by { simp at hz0; omega }; clear hz0) | (go_at_call 38; refine (fragsMask_any a _ _ _ _ _ _ _ _).mono ?_; rintro e w3 ⟨rfl, hb3⟩))
      go_roundw
      case rel => exact ⟨k + 1, by omega, by go_num, by rw [HS.out], (((hext.alloc _).trans HB.out).alloc _).trans hb3⟩
      case measure => simp [intOf]; omega
    · obtain rfl : cl.length = k := by omega
      go_wp2_with fail
      go_ret
      exact ⟨ret_int (by rw [HCL.out, List.take_of_length_le (Nat.le_refl _)]), HX.out.trans hext⟩

set_option maxHeartbeats 400000 in
theorem frags_any (v : Value) (l : List Nd) (w : World) (h : Fml w v l) :
    Calls Tryd.prog 17 #[v] w fun e w' => e = .returned (.int .i64 (fragsN l : Nat)) ∧ Ext w w' := by
  have H := Lib.hid h
  clear h
  go_enter Tryd.func17, Tryd.ntmps17
  go_wp2_with (go_at_call 37; refine (union_any _ l _ H.out).mono ?_; rintro e w3 ⟨rfl, hb3⟩)
  go_ret
  exact ⟨rfl, hb3⟩

theorem same_of {b1 b2 : Bool} (h : b1 = b2) : Ending.returned (.bool b1) = .returned (.bool b2) := by rw [h]

set_option maxRecDepth 100000 in
set_option maxHeartbeats 1000000 in
theorem same_any (v1 v2 : Value) (l1 l2 : List Nd) (w : World) (h1 : Fml w v1 l1) (h2 : Fml w v2 l2) :
    Calls Tryd.prog 35 #[v1, v2] w fun e w' => e = .returned (.bool (sameN l1 l2)) ∧ Ext w w' := by
  have H1 := Lib.hid h1
  have H2 := Lib.hid h2
  clear h1 h2
  by_cases hc1 : check l1 = 0
  · have HC1 := Lib.hid hc1
    clear hc1
    by_cases hc2 : check l2 = 0
    · have HC2 := Lib.hid hc2
      clear hc2
      go_enter Tryd.func35, Tryd.ntmps35
      go_wp2_with fail
      refine (check_any _ l1 _ H1.out.1).mono ?_
      rintro e w1 ⟨rfl, hb1⟩
      rw [HC1.out]
      go_wp2_with fail
      refine (check_any _ l2 _ (H2.out.1.ext hb1)).mono ?_
      rintro e w2 ⟨rfl, hb2⟩
      rw [HC2.out]
      have X2 := Lib.hid (hb1.trans hb2)
      clear hb1 hb2
      go_wp2_with fail
      refine (compactF_any _ l1 _ (H1.out.ext X2.out)).mono ?_
      rintro e w3 ⟨u1, rfl, hm1⟩
      have X3 := Lib.hid (X2.out.trans hm1.2.2)
      have M1 := Lib.hid hm1
      clear hm1
      go_wp2_with fail
      refine (compactF_any _ l2 _ (H2.out.ext X3.out)).mono ?_
      rintro e w4 ⟨u2, rfl, hm2⟩
      have X4 := Lib.hid (X3.out.trans hm2.2.2)
      have M2 := Lib.hid hm2
      clear hm2
      go_wp2_with fail
      refine (equalN_any _ _ _ _ _ ((M1.out.after M2.out.2.2).fml.1) M2.out.fml.1).mono ?_
      rintro e w5 ⟨rfl, hb5⟩
      go_wp2_with fail
      go_ret
      exact ⟨same_of (by simp [sameN, HC1.out, HC2.out]), X4.out.trans hb5⟩
    · have hb : (check l2 == 0) = false := by simpa using hc2
      have HR := Lib.hid (show sameN l1 l2 = false by simp [sameN, hb])
      clear hc2
      go_enter Tryd.func35, Tryd.ntmps35
      go_wp2_with fail
      refine (check_any _ l1 _ H1.out.1).mono ?_
      rintro e w1 ⟨rfl, hb1⟩
      rw [HC1.out]
      go_wp2_with fail
      refine (check_any _ l2 _ (H2.out.1.ext hb1)).mono ?_
      rintro e w2 ⟨rfl, hb2⟩
      go_wp2_with fail
      go_ret
      exact ⟨same_of (by rw [HR.out]), hb1.trans hb2⟩
  · have hb : (check l1 == 0) = false := by simpa using hc1
    have HR := Lib.hid (show sameN l1 l2 = false by simp [sameN, hb])
    clear hc1
    go_enter Tryd.func35, Tryd.ntmps35
    go_wp2_with fail
    refine (check_any _ l1 _ H1.out.1).mono ?_
    rintro e w1 ⟨rfl, hb1⟩
    go_wp2_with fail
    go_ret
    exact ⟨same_of (by rw [HR.out]), hb1⟩
end Go.Proofs.YtipnbfbakohcaaaDoor
