/- The reference's Same, Frag and Frags. -/
import Derived.Test.YtipnbfbakohcaaaDoorRefSub
namespace Go.Proofs.YtipnbfbakohcaaaDoor
open Go.RowKit

set_option maxRecDepth 100000 in
set_option maxHeartbeats 1000000 in
theorem refSame_any (v1 v2 : Value) (l1 l2 : List Nd) (w : World) (h1 : Fml w v1 l1) (h2 : Fml w v2 l2) :
    Calls Tryd.prog 79 #[v1, v2] w fun e w' => e = .returned (.bool (sameN l1 l2)) ∧ Ext w w' := by
  have H1 := Lib.hid h1
  have H2 := Lib.hid h2
  clear h1 h2
  by_cases hc1 : check l1 = 0
  · have HC1 := Lib.hid hc1
    clear hc1
    by_cases hc2 : check l2 = 0
    · have HC2 := Lib.hid hc2
      clear hc2
      go_enter Tryd.func79, Tryd.ntmps79
      go_wp2_with fail
      refine (refCheck_any _ l1 _ H1.out.1).mono ?_
      rintro e w1 ⟨rfl, hb1⟩
      rw [HC1.out]
      go_wp2_with fail
      refine (refCheck_any _ l2 _ (H2.out.1.ext hb1)).mono ?_
      rintro e w2 ⟨rfl, hb2⟩
      rw [HC2.out]
      have X2 := Lib.hid (hb1.trans hb2)
      clear hb1 hb2
      go_wp2_with fail
      refine (refCompact_any _ l1 _ (H1.out.ext X2.out)).mono ?_
      rintro e w3 ⟨u1, rfl, hm1⟩
      have X3 := Lib.hid (X2.out.trans hm1.2.2)
      have M1 := Lib.hid hm1
      clear hm1
      go_wp2_with fail
      refine (refCompact_any _ l2 _ (H2.out.ext X3.out)).mono ?_
      rintro e w4 ⟨u2, rfl, hm2⟩
      have X4 := Lib.hid (X3.out.trans hm2.2.2)
      have M2 := Lib.hid hm2
      clear hm2
      go_wp2_with fail
      refine (refEqual_any _ _ _ _ _ ((M1.out.after M2.out.2.2).fml.1) M2.out.fml.1).mono ?_
      rintro e w5 ⟨rfl, hb5⟩
      go_wp2_with fail
      go_ret
      exact ⟨same_of (by simp [sameN, HC1.out, HC2.out]), X4.out.trans hb5⟩
    · have hb : (check l2 == 0) = false := by simpa using hc2
      have HR := Lib.hid (show sameN l1 l2 = false by simp [sameN, hb])
      clear hc2
      go_enter Tryd.func79, Tryd.ntmps79
      go_wp2_with fail
      refine (refCheck_any _ l1 _ H1.out.1).mono ?_
      rintro e w1 ⟨rfl, hb1⟩
      rw [HC1.out]
      go_wp2_with fail
      refine (refCheck_any _ l2 _ (H2.out.1.ext hb1)).mono ?_
      rintro e w2 ⟨rfl, hb2⟩
      go_wp2_with fail
      go_ret
      exact ⟨same_of (by rw [HR.out]), hb1.trans hb2⟩
  · have hb : (check l1 == 0) = false := by simpa using hc1
    have HR := Lib.hid (show sameN l1 l2 = false by simp [sameN, hb])
    clear hc1
    go_enter Tryd.func79, Tryd.ntmps79
    go_wp2_with fail
    refine (refCheck_any _ l1 _ H1.out.1).mono ?_
    rintro e w1 ⟨rfl, hb1⟩
    go_wp2_with fail
    go_ret
    exact ⟨same_of (by rw [HR.out]), hb1⟩

set_option maxHeartbeats 1000000 in
theorem refFrag_any (op : Int) (w : World) (ho : isOp op = true) : Calls Tryd.prog 48 #[.int .i64 op] w fun e w' => e = .returned (.int .i64 (fragOf op)) ∧ w = w' := by
  have h1 := (isOp_iff op).1 ho
  rcases op_cases op with h | h | h | h | h | h | h | h | h | h | h | h | h | h | h | h | h | h | h | h | h | h | h
  · omega
  · omega
  all_goals (subst h; go_enter Tryd.func48, Tryd.ntmps48; go_wp2; go_ret; exact ⟨rfl, rfl⟩)

theorem heads_compact (l : List Nd) : ∀ n ∈ compactN l, isOp n.op = true := by
  intro n hn
  by_cases h : check l = 0
  · exact ((compactN_props h).2.2.2 n hn).1
  · rw [compactN_bad h] at hn; cases hn

set_option maxRecDepth 100000 in
set_option maxHeartbeats 1000000 in
theorem refFrags_any (v : Value) (l : List Nd) (w : World) (h : Fml w v l) :
    Calls Tryd.prog 32 #[v] w fun e w' => e = .returned (.int .i64 (fragsN l : Nat)) ∧ Ext w w' := by
  have H := Lib.hid h
  clear h
  go_enter Tryd.func32, Tryd.ntmps32
  go_wp2_with fail
  refine (refCompact_any _ l _ H.out).mono ?_
  rintro e w1 ⟨u, rfl, hm⟩
  have HX := Lib.hid hm.2.2
  obtain ⟨A, c, rfl, hcap, hmax, hread⟩ := hm.fml.1
  unfold maxLen at hmax
  have HR := Lib.hid hread
  obtain ⟨cl, hcl⟩ : ∃ cl, cl = compactN l := ⟨_, rfl⟩
  have HCL := Lib.hid (show fragsN l = fragMask cl by rw [hcl]; rfl)
  have HOP := Lib.hid (heads_compact l)
  rw [← hcl] at HR hcap HOP
  rw [← hcl]
  clear hm hread hcl
  go_wp2_with fail
  go_loopw [4, 5] (fun out i wr => ∃ k : Nat, k ≤ cl.length ∧ i = .int .i64 k ∧ out = .int .i64 (fragMask (cl.take k) : Nat) ∧ Ext w1 wr) (fun _ i _ => cl.length - (intOf i).toNat)
  case atStart => exact ⟨0, Nat.zero_le _, rfl, rfl, Ext.refl _⟩
  case round =>
    obtain ⟨k, hk, rfl, rfl, hext⟩ := hrel
    by_cases hlt2 : k < cl.length
    · obtain ⟨a, ha⟩ : ∃ a, cl[k]? = some a := ⟨_, List.getElem?_eq_getElem hlt2⟩
      obtain ⟨ad, rfl, hb1, hc1⟩ := HR.out (by intro e; rw [e] at hlt2; simp at hlt2)
      obtain ⟨a0, a1, a2, a3, a4, a5⟩ := (hc1 k a ha).keep fun p hp => hext.cell (p := p) (by rw [hp, block_of_add]; exact hb1)
      have hfr := fragOf_nn a.op
      obtain ⟨fa, hfa⟩ := Int.eq_ofNat_of_zero_le hfr.1
      have hor := i64_or_nat (fragMask (cl.take k)) fa (by have := fragMask_lt (cl.take k); omega) (by omega)
      have HS : Hid (fragMask (cl.take (k + 1)) = (fragMask (cl.take k) ||| fa)) := Lib.hid (by rw [take_succ_eq ha, fragMask_snoc, hfa]; rfl)
      have HFA := Lib.hid hfa
      have HO := Lib.hid (HOP.out a (List.mem_of_getElem? ha))
      generalize fragMask (cl.take k) = m at hor HS
      clear ha hc1 hfr hfa
      go_wp2_with (go_at_call 48; refine (refFrag_any a.op _ HO.out).mono ?_; rintro e w2 ⟨rfl, rfl⟩; rw [HFA.out])
      go_roundw
      case rel => exact ⟨k + 1, by omega, by go_num, by rw [HS.out], hext⟩
      case measure => simp [intOf]; omega
    · obtain rfl : cl.length = k := by omega
      go_wp2_with fail
      go_ret
      exact ⟨ret_int (by rw [HCL.out, List.take_of_length_le (Nat.le_refl _)]), HX.out.trans hext⟩
end Go.Proofs.YtipnbfbakohcaaaDoor
