/- slices.Equal at nodes tells whether two lists are equal. -/
import Derived.Test.YtipnbfbakohcaaaDoorEqual
import Derived.Deep.QuietTactic
import Derived.BigQuiet
namespace Go.Proofs.YtipnbfbakohcaaaDoor
open Go.RowKit

theorem take_succ_eq {α : Type} {l : List α} {k : Nat} {a : α} (h : l[k]? = some a) : l.take (k + 1) = l.take k ++ [a] := by
  rw [List.take_add_one, h]; rfl
theorem lists_differ {α : Type} {a b : List α} {k : Nat} {x y : α} (ha : a[k]? = some x) (hb : b[k]? = some y) (hne : x ≠ y) : a ≠ b := by
  intro e
  rw [e, hb] at ha
  exact hne (Option.some.inj ha).symm

set_option maxRecDepth 100000 in
set_option maxHeartbeats 1000000 in
theorem equalN_any (v1 v2 : Value) (l1 l2 : List Nd) (w : World) (h1 : Nds w v1 l1) (h2 : Nds w v2 l2) :
    Calls Tryd.prog 55 #[v1, v2] w fun e w' => e = .returned (.bool (decide (l1 = l2))) ∧ Ext w w' := by
  obtain ⟨A1, c1, rfl, hcap1, hmax1, hr1⟩ := h1
  obtain ⟨A2, c2, rfl, hcap2, hmax2, hr2⟩ := h2
  unfold maxLen at hmax1 hmax2
  by_cases hl : l1.length = l2.length
  · have HR1 := Lib.hid hr1
    have HR2 := Lib.hid hr2
    have HL := Lib.hid hl
    have eb : ((l1.length : Int) != (l2.length : Int)) = false := by simp [hl]
    clear hr1 hr2 hl
    go_enter Tryd.func55, Tryd.ntmps55
    go_wp2_with fail
    go_loopw [13] (fun i wr => ∃ k : Nat, k ≤ l1.length ∧ i = .int .i64 k ∧ Hid (l1.take k = l2.take k) ∧ Ext w wr) (fun i _ => l1.length - (intOf i).toNat)
    case atStart => exact ⟨0, Nat.zero_le _, rfl, Lib.hid rfl, Ext.refl _⟩
    case round =>
      obtain ⟨k, hk, rfl, htk, hext⟩ := hrel
      by_cases hlt2 : k < l1.length
      · have hlt3 : k < l2.length := by have := HL.out; omega
        obtain ⟨a, ha⟩ : ∃ a, l1[k]? = some a := ⟨_, List.getElem?_eq_getElem hlt2⟩
        obtain ⟨b, hb⟩ : ∃ b, l2[k]? = some b := ⟨_, List.getElem?_eq_getElem hlt3⟩
        obtain ⟨ad1, rfl, hb1, hc1⟩ := HR1.out (by intro e; rw [e] at hlt2; simp at hlt2)
        obtain ⟨ad2, rfl, hb2, hc2⟩ := HR2.out (by intro e; rw [e] at hlt3; simp at hlt3)
        obtain ⟨a0, a1, a2, a3, a4, a5⟩ := (hc1 k a ha).keep fun p hp => hext.cell (p := p) (by rw [hp, block_of_add]; exact hb1)
        obtain ⟨b0, b1, b2, b3, b4, b5⟩ := (hc2 k b hb).keep fun p hp => hext.cell (p := p) (by rw [hp, block_of_add]; exact hb2)
        have hi0 : (0 : Int) ≤ (k : Int) := by omega
        have hi1 : (k : Int) < (l1.length : Int) := by omega
        have hi2 : (k : Int) < (l2.length : Int) := by omega
        have heq := fun W => eqNode a b W
        have HA := Lib.hid ha
        have HB := Lib.hid hb
        clear ha hb hc1 hc2
        by_cases hab : a = b
        · have hd : decide (a = b) = true := by simpa using hab
          have HT : Hid (l1.take (k + 1) = l2.take (k + 1)) := Lib.hid (by rw [take_succ_eq HA.out, take_succ_eq HB.out, htk.out, hab])
          clear hab
          go_wp2_with fail
          go_quiet (fail)
          go_wp2_with fail
          go_roundw
          case rel => exact ⟨k + 1, by omega, by go_num, HT, hext.drewN _⟩
          case measure => simp [intOf]; omega
        · have hd : decide (a = b) = false := by simpa using hab
          have HR : Hid (decide (l1 = l2) = false) := Lib.hid (decide_eq_false (lists_differ HA.out HB.out hab))
          clear hab
          go_wp2_with fail
          go_quiet (fail)
          go_wp2_with fail
          go_ret
          exact ⟨by rw [HR.out]; rfl, hext.drewN _⟩
      · obtain rfl : l1.length = k := by omega
        have HR : Hid (decide (l1 = l2) = true) := Lib.hid (decide_eq_true (by
          have h := htk.out
          rw [List.take_of_length_le (Nat.le_refl _), HL.out, List.take_of_length_le (Nat.le_refl _)] at h
          exact h))
        go_wp2_with fail
        go_ret
        exact ⟨by rw [HR.out]; rfl, hext⟩
  · have eb : ((l1.length : Int) != (l2.length : Int)) = true := by simp; omega
    have HR : Hid (decide (l1 = l2) = false) := Lib.hid (decide_eq_false fun e => hl (by rw [e]))
    clear hl hr1 hr2
    go_enter Tryd.func55, Tryd.ntmps55
    go_wp2_with fail
    go_ret
    exact ⟨by rw [HR.out]; rfl, Ext.refl _⟩

set_option maxRecDepth 100000 in
set_option maxHeartbeats 1000000 in
theorem refEqual_any (v1 v2 : Value) (l1 l2 : List Nd) (w : World) (h1 : Nds w v1 l1) (h2 : Nds w v2 l2) :
    Calls Tryd.prog 13 #[v1, v2] w fun e w' => e = .returned (.bool (decide (l1 = l2))) ∧ Ext w w' := by
  obtain ⟨A1, c1, rfl, hcap1, hmax1, hr1⟩ := h1
  obtain ⟨A2, c2, rfl, hcap2, hmax2, hr2⟩ := h2
  unfold maxLen at hmax1 hmax2
  by_cases hl : l1.length = l2.length
  · have HR1 := Lib.hid hr1
    have HR2 := Lib.hid hr2
    have HL := Lib.hid hl
    have eb : ((l1.length : Int) != (l2.length : Int)) = false := by simp [hl]
    clear hr1 hr2 hl
    go_enter Tryd.func13, Tryd.ntmps13
    go_wp2_with fail
    go_loopw [5] (fun i wr => ∃ k : Nat, k ≤ l1.length ∧ i = .int .i64 k ∧ Hid (l1.take k = l2.take k) ∧ Ext w wr) (fun i _ => l1.length - (intOf i).toNat)
    case atStart => exact ⟨0, Nat.zero_le _, rfl, Lib.hid rfl, Ext.refl _⟩
    case round =>
      obtain ⟨k, hk, rfl, htk, hext⟩ := hrel
      by_cases hlt2 : k < l1.length
      · have hlt3 : k < l2.length := by have := HL.out; omega
        obtain ⟨a, ha⟩ : ∃ a, l1[k]? = some a := ⟨_, List.getElem?_eq_getElem hlt2⟩
        obtain ⟨b, hb⟩ : ∃ b, l2[k]? = some b := ⟨_, List.getElem?_eq_getElem hlt3⟩
        obtain ⟨ad1, rfl, hb1, hc1⟩ := HR1.out (by intro e; rw [e] at hlt2; simp at hlt2)
        obtain ⟨ad2, rfl, hb2, hc2⟩ := HR2.out (by intro e; rw [e] at hlt3; simp at hlt3)
        obtain ⟨a0, a1, a2, a3, a4, a5⟩ := (hc1 k a ha).keep fun p hp => hext.cell (p := p) (by rw [hp, block_of_add]; exact hb1)
        obtain ⟨b0, b1, b2, b3, b4, b5⟩ := (hc2 k b hb).keep fun p hp => hext.cell (p := p) (by rw [hp, block_of_add]; exact hb2)
        have hi0 : (0 : Int) ≤ (k : Int) := by omega
        have hi1 : (k : Int) < (l1.length : Int) := by omega
        have hi2 : (k : Int) < (l2.length : Int) := by omega
        have heq := fun W => eqNode a b W
        have HA := Lib.hid ha
        have HB := Lib.hid hb
        clear ha hb hc1 hc2
        by_cases hab : a = b
        · have hd : decide (a = b) = true := by simpa using hab
          have HT : Hid (l1.take (k + 1) = l2.take (k + 1)) := Lib.hid (by rw [take_succ_eq HA.out, take_succ_eq HB.out, htk.out, hab])
          clear hab
          go_wp2_with fail
          go_quiet (fail)
          go_wp2_with fail
          go_roundw
          case rel => exact ⟨k + 1, by omega, by go_num, HT, hext.drewN _⟩
          case measure => simp [intOf]; omega
        · have hd : decide (a = b) = false := by simpa using hab
          have HR : Hid (decide (l1 = l2) = false) := Lib.hid (decide_eq_false (lists_differ HA.out HB.out hab))
          clear hab
          go_wp2_with fail
          go_quiet (fail)
          go_wp2_with fail
          go_ret
          exact ⟨by rw [HR.out]; rfl, hext.drewN _⟩
      · obtain rfl : l1.length = k := by omega
        have HR : Hid (decide (l1 = l2) = true) := Lib.hid (decide_eq_true (by
          have h := htk.out
          rw [List.take_of_length_le (Nat.le_refl _), HL.out, List.take_of_length_le (Nat.le_refl _)] at h
          exact h))
        go_wp2_with fail
        go_ret
        exact ⟨by rw [HR.out]; rfl, hext⟩
  · have eb : ((l1.length : Int) != (l2.length : Int)) = true := by simp; omega
    have HR : Hid (decide (l1 = l2) = false) := Lib.hid (decide_eq_false fun e => hl (by rw [e]))
    clear hl hr1 hr2
    go_enter Tryd.func13, Tryd.ntmps13
    go_wp2_with fail
    go_ret
    exact ⟨by rw [HR.out]; rfl, Ext.refl _⟩
end Go.Proofs.YtipnbfbakohcaaaDoor
