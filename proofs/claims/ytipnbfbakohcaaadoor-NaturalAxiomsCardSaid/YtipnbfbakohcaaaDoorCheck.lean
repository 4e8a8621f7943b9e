/- formula.Check returns the error of a list of nodes. -/
import Derived.Test.YtipnbfbakohcaaaDoorNodeErrAll
import Derived.Test.YtipnbfbakohcaaaDoorNds
namespace Go.Proofs.YtipnbfbakohcaaaDoor
open Go.RowKit

theorem ret_int {k : IntKind} {a b : Int} (h : a = b) : Ending.returned (.int k a) = .returned (.int k b) := by rw [h]

set_option maxHeartbeats 400000 in
theorem check_any (v : Value) (l : List Nd) (w : World) (h : Nds w v l) :
    Calls Tryd.prog 16 #[v] w fun e w' => e = .returned (.int .i64 (check l)) ∧ Ext w w' := by
  obtain ⟨A, c, rfl, hcap, hmax, hread⟩ := h
  unfold maxLen at hmax
  by_cases h0 : l.length = 0
  · have hcheck : check l = 3 := by simp [check, h0]
    rw [h0, hcheck]
    clear hcheck hread
    go_enter Tryd.func16, Tryd.ntmps16
    go_wp2_with fail
    go_ret
    exact ⟨rfl, Ext.refl _⟩
  have e0 : ((l.length : Int) == 0) = false := by rw [beq_eq_false_iff_ne]; omega
  by_cases h1 : 200 < l.length
  · have hcheck : check l = 8 := by simp [check, h0, h1]
    rw [hcheck]
    clear hcheck hread
    go_enter Tryd.func16, Tryd.ntmps16
    go_wp2_with fail
    go_ret
    exact ⟨rfl, Ext.refl _⟩
  have hne : l ≠ [] := fun e => h0 (by simp [e])
  obtain ⟨ad, rfl, hlt, hcells⟩ := hread hne
  have HC := Lib.hid hcells; clear hcells
  have HK := Lib.hid (show check l = checkNodes l 0 by simp [check, h0, h1])
  have hl : l.length ≤ 200 := by omega
  clear h0 h1 hread
  go_enter Tryd.func16, Tryd.ntmps16
  go_wp2_with fail
  go_loopw [14] (fun i wr => ∃ k : Nat, k ≤ l.length ∧ i = .int .i64 k ∧ Hid (checkNodes l 0 = checkNodes (l.drop k) k) ∧ Ext w wr) (fun i _ => l.length - (intOf i).toNat)
  case atStart => exact ⟨0, Nat.zero_le _, rfl, Lib.hid rfl, Ext.refl _⟩
  case round =>
    obtain ⟨k, hk, rfl, hrest, hext⟩ := hrel
    by_cases hlt2 : k < l.length
    · obtain ⟨n, hn⟩ : ∃ n, l[k]? = some n := ⟨_, List.getElem?_eq_getElem hlt2⟩
      have hst := checkNodes_step l k n hn
      obtain ⟨c0, c1, c2, c3, c4, c5⟩ := (HC.out k n hn).keep fun p hp => hext.cell (p := p) (by rw [hp, block_of_add]; exact hlt)
      by_cases he : nodeErr n k = 0
      · have hst2 : Hid (checkNodes l 0 = checkNodes (l.drop (k + 1)) ((k + 1 : Nat) : Int)) := Lib.hid (by rw [hrest.out, hst, he]; rfl)
        have hh := Lib.hid he
        clear hst he hn hrest
        go_wp2_with (go_at_call 36; refine (nodeError_any n _ _).mono ?_; rintro e w1 ⟨rfl, hb⟩; rw [hh.out])
        go_roundw
        case rel => exact ⟨k + 1, by omega, by go_num, hst2, (hext.alloc _).trans hb⟩
        case measure => simp [intOf]; omega
      · have hh : (nodeErr n k != 0) = true := by simpa using he
        have hst2 : Hid (checkNodes l 0 = nodeErr n k) := Lib.hid (by rw [hrest.out, hst, hh]; rfl)
        clear hst he hn hrest
        go_wp2_with (go_at_call 36; refine (nodeError_any n _ _).mono ?_; rintro e w1 ⟨rfl, hb⟩)
        go_ret
        exact ⟨ret_int (by rw [HK.out, hst2.out]), (hext.alloc _).trans hb⟩
    · obtain rfl : l.length = k := by omega
      go_wp2_with fail
      go_ret
      refine ⟨ret_int ?_, hext⟩
      rw [HK.out, hrest.out]
      simp [checkNodes]
end Go.Proofs.YtipnbfbakohcaaaDoor
