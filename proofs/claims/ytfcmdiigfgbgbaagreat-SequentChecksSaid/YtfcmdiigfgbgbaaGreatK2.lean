/- The walks of formula.operand, formula.nodeError$1 and formula.nodeError. -/
import Derived.Test.YtfcmdiigfgbgbaaGreatK1
import Derived.Deep.QuietTactic
import Derived.BigQuiet

namespace Go.Proofs.YtfcmdiigfgbgbaaGreat
open Go.RowKit

set_option maxHeartbeats 400000 in
theorem operand_any (u : Bool) (field at_ : Int) (w : World) :
    Calls Tryz.prog 83 #[.bool u, .int .i64 field, .int .i64 at_] w fun e w' => e = .returned (.bool (operandOk u field at_)) ∧ w = w' := by
  cases u
  · go_enter Tryz.func83, Tryz.ntmps83
    go_wp2
    go_ret
    exact ⟨rfl, rfl⟩
  · by_cases h : 0 ≤ field
    · go_enter Tryz.func83, Tryz.ntmps83
      go_wp2
      all_goals
        go_ret
        refine ⟨?_, rfl⟩
        simp [operandOk]
        omega
    · go_enter Tryz.func83, Tryz.ntmps83
      go_wp2
      all_goals
        go_ret
        refine ⟨?_, rfl⟩
        simp [operandOk]
        omega

set_option maxHeartbeats 400000 in
theorem outside_any (u : Bool) (v low high : Int) (w : World) :
    Calls Tryz.prog 84 #[.bool u, .int .i64 v, .int .i64 low, .int .i64 high] w fun e w' => e = .returned (.bool (outsideB u v low high)) ∧ w = w' := by
  cases u
  · go_enter Tryz.func84, Tryz.ntmps84
    go_wp2
    go_ret
    exact ⟨rfl, rfl⟩
  · by_cases h : v < low
    · go_enter Tryz.func84, Tryz.ntmps84
      go_wp2
      all_goals
        go_ret
        refine ⟨?_, rfl⟩
        simp [outsideB]
        omega
    · go_enter Tryz.func84, Tryz.ntmps84
      go_wp2
      all_goals
        go_ret
        refine ⟨?_, rfl⟩
        simp [outsideB]
        omega

theorem uses_as (op : Int) (ux uy uf ua ug ue o : Bool) (hx : hasX op = ux) (hy : hasY op = uy) (hf : hasFact op = uf) (ha : hasAgent op = ua) (hg : hasGroup op = ug) (he : hasEvent op = ue) (ho : isOp op = o) (w : World) :
    Calls Tryz.prog 68 #[.int .i64 op] w fun e w' => e = .returned (.tuple #[.agg #[.bool ux, .bool uy, .bool uf, .bool ua, .bool ug, .bool ue, .int .i64 (fragOf op)], .bool o]) ∧ Ext w w' := by
  subst hx hy hf ha hg he ho
  exact uses_any op w

set_option maxHeartbeats 400000 in
theorem nodeError_notop (n : Nd) (at_ : Int) (w : World) (h : isOp n.op = false) :
    Calls Tryz.prog 69 #[n.val, .int .i64 at_] w fun e w' => e = .returned (.int .i64 10) ∧ Ext w w' := by
  unfold Nd.val
  have H := Lib.hid h; clear h
  go_enter Tryz.func69, Tryz.ntmps69
  go_wp2_with (go_at_call 68; refine (uses_as _ _ _ _ _ _ _ _ rfl rfl rfl rfl rfl rfl H.out _).mono ?_; rintro e w1 ⟨rfl, hb⟩)
  go_ret
  exact ⟨rfl, (((Ext.refl _).alloc _).trans hb).alloc _⟩

theorem operand_as (u : Bool) (field at_ : Int) (r : Bool) (h : operandOk u field at_ = r) (w : World) :
    Calls Tryz.prog 83 #[.bool u, .int .i64 field, .int .i64 at_] w fun e w' => e = .returned (.bool r) ∧ w = w' := by
  subst h
  exact operand_any u field at_ w
theorem outside_as (u : Bool) (v low high : Int) (r : Bool) (h : outsideB u v low high = r) (w : World) :
    Calls Tryz.prog 84 #[.bool u, .int .i64 v, .int .i64 low, .int .i64 high] w fun e w' => e = .returned (.bool r) ∧ w = w' := by
  subst h
  exact outside_any u v low high w

end Go.Proofs.YtfcmdiigfgbgbaaGreat
