/- The walk of formula.nodeError, way by way. -/
import Derived.Test.YtdpblciohodgcaaDoorS01

namespace Go.Proofs.YtdpblciohodgcaaDoor
open Go.RowKit

set_option maxHeartbeats 1000000 in
theorem nodeError_agent_e (n : Nd) (at_ : Int) (w : World) (ho : isOp n.op = true) (hf : hasFact n.op = false) (ha : hasAgent n.op = true) (hg0 : hasGroup n.op = false) (he0 : hasEvent n.op = false)
    (hx : operandOk (hasX n.op) n.x at_ = true) (hy : operandOk (hasY n.op) n.y at_ = true) (he : (n.e != 0) = true) :
    Calls Tryd.prog 42 #[n.val, .int .i64 at_] w fun e w' => e = .returned (.int .i64 3) ∧ Ext w w' := by
  unfold Nd.val
  have HO := Lib.hid ho; have HF := Lib.hid hf; have HA := Lib.hid ha; have HG := Lib.hid hg0; have HE := Lib.hid he0; have HX := Lib.hid hx; have HY := Lib.hid hy
  clear  ho hf ha hg0 he0 hx hy
  go_enter Tryd.func42, Tryd.ntmps42
  go_wp2_with (first | (go_at_call 41; refine (uses_as _ _ _ _ _ _ _ _ rfl rfl HF.out HA.out HG.out HE.out HO.out _).mono ?_; rintro e w1 ⟨rfl, hb⟩; obtain ⟨hc, hfr, hz0⟩ := hb.facts; have hz : w.heap.size < w1.heap.size := by { simp at hz0; omega }; clear hz0) | (go_at_call 62; (with_reducible refine (operand_as _ _ _ true HX.out _).mono ?_); rintro e w' ⟨rfl, rfl⟩) | (go_at_call 62; (with_reducible refine (operand_as _ _ _ true HY.out _).mono ?_); rintro e w' ⟨rfl, rfl⟩) | (go_at_call 63; (with_reducible refine (outside_as false _ _ _ false rfl _).mono ?_); rintro e w' ⟨rfl, rfl⟩))
  go_ret
  exact ⟨rfl, (((Ext.refl _).alloc _).trans hb).alloc _⟩

set_option maxHeartbeats 1000000 in
theorem nodeError_agent_g (n : Nd) (at_ : Int) (w : World) (ho : isOp n.op = true) (hf : hasFact n.op = false) (ha : hasAgent n.op = true) (hg0 : hasGroup n.op = false) (he0 : hasEvent n.op = false)
    (hx : operandOk (hasX n.op) n.x at_ = true) (hy : operandOk (hasY n.op) n.y at_ = true) (he : n.e = 0) (hg : (n.g != 0) = true) :
    Calls Tryd.prog 42 #[n.val, .int .i64 at_] w fun e w' => e = .returned (.int .i64 3) ∧ Ext w w' := by
  unfold Nd.val
  rw [he]
  have HO := Lib.hid ho; have HF := Lib.hid hf; have HA := Lib.hid ha; have HG := Lib.hid hg0; have HE := Lib.hid he0; have HX := Lib.hid hx; have HY := Lib.hid hy
  clear he ho hf ha hg0 he0 hx hy
  go_enter Tryd.func42, Tryd.ntmps42
  go_wp2_with (first | (go_at_call 41; refine (uses_as _ _ _ _ _ _ _ _ rfl rfl HF.out HA.out HG.out HE.out HO.out _).mono ?_; rintro e w1 ⟨rfl, hb⟩; obtain ⟨hc, hfr, hz0⟩ := hb.facts; have hz : w.heap.size < w1.heap.size := by { simp at hz0; omega }; clear hz0) | (go_at_call 62; (with_reducible refine (operand_as _ _ _ true HX.out _).mono ?_); rintro e w' ⟨rfl, rfl⟩) | (go_at_call 62; (with_reducible refine (operand_as _ _ _ true HY.out _).mono ?_); rintro e w' ⟨rfl, rfl⟩) | (go_at_call 63; (with_reducible refine (outside_as false _ _ _ false rfl _).mono ?_); rintro e w' ⟨rfl, rfl⟩))
  go_ret
  exact ⟨rfl, (((Ext.refl _).alloc _).trans hb).alloc _⟩

set_option maxHeartbeats 1000000 in
theorem nodeError_agent_r (n : Nd) (at_ : Int) (w : World) (ho : isOp n.op = true) (hf : hasFact n.op = false) (ha : hasAgent n.op = true) (hg0 : hasGroup n.op = false) (he0 : hasEvent n.op = false)
    (hx : operandOk (hasX n.op) n.x at_ = true) (hy : operandOk (hasY n.op) n.y at_ = true) (he : n.e = 0) (hg : n.g = 0) (r0 : outsideB true n.i 0 3 = true) :
    Calls Tryd.prog 42 #[n.val, .int .i64 at_] w fun e w' => e = .returned (.int .i64 2) ∧ Ext w w' := by
  unfold Nd.val
  rw [he, hg]
  have HO := Lib.hid ho; have HF := Lib.hid hf; have HA := Lib.hid ha; have HG := Lib.hid hg0; have HE := Lib.hid he0; have HX := Lib.hid hx; have HY := Lib.hid hy
  have R0 := Lib.hid r0; clear r0
  clear he hg ho hf ha hg0 he0 hx hy
  go_enter Tryd.func42, Tryd.ntmps42
  go_wp2_with (first | (go_at_call 41; refine (uses_as _ _ _ _ _ _ _ _ rfl rfl HF.out HA.out HG.out HE.out HO.out _).mono ?_; rintro e w1 ⟨rfl, hb⟩; obtain ⟨hc, hfr, hz0⟩ := hb.facts; have hz : w.heap.size < w1.heap.size := by { simp at hz0; omega }; clear hz0) | (go_at_call 62; (with_reducible refine (operand_as _ _ _ true HX.out _).mono ?_); rintro e w' ⟨rfl, rfl⟩) | (go_at_call 62; (with_reducible refine (operand_as _ _ _ true HY.out _).mono ?_); rintro e w' ⟨rfl, rfl⟩) | (go_at_call 63; (with_reducible refine (outside_as true _ _ _ true R0.out _).mono ?_); rintro e w' ⟨rfl, rfl⟩) | (go_at_call 63; (with_reducible refine (outside_as false _ _ _ false rfl _).mono ?_); rintro e w' ⟨rfl, rfl⟩))
  go_ret
  exact ⟨rfl, (((Ext.refl _).alloc _).trans hb).alloc _⟩

set_option maxHeartbeats 1000000 in
theorem nodeError_agent_ok (n : Nd) (at_ : Int) (w : World) (ho : isOp n.op = true) (hf : hasFact n.op = false) (ha : hasAgent n.op = true) (hg0 : hasGroup n.op = false) (he0 : hasEvent n.op = false)
    (hx : operandOk (hasX n.op) n.x at_ = true) (hy : operandOk (hasY n.op) n.y at_ = true) (he : n.e = 0) (hg : n.g = 0) (r0 : outsideB true n.i 0 3 = false) :
    Calls Tryd.prog 42 #[n.val, .int .i64 at_] w fun e w' => e = .returned (.int .i64 0) ∧ Ext w w' := by
  unfold Nd.val
  rw [he, hg]
  have HO := Lib.hid ho; have HF := Lib.hid hf; have HA := Lib.hid ha; have HG := Lib.hid hg0; have HE := Lib.hid he0; have HX := Lib.hid hx; have HY := Lib.hid hy
  have R0 := Lib.hid r0; clear r0
  clear he hg ho hf ha hg0 he0 hx hy
  go_enter Tryd.func42, Tryd.ntmps42
  go_wp2_with (first | (go_at_call 41; refine (uses_as _ _ _ _ _ _ _ _ rfl rfl HF.out HA.out HG.out HE.out HO.out _).mono ?_; rintro e w1 ⟨rfl, hb⟩; obtain ⟨hc, hfr, hz0⟩ := hb.facts; have hz : w.heap.size < w1.heap.size := by { simp at hz0; omega }; clear hz0) | (go_at_call 62; (with_reducible refine (operand_as _ _ _ true HX.out _).mono ?_); rintro e w' ⟨rfl, rfl⟩) | (go_at_call 62; (with_reducible refine (operand_as _ _ _ true HY.out _).mono ?_); rintro e w' ⟨rfl, rfl⟩) | (go_at_call 63; (with_reducible refine (outside_as true _ _ _ false R0.out _).mono ?_); rintro e w' ⟨rfl, rfl⟩) | (go_at_call 63; (with_reducible refine (outside_as false _ _ _ false rfl _).mono ?_); rintro e w' ⟨rfl, rfl⟩))
  go_ret
  exact ⟨rfl, (((Ext.refl _).alloc _).trans hb).alloc _⟩

set_option maxHeartbeats 1000000 in
theorem nodeError_event_i (n : Nd) (at_ : Int) (w : World) (ho : isOp n.op = true) (hf : hasFact n.op = false) (ha : hasAgent n.op = false) (hg0 : hasGroup n.op = false) (he0 : hasEvent n.op = true)
    (hx : operandOk (hasX n.op) n.x at_ = true) (hy : operandOk (hasY n.op) n.y at_ = true) (hg : n.g = 0) (r0 : outsideB true n.i 0 7 = true) :
    Calls Tryd.prog 42 #[n.val, .int .i64 at_] w fun e w' => e = .returned (.int .i64 2) ∧ Ext w w' := by
  unfold Nd.val
  rw [hg]
  have HO := Lib.hid ho; have HF := Lib.hid hf; have HA := Lib.hid ha; have HG := Lib.hid hg0; have HE := Lib.hid he0; have HX := Lib.hid hx; have HY := Lib.hid hy
  have R0 := Lib.hid r0; clear r0
  clear hg ho hf ha hg0 he0 hx hy
  go_enter Tryd.func42, Tryd.ntmps42
  go_wp2_with (first | (go_at_call 41; refine (uses_as _ _ _ _ _ _ _ _ rfl rfl HF.out HA.out HG.out HE.out HO.out _).mono ?_; rintro e w1 ⟨rfl, hb⟩; obtain ⟨hc, hfr, hz0⟩ := hb.facts; have hz : w.heap.size < w1.heap.size := by { simp at hz0; omega }; clear hz0) | (go_at_call 62; (with_reducible refine (operand_as _ _ _ true HX.out _).mono ?_); rintro e w' ⟨rfl, rfl⟩) | (go_at_call 62; (with_reducible refine (operand_as _ _ _ true HY.out _).mono ?_); rintro e w' ⟨rfl, rfl⟩) | (go_at_call 63; (with_reducible refine (outside_as true _ _ _ true R0.out _).mono ?_); rintro e w' ⟨rfl, rfl⟩) | (go_at_call 63; (with_reducible refine (outside_as false _ _ _ false rfl _).mono ?_); rintro e w' ⟨rfl, rfl⟩))
  go_ret
  exact ⟨rfl, (((Ext.refl _).alloc _).trans hb).alloc _⟩

set_option maxHeartbeats 1000000 in
theorem nodeError_event_e (n : Nd) (at_ : Int) (w : World) (ho : isOp n.op = true) (hf : hasFact n.op = false) (ha : hasAgent n.op = false) (hg0 : hasGroup n.op = false) (he0 : hasEvent n.op = true)
    (hx : operandOk (hasX n.op) n.x at_ = true) (hy : operandOk (hasY n.op) n.y at_ = true) (hg : n.g = 0) (r0 : outsideB true n.i 0 7 = false) (r1 : outsideB true n.e 0 7 = true) :
    Calls Tryd.prog 42 #[n.val, .int .i64 at_] w fun e w' => e = .returned (.int .i64 2) ∧ Ext w w' := by
  unfold Nd.val
  rw [hg]
  have HO := Lib.hid ho; have HF := Lib.hid hf; have HA := Lib.hid ha; have HG := Lib.hid hg0; have HE := Lib.hid he0; have HX := Lib.hid hx; have HY := Lib.hid hy
  have R0 := Lib.hid r0; clear r0
  have R1 := Lib.hid r1; clear r1
  clear hg ho hf ha hg0 he0 hx hy
  go_enter Tryd.func42, Tryd.ntmps42
  go_wp2_with (first | (go_at_call 41; refine (uses_as _ _ _ _ _ _ _ _ rfl rfl HF.out HA.out HG.out HE.out HO.out _).mono ?_; rintro e w1 ⟨rfl, hb⟩; obtain ⟨hc, hfr, hz0⟩ := hb.facts; have hz : w.heap.size < w1.heap.size := by { simp at hz0; omega }; clear hz0) | (go_at_call 62; (with_reducible refine (operand_as _ _ _ true HX.out _).mono ?_); rintro e w' ⟨rfl, rfl⟩) | (go_at_call 62; (with_reducible refine (operand_as _ _ _ true HY.out _).mono ?_); rintro e w' ⟨rfl, rfl⟩) | (go_at_call 63; (with_reducible refine (outside_as true _ _ _ false R0.out _).mono ?_); rintro e w' ⟨rfl, rfl⟩) | (go_at_call 63; (with_reducible refine (outside_as true _ _ _ true R1.out _).mono ?_); rintro e w' ⟨rfl, rfl⟩) | (go_at_call 63; (with_reducible refine (outside_as false _ _ _ false rfl _).mono ?_); rintro e w' ⟨rfl, rfl⟩))
  go_ret
  exact ⟨rfl, (((Ext.refl _).alloc _).trans hb).alloc _⟩
end Go.Proofs.YtdpblciohodgcaaDoor
