/- Nodes compared; slices.Equal at nodes; formula.Same, Frags. -/
import Derived.Test.YtipnbfbakohcaaaDoorSub
import Derived.Laws.StructEq
import Derived.Laws.Tables
namespace Go.Proofs.YtipnbfbakohcaaaDoor
open Go.RowKit

theorem eqNode (a b : Nd) (w : World) :
    (Op.equalIn 10000 60 (.agg #[.int .i64 a.op, .int .i64 a.i, .int .i64 a.e, .int .i64 a.g, .int .i64 a.x, .int .i64 a.y]) (.agg #[.int .i64 b.op, .int .i64 b.i, .int .i64 b.e, .int .i64 b.g, .int .i64 b.x, .int .i64 b.y])).run Tryd.prog w = .ok (decide (a = b)) w := by
  have u3 := Tryd.underlying3
  have a3 := Tryd.isAgg3
  have z3 := Tryd.sizeOf3
  have hS : Tryd.prog.underlying 60 = some (.struct (Tryd.prog.fieldsOf 60)) := by kernel_rfl
  have hp : Tryd.prog.stoodInHeld 60 = false := by kernel_rfl
  rw [show (10000 : Nat) = 9999 + 1 from rfl, run_equalIn_agg w 9999 60 _ _ hS hp]
  simp only [Program.fieldsOf, Tryd.underlying60]
  go_simp
  cases a with
  | mk a0 a1 a2 a3 a4 a5 =>
    cases b with
    | mk b0 b1 b2 b3 b4 b5 =>
      simp only [Nd.mk.injEq]
      by_cases h0 : a0 = b0 <;> by_cases h1 : a1 = b1 <;> by_cases h2 : a2 = b2 <;> by_cases h3 : a3 = b3 <;> by_cases h4 : a4 = b4 <;> by_cases h5 : a5 = b5 <;> simp [h0, h1, h2, h3, h4, h5]
end Go.Proofs.YtipnbfbakohcaaaDoor
