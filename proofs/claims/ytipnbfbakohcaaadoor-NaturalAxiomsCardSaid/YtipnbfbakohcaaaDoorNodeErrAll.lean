/- formula.nodeError returns the error of a node at a place, for every node and place. -/
import Derived.Test.YtipnbfbakohcaaaDoorNodeErr1
import Derived.Test.YtipnbfbakohcaaaDoorNodeErr2
import Derived.Test.YtipnbfbakohcaaaDoorNodeErr3
import Derived.Test.YtipnbfbakohcaaaDoorNodeErr4
namespace Go.Proofs.YtipnbfbakohcaaaDoor
open Go.RowKit

theorem nodeError_any (n : Nd) (at_ : Int) (w : World) :
    Calls Tryd.prog 36 #[n.val, .int .i64 at_] w fun e w' => e = .returned (.int .i64 (nodeErr n at_)) ∧ Ext w w' := by
  have key : ∀ r : Int, nodeErr n at_ = r → (Calls Tryd.prog 36 #[n.val, .int .i64 at_] w fun e w' => e = .returned (.int .i64 r) ∧ Ext w w') →
      Calls Tryd.prog 36 #[n.val, .int .i64 at_] w fun e w' => e = .returned (.int .i64 (nodeErr n at_)) ∧ Ext w w' := by
    intro r h hc; rw [h]; exact hc
  cases ho : isOp n.op
  · exact key 10 (by simp [nodeErr, ho]) (nodeError_notop n at_ w ho)
  cases hx : operandOk (hasX n.op) n.x at_
  · exact key 3 (by simp [nodeErr, ho, hx]) (nodeError_x n at_ w ho hx)
  cases hy : operandOk (hasY n.op) n.y at_
  · exact key 3 (by simp [nodeErr, ho, hx, hy]) (nodeError_y n at_ w ho hx hy)
  have ob : ∀ v a b, outsideB false v a b = false := fun _ _ _ => rfl
  rcases kinds n.op with ⟨hf, ha, hg, he⟩ | ⟨hf, ha, hg, he⟩ | ⟨hf, ha, hg, he⟩ | ⟨hf, ha, hg, he⟩ | ⟨hf, ha, hg, he⟩
  · by_cases hi : n.i = 0
    · by_cases hee : n.e = 0
      · by_cases hgg : n.g = 0
        · exact key 0 (by simp [nodeErr, ho, hx, hy, formBad, rangeBad, hf, ha, hg, he, hi, hee, hgg, ob]) (nodeError_none_ok n at_ w ho hf ha hg he hx hy hi hee hgg)
        · exact key 3 (by have hb : (n.g != 0) = true := by { simpa using hgg }; simp only [nodeErr, ho, hx, hy, formBad, hf, ha, hg, he, hb]; simp) (nodeError_none_g n at_ w ho hf ha hg he hx hy hi hee (by simpa using hgg))
      · exact key 3 (by have hb : (n.e != 0) = true := by { simpa using hee }; simp only [nodeErr, ho, hx, hy, formBad, hf, ha, hg, he, hb]; simp) (nodeError_none_e n at_ w ho hf ha hg he hx hy hi (by simpa using hee))
    · exact key 3 (by have hb : (n.i != 0) = true := by { simpa using hi }; simp only [nodeErr, ho, hx, hy, formBad, hf, ha, hg, he, hb]; simp) (nodeError_none_i n at_ w ho hf ha hg he hx hy (by simpa using hi))
  · by_cases hee : n.e = 0
    · by_cases hgg : n.g = 0
      · cases hr : outsideB true n.i 0 7
        · exact key 0 (by simp [nodeErr, ho, hx, hy, formBad, rangeBad, hf, ha, hg, he, hee, hgg, ob, hr]) (nodeError_fact_ok n at_ w ho hf ha hg he hx hy hee hgg hr)
        · exact key 2 (by simp [nodeErr, ho, hx, hy, formBad, rangeBad, hf, ha, hg, he, hee, hgg, hr]) (nodeError_fact_r n at_ w ho hf ha hg he hx hy hee hgg hr)
      · exact key 3 (by have hb : (n.g != 0) = true := by { simpa using hgg }; simp only [nodeErr, ho, hx, hy, formBad, hf, ha, hg, he, hb]; simp) (nodeError_fact_g n at_ w ho hf ha hg he hx hy hee (by simpa using hgg))
    · exact key 3 (by have hb : (n.e != 0) = true := by { simpa using hee }; simp only [nodeErr, ho, hx, hy, formBad, hf, ha, hg, he, hb]; simp) (nodeError_fact_e n at_ w ho hf ha hg he hx hy (by simpa using hee))
  · by_cases hee : n.e = 0
    · by_cases hgg : n.g = 0
      · cases hr : outsideB true n.i 0 3
        · exact key 0 (by simp [nodeErr, ho, hx, hy, formBad, rangeBad, hf, ha, hg, he, hee, hgg, ob, hr]) (nodeError_agent_ok n at_ w ho hf ha hg he hx hy hee hgg hr)
        · exact key 2 (by simp [nodeErr, ho, hx, hy, formBad, rangeBad, hf, ha, hg, he, hee, hgg, hr]) (nodeError_agent_r n at_ w ho hf ha hg he hx hy hee hgg hr)
      · exact key 3 (by have hb : (n.g != 0) = true := by { simpa using hgg }; simp only [nodeErr, ho, hx, hy, formBad, hf, ha, hg, he, hb]; simp) (nodeError_agent_g n at_ w ho hf ha hg he hx hy hee (by simpa using hgg))
    · exact key 3 (by have hb : (n.e != 0) = true := by { simpa using hee }; simp only [nodeErr, ho, hx, hy, formBad, hf, ha, hg, he, hb]; simp) (nodeError_agent_e n at_ w ho hf ha hg he hx hy (by simpa using hee))
  · by_cases hi : n.i = 0
    · by_cases hee : n.e = 0
      · cases hr : outsideB true n.g 1 15
        · exact key 0 (by simp [nodeErr, ho, hx, hy, formBad, rangeBad, hf, ha, hg, he, hi, hee, ob, hr]) (nodeError_group_ok n at_ w ho hf ha hg he hx hy hi hee hr)
        · exact key 2 (by simp [nodeErr, ho, hx, hy, formBad, rangeBad, hf, ha, hg, he, hi, hee, hr]) (nodeError_group_r n at_ w ho hf ha hg he hx hy hi hee hr)
      · exact key 3 (by have hb : (n.e != 0) = true := by { simpa using hee }; simp only [nodeErr, ho, hx, hy, formBad, hf, ha, hg, he, hb]; simp) (nodeError_group_e n at_ w ho hf ha hg he hx hy hi (by simpa using hee))
    · exact key 3 (by have hb : (n.i != 0) = true := by { simpa using hi }; simp only [nodeErr, ho, hx, hy, formBad, hf, ha, hg, he, hb]; simp) (nodeError_group_i n at_ w ho hf ha hg he hx hy (by simpa using hi))
  · by_cases hgg : n.g = 0
    · cases hr : outsideB true n.i 0 7
      · cases hs : outsideB true n.e 0 7
        · exact key 0 (by simp [nodeErr, ho, hx, hy, formBad, rangeBad, hf, ha, hg, he, hgg, ob, hr, hs]) (nodeError_event_ok n at_ w ho hf ha hg he hx hy hgg hr hs)
        · exact key 2 (by simp [nodeErr, ho, hx, hy, formBad, rangeBad, hf, ha, hg, he, hgg, hr, hs]) (nodeError_event_e n at_ w ho hf ha hg he hx hy hgg hr hs)
      · exact key 2 (by simp [nodeErr, ho, hx, hy, formBad, rangeBad, hf, ha, hg, he, hgg, hr]) (nodeError_event_i n at_ w ho hf ha hg he hx hy hgg hr)
    · exact key 3 (by have hb : (n.g != 0) = true := by { simpa using hgg }; simp only [nodeErr, ho, hx, hy, formBad, hf, ha, hg, he, hb]; simp) (nodeError_event_g n at_ w ho hf ha hg he hx hy (by simpa using hgg))
end Go.Proofs.YtipnbfbakohcaaaDoor
