/- The walk of formula.uses: it returns the fields that an operator uses. -/
import Derived.Test.YtfcmdiigfgbgbaaGreatProg
import Derived.Test.YtfcmdiigfgbgbaaGreatGF1
import Derived.WalkSpells
import Derived.WalkLawsBesides

namespace Go.Proofs.YtfcmdiigfgbgbaaGreat
open Go.RowKit


theorem uses_out (op : Int) (w : World) (h : op ≤ 0 ∨ 22 ≤ op) :
    Calls Tryz.prog 68 #[.int .i64 op] w fun e w' => e = .returned (.tuple #[useV op, .bool (isOp op)]) ∧ Ext w w' := by
  have e1 : (op == 1) = false := by simp; omega
  have e2 : (op == 2) = false := by simp; omega
  have e3 : (op == 3) = false := by simp; omega
  have e4 : (op == 4) = false := by simp; omega
  have e5 : (op == 5) = false := by simp; omega
  have e6 : (op == 6) = false := by simp; omega
  have e7 : (op == 7) = false := by simp; omega
  have e8 : (op == 8) = false := by simp; omega
  have e9 : (op == 9) = false := by simp; omega
  have e10 : (op == 10) = false := by simp; omega
  have e11 : (op == 11) = false := by simp; omega
  have e12 : (op == 12) = false := by simp; omega
  have e13 : (op == 13) = false := by simp; omega
  have e14 : (op == 14) = false := by simp; omega
  have e15 : (op == 15) = false := by simp; omega
  have e16 : (op == 16) = false := by simp; omega
  have e17 : (op == 17) = false := by simp; omega
  have e18 : (op == 18) = false := by simp; omega
  have e19 : (op == 19) = false := by simp; omega
  have e20 : (op == 20) = false := by simp; omega
  have e21 : (op == 21) = false := by simp; omega
  have hU : useV op = .agg #[.bool false, .bool false, .bool false, .bool false, .bool false, .bool false, .int .i64 0] := by
    have a : (decide (4 ≤ op) && decide (op ≤ 21)) = false := by simp; omega
    have b : (decide (5 ≤ op) && decide (op ≤ 8)) = false := by simp; omega
    have c : (decide (11 ≤ op) && decide (op ≤ 13)) = false := by simp; omega
    have d : (decide (18 ≤ op) && decide (op ≤ 21)) = false := by simp; omega
    simp only [useV, hasX, hasY, hasFact, hasAgent, hasGroup, hasEvent, fragOf, a, b, c, d, e3, e9, e10, e11, e12, e13, e14, e15, e16, e17, e19, e21]; rfl
  have hI : isOp op = false := by simp [isOp]; omega
  rw [hU, hI]
  clear hU hI h
  go_enter Tryz.func68, Tryz.ntmps68
  go_wp2
  exact bodyPost_ret (v := .tuple #[.agg #[.bool false, .bool false, .bool false, .bool false, .bool false, .bool false, .int .i64 0], .bool false]) (by simp [results, Tryz.results68, go_sem]) rfl ⟨rfl, (Ext.refl _).alloc _⟩

theorem uses_1 (w : World) :
    Calls Tryz.prog 68 #[.int .i64 1] w fun e w' => e = .returned (.tuple #[useV 1, .bool (isOp 1)]) ∧ Ext w w' := by
  go_enter Tryz.func68, Tryz.ntmps68
  go_wp2
  exact bodyPost_ret (v := .tuple #[.agg #[.bool false, .bool false, .bool false, .bool false, .bool false, .bool false, .int .i64 0], .bool true]) (by simp [results, Tryz.results68, go_sem]) rfl ⟨rfl, (Ext.refl _).alloc _⟩

theorem uses_2 (w : World) :
    Calls Tryz.prog 68 #[.int .i64 2] w fun e w' => e = .returned (.tuple #[useV 2, .bool (isOp 2)]) ∧ Ext w w' := by
  go_enter Tryz.func68, Tryz.ntmps68
  go_wp2
  exact bodyPost_ret (v := .tuple #[.agg #[.bool false, .bool false, .bool false, .bool false, .bool false, .bool false, .int .i64 0], .bool true]) (by simp [results, Tryz.results68, go_sem]) rfl ⟨rfl, (Ext.refl _).alloc _⟩

theorem uses_3 (w : World) :
    Calls Tryz.prog 68 #[.int .i64 3] w fun e w' => e = .returned (.tuple #[useV 3, .bool (isOp 3)]) ∧ Ext w w' := by
  go_enter Tryz.func68, Tryz.ntmps68
  go_wp2
  exact bodyPost_ret (v := .tuple #[.agg #[.bool false, .bool false, .bool true, .bool false, .bool false, .bool false, .int .i64 0], .bool true]) (by simp [results, Tryz.results68, go_sem]) rfl ⟨rfl, (Ext.refl _).alloc _⟩

theorem uses_4 (w : World) :
    Calls Tryz.prog 68 #[.int .i64 4] w fun e w' => e = .returned (.tuple #[useV 4, .bool (isOp 4)]) ∧ Ext w w' := by
  go_enter Tryz.func68, Tryz.ntmps68
  go_wp2
  exact bodyPost_ret (v := .tuple #[.agg #[.bool true, .bool false, .bool false, .bool false, .bool false, .bool false, .int .i64 0], .bool true]) (by simp [results, Tryz.results68, go_sem]) rfl ⟨rfl, (Ext.refl _).alloc _⟩

theorem uses_5 (w : World) :
    Calls Tryz.prog 68 #[.int .i64 5] w fun e w' => e = .returned (.tuple #[useV 5, .bool (isOp 5)]) ∧ Ext w w' := by
  go_enter Tryz.func68, Tryz.ntmps68
  go_wp2
  exact bodyPost_ret (v := .tuple #[.agg #[.bool true, .bool true, .bool false, .bool false, .bool false, .bool false, .int .i64 0], .bool true]) (by simp [results, Tryz.results68, go_sem]) rfl ⟨rfl, (Ext.refl _).alloc _⟩

theorem uses_6 (w : World) :
    Calls Tryz.prog 68 #[.int .i64 6] w fun e w' => e = .returned (.tuple #[useV 6, .bool (isOp 6)]) ∧ Ext w w' := by
  go_enter Tryz.func68, Tryz.ntmps68
  go_wp2
  exact bodyPost_ret (v := .tuple #[.agg #[.bool true, .bool true, .bool false, .bool false, .bool false, .bool false, .int .i64 0], .bool true]) (by simp [results, Tryz.results68, go_sem]) rfl ⟨rfl, (Ext.refl _).alloc _⟩

theorem uses_7 (w : World) :
    Calls Tryz.prog 68 #[.int .i64 7] w fun e w' => e = .returned (.tuple #[useV 7, .bool (isOp 7)]) ∧ Ext w w' := by
  go_enter Tryz.func68, Tryz.ntmps68
  go_wp2
  exact bodyPost_ret (v := .tuple #[.agg #[.bool true, .bool true, .bool false, .bool false, .bool false, .bool false, .int .i64 0], .bool true]) (by simp [results, Tryz.results68, go_sem]) rfl ⟨rfl, (Ext.refl _).alloc _⟩

theorem uses_8 (w : World) :
    Calls Tryz.prog 68 #[.int .i64 8] w fun e w' => e = .returned (.tuple #[useV 8, .bool (isOp 8)]) ∧ Ext w w' := by
  go_enter Tryz.func68, Tryz.ntmps68
  go_wp2
  exact bodyPost_ret (v := .tuple #[.agg #[.bool true, .bool true, .bool false, .bool false, .bool false, .bool false, .int .i64 0], .bool true]) (by simp [results, Tryz.results68, go_sem]) rfl ⟨rfl, (Ext.refl _).alloc _⟩

theorem uses_9 (w : World) :
    Calls Tryz.prog 68 #[.int .i64 9] w fun e w' => e = .returned (.tuple #[useV 9, .bool (isOp 9)]) ∧ Ext w w' := by
  go_enter Tryz.func68, Tryz.ntmps68
  go_wp2
  exact bodyPost_ret (v := .tuple #[.agg #[.bool true, .bool false, .bool false, .bool true, .bool false, .bool false, .int .i64 1], .bool true]) (by simp [results, Tryz.results68, go_sem]) rfl ⟨rfl, (Ext.refl _).alloc _⟩

theorem uses_10 (w : World) :
    Calls Tryz.prog 68 #[.int .i64 10] w fun e w' => e = .returned (.tuple #[useV 10, .bool (isOp 10)]) ∧ Ext w w' := by
  go_enter Tryz.func68, Tryz.ntmps68
  go_wp2
  exact bodyPost_ret (v := .tuple #[.agg #[.bool true, .bool false, .bool false, .bool true, .bool false, .bool false, .int .i64 1], .bool true]) (by simp [results, Tryz.results68, go_sem]) rfl ⟨rfl, (Ext.refl _).alloc _⟩

theorem uses_11 (w : World) :
    Calls Tryz.prog 68 #[.int .i64 11] w fun e w' => e = .returned (.tuple #[useV 11, .bool (isOp 11)]) ∧ Ext w w' := by
  go_enter Tryz.func68, Tryz.ntmps68
  go_wp2
  exact bodyPost_ret (v := .tuple #[.agg #[.bool true, .bool false, .bool false, .bool false, .bool true, .bool false, .int .i64 2], .bool true]) (by simp [results, Tryz.results68, go_sem]) rfl ⟨rfl, (Ext.refl _).alloc _⟩

theorem uses_12 (w : World) :
    Calls Tryz.prog 68 #[.int .i64 12] w fun e w' => e = .returned (.tuple #[useV 12, .bool (isOp 12)]) ∧ Ext w w' := by
  go_enter Tryz.func68, Tryz.ntmps68
  go_wp2
  exact bodyPost_ret (v := .tuple #[.agg #[.bool true, .bool false, .bool false, .bool false, .bool true, .bool false, .int .i64 4], .bool true]) (by simp [results, Tryz.results68, go_sem]) rfl ⟨rfl, (Ext.refl _).alloc _⟩

theorem uses_13 (w : World) :
    Calls Tryz.prog 68 #[.int .i64 13] w fun e w' => e = .returned (.tuple #[useV 13, .bool (isOp 13)]) ∧ Ext w w' := by
  go_enter Tryz.func68, Tryz.ntmps68
  go_wp2
  exact bodyPost_ret (v := .tuple #[.agg #[.bool true, .bool true, .bool false, .bool false, .bool true, .bool false, .int .i64 8], .bool true]) (by simp [results, Tryz.results68, go_sem]) rfl ⟨rfl, (Ext.refl _).alloc _⟩

theorem uses_14 (w : World) :
    Calls Tryz.prog 68 #[.int .i64 14] w fun e w' => e = .returned (.tuple #[useV 14, .bool (isOp 14)]) ∧ Ext w w' := by
  go_enter Tryz.func68, Tryz.ntmps68
  go_wp2
  exact bodyPost_ret (v := .tuple #[.agg #[.bool true, .bool true, .bool false, .bool true, .bool false, .bool false, .int .i64 16], .bool true]) (by simp [results, Tryz.results68, go_sem]) rfl ⟨rfl, (Ext.refl _).alloc _⟩

theorem uses_15 (w : World) :
    Calls Tryz.prog 68 #[.int .i64 15] w fun e w' => e = .returned (.tuple #[useV 15, .bool (isOp 15)]) ∧ Ext w w' := by
  go_enter Tryz.func68, Tryz.ntmps68
  go_wp2
  exact bodyPost_ret (v := .tuple #[.agg #[.bool true, .bool false, .bool false, .bool true, .bool false, .bool false, .int .i64 32], .bool true]) (by simp [results, Tryz.results68, go_sem]) rfl ⟨rfl, (Ext.refl _).alloc _⟩

theorem uses_16 (w : World) :
    Calls Tryz.prog 68 #[.int .i64 16] w fun e w' => e = .returned (.tuple #[useV 16, .bool (isOp 16)]) ∧ Ext w w' := by
  go_enter Tryz.func68, Tryz.ntmps68
  go_wp2
  exact bodyPost_ret (v := .tuple #[.agg #[.bool true, .bool true, .bool false, .bool false, .bool false, .bool false, .int .i64 64], .bool true]) (by simp [results, Tryz.results68, go_sem]) rfl ⟨rfl, (Ext.refl _).alloc _⟩

theorem uses_17 (w : World) :
    Calls Tryz.prog 68 #[.int .i64 17] w fun e w' => e = .returned (.tuple #[useV 17, .bool (isOp 17)]) ∧ Ext w w' := by
  go_enter Tryz.func68, Tryz.ntmps68
  go_wp2
  exact bodyPost_ret (v := .tuple #[.agg #[.bool true, .bool false, .bool false, .bool false, .bool false, .bool true, .int .i64 128], .bool true]) (by simp [results, Tryz.results68, go_sem]) rfl ⟨rfl, (Ext.refl _).alloc _⟩

theorem uses_18 (w : World) :
    Calls Tryz.prog 68 #[.int .i64 18] w fun e w' => e = .returned (.tuple #[useV 18, .bool (isOp 18)]) ∧ Ext w w' := by
  go_enter Tryz.func68, Tryz.ntmps68
  go_wp2
  exact bodyPost_ret (v := .tuple #[.agg #[.bool true, .bool false, .bool false, .bool false, .bool false, .bool false, .int .i64 256], .bool true]) (by simp [results, Tryz.results68, go_sem]) rfl ⟨rfl, (Ext.refl _).alloc _⟩

theorem uses_19 (w : World) :
    Calls Tryz.prog 68 #[.int .i64 19] w fun e w' => e = .returned (.tuple #[useV 19, .bool (isOp 19)]) ∧ Ext w w' := by
  go_enter Tryz.func68, Tryz.ntmps68
  go_wp2
  exact bodyPost_ret (v := .tuple #[.agg #[.bool true, .bool true, .bool false, .bool false, .bool false, .bool false, .int .i64 256], .bool true]) (by simp [results, Tryz.results68, go_sem]) rfl ⟨rfl, (Ext.refl _).alloc _⟩

theorem uses_20 (w : World) :
    Calls Tryz.prog 68 #[.int .i64 20] w fun e w' => e = .returned (.tuple #[useV 20, .bool (isOp 20)]) ∧ Ext w w' := by
  go_enter Tryz.func68, Tryz.ntmps68
  go_wp2
  exact bodyPost_ret (v := .tuple #[.agg #[.bool true, .bool false, .bool false, .bool false, .bool false, .bool false, .int .i64 256], .bool true]) (by simp [results, Tryz.results68, go_sem]) rfl ⟨rfl, (Ext.refl _).alloc _⟩

theorem uses_21 (w : World) :
    Calls Tryz.prog 68 #[.int .i64 21] w fun e w' => e = .returned (.tuple #[useV 21, .bool (isOp 21)]) ∧ Ext w w' := by
  go_enter Tryz.func68, Tryz.ntmps68
  go_wp2
  exact bodyPost_ret (v := .tuple #[.agg #[.bool true, .bool true, .bool false, .bool false, .bool false, .bool false, .int .i64 256], .bool true]) (by simp [results, Tryz.results68, go_sem]) rfl ⟨rfl, (Ext.refl _).alloc _⟩

theorem uses_any (op : Int) (w : World) :
    Calls Tryz.prog 68 #[.int .i64 op] w fun e w' => e = .returned (.tuple #[useV op, .bool (isOp op)]) ∧ Ext w w' := by
  rcases op_cases op with h | h | h | h | h | h | h | h | h | h | h | h | h | h | h | h | h | h | h | h | h | h | h
  · exact uses_out op w (.inl h)
  · exact uses_out op w (.inr h)
  · rw [h]; exact uses_1 w
  · rw [h]; exact uses_2 w
  · rw [h]; exact uses_3 w
  · rw [h]; exact uses_4 w
  · rw [h]; exact uses_5 w
  · rw [h]; exact uses_6 w
  · rw [h]; exact uses_7 w
  · rw [h]; exact uses_8 w
  · rw [h]; exact uses_9 w
  · rw [h]; exact uses_10 w
  · rw [h]; exact uses_11 w
  · rw [h]; exact uses_12 w
  · rw [h]; exact uses_13 w
  · rw [h]; exact uses_14 w
  · rw [h]; exact uses_15 w
  · rw [h]; exact uses_16 w
  · rw [h]; exact uses_17 w
  · rw [h]; exact uses_18 w
  · rw [h]; exact uses_19 w
  · rw [h]; exact uses_20 w
  · rw [h]; exact uses_21 w
end Go.Proofs.YtfcmdiigfgbgbaaGreat
