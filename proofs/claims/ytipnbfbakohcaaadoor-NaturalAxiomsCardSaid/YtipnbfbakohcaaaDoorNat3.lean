/- natural's checker: line, one, two, named. -/
import Derived.Test.YtipnbfbakohcaaaDoorNat2
namespace Go.Proofs.YtipnbfbakohcaaaDoor
open Go.RowKit

/-- The stacks of the lines so far: the places of lines that open subproofs. -/
def StOk (ls : List Ln) (st : List (List Int)) : Prop := ∀ s ∈ st, s.length ≤ 1000 ∧ ∀ o ∈ s, 0 ≤ o ∧ o < ls.length
theorem withinL_ok {ls : List Ln} {st : List (List Int)} (h : StOk ls st) {i : Nat} {j : Int} {r : List Int} (hr : withinL st i j = some r) (hi : i < st.length) : r.length ≤ 1000 ∧ ∀ o ∈ r, 0 ≤ o ∧ o < ls.length := by
  unfold withinL at hr
  split at hr
  · cases hr
  · split at hr
    · injection hr with hr
      subst hr
      have hm : st.getD i [] ∈ st := by
        rw [List.getD_eq_getElem?_getD, List.getElem?_eq_getElem hi]
        exact List.getElem_mem hi
      obtain ⟨h1, h2⟩ := h _ hm
      exact ⟨by rw [List.length_drop]; omega, fun o ho => h2 o (List.mem_of_mem_drop ho)⟩
    · cases hr
/-- The formula of the k-th line that line i names, if it is in reach. -/
def lineL (ls : List Ln) (fs : List (List Nd)) (st : List (List Int)) (i : Nat) (j : Int) : Option (List Nd) :=
  match withinL st i j with
  | none => none
  | some r => bif (boxesL ls r).isEmpty then some (fs.getD j.toNat []) else none

theorem Chk.form {w : World} {b : Nat} {lg : Int} {ls : List Ln} {fs : List (List Nd)} {st : List (List Int)} (h : Chk w b lg ls fs st) {i : Nat} {f : List Nd} (hi : fs[i]? = some f) :
    ∃ (ad : Addr) (c : Nat) (vl vs : Value) (Ai : Option Addr) (ci : Nat), fs.length ≤ c ∧ c ≤ 9223372036854775807 ∧ ad.block < w.heap.size ∧ w.cell? ⟨b, 0, none⟩ = some (.int .i64 lg) ∧ w.cell? ⟨b, 1, none⟩ = some vl ∧ w.cell? ⟨b, 2, none⟩ = some (.slice (some ad) fs.length c) ∧ w.cell? ⟨b, 3, none⟩ = some vs ∧
      w.cell? (ad.add i) = some (.slice Ai f.length ci) ∧ Fml w (.slice Ai f.length ci) f := by
  obtain ⟨vl, vf, vs, hb, _, ⟨A, c, rfl, h1, h2, h3⟩, _⟩ := h.all
  obtain ⟨d0, d1, d2, d3, _, _⟩ := cells4 hb
  obtain ⟨ad, rfl, hlt, hc⟩ := h3 (by intro e; rw [e] at hi; simp at hi)
  obtain ⟨ui, hui, hf⟩ := hc i f hi
  obtain ⟨Ai, ci, rfl, _⟩ := fml_slice hf
  unfold maxLen at h2
  exact ⟨ad, c, vl, vs, Ai, ci, h1, by omega, hlt, d0, d1, d2, d3, hui, hf⟩

set_option maxRecDepth 100000 in
set_option maxHeartbeats 2000000 in
theorem line_any {w : World} {b : Nat} {lg : Int} {ls : List Ln} {fs : List (List Nd)} {st : List (List Int)} (h : Chk w b lg ls fs st) (hst : StOk ls st) (i k : Nat) (n : Ln) (j : Int) (hi : ls[i]? = some n) (hk : n.from_[k]? = some j) (his : i < st.length) (hif : i ≤ fs.length) :
    Calls Tryd.prog 116 #[.pointer (some ⟨b, 0, none⟩), .int .i64 i, .int .i64 (k : Int)] w fun e w' => ∃ u, e = .returned (.tuple #[u, .bool (lineL ls fs st i j).isSome]) ∧ Ext w w' ∧ ∀ f, lineL ls fs st i j = some f → Fml w' u f := by
  obtain ⟨ad, c, vf, vs, uf, ur, hc1, hc2, hlt, d0, d1, d2, d3, q0, q1, q2, q3, q4, _, ⟨Ar, cr, rfl, hir⟩⟩ := h.line hi
  obtain ⟨adr, rfl, hbr, hcr⟩ := hir.2.2 (by intro e; rw [e] at hk; simp at hk)
  have r0 := hcr k j hk
  have hkl : k < n.from_.length := (List.getElem?_eq_some_iff.1 hk).1
  have hrc := hir.1
  have hrm := hir.2.1
  unfold maxLen at hrm
  have hil : i < ls.length := (List.getElem?_eq_some_iff.1 hi).1
  have H := Lib.hid h
  have HST := Lib.hid hst
  clear h hi hk hir hcr hst
  go_enter Tryd.func116, Tryd.ntmps116
  go_wp2_with fail
  refine (within_any H.out i j his).mono ?_
  rintro e w1 ⟨u, rfl, hx1, hr1⟩
  have HX1 := Lib.hid hx1
  have HR1 := Lib.hid hr1
  clear hx1 hr1
  cases hw : withinL st i j with
  | none =>
    have HL : Hid (lineL ls fs st i j = none) := Lib.hid (by unfold lineL; rw [hw])
    clear HR1 hw
    go_wp2_with fail
    go_ret2
    exact ⟨_, by rw [HL.out]; rfl, HX1.out, fun f hf => by rw [HL.out] at hf; cases hf⟩
  | some r =>
    have HI := Lib.hid (HR1.out r hw)
    obtain ⟨hr1, hr2⟩ := withinL_ok HST.out hw his
    have HR2 := Lib.hid hr2
    have HW := Lib.hid hw
    clear HR1 hw hr2
    go_wp2_with fail
    refine (boxes_any (H.out.ext HX1.out) u r HI.out HR2.out hr1).mono ?_
    rintro e w2 ⟨ub, rfl, hmb⟩
    obtain ⟨Ab, cb, rfl, _⟩ := hmb.ints
    have HX2 := Lib.hid (HX1.out.trans hmb.2)
    clear hmb
    by_cases hbx : (boxesL ls r).length = 0
    · have hemp : boxesL ls r = [] := List.length_eq_zero_iff.1 hbx
      have hj : ¬ (j < 0 ∨ (i : Int) ≤ j) := fun e => by
        have := HW.out
        unfold withinL at this
        rw [if_pos e] at this
        cases this
      obtain ⟨jn, rfl⟩ := Int.eq_ofNat_of_zero_le (show 0 ≤ j by omega)
      have hjf : jn < fs.length := by omega
      have HL : Hid (lineL ls fs st i (jn : Int) = some (fs.getD jn [])) := Lib.hid (by unfold lineL; rw [HW.out]; simp [hemp])
      have ef : fs[jn]? = some (fs.getD jn []) := by rw [List.getD_eq_getElem?_getD, List.getElem?_eq_getElem hjf]; rfl
      obtain ⟨ad2, c2, vl2, vs2, Ai, ci, g1, g2, g3, g4, g5, g6, g7, g8, g9⟩ := (H.out.ext HX2.out).form ef
      have HF := Lib.hid g9
      rw [hbx]
      clear hemp hj ef g9 hbx
      generalize fs.getD jn [] = fj at HL HF g8
      go_wp2_with fail
      go_ret2
      exact ⟨_, by rw [HL.out]; rfl, HX2.out, fun f hf => by rw [HL.out] at hf; injection hf with hf; subst hf; exact HF.out⟩
    · have hpos0 : 0 < (boxesL ls r).length := by omega
      have HL : Hid (lineL ls fs st i j = none) := Lib.hid (by
        unfold lineL
        rw [HW.out]
        cases e : boxesL ls r with
        | nil => rw [e] at hbx; simp at hbx
        | cons a t => simp [e])
      clear hbx
      go_wp2_with fail
      go_ret2
      exact ⟨_, by rw [HL.out]; rfl, HX2.out, fun f hf => by rw [HL.out] at hf; cases hf⟩
end Go.Proofs.YtipnbfbakohcaaaDoor
