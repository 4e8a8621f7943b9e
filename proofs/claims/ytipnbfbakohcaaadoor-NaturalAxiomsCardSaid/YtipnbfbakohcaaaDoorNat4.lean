/- natural's checker: named, one, two, equal, part. -/
import Derived.Test.YtipnbfbakohcaaaDoorNat3
namespace Go.Proofs.YtipnbfbakohcaaaDoor
open Go.RowKit

set_option maxRecDepth 100000 in
set_option maxHeartbeats 1000000 in
theorem named_any {w : World} {b : Nat} {lg : Int} {ls : List Ln} {fs : List (List Nd)} {st : List (List Int)} (h : Chk w b lg ls fs st) (i : Nat) (n : Ln) (m : Nat) (hi : ls[i]? = some n) :
    Calls Tryd.prog 115 #[.pointer (some ⟨b, 0, none⟩), .int .i64 i, .int .i64 (m : Int)] w fun e w' => e = .returned (.bool (decide (n.from_.length = m))) ∧ Ext w w' := by
  obtain ⟨ad, c, vf, vs, uf, ur, hc1, hc2, hlt, d0, d1, d2, d3, q0, q1, q2, q3, q4, _, ⟨Ar, cr, rfl, hir⟩⟩ := h.line hi
  have hil : i < ls.length := (List.getElem?_eq_some_iff.1 hi).1
  have hr1 := hir.1
  have hr2 := hir.2.1
  unfold maxLen at hr2
  have HB := Lib.hid (show ((n.from_.length : Int) == (m : Int)) = decide (n.from_.length = m) by
    by_cases e : n.from_.length = m
    · simp [e]
    · rw [decide_eq_false e, beq_eq_false_iff_ne]; omega)
  clear h hi hir
  go_enter Tryd.func115, Tryd.ntmps115
  go_wp2_with fail
  go_ret
  exact ⟨same_of HB.out, Ext.refl _⟩

def eqN (a b : List Nd) : Bool := decide (0 < a.length) && decide (a = b)
set_option maxRecDepth 100000 in
set_option maxHeartbeats 1000000 in
theorem equal_any (v1 v2 : Value) (l1 l2 : List Nd) (w : World) (h1 : Nds w v1 l1) (h2 : Nds w v2 l2) :
    Calls Tryd.prog 45 #[v1, v2] w fun e w' => e = .returned (.bool (eqN l1 l2)) ∧ Ext w w' := by
  have H1 := Lib.hid h1
  have H2 := Lib.hid h2
  obtain ⟨A1, c1, rfl, hcap1, hmax1, _⟩ := h1
  unfold maxLen at hmax1
  clear h2
  by_cases h0 : l1.length = 0
  · have HE := Lib.hid (show eqN l1 l2 = false by simp [eqN, h0])
    rw [h0]
    rw [h0] at H1
    clear h0
    go_enter Tryd.func45, Tryd.ntmps45
    go_wp2_with fail
    go_ret
    exact ⟨same_of HE.out.symm, Ext.refl _⟩
  · have hp : 0 < l1.length := by omega
    have HE := Lib.hid (show eqN l1 l2 = decide (l1 = l2) by simp [eqN, hp])
    clear h0
    go_enter Tryd.func45, Tryd.ntmps45
    go_wp2_with (go_at_call 55; refine (equalN_any _ _ l1 l2 _ H1.out H2.out).mono ?_; rintro e w3 ⟨rfl, hb3⟩)
    go_ret
    exact ⟨same_of HE.out.symm, hb3⟩

/-- The last node of a list. -/
def lastN (f : List Nd) : Nd := f.getLastD Nd.zero
theorem lastN_get {f : List Nd} (h : 0 < f.length) : f[f.length - 1]? = some (lastN f) := by
  unfold lastN
  rw [← List.getLast?_eq_getElem?]
  cases f with
  | nil => simp at h
  | cons a t => simp [List.getLast?_cons]
def partL (f : List Nd) (op : Int) : Option (List Nd × List Nd) := bif (lastN f).op == op then some (subN f (lastN f).x, subN f (lastN f).y) else none
set_option maxRecDepth 100000 in
set_option maxHeartbeats 2000000 in
theorem part_any (v : Value) (f : List Nd) (op : Int) (w : World) (h : Fml w v f) (h0 : 0 < f.length) :
    Calls Tryd.prog 120 #[v, .int .i64 op] w fun e w' => ∃ u1 u2, e = .returned (.tuple #[u1, u2, .bool (partL f op).isSome]) ∧ Ext w w' ∧ ∀ r, partL f op = some r → Fml w' u1 r.1 ∧ Fml w' u2 r.2 := by
  have H := Lib.hid h
  obtain ⟨⟨A, c, rfl, hcap, hmax, hread⟩, hok⟩ := h
  unfold maxLen at hmax
  obtain ⟨ad, rfl, hlt, hcells⟩ := hread (by intro e; rw [e] at h0; simp at h0)
  have hlast := lastN_get h0
  obtain ⟨c0, c1, c2, c3, c4, c5⟩ := hcells _ _ hlast
  have hi1 : ((f.length : Int) - 1) < (f.length : Int) := by omega
  have hi0 : (0 : Int) ≤ (f.length : Int) - 1 := by omega
  have e1 : ((f.length : Int) - 1).toNat = f.length - 1 := by omega
  clear hread hok hcells hlast
  obtain ⟨nn, hnn⟩ : ∃ nn, nn = lastN f := ⟨_, rfl⟩
  rw [← hnn] at c0 c1 c2 c3 c4 c5
  have HNN := Lib.hid hnn
  clear hnn
  by_cases hop : nn.op = op
  · have eb : (nn.op != op) = false := by simp [hop]
    have HP := Lib.hid (show partL f op = some (subN f nn.x, subN f nn.y) by unfold partL; rw [← HNN.out]; simp [hop])
    clear hop
    go_enter Tryd.func120, Tryd.ntmps120
    go_wp2_with fail
    go_region_with (first | (go_at_call_of 44 (Value.int IntKind.i64 nn.x); refine (sub_any _ f nn.x _ (by exact H.out.ext (by repeat (first | exact Ext.refl _ | assumption | apply Ext.alloc | apply Ext.drew)))).mono ?_; rintro e wa ⟨ua, rfl, hma⟩; have MA := Lib.hid hma; have hxa : Ext w wa := Ext.trans (by repeat (first | exact Ext.refl _ | assumption | apply Ext.alloc | apply Ext.drew)) hma.2.2; obtain ⟨hca, _, hza0⟩ := hma.2.2.facts; have hza : w.heap.size < wa.heap.size := (by first | omega | (simp at hza0; omega)); clear hma hza0) | (go_at_call_of 44 (Value.int IntKind.i64 nn.y); refine (sub_any _ f nn.y _ (by exact H.out.ext (by repeat (first | exact Ext.refl _ | assumption | apply Ext.alloc | apply Ext.drew)))).mono ?_; rintro e wb ⟨ub, rfl, hmb⟩; have MB := Lib.hid hmb; have hxb : Ext w wb := Ext.trans (by repeat (first | exact Ext.refl _ | assumption | apply Ext.alloc | apply Ext.drew)) hmb.2.2; obtain ⟨hcb, _, hzb0⟩ := hmb.2.2.facts; have hzb : w.heap.size < wb.heap.size := (by first | omega | (simp at hzb0; omega)); clear hmb hzb0))
    all_goals
      go_wp2_with fail
      go_ret3
      refine ⟨_, _, by rw [HP.out]; rfl, by assumption, fun r hr => ?_⟩
      rw [HP.out] at hr
      injection hr with hr
      subst hr
      first | exact ⟨(MA.out.after MB.out.2.2).fml, MB.out.fml⟩ | exact ⟨MA.out.fml, (MB.out.after MA.out.2.2).fml⟩
  · have eb : (nn.op != op) = true := by simpa using hop
    have eb2 : (nn.op == op) = false := by simpa using hop
    have HP := Lib.hid (show partL f op = none by unfold partL; rw [← HNN.out, eb2]; rfl)
    clear hop
    go_enter Tryd.func120, Tryd.ntmps120
    go_wp2_with fail
    go_ret3
    exact ⟨_, _, by rw [HP.out]; rfl, (Ext.refl _).alloc _, fun r hr => by rw [HP.out] at hr; cases hr⟩
end Go.Proofs.YtipnbfbakohcaaaDoor
