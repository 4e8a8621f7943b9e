/- The rules of natural deduction as Lean functions of the checker's lists. -/
import Derived.Test.YtipnbfbakohcaaaDoorNat5
namespace Go.Proofs.YtipnbfbakohcaaaDoor
open Go.RowKit

/-- The last of the lines behind l that are in the subproof of o. -/
def lastF (st : List (List Int)) (o : Int) (i : Nat) : Nat → Nat → Nat
  | 0, l => l
  | k + 1, l => bif decide (l + 1 < i) && decide (o ∈ st.getD (l + 1) []) then lastF st o i k (l + 1) else l
def lastL (st : List (List Int)) (o : Nat) (i : Nat) : Nat := lastF st o i i o
/-- A closed subproof in reach. -/
def subOk (ls : List Ln) (st : List (List Int)) (i o : Nat) : Bool :=
  decide ((st.getD i []).take ((st.getD o []).length - 1) = (st.getD o []).take ((st.getD o []).length - 1)) && (!decide ((o : Int) ∈ st.getD i []) && ((boxesL ls ((st.getD i []).drop ((st.getD o []).length - 1))).isEmpty &&
    decide ((st.getD (lastL st o i) []).length = (st.getD o []).length)))
def subprL (ls : List Ln) (fs : List (List Nd)) (st : List (List Int)) (i : Nat) (o : Int) : Option (Int × List Nd) :=
  if o < 0 ∨ (i : Int) ≤ o then none else bif opensL (lineAt ls o) && subOk ls st i o.toNat then some (o, fs.getD (lastL st o.toNat i) []) else none

def assumedL (ls : List Ln) (fs : List (List Nd)) (st : List (List Int)) (i : Nat) (o : Int) : Option (List Nd × List Nd) :=
  match subprL ls fs st i o with
  | none => none
  | some r => bif (lineAt ls r.1).rule == 1 then some (fs.getD r.1.toNat [], r.2) else none
def fromAt (n : Ln) (k : Nat) : Int := n.from_.getD k 0
def asmL (ls : List Ln) (fs : List (List Nd)) (st : List (List Int)) (i : Nat) (n : Ln) : Option (List Nd × List Nd) := bif decide (n.from_.length = 1) then assumedL ls fs st i (fromAt n 0) else none
def refutesL (ls : List Ln) (fs : List (List Nd)) (st : List (List Int)) (i : Nat) (n : Ln) : Option (List Nd) :=
  match asmL ls fs st i n with
  | none => none
  | some r => bif eqN r.2 falseN then some r.1 else none
def inL (l : List Int) (lg : Int) : Bool := decide (lg ∈ l)
def copiedL (_lg : Int) (ls : List Ln) (fs : List (List Nd)) (st : List (List Int)) (i : Nat) (n : Ln) (fi : List Nd) : Bool :=
  match oneL ls fs st i n with | none => false | some x => eqN x fi
def andInL (_lg : Int) (ls : List Ln) (fs : List (List Nd)) (st : List (List Int)) (i : Nat) (n : Ln) (fi : List Nd) : Bool :=
  match twoL ls fs st i n with | none => false | some r => eqN (andN r.1 r.2) fi
def andOutL (_lg : Int) (ls : List Ln) (fs : List (List Nd)) (st : List (List Int)) (i : Nat) (n : Ln) (fi : List Nd) : Bool :=
  match oneL ls fs st i n with | none => false | some f => (match partL f 5 with | none => false | some r => eqN r.1 fi || eqN r.2 fi)
def orInL (_lg : Int) (ls : List Ln) (fs : List (List Nd)) (st : List (List Int)) (i : Nat) (n : Ln) (fi : List Nd) : Bool :=
  match oneL ls fs st i n with | none => false | some f => (match partL fi 6 with | none => false | some r => eqN r.1 f || eqN r.2 f)
def orOutL (_lg : Int) (ls : List Ln) (fs : List (List Nd)) (st : List (List Int)) (i : Nat) (n : Ln) (fi : List Nd) : Bool :=
  bif decide (n.from_.length = 3) then
    match lineL ls fs st i (fromAt n 0) with
    | none => false
    | some f => match partL f 6, assumedL ls fs st i (fromAt n 1), assumedL ls fs st i (fromAt n 2) with
      | some r, some a, some b => eqN a.1 r.1 && (eqN b.1 r.2 && (eqN a.2 fi && eqN b.2 fi))
      | _, _, _ => false
  else false
def impInL (_lg : Int) (ls : List Ln) (fs : List (List Nd)) (st : List (List Int)) (i : Nat) (n : Ln) (fi : List Nd) : Bool :=
  match asmL ls fs st i n with | none => false | some r => eqN (impN r.1 r.2) fi
def impOutL (_lg : Int) (ls : List Ln) (fs : List (List Nd)) (st : List (List Int)) (i : Nat) (n : Ln) (fi : List Nd) : Bool :=
  match twoL ls fs st i n with | none => false | some r => eqN (impN r.1 fi) r.2
def notInL (_lg : Int) (ls : List Ln) (fs : List (List Nd)) (st : List (List Int)) (i : Nat) (n : Ln) (fi : List Nd) : Bool :=
  match refutesL ls fs st i n with | none => false | some x => eqN (notN x) fi
def notOutL (_lg : Int) (ls : List Ln) (fs : List (List Nd)) (st : List (List Int)) (i : Nat) (n : Ln) (fi : List Nd) : Bool :=
  match twoL ls fs st i n with | none => false | some r => eqN (notN r.1) r.2 && eqN fi falseN
def absurdL (_lg : Int) (ls : List Ln) (fs : List (List Nd)) (st : List (List Int)) (i : Nat) (n : Ln) (fi : List Nd) : Bool :=
  match refutesL ls fs st i n with | none => false | some x => eqN (notN fi) x
def fromFalseL (_lg : Int) (ls : List Ln) (fs : List (List Nd)) (st : List (List Int)) (i : Nat) (n : Ln) (_fi : List Nd) : Bool :=
  match oneL ls fs st i n with | none => false | some x => eqN x falseN
def isTrueL (_lg : Int) (_ls : List Ln) (_fs : List (List Nd)) (_st : List (List Int)) (_i : Nat) (n : Ln) (fi : List Nd) : Bool :=
  decide (n.from_.length = 0) && eqN fi trueN
def iffL (_lg : Int) (ls : List Ln) (fs : List (List Nd)) (st : List (List Int)) (i : Nat) (n : Ln) (fi : List Nd) : Bool :=
  match twoL ls fs st i n with
  | some r => (match partL fi 8 with | none => false | some s => eqN (impN s.1 s.2) r.1 && eqN (impN s.2 s.1) r.2)
  | none => match oneL ls fs st i n with
    | none => false
    | some f => match partL f 8 with | none => false | some s => eqN (impN s.1 s.2) fi || eqN (impN s.2 s.1) fi
def knowInL (_lg : Int) (ls : List Ln) (fs : List (List Nd)) (st : List (List Int)) (i : Nat) (n : Ln) (fi : List Nd) : Bool :=
  bif decide (n.from_.length = 1) then
    match subprL ls fs st i (fromAt n 0) with
    | none => false
    | some r => (lineAt ls r.1).rule == 2 && eqN (knowN (lineAt ls r.1).agent r.2) fi
  else false
def innerN (f : List Nd) : Nd := bif (lastN f).op == 4 then f.getD (lastN f).x.toNat Nd.zero else lastN f
def impAt (lg : Int) (f : List Nd) (a : Int) (fi : List Nd) : Bool :=
  bif (lastN f).op == 9 && (lastN f).i == a then eqN (subN f (lastN f).x) fi || (inL [3, 4, 5, 6] lg && eqN f fi)
  else bif ((lastN f).op == 10 && (lastN f).i == a) || ((lastN f).op == 4 && ((innerN f).op == 9 && (innerN f).i == a)) then inL [5, 6] lg && eqN f fi else false
def importedL (lg : Int) (ls : List Ln) (fs : List (List Nd)) (st : List (List Int)) (i : Nat) (n : Ln) (fi : List Nd) : Bool :=
  bif decide (n.from_.length = 1) then
    match withinL st i (fromAt n 0) with
    | none => false
    | some r => match boxesL ls r with
      | [o] => impAt lg (fs.getD (fromAt n 0).toNat []) (lineAt ls o).agent fi
      | _ => false
  else false
def knowTL (lg : Int) (ls : List Ln) (fs : List (List Nd)) (st : List (List Int)) (i : Nat) (n : Ln) (fi : List Nd) : Bool :=
  match oneL ls fs st i n with | none => false | some f => bif inL [2, 4, 6] lg then (match partL f 9 with | none => false | some r => eqN r.1 fi) else false
def isDualL (f g : List Nd) : Bool := bif (lastN f).op == 10 then eqN (notN (knowN (lastN f).i (notN (subN f (lastN f).x)))) g else false
def dualL (_lg : Int) (ls : List Ln) (fs : List (List Nd)) (st : List (List Int)) (i : Nat) (n : Ln) (fi : List Nd) : Bool :=
  match oneL ls fs st i n with | none => false | some f => isDualL f fi || isDualL fi f
def serialL (lg : Int) (ls : List Ln) (fs : List (List Nd)) (st : List (List Int)) (i : Nat) (n : Ln) (fi : List Nd) : Bool :=
  match oneL ls fs st i n with | none => false | some f => bif inL [1, 5] lg then (lastN f).op == 9 && eqN (possN (lastN f).i (subN f (lastN f).x)) fi else false
theorem Chk.blt {w : World} {b : Nat} {lg : Int} {ls : List Ln} {fs : List (List Nd)} {st : List (List Int)} (h : Chk w b lg ls fs st) : b < w.heap.size := by
  obtain ⟨_, _, _, hb, _⟩ := h.all
  exact lt_heap hb
theorem oneL_no {ls : List Ln} {fs : List (List Nd)} {st : List (List Int)} {i : Nat} {n : Ln} (h : decide (n.from_.length = 1) = false) : oneL ls fs st i n = none := by unfold oneL; rw [h]; rfl
theorem oneL_yes {ls : List Ln} {fs : List (List Nd)} {st : List (List Int)} {i : Nat} {n : Ln} (h : decide (n.from_.length = 1) = true) : n.from_[0]? = some (fromAt n 0) ∧ oneL ls fs st i n = lineL ls fs st i (fromAt n 0) :=
  ⟨from_get (by have := of_decide_eq_true h; omega), by unfold oneL fromAt; rw [h]; rfl⟩
theorem asmL_no {ls : List Ln} {fs : List (List Nd)} {st : List (List Int)} {i : Nat} {n : Ln} (h : decide (n.from_.length = 1) = false) : asmL ls fs st i n = none := by unfold asmL; rw [h]; rfl
theorem asmL_yes {ls : List Ln} {fs : List (List Nd)} {st : List (List Int)} {i : Nat} {n : Ln} (h : decide (n.from_.length = 1) = true) : n.from_[0]? = some (fromAt n 0) ∧ asmL ls fs st i n = assumedL ls fs st i (fromAt n 0) :=
  ⟨from_get (by have := of_decide_eq_true h; omega), by unfold asmL; rw [h]; rfl⟩
theorem from_at {n : Ln} {k m : Nat} (h : decide (n.from_.length = m) = true) (hk : k < m) : n.from_[k]? = some (fromAt n k) := from_get (by have := of_decide_eq_true h; omega)
theorem lineL_mem {ls : List Ln} {fs : List (List Nd)} {st : List (List Int)} {i : Nat} {j : Int} {f : List Nd} (h : lineL ls fs st i j = some f) (hif : i ≤ fs.length) : f ∈ fs := by
  unfold lineL at h
  split at h
  · cases h
  · rename_i r hr
    have hj : ¬ (j < 0 ∨ (i : Int) ≤ j) := fun e => by unfold withinL at hr; rw [if_pos e] at hr; cases hr
    cases hb : (boxesL ls r).isEmpty
    · rw [hb] at h; cases h
    · rw [hb] at h
      injection h with h
      subst h
      rw [List.getD_eq_getElem?_getD, List.getElem?_eq_getElem (show j.toNat < fs.length by omega)]
      exact List.getElem_mem _
theorem oneL_mem {ls : List Ln} {fs : List (List Nd)} {st : List (List Int)} {i : Nat} {n : Ln} {f : List Nd} (h : oneL ls fs st i n = some f) (hif : i ≤ fs.length) : f ∈ fs := by
  unfold oneL at h
  cases hd : decide (n.from_.length = 1)
  · rw [hd] at h; cases h
  · rw [hd] at h
    exact lineL_mem h hif
end Go.Proofs.YtipnbfbakohcaaaDoor
