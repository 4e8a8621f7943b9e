/- Checked lists are well formed; subformulas. -/
import Derived.Test.YtipnbfbakohcaaaDoorSpecFin
namespace Go.Proofs.YtipnbfbakohcaaaDoor

theorem checkNodes_all : ∀ (l : List Nd) (a : Int), checkNodes l a = 0 → ∀ (k : Nat) (n : Nd), l[k]? = some n → nodeErr n (a + k) = 0
  | [], _, _, k, n, h => by simp at h
  | m :: r, a, hc, k, n, h => by
    unfold checkNodes at hc
    by_cases h0 : nodeErr m a = 0
    · rw [h0] at hc
      cases k with
      | zero =>
        simp only [List.getElem?_cons_zero, Option.some.injEq] at h
        subst h
        simpa using h0
      | succ k =>
        have := checkNodes_all r (a + 1) (by simpa using hc) k n (by simpa using h)
        rw [← this]
        congr 1
        omega
    · have hb : (nodeErr m a != 0) = true := by simpa using h0
      rw [hb] at hc
      exact absurd hc h0
theorem checkNodes_of : ∀ (l : List Nd) (a : Int), (∀ (k : Nat) (n : Nd), l[k]? = some n → nodeErr n (a + k) = 0) → checkNodes l a = 0
  | [], _, _ => rfl
  | m :: r, a, h => by
    unfold checkNodes
    have h0 : nodeErr m a = 0 := by simpa using h 0 m (by simp)
    rw [h0]
    have := checkNodes_of r (a + 1) fun k n hk => by
      have := h (k + 1) n (by simpa using hk)
      rw [← this]
      congr 1
      omega
    simpa using this
theorem nodeErr_op {n : Nd} {a : Int} (h : nodeErr n a = 0) : isOp n.op = true := by
  cases ho : isOp n.op
  · simp [nodeErr, ho] at h
  · rfl
theorem nodeErr_xy {n : Nd} {a : Int} (h : nodeErr n a = 0) : operandOk (hasX n.op) n.x a = true ∧ operandOk (hasY n.op) n.y a = true := by
  have ho := nodeErr_op h
  cases hx : operandOk (hasX n.op) n.x a
  · simp [nodeErr, ho, hx] at h
  · cases hy : operandOk (hasY n.op) n.y a
    · simp [nodeErr, ho, hx, hy] at h
    · exact ⟨rfl, rfl⟩
theorem nodeErr_form {n : Nd} {a : Int} (h : nodeErr n a = 0) : formBad n = false ∧ rangeBad n = false := by
  have ho := nodeErr_op h
  obtain ⟨hx, hy⟩ := nodeErr_xy h
  cases hf : formBad n
  · cases hr : rangeBad n
    · exact ⟨rfl, rfl⟩
    · simp [nodeErr, ho, hx, hy, hf, hr] at h
  · simp [nodeErr, ho, hx, hy, hf] at h
theorem nodeErr_of {n : Nd} {a : Int} (ho : isOp n.op = true) (hx : operandOk (hasX n.op) n.x a = true) (hy : operandOk (hasY n.op) n.y a = true) (hf : formBad n = false) (hr : rangeBad n = false) : nodeErr n a = 0 := by
  simp [nodeErr, ho, hx, hy, hf, hr]
theorem check_parts {f : List Nd} (h : check f = 0) : 0 < f.length ∧ f.length ≤ 200 ∧ checkNodes f 0 = 0 := by
  unfold check at h
  by_cases h0 : f.length = 0
  · simp [h0] at h
  · by_cases h1 : 200 < f.length
    · simp [h0, h1] at h
    · simp [h0, h1] at h
      exact ⟨by omega, by omega, h⟩
theorem wf_of_nodes {f : List Nd} (h : checkNodes f 0 = 0) : Wf f := by
  intro i n hn
  have h1 := checkNodes_all f 0 h i n hn
  obtain ⟨hx, hy⟩ := nodeErr_xy h1
  refine ⟨fun e => ?_, fun e => ?_⟩
  · rw [e] at hx
    simp [operandOk] at hx
    omega
  · rw [e] at hy
    simp [operandOk] at hy
    omega
theorem check_wf {f : List Nd} (h : check f = 0) : Wf f := wf_of_nodes (check_parts h).2.2

/-- The canonical list of a node of a formula; nothing if it is none. -/
def subN (f : List Nd) (z : Int) : List Nd := bif check f != 0 || (decide (z < 0) || decide ((f.length : Int) ≤ z)) then [] else (finN f z.toNat []).1
def compactN (f : List Nd) : List Nd := subN f (f.length - 1 : Int)
def sameN (a b : List Nd) : Bool := check a == 0 && (check b == 0 && decide (compactN a = compactN b))
def fragMask (l : List Nd) : Nat := l.foldl (fun m n => m ||| (fragOf n.op).toNat) 0
def fragsN (f : List Nd) : Nat := fragMask (compactN f)
theorem compactN_eq {f : List Nd} (h : check f = 0) : compactN f = (finN f (f.length - 1) []).1 := by
  have hl := (check_parts h).1
  unfold compactN subN
  have h1 : decide ((f.length : Int) - 1 < 0) = false := by simp; omega
  have h2 : decide ((f.length : Int) ≤ (f.length : Int) - 1) = false := by simp; omega
  rw [h, h1, h2]
  have : ((f.length : Int) - 1).toNat = f.length - 1 := by omega
  rw [this]
  rfl
theorem compactN_bad {f : List Nd} (h : check f ≠ 0) : compactN f = [] := by
  unfold compactN subN
  have : (check f != 0) = true := by simpa using h
  rw [this]
  rfl
end Go.Proofs.YtipnbfbakohcaaaDoor
