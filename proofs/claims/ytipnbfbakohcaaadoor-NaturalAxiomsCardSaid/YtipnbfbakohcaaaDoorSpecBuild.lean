/- Canonical lists are formulas again; what a constructor comes to. -/
import Derived.Test.YtipnbfbakohcaaaDoorSpecSub
namespace Go.Proofs.YtipnbfbakohcaaaDoor

/-- What is in a list after a walk was in it before, or is a node of the formula with other operands. -/
theorem fin_mem {f : List Nd} (hf : Wf f) : ∀ (i : Nat) (o : List Nd), i < f.length → ∀ m ∈ (finN f i o).1, m ∈ o ∨ ∃ n ∈ f, ∃ k1 k2, m = n.with_ k1 k2 := by
  intro i
  induction i using Nat.strongRecOn with
  | _ i ih =>
    intro o hi m hm
    obtain ⟨n, hn⟩ : ∃ n, f[i]? = some n := ⟨_, List.getElem?_eq_getElem hi⟩
    obtain ⟨hx, hy⟩ := hf i n hn
    have p1 : ∀ o, ∀ m ∈ (opX f n o).1, m ∈ o ∨ ∃ n ∈ f, ∃ k1 k2, m = n.with_ k1 k2 := by
      intro o m hm
      unfold opX at hm
      split at hm
      · rename_i h1
        have := hx h1
        exact ih _ (by omega) _ (by omega) m hm
      · exact .inl hm
    have p2 : ∀ o, ∀ m ∈ (opY f n o).1, m ∈ o ∨ ∃ n ∈ f, ∃ k1 k2, m = n.with_ k1 k2 := by
      intro o m hm
      unfold opY at hm
      split at hm
      · rename_i h1
        have := hy h1
        exact ih _ (by omega) _ (by omega) m hm
      · exact .inl hm
    rw [finN_eq hf hn] at hm
    have hm' : m ∈ (opY f n (opX f n o).1).1 ∨ m = n.with_ (opX f n o).2 (opY f n (opX f n o).1).2 := by
      simp only [addN] at hm
      split at hm
      · exact .inl hm
      · simpa using hm
    rcases hm' with hm' | rfl
    · rcases p2 _ m hm' with h | h
      · exact p1 _ m h
      · exact .inr h
    · exact .inr ⟨n, List.mem_of_getElem? hn, _, _, rfl⟩

theorem wf_snoc {o : List Nd} {m : Nd} (ho : Wf o) (hx : hasX m.op = true → 0 ≤ m.x ∧ m.x < o.length) (hy : hasY m.op = true → 0 ≤ m.y ∧ m.y < o.length) : Wf (o ++ [m]) := by
  intro i n hn
  by_cases h : i < o.length
  · rw [List.getElem?_append_left h] at hn
    exact ho i n hn
  · rw [List.getElem?_append_right (by omega)] at hn
    have hi : i = o.length := by
      by_cases e : i - o.length = 0
      · omega
      · rw [List.getElem?_eq_none (by simp; omega)] at hn; cases hn
    subst hi
    simp at hn
    subst hn
    exact ⟨hx, hy⟩
theorem wf_append {a b : List Nd} (ha : Wf a) (hb : ∀ (i : Nat) (n : Nd), b[i]? = some n → (hasX n.op = true → 0 ≤ n.x ∧ n.x < (a.length + i : Nat)) ∧ (hasY n.op = true → 0 ≤ n.y ∧ n.y < (a.length + i : Nat))) : Wf (a ++ b) := by
  intro i n hn
  by_cases h : i < a.length
  · rw [List.getElem?_append_left h] at hn
    exact ha i n hn
  · rw [List.getElem?_append_right (by omega)] at hn
    have := hb _ n hn
    have e : a.length + (i - a.length) = i := by omega
    rw [e] at this
    exact this
theorem wf_nil : Wf [] := fun i n h => by simp at h
theorem hasX_of_hasY {op : Int} (h : hasY op = true) : hasX op = true := by
  unfold hasX
  simp [hasY] at h
  simp
  omega

theorem fin_wf {f : List Nd} (hf : Wf f) : ∀ (i : Nat) (o : List Nd), i < f.length → Wf o → Wf (finN f i o).1 := by
  intro i
  induction i using Nat.strongRecOn with
  | _ i ih =>
    intro o hi ho
    obtain ⟨n, hn⟩ : ∃ n, f[i]? = some n := ⟨_, List.getElem?_eq_getElem hi⟩
    obtain ⟨hx, hy⟩ := hf i n hn
    have w1 : Wf (opX f n o).1 := by
      unfold opX
      split
      · rename_i h1
        have := hx h1
        exact ih _ (by omega) _ (by omega) ho
      · exact ho
    have w2 : Wf (opY f n (opX f n o).1).1 := by
      unfold opY
      split
      · rename_i h1
        have := hy h1
        exact ih _ (by omega) _ (by omega) w1
      · exact w1
    rw [finN_eq hf hn]
    simp only [addN]
    split
    · exact w2
    · refine wf_snoc w2 (fun h => ?_) (fun h => ?_)
      · have h' : hasX n.op = true := h
        have hp := opY_prefix hf hn (opX f n o).1
        have hl : (opX f n o).2 < (opX f n o).1.length := by
          have := hx h'
          unfold opX
          rw [if_pos h']
          exact finN_lt hf _ _ (by omega)
        have := hp.length_le
        simp only [Nd.with_, h', cond_true]
        omega
      · have h' : hasY n.op = true := h
        have hl : (opY f n (opX f n o).1).2 < (opY f n (opX f n o).1).1.length := by
          have := hy h'
          unfold opY
          rw [if_pos h']
          exact finN_lt hf _ _ (by omega)
        simp only [Nd.with_, h', cond_true]
        omega

/-- A node without its operands is right. -/
def headOk (n : Nd) : Prop := isOp n.op = true ∧ formBad n = false ∧ rangeBad n = false ∧ (hasX n.op = false → n.x = 0) ∧ (hasY n.op = false → n.y = 0)
theorem headOk_of {n : Nd} {a : Int} (h : nodeErr n a = 0) : headOk n := by
  obtain ⟨hx, hy⟩ := nodeErr_xy h
  obtain ⟨hf, hr⟩ := nodeErr_form h
  refine ⟨nodeErr_op h, hf, hr, fun e => ?_, fun e => ?_⟩
  · rw [e] at hx; simpa [operandOk] using hx
  · rw [e] at hy; simpa [operandOk] using hy
theorem headOk.err {n : Nd} {a : Nat} (h : headOk n) (hx : hasX n.op = true → 0 ≤ n.x ∧ n.x < a) (hy : hasY n.op = true → 0 ≤ n.y ∧ n.y < a) : nodeErr n a = 0 := by
  obtain ⟨ho, hf, hr, h1, h2⟩ := h
  refine nodeErr_of ho ?_ ?_ hf hr
  · cases e : hasX n.op
    · simp [operandOk, h1 e]
    · have := hx e; simp [operandOk]; omega
  · cases e : hasY n.op
    · simp [operandOk, h2 e]
    · have := hy e; simp [operandOk]; omega
theorem headOk.with_ {n : Nd} (h : headOk n) (k1 k2 : Nat) : headOk (n.with_ k1 k2) := by
  obtain ⟨ho, hf, hr, h1, h2⟩ := h
  refine ⟨ho, hf, hr, fun e => ?_, fun e => ?_⟩
  · have e' : hasX n.op = false := e
    simp only [Nd.with_, e', cond_false]; exact h1 e'
  · have e' : hasY n.op = false := e
    simp only [Nd.with_, e', cond_false]; exact h2 e'
theorem nodes_of {f : List Nd} (hw : Wf f) (hh : ∀ n ∈ f, headOk n) : checkNodes f 0 = 0 := by
  refine checkNodes_of f 0 fun k n hk => ?_
  obtain ⟨hx, hy⟩ := hw k n hk
  have := (hh n (List.mem_of_getElem? hk)).err hx hy
  simpa using this
theorem check_of {f : List Nd} (h0 : f ≠ []) (hl : f.length ≤ 200) (hw : Wf f) (hh : ∀ n ∈ f, headOk n) : check f = 0 := by
  unfold check
  have h1 : f.length ≠ 0 := by simpa using h0
  have h2 : ¬ 200 < f.length := by omega
  simp [h1, h2, nodes_of hw hh]
theorem heads_of {f : List Nd} (h : check f = 0) : ∀ n ∈ f, headOk n := by
  intro n hn
  obtain ⟨i, hi⟩ := List.getElem?_of_mem hn
  exact headOk_of (checkNodes_all f 0 (check_parts h).2.2 i n hi)

theorem compactN_props {f : List Nd} (h : check f = 0) : Wf (compactN f) ∧ (compactN f).length ≤ f.length ∧ 0 < (compactN f).length ∧ (∀ n ∈ compactN f, headOk n) := by
  have hw := check_wf h
  have hl := (check_parts h).1
  rw [compactN_eq h]
  refine ⟨fin_wf hw _ _ (by omega) wf_nil, ?_, ?_, ?_⟩
  · have h1 := pot_le hw (f.length - 1) [] (by omega)
    have h2 := pot_nil f
    have h3 := length_le_pot f (finN f (f.length - 1) []).1
    omega
  · have := finN_lt hw (f.length - 1) [] (by omega)
    omega
  · intro m hm
    rcases fin_mem hw _ _ (by omega) m hm with h' | ⟨n, hn, k1, k2, rfl⟩
    · cases h'
    · exact (heads_of h n hn).with_ k1 k2
theorem compactN_check {f : List Nd} (h : check f = 0) : check (compactN f) = 0 := by
  obtain ⟨a, b, c, d⟩ := compactN_props h
  have := (check_parts h).2.1
  exact check_of (by intro e; rw [e] at c; simp at c) (by omega) a d

def shiftN (d : Nat) (n : Nd) : Nd := { n with x := bif hasX n.op then n.x + d else n.x, y := bif hasY n.op then n.y + d else n.y }
def setOp (k : Nat) (x : Nd) (len : Nat) : Nd := bif k == 0 then { x with x := (len : Int) - 1 } else { x with y := (len : Int) - 1 }
/-- The operands' canonical lists, one behind the other, and the node with their roots. -/
def layout : List (List Nd) → Nat → List Nd → Nd → List Nd × Nd
  | [], _, f, x => (f, x)
  | o :: r, k, f, x => layout r (k + 1) (f ++ (compactN o).map (shiftN f.length)) (setOp k x (f ++ (compactN o).map (shiftN f.length)).length)
def joinN (f : List Nd) (y : Nd) : List Nd :=
  bif nodeErr y f.length != 0 then [] else bif decide (200 < (finN (f ++ [y]) f.length []).1.length) then [] else (finN (f ++ [y]) f.length []).1
def buildN (x : Nd) (ops : List (List Nd)) : List Nd := bif ops.any (fun o => check o != 0) then [] else joinN (layout ops 0 [] x).1 (layout ops 0 [] x).2

theorem shift_wf {a b : List Nd} (ha : Wf a) (hb : Wf b) : Wf (a ++ b.map (shiftN a.length)) := by
  refine wf_append ha fun i n hn => ?_
  rw [List.getElem?_map] at hn
  obtain ⟨m, hm, rfl⟩ := Option.map_eq_some_iff.1 hn
  obtain ⟨hx, hy⟩ := hb i m hm
  refine ⟨fun e => ?_, fun e => ?_⟩
  · have e' : hasX m.op = true := e
    have := hx e'
    simp only [shiftN, e', cond_true]
    omega
  · have e' : hasY m.op = true := e
    have := hy e'
    simp only [shiftN, e', cond_true]
    omega
theorem layout_step (ops : List (List Nd)) (k : Nat) (o : List Nd) (f : List Nd) (x : Nd) (h : ops[k]? = some o) :
    layout (ops.drop k) k f x = layout (ops.drop (k + 1)) (k + 1) (f ++ (compactN o).map (shiftN f.length)) (setOp k x (f ++ (compactN o).map (shiftN f.length)).length) := by
  obtain ⟨hk, rfl⟩ := List.getElem?_eq_some_iff.1 h
  rw [List.drop_eq_getElem_cons hk]
  rfl
theorem any_step (ops : List (List Nd)) (k : Nat) (o : List Nd) (h : ops[k]? = some o) : (ops.drop k).any (fun o => check o != 0) = (check o != 0 || (ops.drop (k + 1)).any (fun o => check o != 0)) := by
  obtain ⟨hk, rfl⟩ := List.getElem?_eq_some_iff.1 h
  rw [List.drop_eq_getElem_cons hk]
  rfl
end Go.Proofs.YtipnbfbakohcaaaDoor
