/- Formulas as trees: the canonical list of a formula is the list of its tree, and tells it. -/
import Derived.Test.YtipnbfbakohcaaaDoorF5
import Derived.Test.YtipnbfbakohcaaaDoorG8
import Derived.Test.YtipnbfbakohcaaaDoorG9

namespace Go.Proofs.YtipnbfbakohcaaaDoor

/-- The tree of a formula; a node's own operand numbers are 0 in it. -/
inductive Tr where
  | leaf (n : Nd)
  | one (n : Nd) (a : Tr)
  | two (n : Nd) (a b : Tr)
def Nd.head (n : Nd) : Nd := n.with_ 0 0
def Tr.ok : Tr → Prop
  | .leaf n => hasX n.op = false ∧ hasY n.op = false
  | .one n a => hasX n.op = true ∧ hasY n.op = false ∧ n.head = n ∧ a.ok
  | .two n a b => hasX n.op = true ∧ hasY n.op = true ∧ n.head = n ∧ a.ok ∧ b.ok
def Tr.size : Tr → Nat
  | .leaf _ => 1
  | .one _ a => a.size + 1
  | .two _ a b => a.size + b.size + 1
def Tr.top : Tr → Nd
  | .leaf n => n
  | .one n _ => n
  | .two n _ _ => n
def trF (f : List Nd) : Nat → Nat → Tr
  | 0, _ => .leaf Nd.zero
  | k + 1, i => bif hasY (f.getD i Nd.zero).op then .two (f.getD i Nd.zero).head (trF f k (f.getD i Nd.zero).x.toNat) (trF f k (f.getD i Nd.zero).y.toNat)
      else bif hasX (f.getD i Nd.zero).op then .one (f.getD i Nd.zero).head (trF f k (f.getD i Nd.zero).x.toNat) else .leaf (f.getD i Nd.zero)
/-- The tree of the formula at a place of a list. -/
def tr (f : List Nd) (i : Nat) : Tr := trF f (i + 1) i
def treeOf (f : List Nd) : Tr := tr f (f.length - 1)
/-- What the node is with its operands' trees. -/
def mkTr (n : Nd) (a b : Tr) : Tr := bif hasY n.op then .two n.head a b else bif hasX n.op then .one n.head a else .leaf n

theorem trF_fuel {f : List Nd} (hf : Wf f) : ∀ (k i : Nat), i < k → i < f.length → trF f k i = tr f i := by
  intro k
  induction k using Nat.strongRecOn with
  | _ k ih =>
    intro i h hi
    cases k with
    | zero => omega
    | succ k =>
      obtain ⟨n, hn⟩ : ∃ n, f[i]? = some n := ⟨_, List.getElem?_eq_getElem hi⟩
      obtain ⟨hx, hy⟩ := hf i n hn
      have e : ∀ (b : Nat), b < i → trF f k b = trF f i b := fun b hb => by
        rw [ih k (by omega) b (by omega) (by omega)]
        by_cases hik : i = k
        · subst hik; exact (ih i (by omega) b hb (by omega)).symm
        · exact (ih i (by omega) b hb (by omega)).symm
      unfold tr
      simp only [trF, getD_of hn]
      cases h2 : hasY n.op
      · cases h1 : hasX n.op
        · rfl
        · have := hx h1
          simp only [cond_true, cond_false]
          rw [e _ (by omega)]
      · have h1 := hasX_of_hasY h2
        have := hx h1
        have := hy h2
        simp only [cond_true]
        rw [e _ (by omega), e _ (by omega)]
theorem tr_eq {f : List Nd} (hf : Wf f) {i : Nat} {n : Nd} (hn : f[i]? = some n) : tr f i = mkTr n (tr f n.x.toNat) (tr f n.y.toNat) := by
  have hi : i < f.length := (List.getElem?_eq_some_iff.1 hn).1
  obtain ⟨hx, hy⟩ := hf i n hn
  conv => lhs; unfold tr trF
  simp only [getD_of hn, mkTr]
  cases h2 : hasY n.op
  · cases h1 : hasX n.op
    · rfl
    · have := hx h1
      simp only [cond_true, cond_false]
      rw [trF_fuel hf _ _ (by omega) (by omega)]
  · have h1 := hasX_of_hasY h2
    have := hx h1
    have := hy h2
    simp only [cond_true]
    rw [trF_fuel hf _ _ (by omega) (by omega), trF_fuel hf _ _ (by omega) (by omega)]
theorem mkTr_congr {n : Nd} {a a' b b' : Tr} (hx : hasX n.op = true → a = a') (hy : hasY n.op = true → b = b') : mkTr n a b = mkTr n a' b' := by
  unfold mkTr
  cases h2 : hasY n.op
  · cases h1 : hasX n.op
    · rfl
    · rw [hx h1]; rfl
  · rw [hx (hasX_of_hasY h2), hy h2]
theorem tr_prefix {f g : List Nd} (hf : Wf f) (hg : Wf g) (hp : f <+: g) : ∀ i, i < f.length → tr g i = tr f i := by
  intro i
  induction i using Nat.strongRecOn with
  | _ i ih =>
    intro hi
    obtain ⟨n, hn⟩ : ∃ n, f[i]? = some n := ⟨_, List.getElem?_eq_getElem hi⟩
    obtain ⟨hx, hy⟩ := hf i n hn
    have hn' : g[i]? = some n := by
      obtain ⟨t, rfl⟩ := hp
      rw [List.getElem?_append_left hi]; exact hn
    rw [tr_eq hf hn, tr_eq hg hn']
    exact mkTr_congr (fun h => by have := hx h; exact ih _ (by omega) (by omega)) (fun h => by have := hy h; exact ih _ (by omega) (by omega))
theorem head_head (n : Nd) : n.head.head = n.head := by
  unfold Nd.head Nd.with_
  cases hasX n.op <;> cases hasY n.op <;> rfl
theorem with_head (n : Nd) (a b : Nat) : (n.with_ a b).head = n.head := by
  unfold Nd.head Nd.with_
  cases hasX n.op <;> cases hasY n.op <;> rfl
theorem head_with (n : Nd) (a b : Nat) : n.head.with_ a b = n.with_ a b := by
  unfold Nd.head Nd.with_
  cases hasX n.op <;> cases hasY n.op <;> rfl
theorem with_op (n : Nd) (a b : Nat) : (n.with_ a b).op = n.op := rfl
theorem head_op (n : Nd) : n.head.op = n.op := rfl
theorem mkTr_ok {n : Nd} {a b : Tr} (ha : hasX n.op = true → a.ok) (hb : hasY n.op = true → b.ok) : (mkTr n a b).ok := by
  unfold mkTr
  cases h2 : hasY n.op
  · cases h1 : hasX n.op
    · exact ⟨h1, h2⟩
    · exact ⟨h1, h2, head_head n, ha h1⟩
  · have h1 := hasX_of_hasY h2
    exact ⟨h1, h2, head_head n, ha h1, hb h2⟩
theorem tr_ok {f : List Nd} (hf : Wf f) : ∀ i, i < f.length → (tr f i).ok := by
  intro i
  induction i using Nat.strongRecOn with
  | _ i ih =>
    intro hi
    obtain ⟨n, hn⟩ : ∃ n, f[i]? = some n := ⟨_, List.getElem?_eq_getElem hi⟩
    obtain ⟨hx, hy⟩ := hf i n hn
    rw [tr_eq hf hn]
    exact mkTr_ok (fun h => by have := hx h; exact ih _ (by omega) (by omega)) (fun h => by have := hy h; exact ih _ (by omega) (by omega))

/-- A tree put into a list: the list behind it, and the root's place. -/
def ins : Tr → List Nd → List Nd × Nat
  | .leaf n, o => (addN o n, o.idxOf n)
  | .one n a, o => (addN (ins a o).1 (n.with_ (ins a o).2 0), (ins a o).1.idxOf (n.with_ (ins a o).2 0))
  | .two n a b, o => (addN (ins b (ins a o).1).1 (n.with_ (ins a o).2 (ins b (ins a o).1).2), (ins b (ins a o).1).1.idxOf (n.with_ (ins a o).2 (ins b (ins a o).1).2))
def canon (t : Tr) : List Nd := (ins t []).1

theorem with_leaf {n : Nd} (h1 : hasX n.op = false) (h2 : hasY n.op = false) (a b : Nat) : n.with_ a b = n := by
  unfold Nd.with_; rw [h1, h2]; rfl
theorem with_one {n : Nd} (h2 : hasY n.op = false) (a b c : Nat) : n.with_ a b = n.with_ a c := by
  unfold Nd.with_; rw [h2]; rfl
theorem finN_ins {f : List Nd} (hf : Wf f) : ∀ (i : Nat) (o : List Nd), i < f.length → finN f i o = ins (tr f i) o := by
  intro i
  induction i using Nat.strongRecOn with
  | _ i ih =>
    intro o hi
    obtain ⟨n, hn⟩ : ∃ n, f[i]? = some n := ⟨_, List.getElem?_eq_getElem hi⟩
    obtain ⟨hx, hy⟩ := hf i n hn
    rw [finN_eq hf hn, tr_eq hf hn]
    unfold mkTr opX opY
    cases h2 : hasY n.op
    · cases h1 : hasX n.op
      · simp only [cond_false, ins, Bool.false_eq_true, if_false, with_leaf h1 h2]
      · have := hx h1
        simp only [cond_false, cond_true, ins, Bool.false_eq_true, if_false, if_true, head_with]
        rw [ih _ (by omega) _ (by omega), with_one h2 _ _ 0]
    · have h1 := hasX_of_hasY h2
      have := hx h1
      have := hy h2
      simp only [h1, cond_true, ins, if_true, head_with]
      rw [ih n.x.toNat (by omega) o (by omega), ih n.y.toNat (by omega) _ (by omega)]

theorem wf_addN {o : List Nd} {m : Nd} (ho : Wf o) (hx : hasX m.op = true → 0 ≤ m.x ∧ m.x < o.length) (hy : hasY m.op = true → 0 ≤ m.y ∧ m.y < o.length) : Wf (addN o m) := by
  unfold addN
  split
  · exact ho
  · exact wf_snoc ho hx hy
theorem addN_get (o : List Nd) (m : Nd) : (addN o m)[o.idxOf m]? = some m := by
  rw [← idxOf_addN]
  rw [List.getElem?_eq_getElem (List.idxOf_lt_length_of_mem (mem_addN o m))]
  rw [List.getElem_idxOf]
structure InsOk (t : Tr) (o : List Nd) : Prop where
  wf : Wf (ins t o).1
  pre : o <+: (ins t o).1
  lt : (ins t o).2 < (ins t o).1.length
  tree : tr (ins t o).1 (ins t o).2 = t
theorem ins_ok : ∀ (t : Tr) (o : List Nd), t.ok → Wf o → InsOk t o
  | .leaf n, o, ⟨h1, h2⟩, ho => by
    have hw : Wf (addN o n) := wf_addN ho (fun h => by rw [h1] at h; cases h) (fun h => by rw [h2] at h; cases h)
    refine ⟨hw, addN_prefix _ _, idxOf_lt_addN _ _, ?_⟩
    show tr (addN o n) (o.idxOf n) = _
    rw [tr_eq hw (addN_get o n)]
    unfold mkTr
    rw [h1, h2]
    rfl
  | .one n a, o, ⟨h1, h2, h3, ha⟩, ho => by
    have A := ins_ok a o ha ho
    have hw : Wf (addN (ins a o).1 (n.with_ (ins a o).2 0)) := wf_addN A.wf (fun h => by
      have := A.lt
      simp only [Nd.with_, h1, cond_true]
      omega) (fun h => by rw [with_op, h2] at h; cases h)
    refine ⟨hw, A.pre.trans (addN_prefix _ _), idxOf_lt_addN _ _, ?_⟩
    show tr (addN (ins a o).1 (n.with_ (ins a o).2 0)) ((ins a o).1.idxOf (n.with_ (ins a o).2 0)) = _
    rw [tr_eq hw (addN_get _ _)]
    unfold mkTr
    rw [with_op, h1, h2, with_head, h3]
    have e : (n.with_ (ins a o).2 0).x.toNat = (ins a o).2 := by simp [Nd.with_, h1]
    rw [e, tr_prefix A.wf hw (addN_prefix _ _) _ A.lt, A.tree]
    rfl
  | .two n a b, o, ⟨h1, h2, h3, ha, hb⟩, ho => by
    have A := ins_ok a o ha ho
    have B := ins_ok b _ hb A.wf
    have hlt : (ins a o).2 < (ins b (ins a o).1).1.length := Nat.lt_of_lt_of_le A.lt B.pre.length_le
    have hw : Wf (addN (ins b (ins a o).1).1 (n.with_ (ins a o).2 (ins b (ins a o).1).2)) := wf_addN B.wf (fun h => by
      simp only [Nd.with_, h1, cond_true]
      omega) (fun h => by
      have := B.lt
      simp only [Nd.with_, h2, cond_true]
      omega)
    refine ⟨hw, (A.pre.trans B.pre).trans (addN_prefix _ _), idxOf_lt_addN _ _, ?_⟩
    show tr (addN (ins b (ins a o).1).1 (n.with_ (ins a o).2 (ins b (ins a o).1).2)) ((ins b (ins a o).1).1.idxOf (n.with_ (ins a o).2 (ins b (ins a o).1).2)) = _
    rw [tr_eq hw (addN_get _ _)]
    unfold mkTr
    rw [with_op, h2, with_head, h3]
    have e : (n.with_ (ins a o).2 (ins b (ins a o).1).2).x.toNat = (ins a o).2 := by simp [Nd.with_, h1]
    have e' : (n.with_ (ins a o).2 (ins b (ins a o).1).2).y.toNat = (ins b (ins a o).1).2 := by simp [Nd.with_, h2]
    rw [e, e', tr_prefix A.wf hw (B.pre.trans (addN_prefix _ _)) _ A.lt, A.tree, tr_prefix B.wf hw (addN_prefix _ _) _ B.lt, B.tree]
    rfl

/-- The trees in a list are below a bound. -/
def Below (N : Nat) (o : List Nd) : Prop := ∀ k, k < o.length → (tr o k).size < N
theorem below_addN {N : Nat} {o : List Nd} {m : Nd} (ho : Wf o) (hw : Wf (addN o m)) (h : Below N o) (hm : (tr (addN o m) (o.idxOf m)).size < N) : Below N (addN o m) := by
  intro k hk
  by_cases hko : k < o.length
  · rw [tr_prefix ho hw (addN_prefix _ _) _ hko]
    exact h k hko
  · have hne : m ∉ o := fun hm' => by
      unfold addN at hk
      rw [if_pos hm'] at hk
      exact hko hk
    have : k = o.idxOf m := by
      rw [List.idxOf_eq_length hne]
      unfold addN at hk
      rw [if_neg hne] at hk
      simp at hk
      omega
    rw [this]
    exact hm
theorem ins_below : ∀ (t : Tr) (o : List Nd) (N : Nat), t.ok → Wf o → Below N o → t.size < N → Below N (ins t o).1
  | .leaf n, o, N, ht, ho, hb, hs => by
    have I := ins_ok (.leaf n) o ht ho
    exact below_addN ho I.wf hb (Nat.lt_of_le_of_lt (Nat.le_of_eq (congrArg Tr.size I.tree)) hs)
  | .one n a, o, N, ht, ho, hb, hs => by
    have I := ins_ok (.one n a) o ht ho
    have A := ins_ok a o ht.2.2.2 ho
    have hs' : a.size + 1 < N := hs
    exact below_addN A.wf I.wf (ins_below a o N ht.2.2.2 ho hb (by omega)) (Nat.lt_of_le_of_lt (Nat.le_of_eq (congrArg Tr.size I.tree)) hs)
  | .two n a b, o, N, ht, ho, hb, hs => by
    have I := ins_ok (.two n a b) o ht ho
    have A := ins_ok a o ht.2.2.2.1 ho
    have B := ins_ok b _ ht.2.2.2.2 A.wf
    have hs' : a.size + b.size + 1 < N := hs
    exact below_addN B.wf I.wf (ins_below b _ N ht.2.2.2.2 A.wf (ins_below a o N ht.2.2.2.1 ho hb (by omega)) (by omega)) (Nat.lt_of_le_of_lt (Nat.le_of_eq (congrArg Tr.size I.tree)) hs)
theorem below_nil (N : Nat) : Below N [] := fun k h => absurd h (by simp)
theorem last_addN {o : List Nd} {m : Nd} {t : Tr} (hb : Below t.size o) (ht : tr (addN o m) (o.idxOf m) = t) : o.idxOf m + 1 = (addN o m).length := by
  have hne : m ∉ o := fun hm => by
    have hlt := List.idxOf_lt_length_of_mem hm
    have := hb _ hlt
    have e : addN o m = o := by unfold addN; rw [if_pos hm]
    rw [e] at ht
    rw [ht] at this
    omega
  rw [List.idxOf_eq_length hne]
  unfold addN
  rw [if_neg hne]
  simp
/-- The root of a canonical list is its last node. -/
theorem ins_last (t : Tr) (ht : t.ok) : (ins t []).2 + 1 = (canon t).length := by
  have I := ins_ok t [] ht wf_nil
  cases t with
  | leaf n => exact last_addN (below_nil _) I.tree
  | one n a =>
    have A := ins_ok a [] ht.2.2.2 wf_nil
    exact last_addN (t := .one n a) (ins_below a [] _ ht.2.2.2 wf_nil (below_nil _) (Nat.lt_succ_self _)) I.tree
  | two n a b =>
    have A := ins_ok a [] ht.2.2.2.1 wf_nil
    have B := ins_ok b _ ht.2.2.2.2 A.wf
    have e : (Tr.two n a b).size = a.size + b.size + 1 := rfl
    exact last_addN (t := .two n a b) (ins_below b _ _ ht.2.2.2.2 A.wf (ins_below a [] _ ht.2.2.2.1 wf_nil (below_nil _) (by omega)) (by omega)) I.tree
theorem canon_wf {t : Tr} (ht : t.ok) : Wf (canon t) := (ins_ok t [] ht wf_nil).wf
theorem canon_pos {t : Tr} (ht : t.ok) : 0 < (canon t).length := by have := ins_last t ht; omega
theorem treeOf_canon {t : Tr} (ht : t.ok) : treeOf (canon t) = t := by
  unfold treeOf
  have h := ins_last t ht
  rw [show (canon t).length - 1 = (ins t []).2 by omega]
  exact (ins_ok t [] ht wf_nil).tree
theorem canon_inj {s t : Tr} (hs : s.ok) (ht : t.ok) (h : canon s = canon t) : s = t := by
  rw [← treeOf_canon hs, ← treeOf_canon ht, h]
end Go.Proofs.YtipnbfbakohcaaaDoor

/- What the functions on formulas come to on trees. -/

namespace Go.Proofs.YtipnbfbakohcaaaDoor

theorem treeOf_ok {f : List Nd} (h : check f = 0) : (treeOf f).ok := tr_ok (check_wf h) _ (by have := (check_parts h).1; omega)
theorem compactN_tree {f : List Nd} (h : check f = 0) : compactN f = canon (treeOf f) := by
  rw [compactN_eq h, finN_ins (check_wf h) _ _ (by have := (check_parts h).1; omega)]
  rfl
theorem subN_tree {f : List Nd} (h : check f = 0) {z : Nat} (hz : z < f.length) : subN f z = canon (tr f z) := by
  unfold subN
  have e : (decide ((z : Int) < 0) || decide ((f.length : Int) ≤ (z : Int))) = false := by simp; omega
  rw [h, e, Int.toNat_natCast, finN_ins (check_wf h) _ _ hz]
  rfl
theorem treeOf_compact {f : List Nd} (h : check f = 0) : treeOf (compactN f) = treeOf f := by
  rw [compactN_tree h, treeOf_canon (treeOf_ok h)]
theorem compactN_inj {f g : List Nd} (hf : check f = 0) (hg : check g = 0) : compactN f = compactN g ↔ treeOf f = treeOf g := by
  rw [compactN_tree hf, compactN_tree hg]
  exact ⟨canon_inj (treeOf_ok hf) (treeOf_ok hg), fun e => by rw [e]⟩
theorem sameN_tree {f g : List Nd} : sameN f g = true ↔ check f = 0 ∧ check g = 0 ∧ treeOf f = treeOf g := by
  unfold sameN
  rw [Bool.and_eq_true, Bool.and_eq_true, beq_iff_eq, beq_iff_eq, decide_eq_true_iff]
  constructor
  · rintro ⟨a, b, c⟩
    exact ⟨a, b, (compactN_inj a b).1 c⟩
  · rintro ⟨a, b, c⟩
    exact ⟨a, b, (compactN_inj a b).2 c⟩
theorem compact_twice {f : List Nd} (h : check f = 0) : compactN (compactN f) = compactN f := by
  rw [compactN_tree (compactN_check h), treeOf_compact h, compactN_tree h]

theorem tr_shift {a b : List Nd} (ha : Wf a) (hb : Wf b) : ∀ k, k < b.length → tr (a ++ b.map (shiftN a.length)) (a.length + k) = tr b k := by
  intro k
  induction k using Nat.strongRecOn with
  | _ k ih =>
    intro hk
    obtain ⟨n, hn⟩ : ∃ n, b[k]? = some n := ⟨_, List.getElem?_eq_getElem hk⟩
    obtain ⟨hx, hy⟩ := hb k n hn
    have hn' : (a ++ b.map (shiftN a.length))[a.length + k]? = some (shiftN a.length n) := by
      rw [List.getElem?_append_right (by omega), Nat.add_sub_cancel_left, List.getElem?_map, hn]; rfl
    rw [tr_eq (shift_wf ha hb) hn', tr_eq hb hn]
    have e0 : (shiftN a.length n).op = n.op := rfl
    have ehead : (shiftN a.length n).head = n.head := by
      unfold Nd.head Nd.with_ shiftN
      cases hasX n.op <;> cases hasY n.op <;> rfl
    unfold mkTr
    rw [e0, ehead]
    cases h2 : hasY n.op
    · cases h1 : hasX n.op
      · simp only [cond_false]
        congr 1
        unfold shiftN
        rw [h1, h2]
        rfl
      · have := hx h1
        have e1 : (shiftN a.length n).x.toNat = a.length + n.x.toNat := by simp only [shiftN, h1, cond_true]; omega
        rw [e1, ih _ (by omega) (by omega)]
        rfl
    · have h1 := hasX_of_hasY h2
      have := hx h1
      have := hy h2
      have e1 : (shiftN a.length n).x.toNat = a.length + n.x.toNat := by simp only [shiftN, h1, cond_true]; omega
      have e2 : (shiftN a.length n).y.toNat = a.length + n.y.toNat := by simp only [shiftN, h2, cond_true]; omega
      rw [e1, e2, ih n.x.toNat (by omega) (by omega), ih n.y.toNat (by omega) (by omega)]
      rfl

/-- A node with one operand. -/
theorem build_one {n : Nd} {f : List Nd} (hf : check f = 0) (h1 : hasX n.op = true) (h2 : hasY n.op = false) (hh : headOk n) (hl : f.length < 200) : buildN n [f] = canon (.one n.head (treeOf f)) := by
  obtain ⟨cw, cl, cp, _⟩ := compactN_props hf
  unfold buildN
  have e0 : [f].any (fun o => check o != 0) = false := by simp [hf]
  rw [e0, cond_false]
  have eL : layout [f] 0 [] n = (compactN f, { n with x := ((compactN f).length : Int) - 1 }) := by
    simp only [layout, setOp, List.nil_append, List.length_nil]
    have : (compactN f).map (shiftN 0) = compactN f := by
      rw [show shiftN 0 = id from by funext m; unfold shiftN; cases hasX m.op <;> cases hasY m.op <;> simp]
      simp
    rw [this]
    rfl
  rw [eL]
  generalize hm : ({ n with x := ((compactN f).length : Int) - 1 } : Nd) = m
  have mo : m.op = n.op := by rw [← hm]
  have mx : m.x = ((compactN f).length : Int) - 1 := by rw [← hm]
  have mh : m.head = n.head := by
    rw [← hm]
    unfold Nd.head Nd.with_
    simp [h1, h2]
  have hmh : headOk m := by
    rw [← hm]
    exact ⟨hh.1, hh.2.1, hh.2.2.1, fun h => by (rw [h1] at h; cases h), hh.2.2.2.2⟩
  have herr : nodeErr m (compactN f).length = 0 := hmh.err (fun _ => by omega) (fun h => by rw [mo, h2] at h; cases h)
  have hw : Wf (compactN f ++ [m]) := wf_snoc cw (fun _ => by omega) (fun h => by rw [mo, h2] at h; cases h)
  have htr : tr (compactN f ++ [m]) (compactN f).length = .one n.head (treeOf f) := by
    rw [tr_eq hw (n := m) (by simp)]
    unfold mkTr
    rw [mo, h1, h2, mh, mx]
    rw [show (((compactN f).length : Int) - 1).toNat = (compactN f).length - 1 by omega, tr_prefix cw hw (List.prefix_append _ _) _ (by omega)]
    rw [show tr (compactN f) ((compactN f).length - 1) = treeOf (compactN f) from rfl, treeOf_compact hf]
    rfl
  unfold joinN
  have hfin : (finN (compactN f ++ [m]) (compactN f).length []).1 = canon (.one n.head (treeOf f)) := by
    rw [finN_ins hw _ _ (by simp), htr]; rfl
  have hlen : (finN (compactN f ++ [m]) (compactN f).length []).1.length ≤ (compactN f ++ [m]).length := by
    have a := length_le_pot (compactN f ++ [m]) (finN (compactN f ++ [m]) (compactN f).length []).1
    have b := pot_le hw (compactN f).length [] (by simp)
    have c := pot_nil (compactN f ++ [m])
    omega
  simp only [List.length_append, List.length_singleton] at hlen
  have e3 : decide (200 < (finN (compactN f ++ [m]) (compactN f).length []).1.length) = false := by simp; omega
  rw [herr, e3, hfin]
  rfl

/-- A node with two operands. -/
theorem build_two {n : Nd} {f g : List Nd} (hf : check f = 0) (hg : check g = 0) (h1 : hasX n.op = true) (h2 : hasY n.op = true) (hh : headOk n) (hl : f.length + g.length < 200) : buildN n [f, g] = canon (.two n.head (treeOf f) (treeOf g)) := by
  obtain ⟨cw, cl, cp, _⟩ := compactN_props hf
  obtain ⟨dw, dl, dp, _⟩ := compactN_props hg
  unfold buildN
  have e0 : [f, g].any (fun o => check o != 0) = false := by simp [hf, hg]
  rw [e0, cond_false]
  have eL : layout [f, g] 0 [] n = (compactN f ++ (compactN g).map (shiftN (compactN f).length), { n with x := ((compactN f).length : Int) - 1, y := ((compactN f).length : Int) + (compactN g).length - 1 }) := by
    simp only [layout, setOp, List.nil_append, List.length_nil]
    have : (compactN f).map (shiftN 0) = compactN f := by
      rw [show shiftN 0 = id from by funext m; unfold shiftN; cases hasX m.op <;> cases hasY m.op <;> simp]
      simp
    rw [this]
    simp
  rw [eL]
  have hFw := shift_wf cw dw
  have hFl : (compactN f ++ (compactN g).map (shiftN (compactN f).length)).length = (compactN f).length + (compactN g).length := by simp
  have hF1 : tr (compactN f ++ (compactN g).map (shiftN (compactN f).length)) ((compactN f).length - 1) = treeOf f := by
    rw [tr_prefix cw hFw (List.prefix_append _ _) _ (by omega), show tr (compactN f) ((compactN f).length - 1) = treeOf (compactN f) from rfl, treeOf_compact hf]
  have hF2 : tr (compactN f ++ (compactN g).map (shiftN (compactN f).length)) ((compactN f).length + (compactN g).length - 1) = treeOf g := by
    rw [show (compactN f).length + (compactN g).length - 1 = (compactN f).length + ((compactN g).length - 1) by omega, tr_shift cw dw _ (by omega), show tr (compactN g) ((compactN g).length - 1) = treeOf (compactN g) from rfl, treeOf_compact hg]
  generalize compactN f ++ (compactN g).map (shiftN (compactN f).length) = F at *
  generalize hm : ({ n with x := ((compactN f).length : Int) - 1, y := ((compactN f).length : Int) + (compactN g).length - 1 } : Nd) = m
  have mo : m.op = n.op := by rw [← hm]
  have mx : m.x = ((compactN f).length : Int) - 1 := by rw [← hm]
  have my : m.y = ((compactN f).length : Int) + (compactN g).length - 1 := by rw [← hm]
  have mh : m.head = n.head := by
    rw [← hm]
    unfold Nd.head Nd.with_
    simp [h1, h2]
  have hmh : headOk m := by
    rw [← hm]
    exact ⟨hh.1, hh.2.1, hh.2.2.1, fun h => by (rw [h1] at h; cases h), fun h => by (rw [h2] at h; cases h)⟩
  have herr : nodeErr m F.length = 0 := hmh.err (fun _ => by omega) (fun _ => by omega)
  have hw : Wf (F ++ [m]) := wf_snoc hFw (fun _ => by omega) (fun _ => by omega)
  have htr : tr (F ++ [m]) F.length = .two n.head (treeOf f) (treeOf g) := by
    rw [tr_eq hw (n := m) (by simp)]
    unfold mkTr
    rw [mo, h2, mh, mx, my]
    rw [show (((compactN f).length : Int) - 1).toNat = (compactN f).length - 1 by omega, tr_prefix hFw hw (List.prefix_append _ _) _ (by omega), hF1]
    rw [show (((compactN f).length : Int) + (compactN g).length - 1).toNat = (compactN f).length + (compactN g).length - 1 by omega, tr_prefix hFw hw (List.prefix_append _ _) _ (by omega), hF2]
    rfl
  unfold joinN
  have hfin : (finN (F ++ [m]) F.length []).1 = canon (.two n.head (treeOf f) (treeOf g)) := by
    rw [finN_ins hw _ _ (by simp), htr]; rfl
  have hlen : (finN (F ++ [m]) F.length []).1.length ≤ (F ++ [m]).length := by
    have a := length_le_pot (F ++ [m]) (finN (F ++ [m]) F.length []).1
    have b := pot_le hw F.length [] (by simp)
    have c := pot_nil (F ++ [m])
    omega
  simp only [List.length_append, List.length_singleton] at hlen
  have e3 : decide (200 < (finN (F ++ [m]) F.length []).1.length) = false := by simp; omega
  rw [herr, e3, hfin]
  rfl
end Go.Proofs.YtipnbfbakohcaaaDoor

/- The law's serial and again. -/

namespace Go.Proofs.YtipnbfbakohcaaaDoor
open Go.RowKit

def serialLs (a : Int) (f : List Nd) : List Ln := [mkLn 1 1 (knowN a f) [], mkLn 1 20 (possN a f) [0], mkLn 0 8 (impN (knowN a f) (possN a f)) [0]]
set_option maxRecDepth 100000 in
set_option maxHeartbeats 4000000 in
theorem serialP_any (lg a : Int) (ha : i64ok a) (v : Value) (f : List Nd) (w : World) (hf : Fml w v f) (h0 : 0 < f.length) :
    Calls Tryd.prog 23 #[.int .i64 lg, .int .i64 a, v] w fun e w' => ∃ vl, e = .returned (.agg #[.int .i64 lg, vl]) ∧ Ext w w' ∧ Lns w' vl (serialLs a f) := by
  have HF := Lib.hid hf
  have NF := Lib.hid (NB.of_lt (b := w.heap.size) hf h0 (Nat.le_refl _))
  obtain ⟨Af, cf, rfl, _⟩ := fml_slice hf
  clear hf
  go_enter Tryd.func23, Tryd.ntmps23
  go_wp2_with fail
  refine (know_any a ha _ f _ (HF.out.ext ((Ext.refl _).alloc _))).mono ?_
  rintro e w1 ⟨uk, rfl, hm⟩
  have MK := Lib.hid hm
  have NK := Lib.hid (NB.of_row (b := w.heap.size) hm.1 (by simp))
  have HX1 := Lib.hid (show Ext (w.alloc (.cells #[.int .i64 0, .slice none 0 0] 24)) w1 from hm.2.2)
  have hb1 : w1.heap[w.heap.size]? = some (.cells #[.int .i64 0, .slice none 0 0] 24 (0, 0)) := (hm.2.2.block (by simp)).trans (heap_alloc_new _ _)
  have HB1 := Lib.hid hb1
  have HL1 := Lib.hid (lt_heap hb1)
  clear hm hb1
  go_wp2_with fail
  refine (poss_any a ha _ f _ (HF.out.ext (((Ext.refl w).alloc _).trans HX1.out))).mono ?_
  rintro e w1' ⟨up, rfl, hm⟩
  have MP := Lib.hid hm
  have NP := Lib.hid (NB.of_row (b := w.heap.size) hm.1 HL1.out)
  have HXP := Lib.hid hm.2.2
  clear hm
  go_wp2_with fail
  refine (line_call 1 1 (MK.out.fml.ext HXP.out) (Ints.none_ _) NK.out (NB.nil _)).mono ?_
  rintro e w2 ⟨v1, rfl, hx, hv1⟩
  obtain ⟨A1, c1, R1, r1, rfl, p1, p2, p3, p4⟩ := hv1
  have HP1 := Lib.hid (And.intro p1 (And.intro p2 (And.intro p3 p4)))
  have H12p := Lib.hid hx
  have H12 := Lib.hid (HXP.out.trans hx)
  clear hx p1 p2 p3 p4
  go_wp2_with fail
  refine (line_call 1 20 (MP.out.fml.ext (H12p.out.trans ((Ext.refl _).alloc _))) (ints_one w2 0) NP.out (nb_new (Nat.lt_of_lt_of_le HL1.out H12.out.size))).mono ?_
  rintro e w3 ⟨v2, rfl, hx, hv2⟩
  have H23 := Lib.hid (Ext.trans (show Ext w2 _ from (Ext.refl _).alloc _) hx)
  obtain ⟨A2, c2, R2, r2, rfl, p1, p2, p3, p4⟩ := hv2
  have HP2 := Lib.hid (And.intro p1 (And.intro p2 (And.intro p3 p4)))
  clear hx p1 p2 p3 p4
  go_wp2_with fail
  refine (imp_any _ _ (knowN a f) (possN a f) _ (MK.out.fml.ext (H12.out.trans H23.out)) (MP.out.fml.ext (H12p.out.trans H23.out))).mono ?_
  rintro e w4 ⟨ui, rfl, hm⟩
  have MI := Lib.hid hm
  have NI := Lib.hid (NB.of_row (b := w.heap.size) hm.1 (by have := HL1.out; have := H12.out.size; have := H23.out.size; omega))
  have H34 := Lib.hid hm.2.2
  clear hm
  go_wp2_with fail
  refine (line_call 0 8 (MI.out.fml.ext ((Ext.refl _).alloc _)) (ints_one w4 0) NI.out (nb_new (by have := HL1.out; have := H12.out.size; have := H23.out.size; have := H34.out.size; omega))).mono ?_
  rintro e w5 ⟨v3, rfl, hx, hv3⟩
  have H45 := Lib.hid (Ext.trans (show Ext w4 _ from (Ext.refl _).alloc _) hx)
  obtain ⟨A3, c3, R3, r3, rfl, p1, p2, p3, p4⟩ := hv3
  have HP3 := Lib.hid (And.intro p1 (And.intro p2 (And.intro p3 p4)))
  clear hx p1 p2 p3 p4
  have H35 := Lib.hid (H34.out.trans H45.out)
  have H25 := Lib.hid (H23.out.trans H35.out)
  have H15 := Lib.hid (H12.out.trans H25.out)
  have hb5 := (H15.out.block HL1.out).trans HB1.out
  obtain ⟨z0, z1, zfr, zlt⟩ := cells2 hb5
  have HB5 := Lib.hid hb5
  have zf0 := zfr 0
  have zf1 := zfr 1
  have HLC := Lib.hid (lnsB_new (b := w.heap.size) (w := w5) (T := 45) (ns := serialLs a f) (by simp [serialLs]) zlt
    (LineCells.cons (n := mkLn 1 1 (knowN a f) []) (HP1.out.1.ext H25.out) (HP1.out.2.1.ext H25.out) HP1.out.2.2.1 HP1.out.2.2.2
    (LineCells.cons (n := mkLn 1 20 (possN a f) [0]) (HP2.out.1.ext H35.out) (HP2.out.2.1.ext H35.out) HP2.out.2.2.1 HP2.out.2.2.2
    (LineCells.cons (n := mkLn 0 8 (impN (knowN a f) (possN a f)) [0]) HP3.out.1 HP3.out.2.1 HP3.out.2.2.1 HP3.out.2.2.2 LineCells.nil))))
  have HD := Lib.hid (proof_done (lg := lg) (Nat.le_refl w.heap.size) (((Ext.refl w).alloc _).trans (HX1.out.trans H15.out)) HB5.out HLC.out)
  clear hb5 zfr
  go_wp2_with fail
  (try simp only [Exit.inBlock, Exit.then])
  refine bodyPost_ret (results_cell Tryd.results23 _ _ rfl HD.out.1 Tryd.underlying24 rfl (by kernel_rfl)) rfl ?_
  exact ⟨_, rfl, HD.out.2.1, HD.out.2.2⟩

def boxLn2 (a : Int) : Ln := ⟨2, 2, trueN, a, []⟩
def againLs (a : Int) (f : List Nd) : List Ln :=
  [mkLn 1 1 f [], boxLn2 a, mkLn 2 17 f [0], mkLn 1 16 (knowN a f) [1], mkLn 0 8 (impN f (knowN a f)) [0]]
/-- The box line's struct in memory. -/
def BoxAg (b bx : Nat) (a : Int) (w : World) : Prop := ∃ At ct Rt rt, w.heap[bx]? = some (.cells #[.int .i64 2, .int .i64 2, .slice At trueN.length ct, .int .i64 a, .slice Rt 0 rt] 45 (0, 0)) ∧ Fml w (.slice At trueN.length ct) trueN ∧ NB b (.slice At trueN.length ct) ∧ Ints w (.slice Rt 0 rt) [] ∧ NB b (.slice Rt 0 rt)
theorem BoxAg.ext {b bx : Nat} {a : Int} {w w' : World} (h : BoxAg b bx a w) (he : Ext w w') : BoxAg b bx a w' := by
  obtain ⟨At, ct, Rt, rt, h1, h2, h3, h4, h5⟩ := h
  exact ⟨At, ct, Rt, rt, (he.block (lt_heap h1)).trans h1, h2.ext he, h3, h4.ext he, h5⟩
/-- What the slots of again's region hold. -/
def agSl (b bx : Nat) (lg a : Int) (f : List Nd) (t : Nat) (v : Value) (w : World) : Prop :=
  match t with
  | 0 => v = .int .i64 lg
  | 12 => v = .int .i64 lg
  | 1 => v = .int .i64 a
  | 19 => v = .int .i64 a
  | 25 => v = .int .i64 a
  | 6 => v = .pointer (some ⟨b, 0, none⟩)
  | 7 => v = .pointer (some ⟨bx, 0, none⟩) ∧ BoxAg b bx a w
  | 2 => FmlB b w v f
  | 13 => FmlB b w v f
  | 16 => FmlB b w v f
  | 20 => FmlB b w v f
  | 24 => FmlB b w v f
  | 26 => FmlB b w v f
  | 21 => FmlB b w v (knowN a f)
  | 27 => FmlB b w v (knowN a f)
  | 28 => FmlB b w v (impN f (knowN a f))
  | 17 => IntsB b w v [0]
  | 22 => IntsB b w v [1]
  | 29 => IntsB b w v [0]
  | 14 => LineV b w v (mkLn 1 1 f [])
  | 18 => LineV b w v (mkLn 2 17 f [0])
  | 23 => LineV b w v (mkLn 1 16 (knowN a f) [1])
  | 30 => LineV b w v (mkLn 0 8 (impN f (knowN a f)) [0])
  | 15 => LineV b w v (boxLn2 a)
  | 31 => LnsB b w v (againLs a f)
  | 32 => ∃ vl, v = .agg #[.int .i64 lg, vl] ∧ LnsB b w vl (againLs a f)
  | _ => True
theorem agSl_ext (b bx : Nat) (lg a : Int) (f : List Nd) (t : Nat) (v : Value) (w w' : World) (h : agSl b bx lg a f t v w) (he : Ext w w') : agSl b bx lg a f t v w' := by
  unfold agSl at h ⊢
  split at h <;> first
    | exact h
    | exact FmlB.ext h he
    | exact IntsB.ext h he
    | exact LineV.ext h he
    | exact LnsB.ext h he
    | exact ⟨h.1, h.2.ext he⟩
    | exact ⟨h.choose, h.choose_spec.1, h.choose_spec.2.ext he⟩
def agReads (i : Nat) : List Nat :=
  match i with
  | 0 => [0]
  | 1 => [2]
  | 2 => [13]
  | 3 => [7]
  | 4 => [2]
  | 6 => [16, 17]
  | 7 => [1]
  | 8 => [2]
  | 9 => [19, 20]
  | 11 => [21, 22]
  | 12 => [2]
  | 13 => [1]
  | 14 => [2]
  | 15 => [25, 26]
  | 16 => [24, 27]
  | 18 => [28, 29]
  | 19 => [14, 15, 18, 23, 30]
  | 20 => [12, 31]
  | _ => []
set_option maxRecDepth 100000 in
set_option maxHeartbeats 40000000 in
theorem again_any (lg a : Int) (ha : i64ok a) (v1 : Value) (f : List Nd) (w : World) (hf : Fml w v1 f) (h0 : 0 < f.length) :
    Calls Tryd.prog 25 #[.int .i64 lg, .int .i64 a, v1] w fun e w' => ∃ vl, e = .returned (.agg #[.int .i64 lg, vl]) ∧ Ext w w' ∧ Lns w' vl (againLs a f) := by
  have HF := Lib.hid (show FmlB w.heap.size w v1 f from ⟨hf, NB.of_lt hf h0 (Nat.le_refl _)⟩)
  obtain ⟨Af, cf, rfl, _⟩ := fml_slice hf
  clear hf
  go_enter Tryd.func25, Tryd.ntmps25
  go_wp2_with fail
  refine (true_any _).mono ?_
  rintro e w1 ⟨ut, rfl, hm⟩
  have hb1 : w1.heap[w.heap.size]? = some (.cells #[.int .i64 0, .slice none 0 0] 24 (0, 0)) := (hm.2.2.block (by simp)).trans (heap_alloc_new _ _)
  have HB1 := Lib.hid hb1
  have hl1 := lt_heap hb1
  have HX1 := Lib.hid (((Ext.refl w).alloc (.cells #[.int .i64 0, .slice none 0 0] 24)).trans hm.2.2)
  have HTR := Lib.hid (show FmlB w.heap.size w1 ut trueN from ⟨hm.fml, NB.of_row hm.1 (by simp)⟩)
  clear hm hb1
  go_wp2_with fail
  refine (line_call (b := w.heap.size) 2 2 HTR.out.1 (Ints.none_ _) HTR.out.2 (NB.nil _)).mono ?_
  rintro e w6 ⟨vb, rfl, hx6, hv⟩
  obtain ⟨At, ct, Rt, rt, rfl, p1, p2, p3, p4⟩ := hv
  have HP := Lib.hid (And.intro p1 (And.intro p2 (And.intro p3 p4)))
  have hl6 := Nat.lt_of_lt_of_le hl1 hx6.size
  have X16 := Lib.hid hx6
  clear hx6 p1 p2 p3 p4
  go_wp2_with fail
  generalize hW : World.alloc w6 _ = W
  have hW0 : Ext w6 W := by rw [← hW]; exact (Ext.refl _).alloc _
  have hbx : W.heap[w6.heap.size]? = some (.cells #[.int .i64 2, .int .i64 2, .slice At trueN.length ct, .int .i64 a, .slice Rt 0 rt] 45 (0, 0)) := by rw [← hW]; exact heap_alloc_new _ _
  have hbW : W.heap[w.heap.size]? = some (.cells #[.int .i64 0, .slice none 0 0] 24 (0, 0)) := ((X16.out.trans hW0).block hl1).trans HB1.out
  have hb : w.heap.size < W.heap.size := lt_heap hbW
  clear hW
  refine wp_region_each (Sl := agSl w.heap.size w6.heap.size lg a f) (pre := [0, 1, 2, 6, 7]) (reads := agReads) (N := 33) (by kernel_rfl) (by kernel_rfl) (agSl_ext _ _ _ _ _) (D := []) rfl rfl ?pre ?step ?last
  case pre =>
    have b0 : agSl w.heap.size w6.heap.size lg a f 2 (.slice Af f.length cf) W := HF.out.ext (HX1.out.trans (X16.out.trans hW0))
    have b6 : agSl w.heap.size w6.heap.size lg a f 7 (.pointer (some ⟨w6.heap.size, 0, none⟩)) W := ⟨rfl, At, ct, Rt, rt, hbx, HP.out.1.ext hW0, HP.out.2.2.1, HP.out.2.1.ext hW0, HP.out.2.2.2⟩
    intro t ht
    simp only [List.mem_cons, List.not_mem_nil, or_false] at ht
    rcases ht with rfl | rfl | rfl | rfl | rfl
    · exact (rfl : Value.int .i64 lg = .int .i64 lg)
    · exact (rfl : Value.int .i64 a = .int .i64 a)
    · exact b0
    · exact (rfl : Value.pointer (some ⟨w.heap.size, 0, none⟩) = .pointer (some ⟨w.heap.size, 0, none⟩))
    · exact b6
  case step =>
    clear HB1 HX1 HTR X16 HP hW0 hbx hbW HF
    intro i hi
    match i, hi with
    | 0, _ =>
      refine ⟨_, rfl, fun a' w hx hr K hK => ?_⟩
      obtain ⟨x, e, h⟩ := hr 0 (by simp [agReads])
      go_simp
      exact hK x w (Ext.refl _) (fun d hd => by cases hd; exact h)
    | 1, _ =>
      refine ⟨_, rfl, fun a' w hx hr K hK => ?_⟩
      obtain ⟨x, e, h⟩ := hr 2 (by simp [agReads])
      go_simp
      exact hK x w (Ext.refl _) (fun d hd => by cases hd; exact h)
    | 2, _ =>
      refine ⟨_, rfl, fun a' w hx hr K hK => ?_⟩
      obtain ⟨x1, e1, h1⟩ := hr 13 (by simp [agReads])
      go_simp
      refine (line_call (f := f) (l := []) 1 1 h1.1 (Ints.none_ _) h1.2 (NB.nil _)).mono ?_
      rintro e w' ⟨v, rfl, hx', hv⟩
      exact hK v w' hx' (fun d hd => by cases hd; exact hv)
    | 3, _ =>
      refine ⟨_, rfl, fun a' w hx hr K hK => ?_⟩
      obtain ⟨x, e, h⟩ := hr 7 (by simp [agReads])
      obtain ⟨rfl, At, ct, Rt, rt, h1, h2, h3, h4, h5⟩ := h
      obtain ⟨s0, s1, s2, s3, s4, slt⟩ := cells5' h1
      go_simp
      exact hK _ w (Ext.refl _) (fun d hd => by cases hd; exact ⟨At, ct, Rt, rt, rfl, h2, h4, h3, h5⟩)
    | 4, _ =>
      refine ⟨_, rfl, fun a' w hx hr K hK => ?_⟩
      obtain ⟨x, e, h⟩ := hr 2 (by simp [agReads])
      go_simp
      exact hK x w (Ext.refl _) (fun d hd => by cases hd; exact h)
    | 5, _ =>
      refine ⟨_, rfl, fun a' w hx hr K hK => ?_⟩
      go_simp
      exact hK _ _ ((Ext.refl _).alloc _) (fun d hd => by cases hd; exact ⟨ints_one w 0, nb_new (Nat.lt_of_lt_of_le hb hx.size)⟩)
    | 6, _ =>
      refine ⟨_, rfl, fun a' w hx hr K hK => ?_⟩
      obtain ⟨x1, e1, h1⟩ := hr 16 (by simp [agReads])
      obtain ⟨x2, e2, h2⟩ := hr 17 (by simp [agReads])
      go_simp
      refine (line_call (f := f) (l := [0]) 2 17 h1.1 h2.1 h1.2 h2.2).mono ?_
      rintro e w' ⟨v, rfl, hx', hv⟩
      exact hK v w' hx' (fun d hd => by cases hd; exact hv)
    | 7, _ =>
      refine ⟨_, rfl, fun a' w hx hr K hK => ?_⟩
      obtain ⟨x, e, h⟩ := hr 1 (by simp [agReads])
      go_simp
      exact hK x w (Ext.refl _) (fun d hd => by cases hd; exact h)
    | 8, _ =>
      refine ⟨_, rfl, fun a' w hx hr K hK => ?_⟩
      obtain ⟨x, e, h⟩ := hr 2 (by simp [agReads])
      go_simp
      exact hK x w (Ext.refl _) (fun d hd => by cases hd; exact h)
    | 9, _ =>
      refine ⟨_, rfl, fun a' w hx hr K hK => ?_⟩
      obtain ⟨x1, e1, h1⟩ := hr 19 (by simp [agReads])
      obtain ⟨x2, e2, h2⟩ := hr 20 (by simp [agReads])
      have h1' : x1 = .int .i64 a := h1
      subst h1'
      go_simp
      refine (know_any a ha x2 f _ h2.1).mono ?_
      rintro e w' ⟨v, rfl, hm⟩
      exact hK v w' hm.2.2 (fun d hd => by cases hd; exact ⟨hm.fml, NB.of_row hm.1 (Nat.lt_of_lt_of_le hb hx.size)⟩)
    | 10, _ =>
      refine ⟨_, rfl, fun a' w hx hr K hK => ?_⟩
      go_simp
      exact hK _ _ ((Ext.refl _).alloc _) (fun d hd => by cases hd; exact ⟨ints_one w 1, nb_new (Nat.lt_of_lt_of_le hb hx.size)⟩)
    | 11, _ =>
      refine ⟨_, rfl, fun a' w hx hr K hK => ?_⟩
      obtain ⟨x1, e1, h1⟩ := hr 21 (by simp [agReads])
      obtain ⟨x2, e2, h2⟩ := hr 22 (by simp [agReads])
      go_simp
      refine (line_call (f := (knowN a f)) (l := [1]) 1 16 h1.1 h2.1 h1.2 h2.2).mono ?_
      rintro e w' ⟨v, rfl, hx', hv⟩
      exact hK v w' hx' (fun d hd => by cases hd; exact hv)
    | 12, _ =>
      refine ⟨_, rfl, fun a' w hx hr K hK => ?_⟩
      obtain ⟨x, e, h⟩ := hr 2 (by simp [agReads])
      go_simp
      exact hK x w (Ext.refl _) (fun d hd => by cases hd; exact h)
    | 13, _ =>
      refine ⟨_, rfl, fun a' w hx hr K hK => ?_⟩
      obtain ⟨x, e, h⟩ := hr 1 (by simp [agReads])
      go_simp
      exact hK x w (Ext.refl _) (fun d hd => by cases hd; exact h)
    | 14, _ =>
      refine ⟨_, rfl, fun a' w hx hr K hK => ?_⟩
      obtain ⟨x, e, h⟩ := hr 2 (by simp [agReads])
      go_simp
      exact hK x w (Ext.refl _) (fun d hd => by cases hd; exact h)
    | 15, _ =>
      refine ⟨_, rfl, fun a' w hx hr K hK => ?_⟩
      obtain ⟨x1, e1, h1⟩ := hr 25 (by simp [agReads])
      obtain ⟨x2, e2, h2⟩ := hr 26 (by simp [agReads])
      have h1' : x1 = .int .i64 a := h1
      subst h1'
      go_simp
      refine (know_any a ha x2 f _ h2.1).mono ?_
      rintro e w' ⟨v, rfl, hm⟩
      exact hK v w' hm.2.2 (fun d hd => by cases hd; exact ⟨hm.fml, NB.of_row hm.1 (Nat.lt_of_lt_of_le hb hx.size)⟩)
    | 16, _ =>
      refine ⟨_, rfl, fun a' w hx hr K hK => ?_⟩
      obtain ⟨x1, e1, h1⟩ := hr 24 (by simp [agReads])
      obtain ⟨x2, e2, h2⟩ := hr 27 (by simp [agReads])
      go_simp
      refine (imp_any x1 x2 f (knowN a f) _ h1.1 h2.1).mono ?_
      rintro e w' ⟨v, rfl, hm⟩
      exact hK v w' hm.2.2 (fun d hd => by cases hd; exact ⟨hm.fml, NB.of_row hm.1 (Nat.lt_of_lt_of_le hb hx.size)⟩)
    | 17, _ =>
      refine ⟨_, rfl, fun a' w hx hr K hK => ?_⟩
      go_simp
      exact hK _ _ ((Ext.refl _).alloc _) (fun d hd => by cases hd; exact ⟨ints_one w 0, nb_new (Nat.lt_of_lt_of_le hb hx.size)⟩)
    | 18, _ =>
      refine ⟨_, rfl, fun a' w hx hr K hK => ?_⟩
      obtain ⟨x1, e1, h1⟩ := hr 28 (by simp [agReads])
      obtain ⟨x2, e2, h2⟩ := hr 29 (by simp [agReads])
      go_simp
      refine (line_call (f := (impN f (knowN a f))) (l := [0]) 0 8 h1.1 h2.1 h1.2 h2.2).mono ?_
      rintro e w' ⟨v, rfl, hx', hv⟩
      exact hK v w' hx' (fun d hd => by cases hd; exact hv)
    | 19, _ =>
      refine ⟨_, rfl, fun a' w hx hr K hK => ?_⟩
      obtain ⟨x0, e0, A0, c0, R0, r0, y0, p0, q0, m0, n0⟩ := hr 14 (by simp [agReads])
      subst y0
      obtain ⟨x1, e1, A1, c1, R1, r1, y1, p1, q1, m1, n1⟩ := hr 15 (by simp [agReads])
      subst y1
      obtain ⟨x2, e2, A2, c2, R2, r2, y2, p2, q2, m2, n2⟩ := hr 18 (by simp [agReads])
      subst y2
      obtain ⟨x3, e3, A3, c3, R3, r3, y3, p3, q3, m3, n3⟩ := hr 23 (by simp [agReads])
      subst y3
      obtain ⟨x4, e4, A4, c4, R4, r4, y4, p4, q4, m4, n4⟩ := hr 30 (by simp [agReads])
      subst y4
      have HL := lnsB_new  (w := w) (T := 45) (ns := againLs a f) (by simp [againLs]) (Nat.lt_of_lt_of_le hb hx.size) (LineCells.cons (n := mkLn 1 1 f []) p0 q0 m0 n0 (LineCells.cons (n := boxLn2 a) p1 q1 m1 n1 (LineCells.cons (n := mkLn 2 17 f [0]) p2 q2 m2 n2 (LineCells.cons (n := mkLn 1 16 (knowN a f) [1]) p3 q3 m3 n3 (LineCells.cons (n := mkLn 0 8 (impN f (knowN a f)) [0]) p4 q4 m4 n4 (LineCells.nil))))))
      clear p0 q0 m0 n0
      go_simp
      exact hK _ _ ((Ext.refl _).alloc _) (fun d hd => by cases hd; exact HL)
    | 20, _ =>
      refine ⟨_, rfl, fun a' w hx hr K hK => ?_⟩
      obtain ⟨x1, e1, h1⟩ := hr 12 (by simp [agReads])
      obtain ⟨x2, e2, h2⟩ := hr 31 (by simp [agReads])
      obtain ⟨gg, cc, hs, hrest⟩ := h2
      have hv : x1 = .int .i64 lg := h1
      subst hv
      subst hs
      go_simp
      exact hK _ w (Ext.refl _) (fun d hd => by cases hd; exact ⟨_, rfl, gg, cc, rfl, hrest⟩)
    | i + 21, hi => exact absurd (show i + 22 < 22 from hi) (by omega)
  case last =>
    refine ⟨_, rfl, fun a' w7 hx hn hdf hp hd K hK => ?_⟩
    obtain ⟨x8, e8, h8⟩ := hp 6 (by simp)
    obtain ⟨x61, e61, h61⟩ := hd 20 _ 32 rfl (by decide) rfl
    obtain ⟨vl, hv, hl⟩ := h61
    subst hv
    have h8' : x8 = .pointer (some ⟨w.heap.size, 0, none⟩) := h8
    subst h8'
    have hb7 := (hx.block hb).trans hbW
    obtain ⟨z0, z1, zfr, zlt⟩ := cells2 hb7
    have zf0 := zfr 0
    have zf1 := zfr 1
    have HD := Lib.hid (proof_done0 (lg := lg) (Nat.le_refl w.heap.size) (HX1.out.trans (X16.out.trans (hW0.trans hx))) hb7 hl)
    obtain ⟨gl, cl, hvl, _⟩ := hl
    subst hvl
    clear zfr hp hd hb7 hn
    have e8' : a'.tmps.getD 6 undef = .pointer (some ⟨w.heap.size, 0, none⟩) := by rw [Array.getD_eq_getD_getElem?]; exact e8
    go_simp
    refine hK _ _ ?_
    go_wp2_with fail
    (try simp only [Exit.inBlock, Exit.then])
    refine bodyPost_ret (results_cell Tryd.results25 _ _ e8' HD.out.1 Tryd.underlying24 rfl (by kernel_rfl)) hdf ?_
    exact ⟨_, rfl, HD.out.2.1, HD.out.2.2⟩
end Go.Proofs.YtipnbfbakohcaaaDoor

/- The plain law of NaturalAxioms: the axioms' proofs are accepted exactly in the logics with their rules. -/

namespace Go.Proofs.YtipnbfbakohcaaaDoor

/-- All nodes of a tree. -/
def Tr.all (P : Nd → Prop) : Tr → Prop
  | .leaf n => P n
  | .one n a => P n ∧ a.all P
  | .two n a b => P n ∧ a.all P ∧ b.all P
theorem ins_all {P : Nd → Prop} (hP : ∀ n k1 k2, P n → P (n.with_ k1 k2)) : ∀ (t : Tr) (o : List Nd), t.all P → (∀ n ∈ o, P n) → ∀ n ∈ (ins t o).1, P n
  | .leaf n, o, ht, ho, m, hm => by
    change m ∈ addN o n at hm
    unfold addN at hm
    split at hm
    · exact ho m hm
    · rcases List.mem_append.1 hm with h | h
      · exact ho m h
      · simp at h; subst h; exact ht
  | .one n a, o, ht, ho, m, hm => by
    change m ∈ addN (ins a o).1 _ at hm
    have ha := ins_all hP a o ht.2 ho
    unfold addN at hm
    split at hm
    · exact ha m hm
    · rcases List.mem_append.1 hm with h | h
      · exact ha m h
      · simp at h; subst h; exact hP _ _ _ ht.1
  | .two n a b, o, ht, ho, m, hm => by
    change m ∈ addN (ins b (ins a o).1).1 _ at hm
    have ha := ins_all hP b _ ht.2.2 (ins_all hP a o ht.2.1 ho)
    unfold addN at hm
    split at hm
    · exact ha m hm
    · rcases List.mem_append.1 hm with h | h
      · exact ha m h
      · simp at h; subst h; exact hP _ _ _ ht.1
theorem tr_all {P : Nd → Prop} (hP : ∀ n k1 k2, P n → P (n.with_ k1 k2)) {f : List Nd} (hf : Wf f) (hn : ∀ n ∈ f, P n) : ∀ i, i < f.length → (tr f i).all P := by
  intro i
  induction i using Nat.strongRecOn with
  | _ i ih =>
    intro hi
    obtain ⟨n, hi'⟩ : ∃ n, f[i]? = some n := ⟨_, List.getElem?_eq_getElem hi⟩
    obtain ⟨hx, hy⟩ := hf i n hi'
    have hp := hn n (List.mem_of_getElem? hi')
    rw [tr_eq hf hi']
    unfold mkTr
    cases h2 : hasY n.op
    · cases h1 : hasX n.op
      · exact hp
      · have := hx h1
        exact ⟨hP _ _ _ hp, ih _ (by omega) (by omega)⟩
    · have h1 := hasX_of_hasY h2
      have := hx h1
      have := hy h2
      exact ⟨hP _ _ _ hp, ih _ (by omega) (by omega), ih _ (by omega) (by omega)⟩
/-- A node of the fragment of knowledge alone. -/
def Pn (n : Nd) : Prop := headOk n ∧ fragOf n.op < 2
theorem Pn.with_ (n : Nd) (k1 k2 : Nat) (h : Pn n) : Pn (n.with_ k1 k2) := ⟨h.1.with_ k1 k2, h.2⟩
theorem fragOf_nonneg (op : Int) : 0 ≤ fragOf op := by
  unfold fragOf
  repeat' split
  all_goals omega
theorem mask_lt {l : List Nd} (h : ∀ n ∈ l, fragOf n.op < 2) : fragMask l < 2 := by
  have key : ∀ (l : List Nd) (m : Nat), m < 2 → (∀ n ∈ l, fragOf n.op < 2) → l.foldl (fun m n => m ||| (fragOf n.op).toNat) m < 2 := by
    intro l
    induction l with
    | nil => intro m h _; exact h
    | cons a r ih =>
      intro m hm ha
      refine ih _ ?_ (fun n hn => ha n (List.mem_cons_of_mem _ hn))
      have h1 := ha a (List.mem_cons_self ..)
      have h0 := fragOf_nonneg a.op
      exact Nat.or_lt_two_pow (n := 1) hm (by omega)
  exact key l 0 (by decide) h
theorem mask_of_lt {l : List Nd} (h : fragMask l < 2) : ∀ n ∈ l, fragOf n.op < 2 := by
  have key : ∀ (l : List Nd) (m : Nat), l.foldl (fun m n => m ||| (fragOf n.op).toNat) m < 2 → m < 2 ∧ ∀ n ∈ l, fragOf n.op < 2 := by
    intro l
    induction l with
    | nil => intro m h; exact ⟨h, fun n hn => by cases hn⟩
    | cons a r ih =>
      intro m h
      obtain ⟨h1, h2⟩ := ih _ h
      have l1 : m ≤ m ||| (fragOf a.op).toNat := Nat.left_le_or
      have l2 : (fragOf a.op).toNat ≤ m ||| (fragOf a.op).toNat := Nat.right_le_or
      have h0 := fragOf_nonneg a.op
      refine ⟨Nat.lt_of_le_of_lt l1 h1, fun n hn => ?_⟩
      rcases List.mem_cons.1 hn with rfl | hn
      · have := Nat.lt_of_le_of_lt l2 h1
        omega
      · exact h2 n hn
  exact (key l 0 h).2
/-- A formula of a tree, small. -/
structure Fo (N : Nat) (t : Tr) (f : List Nd) : Prop where
  ck : check f = 0
  len : f.length ≤ N
  tree : treeOf f = t
  all : t.all Pn
theorem Fo.ok {N : Nat} {t : Tr} {f : List Nd} (h : Fo N t f) : t.ok := h.tree ▸ treeOf_ok h.ck
theorem Fo.comp {N : Nat} {t : Tr} {f : List Nd} (h : Fo N t f) : compactN f = canon t := by rw [compactN_tree h.ck, h.tree]
theorem Fo.clen {N : Nat} {t : Tr} {f : List Nd} (h : Fo N t f) : (canon t).length ≤ N := by
  rw [← h.comp]
  exact Nat.le_trans (compactN_props h.ck).2.1 h.len
theorem Fo.frags {N : Nat} {t : Tr} {f : List Nd} (h : Fo N t f) : decide (2 ≤ fragsN f) = false := by
  have : fragsN f < 2 := by
    unfold fragsN
    rw [h.comp]
    exact mask_lt fun n hn => (ins_all Pn.with_ t [] h.all (fun n hn => by cases hn) n hn).2
  simp
  omega
theorem fo_of {f : List Nd} {N : Nat} (h : check f = 0) (hl : f.length ≤ N) (hg : fragsN f < 2) : Fo N (treeOf f) f := by
  refine ⟨h, hl, rfl, ?_⟩
  obtain ⟨cw, cl, cp, ch⟩ := compactN_props h
  rw [← treeOf_compact h]
  have hm := mask_of_lt hg
  exact tr_all Pn.with_ cw (fun n hn => ⟨ch n hn, hm n hn⟩) _ (by omega)
theorem fo_canon {t : Tr} {N : Nat} (ht : t.ok) (ha : t.all Pn) (hl : (canon t).length ≤ N) (hN : N ≤ 200) : Fo N t (canon t) := by
  have hp := canon_pos ht
  exact ⟨check_of (by intro e; rw [e] at hp; simp at hp) (by omega) (canon_wf ht) (fun n hn => (ins_all Pn.with_ t [] ha (fun n hn => by cases hn) n hn).1), hl, treeOf_canon ht, ha⟩
theorem ins_len {b : Tr} (hb : b.ok) (o : List Nd) : (ins b o).1.length ≤ o.length + (canon b).length := by
  have hw := canon_wf hb
  have hp := canon_pos hb
  have e : tr (canon b) ((canon b).length - 1) = b := treeOf_canon hb
  have h := finN_ins hw ((canon b).length - 1) o (by omega)
  rw [e] at h
  rw [← h]
  have h1 := length_le_pot (canon b) (finN (canon b) ((canon b).length - 1) o).1
  have h2 := pot_le hw ((canon b).length - 1) o (by omega)
  have h3 : pot (canon b) o ≤ o.length + (canon b).length := by
    unfold pot
    have := List.countP_le_length (p := fun j => (finN (canon b) j o).1.length != o.length) (l := List.range (canon b).length)
    rw [List.length_range] at this
    omega
  omega
theorem addN_len (o : List Nd) (m : Nd) : (addN o m).length ≤ o.length + 1 := by
  unfold addN
  split
  · omega
  · simp
theorem build_one' {n : Nd} {f : List Nd} {N : Nat} {t : Tr} (hf : Fo N t f) (h1 : hasX n.op = true) (h2 : hasY n.op = false) (hp : Pn n) (hn : n.head = n) (hl : N < 200) : buildN n [f] = canon (.one n t) := by
  rw [build_one hf.ck h1 h2 hp.1 (Nat.lt_of_le_of_lt hf.len hl), hn, hf.tree]
theorem build_two' {n : Nd} {f g : List Nd} {N M : Nat} {s t : Tr} (hf : Fo N s f) (hg : Fo M t g) (h1 : hasX n.op = true) (h2 : hasY n.op = true) (hp : Pn n) (hn : n.head = n) (hl : N + M < 200) : buildN n [f, g] = canon (.two n s t) := by
  rw [build_two hf.ck hg.ck h1 h2 hp.1 (by have := hf.len; have := hg.len; omega), hn, hf.tree, hg.tree]
theorem fo_one {n : Nd} {f : List Nd} {N : Nat} {t : Tr} (hf : Fo N t f) (h1 : hasX n.op = true) (h2 : hasY n.op = false) (hp : Pn n) (hn : n.head = n) (hl : N < 200) : Fo (N + 1) (.one n t) (canon (.one n t)) :=
  fo_canon ⟨h1, h2, hn, hf.ok⟩ ⟨hp, hf.all⟩ (by
    have := addN_len (ins t []).1 (n.with_ (ins t []).2 0)
    have e : canon (.one n t) = addN (ins t []).1 (n.with_ (ins t []).2 0) := rfl
    rw [e]
    have := hf.clen
    unfold canon at this
    omega) (by omega)
theorem fo_two {n : Nd} {f g : List Nd} {N M : Nat} {s t : Tr} (hf : Fo N s f) (hg : Fo M t g) (h1 : hasX n.op = true) (h2 : hasY n.op = true) (hp : Pn n) (hn : n.head = n) (hl : N + M < 200) : Fo (N + M + 1) (.two n s t) (canon (.two n s t)) :=
  fo_canon ⟨h1, h2, hn, hf.ok, hg.ok⟩ ⟨hp, hf.all, hg.all⟩ (by
    have e : canon (.two n s t) = addN (ins t (ins s []).1).1 (n.with_ (ins s []).2 (ins t (ins s []).1).2) := rfl
    rw [e]
    have h3 := addN_len (ins t (ins s []).1).1 (n.with_ (ins s []).2 (ins t (ins s []).1).2)
    have h4 := ins_len hg.ok (ins s []).1
    have h5 := hf.clen
    have h6 := hg.clen
    unfold canon at h5 h6
    unfold canon at h4
    omega) (by omega)
/-- The last node of a formula and what stands below it. -/
theorem last_tree {f : List Nd} (h : check f = 0) : treeOf f = mkTr (lastN f) (tr f (lastN f).x.toNat) (tr f (lastN f).y.toNat) :=
  tr_eq (check_wf h) (lastN_get (check_parts h).1)
theorem mk_one {m n : Nd} {a b c : Tr} (h : mkTr m a b = .one n c) : hasX m.op = true ∧ m.op = n.op ∧ m.i = n.i ∧ a = c := by
  unfold mkTr at h
  cases h2 : hasY m.op
  · cases h1 : hasX m.op
    · rw [h2, h1] at h; cases h
    · rw [h2, h1] at h
      simp only [cond_false, cond_true, Tr.one.injEq] at h
      exact ⟨rfl, by rw [← h.1]; rfl, by rw [← h.1]; rfl, h.2⟩
  · rw [h2] at h; cases h
theorem last_one {f : List Nd} {n : Nd} {c : Tr} (h : check f = 0) (ht : treeOf f = .one n c) :
    (lastN f).op = n.op ∧ (lastN f).i = n.i ∧ tr f (lastN f).x.toNat = c ∧ subN f (lastN f).x = canon c ∧ (lastN f).x.toNat < f.length := by
  have e := last_tree h
  rw [ht] at e
  obtain ⟨h1, h2, h3, h4⟩ := mk_one e.symm
  have hw := (check_wf h _ _ (lastN_get (check_parts h).1)).1 h1
  have hx : (lastN f).x.toNat < f.length := by omega
  refine ⟨h2, h3, h4, ?_, hx⟩
  have e2 := subN_tree h hx
  rw [show (((lastN f).x.toNat : Nat) : Int) = (lastN f).x by omega] at e2
  rw [e2, h4]
theorem top_at {f : List Nd} {n : Nd} {c : Tr} {i : Nat} (hf : Wf f) (hi : i < f.length) (ht : tr f i = .one n c) : (f.getD i Nd.zero).op = n.op ∧ (f.getD i Nd.zero).i = n.i := by
  have hn : f[i]? = some f[i] := List.getElem?_eq_getElem hi
  have e := tr_eq hf hn
  rw [ht] at e
  obtain ⟨_, h2, h3, _⟩ := mk_one e.symm
  rw [getD_of hn]
  exact ⟨h2, h3⟩
theorem eqN_self {t : Tr} (ht : t.ok) : eqN (canon t) (canon t) = true := by
  unfold eqN
  rw [decide_eq_true (canon_pos ht), decide_eq_true rfl]
  rfl
theorem eqN_ne {s t : Tr} (hs : s.ok) (ht : t.ok) (h : s ≠ t) : eqN (canon s) (canon t) = false := by
  unfold eqN
  rw [decide_eq_false (p := canon s = canon t) (fun e => h (canon_inj hs ht e)), Bool.and_false]
theorem one_ne {n : Nd} {t : Tr} : t ≠ .one n t := fun e => by
  have := congrArg Tr.size e
  simp [Tr.size] at this

theorem chk_ok {lg : Int} {ls r : List Ln} {n : Ln} {fs : List (List Nd)} {st : List (List Int)} {i N : Nat} {t : Tr} (s : List Int) (hf : Fo N t n.f) (hp : pushL st n = some s) (ha : 0 ≤ n.agent ∧ n.agent < 4) (hfol : followsL lg ls (fs ++ [canon t]) (st ++ [s]) i n (canon t) = true) :
    chkGo lg ls (n :: r) fs st i = chkGo lg ls r (fs ++ [canon t]) (st ++ [s]) (i + 1) := by
  have h1 : (check n.f != 0) = false := by rw [hf.ck]; rfl
  rw [chkGo_good h1 hf.frags hp (by omega) (by omega), hf.comp, hfol]
  rfl
theorem chk_no {lg : Int} {ls r : List Ln} {n : Ln} {fs : List (List Nd)} {st : List (List Int)} {i N : Nat} {t : Tr} (s : List Int) (hf : Fo N t n.f) (hp : pushL st n = some s) (ha : 0 ≤ n.agent ∧ n.agent < 4) (hfol : followsL lg ls (fs ++ [canon t]) (st ++ [s]) i n (canon t) = false) :
    chkGo lg ls (n :: r) fs st i = ((i : Int), 13) := by
  have h1 : (check n.f != 0) = false := by rw [hf.ck]; rfl
  rw [chkGo_good h1 hf.frags hp (by omega) (by omega), hf.comp, hfol]
  rfl
theorem proves_yes {lg : Int} {ls : List Ln} {n : Ln} (h : (natCheck lg ls).2 = 0) (hl : lastLn ls = n) (hd : n.depth = 0) (hc : check n.f = 0) : provesL lg ls n.f = true := by
  have e : natTheorem lg ls = (compactN n.f, 0) := by
    unfold natTheorem
    rw [h, hl, hd]
    rfl
  unfold provesL
  rw [e]
  have : sameN n.f (compactN n.f) = true := sameN_tree.2 ⟨hc, compactN_check hc, (treeOf_compact hc).symm⟩
  rw [this]
  rfl
theorem proves_no {lg : Int} {ls : List Ln} {f : List Nd} (h : (natCheck lg ls).2 ≠ 0) : provesL lg ls f = false := by
  have h' : ((natCheck lg ls).2 != 0) = true := by simpa using h
  have e : natTheorem lg ls = ([], (natCheck lg ls).2) := by
    unfold natTheorem
    rw [h']
    rfl
  unfold provesL
  rw [e]
  have : ((natCheck lg ls).2 == 0) = false := by simpa using h
  rw [this]
  rfl
theorem fol_rule {lg : Int} {ls : List Ln} {fs : List (List Nd)} {st : List (List Int)} {i : Nat} {n : Ln} {fi : List Nd} (k : Nat) (hr : n.rule = (k : Int) + 3) (hk : k < 18) (ha : n.agent = 0) : followsL lg ls fs st i n fi = ruleL k lg ls fs st i n fi := by
  unfold followsL
  have h1 : (n.rule == 2) = false := by rw [hr]; simp; omega
  have h2 : (n.agent != 0) = false := by rw [ha]; rfl
  have h3 : (n.rule == 1) = false := by rw [hr]; simp; omega
  rw [h1, h2, h3]
  exact folTab_at hr hk
theorem ag0 : (0 : Int) ≤ 0 ∧ (0 : Int) < 4 := by decide
theorem fol_asm {lg : Int} {ls : List Ln} {fs : List (List Nd)} {st : List (List Int)} {i : Nat} {d : Int} {f fi : List Nd} : followsL lg ls fs st i (mkLn d 1 f []) fi = true := rfl
section
variable {lg : Int} {ls : List Ln} {fs : List (List Nd)} {st : List (List Int)} {i : Nat} {d : Int} {f fi : List Nd} {l : List Int}
theorem fol8 : followsL lg ls fs st i (mkLn d 8 f l) fi = impInL lg ls fs st i (mkLn d 8 f l) fi := fol_rule 5 rfl (by decide) rfl
theorem fol9 : followsL lg ls fs st i (mkLn d 9 f l) fi = impOutL lg ls fs st i (mkLn d 9 f l) fi := fol_rule 6 rfl (by decide) rfl
theorem fol16 : followsL lg ls fs st i (mkLn d 16 f l) fi = knowInL lg ls fs st i (mkLn d 16 f l) fi := fol_rule 13 rfl (by decide) rfl
theorem fol17 : followsL lg ls fs st i (mkLn d 17 f l) fi = importedL lg ls fs st i (mkLn d 17 f l) fi := fol_rule 14 rfl (by decide) rfl
theorem fol18 : followsL lg ls fs st i (mkLn d 18 f l) fi = knowTL lg ls fs st i (mkLn d 18 f l) fi := fol_rule 15 rfl (by decide) rfl
theorem fol20 : followsL lg ls fs st i (mkLn d 20 f l) fi = serialL lg ls fs st i (mkLn d 20 f l) fi := fol_rule 17 rfl (by decide) rfl
end

/-! The four proofs. -/
def knD (a : Int) : Nd := ⟨9, a, 0, 0, 0, 0⟩
def poD (a : Int) : Nd := ⟨10, a, 0, 0, 0, 0⟩
def imD : Nd := ⟨7, 0, 0, 0, 0, 0⟩
def noD : Nd := ⟨4, 0, 0, 0, 0, 0⟩
theorem ag_cases {a : Int} (h : 0 ≤ a ∧ a < 4) : a = 0 ∨ a = 1 ∨ a = 2 ∨ a = 3 := by omega
theorem knD_ok {a : Int} (h : 0 ≤ a ∧ a < 4) : Pn (knD a) := by
  rcases ag_cases h with rfl | rfl | rfl | rfl <;> exact ⟨⟨rfl, rfl, rfl, fun h => rfl, fun h => rfl⟩, by decide⟩
theorem poD_ok {a : Int} (h : 0 ≤ a ∧ a < 4) : Pn (poD a) := by
  rcases ag_cases h with rfl | rfl | rfl | rfl <;> exact ⟨⟨rfl, rfl, rfl, fun h => rfl, fun h => rfl⟩, by decide⟩
theorem imD_ok : Pn imD := ⟨⟨rfl, rfl, rfl, fun h => rfl, fun h => rfl⟩, by decide⟩
theorem noD_ok : Pn noD := ⟨⟨rfl, rfl, rfl, fun h => rfl, fun h => rfl⟩, by decide⟩
section
variable {a : Int} {f g : List Nd} {N M : Nat} {s t : Tr}
theorem know_fo (ha : 0 ≤ a ∧ a < 4) (hf : Fo N t f) (hl : N < 199) : knowN a f = canon (.one (knD a) t) ∧ Fo (N + 1) (.one (knD a) t) (canon (.one (knD a) t)) :=
  ⟨build_one' hf rfl rfl (knD_ok ha) rfl (by omega), fo_one hf rfl rfl (knD_ok ha) rfl (by omega)⟩
theorem poss_fo (ha : 0 ≤ a ∧ a < 4) (hf : Fo N t f) (hl : N < 199) : possN a f = canon (.one (poD a) t) ∧ Fo (N + 1) (.one (poD a) t) (canon (.one (poD a) t)) :=
  ⟨build_one' hf rfl rfl (poD_ok ha) rfl (by omega), fo_one hf rfl rfl (poD_ok ha) rfl (by omega)⟩
theorem not_fo (hf : Fo N t f) (hl : N < 199) : notN f = canon (.one noD t) ∧ Fo (N + 1) (.one noD t) (canon (.one noD t)) :=
  ⟨build_one' hf rfl rfl noD_ok rfl (by omega), fo_one hf rfl rfl noD_ok rfl (by omega)⟩
theorem imp_fo (hf : Fo N s f) (hg : Fo M t g) (hl : N + M < 199) : impN f g = canon (.two imD s t) ∧ Fo (N + M + 1) (.two imD s t) (canon (.two imD s t)) :=
  ⟨build_two' hf hg rfl rfl imD_ok rfl (by omega), fo_two hf hg rfl rfl imD_ok rfl (by omega)⟩
theorem Fo.can (h : Fo N t f) (hN : N ≤ 200) : Fo N t (canon t) := fo_canon h.ok h.all h.clen hN
end
theorem natCheck_run {lg : Int} {ls : List Ln} (h0 : 0 ≤ lg) (h6 : lg ≤ 6) (hl : ls.length ≤ 400) (hp : 0 < ls.length) : natCheck lg ls = chkGo lg ls ls [] [] 0 := natCheck_go h0 h6 hl hp

set_option maxRecDepth 10000 in
theorem truth_law {lg a : Int} {f : List Nd} {t : Tr} (h0 : 0 ≤ lg) (h6 : lg ≤ 6) (ha : 0 ≤ a ∧ a < 4) (hf : Fo 10 t f) : provesL lg (truthLs a f) (impN (knowN a f) f) = inL [2, 4, 6] lg := by
  obtain ⟨ek, fk⟩ := know_fo ha hf (by omega)
  obtain ⟨ei, fi⟩ := imp_fo fk hf (by omega)
  have hls : truthLs a f = [mkLn 1 1 (canon (.one (knD a) t)) [], mkLn 1 18 f [0], mkLn 0 8 (canon (.two imD (.one (knD a) t) t)) [0]] := by
    unfold truthLs
    rw [ek, ei]
  rw [ek, ei, hls]
  have s0 := chk_ok (lg := lg) (ls := [mkLn 1 1 (canon (.one (knD a) t)) [], mkLn 1 18 f [0], mkLn 0 8 (canon (.two imD (.one (knD a) t) t)) [0]]) (r := [mkLn 1 18 f [0], mkLn 0 8 (canon (.two imD (.one (knD a) t) t)) [0]]) (n := mkLn 1 1 (canon (.one (knD a) t)) []) (fs := []) (st := []) (i := 0) [0] fk rfl ag0 fol_asm
  obtain ⟨p1, p2, p3, p4, p5⟩ := last_one fk.ck fk.tree
  have e1 : followsL lg [mkLn 1 1 (canon (.one (knD a) t)) [], mkLn 1 18 f [0], mkLn 0 8 (canon (.two imD (.one (knD a) t) t)) [0]] ([canon (.one (knD a) t)] ++ [canon t]) ([[0]] ++ [[0]]) 1 (mkLn 1 18 f [0]) (canon t) = inL [2, 4, 6] lg := by
    rw [fol18]
    unfold knowTL
    have eo : oneL [mkLn 1 1 (canon (.one (knD a) t)) [], mkLn 1 18 f [0], mkLn 0 8 (canon (.two imD (.one (knD a) t) t)) [0]] ([canon (.one (knD a) t)] ++ [canon t]) ([[0]] ++ [[0]]) 1 (mkLn 1 18 f [0]) = some (canon (.one (knD a) t)) := rfl
    rw [eo]
    have ep : partL (canon (.one (knD a) t)) 9 = some (canon t, subN (canon (.one (knD a) t)) (lastN (canon (.one (knD a) t))).y) := by
      unfold partL
      rw [p1, p4]
      rfl
    cases hh : inL [2, 4, 6] lg
    · rfl
    · simp only [ep, cond_true]
      exact eqN_self hf.ok
  cases hh : inL [2, 4, 6] lg
  · refine proves_no ?_
    rw [natCheck_run h0 h6 (by simp) (by simp), s0]
    have := chk_no (lg := lg) (r := [mkLn 0 8 (canon (.two imD (.one (knD a) t) t)) [0]]) (i := 0 + 1) [0] hf rfl ag0 (e1.trans hh)
    rw [show ([] : List (List Nd)) ++ [canon (.one (knD a) t)] = [canon (.one (knD a) t)] from rfl, show ([] : List (List Int)) ++ [[0]] = [[0]] from rfl]
    rw [this]
    decide
  · refine proves_yes (n := mkLn 0 8 (canon (.two imD (.one (knD a) t) t)) [0]) ?_ rfl rfl fi.ck
    rw [natCheck_run h0 h6 (by simp) (by simp), s0]
    have s1 := chk_ok (lg := lg) (r := [mkLn 0 8 (canon (.two imD (.one (knD a) t) t)) [0]]) (i := 0 + 1) [0] hf rfl ag0 (e1.trans hh)
    rw [show ([] : List (List Nd)) ++ [canon (.one (knD a) t)] = [canon (.one (knD a) t)] from rfl, show ([] : List (List Int)) ++ [[0]] = [[0]] from rfl]
    rw [s1]
    have s2 := chk_ok (lg := lg) (ls := [mkLn 1 1 (canon (.one (knD a) t)) [], mkLn 1 18 f [0], mkLn 0 8 (canon (.two imD (.one (knD a) t) t)) [0]]) (r := []) (n := mkLn 0 8 (canon (.two imD (.one (knD a) t) t)) [0]) (fs := [canon (.one (knD a) t)] ++ [canon t]) (st := [[0]] ++ [[0]]) (i := 2) [] fi rfl ag0 (by
      rw [fol8]
      show eqN (impN (canon (.one (knD a) t)) (canon t)) _ = true
      rw [(imp_fo fk (hf.can (by omega)) (by omega)).1]
      exact eqN_self fi.ok)
    rw [s2]
    rfl
end Go.Proofs.YtipnbfbakohcaaaDoor

/- The plain law of NaturalAxioms: serial, again, axiom. -/

namespace Go.Proofs.YtipnbfbakohcaaaDoor

theorem one_at {ls : List Ln} {fs : List (List Nd)} {st : List (List Int)} {i : Nat} {n : Ln} {c : List Nd} {lg : Int} {fi : List Nd} (h : oneL ls fs st i n = some c) : serialL lg ls fs st i n fi = (bif inL [1, 5] lg then (lastN c).op == 9 && eqN (possN (lastN c).i (subN c (lastN c).x)) fi else false) := by
  unfold serialL
  rw [h]
theorem nil_app {α : Type} (x : α) : ([] : List α) ++ [x] = [x] := rfl
theorem serial_law {lg a : Int} {f : List Nd} {t : Tr} (h0 : 0 ≤ lg) (h6 : lg ≤ 6) (ha : 0 ≤ a ∧ a < 4) (hf : Fo 10 t f) : provesL lg (serialLs a f) (impN (knowN a f) (possN a f)) = inL [1, 5] lg := by
  obtain ⟨ek, fk⟩ := know_fo ha hf (by omega)
  obtain ⟨ep, fp⟩ := poss_fo ha hf (by omega)
  obtain ⟨ei, fi⟩ := imp_fo fk fp (by omega)
  obtain ⟨p1, p2, p3, p4, p5⟩ := last_one fk.ck fk.tree
  unfold serialLs
  rw [ek, ep, ei]
  generalize hls : [mkLn 1 1 (canon (.one (knD a) t)) [], mkLn 1 20 (canon (.one (poD a) t)) [0], mkLn 0 8 (canon (.two imD (.one (knD a) t) (.one (poD a) t))) [0]] = ls
  have s0 := chk_ok (lg := lg) (ls := ls) (r := [mkLn 1 20 (canon (.one (poD a) t)) [0], mkLn 0 8 (canon (.two imD (.one (knD a) t) (.one (poD a) t))) [0]]) (n := mkLn 1 1 (canon (.one (knD a) t)) []) (fs := []) (st := []) (i := 0) [0] fk rfl ag0 fol_asm
  have e1 : followsL lg ls ([canon (.one (knD a) t)] ++ [canon (.one (poD a) t)]) ([[0]] ++ [[0]]) 1 (mkLn 1 20 (canon (.one (poD a) t)) [0]) (canon (.one (poD a) t)) = inL [1, 5] lg := by
    rw [fol20, one_at (c := canon (.one (knD a) t)) (by rw [← hls]; rfl), p1, p2, p4, show (knD a).i = a from rfl, (poss_fo ha (hf.can (by omega)) (by omega)).1, eqN_self fp.ok]
    cases inL [1, 5] lg <;> rfl
  have hl : ls.length = 3 := by rw [← hls]; rfl
  have hr := natCheck_run (lg := lg) (ls := ls) h0 h6 (by omega) (by omega)
  have hst : chkGo lg ls ls [] [] 0 = chkGo lg ls [mkLn 1 20 (canon (.one (poD a) t)) [0], mkLn 0 8 (canon (.two imD (.one (knD a) t) (.one (poD a) t))) [0]] [canon (.one (knD a) t)] [[0]] 1 := by
    rw [nil_app, nil_app] at s0
    rw [← s0]
    congr 1
    exact hls.symm
  cases hh : inL [1, 5] lg
  · refine proves_no ?_
    rw [hr, hst, chk_no (i := 1) [0] fp rfl ag0 (e1.trans hh)]
    decide
  · refine proves_yes (n := mkLn 0 8 (canon (.two imD (.one (knD a) t) (.one (poD a) t))) [0]) ?_ (by rw [← hls]; rfl) rfl fi.ck
    rw [hr, hst, chk_ok (i := 1) [0] fp rfl ag0 (e1.trans hh)]
    rw [chk_ok (i := 2) [] fi rfl ag0 (by
      rw [fol8]
      rw [← hls]
      show eqN (impN (canon (.one (knD a) t)) (canon (.one (poD a) t))) _ = true
      rw [ei]
      exact eqN_self fi.ok)]
    rfl
def trD : Nd := ⟨1, 0, 0, 0, 0, 0⟩
theorem trD_ok : Pn trD := ⟨⟨rfl, rfl, rfl, fun h => rfl, fun h => rfl⟩, by decide⟩
theorem true_fo : trueN = canon (.leaf trD) ∧ Fo 1 (.leaf trD) (canon (.leaf trD)) :=
  ⟨by decide +kernel, fo_canon ⟨rfl, rfl⟩ trD_ok (by decide +kernel) (by decide)⟩
theorem again_law {lg a : Int} {u : Tr} {N : Nat} {b : Bool} (h0 : 0 ≤ lg) (h6 : lg ≤ 6) (ha : 0 ≤ a ∧ a < 4) (hu : Fo N u (canon u)) (hN : N ≤ 20) (hb : impAt lg (canon u) a (canon u) = b) : provesL lg (againLs a (canon u)) (impN (canon u) (knowN a (canon u))) = b := by
  obtain ⟨ek, fk⟩ := know_fo ha hu (by omega)
  obtain ⟨ei, fi⟩ := imp_fo hu fk (by omega)
  obtain ⟨et, ft⟩ := true_fo
  unfold againLs boxLn2
  rw [ek, ei, et]
  generalize hls : [mkLn 1 1 (canon u) [], ⟨2, 2, canon (.leaf trD), a, []⟩, mkLn 2 17 (canon u) [0], mkLn 1 16 (canon (.one (knD a) u)) [1], mkLn 0 8 (canon (.two imD u (.one (knD a) u))) [0]] = ls
  have s0 := chk_ok (lg := lg) (ls := ls) (r := [⟨2, 2, canon (.leaf trD), a, []⟩, mkLn 2 17 (canon u) [0], mkLn 1 16 (canon (.one (knD a) u)) [1], mkLn 0 8 (canon (.two imD u (.one (knD a) u))) [0]]) (n := mkLn 1 1 (canon u) []) (fs := []) (st := []) (i := 0) [0] hu rfl ag0 fol_asm
  have s1 := chk_ok (lg := lg) (ls := ls) (r := [mkLn 2 17 (canon u) [0], mkLn 1 16 (canon (.one (knD a) u)) [1], mkLn 0 8 (canon (.two imD u (.one (knD a) u))) [0]]) (n := ⟨2, 2, canon (.leaf trD), a, []⟩) (fs := [canon u]) (st := [[0]]) (i := 1) [0, 1] ft rfl ha (by
    show (decide (([] : List Int).length = 0) && eqN (canon (.leaf trD)) trueN) = true
    rw [et, eqN_self ft.ok]
    rfl)
  have e2 : followsL lg ls ([canon u, canon (.leaf trD)] ++ [canon u]) ([[0], [0, 1]] ++ [[0, 1]]) 2 (mkLn 2 17 (canon u) [0]) (canon u) = b := by
    rw [fol17, ← hls]
    exact hb
  have hl : ls.length = 5 := by rw [← hls]; rfl
  have hr := natCheck_run (lg := lg) (ls := ls) h0 h6 (by omega) (by omega)
  have hst : chkGo lg ls ls [] [] 0 = chkGo lg ls [mkLn 2 17 (canon u) [0], mkLn 1 16 (canon (.one (knD a) u)) [1], mkLn 0 8 (canon (.two imD u (.one (knD a) u))) [0]] [canon u, canon (.leaf trD)] [[0], [0, 1]] 2 := by
    rw [nil_app, nil_app] at s0
    refine Eq.trans ?_ (s0.trans s1)
    congr 1
    exact hls.symm
  cases b
  · refine proves_no ?_
    rw [hr, hst, chk_no (i := 2) [0, 1] hu rfl ag0 e2]
    decide
  · refine proves_yes (n := mkLn 0 8 (canon (.two imD u (.one (knD a) u))) [0]) ?_ (by rw [← hls]; rfl) rfl fi.ck
    rw [hr, hst, chk_ok (i := 2) [0, 1] hu rfl ag0 e2]
    rw [chk_ok (i := 3) [0] fk rfl ag0 (by
      rw [fol16, ← hls]
      show eqN (knowN a (canon u)) _ = true
      rw [ek]
      exact eqN_self fk.ok)]
    rw [chk_ok (i := 4) [] fi rfl ag0 (by
      rw [fol8, ← hls]
      show eqN (impN (canon u) (canon (.one (knD a) u))) _ = true
      rw [ei]
      exact eqN_self fi.ok)]
    rfl
theorem imp_know {lg a : Int} {t : Tr} {N : Nat} (hk : Fo N (.one (knD a) t) (canon (.one (knD a) t))) : impAt lg (canon (.one (knD a) t)) a (canon (.one (knD a) t)) = inL [3, 4, 5, 6] lg := by
  obtain ⟨p1, p2, p3, p4, p5⟩ := last_one hk.ck hk.tree
  unfold impAt
  have hc : ((lastN (canon (.one (knD a) t))).op == 9 && (lastN (canon (.one (knD a) t))).i == a) = true := by
    rw [p1, p2]
    simp [knD]
  rw [hc, p4, eqN_self hk.ok, eqN_ne hk.ok.2.2.2 hk.ok one_ne]
  simp
theorem imp_not {lg a : Int} {t : Tr} {N : Nat} (hk : Fo N (.one noD (.one (knD a) t)) (canon (.one noD (.one (knD a) t)))) : impAt lg (canon (.one noD (.one (knD a) t))) a (canon (.one noD (.one (knD a) t))) = inL [5, 6] lg := by
  obtain ⟨p1, p2, p3, p4, p5⟩ := last_one hk.ck hk.tree
  obtain ⟨q1, q2⟩ := top_at (check_wf hk.ck) p5 p3
  have hin : innerN (canon (.one noD (.one (knD a) t))) = (canon (.one noD (.one (knD a) t))).getD (lastN (canon (.one noD (.one (knD a) t)))).x.toNat Nd.zero := by
    unfold innerN
    rw [p1]
    rfl
  unfold impAt
  rw [hin, q1, q2, p1, eqN_self hk.ok]
  simp [noD, knD]
theorem again_know {lg a : Int} {f : List Nd} {t : Tr} (h0 : 0 ≤ lg) (h6 : lg ≤ 6) (ha : 0 ≤ a ∧ a < 4) (hf : Fo 10 t f) : provesL lg (againLs a (knowN a f)) (impN (knowN a f) (knowN a (knowN a f))) = inL [3, 4, 5, 6] lg := by
  obtain ⟨ek, fk⟩ := know_fo ha hf (by omega)
  rw [ek]
  exact again_law h0 h6 ha fk (by omega) (imp_know fk)
theorem again_not {lg a : Int} {f : List Nd} {t : Tr} (h0 : 0 ≤ lg) (h6 : lg ≤ 6) (ha : 0 ≤ a ∧ a < 4) (hf : Fo 10 t f) : provesL lg (againLs a (notN (knowN a f))) (impN (notN (knowN a f)) (knowN a (notN (knowN a f)))) = inL [5, 6] lg := by
  obtain ⟨ek, fk⟩ := know_fo ha hf (by omega)
  obtain ⟨en, fn⟩ := not_fo fk (by omega)
  rw [ek, en]
  exact again_law h0 h6 ha fn (by omega) (imp_not fn)
theorem axiom_law {lg a : Int} {f g : List Nd} {s t : Tr} (h0 : 0 ≤ lg) (h6 : lg ≤ 6) (ha : 0 ≤ a ∧ a < 4) (hf : Fo 10 s f) (hg : Fo 10 t g) : provesL lg (axiomLs a f g) (impN (knowN a (impN f g)) (impN (knowN a f) (knowN a g))) = true := by
  obtain ⟨efg, ffg⟩ := imp_fo hf hg (by omega)
  obtain ⟨ek, fk⟩ := know_fo ha ffg (by omega)
  obtain ⟨el, fl⟩ := know_fo ha hf (by omega)
  obtain ⟨em, fm⟩ := know_fo ha hg (by omega)
  obtain ⟨elm, flm⟩ := imp_fo fl fm (by omega)
  obtain ⟨eklm, fklm⟩ := imp_fo fk flm (by omega)
  obtain ⟨et, ft⟩ := true_fo
  unfold axiomLs boxLn
  rw [efg, ek, el, em, elm, eklm, et]
  obtain ⟨p1, p2, p3, p4, p5⟩ := last_one fk.ck fk.tree
  obtain ⟨q1, q2, q3, q4, q5⟩ := last_one fl.ck fl.tree
  have efg' := (imp_fo (hf.can (by omega)) (hg.can (by omega)) (by omega)).1
  have em' := (know_fo ha (hg.can (by omega)) (by omega)).1
  have c1 := eqN_self ffg.ok
  have c2 := eqN_self hf.ok
  have c3 := eqN_self fm.ok
  have c4 := eqN_self flm.ok
  have c5 := eqN_self fklm.ok
  have c6 := eqN_self ft.ok
  have i1 : impAt lg (canon (.one (knD a) (.two imD s t))) a (canon (.two imD s t)) = true := by
    unfold impAt
    have hc : ((lastN (canon (.one (knD a) (.two imD s t)))).op == 9 && (lastN (canon (.one (knD a) (.two imD s t)))).i == a) = true := by
      rw [p1, p2]
      simp [knD]
    rw [hc, p4, c1]
    rfl
  have i2 : impAt lg (canon (.one (knD a) s)) a (canon s) = true := by
    unfold impAt
    have hc : ((lastN (canon (.one (knD a) s))).op == 9 && (lastN (canon (.one (knD a) s))).i == a) = true := by
      rw [q1, q2]
      simp [knD]
    rw [hc, q4, c2]
    rfl
  generalize hT : Tr.leaf trD = tT at *
  generalize hFG : Tr.two imD s t = tFG at *
  generalize hK : Tr.one (knD a) tFG = tK at *
  generalize hL : Tr.one (knD a) s = tL at *
  generalize hM : Tr.one (knD a) t = tM at *
  generalize hLM : Tr.two imD tL tM = tLM at *
  generalize hKLM : Tr.two imD tK tLM = tKLM at *
  generalize hls : [mkLn 1 1 (canon tK) [], mkLn 2 1 (canon tL) [], ⟨3, 2, canon tT, a, []⟩, mkLn 3 17 (canon tFG) [0], mkLn 3 17 f [1], mkLn 3 9 g [4, 3], mkLn 2 16 (canon tM) [2], mkLn 1 8 (canon tLM) [1], mkLn 0 8 (canon tKLM) [0]] = ls
  have hl : ls.length = 9 := by rw [← hls]; rfl
  have hr := natCheck_run (lg := lg) (ls := ls) h0 h6 (by omega) (by omega)
  refine proves_yes (n := mkLn 0 8 (canon tKLM) [0]) ?_ (by rw [← hls]; rfl) rfl fklm.ck
  rw [hr]
  have hst : chkGo lg ls ls [] [] 0 = chkGo lg ls [mkLn 1 1 (canon tK) [], mkLn 2 1 (canon tL) [], ⟨3, 2, canon tT, a, []⟩, mkLn 3 17 (canon tFG) [0], mkLn 3 17 f [1], mkLn 3 9 g [4, 3], mkLn 2 16 (canon tM) [2], mkLn 1 8 (canon tLM) [1], mkLn 0 8 (canon tKLM) [0]] [] [] 0 := by
    congr 1
    exact hls.symm
  rw [hst]
  rw [chk_ok (n := mkLn 1 1 (canon tK) []) [0] fk rfl ag0 fol_asm, chk_ok (n := mkLn 2 1 (canon tL) []) [0, 1] fl rfl ag0 fol_asm]
  rw [chk_ok (n := ⟨3, 2, canon tT, a, []⟩) [0, 1, 2] ft rfl ha (by
    show (decide (([] : List Int).length = 0) && eqN (canon tT) trueN) = true
    rw [et, c6]
    rfl)]
  rw [chk_ok (n := mkLn 3 17 (canon tFG) [0]) [0, 1, 2] ffg rfl ag0 (by
    rw [fol17, ← hls]
    exact i1)]
  rw [chk_ok (n := mkLn 3 17 f [1]) [0, 1, 2] hf rfl ag0 (by
    rw [fol17, ← hls]
    exact i2)]
  rw [chk_ok (n := mkLn 3 9 g [4, 3]) [0, 1, 2] hg rfl ag0 (by
    rw [fol9, ← hls]
    show eqN (impN (canon s) (canon t)) (canon tFG) = true
    rw [efg', c1])]
  rw [chk_ok (n := mkLn 2 16 (canon tM) [2]) [0, 1] fm rfl ag0 (by
    rw [fol16, ← hls]
    show eqN (knowN a (canon t)) (canon tM) = true
    rw [em', c3])]
  rw [chk_ok (n := mkLn 1 8 (canon tLM) [1]) [0] flm rfl ag0 (by
    rw [fol8, ← hls]
    show eqN (impN (canon tL) (canon tM)) (canon tLM) = true
    rw [elm, c4])]
  rw [chk_ok (n := mkLn 0 8 (canon tKLM) [0]) [] fklm rfl ag0 (by
    rw [fol8, ← hls]
    show eqN (impN (canon tK) (canon tLM)) (canon tKLM) = true
    rw [eklm, c5])]
  rfl
end Go.Proofs.YtipnbfbakohcaaaDoor
