/- Formulas as trees: the canonical list of a formula is the list of its tree, and tells it. -/
import Derived.Test.YtohoddkcpfamlaaDoorS04
import Derived.Test.YtohoddkcpfamlaaDoorS05

namespace Go.Proofs.YtohoddkcpfamlaaDoor

/-- The tree of a formula; a node's own operand numbers are 0 in it. -/
inductive Tr where
  | leaf (n : Nd)
  | one (n : Nd) (a : Tr)
  | two (n : Nd) (a b : Tr)
def Nd.head (n : Nd) : Nd := n.with_ 0 0
def Tr.ok : Tr → Prop
  | .leaf n => hasX n.op = false ∧ hasY n.op = false
  | .one n a => hasX n.op = true ∧ hasY n.op = false ∧ n.head = n ∧ a.ok
  | .two n a b => hasX n.op = true ∧ hasY n.op = true ∧ n.head = n ∧ a.ok ∧ b.ok
def Tr.size : Tr → Nat
  | .leaf _ => 1
  | .one _ a => a.size + 1
  | .two _ a b => a.size + b.size + 1
def Tr.top : Tr → Nd
  | .leaf n => n
  | .one n _ => n
  | .two n _ _ => n
def trF (f : List Nd) : Nat → Nat → Tr
  | 0, _ => .leaf Nd.zero
  | k + 1, i => bif hasY (f.getD i Nd.zero).op then .two (f.getD i Nd.zero).head (trF f k (f.getD i Nd.zero).x.toNat) (trF f k (f.getD i Nd.zero).y.toNat)
      else bif hasX (f.getD i Nd.zero).op then .one (f.getD i Nd.zero).head (trF f k (f.getD i Nd.zero).x.toNat) else .leaf (f.getD i Nd.zero)
/-- The tree of the formula at a place of a list. -/
def tr (f : List Nd) (i : Nat) : Tr := trF f (i + 1) i
def treeOf (f : List Nd) : Tr := tr f (f.length - 1)
/-- What the node is with its operands' trees. -/
def mkTr (n : Nd) (a b : Tr) : Tr := bif hasY n.op then .two n.head a b else bif hasX n.op then .one n.head a else .leaf n

theorem trF_fuel {f : List Nd} (hf : Wf f) : ∀ (k i : Nat), i < k → i < f.length → trF f k i = tr f i := by
  intro k
  induction k using Nat.strongRecOn with
  | _ k ih =>
    intro i h hi
    cases k with
    | zero => omega
    | succ k =>
      obtain ⟨n, hn⟩ : ∃ n, f[i]? = some n := ⟨_, List.getElem?_eq_getElem hi⟩
      obtain ⟨hx, hy⟩ := hf i n hn
      have e : ∀ (b : Nat), b < i → trF f k b = trF f i b := fun b hb => by
        rw [ih k (by omega) b (by omega) (by omega)]
        by_cases hik : i = k
        · subst hik; exact (ih i (by omega) b hb (by omega)).symm
        · exact (ih i (by omega) b hb (by omega)).symm
      unfold tr
      simp only [trF, getD_of hn]
      cases h2 : hasY n.op
      · cases h1 : hasX n.op
        · rfl
        · have := hx h1
          simp only [cond_true, cond_false]
          rw [e _ (by omega)]
      · have h1 := hasX_of_hasY h2
        have := hx h1
        have := hy h2
        simp only [cond_true]
        rw [e _ (by omega), e _ (by omega)]
theorem tr_eq {f : List Nd} (hf : Wf f) {i : Nat} {n : Nd} (hn : f[i]? = some n) : tr f i = mkTr n (tr f n.x.toNat) (tr f n.y.toNat) := by
  have hi : i < f.length := (List.getElem?_eq_some_iff.1 hn).1
  obtain ⟨hx, hy⟩ := hf i n hn
  conv => lhs; unfold tr trF
  simp only [getD_of hn, mkTr]
  cases h2 : hasY n.op
  · cases h1 : hasX n.op
    · rfl
    · have := hx h1
      simp only [cond_true, cond_false]
      rw [trF_fuel hf _ _ (by omega) (by omega)]
  · have h1 := hasX_of_hasY h2
    have := hx h1
    have := hy h2
    simp only [cond_true]
    rw [trF_fuel hf _ _ (by omega) (by omega), trF_fuel hf _ _ (by omega) (by omega)]
theorem mkTr_congr {n : Nd} {a a' b b' : Tr} (hx : hasX n.op = true → a = a') (hy : hasY n.op = true → b = b') : mkTr n a b = mkTr n a' b' := by
  unfold mkTr
  cases h2 : hasY n.op
  · cases h1 : hasX n.op
    · rfl
    · rw [hx h1]; rfl
  · rw [hx (hasX_of_hasY h2), hy h2]
theorem tr_prefix {f g : List Nd} (hf : Wf f) (hg : Wf g) (hp : f <+: g) : ∀ i, i < f.length → tr g i = tr f i := by
  intro i
  induction i using Nat.strongRecOn with
  | _ i ih =>
    intro hi
    obtain ⟨n, hn⟩ : ∃ n, f[i]? = some n := ⟨_, List.getElem?_eq_getElem hi⟩
    obtain ⟨hx, hy⟩ := hf i n hn
    have hn' : g[i]? = some n := by
      obtain ⟨t, rfl⟩ := hp
      rw [List.getElem?_append_left hi]; exact hn
    rw [tr_eq hf hn, tr_eq hg hn']
    exact mkTr_congr (fun h => by have := hx h; exact ih _ (by omega) (by omega)) (fun h => by have := hy h; exact ih _ (by omega) (by omega))
theorem head_head (n : Nd) : n.head.head = n.head := by
  unfold Nd.head Nd.with_
  cases hasX n.op <;> cases hasY n.op <;> rfl
theorem with_head (n : Nd) (a b : Nat) : (n.with_ a b).head = n.head := by
  unfold Nd.head Nd.with_
  cases hasX n.op <;> cases hasY n.op <;> rfl
theorem head_with (n : Nd) (a b : Nat) : n.head.with_ a b = n.with_ a b := by
  unfold Nd.head Nd.with_
  cases hasX n.op <;> cases hasY n.op <;> rfl
theorem with_op (n : Nd) (a b : Nat) : (n.with_ a b).op = n.op := rfl
theorem mkTr_ok {n : Nd} {a b : Tr} (ha : hasX n.op = true → a.ok) (hb : hasY n.op = true → b.ok) : (mkTr n a b).ok := by
  unfold mkTr
  cases h2 : hasY n.op
  · cases h1 : hasX n.op
    · exact ⟨h1, h2⟩
    · exact ⟨h1, h2, head_head n, ha h1⟩
  · have h1 := hasX_of_hasY h2
    exact ⟨h1, h2, head_head n, ha h1, hb h2⟩
theorem tr_ok {f : List Nd} (hf : Wf f) : ∀ i, i < f.length → (tr f i).ok := by
  intro i
  induction i using Nat.strongRecOn with
  | _ i ih =>
    intro hi
    obtain ⟨n, hn⟩ : ∃ n, f[i]? = some n := ⟨_, List.getElem?_eq_getElem hi⟩
    obtain ⟨hx, hy⟩ := hf i n hn
    rw [tr_eq hf hn]
    exact mkTr_ok (fun h => by have := hx h; exact ih _ (by omega) (by omega)) (fun h => by have := hy h; exact ih _ (by omega) (by omega))

/-- A tree put into a list: the list behind it, and the root's place. -/
def ins : Tr → List Nd → List Nd × Nat
  | .leaf n, o => (addN o n, o.idxOf n)
  | .one n a, o => (addN (ins a o).1 (n.with_ (ins a o).2 0), (ins a o).1.idxOf (n.with_ (ins a o).2 0))
  | .two n a b, o => (addN (ins b (ins a o).1).1 (n.with_ (ins a o).2 (ins b (ins a o).1).2), (ins b (ins a o).1).1.idxOf (n.with_ (ins a o).2 (ins b (ins a o).1).2))
def canon (t : Tr) : List Nd := (ins t []).1

theorem with_leaf {n : Nd} (h1 : hasX n.op = false) (h2 : hasY n.op = false) (a b : Nat) : n.with_ a b = n := by
  unfold Nd.with_; rw [h1, h2]; rfl
theorem with_one {n : Nd} (h2 : hasY n.op = false) (a b c : Nat) : n.with_ a b = n.with_ a c := by
  unfold Nd.with_; rw [h2]; rfl
theorem finN_ins {f : List Nd} (hf : Wf f) : ∀ (i : Nat) (o : List Nd), i < f.length → finN f i o = ins (tr f i) o := by
  intro i
  induction i using Nat.strongRecOn with
  | _ i ih =>
    intro o hi
    obtain ⟨n, hn⟩ : ∃ n, f[i]? = some n := ⟨_, List.getElem?_eq_getElem hi⟩
    obtain ⟨hx, hy⟩ := hf i n hn
    rw [finN_eq hf hn, tr_eq hf hn]
    unfold mkTr opX opY
    cases h2 : hasY n.op
    · cases h1 : hasX n.op
      · simp only [cond_false, ins, Bool.false_eq_true, if_false, with_leaf h1 h2]
      · have := hx h1
        simp only [cond_false, cond_true, ins, Bool.false_eq_true, if_false, if_true, head_with]
        rw [ih _ (by omega) _ (by omega), with_one h2 _ _ 0]
    · have h1 := hasX_of_hasY h2
      have := hx h1
      have := hy h2
      simp only [h1, cond_true, ins, if_true, head_with]
      rw [ih n.x.toNat (by omega) o (by omega), ih n.y.toNat (by omega) _ (by omega)]

theorem wf_addN {o : List Nd} {m : Nd} (ho : Wf o) (hx : hasX m.op = true → 0 ≤ m.x ∧ m.x < o.length) (hy : hasY m.op = true → 0 ≤ m.y ∧ m.y < o.length) : Wf (addN o m) := by
  unfold addN
  split
  · exact ho
  · exact wf_snoc ho hx hy
theorem addN_get (o : List Nd) (m : Nd) : (addN o m)[o.idxOf m]? = some m := by
  rw [← idxOf_addN]
  rw [List.getElem?_eq_getElem (List.idxOf_lt_length_of_mem (mem_addN o m))]
  rw [List.getElem_idxOf]
structure InsOk (t : Tr) (o : List Nd) : Prop where
  wf : Wf (ins t o).1
  pre : o <+: (ins t o).1
  lt : (ins t o).2 < (ins t o).1.length
  tree : tr (ins t o).1 (ins t o).2 = t
theorem ins_ok : ∀ (t : Tr) (o : List Nd), t.ok → Wf o → InsOk t o
  | .leaf n, o, ⟨h1, h2⟩, ho => by
    have hw : Wf (addN o n) := wf_addN ho (fun h => by rw [h1] at h; cases h) (fun h => by rw [h2] at h; cases h)
    refine ⟨hw, addN_prefix _ _, idxOf_lt_addN _ _, ?_⟩
    show tr (addN o n) (o.idxOf n) = _
    rw [tr_eq hw (addN_get o n)]
    unfold mkTr
    rw [h1, h2]
    rfl
  | .one n a, o, ⟨h1, h2, h3, ha⟩, ho => by
    have A := ins_ok a o ha ho
    have hw : Wf (addN (ins a o).1 (n.with_ (ins a o).2 0)) := wf_addN A.wf (fun h => by
      have := A.lt
      simp only [Nd.with_, h1, cond_true]
      omega) (fun h => by rw [with_op, h2] at h; cases h)
    refine ⟨hw, A.pre.trans (addN_prefix _ _), idxOf_lt_addN _ _, ?_⟩
    show tr (addN (ins a o).1 (n.with_ (ins a o).2 0)) ((ins a o).1.idxOf (n.with_ (ins a o).2 0)) = _
    rw [tr_eq hw (addN_get _ _)]
    unfold mkTr
    rw [with_op, h1, h2, with_head, h3]
    have e : (n.with_ (ins a o).2 0).x.toNat = (ins a o).2 := by simp [Nd.with_, h1]
    rw [e, tr_prefix A.wf hw (addN_prefix _ _) _ A.lt, A.tree]
    rfl
  | .two n a b, o, ⟨h1, h2, h3, ha, hb⟩, ho => by
    have A := ins_ok a o ha ho
    have B := ins_ok b _ hb A.wf
    have hlt : (ins a o).2 < (ins b (ins a o).1).1.length := Nat.lt_of_lt_of_le A.lt B.pre.length_le
    have hw : Wf (addN (ins b (ins a o).1).1 (n.with_ (ins a o).2 (ins b (ins a o).1).2)) := wf_addN B.wf (fun h => by
      simp only [Nd.with_, h1, cond_true]
      omega) (fun h => by
      have := B.lt
      simp only [Nd.with_, h2, cond_true]
      omega)
    refine ⟨hw, (A.pre.trans B.pre).trans (addN_prefix _ _), idxOf_lt_addN _ _, ?_⟩
    show tr (addN (ins b (ins a o).1).1 (n.with_ (ins a o).2 (ins b (ins a o).1).2)) ((ins b (ins a o).1).1.idxOf (n.with_ (ins a o).2 (ins b (ins a o).1).2)) = _
    rw [tr_eq hw (addN_get _ _)]
    unfold mkTr
    rw [with_op, h2, with_head, h3]
    have e : (n.with_ (ins a o).2 (ins b (ins a o).1).2).x.toNat = (ins a o).2 := by simp [Nd.with_, h1]
    have e' : (n.with_ (ins a o).2 (ins b (ins a o).1).2).y.toNat = (ins b (ins a o).1).2 := by simp [Nd.with_, h2]
    rw [e, e', tr_prefix A.wf hw (B.pre.trans (addN_prefix _ _)) _ A.lt, A.tree, tr_prefix B.wf hw (addN_prefix _ _) _ B.lt, B.tree]
    rfl

/-- The trees in a list are below a bound. -/
def Below (N : Nat) (o : List Nd) : Prop := ∀ k, k < o.length → (tr o k).size < N
theorem below_addN {N : Nat} {o : List Nd} {m : Nd} (ho : Wf o) (hw : Wf (addN o m)) (h : Below N o) (hm : (tr (addN o m) (o.idxOf m)).size < N) : Below N (addN o m) := by
  intro k hk
  by_cases hko : k < o.length
  · rw [tr_prefix ho hw (addN_prefix _ _) _ hko]
    exact h k hko
  · have hne : m ∉ o := fun hm' => by
      unfold addN at hk
      rw [if_pos hm'] at hk
      exact hko hk
    have : k = o.idxOf m := by
      rw [List.idxOf_eq_length hne]
      unfold addN at hk
      rw [if_neg hne] at hk
      simp at hk
      omega
    rw [this]
    exact hm
theorem ins_below : ∀ (t : Tr) (o : List Nd) (N : Nat), t.ok → Wf o → Below N o → t.size < N → Below N (ins t o).1
  | .leaf n, o, N, ht, ho, hb, hs => by
    have I := ins_ok (.leaf n) o ht ho
    exact below_addN ho I.wf hb (Nat.lt_of_le_of_lt (Nat.le_of_eq (congrArg Tr.size I.tree)) hs)
  | .one n a, o, N, ht, ho, hb, hs => by
    have I := ins_ok (.one n a) o ht ho
    have A := ins_ok a o ht.2.2.2 ho
    have hs' : a.size + 1 < N := hs
    exact below_addN A.wf I.wf (ins_below a o N ht.2.2.2 ho hb (by omega)) (Nat.lt_of_le_of_lt (Nat.le_of_eq (congrArg Tr.size I.tree)) hs)
  | .two n a b, o, N, ht, ho, hb, hs => by
    have I := ins_ok (.two n a b) o ht ho
    have A := ins_ok a o ht.2.2.2.1 ho
    have B := ins_ok b _ ht.2.2.2.2 A.wf
    have hs' : a.size + b.size + 1 < N := hs
    exact below_addN B.wf I.wf (ins_below b _ N ht.2.2.2.2 A.wf (ins_below a o N ht.2.2.2.1 ho hb (by omega)) (by omega)) (Nat.lt_of_le_of_lt (Nat.le_of_eq (congrArg Tr.size I.tree)) hs)
theorem below_nil (N : Nat) : Below N [] := fun k h => absurd h (by simp)
theorem last_addN {o : List Nd} {m : Nd} {t : Tr} (hb : Below t.size o) (ht : tr (addN o m) (o.idxOf m) = t) : o.idxOf m + 1 = (addN o m).length := by
  have hne : m ∉ o := fun hm => by
    have hlt := List.idxOf_lt_length_of_mem hm
    have := hb _ hlt
    have e : addN o m = o := by unfold addN; rw [if_pos hm]
    rw [e] at ht
    rw [ht] at this
    omega
  rw [List.idxOf_eq_length hne]
  unfold addN
  rw [if_neg hne]
  simp
/-- The root of a canonical list is its last node. -/
theorem ins_last (t : Tr) (ht : t.ok) : (ins t []).2 + 1 = (canon t).length := by
  have I := ins_ok t [] ht wf_nil
  cases t with
  | leaf n => exact last_addN (below_nil _) I.tree
  | one n a =>
    have A := ins_ok a [] ht.2.2.2 wf_nil
    exact last_addN (t := .one n a) (ins_below a [] _ ht.2.2.2 wf_nil (below_nil _) (Nat.lt_succ_self _)) I.tree
  | two n a b =>
    have A := ins_ok a [] ht.2.2.2.1 wf_nil
    have B := ins_ok b _ ht.2.2.2.2 A.wf
    have e : (Tr.two n a b).size = a.size + b.size + 1 := rfl
    exact last_addN (t := .two n a b) (ins_below b _ _ ht.2.2.2.2 A.wf (ins_below a [] _ ht.2.2.2.1 wf_nil (below_nil _) (by omega)) (by omega)) I.tree
theorem canon_wf {t : Tr} (ht : t.ok) : Wf (canon t) := (ins_ok t [] ht wf_nil).wf
theorem canon_pos {t : Tr} (ht : t.ok) : 0 < (canon t).length := by have := ins_last t ht; omega
theorem treeOf_canon {t : Tr} (ht : t.ok) : treeOf (canon t) = t := by
  unfold treeOf
  have h := ins_last t ht
  rw [show (canon t).length - 1 = (ins t []).2 by omega]
  exact (ins_ok t [] ht wf_nil).tree
theorem canon_inj {s t : Tr} (hs : s.ok) (ht : t.ok) (h : canon s = canon t) : s = t := by
  rw [← treeOf_canon hs, ← treeOf_canon ht, h]
end Go.Proofs.YtohoddkcpfamlaaDoor

/- What the functions on formulas come to on trees. -/

namespace Go.Proofs.YtohoddkcpfamlaaDoor

theorem treeOf_ok {f : List Nd} (h : check f = 0) : (treeOf f).ok := tr_ok (check_wf h) _ (by have := (check_parts h).1; omega)
theorem compactN_tree {f : List Nd} (h : check f = 0) : compactN f = canon (treeOf f) := by
  rw [compactN_eq h, finN_ins (check_wf h) _ _ (by have := (check_parts h).1; omega)]
  rfl
theorem subN_tree {f : List Nd} (h : check f = 0) {z : Nat} (hz : z < f.length) : subN f z = canon (tr f z) := by
  unfold subN
  have e : (decide ((z : Int) < 0) || decide ((f.length : Int) ≤ (z : Int))) = false := by simp; omega
  rw [h, e, Int.toNat_natCast, finN_ins (check_wf h) _ _ hz]
  rfl
theorem treeOf_compact {f : List Nd} (h : check f = 0) : treeOf (compactN f) = treeOf f := by
  rw [compactN_tree h, treeOf_canon (treeOf_ok h)]
theorem tr_shift {a b : List Nd} (ha : Wf a) (hb : Wf b) : ∀ k, k < b.length → tr (a ++ b.map (shiftN a.length)) (a.length + k) = tr b k := by
  intro k
  induction k using Nat.strongRecOn with
  | _ k ih =>
    intro hk
    obtain ⟨n, hn⟩ : ∃ n, b[k]? = some n := ⟨_, List.getElem?_eq_getElem hk⟩
    obtain ⟨hx, hy⟩ := hb k n hn
    have hn' : (a ++ b.map (shiftN a.length))[a.length + k]? = some (shiftN a.length n) := by
      rw [List.getElem?_append_right (by omega), Nat.add_sub_cancel_left, List.getElem?_map, hn]; rfl
    rw [tr_eq (shift_wf ha hb) hn', tr_eq hb hn]
    have e0 : (shiftN a.length n).op = n.op := rfl
    have ehead : (shiftN a.length n).head = n.head := by
      unfold Nd.head Nd.with_ shiftN
      cases hasX n.op <;> cases hasY n.op <;> rfl
    unfold mkTr
    rw [e0, ehead]
    cases h2 : hasY n.op
    · cases h1 : hasX n.op
      · simp only [cond_false]
        congr 1
        unfold shiftN
        rw [h1, h2]
        rfl
      · have := hx h1
        have e1 : (shiftN a.length n).x.toNat = a.length + n.x.toNat := by simp only [shiftN, h1, cond_true]; omega
        rw [e1, ih _ (by omega) (by omega)]
        rfl
    · have h1 := hasX_of_hasY h2
      have := hx h1
      have := hy h2
      have e1 : (shiftN a.length n).x.toNat = a.length + n.x.toNat := by simp only [shiftN, h1, cond_true]; omega
      have e2 : (shiftN a.length n).y.toNat = a.length + n.y.toNat := by simp only [shiftN, h2, cond_true]; omega
      rw [e1, e2, ih n.x.toNat (by omega) (by omega), ih n.y.toNat (by omega) (by omega)]
      rfl

end Go.Proofs.YtohoddkcpfamlaaDoor

/- Trees: all nodes, lengths of the lists of parts. -/

namespace Go.Proofs.YtohoddkcpfamlaaDoor

/-- All nodes of a tree. -/
def Tr.all (P : Nd → Prop) : Tr → Prop
  | .leaf n => P n
  | .one n a => P n ∧ a.all P
  | .two n a b => P n ∧ a.all P ∧ b.all P
theorem ins_all {P : Nd → Prop} (hP : ∀ n k1 k2, P n → P (n.with_ k1 k2)) : ∀ (t : Tr) (o : List Nd), t.all P → (∀ n ∈ o, P n) → ∀ n ∈ (ins t o).1, P n
  | .leaf n, o, ht, ho, m, hm => by
    change m ∈ addN o n at hm
    unfold addN at hm
    split at hm
    · exact ho m hm
    · rcases List.mem_append.1 hm with h | h
      · exact ho m h
      · simp at h; subst h; exact ht
  | .one n a, o, ht, ho, m, hm => by
    change m ∈ addN (ins a o).1 _ at hm
    have ha := ins_all hP a o ht.2 ho
    unfold addN at hm
    split at hm
    · exact ha m hm
    · rcases List.mem_append.1 hm with h | h
      · exact ha m h
      · simp at h; subst h; exact hP _ _ _ ht.1
  | .two n a b, o, ht, ho, m, hm => by
    change m ∈ addN (ins b (ins a o).1).1 _ at hm
    have ha := ins_all hP b _ ht.2.2 (ins_all hP a o ht.2.1 ho)
    unfold addN at hm
    split at hm
    · exact ha m hm
    · rcases List.mem_append.1 hm with h | h
      · exact ha m h
      · simp at h; subst h; exact hP _ _ _ ht.1
theorem tr_all {P : Nd → Prop} (hP : ∀ n k1 k2, P n → P (n.with_ k1 k2)) {f : List Nd} (hf : Wf f) (hn : ∀ n ∈ f, P n) : ∀ i, i < f.length → (tr f i).all P := by
  intro i
  induction i using Nat.strongRecOn with
  | _ i ih =>
    intro hi
    obtain ⟨n, hi'⟩ : ∃ n, f[i]? = some n := ⟨_, List.getElem?_eq_getElem hi⟩
    obtain ⟨hx, hy⟩ := hf i n hi'
    have hp := hn n (List.mem_of_getElem? hi')
    rw [tr_eq hf hi']
    unfold mkTr
    cases h2 : hasY n.op
    · cases h1 : hasX n.op
      · exact hp
      · have := hx h1
        exact ⟨hP _ _ _ hp, ih _ (by omega) (by omega)⟩
    · have h1 := hasX_of_hasY h2
      have := hx h1
      have := hy h2
      exact ⟨hP _ _ _ hp, ih _ (by omega) (by omega), ih _ (by omega) (by omega)⟩
theorem ins_len {b : Tr} (hb : b.ok) (o : List Nd) : (ins b o).1.length ≤ o.length + (canon b).length := by
  have hw := canon_wf hb
  have hp := canon_pos hb
  have e : tr (canon b) ((canon b).length - 1) = b := treeOf_canon hb
  have h := finN_ins hw ((canon b).length - 1) o (by omega)
  rw [e] at h
  rw [← h]
  have h1 := length_le_pot (canon b) (finN (canon b) ((canon b).length - 1) o).1
  have h2 := pot_le hw ((canon b).length - 1) o (by omega)
  have h3 : pot (canon b) o ≤ o.length + (canon b).length := by
    unfold pot
    have := List.countP_le_length (p := fun j => (finN (canon b) j o).1.length != o.length) (l := List.range (canon b).length)
    rw [List.length_range] at this
    omega
  omega
/-- The list of a part of a formula is no longer than the formula's. -/
theorem part_len {t : Tr} (ht : t.ok) {k : Nat} (hk : k < (canon t).length) : (canon (tr (canon t) k)).length ≤ (canon t).length := by
  have hw := canon_wf ht
  have e := finN_ins hw k [] hk
  have h1 := length_le_pot (canon t) (finN (canon t) k []).1
  have h2 := pot_le hw k [] hk
  have h3 := pot_nil (canon t)
  have : canon (tr (canon t) k) = (finN (canon t) k []).1 := by rw [e]; rfl
  rw [this]
  omega
theorem last_node {t : Tr} (ht : t.ok) : ∃ n, (canon t)[(canon t).length - 1]? = some n ∧ t = mkTr n (tr (canon t) n.x.toNat) (tr (canon t) n.y.toNat) ∧ (hasX n.op = true → 0 ≤ n.x ∧ n.x < ((canon t).length - 1 : Nat)) ∧ (hasY n.op = true → 0 ≤ n.y ∧ n.y < ((canon t).length - 1 : Nat)) := by
  have hw := canon_wf ht
  have hp := canon_pos ht
  obtain ⟨n, hn⟩ : ∃ n, (canon t)[(canon t).length - 1]? = some n := ⟨_, List.getElem?_eq_getElem (by omega)⟩
  have h1 := tr_eq hw hn
  have h2 : tr (canon t) ((canon t).length - 1) = t := treeOf_canon ht
  rw [h2] at h1
  exact ⟨n, hn, h1, hw _ n hn⟩
theorem one_len {n : Nd} {a : Tr} (ht : (Tr.one n a).ok) : (canon a).length ≤ (canon (.one n a)).length := by
  obtain ⟨m, _, h1, hx, _⟩ := last_node ht
  have hp := canon_pos ht
  unfold mkTr at h1
  cases h2 : hasY m.op
  · cases h3 : hasX m.op
    · rw [h2, h3] at h1; cases h1
    · rw [h2, h3] at h1
      injection h1 with _ h1
      have := hx h3
      have e := part_len ht (k := m.x.toNat) (by omega)
      rw [← h1] at e
      exact e
  · rw [h2] at h1; cases h1
theorem two_len {n : Nd} {a b : Tr} (ht : (Tr.two n a b).ok) : (canon a).length ≤ (canon (.two n a b)).length ∧ (canon b).length ≤ (canon (.two n a b)).length := by
  obtain ⟨m, _, h1, hx, hy⟩ := last_node ht
  have hp := canon_pos ht
  unfold mkTr at h1
  cases h2 : hasY m.op
  · cases h3 : hasX m.op
    · rw [h2, h3] at h1; cases h1
    · rw [h2, h3] at h1; cases h1
  · rw [h2] at h1
    injection h1 with _ h1 h3
    have := hx (hasX_of_hasY h2)
    have := hy h2
    refine ⟨?_, ?_⟩
    · have e := part_len ht (k := m.x.toNat) (by omega)
      rw [← h1] at e
      exact e
    · have e := part_len ht (k := m.y.toNat) (by omega)
      rw [← h3] at e
      exact e
/-- The last node of a formula and what stands below it. -/
theorem last_tree {f : List Nd} (h : check f = 0) : treeOf f = mkTr (lastN f) (tr f (lastN f).x.toNat) (tr f (lastN f).y.toNat) :=
  tr_eq (check_wf h) (lastN_get (check_parts h).1)
theorem mk_one {m n : Nd} {a b c : Tr} (h : mkTr m a b = .one n c) : hasX m.op = true ∧ m.op = n.op ∧ m.i = n.i ∧ a = c := by
  unfold mkTr at h
  cases h2 : hasY m.op
  · cases h1 : hasX m.op
    · rw [h2, h1] at h; cases h
    · rw [h2, h1] at h
      simp only [cond_false, cond_true, Tr.one.injEq] at h
      exact ⟨rfl, by rw [← h.1]; rfl, by rw [← h.1]; rfl, h.2⟩
  · rw [h2] at h; cases h
theorem last_one {f : List Nd} {n : Nd} {c : Tr} (h : check f = 0) (ht : treeOf f = .one n c) :
    (lastN f).op = n.op ∧ (lastN f).i = n.i ∧ tr f (lastN f).x.toNat = c ∧ subN f (lastN f).x = canon c ∧ (lastN f).x.toNat < f.length := by
  have e := last_tree h
  rw [ht] at e
  obtain ⟨h1, h2, h3, h4⟩ := mk_one e.symm
  have hw := (check_wf h _ _ (lastN_get (check_parts h).1)).1 h1
  have hx : (lastN f).x.toNat < f.length := by omega
  refine ⟨h2, h3, h4, ?_, hx⟩
  have e2 := subN_tree h hx
  rw [show (((lastN f).x.toNat : Nat) : Int) = (lastN f).x by omega] at e2
  rw [e2, h4]
theorem top_at {f : List Nd} {n : Nd} {c : Tr} {i : Nat} (hf : Wf f) (hi : i < f.length) (ht : tr f i = .one n c) : (f.getD i Nd.zero).op = n.op ∧ (f.getD i Nd.zero).i = n.i := by
  have hn : f[i]? = some f[i] := List.getElem?_eq_getElem hi
  have e := tr_eq hf hn
  rw [ht] at e
  obtain ⟨_, h2, h3, _⟩ := mk_one e.symm
  rw [getD_of hn]
  exact ⟨h2, h3⟩
theorem mk_two {m n : Nd} {a b c d : Tr} (h : mkTr m a b = .two n c d) : hasY m.op = true ∧ m.head = n ∧ a = c ∧ b = d := by
  unfold mkTr at h
  cases h2 : hasY m.op
  · cases h1 : hasX m.op
    · rw [h2, h1] at h; cases h
    · rw [h2, h1] at h; cases h
  · rw [h2] at h
    simp only [cond_true, Tr.two.injEq] at h
    exact ⟨rfl, h⟩
theorem last_two {f : List Nd} {n : Nd} {c d : Tr} (h : check f = 0) (ht : treeOf f = .two n c d) :
    (lastN f).op = n.op ∧ (lastN f).g = n.g ∧ subN f (lastN f).x = canon c ∧ subN f (lastN f).y = canon d := by
  have e := last_tree h
  rw [ht] at e
  obtain ⟨h2, h3, h4, h5⟩ := mk_two e.symm
  obtain ⟨hx, hy⟩ := check_wf h _ _ (lastN_get (check_parts h).1)
  have hx := hx (hasX_of_hasY h2)
  have hy := hy h2
  have e1 := subN_tree h (show (lastN f).x.toNat < f.length by omega)
  have e2 := subN_tree h (show (lastN f).y.toNat < f.length by omega)
  rw [show (((lastN f).x.toNat : Nat) : Int) = (lastN f).x by omega, h4] at e1
  rw [show (((lastN f).y.toNat : Nat) : Int) = (lastN f).y by omega, h5] at e2
  exact ⟨by rw [← h3]; rfl, by rw [← h3]; rfl, e1, e2⟩
/-- The trees at the places of a list are different ones. -/
def Dst (o : List Nd) : Prop := ∀ i j, i < o.length → j < o.length → tr o i = tr o j → i = j
end Go.Proofs.YtohoddkcpfamlaaDoor

/- Small formulas of trees. -/

namespace Go.Proofs.YtohoddkcpfamlaaDoor

/-- A node of the fragment of knowledge alone. -/
def Pn (n : Nd) : Prop := headOk n ∧ fragOf n.op < 2
theorem Pn.with_ (n : Nd) (k1 k2 : Nat) (h : Pn n) : Pn (n.with_ k1 k2) := ⟨h.1.with_ k1 k2, h.2⟩
theorem fragOf_nonneg (op : Int) : 0 ≤ fragOf op := by
  unfold fragOf
  repeat' split
  all_goals omega
theorem mask_lt {l : List Nd} (h : ∀ n ∈ l, fragOf n.op < 2) : fragMask l < 2 := by
  have key : ∀ (l : List Nd) (m : Nat), m < 2 → (∀ n ∈ l, fragOf n.op < 2) → l.foldl (fun m n => m ||| (fragOf n.op).toNat) m < 2 := by
    intro l
    induction l with
    | nil => intro m h _; exact h
    | cons a r ih =>
      intro m hm ha
      refine ih _ ?_ (fun n hn => ha n (List.mem_cons_of_mem _ hn))
      have h1 := ha a (List.mem_cons_self ..)
      have h0 := fragOf_nonneg a.op
      exact Nat.or_lt_two_pow (n := 1) hm (by omega)
  exact key l 0 (by decide) h
theorem mask_of_lt {l : List Nd} (h : fragMask l < 2) : ∀ n ∈ l, fragOf n.op < 2 := by
  have key : ∀ (l : List Nd) (m : Nat), l.foldl (fun m n => m ||| (fragOf n.op).toNat) m < 2 → m < 2 ∧ ∀ n ∈ l, fragOf n.op < 2 := by
    intro l
    induction l with
    | nil => intro m h; exact ⟨h, fun n hn => by cases hn⟩
    | cons a r ih =>
      intro m h
      obtain ⟨h1, h2⟩ := ih _ h
      have l1 : m ≤ m ||| (fragOf a.op).toNat := Nat.left_le_or
      have l2 : (fragOf a.op).toNat ≤ m ||| (fragOf a.op).toNat := Nat.right_le_or
      have h0 := fragOf_nonneg a.op
      refine ⟨Nat.lt_of_le_of_lt l1 h1, fun n hn => ?_⟩
      rcases List.mem_cons.1 hn with rfl | hn
      · have := Nat.lt_of_le_of_lt l2 h1
        omega
      · exact h2 n hn
  exact (key l 0 h).2
/-- A formula of a tree, small. -/
structure Fo (N : Nat) (t : Tr) (f : List Nd) : Prop where
  ck : check f = 0
  len : f.length ≤ N
  tree : treeOf f = t
  all : t.all Pn
theorem Fo.ok {N : Nat} {t : Tr} {f : List Nd} (h : Fo N t f) : t.ok := h.tree ▸ treeOf_ok h.ck
theorem Fo.comp {N : Nat} {t : Tr} {f : List Nd} (h : Fo N t f) : compactN f = canon t := by rw [compactN_tree h.ck, h.tree]
theorem Fo.clen {N : Nat} {t : Tr} {f : List Nd} (h : Fo N t f) : (canon t).length ≤ N := by
  rw [← h.comp]
  exact Nat.le_trans (compactN_props h.ck).2.1 h.len
theorem Fo.frags {N : Nat} {t : Tr} {f : List Nd} (h : Fo N t f) : decide (2 ≤ fragsN f) = false := by
  have : fragsN f < 2 := by
    unfold fragsN
    rw [h.comp]
    exact mask_lt fun n hn => (ins_all Pn.with_ t [] h.all (fun n hn => by cases hn) n hn).2
  simp
  omega
theorem fo_of {f : List Nd} {N : Nat} (h : check f = 0) (hl : f.length ≤ N) (hg : fragsN f < 2) : Fo N (treeOf f) f := by
  refine ⟨h, hl, rfl, ?_⟩
  obtain ⟨cw, cl, cp, ch⟩ := compactN_props h
  rw [← treeOf_compact h]
  have hm := mask_of_lt hg
  exact tr_all Pn.with_ cw (fun n hn => ⟨ch n hn, hm n hn⟩) _ (by omega)
theorem fo_canon {t : Tr} {N : Nat} (ht : t.ok) (ha : t.all Pn) (hl : (canon t).length ≤ N) (hN : N ≤ 200) : Fo N t (canon t) := by
  have hp := canon_pos ht
  exact ⟨check_of (by intro e; rw [e] at hp; simp at hp) (by omega) (canon_wf ht) (fun n hn => (ins_all Pn.with_ t [] ha (fun n hn => by cases hn) n hn).1), hl, treeOf_canon ht, ha⟩
theorem eqN_self {t : Tr} (ht : t.ok) : eqN (canon t) (canon t) = true := by
  unfold eqN
  rw [decide_eq_true (canon_pos ht), decide_eq_true rfl]
  rfl
end Go.Proofs.YtohoddkcpfamlaaDoor

/- The forms of a formula of the fragment of knowledge (split off Rl2, for seats without the reference). Plain. -/

namespace Go.Proofs.YtohoddkcpfamlaaDoor

def noD : Nd := ⟨4, 0, 0, 0, 0, 0⟩
def knD (a : Int) : Nd := ⟨9, a, 0, 0, 0, 0⟩
def poD (a : Int) : Nd := ⟨10, a, 0, 0, 0, 0⟩
def trD : Nd := ⟨1, 0, 0, 0, 0, 0⟩
def firstN (f : List Nd) : List Nd := subN f (lastN f).x
def secondN (f : List Nd) : List Nd := subN f (lastN f).y
def opD (op : Int) : Nd := ⟨op, 0, 0, 0, 0, 0⟩
def faD : Nd := ⟨2, 0, 0, 0, 0, 0⟩
theorem faD_ok : Pn faD := ⟨⟨rfl, rfl, rfl, fun h => rfl, fun h => rfl⟩, by decide⟩
theorem false_fo : falseN = canon (.leaf faD) ∧ Fo 1 (.leaf faD) (canon (.leaf faD)) :=
  ⟨by decide +kernel, fo_canon ⟨rfl, rfl⟩ faD_ok (by decide +kernel) (by decide)⟩
theorem subN_len {f : List Nd} (h : check f = 0) {z : Nat} (hz : z < f.length) : (subN f z).length ≤ f.length := by
  unfold subN
  have e : (decide ((z : Int) < 0) || decide ((f.length : Int) ≤ (z : Int))) = false := by simp; omega
  rw [h, e, Int.toNat_natCast]
  have a := length_le_pot f (finN f z []).1
  have b := pot_le (check_wf h) z [] hz
  have c := pot_nil f
  show (finN f z []).1.length ≤ _
  omega
/-- The forms of a formula of the fragment of knowledge. -/
inductive Shape (N : Nat) (t : Tr) (f : List Nd) : Prop where
  | two (op : Int) (a b : Tr) (ho : op = 5 ∨ op = 6 ∨ op = 7 ∨ op = 8) (ht : t = .two (opD op) a b) (h1 : (lastN f).op = op) (hx : firstN f = canon a) (hy : secondN f = canon b) (ha : Fo N a (canon a)) (hb : Fo N b (canon b))
  | not (a : Tr) (ht : t = .one noD a) (h1 : (lastN f).op = 4) (hx : firstN f = canon a) (ha : Fo N a (canon a))
  | know (i : Int) (a : Tr) (hi : 0 ≤ i ∧ i < 4) (ht : t = .one (knD i) a) (h1 : (lastN f).op = 9) (h2 : (lastN f).i = i) (hx : firstN f = canon a) (ha : Fo N a (canon a))
  | poss (i : Int) (a : Tr) (hi : 0 ≤ i ∧ i < 4) (ht : t = .one (poD i) a) (h1 : (lastN f).op = 10) (h2 : (lastN f).i = i) (hx : firstN f = canon a) (ha : Fo N a (canon a))
  | true_ (ht : t = .leaf trD) (h1 : (lastN f).op = 1)
  | false_ (ht : t = .leaf faD) (h1 : (lastN f).op = 2)
  | fact (n : Nd) (ht : t = .leaf n) (h0 : n.op = 3) (h1 : (lastN f).op = 3)
theorem op_ten {op : Int} (h1 : isOp op = true) (h2 : fragOf op < 2) : op = 1 ∨ op = 2 ∨ op = 3 ∨ op = 4 ∨ op = 5 ∨ op = 6 ∨ op = 7 ∨ op = 8 ∨ op = 9 ∨ op = 10 := by
  unfold isOp at h1
  simp only [Bool.and_eq_true, decide_eq_true_iff] at h1
  by_cases h : op ≤ 10
  · omega
  · exfalso
    have : op = 11 ∨ op = 12 ∨ op = 13 ∨ op = 14 ∨ op = 15 ∨ op = 16 ∨ op = 17 ∨ op = 18 ∨ op = 19 ∨ op = 20 ∨ op = 21 := by omega
    rcases this with rfl | rfl | rfl | rfl | rfl | rfl | rfl | rfl | rfl | rfl | rfl <;> revert h2 <;> decide
theorem nd_of {n : Nd} (h : headOk n) (hx : n.x = 0) (hy : n.y = 0) (hf : hasFact n.op = false) (he : hasEvent n.op = false) (hg : hasGroup n.op = false) : n = ⟨n.op, n.i, 0, 0, 0, 0⟩ ∧ (hasAgent n.op = false → n.i = 0) ∧ (hasAgent n.op = true → 0 ≤ n.i ∧ n.i < 4) := by
  obtain ⟨_, h2, h3, _, _⟩ := h
  unfold formBad at h2
  unfold rangeBad outsideB at h3
  rw [hf, he, hg] at h2 h3
  obtain ⟨o, i, e, g, x, y⟩ := n
  simp at h2 h3 hx hy ⊢
  obtain ⟨⟨a, b⟩, c⟩ := h2
  refine ⟨⟨b, c, hx, hy⟩, a, fun hh => ?_⟩
  have := h3 hh
  omega
theorem Fo.shape {N : Nat} {t : Tr} {f : List Nd} (h : Fo N t f) (hN : N ≤ 200) : Shape N t f := by
  have hc := h.ck
  have e := last_tree hc
  rw [h.tree] at e
  have hpos := (check_parts hc).1
  have hlast := lastN_get hpos
  have hwf := check_wf hc _ _ hlast
  have hall := h.all
  have hok := h.ok
  have sub : ∀ z : Int, 0 ≤ z → z < f.length → (tr f z.toNat).ok → (tr f z.toNat).all Pn → subN f z = canon (tr f z.toNat) ∧ Fo N (tr f z.toNat) (canon (tr f z.toNat)) := fun z h0 h1 h2 h3 => by
    have hz : z.toNat < f.length := by omega
    have e1 := subN_tree hc hz
    have e2 := subN_len hc hz
    rw [show ((z.toNat : Nat) : Int) = z by omega] at e1 e2
    refine ⟨e1, fo_canon h2 h3 ?_ hN⟩
    rw [← e1]
    exact Nat.le_trans e2 h.len
  generalize hn : lastN f = n at e hwf hlast
  have hsx : n.x = (lastN f).x := by rw [hn]
  have hsy : n.y = (lastN f).y := by rw [hn]
  have hfx : firstN f = subN f n.x := by unfold firstN; rw [hn]
  have hfy : secondN f = subN f n.y := by unfold secondN; rw [hn]
  unfold mkTr at e
  cases h2 : hasY n.op
  · cases h1 : hasX n.op
    · -- a leaf
      rw [h2, h1] at e
      simp only [cond_false] at e
      subst e
      have hp : Pn n := hall
      rcases op_ten hp.1.1 hp.2 with ho | ho | ho | ho | ho | ho | ho | ho | ho | ho
      · refine .true_ ?_ (by rw [hn]; exact ho)
        obtain ⟨a, b, _⟩ := nd_of hp.1 (hp.1.2.2.2.1 h1) (hp.1.2.2.2.2 h2) (by rw [ho]; rfl) (by rw [ho]; rfl) (by rw [ho]; rfl)
        rw [a, b (by rw [ho]; rfl), ho]; rfl
      · refine .false_ ?_ (by rw [hn]; exact ho)
        obtain ⟨a, b, _⟩ := nd_of hp.1 (hp.1.2.2.2.1 h1) (hp.1.2.2.2.2 h2) (by rw [ho]; rfl) (by rw [ho]; rfl) (by rw [ho]; rfl)
        rw [a, b (by rw [ho]; rfl), ho]; rfl
      · exact .fact n rfl ho (by rw [hn]; exact ho)
      all_goals (rw [ho] at h1; exact absurd h1 (by decide))
    · -- one operand
      rw [h2, h1] at e
      simp only [cond_false, cond_true] at e
      have hx := hwf.1 h1
      have hp : Pn n.head := by rw [e] at hall; exact hall.1
      obtain ⟨s1, s2⟩ := sub n.x (by omega) (by omega) (by rw [e] at hok; exact hok.2.2.2) (by rw [e] at hall; exact hall.2)
      have hop : n.head.op = n.op := rfl
      have hhx : n.head.x = 0 := by unfold Nd.head Nd.with_; simp [h1]
      have hhy : n.head.y = 0 := hp.1.2.2.2.2 (by rw [hop]; exact h2)
      have hi : n.head.i = n.i := rfl
      rcases op_ten (op := n.op) hp.1.1 hp.2 with ho | ho | ho | ho | ho | ho | ho | ho | ho | ho
      · rw [ho] at h1; exact absurd h1 (by decide)
      · rw [ho] at h1; exact absurd h1 (by decide)
      · rw [ho] at h1; exact absurd h1 (by decide)
      · obtain ⟨a, b, _⟩ := nd_of hp.1 hhx hhy (by rw [hop, ho]; rfl) (by rw [hop, ho]; rfl) (by rw [hop, ho]; rfl)
        refine .not (tr f n.x.toNat) ?_ (by rw [hn]; exact ho) (by rw [hfx, s1]) s2
        rw [e, a, b (by rw [hop, ho]; rfl), hop, ho]; rfl
      · rw [ho] at h2; exact absurd h2 (by decide)
      · rw [ho] at h2; exact absurd h2 (by decide)
      · rw [ho] at h2; exact absurd h2 (by decide)
      · rw [ho] at h2; exact absurd h2 (by decide)
      · obtain ⟨a, _, b⟩ := nd_of hp.1 hhx hhy (by rw [hop, ho]; rfl) (by rw [hop, ho]; rfl) (by rw [hop, ho]; rfl)
        refine .know n.i (tr f n.x.toNat) (by have := b (by rw [hop, ho]; rfl); rw [hi] at this; exact this) ?_ (by rw [hn]; exact ho) (by rw [hn]) (by rw [hfx, s1]) s2
        rw [e, a, hi, hop, ho]; rfl
      · obtain ⟨a, _, b⟩ := nd_of hp.1 hhx hhy (by rw [hop, ho]; rfl) (by rw [hop, ho]; rfl) (by rw [hop, ho]; rfl)
        refine .poss n.i (tr f n.x.toNat) (by have := b (by rw [hop, ho]; rfl); rw [hi] at this; exact this) ?_ (by rw [hn]; exact ho) (by rw [hn]) (by rw [hfx, s1]) s2
        rw [e, a, hi, hop, ho]; rfl
  · have h1 := hasX_of_hasY h2
    rw [h2] at e
    simp only [cond_true] at e
    have hx := hwf.1 h1
    have hy := hwf.2 h2
    have hp : Pn n.head := by rw [e] at hall; exact hall.1
    obtain ⟨s1, s2⟩ := sub n.x (by omega) (by omega) (by rw [e] at hok; exact hok.2.2.2.1) (by rw [e] at hall; exact hall.2.1)
    obtain ⟨r1, r2⟩ := sub n.y (by omega) (by omega) (by rw [e] at hok; exact hok.2.2.2.2) (by rw [e] at hall; exact hall.2.2)
    have hop : n.head.op = n.op := rfl
    have hhx : n.head.x = 0 := by unfold Nd.head Nd.with_; simp [h1]
    have hhy : n.head.y = 0 := by unfold Nd.head Nd.with_; simp [h2]
    have ho : n.op = 5 ∨ n.op = 6 ∨ n.op = 7 ∨ n.op = 8 := by
      rcases op_ten (op := n.op) hp.1.1 hp.2 with ho | ho | ho | ho | ho | ho | ho | ho | ho | ho
      all_goals first | omega | (rw [ho] at h2; exact absurd h2 (by decide))
    refine .two n.op _ _ ho ?_ (by rw [hn]) (by rw [hfx, s1]) (by rw [hfy, r1]) s2 r2
    rw [e]
    congr 1
    obtain ⟨a, b, _⟩ := nd_of hp.1 hhx hhy (by rw [hop]; rcases ho with h | h | h | h <;> rw [h] <;> rfl) (by rw [hop]; rcases ho with h | h | h | h <;> rw [h] <;> rfl) (by rw [hop]; rcases ho with h | h | h | h <;> rw [h] <;> rfl)
    rw [a, b (by rw [hop]; rcases ho with h | h | h | h <;> rw [h] <;> rfl), hop]; rfl

end Go.Proofs.YtohoddkcpfamlaaDoor

/- Disjunctions and equivalences: plain. -/

namespace Go.Proofs.YtohoddkcpfamlaaDoor

def orN (f g : List Nd) : List Nd := buildN ⟨6, 0, 0, 0, 0, 0⟩ [f, g]
def iffN (f g : List Nd) : List Nd := buildN ⟨8, 0, 0, 0, 0, 0⟩ [f, g]
end Go.Proofs.YtohoddkcpfamlaaDoor

/- Negation normal forms as Lean functions. -/

namespace Go.Proofs.YtohoddkcpfamlaaDoor

/-- The form of a node, from the forms of its operands (the Bool: of the negation). -/
def posS (x : Nd) (p : Bool → Int → List Nd) : List Nd :=
  bif x.op == 4 then p true x.x
  else bif x.op == 7 then orN (p true x.x) (p false x.y)
  else bif x.op == 8 then andN (orN (p true x.x) (p false x.y)) (orN (p false x.x) (p true x.y))
  else bif x.op == 2 then falseN
  else bif x.op == 3 then factN x.i
  else bif x.op == 5 then andN (p false x.x) (p false x.y)
  else bif x.op == 6 then orN (p false x.x) (p false x.y)
  else bif x.op == 9 then knowN x.i (p false x.x)
  else bif x.op == 10 then possN x.i (p false x.x)
  else trueN
/-- The form of the negation of a node. -/
def negS (x : Nd) (p : Bool → Int → List Nd) : List Nd :=
  bif x.op == 1 then falseN
  else bif x.op == 2 then trueN
  else bif x.op == 4 then p false x.x
  else bif x.op == 5 then orN (p true x.x) (p true x.y)
  else bif x.op == 6 then andN (p true x.x) (p true x.y)
  else bif x.op == 7 then andN (p false x.x) (p true x.y)
  else bif x.op == 8 then orN (andN (p false x.x) (p true x.y)) (andN (p true x.x) (p false x.y))
  else bif x.op == 9 then possN x.i (p true x.x)
  else bif x.op == 10 then knowN x.i (p true x.x)
  else notN (posS x p)
def nnfF (c : List Nd) : Nat → Bool → Nat → List Nd
  | 0, _, _ => []
  | k + 1, no, i => bif no then negS (c.getD i Nd.zero) (fun b j => nnfF c k b j.toNat) else posS (c.getD i Nd.zero) (fun b j => nnfF c k b j.toNat)
/-- The form of the formula at a place of a list. -/
def nnfN (c : List Nd) (no : Bool) (i : Nat) : List Nd := nnfF c (i + 1) no i
/-- The operators of the fragment of knowledge. -/
def Few10 (c : List Nd) : Prop := ∀ n ∈ c, 1 ≤ n.op ∧ n.op ≤ 10
/-- rewrite.Nnf's formula. -/
def nnfAll (f : List Nd) : List Nd := bif check f != 0 then [] else nnfN (compactN f) false ((compactN f).length - 1)
def nnfErr (f : List Nd) : Int := bif check f != 0 then check f else bif decide ((nnfAll f).length = 0) then 8 else 0
/-- The negation normal form of the negation. -/
def oppN (f : List Nd) : List Nd := nnfAll (notN f)
end Go.Proofs.YtohoddkcpfamlaaDoor

/- What the reference's constructors of formulas come to: the lists that the program's constructors come to. -/

namespace Go.Proofs.YtohoddkcpfamlaaDoor

/-- The canonical list of a tree, or nothing if it is too long. -/
def shortT (t : Tr) : List Nd := bif decide (200 < (canon t).length) then [] else canon t
theorem short_fit {t : Tr} (h : (canon t).length ≤ 200) : shortT t = canon t := by
  unfold shortT
  rw [decide_eq_false (by omega)]
  rfl
theorem short_long {t : Tr} (h : 200 < (canon t).length) : shortT t = [] := by
  unfold shortT
  rw [decide_eq_true h]
  rfl
/-- The canonical list of a list's last node, or nothing if it is too long. -/
def shortN (l : List Nd) : List Nd := bif decide (200 < (finN l (l.length - 1) []).1.length) then [] else (finN l (l.length - 1) []).1
theorem map_shift0 (f : List Nd) : f.map (shiftN 0) = f := by
  rw [show shiftN 0 = id from by funext m; unfold shiftN; cases hasX m.op <;> cases hasY m.op <;> simp]
  simp
/-- A node with one operand. -/
theorem build_oneS {n : Nd} {f : List Nd} (hf : check f = 0) (h1 : hasX n.op = true) (h2 : hasY n.op = false) (hh : headOk n) : buildN n [f] = shortT (.one n.head (treeOf f)) := by
  obtain ⟨cw, cl, cp, _⟩ := compactN_props hf
  unfold buildN
  have e0 : [f].any (fun o => check o != 0) = false := by simp [hf]
  rw [e0, cond_false]
  have eL : layout [f] 0 [] n = (compactN f, { n with x := ((compactN f).length : Int) - 1 }) := by
    simp only [layout, setOp, List.nil_append, List.length_nil, map_shift0]
    rfl
  rw [eL]
  generalize hm : ({ n with x := ((compactN f).length : Int) - 1 } : Nd) = m
  have mo : m.op = n.op := by rw [← hm]
  have mx : m.x = ((compactN f).length : Int) - 1 := by rw [← hm]
  have mh : m.head = n.head := by
    rw [← hm]
    unfold Nd.head Nd.with_
    simp [h1, h2]
  have hmh : headOk m := by
    rw [← hm]
    exact ⟨hh.1, hh.2.1, hh.2.2.1, fun h => by (rw [h1] at h; cases h), hh.2.2.2.2⟩
  have herr : nodeErr m (compactN f).length = 0 := hmh.err (fun _ => by omega) (fun h => by rw [mo, h2] at h; cases h)
  have hw : Wf (compactN f ++ [m]) := wf_snoc cw (fun _ => by omega) (fun h => by rw [mo, h2] at h; cases h)
  have htr : tr (compactN f ++ [m]) (compactN f).length = .one n.head (treeOf f) := by
    rw [tr_eq hw (n := m) (by simp)]
    unfold mkTr
    rw [mo, h1, h2, mh, mx]
    rw [show (((compactN f).length : Int) - 1).toNat = (compactN f).length - 1 by omega, tr_prefix cw hw (List.prefix_append _ _) _ (by omega)]
    rw [show tr (compactN f) ((compactN f).length - 1) = treeOf (compactN f) from rfl, treeOf_compact hf]
    rfl
  unfold joinN
  have hfin : (finN (compactN f ++ [m]) (compactN f).length []).1 = canon (.one n.head (treeOf f)) := by
    rw [finN_ins hw _ _ (by simp), htr]; rfl
  simp only [herr, hfin]
  rfl
/-- A node with two operands. -/
theorem build_twoS {n : Nd} {f g : List Nd} (hf : check f = 0) (hg : check g = 0) (h1 : hasX n.op = true) (h2 : hasY n.op = true) (hh : headOk n) : buildN n [f, g] = shortT (.two n.head (treeOf f) (treeOf g)) := by
  obtain ⟨cw, cl, cp, _⟩ := compactN_props hf
  obtain ⟨dw, dl, dp, _⟩ := compactN_props hg
  unfold buildN
  have e0 : [f, g].any (fun o => check o != 0) = false := by simp [hf, hg]
  rw [e0, cond_false]
  have eL : layout [f, g] 0 [] n = (compactN f ++ (compactN g).map (shiftN (compactN f).length), { n with x := ((compactN f).length : Int) - 1, y := ((compactN f).length : Int) + (compactN g).length - 1 }) := by
    simp only [layout, setOp, List.nil_append, List.length_nil, map_shift0]
    simp
  rw [eL]
  have hFw := shift_wf cw dw
  have hFl : (compactN f ++ (compactN g).map (shiftN (compactN f).length)).length = (compactN f).length + (compactN g).length := by simp
  have hF1 : tr (compactN f ++ (compactN g).map (shiftN (compactN f).length)) ((compactN f).length - 1) = treeOf f := by
    rw [tr_prefix cw hFw (List.prefix_append _ _) _ (by omega), show tr (compactN f) ((compactN f).length - 1) = treeOf (compactN f) from rfl, treeOf_compact hf]
  have hF2 : tr (compactN f ++ (compactN g).map (shiftN (compactN f).length)) ((compactN f).length + (compactN g).length - 1) = treeOf g := by
    rw [show (compactN f).length + (compactN g).length - 1 = (compactN f).length + ((compactN g).length - 1) by omega, tr_shift cw dw _ (by omega), show tr (compactN g) ((compactN g).length - 1) = treeOf (compactN g) from rfl, treeOf_compact hg]
  generalize compactN f ++ (compactN g).map (shiftN (compactN f).length) = F at *
  generalize hm : ({ n with x := ((compactN f).length : Int) - 1, y := ((compactN f).length : Int) + (compactN g).length - 1 } : Nd) = m
  have mo : m.op = n.op := by rw [← hm]
  have mx : m.x = ((compactN f).length : Int) - 1 := by rw [← hm]
  have my : m.y = ((compactN f).length : Int) + (compactN g).length - 1 := by rw [← hm]
  have mh : m.head = n.head := by
    rw [← hm]
    unfold Nd.head Nd.with_
    simp [h1, h2]
  have hmh : headOk m := by
    rw [← hm]
    exact ⟨hh.1, hh.2.1, hh.2.2.1, fun h => by (rw [h1] at h; cases h), fun h => by (rw [h2] at h; cases h)⟩
  have herr : nodeErr m F.length = 0 := hmh.err (fun _ => by omega) (fun _ => by omega)
  have hw : Wf (F ++ [m]) := wf_snoc hFw (fun _ => by omega) (fun _ => by omega)
  have htr : tr (F ++ [m]) F.length = .two n.head (treeOf f) (treeOf g) := by
    rw [tr_eq hw (n := m) (by simp)]
    unfold mkTr
    rw [mo, h2, mh, mx, my]
    rw [show (((compactN f).length : Int) - 1).toNat = (compactN f).length - 1 by omega, tr_prefix hFw hw (List.prefix_append _ _) _ (by omega), hF1]
    rw [show (((compactN f).length : Int) + (compactN g).length - 1).toNat = (compactN f).length + (compactN g).length - 1 by omega, tr_prefix hFw hw (List.prefix_append _ _) _ (by omega), hF2]
    rfl
  unfold joinN
  have hfin : (finN (F ++ [m]) F.length []).1 = canon (.two n.head (treeOf f) (treeOf g)) := by
    rw [finN_ins hw _ _ (by simp), htr]; rfl
  simp only [herr, hfin]
  rfl
theorem build_bad1 {n : Nd} {f : List Nd} (hf : check f ≠ 0) : buildN n [f] = [] := by
  unfold buildN
  have e0 : [f].any (fun o => check o != 0) = true := by simpa using hf
  rw [e0, cond_true]
end Go.Proofs.YtohoddkcpfamlaaDoor

/- Facts of a proof replaced by formulas, on trees: what each builder and each part comes to. Plain. -/

namespace Go.Proofs.YtohoddkcpfamlaaDoor
open Go.RowKit

theorem eqb_eq {a b : List Nd} (h : eqN a b = true) : a = b := by
  unfold eqN at h
  rw [Bool.and_eq_true] at h
  exact of_decide_eq_true h.2
theorem opxS {f : List Nd} (hc : check f = 0) (ho : hasX (lastN f).op = true) : ∃ k : Nat, (lastN f).x = (k : Int) ∧ k < f.length ∧ (lastN f).x.toNat = k := by
  obtain ⟨hx, _⟩ := check_wf hc _ _ (lastN_get (by have := (check_parts hc).1; omega))
  obtain ⟨h0, h1⟩ := hx ho
  exact ⟨(lastN f).x.toNat, by omega, by omega, rfl⟩
/-- The tree with other trees for its facts. -/
def subT (σ : Int → Option Tr) : Tr → Tr
  | .leaf n => bif n.op == 3 then (σ n.i).getD (.leaf n) else .leaf n
  | .one n a => .one n (subT σ a)
  | .two n a b => .two n (subT σ a) (subT σ b)
def GoodS (σ : Int → Option Tr) : Prop := ∀ i t, σ i = some t → t.ok ∧ t.all Pn
section
variable {σ : Int → Option Tr} (hσ : GoodS σ)
include hσ
theorem subT_ok : ∀ t : Tr, t.ok → (subT σ t).ok
  | .leaf n, h => by
    unfold subT
    cases e : n.op == 3
    · exact h
    · rw [cond_true]
      cases e2 : σ n.i with
      | none => exact h
      | some t => exact (hσ _ _ e2).1
  | .one n a, h => ⟨h.1, h.2.1, h.2.2.1, subT_ok a h.2.2.2⟩
  | .two n a b, h => ⟨h.1, h.2.1, h.2.2.1, subT_ok a h.2.2.2.1, subT_ok b h.2.2.2.2⟩
theorem subT_all : ∀ t : Tr, t.all Pn → (subT σ t).all Pn
  | .leaf n, h => by
    unfold subT
    cases e : n.op == 3
    · exact h
    · rw [cond_true]
      cases e2 : σ n.i with
      | none => exact h
      | some t => exact (hσ _ _ e2).2
  | .one n a, h => ⟨h.1, subT_all a h.2⟩
  | .two n a b, h => ⟨h.1, subT_all a h.2.1, subT_all b h.2.2⟩
end
/-- A formula and what comes of it. -/
def RelS (σ : Int → Option Tr) (f f' : List Nd) : Prop := ∃ t, Fo 200 t f ∧ f = canon t ∧ Fo 200 (subT σ t) f' ∧ f' = canon (subT σ t)
section
variable {σ : Int → Option Tr} {f f' g g' h h' : List Nd}
theorem rel_inj (h1 : RelS σ f f') (h2 : RelS σ f g') : f' = g' := by
  obtain ⟨t, a1, a2, a3, a4⟩ := h1
  obtain ⟨u, b1, b2, b3, b4⟩ := h2
  have e : t = u := canon_inj a1.ok b1.ok (a2.symm.trans b2)
  rw [a4, b4, e]
theorem rel_eqN (h1 : RelS σ f f') (h2 : RelS σ g g') (h : eqN f g = true) : eqN f' g' = true := by
  have e := eqb_eq h
  subst e
  have e2 := rel_inj h1 h2
  subst e2
  obtain ⟨t, a1, a2, a3, a4⟩ := h1
  rw [a4]
  exact eqN_self a3.ok
theorem rel_true : RelS σ trueN trueN := by
  have e : trueN = canon (.leaf trD) := by decide +kernel
  have hp : Pn trD := ⟨⟨rfl, rfl, rfl, fun h => rfl, fun h => rfl⟩, by decide⟩
  have hf : Fo 200 (.leaf trD) trueN := by rw [e]; exact fo_canon ⟨rfl, rfl⟩ hp (by decide +kernel) (by decide)
  exact ⟨.leaf trD, hf, e, hf, e⟩
theorem rel_false : RelS σ falseN falseN := by
  have hf : Fo 200 (.leaf faD) falseN := by rw [false_fo.1]; exact fo_canon ⟨rfl, rfl⟩ faD_ok (by decide +kernel) (by decide)
  exact ⟨.leaf faD, hf, false_fo.1, hf, false_fo.1⟩
theorem short_can {t u : Tr} (hu : u.ok) (ht : t.ok) (h : shortT t = canon u) : t = u := by
  have hp := canon_pos hu
  by_cases hl : (canon t).length ≤ 200
  · rw [short_fit hl] at h
    exact canon_inj ht hu h
  · rw [short_long (by omega)] at h
    rw [← h] at hp
    simp at hp
theorem rel_bld2 {n : Nd} (h1 : hasX n.op = true) (h2 : hasY n.op = true) (hp : Pn n) (hn : n.head = n) (r1 : RelS σ f f') (r2 : RelS σ g g') (r3 : RelS σ h h') (e : eqN (buildN n [f, g]) h = true) : eqN (buildN n [f', g']) h' = true := by
  obtain ⟨t, a1, a2, a3, a4⟩ := r1
  obtain ⟨u, b1, b2, b3, b4⟩ := r2
  obtain ⟨v, c1, c2, c3, c4⟩ := r3
  have e := eqb_eq e
  rw [build_twoS a1.ck b1.ck h1 h2 hp.1, a1.tree, b1.tree, hn, c2] at e
  have ev := short_can (t := .two n t u) c1.ok ⟨h1, h2, hn, a1.ok, b1.ok⟩ e
  rw [build_twoS a3.ck b3.ck h1 h2 hp.1, a3.tree, b3.tree, hn]
  subst ev
  have el : (canon (subT σ (.two n t u))).length ≤ 200 := by rw [← c4]; exact c3.len
  rw [show Tr.two n (subT σ t) (subT σ u) = subT σ (.two n t u) from rfl, short_fit el, c4]
  exact eqN_self c3.ok
theorem rel_bld1 {n : Nd} (h1 : hasX n.op = true) (h2 : hasY n.op = false) (hp : Pn n) (hn : n.head = n) (r1 : RelS σ f f') (r3 : RelS σ h h') (e : eqN (buildN n [f]) h = true) : eqN (buildN n [f']) h' = true := by
  obtain ⟨t, a1, a2, a3, a4⟩ := r1
  obtain ⟨v, c1, c2, c3, c4⟩ := r3
  have e := eqb_eq e
  rw [build_oneS a1.ck h1 h2 hp.1, a1.tree, hn, c2] at e
  have ev := short_can (t := .one n t) c1.ok ⟨h1, h2, hn, a1.ok⟩ e
  rw [build_oneS a3.ck h1 h2 hp.1, a3.tree, hn]
  subst ev
  have el : (canon (subT σ (.one n t))).length ≤ 200 := by rw [← c4]; exact c3.len
  rw [show Tr.one n (subT σ t) = subT σ (.one n t) from rfl, short_fit el, c4]
  exact eqN_self c3.ok
theorem pn_op {op : Int} (h : op = 4 ∨ op = 5 ∨ op = 6 ∨ op = 7 ∨ op = 8) : Pn (opD op) := by
  rcases h with rfl | rfl | rfl | rfl | rfl <;> exact ⟨⟨rfl, rfl, rfl, fun h => rfl, fun h => rfl⟩, by decide⟩
theorem rel_and (r1 : RelS σ f f') (r2 : RelS σ g g') (r3 : RelS σ h h') (e : eqN (andN f g) h = true) : eqN (andN f' g') h' = true := rel_bld2 (n := opD 5) rfl rfl (pn_op (by omega)) rfl r1 r2 r3 e
theorem rel_imp (r1 : RelS σ f f') (r2 : RelS σ g g') (r3 : RelS σ h h') (e : eqN (impN f g) h = true) : eqN (impN f' g') h' = true := rel_bld2 (n := opD 7) rfl rfl (pn_op (by omega)) rfl r1 r2 r3 e
theorem rel_not (r1 : RelS σ f f') (r3 : RelS σ h h') (e : eqN (notN f) h = true) : eqN (notN f') h' = true := rel_bld1 (n := opD 4) rfl rfl (pn_op (by omega)) rfl r1 r3 e
theorem pn_ag {op a : Int} (h : op = 9 ∨ op = 10) (ha : 0 ≤ a ∧ a < 4) : Pn ⟨op, a, 0, 0, 0, 0⟩ := by
  obtain ⟨a0, a1⟩ := ha
  have : a = 0 ∨ a = 1 ∨ a = 2 ∨ a = 3 := by omega
  rcases h with rfl | rfl <;> rcases this with rfl | rfl | rfl | rfl <;> exact ⟨⟨rfl, rfl, rfl, fun h => rfl, fun h => rfl⟩, by decide⟩
theorem rel_know {a : Int} (ha : 0 ≤ a ∧ a < 4) (r1 : RelS σ f f') (r3 : RelS σ h h') (e : eqN (knowN a f) h = true) : eqN (knowN a f') h' = true := rel_bld1 (n := ⟨9, a, 0, 0, 0, 0⟩) rfl rfl (pn_ag (.inl rfl) ha) rfl r1 r3 e
theorem rel_poss {a : Int} (ha : 0 ≤ a ∧ a < 4) (r1 : RelS σ f f') (r3 : RelS σ h h') (e : eqN (possN a f) h = true) : eqN (possN a f') h' = true := rel_bld1 (n := ⟨10, a, 0, 0, 0, 0⟩) rfl rfl (pn_ag (.inr rfl) ha) rfl r1 r3 e
end
section
variable {σ : Int → Option Tr} (hσ : GoodS σ) {f f' : List Nd}
include hσ
theorem rel_sub {a : Tr} (h1 : Fo 200 a (canon a)) (hl : (canon (subT σ a)).length ≤ 200) : RelS σ (canon a) (canon (subT σ a)) :=
  ⟨a, h1, rfl, fo_canon (subT_ok hσ a h1.ok) (subT_all hσ a h1.all) hl (Nat.le_refl _), rfl⟩
theorem rel_part {op : Int} (ho : op = 5 ∨ op = 6 ∨ op = 7 ∨ op = 8) (r : RelS σ f f') (h : (lastN f).op = op) : (lastN f').op = op ∧ RelS σ (subN f (lastN f).x) (subN f' (lastN f').x) ∧ RelS σ (subN f (lastN f).y) (subN f' (lastN f').y) := by
  obtain ⟨t, a1, a2, a3, a4⟩ := r
  cases a1.shape (Nat.le_refl _) with
  | two op' a b ho' ht h1 hx hy ha hb =>
    subst ht
    have hl : (canon (Tr.two (opD op') (subT σ a) (subT σ b))).length ≤ 200 := by
      have := a3.len
      rw [a4] at this
      exact this
    obtain ⟨l1, l2⟩ := two_len (n := opD op') (a := subT σ a) (b := subT σ b) a3.ok
    obtain ⟨b1, _, b2, b3⟩ := last_two a3.ck a3.tree
    refine ⟨by rw [b1, ← h, h1]; rfl, ?_, ?_⟩
    · rw [b2, show subN f (lastN f).x = canon a from hx]; exact rel_sub hσ ha (Nat.le_trans l1 hl)
    · rw [b3, show subN f (lastN f).y = canon b from hy]; exact rel_sub hσ hb (Nat.le_trans l2 hl)
  | not a ht h1 hx ha => omega
  | know i a hi ht h1 h2 hx ha => omega
  | poss i a hi ht h1 h2 hx ha => omega
  | true_ ht h1 => omega
  | false_ ht h1 => omega
  | fact n ht h0 h1 => omega
theorem rel_one {op : Int} (ho : op = 4 ∨ op = 9 ∨ op = 10) (r : RelS σ f f') (h : (lastN f).op = op) : (lastN f').op = op ∧ (lastN f').i = (lastN f).i ∧ RelS σ (subN f (lastN f).x) (subN f' (lastN f').x) ∧ (op ≠ 4 → 0 ≤ (lastN f).i ∧ (lastN f).i < 4) := by
  obtain ⟨t, a1, a2, a3, a4⟩ := r
  have key : ∀ (n : Nd) (a : Tr), t = .one n a → subN f (lastN f).x = canon a → Fo 200 a (canon a) → (lastN f').op = n.op ∧ (lastN f').i = n.i ∧ RelS σ (subN f (lastN f).x) (subN f' (lastN f').x) := by
    intro n a ht hx ha
    subst ht
    have hl : (canon (Tr.one n (subT σ a))).length ≤ 200 := by
      have := a3.len
      rw [a4] at this
      exact this
    have l1 := one_len (n := n) (a := subT σ a) a3.ok
    obtain ⟨b1, b2, _, b3, _⟩ := last_one a3.ck a3.tree
    refine ⟨b1, b2, ?_⟩
    rw [b3, hx]
    exact rel_sub hσ ha (Nat.le_trans l1 hl)
  cases a1.shape (Nat.le_refl _) with
  | two op' a b ho' ht h1 hx hy ha hb => omega
  | not a ht h1 hx ha =>
    obtain ⟨k1, k2, k3⟩ := key _ a ht hx ha
    obtain ⟨c1, c2, _⟩ := last_one a1.ck (a1.tree.trans ht)
    exact ⟨by rw [k1, ← h, c1], by rw [k2, c2], k3, fun h4 => absurd (h.symm.trans h1) h4⟩
  | know i a hi ht h1 h2 hx ha =>
    obtain ⟨k1, k2, k3⟩ := key _ a ht hx ha
    obtain ⟨c1, c2, _⟩ := last_one a1.ck (a1.tree.trans ht)
    exact ⟨by rw [k1, ← h, c1], by rw [k2, c2], k3, fun _ => by rw [h2]; exact hi⟩
  | poss i a hi ht h1 h2 hx ha =>
    obtain ⟨k1, k2, k3⟩ := key _ a ht hx ha
    obtain ⟨c1, c2, _⟩ := last_one a1.ck (a1.tree.trans ht)
    exact ⟨by rw [k1, ← h, c1], by rw [k2, c2], k3, fun _ => by rw [h2]; exact hi⟩
  | true_ ht h1 => omega
  | false_ ht h1 => omega
  | fact n ht h0 h1 => omega
/-- The node below a negation. -/
theorem rel_inner (r : RelS σ f f') (h : (lastN f).op = 4) (h9 : (innerN f).op = 9) : (innerN f').op = 9 ∧ (innerN f').i = (innerN f).i := by
  obtain ⟨h4', _⟩ := rel_one hσ (.inl rfl) r h
  obtain ⟨t, a1, a2, a3, a4⟩ := r
  have e1 : innerN f = f.getD (lastN f).x.toNat Nd.zero := by unfold innerN; rw [h]; rfl
  have e2 : innerN f' = f'.getD (lastN f').x.toNat Nd.zero := by unfold innerN; rw [h4']; rfl
  have ho : hasX (lastN f).op = true := by rw [h]; rfl
  obtain ⟨k, k1, k2, k3⟩ := opxS a1.ck ho
  have hk : f[k]? = some (innerN f) := by
    rw [e1, k3, List.getD_eq_getElem?_getD, List.getElem?_eq_getElem k2]; rfl
  have ht : tr f k = .one (innerN f).head (tr f (innerN f).x.toNat) := by
    rw [tr_eq (check_wf a1.ck) hk]
    unfold mkTr
    rw [h9]; rfl
  cases a1.shape (Nat.le_refl _) with
  | not a hta h1 hx ha =>
    have ea : a = .one (innerN f).head (tr f (innerN f).x.toNat) := by
      obtain ⟨_, _, c3, _, _⟩ := last_one a1.ck (a1.tree.trans hta)
      rw [← c3, k3, ht]
    subst hta
    obtain ⟨_, _, d3, _, d5⟩ := last_one a3.ck a3.tree
    rw [ea] at d3
    obtain ⟨p1, p2⟩ := top_at (check_wf a3.ck) d5 d3
    rw [e2, p1, p2]
    exact ⟨h9, rfl⟩
  | two op' a b ho' ht h1 hx hy ha hb => omega
  | know i a hi ht h1 h2 hx ha => omega
  | poss i a hi ht h1 h2 hx ha => omega
  | true_ ht h1 => omega
  | false_ ht h1 => omega
  | fact n ht h0 h1 => omega
end
end Go.Proofs.YtohoddkcpfamlaaDoor
