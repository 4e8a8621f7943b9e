/- Formulas as trees: the canonical list of a formula is the list of its tree, and tells it. -/
import Derived.Test.YtfcmdiigfgbgbaaGreatGF5
import Derived.Test.YtfcmdiigfgbgbaaGreatGA
import Derived.Laws.OwnMore
import Derived.Deep.RegionHeld3

namespace Go.Proofs.YtfcmdiigfgbgbaaGreat

/-- The tree of a formula; a node's own operand numbers are 0 in it. -/
inductive Tr where
  | leaf (n : Nd)
  | one (n : Nd) (a : Tr)
  | two (n : Nd) (a b : Tr)
def Nd.head (n : Nd) : Nd := n.with_ 0 0
def Tr.ok : Tr → Prop
  | .leaf n => hasX n.op = false ∧ hasY n.op = false
  | .one n a => hasX n.op = true ∧ hasY n.op = false ∧ n.head = n ∧ a.ok
  | .two n a b => hasX n.op = true ∧ hasY n.op = true ∧ n.head = n ∧ a.ok ∧ b.ok
def Tr.size : Tr → Nat
  | .leaf _ => 1
  | .one _ a => a.size + 1
  | .two _ a b => a.size + b.size + 1
def Tr.top : Tr → Nd
  | .leaf n => n
  | .one n _ => n
  | .two n _ _ => n
def trF (f : List Nd) : Nat → Nat → Tr
  | 0, _ => .leaf Nd.zero
  | k + 1, i => bif hasY (f.getD i Nd.zero).op then .two (f.getD i Nd.zero).head (trF f k (f.getD i Nd.zero).x.toNat) (trF f k (f.getD i Nd.zero).y.toNat)
      else bif hasX (f.getD i Nd.zero).op then .one (f.getD i Nd.zero).head (trF f k (f.getD i Nd.zero).x.toNat) else .leaf (f.getD i Nd.zero)
/-- The tree of the formula at a place of a list. -/
def tr (f : List Nd) (i : Nat) : Tr := trF f (i + 1) i
def treeOf (f : List Nd) : Tr := tr f (f.length - 1)
/-- What the node is with its operands' trees. -/
def mkTr (n : Nd) (a b : Tr) : Tr := bif hasY n.op then .two n.head a b else bif hasX n.op then .one n.head a else .leaf n

theorem trF_fuel {f : List Nd} (hf : Wf f) : ∀ (k i : Nat), i < k → i < f.length → trF f k i = tr f i := by
  intro k
  induction k using Nat.strongRecOn with
  | _ k ih =>
    intro i h hi
    cases k with
    | zero => omega
    | succ k =>
      obtain ⟨n, hn⟩ : ∃ n, f[i]? = some n := ⟨_, List.getElem?_eq_getElem hi⟩
      obtain ⟨hx, hy⟩ := hf i n hn
      have e : ∀ (b : Nat), b < i → trF f k b = trF f i b := fun b hb => by
        rw [ih k (by omega) b (by omega) (by omega)]
        by_cases hik : i = k
        · subst hik; exact (ih i (by omega) b hb (by omega)).symm
        · exact (ih i (by omega) b hb (by omega)).symm
      unfold tr
      simp only [trF, getD_of hn]
      cases h2 : hasY n.op
      · cases h1 : hasX n.op
        · rfl
        · have := hx h1
          simp only [cond_true, cond_false]
          rw [e _ (by omega)]
      · have h1 := hasX_of_hasY h2
        have := hx h1
        have := hy h2
        simp only [cond_true]
        rw [e _ (by omega), e _ (by omega)]
theorem tr_eq {f : List Nd} (hf : Wf f) {i : Nat} {n : Nd} (hn : f[i]? = some n) : tr f i = mkTr n (tr f n.x.toNat) (tr f n.y.toNat) := by
  have hi : i < f.length := (List.getElem?_eq_some_iff.1 hn).1
  obtain ⟨hx, hy⟩ := hf i n hn
  conv => lhs; unfold tr trF
  simp only [getD_of hn, mkTr]
  cases h2 : hasY n.op
  · cases h1 : hasX n.op
    · rfl
    · have := hx h1
      simp only [cond_true, cond_false]
      rw [trF_fuel hf _ _ (by omega) (by omega)]
  · have h1 := hasX_of_hasY h2
    have := hx h1
    have := hy h2
    simp only [cond_true]
    rw [trF_fuel hf _ _ (by omega) (by omega), trF_fuel hf _ _ (by omega) (by omega)]
theorem mkTr_congr {n : Nd} {a a' b b' : Tr} (hx : hasX n.op = true → a = a') (hy : hasY n.op = true → b = b') : mkTr n a b = mkTr n a' b' := by
  unfold mkTr
  cases h2 : hasY n.op
  · cases h1 : hasX n.op
    · rfl
    · rw [hx h1]; rfl
  · rw [hx (hasX_of_hasY h2), hy h2]
theorem tr_prefix {f g : List Nd} (hf : Wf f) (hg : Wf g) (hp : f <+: g) : ∀ i, i < f.length → tr g i = tr f i := by
  intro i
  induction i using Nat.strongRecOn with
  | _ i ih =>
    intro hi
    obtain ⟨n, hn⟩ : ∃ n, f[i]? = some n := ⟨_, List.getElem?_eq_getElem hi⟩
    obtain ⟨hx, hy⟩ := hf i n hn
    have hn' : g[i]? = some n := by
      obtain ⟨t, rfl⟩ := hp
      rw [List.getElem?_append_left hi]; exact hn
    rw [tr_eq hf hn, tr_eq hg hn']
    exact mkTr_congr (fun h => by have := hx h; exact ih _ (by omega) (by omega)) (fun h => by have := hy h; exact ih _ (by omega) (by omega))
theorem head_head (n : Nd) : n.head.head = n.head := by
  unfold Nd.head Nd.with_
  cases hasX n.op <;> cases hasY n.op <;> rfl
theorem with_head (n : Nd) (a b : Nat) : (n.with_ a b).head = n.head := by
  unfold Nd.head Nd.with_
  cases hasX n.op <;> cases hasY n.op <;> rfl
theorem head_with (n : Nd) (a b : Nat) : n.head.with_ a b = n.with_ a b := by
  unfold Nd.head Nd.with_
  cases hasX n.op <;> cases hasY n.op <;> rfl
theorem with_op (n : Nd) (a b : Nat) : (n.with_ a b).op = n.op := rfl
theorem head_op (n : Nd) : n.head.op = n.op := rfl
theorem mkTr_ok {n : Nd} {a b : Tr} (ha : hasX n.op = true → a.ok) (hb : hasY n.op = true → b.ok) : (mkTr n a b).ok := by
  unfold mkTr
  cases h2 : hasY n.op
  · cases h1 : hasX n.op
    · exact ⟨h1, h2⟩
    · exact ⟨h1, h2, head_head n, ha h1⟩
  · have h1 := hasX_of_hasY h2
    exact ⟨h1, h2, head_head n, ha h1, hb h2⟩
theorem tr_ok {f : List Nd} (hf : Wf f) : ∀ i, i < f.length → (tr f i).ok := by
  intro i
  induction i using Nat.strongRecOn with
  | _ i ih =>
    intro hi
    obtain ⟨n, hn⟩ : ∃ n, f[i]? = some n := ⟨_, List.getElem?_eq_getElem hi⟩
    obtain ⟨hx, hy⟩ := hf i n hn
    rw [tr_eq hf hn]
    exact mkTr_ok (fun h => by have := hx h; exact ih _ (by omega) (by omega)) (fun h => by have := hy h; exact ih _ (by omega) (by omega))

/-- A tree put into a list: the list behind it, and the root's place. -/
def ins : Tr → List Nd → List Nd × Nat
  | .leaf n, o => (addN o n, o.idxOf n)
  | .one n a, o => (addN (ins a o).1 (n.with_ (ins a o).2 0), (ins a o).1.idxOf (n.with_ (ins a o).2 0))
  | .two n a b, o => (addN (ins b (ins a o).1).1 (n.with_ (ins a o).2 (ins b (ins a o).1).2), (ins b (ins a o).1).1.idxOf (n.with_ (ins a o).2 (ins b (ins a o).1).2))
def canon (t : Tr) : List Nd := (ins t []).1

theorem with_leaf {n : Nd} (h1 : hasX n.op = false) (h2 : hasY n.op = false) (a b : Nat) : n.with_ a b = n := by
  unfold Nd.with_; rw [h1, h2]; rfl
theorem with_one {n : Nd} (h2 : hasY n.op = false) (a b c : Nat) : n.with_ a b = n.with_ a c := by
  unfold Nd.with_; rw [h2]; rfl
theorem finN_ins {f : List Nd} (hf : Wf f) : ∀ (i : Nat) (o : List Nd), i < f.length → finN f i o = ins (tr f i) o := by
  intro i
  induction i using Nat.strongRecOn with
  | _ i ih =>
    intro o hi
    obtain ⟨n, hn⟩ : ∃ n, f[i]? = some n := ⟨_, List.getElem?_eq_getElem hi⟩
    obtain ⟨hx, hy⟩ := hf i n hn
    rw [finN_eq hf hn, tr_eq hf hn]
    unfold mkTr opX opY
    cases h2 : hasY n.op
    · cases h1 : hasX n.op
      · simp only [cond_false, ins, Bool.false_eq_true, if_false, with_leaf h1 h2]
      · have := hx h1
        simp only [cond_false, cond_true, ins, Bool.false_eq_true, if_false, if_true, head_with]
        rw [ih _ (by omega) _ (by omega), with_one h2 _ _ 0]
    · have h1 := hasX_of_hasY h2
      have := hx h1
      have := hy h2
      simp only [h1, cond_true, ins, if_true, head_with]
      rw [ih n.x.toNat (by omega) o (by omega), ih n.y.toNat (by omega) _ (by omega)]

theorem wf_addN {o : List Nd} {m : Nd} (ho : Wf o) (hx : hasX m.op = true → 0 ≤ m.x ∧ m.x < o.length) (hy : hasY m.op = true → 0 ≤ m.y ∧ m.y < o.length) : Wf (addN o m) := by
  unfold addN
  split
  · exact ho
  · exact wf_snoc ho hx hy
theorem addN_get (o : List Nd) (m : Nd) : (addN o m)[o.idxOf m]? = some m := by
  rw [← idxOf_addN]
  rw [List.getElem?_eq_getElem (List.idxOf_lt_length_of_mem (mem_addN o m))]
  rw [List.getElem_idxOf]
structure InsOk (t : Tr) (o : List Nd) : Prop where
  wf : Wf (ins t o).1
  pre : o <+: (ins t o).1
  lt : (ins t o).2 < (ins t o).1.length
  tree : tr (ins t o).1 (ins t o).2 = t
theorem ins_ok : ∀ (t : Tr) (o : List Nd), t.ok → Wf o → InsOk t o
  | .leaf n, o, ⟨h1, h2⟩, ho => by
    have hw : Wf (addN o n) := wf_addN ho (fun h => by rw [h1] at h; cases h) (fun h => by rw [h2] at h; cases h)
    refine ⟨hw, addN_prefix _ _, idxOf_lt_addN _ _, ?_⟩
    show tr (addN o n) (o.idxOf n) = _
    rw [tr_eq hw (addN_get o n)]
    unfold mkTr
    rw [h1, h2]
    rfl
  | .one n a, o, ⟨h1, h2, h3, ha⟩, ho => by
    have A := ins_ok a o ha ho
    have hw : Wf (addN (ins a o).1 (n.with_ (ins a o).2 0)) := wf_addN A.wf (fun h => by
      have := A.lt
      simp only [Nd.with_, h1, cond_true]
      omega) (fun h => by rw [with_op, h2] at h; cases h)
    refine ⟨hw, A.pre.trans (addN_prefix _ _), idxOf_lt_addN _ _, ?_⟩
    show tr (addN (ins a o).1 (n.with_ (ins a o).2 0)) ((ins a o).1.idxOf (n.with_ (ins a o).2 0)) = _
    rw [tr_eq hw (addN_get _ _)]
    unfold mkTr
    rw [with_op, h1, h2, with_head, h3]
    have e : (n.with_ (ins a o).2 0).x.toNat = (ins a o).2 := by simp [Nd.with_, h1]
    rw [e, tr_prefix A.wf hw (addN_prefix _ _) _ A.lt, A.tree]
    rfl
  | .two n a b, o, ⟨h1, h2, h3, ha, hb⟩, ho => by
    have A := ins_ok a o ha ho
    have B := ins_ok b _ hb A.wf
    have hlt : (ins a o).2 < (ins b (ins a o).1).1.length := Nat.lt_of_lt_of_le A.lt B.pre.length_le
    have hw : Wf (addN (ins b (ins a o).1).1 (n.with_ (ins a o).2 (ins b (ins a o).1).2)) := wf_addN B.wf (fun h => by
      simp only [Nd.with_, h1, cond_true]
      omega) (fun h => by
      have := B.lt
      simp only [Nd.with_, h2, cond_true]
      omega)
    refine ⟨hw, (A.pre.trans B.pre).trans (addN_prefix _ _), idxOf_lt_addN _ _, ?_⟩
    show tr (addN (ins b (ins a o).1).1 (n.with_ (ins a o).2 (ins b (ins a o).1).2)) ((ins b (ins a o).1).1.idxOf (n.with_ (ins a o).2 (ins b (ins a o).1).2)) = _
    rw [tr_eq hw (addN_get _ _)]
    unfold mkTr
    rw [with_op, h2, with_head, h3]
    have e : (n.with_ (ins a o).2 (ins b (ins a o).1).2).x.toNat = (ins a o).2 := by simp [Nd.with_, h1]
    have e' : (n.with_ (ins a o).2 (ins b (ins a o).1).2).y.toNat = (ins b (ins a o).1).2 := by simp [Nd.with_, h2]
    rw [e, e', tr_prefix A.wf hw (B.pre.trans (addN_prefix _ _)) _ A.lt, A.tree, tr_prefix B.wf hw (addN_prefix _ _) _ B.lt, B.tree]
    rfl

/-- The trees in a list are below a bound. -/
def Below (N : Nat) (o : List Nd) : Prop := ∀ k, k < o.length → (tr o k).size < N
theorem below_addN {N : Nat} {o : List Nd} {m : Nd} (ho : Wf o) (hw : Wf (addN o m)) (h : Below N o) (hm : (tr (addN o m) (o.idxOf m)).size < N) : Below N (addN o m) := by
  intro k hk
  by_cases hko : k < o.length
  · rw [tr_prefix ho hw (addN_prefix _ _) _ hko]
    exact h k hko
  · have hne : m ∉ o := fun hm' => by
      unfold addN at hk
      rw [if_pos hm'] at hk
      exact hko hk
    have : k = o.idxOf m := by
      rw [List.idxOf_eq_length hne]
      unfold addN at hk
      rw [if_neg hne] at hk
      simp at hk
      omega
    rw [this]
    exact hm
theorem ins_below : ∀ (t : Tr) (o : List Nd) (N : Nat), t.ok → Wf o → Below N o → t.size < N → Below N (ins t o).1
  | .leaf n, o, N, ht, ho, hb, hs => by
    have I := ins_ok (.leaf n) o ht ho
    exact below_addN ho I.wf hb (Nat.lt_of_le_of_lt (Nat.le_of_eq (congrArg Tr.size I.tree)) hs)
  | .one n a, o, N, ht, ho, hb, hs => by
    have I := ins_ok (.one n a) o ht ho
    have A := ins_ok a o ht.2.2.2 ho
    have hs' : a.size + 1 < N := hs
    exact below_addN A.wf I.wf (ins_below a o N ht.2.2.2 ho hb (by omega)) (Nat.lt_of_le_of_lt (Nat.le_of_eq (congrArg Tr.size I.tree)) hs)
  | .two n a b, o, N, ht, ho, hb, hs => by
    have I := ins_ok (.two n a b) o ht ho
    have A := ins_ok a o ht.2.2.2.1 ho
    have B := ins_ok b _ ht.2.2.2.2 A.wf
    have hs' : a.size + b.size + 1 < N := hs
    exact below_addN B.wf I.wf (ins_below b _ N ht.2.2.2.2 A.wf (ins_below a o N ht.2.2.2.1 ho hb (by omega)) (by omega)) (Nat.lt_of_le_of_lt (Nat.le_of_eq (congrArg Tr.size I.tree)) hs)
theorem below_nil (N : Nat) : Below N [] := fun k h => absurd h (by simp)
theorem last_addN {o : List Nd} {m : Nd} {t : Tr} (hb : Below t.size o) (ht : tr (addN o m) (o.idxOf m) = t) : o.idxOf m + 1 = (addN o m).length := by
  have hne : m ∉ o := fun hm => by
    have hlt := List.idxOf_lt_length_of_mem hm
    have := hb _ hlt
    have e : addN o m = o := by unfold addN; rw [if_pos hm]
    rw [e] at ht
    rw [ht] at this
    omega
  rw [List.idxOf_eq_length hne]
  unfold addN
  rw [if_neg hne]
  simp
/-- The root of a canonical list is its last node. -/
theorem ins_last (t : Tr) (ht : t.ok) : (ins t []).2 + 1 = (canon t).length := by
  have I := ins_ok t [] ht wf_nil
  cases t with
  | leaf n => exact last_addN (below_nil _) I.tree
  | one n a =>
    have A := ins_ok a [] ht.2.2.2 wf_nil
    exact last_addN (t := .one n a) (ins_below a [] _ ht.2.2.2 wf_nil (below_nil _) (Nat.lt_succ_self _)) I.tree
  | two n a b =>
    have A := ins_ok a [] ht.2.2.2.1 wf_nil
    have B := ins_ok b _ ht.2.2.2.2 A.wf
    have e : (Tr.two n a b).size = a.size + b.size + 1 := rfl
    exact last_addN (t := .two n a b) (ins_below b _ _ ht.2.2.2.2 A.wf (ins_below a [] _ ht.2.2.2.1 wf_nil (below_nil _) (by omega)) (by omega)) I.tree
theorem canon_wf {t : Tr} (ht : t.ok) : Wf (canon t) := (ins_ok t [] ht wf_nil).wf
theorem canon_pos {t : Tr} (ht : t.ok) : 0 < (canon t).length := by have := ins_last t ht; omega
theorem treeOf_canon {t : Tr} (ht : t.ok) : treeOf (canon t) = t := by
  unfold treeOf
  have h := ins_last t ht
  rw [show (canon t).length - 1 = (ins t []).2 by omega]
  exact (ins_ok t [] ht wf_nil).tree
theorem canon_inj {s t : Tr} (hs : s.ok) (ht : t.ok) (h : canon s = canon t) : s = t := by
  rw [← treeOf_canon hs, ← treeOf_canon ht, h]
end Go.Proofs.YtfcmdiigfgbgbaaGreat

/- What the functions on formulas come to on trees. -/

namespace Go.Proofs.YtfcmdiigfgbgbaaGreat

theorem treeOf_ok {f : List Nd} (h : check f = 0) : (treeOf f).ok := tr_ok (check_wf h) _ (by have := (check_parts h).1; omega)
theorem compactN_tree {f : List Nd} (h : check f = 0) : compactN f = canon (treeOf f) := by
  rw [compactN_eq h, finN_ins (check_wf h) _ _ (by have := (check_parts h).1; omega)]
  rfl
theorem subN_tree {f : List Nd} (h : check f = 0) {z : Nat} (hz : z < f.length) : subN f z = canon (tr f z) := by
  unfold subN
  have e : (decide ((z : Int) < 0) || decide ((f.length : Int) ≤ (z : Int))) = false := by simp; omega
  rw [h, e, Int.toNat_natCast, finN_ins (check_wf h) _ _ hz]
  rfl
theorem treeOf_compact {f : List Nd} (h : check f = 0) : treeOf (compactN f) = treeOf f := by
  rw [compactN_tree h, treeOf_canon (treeOf_ok h)]
theorem compactN_inj {f g : List Nd} (hf : check f = 0) (hg : check g = 0) : compactN f = compactN g ↔ treeOf f = treeOf g := by
  rw [compactN_tree hf, compactN_tree hg]
  exact ⟨canon_inj (treeOf_ok hf) (treeOf_ok hg), fun e => by rw [e]⟩
theorem sameN_tree {f g : List Nd} : sameN f g = true ↔ check f = 0 ∧ check g = 0 ∧ treeOf f = treeOf g := by
  unfold sameN
  rw [Bool.and_eq_true, Bool.and_eq_true, beq_iff_eq, beq_iff_eq, decide_eq_true_iff]
  constructor
  · rintro ⟨a, b, c⟩
    exact ⟨a, b, (compactN_inj a b).1 c⟩
  · rintro ⟨a, b, c⟩
    exact ⟨a, b, (compactN_inj a b).2 c⟩
theorem compact_twice {f : List Nd} (h : check f = 0) : compactN (compactN f) = compactN f := by
  rw [compactN_tree (compactN_check h), treeOf_compact h, compactN_tree h]

theorem tr_shift {a b : List Nd} (ha : Wf a) (hb : Wf b) : ∀ k, k < b.length → tr (a ++ b.map (shiftN a.length)) (a.length + k) = tr b k := by
  intro k
  induction k using Nat.strongRecOn with
  | _ k ih =>
    intro hk
    obtain ⟨n, hn⟩ : ∃ n, b[k]? = some n := ⟨_, List.getElem?_eq_getElem hk⟩
    obtain ⟨hx, hy⟩ := hb k n hn
    have hn' : (a ++ b.map (shiftN a.length))[a.length + k]? = some (shiftN a.length n) := by
      rw [List.getElem?_append_right (by omega), Nat.add_sub_cancel_left, List.getElem?_map, hn]; rfl
    rw [tr_eq (shift_wf ha hb) hn', tr_eq hb hn]
    have e0 : (shiftN a.length n).op = n.op := rfl
    have ehead : (shiftN a.length n).head = n.head := by
      unfold Nd.head Nd.with_ shiftN
      cases hasX n.op <;> cases hasY n.op <;> rfl
    unfold mkTr
    rw [e0, ehead]
    cases h2 : hasY n.op
    · cases h1 : hasX n.op
      · simp only [cond_false]
        congr 1
        unfold shiftN
        rw [h1, h2]
        rfl
      · have := hx h1
        have e1 : (shiftN a.length n).x.toNat = a.length + n.x.toNat := by simp only [shiftN, h1, cond_true]; omega
        rw [e1, ih _ (by omega) (by omega)]
        rfl
    · have h1 := hasX_of_hasY h2
      have := hx h1
      have := hy h2
      have e1 : (shiftN a.length n).x.toNat = a.length + n.x.toNat := by simp only [shiftN, h1, cond_true]; omega
      have e2 : (shiftN a.length n).y.toNat = a.length + n.y.toNat := by simp only [shiftN, h2, cond_true]; omega
      rw [e1, e2, ih n.x.toNat (by omega) (by omega), ih n.y.toNat (by omega) (by omega)]
      rfl

/-- A node with one operand. -/
theorem build_one {n : Nd} {f : List Nd} (hf : check f = 0) (h1 : hasX n.op = true) (h2 : hasY n.op = false) (hh : headOk n) (hl : f.length < 200) : buildN n [f] = canon (.one n.head (treeOf f)) := by
  obtain ⟨cw, cl, cp, _⟩ := compactN_props hf
  unfold buildN
  have e0 : [f].any (fun o => check o != 0) = false := by simp [hf]
  rw [e0, cond_false]
  have eL : layout [f] 0 [] n = (compactN f, { n with x := ((compactN f).length : Int) - 1 }) := by
    simp only [layout, setOp, List.nil_append, List.length_nil]
    have : (compactN f).map (shiftN 0) = compactN f := by
      rw [show shiftN 0 = id from by funext m; unfold shiftN; cases hasX m.op <;> cases hasY m.op <;> simp]
      simp
    rw [this]
    rfl
  rw [eL]
  generalize hm : ({ n with x := ((compactN f).length : Int) - 1 } : Nd) = m
  have mo : m.op = n.op := by rw [← hm]
  have mx : m.x = ((compactN f).length : Int) - 1 := by rw [← hm]
  have mh : m.head = n.head := by
    rw [← hm]
    unfold Nd.head Nd.with_
    simp [h1, h2]
  have hmh : headOk m := by
    rw [← hm]
    exact ⟨hh.1, hh.2.1, hh.2.2.1, fun h => by (rw [h1] at h; cases h), hh.2.2.2.2⟩
  have herr : nodeErr m (compactN f).length = 0 := hmh.err (fun _ => by omega) (fun h => by rw [mo, h2] at h; cases h)
  have hw : Wf (compactN f ++ [m]) := wf_snoc cw (fun _ => by omega) (fun h => by rw [mo, h2] at h; cases h)
  have htr : tr (compactN f ++ [m]) (compactN f).length = .one n.head (treeOf f) := by
    rw [tr_eq hw (n := m) (by simp)]
    unfold mkTr
    rw [mo, h1, h2, mh, mx]
    rw [show (((compactN f).length : Int) - 1).toNat = (compactN f).length - 1 by omega, tr_prefix cw hw (List.prefix_append _ _) _ (by omega)]
    rw [show tr (compactN f) ((compactN f).length - 1) = treeOf (compactN f) from rfl, treeOf_compact hf]
    rfl
  unfold joinN
  have hfin : (finN (compactN f ++ [m]) (compactN f).length []).1 = canon (.one n.head (treeOf f)) := by
    rw [finN_ins hw _ _ (by simp), htr]; rfl
  have hlen : (finN (compactN f ++ [m]) (compactN f).length []).1.length ≤ (compactN f ++ [m]).length := by
    have a := length_le_pot (compactN f ++ [m]) (finN (compactN f ++ [m]) (compactN f).length []).1
    have b := pot_le hw (compactN f).length [] (by simp)
    have c := pot_nil (compactN f ++ [m])
    omega
  simp only [List.length_append, List.length_singleton] at hlen
  have e3 : decide (200 < (finN (compactN f ++ [m]) (compactN f).length []).1.length) = false := by simp; omega
  rw [herr, e3, hfin]
  rfl

/-- A node with two operands. -/
theorem build_two {n : Nd} {f g : List Nd} (hf : check f = 0) (hg : check g = 0) (h1 : hasX n.op = true) (h2 : hasY n.op = true) (hh : headOk n) (hl : f.length + g.length < 200) : buildN n [f, g] = canon (.two n.head (treeOf f) (treeOf g)) := by
  obtain ⟨cw, cl, cp, _⟩ := compactN_props hf
  obtain ⟨dw, dl, dp, _⟩ := compactN_props hg
  unfold buildN
  have e0 : [f, g].any (fun o => check o != 0) = false := by simp [hf, hg]
  rw [e0, cond_false]
  have eL : layout [f, g] 0 [] n = (compactN f ++ (compactN g).map (shiftN (compactN f).length), { n with x := ((compactN f).length : Int) - 1, y := ((compactN f).length : Int) + (compactN g).length - 1 }) := by
    simp only [layout, setOp, List.nil_append, List.length_nil]
    have : (compactN f).map (shiftN 0) = compactN f := by
      rw [show shiftN 0 = id from by funext m; unfold shiftN; cases hasX m.op <;> cases hasY m.op <;> simp]
      simp
    rw [this]
    simp
  rw [eL]
  have hFw := shift_wf cw dw
  have hFl : (compactN f ++ (compactN g).map (shiftN (compactN f).length)).length = (compactN f).length + (compactN g).length := by simp
  have hF1 : tr (compactN f ++ (compactN g).map (shiftN (compactN f).length)) ((compactN f).length - 1) = treeOf f := by
    rw [tr_prefix cw hFw (List.prefix_append _ _) _ (by omega), show tr (compactN f) ((compactN f).length - 1) = treeOf (compactN f) from rfl, treeOf_compact hf]
  have hF2 : tr (compactN f ++ (compactN g).map (shiftN (compactN f).length)) ((compactN f).length + (compactN g).length - 1) = treeOf g := by
    rw [show (compactN f).length + (compactN g).length - 1 = (compactN f).length + ((compactN g).length - 1) by omega, tr_shift cw dw _ (by omega), show tr (compactN g) ((compactN g).length - 1) = treeOf (compactN g) from rfl, treeOf_compact hg]
  generalize compactN f ++ (compactN g).map (shiftN (compactN f).length) = F at *
  generalize hm : ({ n with x := ((compactN f).length : Int) - 1, y := ((compactN f).length : Int) + (compactN g).length - 1 } : Nd) = m
  have mo : m.op = n.op := by rw [← hm]
  have mx : m.x = ((compactN f).length : Int) - 1 := by rw [← hm]
  have my : m.y = ((compactN f).length : Int) + (compactN g).length - 1 := by rw [← hm]
  have mh : m.head = n.head := by
    rw [← hm]
    unfold Nd.head Nd.with_
    simp [h1, h2]
  have hmh : headOk m := by
    rw [← hm]
    exact ⟨hh.1, hh.2.1, hh.2.2.1, fun h => by (rw [h1] at h; cases h), fun h => by (rw [h2] at h; cases h)⟩
  have herr : nodeErr m F.length = 0 := hmh.err (fun _ => by omega) (fun _ => by omega)
  have hw : Wf (F ++ [m]) := wf_snoc hFw (fun _ => by omega) (fun _ => by omega)
  have htr : tr (F ++ [m]) F.length = .two n.head (treeOf f) (treeOf g) := by
    rw [tr_eq hw (n := m) (by simp)]
    unfold mkTr
    rw [mo, h2, mh, mx, my]
    rw [show (((compactN f).length : Int) - 1).toNat = (compactN f).length - 1 by omega, tr_prefix hFw hw (List.prefix_append _ _) _ (by omega), hF1]
    rw [show (((compactN f).length : Int) + (compactN g).length - 1).toNat = (compactN f).length + (compactN g).length - 1 by omega, tr_prefix hFw hw (List.prefix_append _ _) _ (by omega), hF2]
    rfl
  unfold joinN
  have hfin : (finN (F ++ [m]) F.length []).1 = canon (.two n.head (treeOf f) (treeOf g)) := by
    rw [finN_ins hw _ _ (by simp), htr]; rfl
  have hlen : (finN (F ++ [m]) F.length []).1.length ≤ (F ++ [m]).length := by
    have a := length_le_pot (F ++ [m]) (finN (F ++ [m]) F.length []).1
    have b := pot_le hw F.length [] (by simp)
    have c := pot_nil (F ++ [m])
    omega
  simp only [List.length_append, List.length_singleton] at hlen
  have e3 : decide (200 < (finN (F ++ [m]) F.length []).1.length) = false := by simp; omega
  rw [herr, e3, hfin]
  rfl
end Go.Proofs.YtfcmdiigfgbgbaaGreat

/- What the reference's constructors of formulas come to: the lists that the program's constructors come to. -/

namespace Go.Proofs.YtfcmdiigfgbgbaaGreat

/-- The canonical list of a tree, or nothing if it is too long. -/
def shortT (t : Tr) : List Nd := bif decide (200 < (canon t).length) then [] else canon t
/-- The canonical list of a list's last node, or nothing if it is too long. -/
def shortN (l : List Nd) : List Nd := bif decide (200 < (finN l (l.length - 1) []).1.length) then [] else (finN l (l.length - 1) []).1
theorem shortN_tree {l : List Nd} (hw : Wf l) (h0 : 0 < l.length) : shortN l = shortT (treeOf l) := by
  unfold shortN shortT
  rw [finN_ins hw _ _ (by omega)]
  rfl
theorem map_shift0 (f : List Nd) : f.map (shiftN 0) = f := by
  rw [show shiftN 0 = id from by funext m; unfold shiftN; cases hasX m.op <;> cases hasY m.op <;> simp]
  simp
/-- A node with one operand. -/
theorem build_one' {n : Nd} {f : List Nd} (hf : check f = 0) (h1 : hasX n.op = true) (h2 : hasY n.op = false) (hh : headOk n) : buildN n [f] = shortT (.one n.head (treeOf f)) := by
  obtain ⟨cw, cl, cp, _⟩ := compactN_props hf
  unfold buildN
  have e0 : [f].any (fun o => check o != 0) = false := by simp [hf]
  rw [e0, cond_false]
  have eL : layout [f] 0 [] n = (compactN f, { n with x := ((compactN f).length : Int) - 1 }) := by
    simp only [layout, setOp, List.nil_append, List.length_nil, map_shift0]
    rfl
  rw [eL]
  generalize hm : ({ n with x := ((compactN f).length : Int) - 1 } : Nd) = m
  have mo : m.op = n.op := by rw [← hm]
  have mx : m.x = ((compactN f).length : Int) - 1 := by rw [← hm]
  have mh : m.head = n.head := by
    rw [← hm]
    unfold Nd.head Nd.with_
    simp [h1, h2]
  have hmh : headOk m := by
    rw [← hm]
    exact ⟨hh.1, hh.2.1, hh.2.2.1, fun h => by (rw [h1] at h; cases h), hh.2.2.2.2⟩
  have herr : nodeErr m (compactN f).length = 0 := hmh.err (fun _ => by omega) (fun h => by rw [mo, h2] at h; cases h)
  have hw : Wf (compactN f ++ [m]) := wf_snoc cw (fun _ => by omega) (fun h => by rw [mo, h2] at h; cases h)
  have htr : tr (compactN f ++ [m]) (compactN f).length = .one n.head (treeOf f) := by
    rw [tr_eq hw (n := m) (by simp)]
    unfold mkTr
    rw [mo, h1, h2, mh, mx]
    rw [show (((compactN f).length : Int) - 1).toNat = (compactN f).length - 1 by omega, tr_prefix cw hw (List.prefix_append _ _) _ (by omega)]
    rw [show tr (compactN f) ((compactN f).length - 1) = treeOf (compactN f) from rfl, treeOf_compact hf]
    rfl
  unfold joinN
  have hfin : (finN (compactN f ++ [m]) (compactN f).length []).1 = canon (.one n.head (treeOf f)) := by
    rw [finN_ins hw _ _ (by simp), htr]; rfl
  simp only [herr, hfin]
  rfl
/-- The same, as the reference writes it. -/
theorem un_short {n : Nd} {f : List Nd} (hf : check f = 0) (h1 : hasX n.op = true) (h2 : hasY n.op = false) (hh : headOk n) {m : Nd} (hm : m = { n with x := (f.length : Int) - 1 }) : nodeErr m f.length = 0 ∧ Wf (f ++ [m]) ∧ shortN (f ++ [m]) = buildN n [f] := by
  have fw := check_wf hf
  have fp := (check_parts hf).1
  have mo : m.op = n.op := by rw [hm]
  have mx : m.x = (f.length : Int) - 1 := by rw [hm]
  have mh : m.head = n.head := by
    rw [hm]
    unfold Nd.head Nd.with_
    simp [h1, h2]
  have hmh : headOk m := by
    rw [hm]
    exact ⟨hh.1, hh.2.1, hh.2.2.1, fun h => by (rw [h1] at h; cases h), hh.2.2.2.2⟩
  have hw : Wf (f ++ [m]) := wf_snoc fw (fun _ => by omega) (fun h => by rw [mo, h2] at h; cases h)
  refine ⟨hmh.err (fun _ => by omega) (fun h => by rw [mo, h2] at h; cases h), hw, ?_⟩
  rw [shortN_tree hw (by simp), build_one' hf h1 h2 hh]
  congr 1
  unfold treeOf
  rw [List.length_append, List.length_singleton, Nat.add_sub_cancel, tr_eq hw (n := m) (by simp)]
  unfold mkTr
  rw [mo, h1, h2, mh, mx]
  rw [show ((f.length : Int) - 1).toNat = f.length - 1 by omega, tr_prefix fw hw (List.prefix_append _ _) _ (by omega)]
  rfl
/-- A node with two operands. -/
theorem build_two' {n : Nd} {f g : List Nd} (hf : check f = 0) (hg : check g = 0) (h1 : hasX n.op = true) (h2 : hasY n.op = true) (hh : headOk n) : buildN n [f, g] = shortT (.two n.head (treeOf f) (treeOf g)) := by
  obtain ⟨cw, cl, cp, _⟩ := compactN_props hf
  obtain ⟨dw, dl, dp, _⟩ := compactN_props hg
  unfold buildN
  have e0 : [f, g].any (fun o => check o != 0) = false := by simp [hf, hg]
  rw [e0, cond_false]
  have eL : layout [f, g] 0 [] n = (compactN f ++ (compactN g).map (shiftN (compactN f).length), { n with x := ((compactN f).length : Int) - 1, y := ((compactN f).length : Int) + (compactN g).length - 1 }) := by
    simp only [layout, setOp, List.nil_append, List.length_nil, map_shift0]
    simp
  rw [eL]
  have hFw := shift_wf cw dw
  have hFl : (compactN f ++ (compactN g).map (shiftN (compactN f).length)).length = (compactN f).length + (compactN g).length := by simp
  have hF1 : tr (compactN f ++ (compactN g).map (shiftN (compactN f).length)) ((compactN f).length - 1) = treeOf f := by
    rw [tr_prefix cw hFw (List.prefix_append _ _) _ (by omega), show tr (compactN f) ((compactN f).length - 1) = treeOf (compactN f) from rfl, treeOf_compact hf]
  have hF2 : tr (compactN f ++ (compactN g).map (shiftN (compactN f).length)) ((compactN f).length + (compactN g).length - 1) = treeOf g := by
    rw [show (compactN f).length + (compactN g).length - 1 = (compactN f).length + ((compactN g).length - 1) by omega, tr_shift cw dw _ (by omega), show tr (compactN g) ((compactN g).length - 1) = treeOf (compactN g) from rfl, treeOf_compact hg]
  generalize compactN f ++ (compactN g).map (shiftN (compactN f).length) = F at *
  generalize hm : ({ n with x := ((compactN f).length : Int) - 1, y := ((compactN f).length : Int) + (compactN g).length - 1 } : Nd) = m
  have mo : m.op = n.op := by rw [← hm]
  have mx : m.x = ((compactN f).length : Int) - 1 := by rw [← hm]
  have my : m.y = ((compactN f).length : Int) + (compactN g).length - 1 := by rw [← hm]
  have mh : m.head = n.head := by
    rw [← hm]
    unfold Nd.head Nd.with_
    simp [h1, h2]
  have hmh : headOk m := by
    rw [← hm]
    exact ⟨hh.1, hh.2.1, hh.2.2.1, fun h => by (rw [h1] at h; cases h), fun h => by (rw [h2] at h; cases h)⟩
  have herr : nodeErr m F.length = 0 := hmh.err (fun _ => by omega) (fun _ => by omega)
  have hw : Wf (F ++ [m]) := wf_snoc hFw (fun _ => by omega) (fun _ => by omega)
  have htr : tr (F ++ [m]) F.length = .two n.head (treeOf f) (treeOf g) := by
    rw [tr_eq hw (n := m) (by simp)]
    unfold mkTr
    rw [mo, h2, mh, mx, my]
    rw [show (((compactN f).length : Int) - 1).toNat = (compactN f).length - 1 by omega, tr_prefix hFw hw (List.prefix_append _ _) _ (by omega), hF1]
    rw [show (((compactN f).length : Int) + (compactN g).length - 1).toNat = (compactN f).length + (compactN g).length - 1 by omega, tr_prefix hFw hw (List.prefix_append _ _) _ (by omega), hF2]
    rfl
  unfold joinN
  have hfin : (finN (F ++ [m]) F.length []).1 = canon (.two n.head (treeOf f) (treeOf g)) := by
    rw [finN_ins hw _ _ (by simp), htr]; rfl
  simp only [herr, hfin]
  rfl
/-- The same, as the reference writes it. -/
theorem bin_short {n : Nd} {f g : List Nd} (hf : check f = 0) (hg : check g = 0) (h1 : hasX n.op = true) (h2 : hasY n.op = true) (hh : headOk n) {m : Nd} (hm : m = { n with x := (f.length : Int) - 1, y := (f.length : Int) + g.length - 1 }) :
    nodeErr m ((f.length : Int) + g.length) = 0 ∧ Wf (f ++ g.map (shiftN f.length) ++ [m]) ∧ shortN (f ++ g.map (shiftN f.length) ++ [m]) = buildN n [f, g] := by
  have fw := check_wf hf
  have gw := check_wf hg
  have fp := (check_parts hf).1
  have gp := (check_parts hg).1
  rw [build_two' hf hg h1 h2 hh]
  have hFw := shift_wf fw gw
  have hFl : (f ++ g.map (shiftN f.length)).length = f.length + g.length := by simp
  have hF1 : tr (f ++ g.map (shiftN f.length)) (f.length - 1) = treeOf f := by
    rw [tr_prefix fw hFw (List.prefix_append _ _) _ (by omega)]; rfl
  have hF2 : tr (f ++ g.map (shiftN f.length)) (f.length + g.length - 1) = treeOf g := by
    rw [show f.length + g.length - 1 = f.length + (g.length - 1) by omega, tr_shift fw gw _ (by omega)]; rfl
  generalize f ++ g.map (shiftN f.length) = F at *
  have mo : m.op = n.op := by rw [hm]
  have mx : m.x = (f.length : Int) - 1 := by rw [hm]
  have my : m.y = (f.length : Int) + g.length - 1 := by rw [hm]
  have mh : m.head = n.head := by
    rw [hm]
    unfold Nd.head Nd.with_
    simp [h1, h2]
  have hmh : headOk m := by
    rw [hm]
    exact ⟨hh.1, hh.2.1, hh.2.2.1, fun h => by (rw [h1] at h; cases h), fun h => by (rw [h2] at h; cases h)⟩
  have hw : Wf (F ++ [m]) := wf_snoc hFw (fun _ => by omega) (fun _ => by omega)
  refine ⟨by have := hmh.err (a := f.length + g.length) (fun _ => by omega) (fun _ => by omega); rw [← this]; congr 1, hw, ?_⟩
  rw [shortN_tree hw (by simp)]
  congr 1
  unfold treeOf
  rw [List.length_append, List.length_singleton, Nat.add_sub_cancel, tr_eq hw (n := m) (by simp)]
  unfold mkTr
  rw [mo, h2, mh, mx, my]
  rw [show ((f.length : Int) - 1).toNat = f.length - 1 by omega, tr_prefix hFw hw (List.prefix_append _ _) _ (by omega), hF1]
  rw [show ((f.length : Int) + g.length - 1).toNat = f.length + g.length - 1 by omega, tr_prefix hFw hw (List.prefix_append _ _) _ (by omega), hF2]
  rfl
theorem build_bad1 {n : Nd} {f : List Nd} (hf : check f ≠ 0) : buildN n [f] = [] := by
  unfold buildN
  have e0 : [f].any (fun o => check o != 0) = true := by simpa using hf
  rw [e0, cond_true]
theorem build_bad2 {n : Nd} {f g : List Nd} (hf : check f ≠ 0 ∨ check g ≠ 0) : buildN n [f, g] = [] := by
  unfold buildN
  have e0 : [f, g].any (fun o => check o != 0) = true := by simp; exact hf
  rw [e0, cond_true]
end Go.Proofs.YtfcmdiigfgbgbaaGreat

/- The negation normal forms are canonical lists; the place of a formula among those of a base. -/

namespace Go.Proofs.YtfcmdiigfgbgbaaGreat

/-- Nothing, or the list of a tree. -/
def Can (l : List Nd) : Prop := l = [] ∨ ∃ t : Tr, t.ok ∧ l = canon t
theorem can_short {t : Tr} (h : t.ok) : Can (shortT t) := by
  unfold shortT
  cases decide (200 < (canon t).length)
  · exact .inr ⟨t, h, rfl⟩
  · exact .inl rfl
theorem can_un {n : Nd} {f : List Nd} (h1 : hasX n.op = true) (h2 : hasY n.op = false) (hh : headOk n) : Can (buildN n [f]) := by
  by_cases hf : check f = 0
  · rw [build_one' hf h1 h2 hh]
    exact can_short ⟨h1, h2, head_head n, treeOf_ok hf⟩
  · rw [build_bad1 hf]; exact .inl rfl
theorem can_bin {n : Nd} {f g : List Nd} (h1 : hasX n.op = true) (h2 : hasY n.op = true) (hh : headOk n) : Can (buildN n [f, g]) := by
  by_cases hf : check f = 0
  · by_cases hg : check g = 0
    · rw [build_two' hf hg h1 h2 hh]
      exact can_short ⟨h1, h2, head_head n, treeOf_ok hf, treeOf_ok hg⟩
    · rw [build_bad2 (.inr hg)]; exact .inl rfl
  · rw [build_bad2 (.inl hf)]; exact .inl rfl
theorem canon_leaf (n : Nd) : canon (.leaf n) = [n] := by simp [canon, ins, addN]
theorem can_leaf {n : Nd} (h1 : hasX n.op = false) (h2 : hasY n.op = false) : Can [n] := .inr ⟨.leaf n, ⟨h1, h2⟩, (canon_leaf n).symm⟩
theorem build_zero {n : Nd} (h1 : hasX n.op = false) (h2 : hasY n.op = false) (hh : headOk n) : nodeErr n 0 = 0 ∧ buildN n [] = [n] := by
  have herr : nodeErr n 0 = 0 := hh.err (a := 0) (fun h => by rw [h1] at h; cases h) (fun h => by rw [h2] at h; cases h)
  refine ⟨herr, ?_⟩
  have hw : Wf ([] ++ [n]) := wf_snoc wf_nil (fun h => by rw [h1] at h; cases h) (fun h => by rw [h2] at h; cases h)
  have hfin : (finN ([] ++ [n]) ([] : List Nd).length []).1 = [n] := by
    rw [finN_ins hw _ _ (by simp), tr_eq hw (n := n) (by simp)]
    unfold mkTr
    rw [h1, h2]
    exact canon_leaf n
  unfold buildN
  show joinN [] n = [n]
  unfold joinN
  have e : nodeErr n (([] : List Nd).length : Int) = 0 := herr
  simp only [hfin, e]
  rfl
theorem head0 (k : Int) (h : k = 1 ∨ k = 2 ∨ k = 4 ∨ k = 5 ∨ k = 6) : headOk ⟨k, 0, 0, 0, 0, 0⟩ := by
  rcases h with rfl | rfl | rfl | rfl | rfl <;> exact ⟨by decide, by decide, by decide, fun _ => rfl, fun _ => rfl⟩
theorem head3 {n : Nd} (h : headOk n) (ho : n.op = 3) : headOk ⟨3, n.i, 0, 0, 0, 0⟩ := by
  obtain ⟨_, _, h3, _, _⟩ := h
  refine ⟨rfl, by simp [formBad, hasFact, hasAgent, hasEvent, hasGroup], ?_, fun _ => rfl, fun _ => rfl⟩
  unfold rangeBad at h3 ⊢
  rw [ho] at h3
  simpa [outsideB, hasFact, hasAgent, hasEvent, hasGroup] using h3
theorem head9 {n : Nd} (h : headOk n) (k : Int) (hk : k = 9 ∨ k = 10) (ho : n.op = 9 ∨ n.op = 10) : headOk ⟨k, n.i, 0, 0, 0, 0⟩ := by
  obtain ⟨_, _, h3, _, _⟩ := h
  have hr : outsideB true n.i 0 3 = false := by
    unfold rangeBad at h3
    rcases ho with ho | ho <;> (rw [ho] at h3; simpa [outsideB, hasFact, hasAgent, hasEvent, hasGroup] using h3)
  rcases hk with rfl | rfl
  · refine ⟨rfl, by simp [formBad, hasFact, hasAgent, hasEvent, hasGroup], ?_, fun _ => rfl, fun _ => rfl⟩
    simpa [rangeBad, outsideB, hasFact, hasAgent, hasEvent, hasGroup] using hr
  · refine ⟨rfl, by simp [formBad, hasFact, hasAgent, hasEvent, hasGroup], ?_, fun _ => rfl, fun _ => rfl⟩
    simpa [rangeBad, outsideB, hasFact, hasAgent, hasEvent, hasGroup] using hr
theorem true_list : trueN = [⟨1, 0, 0, 0, 0, 0⟩] := (build_zero rfl rfl (head0 1 (by omega))).2
theorem false_list : falseN = [⟨2, 0, 0, 0, 0, 0⟩] := (build_zero rfl rfl (head0 2 (by omega))).2
theorem can_true : Can trueN := by rw [true_list]; exact can_leaf rfl rfl
theorem can_false : Can falseN := by rw [false_list]; exact can_leaf rfl rfl
theorem can_not (f : List Nd) : Can (notN f) := can_un rfl rfl (head0 4 (by omega))
theorem can_and (f g : List Nd) : Can (andN f g) := can_bin rfl rfl (head0 5 (by omega))
theorem can_or (f g : List Nd) : Can (orN f g) := can_bin rfl rfl (head0 6 (by omega))
theorem can_know {n : Nd} (h : headOk n) (ho : n.op = 9 ∨ n.op = 10) (f : List Nd) : Can (knowN n.i f) := can_un rfl rfl (head9 h 9 (.inl rfl) ho)
theorem can_poss {n : Nd} (h : headOk n) (ho : n.op = 9 ∨ n.op = 10) (f : List Nd) : Can (possN n.i f) := can_un rfl rfl (head9 h 10 (.inr rfl) ho)
theorem can_fact {n : Nd} (h : headOk n) (ho : n.op = 3) : Can (factN n.i) := by
  unfold factN
  rw [(build_zero rfl rfl (head3 h ho)).2]
  exact can_leaf rfl rfl
theorem can_pos {n : Nd} (h : headOk n) {p : Bool → Int → List Nd} (hp : n.op = 4 → Can (p true n.x)) : Can (posS n p) := by
  unfold posS
  cases h4 : n.op == 4
  · cases n.op == 7
    · cases n.op == 8
      · cases n.op == 2
        · cases h3 : n.op == 3
          · cases n.op == 5
            · cases n.op == 6
              · cases h9 : n.op == 9
                · cases h10 : n.op == 10
                  · exact can_true
                  · exact can_poss h (.inr (by simpa using h10)) _
                · exact can_know h (.inl (by simpa using h9)) _
              · exact can_or _ _
            · exact can_and _ _
          · exact can_fact h (by simpa using h3)
        · exact can_false
      · exact can_and _ _
    · exact can_or _ _
  · exact hp (by simpa using h4)
theorem can_neg {n : Nd} (h : headOk n) {p : Bool → Int → List Nd} (hp : n.op = 4 → Can (p false n.x)) : Can (negS n p) := by
  unfold negS
  cases n.op == 1
  · cases n.op == 2
    · cases h4 : n.op == 4
      · cases n.op == 5
        · cases n.op == 6
          · cases n.op == 7
            · cases n.op == 8
              · cases h9 : n.op == 9
                · cases h10 : n.op == 10
                  · exact can_not _
                  · exact can_know h (.inr (by simpa using h10)) _
                · exact can_poss h (.inl (by simpa using h9)) _
              · exact can_or _ _
            · exact can_and _ _
          · exact can_and _ _
        · exact can_or _ _
      · exact hp (by simpa using h4)
    · exact can_true
  · exact can_false
theorem nnf_can {c : List Nd} (hc : Wf c) (hh : ∀ n ∈ c, headOk n) : ∀ (i : Nat), i < c.length → ∀ no, Can (nnfN c no i) := by
  intro i
  induction i using Nat.strongRecOn with
  | _ i ih =>
    intro hi no
    obtain ⟨n, hn⟩ : ∃ n, c[i]? = some n := ⟨_, List.getElem?_eq_getElem hi⟩
    obtain ⟨hx, _⟩ := hc i n hn
    have hd := hh n (List.mem_of_getElem? hn)
    have hs : ∀ b, n.op = 4 → Can (nnfN c b n.x.toNat) := fun b h4 => by
      have := hx (by rw [h4]; rfl)
      exact ih _ (by omega) (by omega) b
    rw [nnfN_eq hc hn]
    cases no
    · exact can_pos (p := fun b j => nnfN c b j.toNat) hd (hs true)
    · exact can_neg (p := fun b j => nnfN c b j.toNat) hd (hs false)
theorem can_opp (f : List Nd) : Can (oppN f) := by
  unfold oppN nnfAll
  cases hc : check (notN f) != 0
  · have hc0 : check (notN f) = 0 := by simpa using hc
    obtain ⟨a, _, b, d⟩ := compactN_props hc0
    exact nnf_can a d _ (by omega) false
  · exact .inl rfl
theorem same_can {f g : List Nd} (hf : Can f) (hg : Can g) (hc : check f = 0) : sameN f g = decide (f = g) := by
  rw [Bool.eq_iff_iff, sameN_tree, decide_eq_true_iff]
  constructor
  · rintro ⟨_, hcg, he⟩
    rcases hf with rfl | ⟨t, ht, rfl⟩
    · exact absurd hc check_nil
    · rcases hg with rfl | ⟨s, hs, rfl⟩
      · exact absurd hcg check_nil
      · rw [treeOf_canon ht, treeOf_canon hs] at he
        rw [he]
  · rintro rfl
    exact ⟨hc, hc, rfl⟩
/-- The reference's test at a node of a base. -/
theorem same_at {base : List Nd} (hc : check base = 0) {i : Nat} (hi : i < base.length) (f : List Nd) : sameN (subN base i) (oppN f) = decide (subN base i = oppN f) :=
  same_can (by rw [subN_tree hc hi]; exact .inr ⟨_, tr_ok (check_wf hc) _ hi, rfl⟩) (can_opp f) (sub_props hc hi).2.1
theorem place_hit {base g : List Nd} {k : Nat} (hk : k < base.length) (hb : ∀ j : Nat, j < k → decide (subN base j = g) = false) (h : decide (subN base k = g) = true) : placeN (formulasN base) g = k := by
  have hl : (formulasN base).length = base.length := by simp [formulasN]
  have : (formulasN base).findIdx? (fun f => decide (f = g)) = some k := by
    rw [List.findIdx?_eq_some_iff_getElem]
    refine ⟨by omega, by simpa [formulasN] using h, fun j hj => by simpa [formulasN] using hb j hj⟩
  unfold placeN
  rw [this]
theorem place_none {base g : List Nd} (hb : ∀ j : Nat, j < base.length → decide (subN base j = g) = false) : placeN (formulasN base) g = -1 := by
  have : (formulasN base).findIdx? (fun f => decide (f = g)) = none := by
    rw [List.findIdx?_eq_none_iff]
    intro x hx
    unfold formulasN at hx
    rw [List.mem_map] at hx
    obtain ⟨i, hi, rfl⟩ := hx
    exact hb i (List.mem_range.1 hi)
  unfold placeN
  rw [this]
/-- A node with its operands in other lists. -/
def rebuildN (x : Nd) (a b : List Nd) : List Nd :=
  bif hasY x.op then buildN { x with x := 0, y := 0 } [a, b] else bif hasX x.op then buildN { x with x := 0, y := 0 } [a] else [{ x with x := 0, y := 0 }]
theorem head_zero {n : Nd} (h : headOk n) : headOk { n with x := 0, y := 0 } := ⟨h.1, h.2.1, h.2.2.1, fun _ => rfl, fun _ => rfl⟩
theorem bare_of {n : Nd} (h : headOk n) (hk : n.op = 1 ∨ n.op = 2 ∨ n.op = 5 ∨ n.op = 6) : ({ n with x := 0, y := 0 } : Nd) = ⟨n.op, 0, 0, 0, 0, 0⟩ := by
  obtain ⟨_, h2, _, _, _⟩ := h
  unfold formBad at h2
  rcases hk with ho | ho | ho | ho <;> (rw [ho] at h2; simp [hasFact, hasAgent, hasEvent, hasGroup] at h2; rw [h2.1.1, h2.1.2, h2.2])
theorem bare_i {n : Nd} (h : headOk n) (hk : n.op = 3 ∨ n.op = 9 ∨ n.op = 10) : ({ n with x := 0, y := 0 } : Nd) = ⟨n.op, n.i, 0, 0, 0, 0⟩ := by
  obtain ⟨_, h2, _, _, _⟩ := h
  unfold formBad at h2
  rcases hk with ho | ho | ho <;> (rw [ho] at h2; simp [hasFact, hasAgent, hasEvent, hasGroup] at h2; rw [h2.1, h2.2])
/-- The normal form of a node without negation, implication, equivalence. -/
theorem rebuild_pos {n : Nd} (h : headOk n) (hk : 1 ≤ n.op ∧ n.op ≤ 10) (h4 : n.op ≠ 4) (h7 : n.op ≠ 7) (h8 : n.op ≠ 8) (p : Bool → Int → List Nd) : posS n p = rebuildN n (p false n.x) (p false n.y) := by
  rcases (show n.op = 1 ∨ n.op = 2 ∨ n.op = 3 ∨ n.op = 5 ∨ n.op = 6 ∨ n.op = 9 ∨ n.op = 10 by omega) with ho | ho | ho | ho | ho | ho | ho
  · unfold rebuildN posS; rw [bare_of h (by omega), ho]; exact true_list
  · unfold rebuildN posS; rw [bare_of h (by omega), ho]; exact false_list
  · unfold rebuildN posS; rw [bare_i h (by omega), ho]; exact (build_zero rfl rfl (head3 h ho)).2
  · unfold rebuildN posS; rw [bare_of h (by omega), ho]; rfl
  · unfold rebuildN posS; rw [bare_of h (by omega), ho]; rfl
  · unfold rebuildN posS; rw [bare_i h (by omega), ho]; rfl
  · unfold rebuildN posS; rw [bare_i h (by omega), ho]; rfl
end Go.Proofs.YtfcmdiigfgbgbaaGreat

/- The formulas of a base in negation normal form have neither implication nor equivalence. -/

namespace Go.Proofs.YtfcmdiigfgbgbaaGreat

def OpN (n : Nd) : Prop := (1 ≤ n.op ∧ n.op ≤ 10) ∧ (n.op ≠ 7 ∧ n.op ≠ 8)
def FewN (c : List Nd) : Prop := ∀ n ∈ c, OpN n
theorem fin_opsN {f : List Nd} (hf : Wf f) (h : ∀ n ∈ f, OpN n) {i : Nat} (hi : i < f.length) : ∀ n ∈ (finN f i []).1, OpN n := by
  intro m hm
  rcases fin_mem hf i [] hi m hm with h1 | ⟨n, hn, k1, k2, rfl⟩
  · cases h1
  · exact h n hn
theorem few_compactN {g : List Nd} (hc : check g = 0) (h : FewN g) : FewN (compactN g) := by
  rw [compactN_eq hc]
  exact fin_opsN (check_wf hc) h (by have := (check_parts hc).1; omega)
theorem few_notN {f : List Nd} (h : check f = 0 → FewN (compactN f)) (hn : check (notN f) = 0) : FewN (compactN (notN f)) := by
  refine few_compactN hn ?_
  unfold notN buildN at hn ⊢
  rw [any_one] at hn ⊢
  cases hc : check f != 0
  · have hc0 : check f = 0 := by simpa using hc
    rw [hc, cond_false] at hn
    rw [cond_false]
    have hcw := (compactN_props hc0).1
    have hsw := shift_wf wf_nil hcw
    have hops : ∀ n ∈ ([] ++ (compactN f).map (shiftN ([] : List Nd).length)), OpN n := by
      intro n hn
      rw [List.nil_append, List.mem_map] at hn
      obtain ⟨m, hm, rfl⟩ := hn
      exact h hc0 m hm
    simp only [layout] at hn ⊢
    unfold joinN at hn ⊢
    generalize [] ++ (compactN f).map (shiftN ([] : List Nd).length) = l at hn hsw hops ⊢
    cases he : nodeErr (setOp 0 ⟨4, 0, 0, 0, 0, 0⟩ l.length) l.length != 0
    · rw [he, cond_false] at hn
      rw [cond_false]
      have he0 : nodeErr (setOp 0 ⟨4, 0, 0, 0, 0, 0⟩ l.length) l.length = 0 := by simpa using he
      obtain ⟨hx, hy⟩ := nodeErr_xy he0
      have hl0 : 0 < l.length := by
        have : operandOk true ((l.length : Int) - 1) l.length = true := hx
        unfold operandOk at this
        simp at this
        omega
      have hw : Wf (l ++ [setOp 0 ⟨4, 0, 0, 0, 0, 0⟩ l.length]) := wf_snoc hsw (fun _ => by
        show 0 ≤ (l.length : Int) - 1 ∧ (l.length : Int) - 1 < l.length
        omega) (fun h => by cases h)
      have key : ∀ n ∈ (finN (l ++ [setOp 0 ⟨4, 0, 0, 0, 0, 0⟩ l.length]) l.length []).1, OpN n := fin_opsN hw (fun n hn => by
        rcases List.mem_append.1 hn with h1 | h1
        · exact hops n h1
        · rw [List.mem_singleton.1 h1]
          exact ⟨⟨by show (1 : Int) ≤ 4; decide, by show (4 : Int) ≤ 10; decide⟩, by show (4 : Int) ≠ 7; decide, by show (4 : Int) ≠ 8; decide⟩) (by simp)
      cases hb : decide (200 < (finN (l ++ [setOp 0 ⟨4, 0, 0, 0, 0, 0⟩ l.length]) l.length []).1.length)
      · exact key
      · exact fun n hn => by cases hn
    · exact fun n hn => by cases hn
  · exact fun n hn => by cases hn
theorem normal_opsN {base : List Nd} {n : Nd} (h : normalN base n = true) : OpN n := by
  unfold normalN at h
  unfold OpN
  cases h4 : n.op == 4
  · rw [h4] at h
    simp only [cond_false, Bool.or_eq_true, beq_iff_eq] at h
    omega
  · have : n.op = 4 := by simpa using h4
    omega
theorem base_fewN {base : List Nd} (ha : base.all (normalN base) = true) : ∀ n ∈ base, OpN n := fun n hn => normal_opsN (List.all_eq_true.1 ha n hn)
theorem sub_fewN {base : List Nd} (hc : check base = 0) (ha : base.all (normalN base) = true) {k : Nat} (hk : k < base.length) : FewN (subN base k) := by
  rw [(sub_props hc hk).1]
  exact fin_opsN (check_wf hc) (base_fewN ha) hk
/-- What opposite wants. -/
theorem opp_fewN {base : List Nd} (hc : check base = 0) (ha : base.all (normalN base) = true) {k : Nat} (hk : k < base.length) : check (notN (subN base k)) = 0 → FewN (compactN (notN (subN base k))) :=
  few_notN fun h => few_compactN h (sub_fewN hc ha hk)
end Go.Proofs.YtfcmdiigfgbgbaaGreat

/- The state of the reference's negation normal forms: two rows of lists, two rows of flags. -/

namespace Go.Proofs.YtfcmdiigfgbgbaaGreat
open Go.RowKit

/-- A block that holds no numbers. -/
def Calm (w : World) (b : Nat) : Prop := ∃ cs t, w.heap[b]? = some (.cells cs t (0, 0)) ∧ ∀ (i : Nat) (z : Int), cs[i]? ≠ some (.int .i64 z)
/-- What a call may have changed: the blocks of a list. -/
structure LStep (R : List Nat) (w w' : World) : Prop where
  os : w'.os = w.os
  tape : w'.tape = w.tape
  output : w'.output = w.output
  size : w.heap.size ≤ w'.heap.size
  block : ∀ k, k < w.heap.size → k ∉ R → w'.heap[k]? = w.heap[k]?
section
variable {R : List Nat} {a b d w w' W0 : World} {v : Value} {l : List Nd}
theorem LStep.refl (w : World) : LStep R w w := ⟨rfl, rfl, rfl, Nat.le_refl _, fun _ _ _ => rfl⟩
theorem LStep.trans (h : LStep R a b) (k : LStep R b d) : LStep R a d :=
  ⟨k.os.trans h.os, k.tape.trans h.tape, k.output.trans h.output, Nat.le_trans h.size k.size, fun i hi h1 => (k.block i (Nat.lt_of_lt_of_le hi h.size) h1).trans (h.block i hi h1)⟩
theorem LStep.of_ext (h : Ext a b) : LStep R a b := ⟨h.os, h.tape, h.output, h.size, fun _ hk _ => h.block hk⟩
theorem LStep.set_ (w : World) (p : Addr) (hp : p.block ∈ R) (u : Value) : LStep R w (w.setCell p u) :=
  ⟨rfl, rfl, rfl, by simp [World.setCell], fun k _ hk => Below.heap_setCell _ _ _ _ (fun e => hk (by rw [e]; exact hp))⟩
theorem LStep.ext0 (hs : LStep R w w') (h : Ext W0 w) (l0 : ∀ b ∈ R, W0.heap.size ≤ b) : Ext W0 w' :=
  Below.trans h ⟨hs.os, hs.tape, hs.output, hs.size, fun k hk => hs.block k (Nat.lt_of_lt_of_le hk h.size) (fun hm => by have := l0 k hm; omega)⟩
/-- What reads as nodes reads so still: no row's block holds nodes. -/
theorem Fml.lstep (h : Fml w v l) (hc : ∀ b ∈ R, Calm w b) (hs : LStep R w w') : Fml w' v l := by
  obtain ⟨⟨A, cp, rfl, p1, p2, p3⟩, hok⟩ := h
  refine ⟨⟨A, cp, rfl, p1, p2, fun hn => ?_⟩, hok⟩
  obtain ⟨ad, rfl, hlt, hcl⟩ := p3 hn
  have hne : ad.block ∉ R := fun hm => by
    obtain ⟨cs, t, hb, hz⟩ := hc _ hm
    obtain ⟨n, hn'⟩ : ∃ n, l[0]? = some n := by
      cases l with
      | nil => exact absurd rfl hn
      | cons a t => exact ⟨a, rfl⟩
    have c0 := (hcl 0 n hn').1
    simp only [World.cell?, block_of_add, hb] at c0
    split at c0 <;> first | exact hz _ _ c0 | cases c0
  have hb := hs.block ad.block hlt hne
  exact ⟨ad, rfl, Nat.lt_of_lt_of_le hlt hs.size, fun k n hk => (hcl k n hk).keep fun p hp => World.cell?_of_block (by rw [hp, block_of_add]; exact hb)⟩
end
/-- A row of forms and its flags. -/
structure RRow (w : World) (b1 b3 : Nat) (c : List Nd) (no : Bool) (ys : List Value) (hs : List Bool) : Prop where
  yb : w.heap[b1]? = some (.cells ys.toArray 22 (0, 0))
  hb : w.heap[b3]? = some (.cells (hs.map Value.bool).toArray 4 (0, 0))
  yl : ys.length = c.length
  hl : hs.length = c.length
  ysl : ∀ v ∈ ys, ∃ A n cp, v = .slice A n cp
  is : ∀ i : Nat, hs[i]? = some true → ∃ v, ys[i]? = some v ∧ Fml w v (nnfN c no i)
section
variable {R : List Nat} {w w' : World} {b1 b3 : Nat} {c : List Nd} {no : Bool} {ys : List Value} {hs : List Bool} {v : Value}
theorem RRow.calm1 (h : RRow w b1 b3 c no ys hs) : Calm w b1 := ⟨_, _, h.yb, fun i z e => by
  have e' : ys[i]? = some (.int .i64 z) := by simpa using e
  obtain ⟨A, n, cp, h'⟩ := h.ysl _ (List.mem_of_getElem? e')
  cases h'⟩
theorem RRow.calm3 (h : RRow w b1 b3 c no ys hs) : Calm w b3 := ⟨_, _, h.hb, fun i z e => by
  simp at e⟩
theorem RRow.lstep (h : RRow w b1 b3 c no ys hs) (hc : ∀ b ∈ R, Calm w b) (hst : LStep R w w') (h1 : w'.heap[b1]? = w.heap[b1]?) (h3 : w'.heap[b3]? = w.heap[b3]?) : RRow w' b1 b3 c no ys hs :=
  ⟨h1.trans h.yb, h3.trans h.hb, h.yl, h.hl, h.ysl, fun i hi => by
    obtain ⟨v, x, y⟩ := h.is i hi
    exact ⟨v, x, y.lstep hc hst⟩⟩
theorem cell_block {w : World} {b j : Nat} {cs : Array Value} {t : TypeId} {u : Value} (h : w.heap[b]? = some (.cells cs t (0, 0))) (hj : cs[j]? = some u) : w.cell? ⟨b, j, none⟩ = some u := by
  simp [World.cell?, h, hj]
theorem frozen_block {w : World} {b : Nat} {cs : Array Value} {t : TypeId} (h : w.heap[b]? = some (.cells cs t (0, 0))) (j : Nat) : w.frozen? ⟨b, j, none⟩ = false := by
  simp [World.frozen?, h]
theorem cell_set_other (w : World) {p q : Addr} (h : q.block ≠ p.block) (u : Value) : (w.setCell p u).cell? q = w.cell? q := World.cell?_of_block (Below.heap_setCell _ _ _ _ h)
theorem frozen_set_other (w : World) {p q : Addr} (h : q.block ≠ p.block) (u : Value) : (w.setCell p u).frozen? q = w.frozen? q := World.frozen?_of_block (Below.heap_setCell _ _ _ _ h)
/-- What a place of a row holds. -/
structure RAt (w : World) (b1 b3 i : Nat) (c : List Nd) (no : Bool) (has_ : Bool) (v : Value) : Prop where
  y : w.cell? ⟨b1, i, none⟩ = some v
  h : w.cell? ⟨b3, i, none⟩ = some (.bool has_)
  fy : w.frozen? ⟨b1, i, none⟩ = false
  fh : w.frozen? ⟨b3, i, none⟩ = false
  sl : ∃ A n cp, v = .slice A n cp
  is : has_ = true → Fml w v (nnfN c no i)
  put : ∀ u, (w.setCell ⟨b1, i, none⟩ u).cell? ⟨b1, i, none⟩ = some u
  l1 : b1 < w.heap.size
  l3 : b3 < w.heap.size
theorem RRow.at_ (h : RRow w b1 b3 c no ys hs) {i : Nat} (hi : i < c.length) : ∃ has_ v, RAt w b1 b3 i c no has_ v := by
  have e1 : i < ys.length := by rw [h.yl]; exact hi
  have e2 : i < hs.length := by rw [h.hl]; exact hi
  refine ⟨hs[i], ys[i], cell_block h.yb (by simp [e1]), cell_block h.hb (by simp [e2]), frozen_block h.yb _, frozen_block h.hb _, h.ysl _ (List.getElem_mem e1), fun ht => ?_, fun u => cell_block (heap_setCell_same w b1 i _ _ u h.yb) (by simp [e1]), lt_heap h.yb, lt_heap h.hb⟩
  obtain ⟨v, hv, hf⟩ := h.is i (by rw [List.getElem?_eq_getElem e2, ht])
  rw [List.getElem?_eq_getElem e1] at hv
  injection hv with hv
  rw [hv]
  exact hf
theorem RRow.put (h : RRow w b1 b3 c no ys hs) {i : Nat} (hne : b1 ≠ b3) (hc : ∀ b ∈ R, Calm w b) (m1 : b1 ∈ R) (m3 : b3 ∈ R) (hv : Fml w v (nnfN c no i)) :
    RRow ((w.setCell ⟨b1, i, none⟩ v).setCell ⟨b3, i, none⟩ (.bool true)) b1 b3 c no (ys.set i v) (hs.set i true) ∧ LStep R w ((w.setCell ⟨b1, i, none⟩ v).setCell ⟨b3, i, none⟩ (.bool true)) := by
  have st : LStep R w ((w.setCell ⟨b1, i, none⟩ v).setCell ⟨b3, i, none⟩ (.bool true)) := (LStep.set_ _ _ m1 _).trans (LStep.set_ _ _ m3 _)
  refine ⟨⟨?_, ?_, by simpa using h.yl, by simpa using h.hl, fun u hu => ?_, fun j hj => ?_⟩, st⟩
  · rw [Below.heap_setCell _ ⟨b3, i, none⟩ _ _ hne, heap_setCell_same w b1 i _ _ _ h.yb]
    simp
  · have h3 := (Below.heap_setCell w ⟨b1, i, none⟩ v b3 (fun e => hne e.symm)).trans h.hb
    rw [heap_setCell_same _ b3 i _ _ _ h3]
    simp [List.map_set]
  · rcases List.mem_or_eq_of_mem_set hu with hu | rfl
    · exact h.ysl u hu
    · obtain ⟨A, cp, rfl, _⟩ := fml_slice hv
      exact ⟨_, _, _, rfl⟩
  · by_cases e : j = i
    · subst e
      have hlt : j < hs.length := by
        have := (List.getElem?_eq_some_iff.1 hj).1
        simpa using this
      have hlt2 : j < ys.length := by rw [h.yl, ← h.hl]; exact hlt
      exact ⟨v, by rw [List.getElem?_set_self hlt2], hv.lstep hc st⟩
    · rw [List.getElem?_set_ne (Ne.symm e)] at hj
      obtain ⟨u, h1, h2⟩ := h.is j hj
      exact ⟨u, by rw [List.getElem?_set_ne (Ne.symm e)]; exact h1, h2.lstep hc st⟩
end
/-- The state: the list, the rows, the flags. -/
structure REnv (W0 w : World) (bn b1 b2 b3 b4 : Nat) (A : Option Addr) (cp : Nat) (c : List Nd) : Prop where
  ext : Ext W0 w
  nds : Fml W0 (.slice A c.length cp) c
  blk : w.heap[bn]? = some (.cells #[.slice A c.length cp, .slice (some ⟨b1, 0, none⟩) c.length c.length, .slice (some ⟨b2, 0, none⟩) c.length c.length, .slice (some ⟨b3, 0, none⟩) c.length c.length, .slice (some ⟨b4, 0, none⟩) c.length c.length] 93 (0, 0))
  f0 : ∃ ys hs, RRow w b1 b3 c false ys hs
  f1 : ∃ ys hs, RRow w b2 b4 c true ys hs
  low : ∀ b ∈ [b1, b2, b3, b4], W0.heap.size ≤ b
  ne : [bn, b1, b2, b3, b4].Nodup
section
variable {W0 w w' : World} {bn b1 b2 b3 b4 cp : Nat} {A : Option Addr} {c : List Nd} {v : Value} {l : List Nd}
theorem REnv.calm (h : REnv W0 w bn b1 b2 b3 b4 A cp c) : ∀ b ∈ [b1, b2, b3, b4], Calm w b := by
  obtain ⟨ys, hs, h0⟩ := h.f0
  obtain ⟨ys', hs', h1⟩ := h.f1
  intro b hb
  simp only [List.mem_cons, List.mem_nil_iff, or_false] at hb
  rcases hb with rfl | rfl | rfl | rfl
  · exact h0.calm1
  · exact h1.calm1
  · exact h0.calm3
  · exact h1.calm3
theorem REnv.lts (h : REnv W0 w bn b1 b2 b3 b4 A cp c) : ∀ b ∈ [b1, b2, b3, b4], b < w.heap.size := fun b hb => by
  obtain ⟨cs, t, h1, _⟩ := h.calm b hb
  exact lt_heap h1
theorem REnv.keep (h : REnv W0 w bn b1 b2 b3 b4 A cp c) (he : Ext w w') : REnv W0 w' bn b1 b2 b3 b4 A cp c := by
  obtain ⟨ys, hs, h0⟩ := h.f0
  obtain ⟨ys', hs', h1⟩ := h.f1
  exact ⟨h.ext.trans he, h.nds, (he.block (lt_heap h.blk)).trans h.blk, ⟨ys, hs, h0.lstep h.calm (.of_ext he) (he.block (lt_heap h0.yb)) (he.block (lt_heap h0.hb))⟩,
    ⟨ys', hs', h1.lstep h.calm (.of_ext he) (he.block (lt_heap h1.yb)) (he.block (lt_heap h1.hb))⟩, h.low, h.ne⟩
theorem REnv.fml (h : REnv W0 w bn b1 b2 b3 b4 A cp c) (hf : Fml w v l) (hs : LStep [b1, b2, b3, b4] w w') : Fml w' v l := hf.lstep h.calm hs
theorem REnv.bn_ (h : REnv W0 w bn b1 b2 b3 b4 A cp c) : bn ∉ [b1, b2, b3, b4] := (List.nodup_cons.1 h.ne).1
theorem REnv.at0 (h : REnv W0 w bn b1 b2 b3 b4 A cp c) {i : Nat} (hi : i < c.length) : ∃ has_ v, RAt w b1 b3 i c false has_ v := by
  obtain ⟨ys, hs, h0⟩ := h.f0
  exact h0.at_ hi
theorem REnv.at1 (h : REnv W0 w bn b1 b2 b3 b4 A cp c) {i : Nat} (hi : i < c.length) : ∃ has_ v, RAt w b2 b4 i c true has_ v := by
  obtain ⟨ys, hs, h0⟩ := h.f1
  exact h0.at_ hi
theorem REnv.put0 (h : REnv W0 w bn b1 b2 b3 b4 A cp c) {i : Nat} (hv : Fml w v (nnfN c false i)) : REnv W0 ((w.setCell ⟨b1, i, none⟩ v).setCell ⟨b3, i, none⟩ (.bool true)) bn b1 b2 b3 b4 A cp c ∧ LStep [b1, b2, b3, b4] w ((w.setCell ⟨b1, i, none⟩ v).setCell ⟨b3, i, none⟩ (.bool true)) := by
  obtain ⟨ys, hs, h0⟩ := h.f0
  obtain ⟨ys', hs', h1⟩ := h.f1
  have hn := h.ne
  simp only [List.nodup_cons, List.mem_cons, List.mem_nil_iff, or_false, not_or, List.nodup_nil, and_true, not_false_eq_true] at hn
  obtain ⟨⟨n1, n2, n3, n4⟩, ⟨n5, n6, n7⟩, ⟨n8, n9⟩, n10⟩ := hn
  obtain ⟨r0, st⟩ := h0.put (R := [b1, b2, b3, b4]) (i := i) n6 h.calm (by simp) (by simp) hv
  have k : ∀ b, b ≠ b1 → b ≠ b3 → ((w.setCell ⟨b1, i, none⟩ v).setCell ⟨b3, i, none⟩ (.bool true)).heap[b]? = w.heap[b]? := fun b e1 e3 => (Below.heap_setCell _ ⟨b3, i, none⟩ _ _ e3).trans (Below.heap_setCell _ ⟨b1, i, none⟩ _ _ e1)
  exact ⟨⟨st.ext0 h.ext h.low, h.nds, (k bn n1 n3).trans h.blk, ⟨_, _, r0⟩, ⟨ys', hs', h1.lstep h.calm st (k b2 (fun e => n5 e.symm) n8) (k b4 (fun e => n7 e.symm) (fun e => n10 e.symm))⟩, h.low, h.ne⟩, st⟩
theorem REnv.put1 (h : REnv W0 w bn b1 b2 b3 b4 A cp c) {i : Nat} (hv : Fml w v (nnfN c true i)) : REnv W0 ((w.setCell ⟨b2, i, none⟩ v).setCell ⟨b4, i, none⟩ (.bool true)) bn b1 b2 b3 b4 A cp c ∧ LStep [b1, b2, b3, b4] w ((w.setCell ⟨b2, i, none⟩ v).setCell ⟨b4, i, none⟩ (.bool true)) := by
  obtain ⟨ys, hs, h0⟩ := h.f0
  obtain ⟨ys', hs', h1⟩ := h.f1
  have hn := h.ne
  simp only [List.nodup_cons, List.mem_cons, List.mem_nil_iff, or_false, not_or, List.nodup_nil, and_true, not_false_eq_true] at hn
  obtain ⟨⟨n1, n2, n3, n4⟩, ⟨n5, n6, n7⟩, ⟨n8, n9⟩, n10⟩ := hn
  obtain ⟨r0, st⟩ := h1.put (R := [b1, b2, b3, b4]) (i := i) n9 h.calm (by simp) (by simp) hv
  have k : ∀ b, b ≠ b2 → b ≠ b4 → ((w.setCell ⟨b2, i, none⟩ v).setCell ⟨b4, i, none⟩ (.bool true)).heap[b]? = w.heap[b]? := fun b e1 e3 => (Below.heap_setCell _ ⟨b4, i, none⟩ _ _ e3).trans (Below.heap_setCell _ ⟨b2, i, none⟩ _ _ e1)
  exact ⟨⟨st.ext0 h.ext h.low, h.nds, (k bn n2 n4).trans h.blk, ⟨ys, hs, h0.lstep h.calm st (k b1 n5 n7) (k b3 (fun e => n8 e.symm) n10)⟩, ⟨_, _, r0⟩, h.low, h.ne⟩, st⟩
end
/-- What positive and negative come to at a node. -/
def PosSaid (W0 : World) (bn b1 b2 b3 b4 : Nat) (A : Option Addr) (cp : Nat) (c : List Nd) (z : Int) : Prop :=
  ∀ w, REnv W0 w bn b1 b2 b3 b4 A cp c → Calls Tryz.prog 78 #[.pointer (some ⟨bn, 0, none⟩), .int .i64 z] w fun e w' => ∃ u, e = .returned u ∧ REnv W0 w' bn b1 b2 b3 b4 A cp c ∧ LStep [b1, b2, b3, b4] w w' ∧ Fml w' u (nnfN c false z.toNat)
def NegSaid (W0 : World) (bn b1 b2 b3 b4 : Nat) (A : Option Addr) (cp : Nat) (c : List Nd) (z : Int) : Prop :=
  ∀ w, REnv W0 w bn b1 b2 b3 b4 A cp c → Calls Tryz.prog 99 #[.pointer (some ⟨bn, 0, none⟩), .int .i64 z] w fun e w' => ∃ u, e = .returned u ∧ REnv W0 w' bn b1 b2 b3 b4 A cp c ∧ LStep [b1, b2, b3, b4] w w' ∧ Fml w' u (nnfN c true z.toNat)
def MakePosSaid (W0 : World) (bn b1 b2 b3 b4 : Nat) (A : Option Addr) (cp : Nat) (c : List Nd) (z : Int) : Prop :=
  ∀ w, REnv W0 w bn b1 b2 b3 b4 A cp c → Calls Tryz.prog 90 #[.pointer (some ⟨bn, 0, none⟩), .int .i64 z] w fun e w' => ∃ u, e = .returned u ∧ REnv W0 w' bn b1 b2 b3 b4 A cp c ∧ LStep [b1, b2, b3, b4] w w' ∧ Fml w' u (nnfN c false z.toNat)
def MakeNegSaid (W0 : World) (bn b1 b2 b3 b4 : Nat) (A : Option Addr) (cp : Nat) (c : List Nd) (z : Int) : Prop :=
  ∀ w, REnv W0 w bn b1 b2 b3 b4 A cp c → Calls Tryz.prog 115 #[.pointer (some ⟨bn, 0, none⟩), .int .i64 z] w fun e w' => ∃ u, e = .returned u ∧ REnv W0 w' bn b1 b2 b3 b4 A cp c ∧ LStep [b1, b2, b3, b4] w w' ∧ Fml w' u (nnfN c true z.toNat)
end Go.Proofs.YtfcmdiigfgbgbaaGreat

/- The reference's positive and negative: the rows keep what was made. -/

namespace Go.Proofs.YtfcmdiigfgbgbaaGreat
open Go.RowKit

theorem cells5 {w : World} {b : Nat} {a0 a1 a2 a3 a4 : Value} {t : TypeId} (h : w.heap[b]? = some (.cells #[a0, a1, a2, a3, a4] t (0, 0))) :
    (w.cell? ⟨b, 0, none⟩ = some a0 ∧ w.cell? ⟨b, 1, none⟩ = some a1 ∧ w.cell? ⟨b, 2, none⟩ = some a2 ∧ w.cell? ⟨b, 3, none⟩ = some a3 ∧ w.cell? ⟨b, 4, none⟩ = some a4) ∧ b < w.heap.size :=
  ⟨⟨cell_block h rfl, cell_block h rfl, cell_block h rfl, cell_block h rfl, cell_block h rfl⟩, lt_heap h⟩
set_option maxRecDepth 100000 in
set_option maxHeartbeats 4000000 in
theorem positive_of {W0 : World} {bn b1 b2 b3 b4 cp : Nat} {A : Option Addr} {c : List Nd} {i : Nat} (hi : i < c.length) (hm : MakePosSaid W0 bn b1 b2 b3 b4 A cp c i) : PosSaid W0 bn b1 b2 b3 b4 A cp c i := by
  intro w henv
  rw [Int.toNat_natCast]
  have HE := Lib.hid henv
  have HM := Lib.hid hm
  obtain ⟨⟨q0, q1, q2, q3, q4⟩, qlt⟩ := cells5 henv.blk
  obtain ⟨has_, v0, hat⟩ := henv.at0 hi
  have hy2 := hat.y
  have hh2 := hat.h
  have hnd := henv.ne
  simp only [List.nodup_cons, List.mem_cons, List.mem_nil_iff, or_false, not_or, List.nodup_nil, and_true, not_false_eq_true] at hnd
  obtain ⟨⟨n1, n2, n3, n4⟩, ⟨n5, n6, n7⟩, ⟨n8, n9⟩, n10⟩ := hnd
  have hi0 : (0 : Int) ≤ (i : Int) := by omega
  have hi1 : (i : Int) < (c.length : Int) := by omega
  obtain ⟨Av, nv, cv, rfl⟩ := hat.sl
  cases has_
  case true =>
    have HF := Lib.hid (hat.is rfl)
    clear henv hm hat n1 n2 n3 n4 n5 n6 n7 n8 n9 n10
    go_enter Tryz.func78, Tryz.ntmps78
    go_wp2_with fail
    go_ret
    exact ⟨_, rfl, HE.out, LStep.refl _, HF.out⟩
  case false =>
    have HNA := Lib.hid (show bn ≠ b1 ∧ bn ≠ b3 ∧ b1 ≠ b3 from ⟨by assumption, by assumption, by assumption⟩)
    clear henv hm hat n1 n2 n3 n4 n5 n6 n7 n8 n9 n10
    go_enter Tryz.func78, Tryz.ntmps78
    go_wp2_with fail
    have KS : (w).cell? ⟨bn, 1, none⟩ = some (.slice (some ⟨b1, 0, none⟩) c.length c.length) ∧ (w).cell? ⟨bn, 3, none⟩ = some (.slice (some ⟨b3, 0, none⟩) c.length c.length) := ⟨q1, q3⟩
    go_region_held3 (fun w' => w'.cell? ⟨bn, 1, none⟩ = some (.slice (some ⟨b1, 0, none⟩) c.length c.length) ∧ w'.cell? ⟨bn, 3, none⟩ = some (.slice (some ⟨b3, 0, none⟩) c.length c.length)) (first | exact KS | exact KSa | exact KSb | exact KSc | go_keep) (first | (go_at_call 90; refine (HM.out _ (by exact HE.out.keep (by repeat (first | exact Ext.refl _ | assumption | apply Ext.alloc | apply Ext.drew)))).mono ?_; rw [Int.toNat_natCast]; rintro e wa ⟨ua, rfl, hea, hsa, hua⟩; have Ea := Lib.hid hea; have Sa := Lib.hid (LStep.trans (LStep.of_ext (a := w) (by repeat (first | exact Ext.refl _ | assumption | apply Ext.alloc | apply Ext.drew))) hsa); have Fa := Lib.hid hua; have KSa := (show (wa).cell? ⟨bn, 1, none⟩ = some (.slice (some ⟨b1, 0, none⟩) c.length c.length) ∧ (wa).cell? ⟨bn, 3, none⟩ = some (.slice (some ⟨b3, 0, none⟩) c.length c.length) from ⟨(cells5 hea.blk).1.2.1, (cells5 hea.blk).1.2.2.2.1⟩); obtain ⟨hasa, va, hata⟩ := hea.at0 hi; have ya := hata.y; have yfa := hata.fy; obtain ⟨Aa, ca, rfl, _⟩ := fml_slice hua; obtain ⟨U, hU⟩ : ∃ U, U = Value.slice Aa (nnfN c false i).length ca := ⟨_, rfl⟩; have KSb := (show (wa.setCell ⟨b1, i, none⟩ U).cell? ⟨bn, 1, none⟩ = some (.slice (some ⟨b1, 0, none⟩) c.length c.length) ∧ (wa.setCell ⟨b1, i, none⟩ U).cell? ⟨bn, 3, none⟩ = some (.slice (some ⟨b3, 0, none⟩) c.length c.length) from ⟨(cell_set_other _ HNA.out.1 _).trans KSa.1, (cell_set_other _ HNA.out.1 _).trans KSa.2⟩); have hb := ((cell_set_other wa (p := ⟨b1, i, none⟩) (q := ⟨b3, i, none⟩) (fun e => HNA.out.2.2 e.symm) U).trans hata.h); have fb := ((frozen_set_other wa (p := ⟨b1, i, none⟩) (q := ⟨b3, i, none⟩) (fun e => HNA.out.2.2 e.symm) U).trans hata.fh); have KSc := (show ((wa.setCell ⟨b1, i, none⟩ U).setCell ⟨b3, i, none⟩ (.bool true)).cell? ⟨bn, 1, none⟩ = some (.slice (some ⟨b1, 0, none⟩) c.length c.length) ∧ ((wa.setCell ⟨b1, i, none⟩ U).setCell ⟨b3, i, none⟩ (.bool true)).cell? ⟨bn, 3, none⟩ = some (.slice (some ⟨b3, 0, none⟩) c.length c.length) from ⟨(cell_set_other _ HNA.out.2.1 _).trans KSb.1, (cell_set_other _ HNA.out.2.1 _).trans KSb.2⟩); have yc := ((cell_set_other (wa.setCell ⟨b1, i, none⟩ U) (p := ⟨b3, i, none⟩) (q := ⟨b1, i, none⟩) HNA.out.2.2 (.bool true)).trans (hata.put U)); have PUT := Lib.hid (hea.put0 hua); rw [hU] at KSb hb fb KSc yc; obtain ⟨k1, k3⟩ := KSc; have KSc := And.intro k1 k3; clear hU hea hsa hua hata))
    all_goals
      go_wp2_with fail
      go_ret
      exact ⟨_, rfl, PUT.out.1.keep (by repeat (first | exact Ext.refl _ | assumption | apply Ext.alloc | apply Ext.drew)), (Sa.out.trans PUT.out.2).trans (LStep.of_ext (by repeat (first | exact Ext.refl _ | assumption | apply Ext.alloc | apply Ext.drew))), (Ea.out.fml Fa.out PUT.out.2).ext (by repeat (first | exact Ext.refl _ | assumption | apply Ext.alloc | apply Ext.drew))⟩
set_option maxRecDepth 100000 in
set_option maxHeartbeats 4000000 in
theorem negative_of {W0 : World} {bn b1 b2 b3 b4 cp : Nat} {A : Option Addr} {c : List Nd} {i : Nat} (hi : i < c.length) (hm : MakeNegSaid W0 bn b1 b2 b3 b4 A cp c i) : NegSaid W0 bn b1 b2 b3 b4 A cp c i := by
  intro w henv
  rw [Int.toNat_natCast]
  have HE := Lib.hid henv
  have HM := Lib.hid hm
  obtain ⟨⟨q0, q1, q2, q3, q4⟩, qlt⟩ := cells5 henv.blk
  obtain ⟨has_, v0, hat⟩ := henv.at1 hi
  have hy2 := hat.y
  have hh2 := hat.h
  have hnd := henv.ne
  simp only [List.nodup_cons, List.mem_cons, List.mem_nil_iff, or_false, not_or, List.nodup_nil, and_true, not_false_eq_true] at hnd
  obtain ⟨⟨n1, n2, n3, n4⟩, ⟨n5, n6, n7⟩, ⟨n8, n9⟩, n10⟩ := hnd
  have hi0 : (0 : Int) ≤ (i : Int) := by omega
  have hi1 : (i : Int) < (c.length : Int) := by omega
  obtain ⟨Av, nv, cv, rfl⟩ := hat.sl
  cases has_
  case true =>
    have HF := Lib.hid (hat.is rfl)
    clear henv hm hat n1 n2 n3 n4 n5 n6 n7 n8 n9 n10
    go_enter Tryz.func99, Tryz.ntmps99
    go_wp2_with fail
    go_ret
    exact ⟨_, rfl, HE.out, LStep.refl _, HF.out⟩
  case false =>
    have HNA := Lib.hid (show bn ≠ b2 ∧ bn ≠ b4 ∧ b2 ≠ b4 from ⟨by assumption, by assumption, by assumption⟩)
    clear henv hm hat n1 n2 n3 n4 n5 n6 n7 n8 n9 n10
    go_enter Tryz.func99, Tryz.ntmps99
    go_wp2_with fail
    have KS : (w).cell? ⟨bn, 2, none⟩ = some (.slice (some ⟨b2, 0, none⟩) c.length c.length) ∧ (w).cell? ⟨bn, 4, none⟩ = some (.slice (some ⟨b4, 0, none⟩) c.length c.length) := ⟨q2, q4⟩
    go_region_held3 (fun w' => w'.cell? ⟨bn, 2, none⟩ = some (.slice (some ⟨b2, 0, none⟩) c.length c.length) ∧ w'.cell? ⟨bn, 4, none⟩ = some (.slice (some ⟨b4, 0, none⟩) c.length c.length)) (first | exact KS | exact KSa | exact KSb | exact KSc | go_keep) (first | (go_at_call 115; refine (HM.out _ (by exact HE.out.keep (by repeat (first | exact Ext.refl _ | assumption | apply Ext.alloc | apply Ext.drew)))).mono ?_; rw [Int.toNat_natCast]; rintro e wa ⟨ua, rfl, hea, hsa, hua⟩; have Ea := Lib.hid hea; have Sa := Lib.hid (LStep.trans (LStep.of_ext (a := w) (by repeat (first | exact Ext.refl _ | assumption | apply Ext.alloc | apply Ext.drew))) hsa); have Fa := Lib.hid hua; have KSa := (show (wa).cell? ⟨bn, 2, none⟩ = some (.slice (some ⟨b2, 0, none⟩) c.length c.length) ∧ (wa).cell? ⟨bn, 4, none⟩ = some (.slice (some ⟨b4, 0, none⟩) c.length c.length) from ⟨(cells5 hea.blk).1.2.2.1, (cells5 hea.blk).1.2.2.2.2⟩); obtain ⟨hasa, va, hata⟩ := hea.at1 hi; have ya := hata.y; have yfa := hata.fy; obtain ⟨Aa, ca, rfl, _⟩ := fml_slice hua; obtain ⟨U, hU⟩ : ∃ U, U = Value.slice Aa (nnfN c true i).length ca := ⟨_, rfl⟩; have KSb := (show (wa.setCell ⟨b2, i, none⟩ U).cell? ⟨bn, 2, none⟩ = some (.slice (some ⟨b2, 0, none⟩) c.length c.length) ∧ (wa.setCell ⟨b2, i, none⟩ U).cell? ⟨bn, 4, none⟩ = some (.slice (some ⟨b4, 0, none⟩) c.length c.length) from ⟨(cell_set_other _ HNA.out.1 _).trans KSa.1, (cell_set_other _ HNA.out.1 _).trans KSa.2⟩); have hb := ((cell_set_other wa (p := ⟨b2, i, none⟩) (q := ⟨b4, i, none⟩) (fun e => HNA.out.2.2 e.symm) U).trans hata.h); have fb := ((frozen_set_other wa (p := ⟨b2, i, none⟩) (q := ⟨b4, i, none⟩) (fun e => HNA.out.2.2 e.symm) U).trans hata.fh); have KSc := (show ((wa.setCell ⟨b2, i, none⟩ U).setCell ⟨b4, i, none⟩ (.bool true)).cell? ⟨bn, 2, none⟩ = some (.slice (some ⟨b2, 0, none⟩) c.length c.length) ∧ ((wa.setCell ⟨b2, i, none⟩ U).setCell ⟨b4, i, none⟩ (.bool true)).cell? ⟨bn, 4, none⟩ = some (.slice (some ⟨b4, 0, none⟩) c.length c.length) from ⟨(cell_set_other _ HNA.out.2.1 _).trans KSb.1, (cell_set_other _ HNA.out.2.1 _).trans KSb.2⟩); have yc := ((cell_set_other (wa.setCell ⟨b2, i, none⟩ U) (p := ⟨b4, i, none⟩) (q := ⟨b2, i, none⟩) HNA.out.2.2 (.bool true)).trans (hata.put U)); have PUT := Lib.hid (hea.put1 hua); rw [hU] at KSb hb fb KSc yc; obtain ⟨k1, k3⟩ := KSc; have KSc := And.intro k1 k3; clear hU hea hsa hua hata))
    all_goals
      go_wp2_with fail
      go_ret
      exact ⟨_, rfl, PUT.out.1.keep (by repeat (first | exact Ext.refl _ | assumption | apply Ext.alloc | apply Ext.drew)), (Sa.out.trans PUT.out.2).trans (LStep.of_ext (by repeat (first | exact Ext.refl _ | assumption | apply Ext.alloc | apply Ext.drew))), (Ea.out.fml Fa.out PUT.out.2).ext (by repeat (first | exact Ext.refl _ | assumption | apply Ext.alloc | apply Ext.drew))⟩
end Go.Proofs.YtfcmdiigfgbgbaaGreat
