/- The table of math/bits, read from what the row lays: the plain datum. -/
import Derived.Test.YtdpblciohodgcaaDoorS31
import Derived.Test.YtdpblciohodgcaaDoorCards
import Derived.Test.YtdpblciohodgcaaDoorTie
import Derived.MakeChecks
import Derived.OpenShut
import Derived.ChangeSame
import Derived.ProofKit
import Derived.LaidMore
import Derived.Lib.SmallJoins
import Derived.Below
import Derived.SevenTiedAt
import Derived.Stop.Joined
import Derived.Test.YtdpblciohodgcaaDoorS08
import Derived.Test.YtdpblciohodgcaaDoorS25
import Derived.Test.YtdpblciohodgcaaDoorS29

namespace Go.Proofs.YtdpblciohodgcaaDoor
open Go.ChangeShapes Go.WideShapes Go.ChangeAt Go.RowKit Go.Joins

theorem gTabZ : Tryd.prog.globalNamed "math/bits.deBruijn64tab" = some 1 := by kernel_rfl
theorem tTabZ : (Tryd.prog.globals[1]?).map (·.type) = some 117 := by kernel_rfl
theorem c5Z : Tryd.prog.cellsOf 5 = 1 := by kernel_rfl
theorem tabz_of_met {W : World} (h : laidMet Tryd.prog [("math/bits.deBruijn64tab", Rows.laid_math_bits_deBruijn64tab)] W) : TabZ W := by
  obtain ⟨_, ⟨g, t, cs, fuel, p, _, hg, ht, hv, hd, _, _⟩, _, _⟩ := h
  obtain rfl := Option.some.inj (gTabZ.symm.trans hg)
  obtain rfl := Option.some.inj (tTabZ.symm.trans ht)
  have hd' : DataW.trod (fun _ => ()) Tryd.prog W 0 (fun _ => true) false fuel 117 cs.toList = some (.agg (dbTab.map fun (z : Nat) => .lit (.int .u8 (z : Int))), p) := hd
  obtain ⟨xs, m, rfl, hx, hlen, hxl, hi⟩ := DataW.trod_array Tryd.underlying117 hd'
  simp only [Prod.mk.injEq, DataW.agg.injEq] at hx
  obtain ⟨hx1, _⟩ := hx
  have hcell := fun j => World.var?_cell hg hv j
  have key : ∀ k, k < 64 → W.cell? ⟨1, k, none⟩ = some (.int .u8 ((dbTab.getD k 0 : Nat) : Int)) := fun k hk => by
    have h1 := hi k hk
    rw [c5Z, Nat.mul_one] at h1
    have hxk : (xs.map (·.1))[k]? = some (.lit (.int .u8 ((dbTab.getD k 0 : Nat) : Int))) := by
      rw [← hx1, List.getElem?_map, List.getD_eq_getElem?_getD]
      have : k < dbTab.length := hk
      rw [List.getElem?_eq_getElem this]
      rfl
    rw [List.getElem?_map] at hxk
    obtain ⟨x, hx2, hx3⟩ := Option.map_eq_some_iff.1 hxk
    rw [hx2] at h1
    obtain ⟨z, hc, hy, _⟩ := DataW.trod_int Tryd.underlying5 h1
    rw [hy] at hx3
    simp only [DataW.lit.injEq, Lit.int.injEq, true_and] at hx3
    have h0 := congrArg (fun q => q[0]?) hc
    simp only [List.getElem?_take, List.getElem?_drop] at h0
    rw [hcell k, ← Array.getElem?_toList, ← hx3]
    simpa using h0
  exact ⟨key, World.block_lt_of_cell? W _ (key 0 (by decide))⟩
end Go.Proofs.YtdpblciohodgcaaDoor

/- The table of math/bits, read from what the row lays. -/

namespace Go.Proofs.YtdpblciohodgcaaDoor
open Go.ChangeShapes Go.WideShapes Go.ChangeAt Go.RowKit Go.Joins

theorem tabz_of_laid {W : World} (h : laidMetH Tryd.prog [("math/bits.deBruijn64tab", Rows.laid_math_bits_deBruijn64tab)] W) : TabZ W := by
  rw [Go.MakeChecks.laidMetH_plain _ _ _ rfl] at h
  exact tabz_of_met h
end Go.Proofs.YtdpblciohodgcaaDoor

/- Formulas as trees: the canonical list of a formula is the list of its tree, and tells it. -/

namespace Go.Proofs.YtdpblciohodgcaaDoor

/-- The tree of a formula; a node's own operand numbers are 0 in it. -/
inductive Tr where
  | leaf (n : Nd)
  | one (n : Nd) (a : Tr)
  | two (n : Nd) (a b : Tr)
def Nd.head (n : Nd) : Nd := n.with_ 0 0
def Tr.ok : Tr → Prop
  | .leaf n => hasX n.op = false ∧ hasY n.op = false
  | .one n a => hasX n.op = true ∧ hasY n.op = false ∧ n.head = n ∧ a.ok
  | .two n a b => hasX n.op = true ∧ hasY n.op = true ∧ n.head = n ∧ a.ok ∧ b.ok
def Tr.size : Tr → Nat
  | .leaf _ => 1
  | .one _ a => a.size + 1
  | .two _ a b => a.size + b.size + 1
def Tr.top : Tr → Nd
  | .leaf n => n
  | .one n _ => n
  | .two n _ _ => n
def trF (f : List Nd) : Nat → Nat → Tr
  | 0, _ => .leaf Nd.zero
  | k + 1, i => bif hasY (f.getD i Nd.zero).op then .two (f.getD i Nd.zero).head (trF f k (f.getD i Nd.zero).x.toNat) (trF f k (f.getD i Nd.zero).y.toNat)
      else bif hasX (f.getD i Nd.zero).op then .one (f.getD i Nd.zero).head (trF f k (f.getD i Nd.zero).x.toNat) else .leaf (f.getD i Nd.zero)
/-- The tree of the formula at a place of a list. -/
def tr (f : List Nd) (i : Nat) : Tr := trF f (i + 1) i
def treeOf (f : List Nd) : Tr := tr f (f.length - 1)
/-- What the node is with its operands' trees. -/
def mkTr (n : Nd) (a b : Tr) : Tr := bif hasY n.op then .two n.head a b else bif hasX n.op then .one n.head a else .leaf n

theorem trF_fuel {f : List Nd} (hf : Wf f) : ∀ (k i : Nat), i < k → i < f.length → trF f k i = tr f i := by
  intro k
  induction k using Nat.strongRecOn with
  | _ k ih =>
    intro i h hi
    cases k with
    | zero => omega
    | succ k =>
      obtain ⟨n, hn⟩ : ∃ n, f[i]? = some n := ⟨_, List.getElem?_eq_getElem hi⟩
      obtain ⟨hx, hy⟩ := hf i n hn
      have e : ∀ (b : Nat), b < i → trF f k b = trF f i b := fun b hb => by
        rw [ih k (by omega) b (by omega) (by omega)]
        by_cases hik : i = k
        · subst hik; exact (ih i (by omega) b hb (by omega)).symm
        · exact (ih i (by omega) b hb (by omega)).symm
      unfold tr
      simp only [trF, getD_of hn]
      cases h2 : hasY n.op
      · cases h1 : hasX n.op
        · rfl
        · have := hx h1
          simp only [cond_true, cond_false]
          rw [e _ (by omega)]
      · have h1 := hasX_of_hasY h2
        have := hx h1
        have := hy h2
        simp only [cond_true]
        rw [e _ (by omega), e _ (by omega)]
theorem tr_eq {f : List Nd} (hf : Wf f) {i : Nat} {n : Nd} (hn : f[i]? = some n) : tr f i = mkTr n (tr f n.x.toNat) (tr f n.y.toNat) := by
  have hi : i < f.length := (List.getElem?_eq_some_iff.1 hn).1
  obtain ⟨hx, hy⟩ := hf i n hn
  conv => lhs; unfold tr trF
  simp only [getD_of hn, mkTr]
  cases h2 : hasY n.op
  · cases h1 : hasX n.op
    · rfl
    · have := hx h1
      simp only [cond_true, cond_false]
      rw [trF_fuel hf _ _ (by omega) (by omega)]
  · have h1 := hasX_of_hasY h2
    have := hx h1
    have := hy h2
    simp only [cond_true]
    rw [trF_fuel hf _ _ (by omega) (by omega), trF_fuel hf _ _ (by omega) (by omega)]
theorem mkTr_congr {n : Nd} {a a' b b' : Tr} (hx : hasX n.op = true → a = a') (hy : hasY n.op = true → b = b') : mkTr n a b = mkTr n a' b' := by
  unfold mkTr
  cases h2 : hasY n.op
  · cases h1 : hasX n.op
    · rfl
    · rw [hx h1]; rfl
  · rw [hx (hasX_of_hasY h2), hy h2]
theorem tr_prefix {f g : List Nd} (hf : Wf f) (hg : Wf g) (hp : f <+: g) : ∀ i, i < f.length → tr g i = tr f i := by
  intro i
  induction i using Nat.strongRecOn with
  | _ i ih =>
    intro hi
    obtain ⟨n, hn⟩ : ∃ n, f[i]? = some n := ⟨_, List.getElem?_eq_getElem hi⟩
    obtain ⟨hx, hy⟩ := hf i n hn
    have hn' : g[i]? = some n := by
      obtain ⟨t, rfl⟩ := hp
      rw [List.getElem?_append_left hi]; exact hn
    rw [tr_eq hf hn, tr_eq hg hn']
    exact mkTr_congr (fun h => by have := hx h; exact ih _ (by omega) (by omega)) (fun h => by have := hy h; exact ih _ (by omega) (by omega))
theorem head_head (n : Nd) : n.head.head = n.head := by
  unfold Nd.head Nd.with_
  cases hasX n.op <;> cases hasY n.op <;> rfl
theorem with_head (n : Nd) (a b : Nat) : (n.with_ a b).head = n.head := by
  unfold Nd.head Nd.with_
  cases hasX n.op <;> cases hasY n.op <;> rfl
theorem head_with (n : Nd) (a b : Nat) : n.head.with_ a b = n.with_ a b := by
  unfold Nd.head Nd.with_
  cases hasX n.op <;> cases hasY n.op <;> rfl
theorem with_op (n : Nd) (a b : Nat) : (n.with_ a b).op = n.op := rfl
theorem mkTr_ok {n : Nd} {a b : Tr} (ha : hasX n.op = true → a.ok) (hb : hasY n.op = true → b.ok) : (mkTr n a b).ok := by
  unfold mkTr
  cases h2 : hasY n.op
  · cases h1 : hasX n.op
    · exact ⟨h1, h2⟩
    · exact ⟨h1, h2, head_head n, ha h1⟩
  · have h1 := hasX_of_hasY h2
    exact ⟨h1, h2, head_head n, ha h1, hb h2⟩
theorem tr_ok {f : List Nd} (hf : Wf f) : ∀ i, i < f.length → (tr f i).ok := by
  intro i
  induction i using Nat.strongRecOn with
  | _ i ih =>
    intro hi
    obtain ⟨n, hn⟩ : ∃ n, f[i]? = some n := ⟨_, List.getElem?_eq_getElem hi⟩
    obtain ⟨hx, hy⟩ := hf i n hn
    rw [tr_eq hf hn]
    exact mkTr_ok (fun h => by have := hx h; exact ih _ (by omega) (by omega)) (fun h => by have := hy h; exact ih _ (by omega) (by omega))

/-- A tree put into a list: the list behind it, and the root's place. -/
def ins : Tr → List Nd → List Nd × Nat
  | .leaf n, o => (addN o n, o.idxOf n)
  | .one n a, o => (addN (ins a o).1 (n.with_ (ins a o).2 0), (ins a o).1.idxOf (n.with_ (ins a o).2 0))
  | .two n a b, o => (addN (ins b (ins a o).1).1 (n.with_ (ins a o).2 (ins b (ins a o).1).2), (ins b (ins a o).1).1.idxOf (n.with_ (ins a o).2 (ins b (ins a o).1).2))
def canon (t : Tr) : List Nd := (ins t []).1

theorem with_leaf {n : Nd} (h1 : hasX n.op = false) (h2 : hasY n.op = false) (a b : Nat) : n.with_ a b = n := by
  unfold Nd.with_; rw [h1, h2]; rfl
theorem with_one {n : Nd} (h2 : hasY n.op = false) (a b c : Nat) : n.with_ a b = n.with_ a c := by
  unfold Nd.with_; rw [h2]; rfl
theorem finN_ins {f : List Nd} (hf : Wf f) : ∀ (i : Nat) (o : List Nd), i < f.length → finN f i o = ins (tr f i) o := by
  intro i
  induction i using Nat.strongRecOn with
  | _ i ih =>
    intro o hi
    obtain ⟨n, hn⟩ : ∃ n, f[i]? = some n := ⟨_, List.getElem?_eq_getElem hi⟩
    obtain ⟨hx, hy⟩ := hf i n hn
    rw [finN_eq hf hn, tr_eq hf hn]
    unfold mkTr opX opY
    cases h2 : hasY n.op
    · cases h1 : hasX n.op
      · simp only [cond_false, ins, Bool.false_eq_true, if_false, with_leaf h1 h2]
      · have := hx h1
        simp only [cond_false, cond_true, ins, Bool.false_eq_true, if_false, if_true, head_with]
        rw [ih _ (by omega) _ (by omega), with_one h2 _ _ 0]
    · have h1 := hasX_of_hasY h2
      have := hx h1
      have := hy h2
      simp only [h1, cond_true, ins, if_true, head_with]
      rw [ih n.x.toNat (by omega) o (by omega), ih n.y.toNat (by omega) _ (by omega)]

theorem wf_addN {o : List Nd} {m : Nd} (ho : Wf o) (hx : hasX m.op = true → 0 ≤ m.x ∧ m.x < o.length) (hy : hasY m.op = true → 0 ≤ m.y ∧ m.y < o.length) : Wf (addN o m) := by
  unfold addN
  split
  · exact ho
  · exact wf_snoc ho hx hy
theorem addN_get (o : List Nd) (m : Nd) : (addN o m)[o.idxOf m]? = some m := by
  rw [← idxOf_addN]
  rw [List.getElem?_eq_getElem (List.idxOf_lt_length_of_mem (mem_addN o m))]
  rw [List.getElem_idxOf]
structure InsOk (t : Tr) (o : List Nd) : Prop where
  wf : Wf (ins t o).1
  pre : o <+: (ins t o).1
  lt : (ins t o).2 < (ins t o).1.length
  tree : tr (ins t o).1 (ins t o).2 = t
theorem ins_ok : ∀ (t : Tr) (o : List Nd), t.ok → Wf o → InsOk t o
  | .leaf n, o, ⟨h1, h2⟩, ho => by
    have hw : Wf (addN o n) := wf_addN ho (fun h => by rw [h1] at h; cases h) (fun h => by rw [h2] at h; cases h)
    refine ⟨hw, addN_prefix _ _, idxOf_lt_addN _ _, ?_⟩
    show tr (addN o n) (o.idxOf n) = _
    rw [tr_eq hw (addN_get o n)]
    unfold mkTr
    rw [h1, h2]
    rfl
  | .one n a, o, ⟨h1, h2, h3, ha⟩, ho => by
    have A := ins_ok a o ha ho
    have hw : Wf (addN (ins a o).1 (n.with_ (ins a o).2 0)) := wf_addN A.wf (fun h => by
      have := A.lt
      simp only [Nd.with_, h1, cond_true]
      omega) (fun h => by rw [with_op, h2] at h; cases h)
    refine ⟨hw, A.pre.trans (addN_prefix _ _), idxOf_lt_addN _ _, ?_⟩
    show tr (addN (ins a o).1 (n.with_ (ins a o).2 0)) ((ins a o).1.idxOf (n.with_ (ins a o).2 0)) = _
    rw [tr_eq hw (addN_get _ _)]
    unfold mkTr
    rw [with_op, h1, h2, with_head, h3]
    have e : (n.with_ (ins a o).2 0).x.toNat = (ins a o).2 := by simp [Nd.with_, h1]
    rw [e, tr_prefix A.wf hw (addN_prefix _ _) _ A.lt, A.tree]
    rfl
  | .two n a b, o, ⟨h1, h2, h3, ha, hb⟩, ho => by
    have A := ins_ok a o ha ho
    have B := ins_ok b _ hb A.wf
    have hlt : (ins a o).2 < (ins b (ins a o).1).1.length := Nat.lt_of_lt_of_le A.lt B.pre.length_le
    have hw : Wf (addN (ins b (ins a o).1).1 (n.with_ (ins a o).2 (ins b (ins a o).1).2)) := wf_addN B.wf (fun h => by
      simp only [Nd.with_, h1, cond_true]
      omega) (fun h => by
      have := B.lt
      simp only [Nd.with_, h2, cond_true]
      omega)
    refine ⟨hw, (A.pre.trans B.pre).trans (addN_prefix _ _), idxOf_lt_addN _ _, ?_⟩
    show tr (addN (ins b (ins a o).1).1 (n.with_ (ins a o).2 (ins b (ins a o).1).2)) ((ins b (ins a o).1).1.idxOf (n.with_ (ins a o).2 (ins b (ins a o).1).2)) = _
    rw [tr_eq hw (addN_get _ _)]
    unfold mkTr
    rw [with_op, h2, with_head, h3]
    have e : (n.with_ (ins a o).2 (ins b (ins a o).1).2).x.toNat = (ins a o).2 := by simp [Nd.with_, h1]
    have e' : (n.with_ (ins a o).2 (ins b (ins a o).1).2).y.toNat = (ins b (ins a o).1).2 := by simp [Nd.with_, h2]
    rw [e, e', tr_prefix A.wf hw (B.pre.trans (addN_prefix _ _)) _ A.lt, A.tree, tr_prefix B.wf hw (addN_prefix _ _) _ B.lt, B.tree]
    rfl

/-- The trees in a list are below a bound. -/
def Below (N : Nat) (o : List Nd) : Prop := ∀ k, k < o.length → (tr o k).size < N
theorem below_addN {N : Nat} {o : List Nd} {m : Nd} (ho : Wf o) (hw : Wf (addN o m)) (h : Below N o) (hm : (tr (addN o m) (o.idxOf m)).size < N) : Below N (addN o m) := by
  intro k hk
  by_cases hko : k < o.length
  · rw [tr_prefix ho hw (addN_prefix _ _) _ hko]
    exact h k hko
  · have hne : m ∉ o := fun hm' => by
      unfold addN at hk
      rw [if_pos hm'] at hk
      exact hko hk
    have : k = o.idxOf m := by
      rw [List.idxOf_eq_length hne]
      unfold addN at hk
      rw [if_neg hne] at hk
      simp at hk
      omega
    rw [this]
    exact hm
theorem ins_below : ∀ (t : Tr) (o : List Nd) (N : Nat), t.ok → Wf o → Below N o → t.size < N → Below N (ins t o).1
  | .leaf n, o, N, ht, ho, hb, hs => by
    have I := ins_ok (.leaf n) o ht ho
    exact below_addN ho I.wf hb (Nat.lt_of_le_of_lt (Nat.le_of_eq (congrArg Tr.size I.tree)) hs)
  | .one n a, o, N, ht, ho, hb, hs => by
    have I := ins_ok (.one n a) o ht ho
    have A := ins_ok a o ht.2.2.2 ho
    have hs' : a.size + 1 < N := hs
    exact below_addN A.wf I.wf (ins_below a o N ht.2.2.2 ho hb (by omega)) (Nat.lt_of_le_of_lt (Nat.le_of_eq (congrArg Tr.size I.tree)) hs)
  | .two n a b, o, N, ht, ho, hb, hs => by
    have I := ins_ok (.two n a b) o ht ho
    have A := ins_ok a o ht.2.2.2.1 ho
    have B := ins_ok b _ ht.2.2.2.2 A.wf
    have hs' : a.size + b.size + 1 < N := hs
    exact below_addN B.wf I.wf (ins_below b _ N ht.2.2.2.2 A.wf (ins_below a o N ht.2.2.2.1 ho hb (by omega)) (by omega)) (Nat.lt_of_le_of_lt (Nat.le_of_eq (congrArg Tr.size I.tree)) hs)
theorem below_nil (N : Nat) : Below N [] := fun k h => absurd h (by simp)
theorem last_addN {o : List Nd} {m : Nd} {t : Tr} (hb : Below t.size o) (ht : tr (addN o m) (o.idxOf m) = t) : o.idxOf m + 1 = (addN o m).length := by
  have hne : m ∉ o := fun hm => by
    have hlt := List.idxOf_lt_length_of_mem hm
    have := hb _ hlt
    have e : addN o m = o := by unfold addN; rw [if_pos hm]
    rw [e] at ht
    rw [ht] at this
    omega
  rw [List.idxOf_eq_length hne]
  unfold addN
  rw [if_neg hne]
  simp
/-- The root of a canonical list is its last node. -/
theorem ins_last (t : Tr) (ht : t.ok) : (ins t []).2 + 1 = (canon t).length := by
  have I := ins_ok t [] ht wf_nil
  cases t with
  | leaf n => exact last_addN (below_nil _) I.tree
  | one n a =>
    have A := ins_ok a [] ht.2.2.2 wf_nil
    exact last_addN (t := .one n a) (ins_below a [] _ ht.2.2.2 wf_nil (below_nil _) (Nat.lt_succ_self _)) I.tree
  | two n a b =>
    have A := ins_ok a [] ht.2.2.2.1 wf_nil
    have B := ins_ok b _ ht.2.2.2.2 A.wf
    have e : (Tr.two n a b).size = a.size + b.size + 1 := rfl
    exact last_addN (t := .two n a b) (ins_below b _ _ ht.2.2.2.2 A.wf (ins_below a [] _ ht.2.2.2.1 wf_nil (below_nil _) (by omega)) (by omega)) I.tree
theorem canon_wf {t : Tr} (ht : t.ok) : Wf (canon t) := (ins_ok t [] ht wf_nil).wf
theorem canon_pos {t : Tr} (ht : t.ok) : 0 < (canon t).length := by have := ins_last t ht; omega
theorem treeOf_canon {t : Tr} (ht : t.ok) : treeOf (canon t) = t := by
  unfold treeOf
  have h := ins_last t ht
  rw [show (canon t).length - 1 = (ins t []).2 by omega]
  exact (ins_ok t [] ht wf_nil).tree
end Go.Proofs.YtdpblciohodgcaaDoor

/- What the functions on formulas come to on trees. -/

namespace Go.Proofs.YtdpblciohodgcaaDoor

theorem treeOf_ok {f : List Nd} (h : check f = 0) : (treeOf f).ok := tr_ok (check_wf h) _ (by have := (check_parts h).1; omega)
theorem compactN_tree {f : List Nd} (h : check f = 0) : compactN f = canon (treeOf f) := by
  rw [compactN_eq h, finN_ins (check_wf h) _ _ (by have := (check_parts h).1; omega)]
  rfl
theorem subN_tree {f : List Nd} (h : check f = 0) {z : Nat} (hz : z < f.length) : subN f z = canon (tr f z) := by
  unfold subN
  have e : (decide ((z : Int) < 0) || decide ((f.length : Int) ≤ (z : Int))) = false := by simp; omega
  rw [h, e, Int.toNat_natCast, finN_ins (check_wf h) _ _ hz]
  rfl
theorem treeOf_compact {f : List Nd} (h : check f = 0) : treeOf (compactN f) = treeOf f := by
  rw [compactN_tree h, treeOf_canon (treeOf_ok h)]
theorem compact_twice {f : List Nd} (h : check f = 0) : compactN (compactN f) = compactN f := by
  rw [compactN_tree (compactN_check h), treeOf_compact h, compactN_tree h]

theorem tr_shift {a b : List Nd} (ha : Wf a) (hb : Wf b) : ∀ k, k < b.length → tr (a ++ b.map (shiftN a.length)) (a.length + k) = tr b k := by
  intro k
  induction k using Nat.strongRecOn with
  | _ k ih =>
    intro hk
    obtain ⟨n, hn⟩ : ∃ n, b[k]? = some n := ⟨_, List.getElem?_eq_getElem hk⟩
    obtain ⟨hx, hy⟩ := hb k n hn
    have hn' : (a ++ b.map (shiftN a.length))[a.length + k]? = some (shiftN a.length n) := by
      rw [List.getElem?_append_right (by omega), Nat.add_sub_cancel_left, List.getElem?_map, hn]; rfl
    rw [tr_eq (shift_wf ha hb) hn', tr_eq hb hn]
    have e0 : (shiftN a.length n).op = n.op := rfl
    have ehead : (shiftN a.length n).head = n.head := by
      unfold Nd.head Nd.with_ shiftN
      cases hasX n.op <;> cases hasY n.op <;> rfl
    unfold mkTr
    rw [e0, ehead]
    cases h2 : hasY n.op
    · cases h1 : hasX n.op
      · simp only [cond_false]
        congr 1
        unfold shiftN
        rw [h1, h2]
        rfl
      · have := hx h1
        have e1 : (shiftN a.length n).x.toNat = a.length + n.x.toNat := by simp only [shiftN, h1, cond_true]; omega
        rw [e1, ih _ (by omega) (by omega)]
        rfl
    · have h1 := hasX_of_hasY h2
      have := hx h1
      have := hy h2
      have e1 : (shiftN a.length n).x.toNat = a.length + n.x.toNat := by simp only [shiftN, h1, cond_true]; omega
      have e2 : (shiftN a.length n).y.toNat = a.length + n.y.toNat := by simp only [shiftN, h2, cond_true]; omega
      rw [e1, e2, ih n.x.toNat (by omega) (by omega), ih n.y.toNat (by omega) (by omega)]
      rfl

end Go.Proofs.YtdpblciohodgcaaDoor

/- Trees: all nodes, lengths of the lists of parts. -/

namespace Go.Proofs.YtdpblciohodgcaaDoor

/-- All nodes of a tree. -/
def Tr.all (P : Nd → Prop) : Tr → Prop
  | .leaf n => P n
  | .one n a => P n ∧ a.all P
  | .two n a b => P n ∧ a.all P ∧ b.all P
theorem ins_all {P : Nd → Prop} (hP : ∀ n k1 k2, P n → P (n.with_ k1 k2)) : ∀ (t : Tr) (o : List Nd), t.all P → (∀ n ∈ o, P n) → ∀ n ∈ (ins t o).1, P n
  | .leaf n, o, ht, ho, m, hm => by
    change m ∈ addN o n at hm
    unfold addN at hm
    split at hm
    · exact ho m hm
    · rcases List.mem_append.1 hm with h | h
      · exact ho m h
      · simp at h; subst h; exact ht
  | .one n a, o, ht, ho, m, hm => by
    change m ∈ addN (ins a o).1 _ at hm
    have ha := ins_all hP a o ht.2 ho
    unfold addN at hm
    split at hm
    · exact ha m hm
    · rcases List.mem_append.1 hm with h | h
      · exact ha m h
      · simp at h; subst h; exact hP _ _ _ ht.1
  | .two n a b, o, ht, ho, m, hm => by
    change m ∈ addN (ins b (ins a o).1).1 _ at hm
    have ha := ins_all hP b _ ht.2.2 (ins_all hP a o ht.2.1 ho)
    unfold addN at hm
    split at hm
    · exact ha m hm
    · rcases List.mem_append.1 hm with h | h
      · exact ha m h
      · simp at h; subst h; exact hP _ _ _ ht.1
theorem tr_all {P : Nd → Prop} (hP : ∀ n k1 k2, P n → P (n.with_ k1 k2)) {f : List Nd} (hf : Wf f) (hn : ∀ n ∈ f, P n) : ∀ i, i < f.length → (tr f i).all P := by
  intro i
  induction i using Nat.strongRecOn with
  | _ i ih =>
    intro hi
    obtain ⟨n, hi'⟩ : ∃ n, f[i]? = some n := ⟨_, List.getElem?_eq_getElem hi⟩
    obtain ⟨hx, hy⟩ := hf i n hi'
    have hp := hn n (List.mem_of_getElem? hi')
    rw [tr_eq hf hi']
    unfold mkTr
    cases h2 : hasY n.op
    · cases h1 : hasX n.op
      · exact hp
      · have := hx h1
        exact ⟨hP _ _ _ hp, ih _ (by omega) (by omega)⟩
    · have h1 := hasX_of_hasY h2
      have := hx h1
      have := hy h2
      exact ⟨hP _ _ _ hp, ih _ (by omega) (by omega), ih _ (by omega) (by omega)⟩
theorem ins_len {b : Tr} (hb : b.ok) (o : List Nd) : (ins b o).1.length ≤ o.length + (canon b).length := by
  have hw := canon_wf hb
  have hp := canon_pos hb
  have e : tr (canon b) ((canon b).length - 1) = b := treeOf_canon hb
  have h := finN_ins hw ((canon b).length - 1) o (by omega)
  rw [e] at h
  rw [← h]
  have h1 := length_le_pot (canon b) (finN (canon b) ((canon b).length - 1) o).1
  have h2 := pot_le hw ((canon b).length - 1) o (by omega)
  have h3 : pot (canon b) o ≤ o.length + (canon b).length := by
    unfold pot
    have := List.countP_le_length (p := fun j => (finN (canon b) j o).1.length != o.length) (l := List.range (canon b).length)
    rw [List.length_range] at this
    omega
  omega
theorem last_node {t : Tr} (ht : t.ok) : ∃ n, (canon t)[(canon t).length - 1]? = some n ∧ t = mkTr n (tr (canon t) n.x.toNat) (tr (canon t) n.y.toNat) ∧ (hasX n.op = true → 0 ≤ n.x ∧ n.x < ((canon t).length - 1 : Nat)) ∧ (hasY n.op = true → 0 ≤ n.y ∧ n.y < ((canon t).length - 1 : Nat)) := by
  have hw := canon_wf ht
  have hp := canon_pos ht
  obtain ⟨n, hn⟩ : ∃ n, (canon t)[(canon t).length - 1]? = some n := ⟨_, List.getElem?_eq_getElem (by omega)⟩
  have h1 := tr_eq hw hn
  have h2 : tr (canon t) ((canon t).length - 1) = t := treeOf_canon ht
  rw [h2] at h1
  exact ⟨n, hn, h1, hw _ n hn⟩
/-- The trees at the places of a list are different ones. -/
def Dst (o : List Nd) : Prop := ∀ i j, i < o.length → j < o.length → tr o i = tr o j → i = j
theorem mk_inj {m n : Nd} {a b c d : Tr} (h : mkTr m a b = mkTr n c d) : m.head = n.head ∧ (hasX m.op = true → a = c) ∧ (hasY m.op = true → b = d) := by
  unfold mkTr at h
  cases h2 : hasY m.op
  · cases h1 : hasX m.op
    · cases k2 : hasY n.op
      · cases k1 : hasX n.op
        · rw [h1, h2, k1, k2] at h
          injection h with h
          exact ⟨by rw [h], (fun e => by cases e), (fun e => by cases e)⟩
        · rw [h1, h2, k1, k2] at h; cases h
      · rw [h1, h2, k2] at h; cases h
    · cases k2 : hasY n.op
      · cases k1 : hasX n.op
        · rw [h1, h2, k1, k2] at h; cases h
        · rw [h1, h2, k1, k2] at h
          injection h with e1 e2
          exact ⟨e1, (fun _ => e2), (fun e => by cases e)⟩
      · rw [h1, h2, k2] at h; cases h
  · cases k2 : hasY n.op
    · cases k1 : hasX n.op
      · rw [h2, k1, k2] at h; cases h
      · rw [h2, k1, k2] at h; cases h
    · rw [h2, k2] at h
      injection h with e1 e2 e3
      exact ⟨e1, fun _ => e2, fun _ => e3⟩
end Go.Proofs.YtdpblciohodgcaaDoor

/- Types and models: what is true at a world is a type that lacks nothing, and types that lack nothing are the worlds of a model. Plain Lean. -/

namespace Go.Proofs.YtdpblciohodgcaaDoor

/-- One step or more. -/
inductive Rch {α : Type} (r : α → α → Prop) : α → α → Prop
  | one {a b : α} : r a b → Rch r a b
  | cons {a b c : α} : r a b → Rch r b c → Rch r a c
theorem Rch.map {α β : Type} {r : α → α → Prop} {s : β → β → Prop} (f : α → β) (hf : ∀ a b, r a b → s (f a) (f b)) {a b : α} (h : Rch r a b) : Rch s (f a) (f b) := by
  induction h with
  | one h => exact .one (hf _ _ h)
  | cons h _ ih => exact .cons (hf _ _ h) ih
theorem Rch.mono {α : Type} {r s : α → α → Prop} (hf : ∀ a b, r a b → s a b) {a b : α} (h : Rch r a b) : Rch s a b := by
  induction h with
  | one h => exact .one (hf _ _ h)
  | cons h _ ih => exact .cons (hf _ _ h) ih

/-- A model: worlds, a relation for each agent, the facts. -/
structure KM where
  W : Type
  R : Int → W → W → Prop
  V : Int → W → Prop
def gbit (g : Int) (i : Nat) : Bool := g.toNat.testBit i
def KM.step (M : KM) (g : Int) (c : M.W → Prop) (u v : M.W) : Prop := (∃ i : Nat, i < 4 ∧ gbit g i = true ∧ M.R (i : Int) u v) ∧ c v
def KM.sat (M : KM) : Tr → M.W → Prop
  | .leaf n, w => n.op = 1 ∨ (n.op = 3 ∧ M.V n.i w)
  | .one n a, w =>
    if n.op = 4 then ¬ M.sat a w
    else if n.op = 9 then ∀ v, M.R n.i w v → M.sat a v
    else if n.op = 10 then ∃ v, M.R n.i w v ∧ M.sat a v
    else if n.op = 11 then ∀ i : Nat, i < 4 → gbit n.g i = true → ∀ v, M.R (i : Int) w v → M.sat a v
    else False
  | .two n a b, w =>
    if n.op = 5 then M.sat a w ∧ M.sat b w
    else if n.op = 6 then M.sat a w ∨ M.sat b w
    else if n.op = 7 then M.sat a w → M.sat b w
    else if n.op = 8 then (M.sat a w ↔ M.sat b w)
    else if n.op = 13 then ∀ v, Rch (M.step n.g (M.sat a)) w v → M.sat b v
    else False
/-- The conditions of a logic on a relation. -/
structure Frm (lg : Int) {W : Type} (R : W → W → Prop) : Prop where
  ser : lg = 1 ∨ lg = 5 → ∀ w, ∃ v, R w v
  refl : lg = 2 ∨ lg = 4 ∨ lg = 6 → ∀ w, R w w
  trans : 3 ≤ lg ∧ lg ≤ 6 → ∀ u v w, R u v → R v w → R u w
  eucl : lg = 5 ∨ lg = 6 → ∀ u v w, R u v → R u w → R v w
def KM.In (M : KM) (lg : Int) : Prop := ∀ i : Int, Frm lg (M.R i)

/-- The truth of a tree at a type, told by its base formulas. -/
def ev (th : Tr → Bool) : Tr → Bool
  | .leaf n => if n.op = 3 then th (.leaf n) else n.op == 1
  | .one n a => if n.op = 4 then !ev th a else if n.op = 9 then th (.one n a) else false
  | .two n a b =>
    if n.op = 5 then ev th a && ev th b
    else if n.op = 6 then ev th a || ev th b
    else if n.op = 7 then !ev th a || ev th b
    else if n.op = 8 then ev th a == ev th b
    else if n.op = 13 then th (.two n a b) else false
/-- The base formulas that a tree's truth is told by are in the base. -/
def cov (B : List Tr) : Tr → Prop
  | .leaf n => n.op = 3 → .leaf n ∈ B
  | .one n a => if n.op = 9 then .one n a ∈ B else cov B a
  | .two n a b => if n.op = 13 then .two n a b ∈ B else cov B a ∧ cov B b
/-- A tree of the expanded language. -/
def lang : Tr → Prop
  | .leaf _ => True
  | .one n a => (n.op = 4 ∨ n.op = 9) ∧ lang a
  | .two n a b => ((5 ≤ n.op ∧ n.op ≤ 8) ∨ n.op = 13) ∧ lang a ∧ lang b
def unfT (i : Nat) (n : Nd) (a b : Tr) : Tr := .one ⟨9, i, 0, 0, 0, 0⟩ (.two ⟨7, 0, 0, 0, 0, 0⟩ a (.two ⟨5, 0, 0, 0, 0, 0⟩ b (.two n a b)))
structure Closed (B : List Tr) : Prop where
  know : ∀ n a, .one n a ∈ B → n.op = 9 ∧ cov B a ∧ lang a ∧ 0 ≤ n.i ∧ n.i < 4
  com : ∀ n a b, .two n a b ∈ B → n.op = 13 ∧ cov B a ∧ cov B b ∧ lang a ∧ lang b ∧ ∀ i : Nat, i < 4 → gbit n.g i = true → unfT i n a b ∈ B
def condL (lg : Int) (here hold there : Bool) : Bool :=
  if lg ≤ 2 then !here || hold
  else if lg = 3 then !here || (hold && there)
  else if lg = 4 then !here || there
  else if lg = 6 then here == there
  else (here == there) && (!here || hold)
def refl3 (lg : Int) : Prop := lg = 2 ∨ lg = 4 ∨ lg = 6
structure Coh (lg : Int) (B : List Tr) (th : Tr → Bool) : Prop where
  com : ∀ n a b, .two n a b ∈ B → (th (.two n a b) = true ↔ ∀ i : Nat, i < 4 → gbit n.g i = true → th (unfT i n a b) = true)
  know : refl3 lg → ∀ n a, .one n a ∈ B → th (.one n a) = true → ev th a = true
def Poss (lg : Int) (B : List Tr) (i : Int) (th th' : Tr → Bool) : Prop :=
  ∀ n a, .one n a ∈ B → n.i = i → condL lg (th (.one n a)) (ev th' a) (th' (.one n a)) = true
section
variable {T : Type} (lg : Int) (B : List Tr) (S : T → Prop) (th : T → Tr → Bool)
/-- A step of a path of types. -/
def stepT (g : Int) (a : Tr) (t u : T) : Prop := S u ∧ ev (th u) a = true ∧ ∃ i : Nat, i < 4 ∧ gbit g i = true ∧ Poss lg B (i : Int) (th t) (th u)
/-- No type of a set lacks anything. -/
structure Full : Prop where
  coh : ∀ t, S t → Coh lg B (th t)
  ser : lg = 1 ∨ lg = 5 → ∀ t, S t → ∀ i : Int, (∃ n a, .one n a ∈ B ∧ n.i = i) → ∃ u, S u ∧ Poss lg B i (th t) (th u)
  know : ∀ t, S t → ∀ n a, .one n a ∈ B → th t (.one n a) = false → ∃ u, S u ∧ ev (th u) a = false ∧ Poss lg B n.i (th t) (th u)
  com : ∀ t, S t → ∀ n a b, .two n a b ∈ B → th t (.two n a b) = false → ∃ u, Rch (stepT lg B S th n.g a) t u ∧ ev (th u) b = false
end
theorem sat_know {M : KM} {n : Nd} {a : Tr} {w : M.W} (h : n.op = 9) : M.sat (.one n a) w ↔ ∀ v, M.R n.i w v → M.sat a v := by simp [KM.sat, h]
theorem sat_com {M : KM} {n : Nd} {a b : Tr} {w : M.W} (h : n.op = 13) : M.sat (.two n a b) w ↔ ∀ v, Rch (M.step n.g (M.sat a)) w v → M.sat b v := by simp [KM.sat, h]
open Classical in
/-- The type of a world. -/
noncomputable def thW (M : KM) (w : M.W) (f : Tr) : Bool := decide (M.sat f w)
section
variable {lg : Int} {B : List Tr} {M : KM}
end
section
variable {T : Type} (lg : Int) (B : List Tr) (S : T → Prop) (th : T → Tr → Bool)
/-- The model of a set of types. -/
def modT : KM := ⟨{t : T // S t}, fun i t u => Poss lg B i (th t.1) (th u.1), fun p t => th t.1 (.leaf ⟨3, p, 0, 0, 0, 0⟩) = true⟩
end
section
variable {T : Type} {lg : Int} {B : List Tr} {S : T → Prop} {th : T → Tr → Bool}
theorem cond_hold {lg : Int} {here hold there : Bool} (h : condL lg here hold there = true) (hh : here = true) (hr : refl3 lg → there = true → hold = true) : hold = true := by
  subst hh
  unfold condL at h
  by_cases a : lg ≤ 2
  · rw [if_pos a] at h; simpa using h
  rw [if_neg a] at h
  by_cases b : lg = 3
  · rw [if_pos b] at h; simp at h; exact h.1
  rw [if_neg b] at h
  by_cases c : lg = 4
  · rw [if_pos c] at h; simp at h; exact hr (.inr (.inl c)) h
  rw [if_neg c] at h
  by_cases d : lg = 6
  · rw [if_pos d] at h; simp at h; exact hr (.inr (.inr d)) h
  rw [if_neg d] at h; simp at h; exact h.2
theorem poss_hold (hF : Full lg B S th) {i : Int} {t u : T} (hu : S u) (hp : Poss lg B i (th t) (th u)) {n : Nd} {a : Tr} (h : .one n a ∈ B) (hi : n.i = i) (ht : th t (.one n a) = true) : ev (th u) a = true :=
  cond_hold (hp n a h hi) ht (fun hr e => (hF.coh u hu).know hr n a h e)
/-- A fact's node is told by its number. -/
def factOk : Tr → Prop
  | .leaf n => n.op = 3 → n = ⟨3, n.i, 0, 0, 0, 0⟩
  | .one _ a => factOk a
  | .two _ a b => factOk a ∧ factOk b
theorem truth (hB : Closed B) (hF : Full lg B S th) : ∀ f, cov B f → lang f → factOk f → ∀ t : (modT lg B S th).W, (ev (th t.1) f = true ↔ (modT lg B S th).sat f t)
  | .leaf n, _, _, hk, t => by
    by_cases h3 : n.op = 3
    · have e := hk h3
      simp only [ev, h3, if_true, KM.sat, modT, true_and, show ¬ (3 : Int) = 1 by decide, false_or]
      rw [← e]
    · simp only [ev, h3, if_false, KM.sat, beq_iff_eq, false_and, or_false]
  | .one n a, hc, hl, hk, t => by
    by_cases h9 : n.op = 9
    · have hm : .one n a ∈ B := by simpa [cov, h9] using hc
      obtain ⟨_, hca, hla, _⟩ := hB.know n a hm
      have ih := truth hB hF a hca hla hk
      rw [sat_know h9]
      have e : ev (th t.1) (.one n a) = th t.1 (.one n a) := by simp [ev, h9]
      rw [e]
      constructor
      · intro ht v hr
        rw [← ih v]
        exact poss_hold hF v.2 hr hm rfl ht
      · intro hs
        cases ht : th t.1 (.one n a)
        · obtain ⟨u, hu, he, hp⟩ := hF.know t.1 t.2 n a hm ht
          have := (ih ⟨u, hu⟩).2 (hs ⟨u, hu⟩ hp)
          rw [he] at this
          cases this
        · rfl
    · have h4 : n.op = 4 := hl.1.resolve_right h9
      have hca : cov B a := by simpa [cov, h4] using hc
      have ih := truth hB hF a hca hl.2 hk t
      simp only [ev, KM.sat, h4, if_true, Bool.not_eq_true']
      rw [← ih]
      simp
  | .two n a b, hc, hl, hk, t => by
    by_cases h13 : n.op = 13
    · have hm : .two n a b ∈ B := by simpa [cov, h13] using hc
      obtain ⟨_, hca, hcb, hla, hlb, hun⟩ := hB.com n a b hm
      have iha := truth hB hF a hca hla hk.1
      have ihb := truth hB hF b hcb hlb hk.2
      rw [sat_com h13]
      have e : ev (th t.1) (.two n a b) = th t.1 (.two n a b) := by simp [ev, h13]
      rw [e]
      constructor
      · intro ht v hr
        have key : ∀ (s v : (modT lg B S th).W), Rch ((modT lg B S th).step n.g ((modT lg B S th).sat a)) s v → th s.1 (.two n a b) = true → ev (th v.1) b = true := by
          intro s v hr
          have hstep : ∀ s v : (modT lg B S th).W, (modT lg B S th).step n.g ((modT lg B S th).sat a) s v → th s.1 (.two n a b) = true → ev (th v.1) b = true ∧ th v.1 (.two n a b) = true := by
            rintro s v ⟨⟨i, hi, hg, hp⟩, ha⟩ hs
            have hsu := ((hF.coh s.1 s.2).com n a b hm).1 hs i hi hg
            have hev := poss_hold hF v.2 hp (hun i hi hg) rfl hsu
            have hx := (iha v).2 ha
            simp only [ev, show ¬ (7 : Int) = 5 by decide, show ¬ (7 : Int) = 6 by decide, if_false, if_true, hx, Bool.not_true, Bool.false_or, Bool.and_eq_true, h13, show ¬ (13 : Int) = 5 by decide, show ¬ (13 : Int) = 6 by decide, show ¬ (13 : Int) = 7 by decide, show ¬ (13 : Int) = 8 by decide] at hev
            exact hev
          induction hr with
          | one h => intro hs; exact (hstep _ _ h hs).1
          | cons h _ ih => intro hs; exact ih (hstep _ _ h hs).2
        rw [← ihb v]
        exact key t v hr ht
      · intro hs
        cases ht : th t.1 (.two n a b)
        · obtain ⟨u, hp, he⟩ := hF.com t.1 t.2 n a b hm ht
          have lift : ∀ (s u : T) (hs : S s), Rch (stepT lg B S th n.g a) s u → ∃ hu : S u, Rch ((modT lg B S th).step n.g ((modT lg B S th).sat a)) ⟨s, hs⟩ ⟨u, hu⟩ := by
            intro s u hs hr
            induction hr with
            | one h =>
              obtain ⟨hu, hx, i, hi, hg, hp⟩ := h
              exact ⟨hu, .one (b := (⟨_, hu⟩ : (modT lg B S th).W)) ⟨⟨i, hi, hg, hp⟩, (iha ⟨_, hu⟩).1 hx⟩⟩
            | cons h _ ih =>
              obtain ⟨hu, hx, i, hi, hg, hp⟩ := h
              obtain ⟨hu2, h2⟩ := ih hu
              exact ⟨hu2, .cons (b := (⟨_, hu⟩ : (modT lg B S th).W)) ⟨⟨i, hi, hg, hp⟩, (iha ⟨_, hu⟩).1 hx⟩ h2⟩
          obtain ⟨hu, hr⟩ := lift t.1 u t.2 hp
          have := (ihb ⟨u, hu⟩).2 (hs ⟨u, hu⟩ hr)
          rw [he] at this
          cases this
        · rfl
    · have hc' : cov B a ∧ cov B b := by simpa [cov, h13] using hc
      have ha := truth hB hF a hc'.1 hl.2.1 hk.1 t
      have hb := truth hB hF b hc'.2 hl.2.2 hk.2 t
      have ho : n.op = 5 ∨ n.op = 6 ∨ n.op = 7 ∨ n.op = 8 := by
        have := hl.1.resolve_right h13
        omega
      rcases ho with ho | ho | ho | ho
      · simp [ev, KM.sat, ho, ha, hb]
      · simp [ev, KM.sat, ho, ha, hb]
      · simp only [ev, KM.sat, ho]
        simp only [show ¬ (7 : Int) = 5 by decide, show ¬ (7 : Int) = 6 by decide, if_false, if_true, Bool.or_eq_true, Bool.not_eq_true']
        rw [← ha, ← hb]
        cases ev (th t.1) a <;> cases ev (th t.1) b <;> simp
      · simp only [ev, KM.sat, ho]
        simp only [show ¬ (8 : Int) = 5 by decide, show ¬ (8 : Int) = 6 by decide, show ¬ (8 : Int) = 7 by decide, if_false, if_true, beq_iff_eq]
        rw [← ha, ← hb]
        cases ev (th t.1) a <;> cases ev (th t.1) b <;> simp
end
end Go.Proofs.YtdpblciohodgcaaDoor

/- What the lines of a natural deduction say: each formula holds wherever the subproofs that its line is in lead. Plain. -/

namespace Go.Proofs.YtdpblciohodgcaaDoor
open Go.RowKit

section
variable (M : KM) (ls : List Ln) (fs : List (List Nd))
/-- From where a subproof begins to where its lines hold: a box goes along its agent's relation, an assumption stays and holds. -/
def stepC (o : Int) (v w : M.W) : Prop := (isBox ls o = true ∧ M.R (lineAt ls o).agent v w) ∨ (isBox ls o = false ∧ v = w ∧ M.sat (treeOf (fs.getD o.toNat [])) w)
def ctxC : List Int → M.W → M.W → Prop
  | [], v, w => v = w
  | o :: s, v, w => ∃ u, stepC M ls fs o v u ∧ ctxC s u w
end
section
variable {M : KM} {ls : List Ln} {fs : List (List Nd)}
theorem ctx_append : ∀ (s t : List Int) (v w : M.W), ctxC M ls fs (s ++ t) v w ↔ ∃ u, ctxC M ls fs s v u ∧ ctxC M ls fs t u w
  | [], t, v, w => ⟨fun h => ⟨v, rfl, h⟩, fun ⟨u, h, k⟩ => by have e : v = u := h; subst e; exact k⟩
  | o :: s, t, v, w => by
    constructor
    · rintro ⟨u, h, k⟩
      obtain ⟨x, k1, k2⟩ := (ctx_append s t u w).1 k
      exact ⟨x, ⟨u, h, k1⟩, k2⟩
    · rintro ⟨x, ⟨u, h, k1⟩, k2⟩
      exact ⟨u, h, (ctx_append s t u w).2 ⟨x, k1, k2⟩⟩
theorem ctx_still : ∀ (s : List Int) (v w : M.W), boxesL ls s = [] → ctxC M ls fs s v w → v = w
  | [], _, _, _, h => h
  | o :: s, v, w, hb, ⟨u, h, k⟩ => by
    unfold boxesL at hb
    cases hx : isBox ls o
    · rw [List.filter_cons_of_neg (by simp [hx])] at hb
      have e := ctx_still s u w hb k
      rcases h with ⟨h1, _⟩ | ⟨_, h2, _⟩
      · rw [hx] at h1; cases h1
      · rw [h2, e]
    · rw [List.filter_cons_of_pos (by simp [hx])] at hb; cases hb
theorem ctx_one : ∀ (s : List Int) (o : Int) (v w : M.W), boxesL ls s = [o] → ctxC M ls fs s v w → M.R (lineAt ls o).agent v w
  | [], _, _, _, hb, _ => by cases hb
  | q :: s, o, v, w, hb, ⟨u, h, k⟩ => by
    unfold boxesL at hb
    cases hx : isBox ls q
    · rw [List.filter_cons_of_neg (by simp [hx])] at hb
      have e := ctx_one s o u w hb k
      rcases h with ⟨h1, _⟩ | ⟨_, h2, _⟩
      · rw [hx] at h1; cases h1
      · rw [h2]; exact e
    · rw [List.filter_cons_of_pos (by simp [hx])] at hb
      injection hb with h1 h2
      have e := ctx_still s u w h2 k
      rcases h with ⟨_, h3⟩ | ⟨h3, _⟩
      · rw [← h1, ← e]; exact h3
      · rw [hx] at h3; cases h3
/-- The context looks at the openers' formulas alone. -/
theorem ctx_congr {gs : List (List Nd)} : ∀ (s : List Int) (v w : M.W), (∀ o ∈ s, fs.getD o.toNat [] = gs.getD o.toNat []) → (ctxC M ls fs s v w ↔ ctxC M ls gs s v w)
  | [], _, _, _ => Iff.rfl
  | o :: s, v, w, h => by
    have h1 := h o (List.mem_cons_self ..)
    have ih := fun u => ctx_congr s u w (fun q hq => h q (List.mem_cons_of_mem _ hq))
    unfold ctxC stepC
    rw [h1]
    exact exists_congr fun u => and_congr Iff.rfl (ih u)
end
/-- The shape of the stacks: what lies ahead of an opener is where it was opened. -/
structure ShpS (ls : List Ln) (st : List (List Int)) (i : Nat) : Prop where
  pos : ∀ k, k < i → ∀ p, p < (st.getD k []).length → ∃ o : Nat, (st.getD k [])[p]? = some (o : Int) ∧ o ≤ k ∧ st.getD o [] = (st.getD k []).take (p + 1)
  opn : ∀ k : Nat, k < i → opensL (lineAt ls k) = true → ∃ X, st.getD k [] = X ++ [(k : Int)]
theorem getD_appL {α : Type} {l t : List α} {k : Nat} {d : α} (h : k < l.length) : (l ++ t).getD k d = l.getD k d := by
  rw [List.getD_eq_getElem?_getD, List.getD_eq_getElem?_getD, List.getElem?_append_left h]
theorem getD_appR {α : Type} {l : List α} {x d : α} : (l ++ [x]).getD l.length d = x := by
  rw [List.getD_eq_getElem?_getD, List.getElem?_append_right (Nat.le_refl _), Nat.sub_self]; rfl
theorem lastSt_getD {st : List (List Int)} (_h : 0 < st.length) : lastSt st = st.getD (st.length - 1) [] := by
  unfold lastSt
  rw [List.getD_eq_getElem?_getD, List.getLastD_eq_getLast?, List.getLast?_eq_getElem?]
theorem shp_next {ls : List Ln} {st : List (List Int)} {i : Nat} (hl : st.length = i) (h : ShpS ls st i) {n : Ln} (hn : lineAt ls i = n) {s : List Int} (hp : pushL st n = some s) : ShpS ls (st ++ [s]) (i + 1) := by
  have hlast : ∀ p, p < (lastSt st).length → ∃ o : Nat, (lastSt st)[p]? = some (o : Int) ∧ o < i ∧ st.getD o [] = (lastSt st).take (p + 1) := by
    intro p hpl
    by_cases h0 : 0 < st.length
    · rw [lastSt_getD h0] at hpl ⊢
      obtain ⟨o, h1, h2, h3⟩ := h.pos (st.length - 1) (by omega) p hpl
      exact ⟨o, h1, by omega, h3⟩
    · have : st = [] := List.length_eq_zero_iff.1 (by omega)
      subst this
      simp [lastSt] at hpl
  have hnew : (st ++ [s]).getD i [] = s := by rw [← hl]; exact getD_appR
  have hold : ∀ k, k < i → (st ++ [s]).getD k [] = st.getD k [] := fun k hk => getD_appL (by omega)
  refine ⟨fun k hk p hpk => ?_, fun k hk ho => ?_⟩
  · by_cases e : k < i
    · rw [hold k e] at hpk ⊢
      obtain ⟨o, h1, h2, h3⟩ := h.pos k e p hpk
      exact ⟨o, h1, h2, by rw [hold o (by omega)]; exact h3⟩
    · obtain rfl : k = i := by omega
      rw [hnew] at hpk ⊢
      rcases pushL_cases hp with ⟨_, d, rfl⟩ | ⟨_, d, rfl⟩
      · by_cases hpd : p < ((lastSt st).take d).length
        · obtain ⟨o, h1, h2, h3⟩ := hlast p (by simp at hpd; omega)
          refine ⟨o, ?_, by omega, ?_⟩
          · rw [List.getElem?_append_left hpd, List.getElem?_take, if_pos (by simp at hpd; omega)]; exact h1
          · rw [hold o h2, h3, List.take_append_of_le_length (by omega), List.take_take, Nat.min_eq_left (by simp at hpd; omega)]
        · have hpe : p = ((lastSt st).take d).length := by simp at hpk hpd ⊢; omega
          refine ⟨k, ?_, Nat.le_refl _, ?_⟩
          · rw [hpe, List.getElem?_append_right (Nat.le_refl _), Nat.sub_self, hl]; rfl
          · rw [hnew]; exact (List.take_of_length_le (by rw [List.length_append]; exact Nat.le_of_eq (by rw [← hpe]; rfl))).symm
      · obtain ⟨o, h1, h2, h3⟩ := hlast p (by simp at hpk; omega)
        refine ⟨o, ?_, by omega, ?_⟩
        · rw [List.getElem?_take, if_pos (by simp at hpk; omega)]; exact h1
        · rw [hold o h2, h3, List.take_take, Nat.min_eq_left (by simp at hpk; omega)]
  · by_cases e : k < i
    · rw [hold k e]; exact h.opn k e ho
    · obtain rfl : k = i := by omega
      rw [hnew]
      rcases pushL_cases hp with ⟨_, d, rfl⟩ | ⟨ho', _⟩
      · exact ⟨_, by rw [hl]⟩
      · rw [hn] at ho; rw [ho] at ho'; cases ho'
end Go.Proofs.YtdpblciohodgcaaDoor

/- What the reference's constructors of formulas come to: the lists that the program's constructors come to. -/

namespace Go.Proofs.YtdpblciohodgcaaDoor

/-- The canonical list of a tree, or nothing if it is too long. -/
def shortT (t : Tr) : List Nd := bif decide (200 < (canon t).length) then [] else canon t
theorem short_fit {t : Tr} (h : (canon t).length ≤ 200) : shortT t = canon t := by
  unfold shortT
  rw [decide_eq_false (by omega)]
  rfl
theorem short_long {t : Tr} (h : 200 < (canon t).length) : shortT t = [] := by
  unfold shortT
  rw [decide_eq_true h]
  rfl
theorem check_nil' : check [] ≠ 0 := by decide
/-- The canonical list of a list's last node, or nothing if it is too long. -/
def shortN (l : List Nd) : List Nd := bif decide (200 < (finN l (l.length - 1) []).1.length) then [] else (finN l (l.length - 1) []).1
theorem map_shift0 (f : List Nd) : f.map (shiftN 0) = f := by
  rw [show shiftN 0 = id from by funext m; unfold shiftN; cases hasX m.op <;> cases hasY m.op <;> simp]
  simp
/-- A node with one operand. -/
theorem build_oneS {n : Nd} {f : List Nd} (hf : check f = 0) (h1 : hasX n.op = true) (h2 : hasY n.op = false) (hh : headOk n) : buildN n [f] = shortT (.one n.head (treeOf f)) := by
  obtain ⟨cw, cl, cp, _⟩ := compactN_props hf
  unfold buildN
  have e0 : [f].any (fun o => check o != 0) = false := by simp [hf]
  rw [e0, cond_false]
  have eL : layout [f] 0 [] n = (compactN f, { n with x := ((compactN f).length : Int) - 1 }) := by
    simp only [layout, setOp, List.nil_append, List.length_nil, map_shift0]
    rfl
  rw [eL]
  generalize hm : ({ n with x := ((compactN f).length : Int) - 1 } : Nd) = m
  have mo : m.op = n.op := by rw [← hm]
  have mx : m.x = ((compactN f).length : Int) - 1 := by rw [← hm]
  have mh : m.head = n.head := by
    rw [← hm]
    unfold Nd.head Nd.with_
    simp [h1, h2]
  have hmh : headOk m := by
    rw [← hm]
    exact ⟨hh.1, hh.2.1, hh.2.2.1, fun h => by (rw [h1] at h; cases h), hh.2.2.2.2⟩
  have herr : nodeErr m (compactN f).length = 0 := hmh.err (fun _ => by omega) (fun h => by rw [mo, h2] at h; cases h)
  have hw : Wf (compactN f ++ [m]) := wf_snoc cw (fun _ => by omega) (fun h => by rw [mo, h2] at h; cases h)
  have htr : tr (compactN f ++ [m]) (compactN f).length = .one n.head (treeOf f) := by
    rw [tr_eq hw (n := m) (by simp)]
    unfold mkTr
    rw [mo, h1, h2, mh, mx]
    rw [show (((compactN f).length : Int) - 1).toNat = (compactN f).length - 1 by omega, tr_prefix cw hw (List.prefix_append _ _) _ (by omega)]
    rw [show tr (compactN f) ((compactN f).length - 1) = treeOf (compactN f) from rfl, treeOf_compact hf]
    rfl
  unfold joinN
  have hfin : (finN (compactN f ++ [m]) (compactN f).length []).1 = canon (.one n.head (treeOf f)) := by
    rw [finN_ins hw _ _ (by simp), htr]; rfl
  simp only [herr, hfin]
  rfl
/-- A node with two operands. -/
theorem build_twoS {n : Nd} {f g : List Nd} (hf : check f = 0) (hg : check g = 0) (h1 : hasX n.op = true) (h2 : hasY n.op = true) (hh : headOk n) : buildN n [f, g] = shortT (.two n.head (treeOf f) (treeOf g)) := by
  obtain ⟨cw, cl, cp, _⟩ := compactN_props hf
  obtain ⟨dw, dl, dp, _⟩ := compactN_props hg
  unfold buildN
  have e0 : [f, g].any (fun o => check o != 0) = false := by simp [hf, hg]
  rw [e0, cond_false]
  have eL : layout [f, g] 0 [] n = (compactN f ++ (compactN g).map (shiftN (compactN f).length), { n with x := ((compactN f).length : Int) - 1, y := ((compactN f).length : Int) + (compactN g).length - 1 }) := by
    simp only [layout, setOp, List.nil_append, List.length_nil, map_shift0]
    simp
  rw [eL]
  have hFw := shift_wf cw dw
  have hFl : (compactN f ++ (compactN g).map (shiftN (compactN f).length)).length = (compactN f).length + (compactN g).length := by simp
  have hF1 : tr (compactN f ++ (compactN g).map (shiftN (compactN f).length)) ((compactN f).length - 1) = treeOf f := by
    rw [tr_prefix cw hFw (List.prefix_append _ _) _ (by omega), show tr (compactN f) ((compactN f).length - 1) = treeOf (compactN f) from rfl, treeOf_compact hf]
  have hF2 : tr (compactN f ++ (compactN g).map (shiftN (compactN f).length)) ((compactN f).length + (compactN g).length - 1) = treeOf g := by
    rw [show (compactN f).length + (compactN g).length - 1 = (compactN f).length + ((compactN g).length - 1) by omega, tr_shift cw dw _ (by omega), show tr (compactN g) ((compactN g).length - 1) = treeOf (compactN g) from rfl, treeOf_compact hg]
  generalize compactN f ++ (compactN g).map (shiftN (compactN f).length) = F at *
  generalize hm : ({ n with x := ((compactN f).length : Int) - 1, y := ((compactN f).length : Int) + (compactN g).length - 1 } : Nd) = m
  have mo : m.op = n.op := by rw [← hm]
  have mx : m.x = ((compactN f).length : Int) - 1 := by rw [← hm]
  have my : m.y = ((compactN f).length : Int) + (compactN g).length - 1 := by rw [← hm]
  have mh : m.head = n.head := by
    rw [← hm]
    unfold Nd.head Nd.with_
    simp [h1, h2]
  have hmh : headOk m := by
    rw [← hm]
    exact ⟨hh.1, hh.2.1, hh.2.2.1, fun h => by (rw [h1] at h; cases h), fun h => by (rw [h2] at h; cases h)⟩
  have herr : nodeErr m F.length = 0 := hmh.err (fun _ => by omega) (fun _ => by omega)
  have hw : Wf (F ++ [m]) := wf_snoc hFw (fun _ => by omega) (fun _ => by omega)
  have htr : tr (F ++ [m]) F.length = .two n.head (treeOf f) (treeOf g) := by
    rw [tr_eq hw (n := m) (by simp)]
    unfold mkTr
    rw [mo, h2, mh, mx, my]
    rw [show (((compactN f).length : Int) - 1).toNat = (compactN f).length - 1 by omega, tr_prefix hFw hw (List.prefix_append _ _) _ (by omega), hF1]
    rw [show (((compactN f).length : Int) + (compactN g).length - 1).toNat = (compactN f).length + (compactN g).length - 1 by omega, tr_prefix hFw hw (List.prefix_append _ _) _ (by omega), hF2]
    rfl
  unfold joinN
  have hfin : (finN (F ++ [m]) F.length []).1 = canon (.two n.head (treeOf f) (treeOf g)) := by
    rw [finN_ins hw _ _ (by simp), htr]; rfl
  simp only [herr, hfin]
  rfl
theorem build_bad1 {n : Nd} {f : List Nd} (hf : check f ≠ 0) : buildN n [f] = [] := by
  unfold buildN
  have e0 : [f].any (fun o => check o != 0) = true := by simpa using hf
  rw [e0, cond_true]
theorem build_bad2 {n : Nd} {f g : List Nd} (hf : check f ≠ 0 ∨ check g ≠ 0) : buildN n [f, g] = [] := by
  unfold buildN
  have e0 : [f, g].any (fun o => check o != 0) = true := by simp; exact hf
  rw [e0, cond_true]
end Go.Proofs.YtdpblciohodgcaaDoor

/- What a negation normal form says: the same as the formula, or the opposite. Plain. -/

namespace Go.Proofs.YtdpblciohodgcaaDoor

theorem unT {n : Nd} {f : List Nd} (h1 : hasX n.op = true) (h2 : hasY n.op = false) (hh : headOk n) (hn : n.head = n) (h : check (buildN n [f]) = 0) : check f = 0 ∧ treeOf (buildN n [f]) = .one n (treeOf f) := by
  by_cases hf : check f = 0
  · refine ⟨hf, ?_⟩
    have e := build_oneS hf h1 h2 hh
    rw [hn] at e
    have hd : (Tr.one n (treeOf f)).ok := ⟨h1, h2, hn, treeOf_ok hf⟩
    by_cases hl : (canon (.one n (treeOf f))).length ≤ 200
    · rw [e, short_fit hl]; exact treeOf_canon hd
    · rw [e, short_long (by omega)] at h; exact absurd h check_nil'
  · rw [build_bad1 hf] at h; exact absurd h check_nil'
theorem binT {n : Nd} {f g : List Nd} (h1 : hasX n.op = true) (h2 : hasY n.op = true) (hh : headOk n) (hn : n.head = n) (h : check (buildN n [f, g]) = 0) : check f = 0 ∧ check g = 0 ∧ treeOf (buildN n [f, g]) = .two n (treeOf f) (treeOf g) := by
  by_cases hf : check f = 0
  · by_cases hg : check g = 0
    · refine ⟨hf, hg, ?_⟩
      have e := build_twoS hf hg h1 h2 hh
      rw [hn] at e
      have hd : (Tr.two n (treeOf f) (treeOf g)).ok := ⟨h1, h2, hn, treeOf_ok hf, treeOf_ok hg⟩
      by_cases hl : (canon (.two n (treeOf f) (treeOf g))).length ≤ 200
      · rw [e, short_fit hl]; exact treeOf_canon hd
      · rw [e, short_long (by omega)] at h; exact absurd h check_nil'
    · rw [build_bad2 (.inr hg)] at h; exact absurd h check_nil'
  · rw [build_bad2 (.inl hf)] at h; exact absurd h check_nil'
theorem head_agent' {n : Nd} (h : headOk n) (ho : hasAgent n.op = true) : 0 ≤ n.i ∧ n.i < 4 := by
  obtain ⟨_, _, hr, _, _⟩ := h
  unfold rangeBad at hr
  simp only [outsideB, ho, Bool.or_eq_false_iff] at hr
  simp at hr
  omega
section
variable {M : KM} {w : M.W} {f g : List Nd}
theorem sem_and (h : check (andN f g) = 0) : check f = 0 ∧ check g = 0 ∧ (M.sat (treeOf (andN f g)) w ↔ M.sat (treeOf f) w ∧ M.sat (treeOf g) w) := by
  obtain ⟨h1, h2, e⟩ := binT (n := ⟨5, 0, 0, 0, 0, 0⟩) rfl rfl ⟨rfl, rfl, rfl, fun _ => rfl, fun _ => rfl⟩ rfl h
  exact ⟨h1, h2, by rw [show treeOf (andN f g) = _ from e]; simp [KM.sat]⟩
theorem sem_not (h : check (notN f) = 0) : check f = 0 ∧ (M.sat (treeOf (notN f)) w ↔ ¬ M.sat (treeOf f) w) := by
  obtain ⟨h1, e⟩ := unT (n := ⟨4, 0, 0, 0, 0, 0⟩) rfl rfl ⟨rfl, rfl, rfl, fun _ => rfl, fun _ => rfl⟩ rfl h
  exact ⟨h1, by rw [show treeOf (notN f) = _ from e]; simp [KM.sat]⟩
theorem agent_head {k a : Int} (hk : k = 9 ∨ k = 10) (h0 : 0 ≤ a) (h4 : a < 4) : headOk ⟨k, a, 0, 0, 0, 0⟩ := by
  have ha : a = 0 ∨ a = 1 ∨ a = 2 ∨ a = 3 := by omega
  rcases hk with rfl | rfl <;> rcases ha with rfl | rfl | rfl | rfl <;> exact ⟨rfl, rfl, rfl, fun _ => rfl, fun _ => rfl⟩
theorem sem_know {a : Int} (h0 : 0 ≤ a) (h4 : a < 4) (h : check (knowN a f) = 0) : check f = 0 ∧ (M.sat (treeOf (knowN a f)) w ↔ ∀ v, M.R a w v → M.sat (treeOf f) v) := by
  obtain ⟨h1, e⟩ := unT (n := ⟨9, a, 0, 0, 0, 0⟩) rfl rfl (agent_head (.inl rfl) h0 h4) rfl h
  exact ⟨h1, by rw [show treeOf (knowN a f) = _ from e]; simp [KM.sat]⟩
theorem sem_poss {a : Int} (h0 : 0 ≤ a) (h4 : a < 4) (h : check (possN a f) = 0) : check f = 0 ∧ (M.sat (treeOf (possN a f)) w ↔ ∃ v, M.R a w v ∧ M.sat (treeOf f) v) := by
  obtain ⟨h1, e⟩ := unT (n := ⟨10, a, 0, 0, 0, 0⟩) rfl rfl (agent_head (.inr rfl) h0 h4) rfl h
  exact ⟨h1, by rw [show treeOf (possN a f) = _ from e]; simp [KM.sat]⟩
theorem sem_true : M.sat (treeOf trueN) w := by
  rw [show treeOf trueN = .leaf ⟨1, 0, 0, 0, 0, 0⟩ from rfl]; exact .inl rfl
theorem sem_false : ¬ M.sat (treeOf falseN) w := by
  rw [show treeOf falseN = .leaf ⟨2, 0, 0, 0, 0, 0⟩ from rfl]; simp [KM.sat]
end
end Go.Proofs.YtdpblciohodgcaaDoor

/- The plain laws of refutations: a step that is correct stays correct in a stronger logic, with a larger set, behind more steps. -/

namespace Go.Proofs.YtdpblciohodgcaaDoor

def Sb (a b : Nat) : Prop := ∀ i, a.testBit i = true → b.testBit i = true
theorem Sb.refl (a : Nat) : Sb a a := fun _ h => h
theorem Sb.trans {a b c : Nat} (h : Sb a b) (g : Sb b c) : Sb a c := fun i hi => g i (h i hi)
theorem Sb.or {a b c d : Nat} (h : Sb a b) (g : Sb c d) : Sb (a ||| c) (b ||| d) := fun i hi => by
  rw [Nat.testBit_or, Bool.or_eq_true] at hi ⊢
  rcases hi with hi | hi
  · exact Or.inl (h i hi)
  · exact Or.inr (g i hi)
theorem Sb.left (a b : Nat) : Sb a (a ||| b) := fun i hi => by rw [Nat.testBit_or, hi]; rfl
/-- One logic has the rules of another one. -/
structure Weak (lg lg' : Int) : Prop where
  tr : transN lg = true → transN lg' = true
  eu : euclN lg = true → euclN lg' = true
  rt : (lg == 2 || (lg == 4 || lg == 6)) = true → (lg' == 2 || (lg' == 4 || lg' == 6)) = true
  rd : (lg == 1 || lg == 5) = true → (lg' == 1 || lg' == 5) = true
theorem Weak.refl (lg : Int) : Weak lg lg := ⟨id, id, id, id⟩
def SbL : List Nat → List Nat → Prop
  | [], [] => True
  | a :: r, b :: t => Sb a b ∧ SbL r t
  | _, _ => False
theorem SbL.length : ∀ {a b : List Nat}, SbL a b → a.length = b.length
  | [], [], _ => rfl
  | [], _ :: _, h => h.elim
  | _ :: _, [], h => h.elim
  | _ :: r, _ :: t, h => by rw [List.length_cons, List.length_cons, SbL.length (a := r) (b := t) h.2]
end Go.Proofs.YtdpblciohodgcaaDoor

/- The formulas of a base are formulas of knowledge, and so are their negations. -/

namespace Go.Proofs.YtdpblciohodgcaaDoor

def OpOk (n : Nd) : Prop := 1 ≤ n.op ∧ n.op ≤ 10
theorem sub_props {base : List Nd} (hc : check base = 0) {k : Nat} (hk : k < base.length) : subN base k = (finN base k []).1 ∧ check (subN base k) = 0 ∧ (subN base k).length ≤ base.length := by
  have e : subN base k = (finN base k []).1 := by
    unfold subN
    have e2 : (decide ((k : Int) < 0) || decide ((base.length : Int) ≤ (k : Int))) = false := by simp; omega
    rw [hc, e2, Int.toNat_natCast]
    rfl
  have hw := check_wf hc
  have h1 := length_le_pot base (finN base k []).1
  have h2 := pot_le hw k [] hk
  have h3 := pot_nil base
  have hl : (finN base k []).1.length ≤ base.length := by omega
  have h4 := finN_lt hw k [] hk
  refine ⟨e, ?_, by rw [e]; exact hl⟩
  rw [e]
  refine check_of (by intro e; rw [e] at h4; simp at h4) (by have := (check_parts hc).2.1; omega) (fin_wf hw k [] hk wf_nil) (fun n hn => ?_)
  rcases fin_mem hw k [] hk n hn with h | ⟨m, hm, k1, k2, rfl⟩
  · cases h
  · exact (heads_of hc m hm).with_ k1 k2
end Go.Proofs.YtdpblciohodgcaaDoor

/- A refutation that is accepted is right: the formulas of its sets hold together at no world of a model of the logic. Plain. -/

namespace Go.Proofs.YtdpblciohodgcaaDoor

/-- The formulas of a set hold at a world. -/
def HoldS (M : KM) (base : List Nd) (s : Nat) (w : M.W) : Prop := ∀ i, i < base.length → s.testBit i = true → M.sat (tr base i) w
end Go.Proofs.YtdpblciohodgcaaDoor

/- Soundness of refutations: no world of a model of the logic makes all formulas of an accepted set true. Plain. -/

namespace Go.Proofs.YtdpblciohodgcaaDoor

section
variable {M : KM} {base : List Nd} {w : M.W} {k : Nat} {n : Nd}
theorem tr_one9 (hc : check base = 0) (hk : base[k]? = some n) (ho : n.op = 9) : M.sat (tr base k) w ↔ ∀ v, M.R n.i w v → M.sat (tr base n.x.toNat) v := by
  rw [tr_eq (check_wf hc) hk]
  obtain ⟨op, a, e, g, x, y⟩ := n
  obtain rfl : op = 9 := ho
  simp [mkTr, hasX, hasY, KM.sat, Nd.head, Nd.with_]
theorem tr_one10 (hc : check base = 0) (hk : base[k]? = some n) (ho : n.op = 10) : M.sat (tr base k) w ↔ ∃ v, M.R n.i w v ∧ M.sat (tr base n.x.toNat) v := by
  rw [tr_eq (check_wf hc) hk]
  obtain ⟨op, a, e, g, x, y⟩ := n
  obtain rfl : op = 10 := ho
  simp [mkTr, hasX, hasY, KM.sat, Nd.head, Nd.with_]
theorem tr_two5 (hc : check base = 0) (hk : base[k]? = some n) (ho : n.op = 5) : M.sat (tr base k) w ↔ M.sat (tr base n.x.toNat) w ∧ M.sat (tr base n.y.toNat) w := by
  rw [tr_eq (check_wf hc) hk]
  obtain ⟨op, a, e, g, x, y⟩ := n
  obtain rfl : op = 5 := ho
  simp [mkTr, hasX, hasY, KM.sat, Nd.head, Nd.with_]
theorem tr_two6 (hc : check base = 0) (hk : base[k]? = some n) (ho : n.op = 6) : M.sat (tr base k) w ↔ M.sat (tr base n.x.toNat) w ∨ M.sat (tr base n.y.toNat) w := by
  rw [tr_eq (check_wf hc) hk]
  obtain ⟨op, a, e, g, x, y⟩ := n
  obtain rfl : op = 6 := ho
  simp [mkTr, hasX, hasY, KM.sat, Nd.head, Nd.with_]
end
end Go.Proofs.YtdpblciohodgcaaDoor
