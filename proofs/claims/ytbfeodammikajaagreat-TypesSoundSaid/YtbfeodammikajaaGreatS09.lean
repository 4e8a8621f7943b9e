/- Further constructors of formulas: Or, Iff. -/
import Derived.Test.YtbfeodammikajaaGreatS07
import Derived.Test.YtbfeodammikajaaGreatS06
import Derived.Deep.MidRow
import Derived.Laws.Bits64b
import Derived.Test.YtbfeodammikajaaGreatS01
import Derived.OrdersHeld
import Derived.RegionTactic
import Derived.Deep.RegionHeld

namespace Go.Proofs.YtbfeodammikajaaGreat
open Go.RowKit

def orN (f g : List Nd) : List Nd := buildN ⟨6, 0, 0, 0, 0, 0⟩ [f, g]
set_option maxHeartbeats 400000 in
theorem or_any (v1 v2 : Value) (f g : List Nd) (w : World) (h1 : Fml w v1 f) (h2 : Fml w v2 g) :
    Calls Tryz.prog 120 #[v1, v2] w fun e w' => ∃ u, e = .returned u ∧ Made w w' u (orN f g) := by
  have H1 := Lib.hid h1
  have H2 := Lib.hid h2
  obtain ⟨A1, c1, rfl, _⟩ := fml_slice h1
  obtain ⟨A2, c2, rfl, _⟩ := fml_slice h2
  clear h1 h2
  go_enter Tryz.func120, Tryz.ntmps120
  go_wp2_with fail
  refine (build_any ⟨6, 0, 0, 0, 0, 0⟩ _ [f, g] _ (small_ok (i64_small (by omega) (by omega)) (i64_small (by omega) (by omega)) (i64_small (by omega) (by omega)) (i64_small (by omega) (by omega)) (i64_small (by omega) (by omega)) (i64_small (by omega) (by omega))) (fmls_two H1.out H2.out) (by simp)).mono ?_
  rintro e w1 ⟨u, rfl, hm⟩
  have HM := Lib.hid hm
  clear hm
  go_wp2_with fail
  go_ret
  exact ⟨_, rfl, (HM.out.before ((Ext.refl _).alloc _))⟩

def iffN (f g : List Nd) : List Nd := buildN ⟨8, 0, 0, 0, 0, 0⟩ [f, g]
set_option maxHeartbeats 400000 in
theorem iff_any (v1 v2 : Value) (f g : List Nd) (w : World) (h1 : Fml w v1 f) (h2 : Fml w v2 g) :
    Calls Tryz.prog 122 #[v1, v2] w fun e w' => ∃ u, e = .returned u ∧ Made w w' u (iffN f g) := by
  have H1 := Lib.hid h1
  have H2 := Lib.hid h2
  obtain ⟨A1, c1, rfl, _⟩ := fml_slice h1
  obtain ⟨A2, c2, rfl, _⟩ := fml_slice h2
  clear h1 h2
  go_enter Tryz.func122, Tryz.ntmps122
  go_wp2_with fail
  refine (build_any ⟨8, 0, 0, 0, 0, 0⟩ _ [f, g] _ (small_ok (i64_small (by omega) (by omega)) (i64_small (by omega) (by omega)) (i64_small (by omega) (by omega)) (i64_small (by omega) (by omega)) (i64_small (by omega) (by omega)) (i64_small (by omega) (by omega))) (fmls_two H1.out H2.out) (by simp)).mono ?_
  rintro e w1 ⟨u, rfl, hm⟩
  have HM := Lib.hid hm
  clear hm
  go_wp2_with fail
  go_ret
  exact ⟨_, rfl, (HM.out.before ((Ext.refl _).alloc _))⟩
end Go.Proofs.YtbfeodammikajaaGreat

/- The constructor Common. -/

namespace Go.Proofs.YtbfeodammikajaaGreat
open Go.RowKit

def commonN (g : Int) (a b : List Nd) : List Nd := buildN ⟨13, 0, 0, g, 0, 0⟩ [a, b]
set_option maxHeartbeats 400000 in
theorem common_any (k : Int) (hk : i64ok k) (v1 v2 : Value) (f g : List Nd) (w : World) (h1 : Fml w v1 f) (h2 : Fml w v2 g) :
    Calls Tryz.prog 123 #[.int .i64 k, v1, v2] w fun e w' => ∃ u, e = .returned u ∧ Made w w' u (commonN k f g) := by
  have H1 := Lib.hid h1
  have H2 := Lib.hid h2
  obtain ⟨A1, c1, rfl, _⟩ := fml_slice h1
  obtain ⟨A2, c2, rfl, _⟩ := fml_slice h2
  clear h1 h2
  go_enter Tryz.func123, Tryz.ntmps123
  go_wp2_with fail
  refine (build_any ⟨13, 0, 0, k, 0, 0⟩ _ [f, g] _ (small_ok (i64_small (by omega) (by omega)) (i64_small (by omega) (by omega)) (i64_small (by omega) (by omega)) hk (i64_small (by omega) (by omega)) (i64_small (by omega) (by omega))) (fmls_two H1.out H2.out) (by simp)).mono ?_
  rintro e w1 ⟨u, rfl, hm⟩
  have HM := Lib.hid hm
  clear hm
  go_wp2_with fail
  go_ret
  exact ⟨_, rfl, (HM.out.before ((Ext.refl _).alloc _))⟩
end Go.Proofs.YtbfeodammikajaaGreat

/- Formulas as trees: the canonical list of a formula is the list of its tree, and tells it. -/

namespace Go.Proofs.YtbfeodammikajaaGreat

/-- The tree of a formula; a node's own operand numbers are 0 in it. -/
inductive Tr where
  | leaf (n : Nd)
  | one (n : Nd) (a : Tr)
  | two (n : Nd) (a b : Tr)
def Nd.head (n : Nd) : Nd := n.with_ 0 0
def Tr.ok : Tr → Prop
  | .leaf n => hasX n.op = false ∧ hasY n.op = false
  | .one n a => hasX n.op = true ∧ hasY n.op = false ∧ n.head = n ∧ a.ok
  | .two n a b => hasX n.op = true ∧ hasY n.op = true ∧ n.head = n ∧ a.ok ∧ b.ok
def Tr.size : Tr → Nat
  | .leaf _ => 1
  | .one _ a => a.size + 1
  | .two _ a b => a.size + b.size + 1
def Tr.top : Tr → Nd
  | .leaf n => n
  | .one n _ => n
  | .two n _ _ => n
def trF (f : List Nd) : Nat → Nat → Tr
  | 0, _ => .leaf Nd.zero
  | k + 1, i => bif hasY (f.getD i Nd.zero).op then .two (f.getD i Nd.zero).head (trF f k (f.getD i Nd.zero).x.toNat) (trF f k (f.getD i Nd.zero).y.toNat)
      else bif hasX (f.getD i Nd.zero).op then .one (f.getD i Nd.zero).head (trF f k (f.getD i Nd.zero).x.toNat) else .leaf (f.getD i Nd.zero)
/-- The tree of the formula at a place of a list. -/
def tr (f : List Nd) (i : Nat) : Tr := trF f (i + 1) i
def treeOf (f : List Nd) : Tr := tr f (f.length - 1)
/-- What the node is with its operands' trees. -/
def mkTr (n : Nd) (a b : Tr) : Tr := bif hasY n.op then .two n.head a b else bif hasX n.op then .one n.head a else .leaf n

theorem trF_fuel {f : List Nd} (hf : Wf f) : ∀ (k i : Nat), i < k → i < f.length → trF f k i = tr f i := by
  intro k
  induction k using Nat.strongRecOn with
  | _ k ih =>
    intro i h hi
    cases k with
    | zero => omega
    | succ k =>
      obtain ⟨n, hn⟩ : ∃ n, f[i]? = some n := ⟨_, List.getElem?_eq_getElem hi⟩
      obtain ⟨hx, hy⟩ := hf i n hn
      have e : ∀ (b : Nat), b < i → trF f k b = trF f i b := fun b hb => by
        rw [ih k (by omega) b (by omega) (by omega)]
        by_cases hik : i = k
        · subst hik; exact (ih i (by omega) b hb (by omega)).symm
        · exact (ih i (by omega) b hb (by omega)).symm
      unfold tr
      simp only [trF, getD_of hn]
      cases h2 : hasY n.op
      · cases h1 : hasX n.op
        · rfl
        · have := hx h1
          simp only [cond_true, cond_false]
          rw [e _ (by omega)]
      · have h1 := hasX_of_hasY h2
        have := hx h1
        have := hy h2
        simp only [cond_true]
        rw [e _ (by omega), e _ (by omega)]
theorem tr_eq {f : List Nd} (hf : Wf f) {i : Nat} {n : Nd} (hn : f[i]? = some n) : tr f i = mkTr n (tr f n.x.toNat) (tr f n.y.toNat) := by
  have hi : i < f.length := (List.getElem?_eq_some_iff.1 hn).1
  obtain ⟨hx, hy⟩ := hf i n hn
  conv => lhs; unfold tr trF
  simp only [getD_of hn, mkTr]
  cases h2 : hasY n.op
  · cases h1 : hasX n.op
    · rfl
    · have := hx h1
      simp only [cond_true, cond_false]
      rw [trF_fuel hf _ _ (by omega) (by omega)]
  · have h1 := hasX_of_hasY h2
    have := hx h1
    have := hy h2
    simp only [cond_true]
    rw [trF_fuel hf _ _ (by omega) (by omega), trF_fuel hf _ _ (by omega) (by omega)]
theorem mkTr_congr {n : Nd} {a a' b b' : Tr} (hx : hasX n.op = true → a = a') (hy : hasY n.op = true → b = b') : mkTr n a b = mkTr n a' b' := by
  unfold mkTr
  cases h2 : hasY n.op
  · cases h1 : hasX n.op
    · rfl
    · rw [hx h1]; rfl
  · rw [hx (hasX_of_hasY h2), hy h2]
theorem tr_prefix {f g : List Nd} (hf : Wf f) (hg : Wf g) (hp : f <+: g) : ∀ i, i < f.length → tr g i = tr f i := by
  intro i
  induction i using Nat.strongRecOn with
  | _ i ih =>
    intro hi
    obtain ⟨n, hn⟩ : ∃ n, f[i]? = some n := ⟨_, List.getElem?_eq_getElem hi⟩
    obtain ⟨hx, hy⟩ := hf i n hn
    have hn' : g[i]? = some n := by
      obtain ⟨t, rfl⟩ := hp
      rw [List.getElem?_append_left hi]; exact hn
    rw [tr_eq hf hn, tr_eq hg hn']
    exact mkTr_congr (fun h => by have := hx h; exact ih _ (by omega) (by omega)) (fun h => by have := hy h; exact ih _ (by omega) (by omega))
theorem head_head (n : Nd) : n.head.head = n.head := by
  unfold Nd.head Nd.with_
  cases hasX n.op <;> cases hasY n.op <;> rfl
theorem with_head (n : Nd) (a b : Nat) : (n.with_ a b).head = n.head := by
  unfold Nd.head Nd.with_
  cases hasX n.op <;> cases hasY n.op <;> rfl
theorem head_with (n : Nd) (a b : Nat) : n.head.with_ a b = n.with_ a b := by
  unfold Nd.head Nd.with_
  cases hasX n.op <;> cases hasY n.op <;> rfl
theorem with_op (n : Nd) (a b : Nat) : (n.with_ a b).op = n.op := rfl
theorem head_op (n : Nd) : n.head.op = n.op := rfl
theorem mkTr_ok {n : Nd} {a b : Tr} (ha : hasX n.op = true → a.ok) (hb : hasY n.op = true → b.ok) : (mkTr n a b).ok := by
  unfold mkTr
  cases h2 : hasY n.op
  · cases h1 : hasX n.op
    · exact ⟨h1, h2⟩
    · exact ⟨h1, h2, head_head n, ha h1⟩
  · have h1 := hasX_of_hasY h2
    exact ⟨h1, h2, head_head n, ha h1, hb h2⟩
theorem tr_ok {f : List Nd} (hf : Wf f) : ∀ i, i < f.length → (tr f i).ok := by
  intro i
  induction i using Nat.strongRecOn with
  | _ i ih =>
    intro hi
    obtain ⟨n, hn⟩ : ∃ n, f[i]? = some n := ⟨_, List.getElem?_eq_getElem hi⟩
    obtain ⟨hx, hy⟩ := hf i n hn
    rw [tr_eq hf hn]
    exact mkTr_ok (fun h => by have := hx h; exact ih _ (by omega) (by omega)) (fun h => by have := hy h; exact ih _ (by omega) (by omega))

/-- A tree put into a list: the list behind it, and the root's place. -/
def ins : Tr → List Nd → List Nd × Nat
  | .leaf n, o => (addN o n, o.idxOf n)
  | .one n a, o => (addN (ins a o).1 (n.with_ (ins a o).2 0), (ins a o).1.idxOf (n.with_ (ins a o).2 0))
  | .two n a b, o => (addN (ins b (ins a o).1).1 (n.with_ (ins a o).2 (ins b (ins a o).1).2), (ins b (ins a o).1).1.idxOf (n.with_ (ins a o).2 (ins b (ins a o).1).2))
def canon (t : Tr) : List Nd := (ins t []).1

theorem with_leaf {n : Nd} (h1 : hasX n.op = false) (h2 : hasY n.op = false) (a b : Nat) : n.with_ a b = n := by
  unfold Nd.with_; rw [h1, h2]; rfl
theorem with_one {n : Nd} (h2 : hasY n.op = false) (a b c : Nat) : n.with_ a b = n.with_ a c := by
  unfold Nd.with_; rw [h2]; rfl
theorem finN_ins {f : List Nd} (hf : Wf f) : ∀ (i : Nat) (o : List Nd), i < f.length → finN f i o = ins (tr f i) o := by
  intro i
  induction i using Nat.strongRecOn with
  | _ i ih =>
    intro o hi
    obtain ⟨n, hn⟩ : ∃ n, f[i]? = some n := ⟨_, List.getElem?_eq_getElem hi⟩
    obtain ⟨hx, hy⟩ := hf i n hn
    rw [finN_eq hf hn, tr_eq hf hn]
    unfold mkTr opX opY
    cases h2 : hasY n.op
    · cases h1 : hasX n.op
      · simp only [cond_false, ins, Bool.false_eq_true, if_false, with_leaf h1 h2]
      · have := hx h1
        simp only [cond_false, cond_true, ins, Bool.false_eq_true, if_false, if_true, head_with]
        rw [ih _ (by omega) _ (by omega), with_one h2 _ _ 0]
    · have h1 := hasX_of_hasY h2
      have := hx h1
      have := hy h2
      simp only [h1, cond_true, ins, if_true, head_with]
      rw [ih n.x.toNat (by omega) o (by omega), ih n.y.toNat (by omega) _ (by omega)]

theorem wf_addN {o : List Nd} {m : Nd} (ho : Wf o) (hx : hasX m.op = true → 0 ≤ m.x ∧ m.x < o.length) (hy : hasY m.op = true → 0 ≤ m.y ∧ m.y < o.length) : Wf (addN o m) := by
  unfold addN
  split
  · exact ho
  · exact wf_snoc ho hx hy
theorem addN_get (o : List Nd) (m : Nd) : (addN o m)[o.idxOf m]? = some m := by
  rw [← idxOf_addN]
  rw [List.getElem?_eq_getElem (List.idxOf_lt_length_of_mem (mem_addN o m))]
  rw [List.getElem_idxOf]
structure InsOk (t : Tr) (o : List Nd) : Prop where
  wf : Wf (ins t o).1
  pre : o <+: (ins t o).1
  lt : (ins t o).2 < (ins t o).1.length
  tree : tr (ins t o).1 (ins t o).2 = t
theorem ins_ok : ∀ (t : Tr) (o : List Nd), t.ok → Wf o → InsOk t o
  | .leaf n, o, ⟨h1, h2⟩, ho => by
    have hw : Wf (addN o n) := wf_addN ho (fun h => by rw [h1] at h; cases h) (fun h => by rw [h2] at h; cases h)
    refine ⟨hw, addN_prefix _ _, idxOf_lt_addN _ _, ?_⟩
    show tr (addN o n) (o.idxOf n) = _
    rw [tr_eq hw (addN_get o n)]
    unfold mkTr
    rw [h1, h2]
    rfl
  | .one n a, o, ⟨h1, h2, h3, ha⟩, ho => by
    have A := ins_ok a o ha ho
    have hw : Wf (addN (ins a o).1 (n.with_ (ins a o).2 0)) := wf_addN A.wf (fun h => by
      have := A.lt
      simp only [Nd.with_, h1, cond_true]
      omega) (fun h => by rw [with_op, h2] at h; cases h)
    refine ⟨hw, A.pre.trans (addN_prefix _ _), idxOf_lt_addN _ _, ?_⟩
    show tr (addN (ins a o).1 (n.with_ (ins a o).2 0)) ((ins a o).1.idxOf (n.with_ (ins a o).2 0)) = _
    rw [tr_eq hw (addN_get _ _)]
    unfold mkTr
    rw [with_op, h1, h2, with_head, h3]
    have e : (n.with_ (ins a o).2 0).x.toNat = (ins a o).2 := by simp [Nd.with_, h1]
    rw [e, tr_prefix A.wf hw (addN_prefix _ _) _ A.lt, A.tree]
    rfl
  | .two n a b, o, ⟨h1, h2, h3, ha, hb⟩, ho => by
    have A := ins_ok a o ha ho
    have B := ins_ok b _ hb A.wf
    have hlt : (ins a o).2 < (ins b (ins a o).1).1.length := Nat.lt_of_lt_of_le A.lt B.pre.length_le
    have hw : Wf (addN (ins b (ins a o).1).1 (n.with_ (ins a o).2 (ins b (ins a o).1).2)) := wf_addN B.wf (fun h => by
      simp only [Nd.with_, h1, cond_true]
      omega) (fun h => by
      have := B.lt
      simp only [Nd.with_, h2, cond_true]
      omega)
    refine ⟨hw, (A.pre.trans B.pre).trans (addN_prefix _ _), idxOf_lt_addN _ _, ?_⟩
    show tr (addN (ins b (ins a o).1).1 (n.with_ (ins a o).2 (ins b (ins a o).1).2)) ((ins b (ins a o).1).1.idxOf (n.with_ (ins a o).2 (ins b (ins a o).1).2)) = _
    rw [tr_eq hw (addN_get _ _)]
    unfold mkTr
    rw [with_op, h2, with_head, h3]
    have e : (n.with_ (ins a o).2 (ins b (ins a o).1).2).x.toNat = (ins a o).2 := by simp [Nd.with_, h1]
    have e' : (n.with_ (ins a o).2 (ins b (ins a o).1).2).y.toNat = (ins b (ins a o).1).2 := by simp [Nd.with_, h2]
    rw [e, e', tr_prefix A.wf hw (B.pre.trans (addN_prefix _ _)) _ A.lt, A.tree, tr_prefix B.wf hw (addN_prefix _ _) _ B.lt, B.tree]
    rfl

/-- The trees in a list are below a bound. -/
def Below (N : Nat) (o : List Nd) : Prop := ∀ k, k < o.length → (tr o k).size < N
theorem below_addN {N : Nat} {o : List Nd} {m : Nd} (ho : Wf o) (hw : Wf (addN o m)) (h : Below N o) (hm : (tr (addN o m) (o.idxOf m)).size < N) : Below N (addN o m) := by
  intro k hk
  by_cases hko : k < o.length
  · rw [tr_prefix ho hw (addN_prefix _ _) _ hko]
    exact h k hko
  · have hne : m ∉ o := fun hm' => by
      unfold addN at hk
      rw [if_pos hm'] at hk
      exact hko hk
    have : k = o.idxOf m := by
      rw [List.idxOf_eq_length hne]
      unfold addN at hk
      rw [if_neg hne] at hk
      simp at hk
      omega
    rw [this]
    exact hm
theorem ins_below : ∀ (t : Tr) (o : List Nd) (N : Nat), t.ok → Wf o → Below N o → t.size < N → Below N (ins t o).1
  | .leaf n, o, N, ht, ho, hb, hs => by
    have I := ins_ok (.leaf n) o ht ho
    exact below_addN ho I.wf hb (Nat.lt_of_le_of_lt (Nat.le_of_eq (congrArg Tr.size I.tree)) hs)
  | .one n a, o, N, ht, ho, hb, hs => by
    have I := ins_ok (.one n a) o ht ho
    have A := ins_ok a o ht.2.2.2 ho
    have hs' : a.size + 1 < N := hs
    exact below_addN A.wf I.wf (ins_below a o N ht.2.2.2 ho hb (by omega)) (Nat.lt_of_le_of_lt (Nat.le_of_eq (congrArg Tr.size I.tree)) hs)
  | .two n a b, o, N, ht, ho, hb, hs => by
    have I := ins_ok (.two n a b) o ht ho
    have A := ins_ok a o ht.2.2.2.1 ho
    have B := ins_ok b _ ht.2.2.2.2 A.wf
    have hs' : a.size + b.size + 1 < N := hs
    exact below_addN B.wf I.wf (ins_below b _ N ht.2.2.2.2 A.wf (ins_below a o N ht.2.2.2.1 ho hb (by omega)) (by omega)) (Nat.lt_of_le_of_lt (Nat.le_of_eq (congrArg Tr.size I.tree)) hs)
theorem below_nil (N : Nat) : Below N [] := fun k h => absurd h (by simp)
theorem last_addN {o : List Nd} {m : Nd} {t : Tr} (hb : Below t.size o) (ht : tr (addN o m) (o.idxOf m) = t) : o.idxOf m + 1 = (addN o m).length := by
  have hne : m ∉ o := fun hm => by
    have hlt := List.idxOf_lt_length_of_mem hm
    have := hb _ hlt
    have e : addN o m = o := by unfold addN; rw [if_pos hm]
    rw [e] at ht
    rw [ht] at this
    omega
  rw [List.idxOf_eq_length hne]
  unfold addN
  rw [if_neg hne]
  simp
/-- The root of a canonical list is its last node. -/
theorem ins_last (t : Tr) (ht : t.ok) : (ins t []).2 + 1 = (canon t).length := by
  have I := ins_ok t [] ht wf_nil
  cases t with
  | leaf n => exact last_addN (below_nil _) I.tree
  | one n a =>
    have A := ins_ok a [] ht.2.2.2 wf_nil
    exact last_addN (t := .one n a) (ins_below a [] _ ht.2.2.2 wf_nil (below_nil _) (Nat.lt_succ_self _)) I.tree
  | two n a b =>
    have A := ins_ok a [] ht.2.2.2.1 wf_nil
    have B := ins_ok b _ ht.2.2.2.2 A.wf
    have e : (Tr.two n a b).size = a.size + b.size + 1 := rfl
    exact last_addN (t := .two n a b) (ins_below b _ _ ht.2.2.2.2 A.wf (ins_below a [] _ ht.2.2.2.1 wf_nil (below_nil _) (by omega)) (by omega)) I.tree
theorem canon_wf {t : Tr} (ht : t.ok) : Wf (canon t) := (ins_ok t [] ht wf_nil).wf
theorem canon_pos {t : Tr} (ht : t.ok) : 0 < (canon t).length := by have := ins_last t ht; omega
theorem treeOf_canon {t : Tr} (ht : t.ok) : treeOf (canon t) = t := by
  unfold treeOf
  have h := ins_last t ht
  rw [show (canon t).length - 1 = (ins t []).2 by omega]
  exact (ins_ok t [] ht wf_nil).tree
theorem canon_inj {s t : Tr} (hs : s.ok) (ht : t.ok) (h : canon s = canon t) : s = t := by
  rw [← treeOf_canon hs, ← treeOf_canon ht, h]
end Go.Proofs.YtbfeodammikajaaGreat

/- What the functions on formulas come to on trees. -/

namespace Go.Proofs.YtbfeodammikajaaGreat

theorem treeOf_ok {f : List Nd} (h : check f = 0) : (treeOf f).ok := tr_ok (check_wf h) _ (by have := (check_parts h).1; omega)
theorem compactN_tree {f : List Nd} (h : check f = 0) : compactN f = canon (treeOf f) := by
  rw [compactN_eq h, finN_ins (check_wf h) _ _ (by have := (check_parts h).1; omega)]
  rfl
theorem subN_tree {f : List Nd} (h : check f = 0) {z : Nat} (hz : z < f.length) : subN f z = canon (tr f z) := by
  unfold subN
  have e : (decide ((z : Int) < 0) || decide ((f.length : Int) ≤ (z : Int))) = false := by simp; omega
  rw [h, e, Int.toNat_natCast, finN_ins (check_wf h) _ _ hz]
  rfl
theorem treeOf_compact {f : List Nd} (h : check f = 0) : treeOf (compactN f) = treeOf f := by
  rw [compactN_tree h, treeOf_canon (treeOf_ok h)]
theorem compact_twice {f : List Nd} (h : check f = 0) : compactN (compactN f) = compactN f := by
  rw [compactN_tree (compactN_check h), treeOf_compact h, compactN_tree h]

theorem tr_shift {a b : List Nd} (ha : Wf a) (hb : Wf b) : ∀ k, k < b.length → tr (a ++ b.map (shiftN a.length)) (a.length + k) = tr b k := by
  intro k
  induction k using Nat.strongRecOn with
  | _ k ih =>
    intro hk
    obtain ⟨n, hn⟩ : ∃ n, b[k]? = some n := ⟨_, List.getElem?_eq_getElem hk⟩
    obtain ⟨hx, hy⟩ := hb k n hn
    have hn' : (a ++ b.map (shiftN a.length))[a.length + k]? = some (shiftN a.length n) := by
      rw [List.getElem?_append_right (by omega), Nat.add_sub_cancel_left, List.getElem?_map, hn]; rfl
    rw [tr_eq (shift_wf ha hb) hn', tr_eq hb hn]
    have e0 : (shiftN a.length n).op = n.op := rfl
    have ehead : (shiftN a.length n).head = n.head := by
      unfold Nd.head Nd.with_ shiftN
      cases hasX n.op <;> cases hasY n.op <;> rfl
    unfold mkTr
    rw [e0, ehead]
    cases h2 : hasY n.op
    · cases h1 : hasX n.op
      · simp only [cond_false]
        congr 1
        unfold shiftN
        rw [h1, h2]
        rfl
      · have := hx h1
        have e1 : (shiftN a.length n).x.toNat = a.length + n.x.toNat := by simp only [shiftN, h1, cond_true]; omega
        rw [e1, ih _ (by omega) (by omega)]
        rfl
    · have h1 := hasX_of_hasY h2
      have := hx h1
      have := hy h2
      have e1 : (shiftN a.length n).x.toNat = a.length + n.x.toNat := by simp only [shiftN, h1, cond_true]; omega
      have e2 : (shiftN a.length n).y.toNat = a.length + n.y.toNat := by simp only [shiftN, h2, cond_true]; omega
      rw [e1, e2, ih n.x.toNat (by omega) (by omega), ih n.y.toNat (by omega) (by omega)]
      rfl

end Go.Proofs.YtbfeodammikajaaGreat

/- Types and models: what is true at a world is a type that lacks nothing, and types that lack nothing are the worlds of a model. Plain Lean. -/

namespace Go.Proofs.YtbfeodammikajaaGreat

/-- One step or more. -/
inductive Rch {α : Type} (r : α → α → Prop) : α → α → Prop
  | one {a b : α} : r a b → Rch r a b
  | cons {a b c : α} : r a b → Rch r b c → Rch r a c
theorem Rch.snoc {α : Type} {r : α → α → Prop} {a b c : α} (h : Rch r a b) (k : r b c) : Rch r a c := by
  induction h with
  | one h => exact .cons h (.one k)
  | cons h _ ih => exact .cons h (ih k)
theorem Rch.map {α β : Type} {r : α → α → Prop} {s : β → β → Prop} (f : α → β) (hf : ∀ a b, r a b → s (f a) (f b)) {a b : α} (h : Rch r a b) : Rch s (f a) (f b) := by
  induction h with
  | one h => exact .one (hf _ _ h)
  | cons h _ ih => exact .cons (hf _ _ h) ih
theorem Rch.mono {α : Type} {r s : α → α → Prop} (hf : ∀ a b, r a b → s a b) {a b : α} (h : Rch r a b) : Rch s a b := by
  induction h with
  | one h => exact .one (hf _ _ h)
  | cons h _ ih => exact .cons (hf _ _ h) ih

/-- A model: worlds, a relation for each agent, the facts. -/
structure KM where
  W : Type
  R : Int → W → W → Prop
  V : Int → W → Prop
def gbit (g : Int) (i : Nat) : Bool := g.toNat.testBit i
def KM.step (M : KM) (g : Int) (c : M.W → Prop) (u v : M.W) : Prop := (∃ i : Nat, i < 4 ∧ gbit g i = true ∧ M.R (i : Int) u v) ∧ c v
def KM.sat (M : KM) : Tr → M.W → Prop
  | .leaf n, w => n.op = 1 ∨ (n.op = 3 ∧ M.V n.i w)
  | .one n a, w =>
    if n.op = 4 then ¬ M.sat a w
    else if n.op = 9 then ∀ v, M.R n.i w v → M.sat a v
    else if n.op = 10 then ∃ v, M.R n.i w v ∧ M.sat a v
    else if n.op = 11 then ∀ i : Nat, i < 4 → gbit n.g i = true → ∀ v, M.R (i : Int) w v → M.sat a v
    else False
  | .two n a b, w =>
    if n.op = 5 then M.sat a w ∧ M.sat b w
    else if n.op = 6 then M.sat a w ∨ M.sat b w
    else if n.op = 7 then M.sat a w → M.sat b w
    else if n.op = 8 then (M.sat a w ↔ M.sat b w)
    else if n.op = 13 then ∀ v, Rch (M.step n.g (M.sat a)) w v → M.sat b v
    else False
/-- The conditions of a logic on a relation. -/
structure Frm (lg : Int) {W : Type} (R : W → W → Prop) : Prop where
  ser : lg = 1 ∨ lg = 5 → ∀ w, ∃ v, R w v
  refl : lg = 2 ∨ lg = 4 ∨ lg = 6 → ∀ w, R w w
  trans : 3 ≤ lg ∧ lg ≤ 6 → ∀ u v w, R u v → R v w → R u w
  eucl : lg = 5 ∨ lg = 6 → ∀ u v w, R u v → R u w → R v w
def KM.In (M : KM) (lg : Int) : Prop := ∀ i : Int, Frm lg (M.R i)

/-- The truth of a tree at a type, told by its base formulas. -/
def ev (th : Tr → Bool) : Tr → Bool
  | .leaf n => if n.op = 3 then th (.leaf n) else n.op == 1
  | .one n a => if n.op = 4 then !ev th a else if n.op = 9 then th (.one n a) else false
  | .two n a b =>
    if n.op = 5 then ev th a && ev th b
    else if n.op = 6 then ev th a || ev th b
    else if n.op = 7 then !ev th a || ev th b
    else if n.op = 8 then ev th a == ev th b
    else if n.op = 13 then th (.two n a b) else false
/-- The base formulas that a tree's truth is told by are in the base. -/
def cov (B : List Tr) : Tr → Prop
  | .leaf n => n.op = 3 → .leaf n ∈ B
  | .one n a => if n.op = 9 then .one n a ∈ B else cov B a
  | .two n a b => if n.op = 13 then .two n a b ∈ B else cov B a ∧ cov B b
/-- A tree of the expanded language. -/
def lang : Tr → Prop
  | .leaf _ => True
  | .one n a => (n.op = 4 ∨ n.op = 9) ∧ lang a
  | .two n a b => ((5 ≤ n.op ∧ n.op ≤ 8) ∨ n.op = 13) ∧ lang a ∧ lang b
def unfT (i : Nat) (n : Nd) (a b : Tr) : Tr := .one ⟨9, i, 0, 0, 0, 0⟩ (.two ⟨7, 0, 0, 0, 0, 0⟩ a (.two ⟨5, 0, 0, 0, 0, 0⟩ b (.two n a b)))
structure Closed (B : List Tr) : Prop where
  know : ∀ n a, .one n a ∈ B → n.op = 9 ∧ cov B a ∧ lang a ∧ 0 ≤ n.i ∧ n.i < 4
  com : ∀ n a b, .two n a b ∈ B → n.op = 13 ∧ cov B a ∧ cov B b ∧ lang a ∧ lang b ∧ ∀ i : Nat, i < 4 → gbit n.g i = true → unfT i n a b ∈ B
def condL (lg : Int) (here hold there : Bool) : Bool :=
  if lg ≤ 2 then !here || hold
  else if lg = 3 then !here || (hold && there)
  else if lg = 4 then !here || there
  else if lg = 6 then here == there
  else (here == there) && (!here || hold)
def refl3 (lg : Int) : Prop := lg = 2 ∨ lg = 4 ∨ lg = 6
structure Coh (lg : Int) (B : List Tr) (th : Tr → Bool) : Prop where
  com : ∀ n a b, .two n a b ∈ B → (th (.two n a b) = true ↔ ∀ i : Nat, i < 4 → gbit n.g i = true → th (unfT i n a b) = true)
  know : refl3 lg → ∀ n a, .one n a ∈ B → th (.one n a) = true → ev th a = true
def Poss (lg : Int) (B : List Tr) (i : Int) (th th' : Tr → Bool) : Prop :=
  ∀ n a, .one n a ∈ B → n.i = i → condL lg (th (.one n a)) (ev th' a) (th' (.one n a)) = true
section
variable {T : Type} (lg : Int) (B : List Tr) (S : T → Prop) (th : T → Tr → Bool)
/-- A step of a path of types. -/
def stepT (g : Int) (a : Tr) (t u : T) : Prop := S u ∧ ev (th u) a = true ∧ ∃ i : Nat, i < 4 ∧ gbit g i = true ∧ Poss lg B (i : Int) (th t) (th u)
/-- No type of a set lacks anything. -/
structure Full : Prop where
  coh : ∀ t, S t → Coh lg B (th t)
  ser : lg = 1 ∨ lg = 5 → ∀ t, S t → ∀ i : Int, (∃ n a, .one n a ∈ B ∧ n.i = i) → ∃ u, S u ∧ Poss lg B i (th t) (th u)
  know : ∀ t, S t → ∀ n a, .one n a ∈ B → th t (.one n a) = false → ∃ u, S u ∧ ev (th u) a = false ∧ Poss lg B n.i (th t) (th u)
  com : ∀ t, S t → ∀ n a b, .two n a b ∈ B → th t (.two n a b) = false → ∃ u, Rch (stepT lg B S th n.g a) t u ∧ ev (th u) b = false
end
theorem sat_imp {M : KM} {a b : Tr} {w : M.W} : M.sat (.two ⟨7, 0, 0, 0, 0, 0⟩ a b) w ↔ (M.sat a w → M.sat b w) := by simp [KM.sat]
theorem sat_and {M : KM} {a b : Tr} {w : M.W} : M.sat (.two ⟨5, 0, 0, 0, 0, 0⟩ a b) w ↔ (M.sat a w ∧ M.sat b w) := by simp [KM.sat]
theorem sat_know {M : KM} {n : Nd} {a : Tr} {w : M.W} (h : n.op = 9) : M.sat (.one n a) w ↔ ∀ v, M.R n.i w v → M.sat a v := by simp [KM.sat, h]
theorem sat_com {M : KM} {n : Nd} {a b : Tr} {w : M.W} (h : n.op = 13) : M.sat (.two n a b) w ↔ ∀ v, Rch (M.step n.g (M.sat a)) w v → M.sat b v := by simp [KM.sat, h]
theorem sat_unf {M : KM} {i : Nat} {n : Nd} {a b : Tr} {w : M.W} : M.sat (unfT i n a b) w ↔ ∀ v, M.R (i : Int) w v → M.sat a v → M.sat b v ∧ M.sat (.two n a b) v := by
  unfold unfT
  rw [sat_know rfl]
  constructor
  · intro h v hv ha
    exact sat_and.1 (sat_imp.1 (h v hv) ha)
  · intro h v hv
    exact sat_imp.2 fun ha => sat_and.2 (h v hv ha)
/-- Common knowledge unfolds. -/
theorem com_unf {M : KM} {n : Nd} {a b : Tr} {w : M.W} (h : n.op = 13) : M.sat (.two n a b) w ↔ ∀ i : Nat, i < 4 → gbit n.g i = true → M.sat (unfT i n a b) w := by
  constructor
  · intro hc i hi hb
    rw [sat_unf]
    intro v hv ha
    rw [sat_com h] at hc
    refine ⟨hc v (.one ⟨⟨i, hi, hb, hv⟩, ha⟩), ?_⟩
    rw [sat_com h]
    exact fun u hu => hc u (.cons ⟨⟨i, hi, hb, hv⟩, ha⟩ hu)
  · intro hu
    rw [sat_com h]
    intro v hv
    cases hv with
    | one hs =>
      obtain ⟨⟨i, hi, hb, hr⟩, ha⟩ := hs
      exact ((sat_unf.1 (hu i hi hb)) v hr ha).1
    | cons hs hr =>
      obtain ⟨⟨i, hi, hb, hr'⟩, ha⟩ := hs
      exact ((sat_com h).1 ((sat_unf.1 (hu i hi hb)) _ hr' ha).2) v hr
theorem ev_sat {M : KM} {B : List Tr} {w : M.W} {th : Tr → Bool} (hth : ∀ f ∈ B, th f = true ↔ M.sat f w) : ∀ f, cov B f → lang f → (ev th f = true ↔ M.sat f w)
  | .leaf n, hc, _ => by
    by_cases h3 : n.op = 3
    · have := hth _ (hc h3)
      simp only [ev, h3, if_true]
      exact this
    · simp only [ev, h3, if_false, KM.sat, beq_iff_eq, false_and, or_false]
  | .one n a, hc, hl => by
    by_cases h9 : n.op = 9
    · have hc' : .one n a ∈ B := by simpa [cov, h9] using hc
      have := hth _ hc'
      rw [← this]
      simp [ev, h9]
    · have h4 : n.op = 4 := hl.1.resolve_right h9
      have hc' : cov B a := by simpa [cov, h4] using hc
      have := ev_sat hth a hc' hl.2
      simp only [ev, KM.sat, h4, if_true, Bool.not_eq_true']
      rw [← this]
      simp
  | .two n a b, hc, hl => by
    by_cases h13 : n.op = 13
    · have hc' : .two n a b ∈ B := by simpa [cov, h13] using hc
      have := hth _ hc'
      rw [← this]
      simp [ev, h13]
    · have hc' : cov B a ∧ cov B b := by simpa [cov, h13] using hc
      have ha := ev_sat hth a hc'.1 hl.2.1
      have hb := ev_sat hth b hc'.2 hl.2.2
      have ho : n.op = 5 ∨ n.op = 6 ∨ n.op = 7 ∨ n.op = 8 := by
        have := hl.1.resolve_right h13
        omega
      rcases ho with ho | ho | ho | ho
      · simp [ev, KM.sat, ho, ha, hb]
      · simp [ev, KM.sat, ho, ha, hb]
      · simp only [ev, KM.sat, ho]
        simp only [show ¬ (7 : Int) = 5 by decide, show ¬ (7 : Int) = 6 by decide, if_false, if_true, Bool.or_eq_true, Bool.not_eq_true']
        rw [← ha, ← hb]
        cases ev th a <;> cases ev th b <;> simp
      · simp only [ev, KM.sat, ho]
        simp only [show ¬ (8 : Int) = 5 by decide, show ¬ (8 : Int) = 6 by decide, show ¬ (8 : Int) = 7 by decide, if_false, if_true, beq_iff_eq]
        rw [← ha, ← hb]
        cases ev th a <;> cases ev th b <;> simp
open Classical in
/-- The type of a world. -/
noncomputable def thW (M : KM) (w : M.W) (f : Tr) : Bool := decide (M.sat f w)
theorem thW_iff {M : KM} {w : M.W} {f : Tr} : thW M w f = true ↔ M.sat f w := by simp [thW]
section
variable {lg : Int} {B : List Tr} {M : KM}
theorem evW (w : M.W) {f : Tr} (hc : cov B f) (hl : lang f) : ev (thW M w) f = true ↔ M.sat f w := ev_sat (B := B) (fun _ _ => thW_iff) f hc hl
theorem world_coh (hB : Closed B) (hM : M.In lg) (w : M.W) : Coh lg B (thW M w) where
  com n a b h := by
    rw [thW_iff, com_unf (hB.com n a b h).1]
    exact ⟨fun k i hi hb => thW_iff.2 (k i hi hb), fun k i hi hb => thW_iff.1 (k i hi hb)⟩
  know hl n a h ht := by
    obtain ⟨h9, hc, hla, _⟩ := hB.know n a h
    rw [evW w hc hla]
    exact (sat_know h9).1 (thW_iff.1 ht) w ((hM n.i).refl hl w)
theorem cond_of {lg : Int} {here hold there : Bool} (h1 : here = true → hold = true) (h2 : 3 ≤ lg ∧ lg ≤ 6 → here = true → there = true) (h3 : lg = 5 ∨ lg = 6 → there = true → here = true) (hlg : lg ≤ 6) : condL lg here hold there = true := by
  unfold condL
  by_cases a : lg ≤ 2
  · rw [if_pos a]; cases here <;> simp_all
  rw [if_neg a]
  have h2 := h2 ⟨by omega, hlg⟩
  by_cases b : lg = 3
  · rw [if_pos b]; cases here <;> simp_all
  rw [if_neg b]
  by_cases c : lg = 4
  · rw [if_pos c]; cases here <;> simp_all
  rw [if_neg c]
  have h3 := h3 (by omega)
  by_cases d : lg = 6
  · rw [if_pos d]; cases here <;> cases there <;> simp_all
  rw [if_neg d]; cases here <;> cases there <;> simp_all
theorem world_poss (hB : Closed B) (hM : M.In lg) (hlg : lg ≤ 6) {i : Int} {w v : M.W} (hr : M.R i w v) : Poss lg B i (thW M w) (thW M v) := by
  intro n a h hi
  subst hi
  obtain ⟨h9, hc, hla, _⟩ := hB.know n a h
  refine cond_of (fun e => ?_) (fun hl e => ?_) (fun hl e => ?_) hlg
  · rw [evW v hc hla]
    exact (sat_know h9).1 (thW_iff.1 e) v hr
  · rw [thW_iff, sat_know h9]
    exact fun u hu => (sat_know h9).1 (thW_iff.1 e) u ((hM n.i).trans hl w v u hr hu)
  · rw [thW_iff, sat_know h9]
    exact fun u hu => (sat_know h9).1 (thW_iff.1 e) u ((hM n.i).eucl hl w v u hr hu)
/-- The types of the worlds of a model lack nothing: in any set that holds them. -/
theorem world_full (hB : Closed B) (hM : M.In lg) (hlg : lg ≤ 6) : Full lg B (fun _ : M.W => True) (thW M) where
  coh w _ := world_coh hB hM w
  ser hl w _ i _ := by
    obtain ⟨v, hv⟩ := (hM i).ser hl w
    exact ⟨v, trivial, world_poss hB hM hlg hv⟩
  know w _ n a h hf := by
    obtain ⟨h9, hc, hla, _⟩ := hB.know n a h
    have hn : ¬ M.sat (.one n a) w := fun hs => by rw [thW_iff.2 hs] at hf; cases hf
    rw [sat_know h9] at hn
    obtain ⟨v, hv⟩ := Classical.not_forall.1 hn
    obtain ⟨hr, ha⟩ := Classical.not_imp.1 hv
    refine ⟨v, trivial, ?_, world_poss hB hM hlg hr⟩
    cases e : ev (thW M v) a
    · rfl
    · exact absurd ((evW v hc hla).1 e) ha
  com w _ n a b h hf := by
    obtain ⟨h13, hca, hcb, hla, hlb, _⟩ := hB.com n a b h
    have hn : ¬ M.sat (.two n a b) w := fun hs => by rw [thW_iff.2 hs] at hf; cases hf
    rw [sat_com h13] at hn
    obtain ⟨v, hv⟩ := Classical.not_forall.1 hn
    obtain ⟨hr, hb⟩ := Classical.not_imp.1 hv
    refine ⟨v, hr.mono fun x y hxy => ?_, ?_⟩
    · obtain ⟨⟨i, hi, hg, hR⟩, ha⟩ := hxy
      exact ⟨trivial, (evW y hca hla).2 ha, i, hi, hg, world_poss hB hM hlg hR⟩
    · cases e : ev (thW M v) b
      · rfl
      · exact absurd ((evW v hcb hlb).1 e) hb
end
section
variable {T : Type} (lg : Int) (B : List Tr) (S : T → Prop) (th : T → Tr → Bool)
/-- The model of a set of types. -/
def modT : KM := ⟨{t : T // S t}, fun i t u => Poss lg B i (th t.1) (th u.1), fun p t => th t.1 (.leaf ⟨3, p, 0, 0, 0, 0⟩) = true⟩
end
section
variable {T : Type} {lg : Int} {B : List Tr} {S : T → Prop} {th : T → Tr → Bool}
theorem cond_hold {lg : Int} {here hold there : Bool} (h : condL lg here hold there = true) (hh : here = true) (hr : refl3 lg → there = true → hold = true) : hold = true := by
  subst hh
  unfold condL at h
  by_cases a : lg ≤ 2
  · rw [if_pos a] at h; simpa using h
  rw [if_neg a] at h
  by_cases b : lg = 3
  · rw [if_pos b] at h; simp at h; exact h.1
  rw [if_neg b] at h
  by_cases c : lg = 4
  · rw [if_pos c] at h; simp at h; exact hr (.inr (.inl c)) h
  rw [if_neg c] at h
  by_cases d : lg = 6
  · rw [if_pos d] at h; simp at h; exact hr (.inr (.inr d)) h
  rw [if_neg d] at h; simp at h; exact h.2
theorem cond_there {lg : Int} {here hold there : Bool} (h : condL lg here hold there = true) (hl : 3 ≤ lg) (hh : here = true) : there = true := by
  subst hh
  unfold condL at h
  rw [if_neg (by omega)] at h
  by_cases b : lg = 3
  · rw [if_pos b] at h; simp at h; exact h.2
  rw [if_neg b] at h
  by_cases c : lg = 4
  · rw [if_pos c] at h; simp at h; exact h
  rw [if_neg c] at h
  by_cases d : lg = 6
  · rw [if_pos d] at h; simp at h; exact h
  rw [if_neg d] at h; simp at h; exact h.1
theorem cond_here {lg : Int} {here hold there : Bool} (h : condL lg here hold there = true) (hl : 5 ≤ lg) (ht : there = true) : here = true := by
  subst ht
  unfold condL at h
  rw [if_neg (by omega), if_neg (by omega), if_neg (by omega)] at h
  by_cases d : lg = 6
  · rw [if_pos d] at h; simpa using h
  rw [if_neg d] at h; simp at h; exact h.1
theorem poss_hold (hF : Full lg B S th) {i : Int} {t u : T} (hu : S u) (hp : Poss lg B i (th t) (th u)) {n : Nd} {a : Tr} (h : .one n a ∈ B) (hi : n.i = i) (ht : th t (.one n a) = true) : ev (th u) a = true :=
  cond_hold (hp n a h hi) ht (fun hr e => (hF.coh u hu).know hr n a h e)
/-- The model of types that lack nothing has the conditions of the logic. -/
theorem modT_in (hF : Full lg B S th) (hlg : lg ≤ 6) : (modT lg B S th).In lg := fun i => {
  ser := fun hl w => by
    by_cases ho : ∃ n a, Tr.one n a ∈ B ∧ n.i = i
    · obtain ⟨u, hu, hp⟩ := hF.ser hl w.1 w.2 i ho
      exact ⟨⟨u, hu⟩, hp⟩
    · exact ⟨w, fun n a h hi => absurd ⟨n, a, h, hi⟩ ho⟩
  refl := fun hl w n a h hi => cond_of (fun e => (hF.coh w.1 w.2).know hl n a h e) (fun _ e => e) (fun _ e => e) hlg
  trans := fun hl u v w huv hvw n a h hi => by
    have h1 := huv n a h hi
    have h2 := hvw n a h hi
    exact cond_of (fun e => poss_hold hF w.2 hvw h hi (cond_there h1 hl.1 e)) (fun _ e => cond_there h2 hl.1 (cond_there h1 hl.1 e)) (fun k e => cond_here h1 (by omega) (cond_here h2 (by omega) e)) hlg
  eucl := fun hl u v w huv huw n a h hi => by
    have h1 := huv n a h hi
    have h2 := huw n a h hi
    exact cond_of (fun e => poss_hold hF w.2 huw h hi (cond_here h1 (by omega) e)) (fun _ e => cond_there h2 (by omega) (cond_here h1 (by omega) e)) (fun k e => cond_there h1 (by omega) (cond_here h2 (by omega) e)) hlg }
/-- A fact's node is told by its number. -/
def factOk : Tr → Prop
  | .leaf n => n.op = 3 → n = ⟨3, n.i, 0, 0, 0, 0⟩
  | .one _ a => factOk a
  | .two _ a b => factOk a ∧ factOk b
theorem truth (hB : Closed B) (hF : Full lg B S th) : ∀ f, cov B f → lang f → factOk f → ∀ t : (modT lg B S th).W, (ev (th t.1) f = true ↔ (modT lg B S th).sat f t)
  | .leaf n, _, _, hk, t => by
    by_cases h3 : n.op = 3
    · have e := hk h3
      simp only [ev, h3, if_true, KM.sat, modT, true_and, show ¬ (3 : Int) = 1 by decide, false_or]
      rw [← e]
    · simp only [ev, h3, if_false, KM.sat, beq_iff_eq, false_and, or_false]
  | .one n a, hc, hl, hk, t => by
    by_cases h9 : n.op = 9
    · have hm : .one n a ∈ B := by simpa [cov, h9] using hc
      obtain ⟨_, hca, hla, _⟩ := hB.know n a hm
      have ih := truth hB hF a hca hla hk
      rw [sat_know h9]
      have e : ev (th t.1) (.one n a) = th t.1 (.one n a) := by simp [ev, h9]
      rw [e]
      constructor
      · intro ht v hr
        rw [← ih v]
        exact poss_hold hF v.2 hr hm rfl ht
      · intro hs
        cases ht : th t.1 (.one n a)
        · obtain ⟨u, hu, he, hp⟩ := hF.know t.1 t.2 n a hm ht
          have := (ih ⟨u, hu⟩).2 (hs ⟨u, hu⟩ hp)
          rw [he] at this
          cases this
        · rfl
    · have h4 : n.op = 4 := hl.1.resolve_right h9
      have hca : cov B a := by simpa [cov, h4] using hc
      have ih := truth hB hF a hca hl.2 hk t
      simp only [ev, KM.sat, h4, if_true, Bool.not_eq_true']
      rw [← ih]
      simp
  | .two n a b, hc, hl, hk, t => by
    by_cases h13 : n.op = 13
    · have hm : .two n a b ∈ B := by simpa [cov, h13] using hc
      obtain ⟨_, hca, hcb, hla, hlb, hun⟩ := hB.com n a b hm
      have iha := truth hB hF a hca hla hk.1
      have ihb := truth hB hF b hcb hlb hk.2
      rw [sat_com h13]
      have e : ev (th t.1) (.two n a b) = th t.1 (.two n a b) := by simp [ev, h13]
      rw [e]
      constructor
      · intro ht v hr
        have key : ∀ (s v : (modT lg B S th).W), Rch ((modT lg B S th).step n.g ((modT lg B S th).sat a)) s v → th s.1 (.two n a b) = true → ev (th v.1) b = true := by
          intro s v hr
          have hstep : ∀ s v : (modT lg B S th).W, (modT lg B S th).step n.g ((modT lg B S th).sat a) s v → th s.1 (.two n a b) = true → ev (th v.1) b = true ∧ th v.1 (.two n a b) = true := by
            rintro s v ⟨⟨i, hi, hg, hp⟩, ha⟩ hs
            have hsu := ((hF.coh s.1 s.2).com n a b hm).1 hs i hi hg
            have hev := poss_hold hF v.2 hp (hun i hi hg) rfl hsu
            have hx := (iha v).2 ha
            simp only [ev, show ¬ (7 : Int) = 5 by decide, show ¬ (7 : Int) = 6 by decide, if_false, if_true, hx, Bool.not_true, Bool.false_or, Bool.and_eq_true, h13, show ¬ (13 : Int) = 5 by decide, show ¬ (13 : Int) = 6 by decide, show ¬ (13 : Int) = 7 by decide, show ¬ (13 : Int) = 8 by decide] at hev
            exact hev
          induction hr with
          | one h => intro hs; exact (hstep _ _ h hs).1
          | cons h _ ih => intro hs; exact ih (hstep _ _ h hs).2
        rw [← ihb v]
        exact key t v hr ht
      · intro hs
        cases ht : th t.1 (.two n a b)
        · obtain ⟨u, hp, he⟩ := hF.com t.1 t.2 n a b hm ht
          have lift : ∀ (s u : T) (hs : S s), Rch (stepT lg B S th n.g a) s u → ∃ hu : S u, Rch ((modT lg B S th).step n.g ((modT lg B S th).sat a)) ⟨s, hs⟩ ⟨u, hu⟩ := by
            intro s u hs hr
            induction hr with
            | one h =>
              obtain ⟨hu, hx, i, hi, hg, hp⟩ := h
              exact ⟨hu, .one (b := (⟨_, hu⟩ : (modT lg B S th).W)) ⟨⟨i, hi, hg, hp⟩, (iha ⟨_, hu⟩).1 hx⟩⟩
            | cons h _ ih =>
              obtain ⟨hu, hx, i, hi, hg, hp⟩ := h
              obtain ⟨hu2, h2⟩ := ih hu
              exact ⟨hu2, .cons (b := (⟨_, hu⟩ : (modT lg B S th).W)) ⟨⟨i, hi, hg, hp⟩, (iha ⟨_, hu⟩).1 hx⟩ h2⟩
          obtain ⟨hu, hr⟩ := lift t.1 u t.2 hp
          have := (ihb ⟨u, hu⟩).2 (hs ⟨u, hu⟩ hr)
          rw [he] at this
          cases this
        · rfl
    · have hc' : cov B a ∧ cov B b := by simpa [cov, h13] using hc
      have ha := truth hB hF a hc'.1 hl.2.1 hk.1 t
      have hb := truth hB hF b hc'.2 hl.2.2 hk.2 t
      have ho : n.op = 5 ∨ n.op = 6 ∨ n.op = 7 ∨ n.op = 8 := by
        have := hl.1.resolve_right h13
        omega
      rcases ho with ho | ho | ho | ho
      · simp [ev, KM.sat, ho, ha, hb]
      · simp [ev, KM.sat, ho, ha, hb]
      · simp only [ev, KM.sat, ho]
        simp only [show ¬ (7 : Int) = 5 by decide, show ¬ (7 : Int) = 6 by decide, if_false, if_true, Bool.or_eq_true, Bool.not_eq_true']
        rw [← ha, ← hb]
        cases ev (th t.1) a <;> cases ev (th t.1) b <;> simp
      · simp only [ev, KM.sat, ho]
        simp only [show ¬ (8 : Int) = 5 by decide, show ¬ (8 : Int) = 6 by decide, show ¬ (8 : Int) = 7 by decide, if_false, if_true, beq_iff_eq]
        rw [← ha, ← hb]
        cases ev (th t.1) a <;> cases ev (th t.1) b <;> simp
end
end Go.Proofs.YtbfeodammikajaaGreat

/- Negation normal forms as Lean functions. -/

namespace Go.Proofs.YtbfeodammikajaaGreat

/-- The form of a node, from the forms of its operands (the Bool: of the negation). -/
def posS (x : Nd) (p : Bool → Int → List Nd) : List Nd :=
  bif x.op == 4 then p true x.x
  else bif x.op == 7 then orN (p true x.x) (p false x.y)
  else bif x.op == 8 then andN (orN (p true x.x) (p false x.y)) (orN (p false x.x) (p true x.y))
  else bif x.op == 2 then falseN
  else bif x.op == 3 then factN x.i
  else bif x.op == 5 then andN (p false x.x) (p false x.y)
  else bif x.op == 6 then orN (p false x.x) (p false x.y)
  else bif x.op == 9 then knowN x.i (p false x.x)
  else bif x.op == 10 then possN x.i (p false x.x)
  else trueN
/-- The form of the negation of a node. -/
def negS (x : Nd) (p : Bool → Int → List Nd) : List Nd :=
  bif x.op == 1 then falseN
  else bif x.op == 2 then trueN
  else bif x.op == 4 then p false x.x
  else bif x.op == 5 then orN (p true x.x) (p true x.y)
  else bif x.op == 6 then andN (p true x.x) (p true x.y)
  else bif x.op == 7 then andN (p false x.x) (p true x.y)
  else bif x.op == 8 then orN (andN (p false x.x) (p true x.y)) (andN (p true x.x) (p false x.y))
  else bif x.op == 9 then possN x.i (p true x.x)
  else bif x.op == 10 then knowN x.i (p true x.x)
  else notN (posS x p)
def nnfF (c : List Nd) : Nat → Bool → Nat → List Nd
  | 0, _, _ => []
  | k + 1, no, i => bif no then negS (c.getD i Nd.zero) (fun b j => nnfF c k b j.toNat) else posS (c.getD i Nd.zero) (fun b j => nnfF c k b j.toNat)
/-- The form of the formula at a place of a list. -/
def nnfN (c : List Nd) (no : Bool) (i : Nat) : List Nd := nnfF c (i + 1) no i
/-- The operators of the fragment of knowledge. -/
def Few10 (c : List Nd) : Prop := ∀ n ∈ c, 1 ≤ n.op ∧ n.op ≤ 10
/-- rewrite.Nnf's formula. -/
def nnfAll (f : List Nd) : List Nd := bif check f != 0 then [] else nnfN (compactN f) false ((compactN f).length - 1)
def nnfErr (f : List Nd) : Int := bif check f != 0 then check f else bif decide ((nnfAll f).length = 0) then 8 else 0
/-- The negation normal form of the negation. -/
def oppN (f : List Nd) : List Nd := nnfAll (notN f)
end Go.Proofs.YtbfeodammikajaaGreat

/- Refutations and their check as Lean functions. -/

namespace Go.Proofs.YtbfeodammikajaaGreat

/-- A step of a refutation. -/
structure Stp where
  set : Nat
  rule : Int
  on : Int
  e : Int
  from_ : List Int
def Stp.zero : Stp := ⟨0, 0, 0, 0, []⟩
/-- A node of a negation normal form. -/
def normalN (base : List Nd) (n : Nd) : Bool :=
  bif n.op == 4 then (base.getD n.x.toNat Nd.zero).op == 3 else n.op == 1 || (n.op == 2 || (n.op == 3 || (n.op == 5 || (n.op == 6 || (n.op == 9 || n.op == 10)))))
def baseErr (base : List Nd) : Int :=
  bif check base != 0 then check base else bif decide (64 < base.length) then 8 else bif base.all (normalN base) then 0 else 10
def inS (set : Nat) (node : Int) : Bool := decide (0 ≤ node) && (decide (node < 64) && set.testBit node.toNat)
def subS (a b : Nat) : Bool := (a &&& b) == a
def insideS (base : List Nd) (set : Nat) : Bool := decide (set < 2 ^ base.length)
def formulasN (base : List Nd) : List (List Nd) := (List.range base.length).map fun (i : Nat) => subN base i
/-- The place of a list of nodes in a list, or -1. -/
def placeN (l : List (List Nd)) (g : List Nd) : Int := match l.findIdx? (fun f => decide (f = g)) with | none => -1 | some j => j
def negationN (base : List Nd) (node : Int) : Int := placeN (formulasN base) (oppN (subN base node))
def NegationN (base : List Nd) (node : Int) : Int := bif baseErr base != 0 || (decide (node < 0) || decide ((base.length : Int) ≤ node)) then -1 else negationN base node
def oppsN (base : List Nd) : List Int := (formulasN base).map fun f => placeN (formulasN base) (oppN f)
def transN (lg : Int) : Bool := lg == 3 || (lg == 4 || (lg == 5 || lg == 6))
def euclN (lg : Int) : Bool := lg == 5 || lg == 6
/-- What a node of a set adds to the carry. -/
def carry1 (lg : Int) (set : Nat) (agent : Int) (i : Nat) (n : Nd) (out : Nat) : Nat :=
  bif !inS set i || n.i != agent then out
  else bif n.op == 9 && transN lg then out ||| (2 ^ n.x.toNat ||| 2 ^ i)
  else bif n.op == 9 then out ||| 2 ^ n.x.toNat
  else bif n.op == 10 && euclN lg then out ||| 2 ^ i
  else out
def carryGo (lg : Int) (set : Nat) (agent : Int) : List Nd → Nat → Nat → Nat
  | [], _, out => out
  | n :: r, i, out => carryGo lg set agent r (i + 1) (carry1 lg set agent i n out)
def carryN (lg : Int) (base : List Nd) (set : Nat) (agent : Int) : Nat := carryGo lg set agent base 0 0
def knownN (lg : Int) : Bool := decide (0 ≤ lg) && decide (lg ≤ 6)
def CarryN (lg : Int) (base : List Nd) (set : Nat) (agent : Int) : Nat :=
  bif !knownN lg || (baseErr base != 0 || (!insideS base set || (decide (agent < 0) || decide (4 ≤ agent)))) then 0 else carryN lg base set agent
def opposedN (opps : List Int) (node other : Int) : Bool := decide (0 ≤ node) && (decide (node < opps.length) && (decide (0 ≤ other) && opps.getD node.toNat 0 == other))
def onN (base : List Nd) (x : Stp) (op : Int) : Bool := !(decide ((base.length : Int) ≤ x.on) || (!inS x.set x.on || (base.getD x.on.toNat Nd.zero).op != op))
def nodeOn (base : List Nd) (x : Stp) : Nd := base.getD x.on.toNat Nd.zero
def premGo (steps : List Stp) (at_ : Nat) : List Int → List Nat → Bool
  | [], [] => true
  | j :: r, s :: t => bif decide (j < 0) || (decide ((at_ : Int) ≤ j) || !subS (steps.getD j.toNat Stp.zero).set s) then false else premGo steps at_ r t
  | _, _ => false
/-- Exactly premises within the given sets. -/
def premN (steps : List Stp) (at_ : Nat) (sets : List Nat) : Bool := (steps.getD at_ Stp.zero).from_.length == sets.length && premGo steps at_ (steps.getD at_ Stp.zero).from_ sets
def closedN (base : List Nd) (opps : List Int) (steps : List Stp) (at_ : Nat) : Bool :=
  let x := steps.getD at_ Stp.zero
  bif onN base x 2 && x.e == 0 then premN steps at_ []
  else inS x.set x.on && (inS x.set x.e && (opposedN opps x.on x.e && premN steps at_ []))
def correctN (lg : Int) (base : List Nd) (opps : List Int) (steps : List Stp) (at_ : Nat) : Bool :=
  let x := steps.getD at_ Stp.zero
  let n := nodeOn base x
  bif !insideS base x.set then false
  else bif x.rule == 1 then closedN base opps steps at_
  else bif x.rule == 4 then decide (0 ≤ x.e) && (opposedN opps x.on x.e && premN steps at_ [x.set ||| 2 ^ x.on.toNat, x.set ||| 2 ^ x.e.toNat])
  else bif x.e != 0 then false
  else bif x.rule == 2 then onN base x 5 && premN steps at_ [x.set ||| 2 ^ n.x.toNat ||| 2 ^ n.y.toNat]
  else bif x.rule == 3 then onN base x 6 && premN steps at_ [x.set ||| 2 ^ n.x.toNat, x.set ||| 2 ^ n.y.toNat]
  else bif x.rule == 5 then onN base x 9 && ((lg == 2 || (lg == 4 || lg == 6)) && premN steps at_ [x.set ||| 2 ^ n.x.toNat])
  else bif x.rule == 6 then onN base x 10 && premN steps at_ [2 ^ n.x.toNat ||| carryN lg base x.set n.i]
  else bif x.rule == 7 then (lg == 1 || lg == 5) && (decide (0 ≤ x.on) && (decide (x.on < 4) && premN steps at_ [carryN lg base x.set x.on]))
  else false
def formS (lg : Int) (base : List Nd) (steps : List Stp) : Int :=
  bif !knownN lg then 2 else bif baseErr base != 0 then baseErr base else bif decide (steps.length = 0) || decide (4096 < steps.length) then 3 else 0
def brokenGo (lg : Int) (base : List Nd) (opps : List Int) (steps : List Stp) : Nat → Nat → Int
  | 0, _ => -1
  | k + 1, i => bif correctN lg base opps steps i then brokenGo lg base opps steps k (i + 1) else i
def brokenS (lg : Int) (base : List Nd) (steps : List Stp) : Int :=
  bif formS lg base steps != 0 then -1 else brokenGo lg base (oppsN base) steps steps.length 0
def checkS (lg : Int) (base : List Nd) (steps : List Stp) : Int :=
  bif formS lg base steps != 0 then formS lg base steps else bif decide (0 ≤ brokenS lg base steps) then 13 else 0
def refutedS (lg : Int) (base : List Nd) (steps : List Stp) : List (List Nd) × Int :=
  bif checkS lg base steps != 0 then ([], checkS lg base steps)
  else (((List.range base.length).filter fun (i : Nat) => inS (steps.getLastD Stp.zero).set i).map fun (i : Nat) => subN base i, 0)
def provesS (lg : Int) (base : List Nd) (steps : List Stp) (f : List Nd) : Int :=
  bif (refutedS lg base steps).2 != 0 then (refutedS lg base steps).2
  else bif check f != 0 then check f
  else bif decide (2 ≤ fragsN f) then 10
  else bif !decide ((refutedS lg base steps).1 = [oppN f]) then 13 else 0
end Go.Proofs.YtbfeodammikajaaGreat

/- The elimination of types as Lean functions on lists of nodes and on tables. -/

namespace Go.Proofs.YtbfeodammikajaaGreat

def everyL (g : Int) (a : List Nd) : List (List Nd) := ((List.range 4).filter fun i => gbit g i).map fun (i : Nat) => knowN (i : Int) a
/-- The conjunction of formulas. -/
def conjN (e : List Nd) : List (List Nd) → List Nd
  | [] => e
  | f :: r => r.foldl andN (compactN f)
def allN (l : List (List Nd)) : List Nd := conjN trueN l
/-- A node's expansion, from those of its operands. -/
def expS (x : Nd) (a b : List Nd) : List Nd :=
  bif x.op == 1 then trueN else bif x.op == 2 then falseN else bif x.op == 3 then factN x.i else bif x.op == 4 then notN a
  else bif x.op == 9 then knowN x.i a else bif x.op == 10 then notN (knowN x.i (notN a))
  else bif x.op == 11 then allN (everyL x.g a)
  else bif x.op == 5 then andN a b else bif x.op == 6 then orN a b else bif x.op == 7 then impN a b else bif x.op == 8 then iffN a b else commonN x.g a b
def expGo : List Nd → List (List Nd) → Option (List (List Nd))
  | [], d => some d
  | x :: r, d => bif decide ((expS x (d.getD x.x.toNat []) (d.getD x.y.toNat [])).length = 0) then none else expGo r (d ++ [expS x (d.getD x.x.toNat []) (d.getD x.y.toNat [])])
def expandN (f : List Nd) : List Nd := match expGo (compactN f) [] with | none => [] | some d => d.getLastD []
def isBase (n : Nd) : Bool := n.op == 3 || (n.op == 9 || n.op == 13)
/-- What an agent knows if c is common knowledge. -/
def unfN (i : Nat) (c : List Nd) : List Nd := knowN (i : Int) (impN (subN c (lastN c).x) (andN (subN c (lastN c).y) c))
def subsN (f : List Nd) : List (List Nd) := formulasN (compactN f)
def base0 (g : List Nd) : List (List Nd) := (subsN g).filter fun s => isBase (lastN s)
def unfsN (c : List Nd) : List (List Nd) := bif (lastN c).op == 13 then ((List.range 4).filter fun i => gbit (lastN c).g i).map fun i => unfN i c else []
def addF (l : List (List Nd)) (g : List Nd) : List (List Nd) := bif decide (placeN l g < 0) then l ++ [g] else l
def baseOfN (g : List Nd) : List (List Nd) × Int :=
  bif ((base0 g).flatMap unfsN).any (fun u => decide (u.length = 0)) || decide (12 < (((base0 g).flatMap unfsN).foldl addF (base0 g)).length) then ([], 8)
  else (((base0 g).flatMap unfsN).foldl addF (base0 g), 0)
def langBad (f : List Nd) : Bool := (fragsN f &&& 500) != 0
/-- The base of a formula, or the error. -/
def baseN (f : List Nd) : List (List Nd) × Int :=
  bif check f != 0 then ([], check f) else bif langBad f then ([], 10) else bif decide ((expandN f).length = 0) then ([], 8) else baseOfN (expandN f)

def placesN (base : List (List Nd)) (f : List Nd) : List Int := (List.range f.length).map fun (i : Nat) => bif isBase (f.getD i Nd.zero) then placeN base (subN f (i : Int)) else -1
def atStep (n : Nd) (k : Int) (t : Nat) (v : List Bool) : Bool :=
  bif decide (0 ≤ k) then t.testBit k.toNat
  else bif n.op == 1 then true
  else bif n.op == 4 then !v.getD n.x.toNat false
  else bif n.op == 5 then v.getD n.x.toNat false && v.getD n.y.toNat false
  else bif n.op == 6 then v.getD n.x.toNat false || v.getD n.y.toNat false
  else bif n.op == 7 then !v.getD n.x.toNat false || v.getD n.y.toNat false
  else bif n.op == 8 then v.getD n.x.toNat false == v.getD n.y.toNat false
  else false
def atGo (t : Nat) : List Nd → List Int → List Bool → List Bool
  | n :: r, k :: s, v => atGo t r s (v ++ [atStep n k t v])
  | _, _, v => v
/-- The truth of a formula at a type. -/
def atN (f : List Nd) (ps : List Int) (t : Nat) : Bool := (atGo t f ps []).getLastD false
def tabN (base : List (List Nd)) (f : List Nd) : List Bool := (List.range (2 ^ base.length)).map fun t => atN f (placesN base f) t

structure Kn where
  agent : Int
  place : Nat
  holds : List Bool
structure Cm where
  place : Nat
  group : Int
  x : List Bool
  y : List Bool
  parts : Nat
def partsN (base : List (List Nd)) (g : List Nd) : Nat := ((List.range 4).filter fun i => gbit (lastN g).g i).foldl (fun p i => p ||| 2 ^ (placeN base (unfN i g)).toNat) 0
def knOf (base : List (List Nd)) (g : List Nd) (i : Nat) : List Kn := bif (lastN g).op == 9 then [⟨(lastN g).i, i, tabN base (subN g (lastN g).x)⟩] else []
def cmOf (base : List (List Nd)) (g : List Nd) (i : Nat) : List Cm := bif (lastN g).op == 13 then [⟨i, (lastN g).g, tabN base (subN g (lastN g).x), tabN base (subN g (lastN g).y), partsN base g⟩] else []
def knowsN (base : List (List Nd)) : List Kn := (List.range base.length).flatMap fun i => knOf base (base.getD i []) i
def commsN (base : List (List Nd)) : List Cm := (List.range base.length).flatMap fun i => cmOf base (base.getD i []) i
def reflN (lg : Int) : Bool := lg == 2 || (lg == 4 || lg == 6)
def coherentN (lg : Int) (ks : List Kn) (cs : List Cm) (t : Nat) : Bool :=
  cs.all (fun c => t.testBit c.place == ((t &&& c.parts) == c.parts)) && ks.all (fun k => !(reflN lg && (t.testBit k.place && !k.holds.getD t false)))
def possibleN (lg : Int) (ks : List Kn) (a : Int) (t u : Nat) : Bool := ks.all fun k => k.agent != a || condL lg (t.testBit k.place) (k.holds.getD u false) (u.testBit k.place)
def nextP (lg : Int) (ks : List Kn) (alive : List Bool) (a : Int) (t : Nat) (wanted : Nat → Bool) (u : Nat) : Bool := alive.getD u false && (wanted u && possibleN lg ks a t u)
def nextN (lg : Int) (ks : List Kn) (alive : List Bool) (a : Int) (t : Nat) (wanted : Nat → Bool) : Int := match (List.range alive.length).find? (nextP lg ks alive a t wanted) with | none => -1 | some u => u
def stepB (lg : Int) (ks : List Kn) (alive : List Bool) (c : Cm) (t u : Nat) : Bool := alive.getD u false && (c.x.getD u false && (List.range 4).any fun (a : Nat) => gbit c.group a && possibleN lg ks (a : Int) t u)
open Classical in
/-- A path leads to a type at which common knowledge fails. -/
noncomputable def pathN (lg : Int) (ks : List Kn) (alive : List Bool) (c : Cm) (t : Nat) : Bool := decide (∃ u, Rch (fun a b => stepB lg ks alive c a b = true) t u ∧ c.y.getD u false = false)
noncomputable def lacksN (lg : Int) (ks : List Kn) (cs : List Cm) (alive : List Bool) (t : Nat) (num : Int) : Bool :=
  bif decide (num < 0) then (lg == 1 || lg == 5) && (ks.any (fun k => k.agent == -1 - num) && decide (nextN lg ks alive (-1 - num) t (fun _ => true) < 0))
  else match ks.find? (fun k => (k.place : Int) == num) with
    | some k => !t.testBit num.toNat && decide (nextN lg ks alive k.agent t (fun u => !k.holds.getD u false) < 0)
    | none => match cs.find? (fun c => (c.place : Int) == num) with
      | some c => !t.testBit num.toNat && !pathN lg ks alive c t
      | none => false
def satisfiedN (alive root : List Bool) : Bool := (List.range alive.length).any fun t => alive.getD t false && root.getD t false
/-- The first number that a type lacks. -/
noncomputable def whyN (lg : Int) (ks : List Kn) (cs : List Cm) (m : Nat) (alive : List Bool) (t : Nat) : Option Int :=
  ((List.range (m + 4)).map fun (j : Nat) => (j : Int) - 4).find? fun i => lacksN lg ks cs alive t i
def passG (why : List Bool → Nat → Option Int) : List Nat → List Bool × List (Nat × Int) → List Bool × List (Nat × Int)
  | [], s => s
  | t :: r, s => passG why r (bif s.1.getD t false then (match why s.1 t with | none => s | some i => (s.1.set t false, s.2 ++ [(t, i)])) else s)
def elimG (why : List Bool → Nat → Option Int) : Nat → List Bool × List (Nat × Int) → List Bool × List (Nat × Int)
  | 0, s => s
  | k + 1, s => bif (passG why (List.range s.1.length) s).2.length == s.2.length then s else elimG why k (passG why (List.range s.1.length) s)
noncomputable def elimN (lg : Int) (ks : List Kn) (cs : List Cm) (m : Nat) (alive : List Bool) : List Bool × List (Nat × Int) := elimG (whyN lg ks cs m) (alive.length + 1) (alive, [])
def aliveN (lg : Int) (base : List (List Nd)) : List Bool := (List.range (2 ^ base.length)).map fun t => coherentN lg (knowsN base) (commsN base) t
/-- The error of the engine of a formula. -/
def engErr (lg : Int) (f : List Nd) : Int := bif decide (lg < 0) || decide (6 < lg) then 1 else (baseN f).2
noncomputable def endN (lg : Int) (f : List Nd) : List Bool × List (Nat × Int) := elimN lg (knowsN (baseN f).1) (commsN (baseN f).1) (baseN f).1.length (aliveN lg (baseN f).1)
def rootN (f : List Nd) : List Bool := tabN (baseN f).1 (expandN f)
noncomputable def leftN (lg : Int) (f : List Nd) : Bool := satisfiedN (endN lg f).1 (rootN f)
noncomputable def refErr (lg : Int) (f : List Nd) : Int := bif engErr lg f != 0 then engErr lg f else bif leftN lg f then 15 else 0
noncomputable def satN (lg : Int) (f : List Nd) : Bool × Int := bif engErr lg f != 0 then (false, engErr lg f) else (leftN lg f, 0)
def checkG (lk : List Bool → Nat → Int → Bool) : List Nat → List Int → List Bool → Option (List Bool)
  | t :: r, i :: s, al => bif decide (t < al.length) && (al.getD t false && lk al t i) then checkG lk r s (al.set t false) else none
  | _, _, al => some al
noncomputable def checkT (lg : Int) (f : List Nd) (ts : List Nat) (ws : List Int) : Int :=
  bif engErr lg f != 0 then engErr lg f else bif ts.length != ws.length then 3
  else match checkG (lacksN lg (knowsN (baseN f).1) (commsN (baseN f).1)) ts ws (aliveN lg (baseN f).1) with
    | none => 13
    | some al => bif satisfiedN al (rootN f) then 13 else 0
end Go.Proofs.YtbfeodammikajaaGreat

/- Formulas in a row of the call's own. -/

namespace Go.Proofs.YtbfeodammikajaaGreat
open Go.RowKit

/-- A value's block is not the row's, and lies from m on. -/
def Away (m : Nat) (w : World) (vo u : Value) : Prop := ∀ g, u.ownBlock = some g → g < w.heap.size ∧ vo.ownBlock ≠ some g ∧ m ≤ g
theorem Away.ext {m : Nat} {w w' : World} {vo u : Value} (h : Away m w vo u) (he : Ext w w') : Away m w' vo u := fun g hg => ⟨Nat.lt_of_lt_of_le (h g hg).1 he.size, (h g hg).2⟩
theorem tInfoF2 : (Tryz.prog.info? 22).map (fun i => (i.zero, i.size, i.bytes)) = some (some (.slice none 0 0), 1, 24) := by kernel_rfl
theorem Nds.keepF {w w' : World} {v : Value} {l : List Nd} (h : Nds w v l) (hb : ∀ g, v.ownBlock = some g → g < w.heap.size → w'.heap[g]? = w.heap[g]?) (hs : w.heap.size ≤ w'.heap.size) : Nds w' v l := by
  obtain ⟨A, c, rfl, h1, h2, h3⟩ := h
  refine ⟨A, c, rfl, h1, h2, fun hn => ?_⟩
  obtain ⟨ad, rfl, hlt, hc⟩ := h3 hn
  refine ⟨ad, rfl, Nat.lt_of_lt_of_le hlt hs, fun k n hk => (hc k n hk).keep fun p hp => World.cell?_of_block ?_⟩
  rw [hp, block_of_add]
  exact hb ad.block rfl hlt
/-- Formulas in a row of the call's own. -/
structure FRow (w0 w : World) (vo : Value) (out : List (List Nd)) : Prop where
  ext : Ext w0 w
  row : ∃ us, w.ownsRow w0.heap.size 22 1 vo out.length us ∧ ∀ (k : Nat) (s : List Nd), out[k]? = some s → ∃ u, us[k]? = some u ∧ Fml w u s ∧ Away w0.heap.size w vo u
theorem FRow.ext_ {w0 w w' : World} {vo : Value} {out : List (List Nd)} (h : FRow w0 w vo out) (he : Ext w w') : FRow w0 w' vo out := by
  obtain ⟨us, hr, hu⟩ := h.row
  refine ⟨h.ext.trans he, us, row_ext hr he, fun k s hk => ?_⟩
  obtain ⟨u, a, b, c⟩ := hu k s hk
  exact ⟨u, a, b.ext he, c.ext he⟩
theorem FRow.nil (w : World) : FRow w w (.slice none 0 0) [] := ⟨Ext.refl _, [], World.ownsRow_nil _ _ _ _, fun k s h => by simp at h⟩
theorem row1_cellsF {w : World} {base n : Nat} {t : TypeId} {v : Value} {us : List Value} (h : w.ownsRow base t 1 v n us) (hn : 0 < n) :
    ∃ g cap, v = .slice (some ⟨g, 0, none⟩) n cap ∧ g < w.heap.size ∧ n ≤ cap ∧ cap ≤ maxLen ∧ ∀ i z, us[i]? = some z → w.cell? ⟨g, i, none⟩ = some z := by
  rcases h.2 with ⟨_, h0⟩ | ⟨g, cap, cur, rfl, _, hg, hnc, hm, hs, ht⟩
  · omega
  · refine ⟨g, cap, rfl, lt_heap hg, hnc, hm, fun i z h1 => ?_⟩
    rw [← ht, List.getElem?_take] at h1
    split at h1
    · have h2 : cur[i]? = some z := by simpa using h1
      simp [World.cell?, hg, h2]
    · cases h1
/-- What lies in the row lies in blocks of the call's own: so it stays where these blocks stay. -/
theorem FRow.keep {w0 w w' : World} {vo : Value} {out : List (List Nd)} (h : FRow w0 w vo out) (hb : ∀ g, w0.heap.size ≤ g → g < w.heap.size → w'.heap[g]? = w.heap[g]?) (hs : w.heap.size ≤ w'.heap.size) (he : Ext w0 w') : FRow w0 w' vo out := by
  obtain ⟨us, hr, hu⟩ := h.row
  refine ⟨he, us, ⟨hr.1, ?_⟩, fun k s hk => ?_⟩
  · rcases hr.2 with h0 | ⟨g, cap, cur, e, h1, h2, h3, h4, h5, h6⟩
    · exact .inl h0
    · exact .inr ⟨g, cap, cur, e, h1, (hb g h1 (lt_heap h2)).trans h2, h3, h4, h5, h6⟩
  · obtain ⟨u, a, b, c⟩ := hu k s hk
    exact ⟨u, a, ⟨b.1.keepF (fun g hg _ => hb g (c g hg).2.2 (c g hg).1) hs, b.2⟩, fun g hg => ⟨Nat.lt_of_lt_of_le (c g hg).1 hs, (c g hg).2⟩⟩
theorem FRow.fmls {w0 w : World} {vo : Value} {out : List (List Nd)} (h : FRow w0 w vo out) : Fmls w vo out := by
  obtain ⟨ss, hs, hv⟩ := h.row
  by_cases h0 : 0 < out.length
  · obtain ⟨g, cap, rfl, hg, h1, h2, hc⟩ := row1_cellsF hs h0
    refine ⟨_, cap, rfl, h1, h2, fun _ => ⟨_, rfl, hg, fun k f hk => ?_⟩⟩
    obtain ⟨u, a, b, _⟩ := hv k f hk
    exact ⟨u, by rw [addr_zero]; exact hc k u a, b⟩
  · have e : out = [] := List.length_eq_zero_iff.1 (by omega)
    subst e
    obtain ⟨A, c, rfl⟩ := slice_of_row hs
    rcases hs.2 with ⟨e, _⟩ | ⟨g, cap, cur, e, _, _, hn, hm, _⟩
    · injection e with e1 _ e2
      subst e1 e2
      exact ⟨_, _, rfl, Nat.le_refl _, by unfold maxLen; omega, fun h => absurd rfl h⟩
    · injection e with e1 _ e2
      subst e1 e2
      exact ⟨_, _, rfl, Nat.zero_le _, hm, fun h => absurd rfl h⟩
theorem FRow.push {w0 W w4 : World} {vo v' x : Value} {out : List (List Nd)} {s : List Nd} {ss : List Value} (he : Ext w0 W) (hs : W.ownsRow w0.heap.size 22 1 vo out.length ss) (hv : ∀ (k : Nat) (s : List Nd), out[k]? = some s → ∃ u, ss[k]? = some u ∧ Fml W u s ∧ Away w0.heap.size W vo u)
    (hrow : w4.ownsRow w0.heap.size 22 1 v' (out.length + 1) (ss ++ [x])) (hg : W.grownBy w4 vo.ownBlock) (hat : v'.ownBlock = vo.ownBlock ∨ v'.ownBlock = some W.heap.size) (hx : Fml W x s) (hxf : Away w0.heap.size W vo x) :
    FRow w0 w4 v' (out ++ [s]) := by
  have hlen : ss.length = out.length := by simpa using hs.1
  have hkeep : ∀ g, g < W.heap.size → vo.ownBlock ≠ some g → w4.heap[g]? = W.heap[g]? := fun g h1 h2 => hg.block g h1 (fun e => h2 e.symm)
  have haway : ∀ u, Away w0.heap.size W vo u → Away w0.heap.size w4 v' u := fun u hu g hgu => by
    obtain ⟨a, b, hm⟩ := hu g hgu
    refine ⟨Nat.lt_of_lt_of_le a hg.size, fun e => ?_, hm⟩
    rcases hat with e1 | e1
    · exact b (e1.symm.trans e)
    · rw [e1] at e; injection e with e; omega
  have hfml : ∀ u s, Away w0.heap.size W vo u → Fml W u s → Fml w4 u s := fun u s ha hi => ⟨hi.1.keepF (fun g hg' _ => hkeep g (ha g hg').1 (ha g hg').2.1) hg.size, hi.2⟩
  refine ⟨he.grown hg (fun g hg' => (hs.lt g hg').1), ss ++ [x], by rw [List.length_append]; exact hrow, fun k s' hk => ?_⟩
  by_cases hk' : k < out.length
  · rw [List.getElem?_append_left hk'] at hk
    obtain ⟨u, a, b, c⟩ := hv k s' hk
    exact ⟨u, by rw [List.getElem?_append_left (by omega)]; exact a, hfml u s' c b, haway u c⟩
  · rw [List.getElem?_append_right (by omega)] at hk
    have hk0 : k = out.length := by
      by_cases e : k - out.length = 0
      · omega
      · rw [List.getElem?_eq_none (by simp; omega)] at hk; cases hk
    subst hk0
    simp at hk
    subst hk
    exact ⟨x, by rw [List.getElem?_append_right (by omega), hlen]; simp, hfml x _ hxf hx, haway x hxf⟩
theorem made_away {w W : World} {vo x : Value} {B n k : Nat} {us zs : List Value} {e : TypeId} {sz m : Nat} (hB : w.heap.size ≤ B) (hx : W.ownsRow B e sz x n zs) (hs : w.ownsRow m 22 1 vo k us) (hm : m ≤ w.heap.size) : Away m W vo x := fun g hg => by
  obtain ⟨h1, h2⟩ := hx.lt g hg
  exact ⟨h2, fun e => by have := (hs.lt g e).2; omega, by omega⟩
end Go.Proofs.YtbfeodammikajaaGreat

/- slices.IndexFunc at lists of nodes with a test of any function. -/

namespace Go.Proofs.YtbfeodammikajaaGreat
open Go.RowKit

/-- The first place at which a test holds, or -1. -/
def findN (p : List Nd → Bool) (l : List (List Nd)) : Int := match l.findIdx? p with | none => -1 | some j => j
theorem findIdx_hit (p : List Nd → Bool) : ∀ (l : List (List Nd)) (k : Nat) (s : List Nd), l[k]? = some s → p s = true → (∀ t ∈ l.take k, p t = false) → l.findIdx? p = some k
  | [], k, s, h, _, _ => by simp at h
  | a :: r, 0, s, h, hp, _ => by
    simp only [List.getElem?_cons_zero, Option.some.injEq] at h
    subst h
    rw [List.findIdx?_cons, hp]
    rfl
  | a :: r, k + 1, s, h, hp, hn => by
    have ha : p a = false := hn a (by simp)
    rw [List.findIdx?_cons, ha, findIdx_hit p r k s (by simpa using h) hp (fun t ht => hn t (by simp [ht]))]
    rfl
theorem findIdx_miss (p : List Nd → Bool) : ∀ (l : List (List Nd)), (∀ t ∈ l, p t = false) → l.findIdx? p = none
  | [], _ => by simp
  | a :: r, hn => by
    rw [List.findIdx?_cons, hn a (by simp), findIdx_miss p r (fun t ht => hn t (by simp [ht]))]
    rfl
set_option maxRecDepth 100000 in
set_option maxHeartbeats 4000000 in
theorem indexF_any (g : Nat) (lb : Array Value) (eg : ∀ args w, (callFunc g args).run Tryz.prog w = .ok (.enter g args) w) (p : List Nd → Bool) (v : Value) (l : List (List Nd)) (w : World) (h : Fmls w v l)
    (hp : ∀ (W : World) (u : Value) (s : List Nd), Ext w W → Fml W u s → Calls Tryz.prog g (#[u] ++ lb) W fun e w' => e = .returned (.bool (p s)) ∧ Ext W w') :
    Calls Tryz.prog 129 #[v, .func (.func g) #[] lb] w fun e w' => e = .returned (.int .i64 (findN p l)) ∧ Ext w w' := by
  obtain ⟨A, c, rfl, hcap, hmax, hr⟩ := h
  unfold maxLen at hmax
  have HR := Lib.hid hr
  have HP := Lib.hid hp
  clear hr hp
  go_enter Tryz.func129, Tryz.ntmps129
  go_wp2_with fail
  go_loopw [5, 8] (fun _ i wr => ∃ k : Nat, k ≤ l.length ∧ i = .int .i64 (k : Int) ∧ Hid (∀ t ∈ l.take k, p t = false) ∧ Hid (Ext w wr)) (fun _ i _ => l.length - (intOf i).toNat)
  case atStart => exact ⟨0, Nat.zero_le _, rfl, Lib.hid (by simp), Lib.hid (Ext.refl _)⟩
  case round =>
    obtain ⟨k, hk, rfl, HNI, HX⟩ := hrel
    by_cases hlt2 : k < l.length
    · obtain ⟨s, hs⟩ : ∃ s, l[k]? = some s := ⟨_, List.getElem?_eq_getElem hlt2⟩
      obtain ⟨ad, rfl, hb1, hc1⟩ := HR.out (by intro e; rw [e] at hlt2; simp at hlt2)
      obtain ⟨u, hu, hf⟩ := hc1 k s hs
      have a0 := (HX.out.cell (p := ad.add k) (by rw [block_of_add]; exact hb1)).trans hu
      have HF := Lib.hid (hf.ext HX.out)
      have HA := Lib.hid hs
      have hk1 : (k : Int) < (l.length : Int) := by omega
      clear hs hc1 hf hu
      cases hps : p s
      · have HT : Hid (∀ t ∈ l.take (k + 1), p t = false) := Lib.hid (by
          rw [take_succ_eq HA.out]
          intro t ht
          rcases List.mem_append.1 ht with ht | ht
          · exact HNI.out t ht
          · rw [List.mem_singleton.1 ht]; exact hps)
        go_wp2_with (refine (HP.out _ u s (by exact HX.out.trans (by repeat (first | exact Ext.refl _ | assumption | apply Ext.alloc | apply Ext.drew))) (by exact HF.out.ext (by repeat (first | exact Ext.refl _ | assumption | apply Ext.alloc | apply Ext.drew)))).mono ?_; rintro e w1 ⟨rfl, hx⟩; rw [hps])
        go_roundw
        case rel => exact ⟨k + 1, by omega, by go_num, HT, Lib.hid (HX.out.trans (by first | exact hx | exact Ext.trans (by repeat (first | exact Ext.refl _ | assumption | apply Ext.alloc | apply Ext.drew)) hx))⟩
        case measure => simp [intOf]; omega
      · have HE := Lib.hid (show findN p l = (k : Int) by unfold findN; rw [findIdx_hit p l k s HA.out hps HNI.out])
        go_wp2_with (refine (HP.out _ u s (by exact HX.out.trans (by repeat (first | exact Ext.refl _ | assumption | apply Ext.alloc | apply Ext.drew))) (by exact HF.out.ext (by repeat (first | exact Ext.refl _ | assumption | apply Ext.alloc | apply Ext.drew)))).mono ?_; rintro e w1 ⟨rfl, hx⟩; rw [hps])
        go_ret
        exact ⟨by rw [HE.out] <;> rfl, HX.out.trans (by first | exact hx | exact Ext.trans (by repeat (first | exact Ext.refl _ | assumption | apply Ext.alloc | apply Ext.drew)) hx)⟩
    · obtain rfl : l.length = k := by omega
      have HE := Lib.hid (show findN p l = -1 by
        unfold findN
        rw [findIdx_miss p l (fun t ht => HNI.out t (by rw [List.take_of_length_le (Nat.le_refl _)]; exact ht))])
      go_wp2_with fail
      go_ret
      exact ⟨by rw [HE.out] <;> rfl, HX.out⟩
end Go.Proofs.YtbfeodammikajaaGreat

/- Slices of bools; the engine of types in memory. -/

namespace Go.Proofs.YtbfeodammikajaaGreat
open Go.RowKit

def BoolsAt (w : World) (A : Option Addr) (c : Nat) (l : List Bool) : Prop :=
  l.length ≤ c ∧ c ≤ maxLen ∧ (l ≠ [] → ∃ ad, A = some ad ∧ ad.block < w.heap.size ∧ ∀ k z, l[k]? = some z → w.cell? (ad.add k) = some (.bool z))
def Bools (w : World) (v : Value) (l : List Bool) : Prop := ∃ A c, v = .slice A l.length c ∧ BoolsAt w A c l
section
variable {w w' : World} {v : Value}
theorem BoolsAt.ext {A : Option Addr} {c : Nat} {l : List Bool} (h : BoolsAt w A c l) (he : Ext w w') : BoolsAt w' A c l :=
  ⟨h.1, h.2.1, fun hn => by
    obtain ⟨ad, e, hlt, hc⟩ := h.2.2 hn
    exact ⟨ad, e, Nat.lt_of_lt_of_le hlt he.size, fun k z hk => (he.cell (by rw [block_of_add]; exact hlt)).trans (hc k z hk)⟩⟩
theorem Bools.ext {l : List Bool} (h : Bools w v l) (he : Ext w w') : Bools w' v l := by
  obtain ⟨A, c, e, h⟩ := h
  exact ⟨A, c, e, h.ext he⟩
end
/-- A row of bools that the call has made. -/
def BRow (base : Nat) (w : World) (g : Nat) (l : List Bool) : Prop := w.ownsRow base 4 1 (.slice (some ⟨g, 0, none⟩) l.length l.length) l.length (l.map Value.bool)
section
variable {base : Nat} {w w' : World} {g : Nat} {l : List Bool}
theorem BRow.cell (h : BRow base w g l) {j : Nat} {b : Bool} (hj : l[j]? = some b) : w.cell? ⟨g, j, none⟩ = some (.bool b) := by
  have hl := (List.getElem?_eq_some_iff.1 hj).1
  rw [World.ownsRow.cellAt h j (by omega), List.getElem?_map, hj]
  rfl
theorem BRow.frozen (h : BRow base w g l) (j : Nat) : w.frozen? ⟨g, j, none⟩ = false := World.ownsRow.frozenAt h j
theorem BRow.lt (h : BRow base w g l) : base ≤ g ∧ g < w.heap.size := World.ownsRow.lt h g rfl
theorem BRow.set (h : BRow base w g l) (j : Nat) (b : Bool) : BRow base (w.setCell ⟨g, j, none⟩ (.bool b)) g (l.set j b) ∧ w.grownBy (w.setCell ⟨g, j, none⟩ (.bool b)) (some g) := by
  obtain ⟨h1, h2⟩ := World.ownsRow.stored h j (.bool b)
  refine ⟨?_, h2⟩
  unfold BRow
  rw [List.length_set, ← List.map_set] at *
  exact h1
theorem BRow.ext (h : BRow base w g l) (he : Ext w w') : BRow base w' g l := row_ext h he
theorem BRow.base_ {b' : Nat} (h : BRow base w g l) (hb : b' ≤ base) : BRow b' w g l := row_base h hb
theorem BRow.bools (h : BRow base w g l) : Bools w (.slice (some ⟨g, 0, none⟩) l.length l.length) l := by
  refine ⟨_, _, rfl, Nat.le_refl _, ?_, fun hn => ⟨_, rfl, h.lt.2, fun k z hk => ?_⟩⟩
  · have h2 := h.2
    rcases h2 with ⟨e, _⟩ | ⟨g', cap, cur, e, _, _, _, hm, _⟩
    · cases e
    · injection e with _ _ e
      rw [e]; exact hm
  · rw [addr_zero]
    exact h.cell hk
end
theorem made_false (n : Nat) : (madeCells (Value.cells (.bool false)) (n * 1)).toList = (List.replicate n false).map Value.bool := by
  simp only [madeCells, Value.cells, Nat.mul_one, Array.toList_map, Array.toList_range, List.map_replicate]
  refine List.ext_getElem (by simp) fun i h1 h2 => ?_
  simp [Nat.mod_one]
end Go.Proofs.YtbfeodammikajaaGreat

/- Cells of small blocks. -/

namespace Go.Proofs.YtbfeodammikajaaGreat
open Go.RowKit

theorem cells2 {w : World} {b : Nat} {a0 a1 : Value} {t : TypeId} (h : w.heap[b]? = some (.cells #[a0, a1] t (0, 0))) :
    w.cell? ⟨b, 0, none⟩ = some a0 ∧ w.cell? ⟨b, 1, none⟩ = some a1 ∧ (∀ j, w.frozen? ⟨b, j, none⟩ = false) ∧ b < w.heap.size :=
  ⟨by simp [World.cell?, h], by simp [World.cell?, h], fun j => by simp [World.frozen?, h], lt_heap h⟩

theorem set_first {w : World} {b : Nat} {a0 a1 : Value} {t : TypeId} (h : w.heap[b]? = some (.cells #[a0, a1] t (0, 0))) (u : Value) : (w.setCell ⟨b, 0, none⟩ u).heap[b]? = some (.cells #[u, a1] t (0, 0)) := by
  simp only [World.setCell, Array.getElem?_modify, h, if_true, Option.map_some]
  simp
theorem set_second {w : World} {b : Nat} {a0 a1 : Value} {t : TypeId} (h : w.heap[b]? = some (.cells #[a0, a1] t (0, 0))) (u : Value) : (w.setCell ⟨b, 1, none⟩ u).heap[b]? = some (.cells #[a0, u] t (0, 0)) := by
  simp only [World.setCell, Array.getElem?_modify, h, if_true, Option.map_some]
  simp

theorem tInfo3 : (Tryz.prog.info? 3).map (fun i => (i.zero, i.size, i.bytes)) = some (some (.int .i64 0), 1, 8) := by kernel_rfl

end Go.Proofs.YtbfeodammikajaaGreat

/- The engine of types in memory: what its methods read. -/

namespace Go.Proofs.YtbfeodammikajaaGreat
open Go.RowKit

/-- A base formula of knowledge, at an address. -/
def KnAt (w : World) (a : Addr) (k : Kn) : Prop :=
  ∃ vh, w.cell? a = some (.int .i64 k.agent) ∧ w.cell? ⟨a.block, a.off + 1, none⟩ = some (.int .i64 (k.place : Int)) ∧ w.cell? ⟨a.block, a.off + 2, none⟩ = some vh ∧ Bools w vh k.holds
def KnsAt (w : World) (A : Option Addr) (c : Nat) (l : List Kn) : Prop :=
  l.length ≤ c ∧ c ≤ maxLen ∧ (l ≠ [] → ∃ ad, A = some ad ∧ ad.block < w.heap.size ∧ ∀ k n, l[k]? = some n → KnAt w (ad.add (k * 3)) n)
def Kns (w : World) (v : Value) (l : List Kn) : Prop := ∃ A c, v = .slice A l.length c ∧ KnsAt w A c l
def CmAt (w : World) (a : Addr) (k : Cm) : Prop :=
  ∃ vx vy, w.cell? a = some (.int .i64 (k.place : Int)) ∧ w.cell? ⟨a.block, a.off + 1, none⟩ = some (.int .i64 k.group) ∧ w.cell? ⟨a.block, a.off + 2, none⟩ = some vx ∧ w.cell? ⟨a.block, a.off + 3, none⟩ = some vy ∧
    w.cell? ⟨a.block, a.off + 4, none⟩ = some (.int .u64 (k.parts : Int)) ∧ Bools w vx k.x ∧ Bools w vy k.y
def CmsAt (w : World) (A : Option Addr) (c : Nat) (l : List Cm) : Prop :=
  l.length ≤ c ∧ c ≤ maxLen ∧ (l ≠ [] → ∃ ad, A = some ad ∧ ad.block < w.heap.size ∧ ∀ k n, l[k]? = some n → CmAt w (ad.add (k * 5)) n)
def Cms (w : World) (v : Value) (l : List Cm) : Prop := ∃ A c, v = .slice A l.length c ∧ CmsAt w A c l
section
variable {w w' : World} {v : Value} {a : Addr}
theorem KnAt.ext {k : Kn} (h : KnAt w a k) (he : Ext w w') (ha : a.block < w.heap.size) : KnAt w' a k := by
  obtain ⟨vh, h0, h1, h2, h3⟩ := h
  have hk : ∀ o s, w'.cell? ⟨a.block, o, s⟩ = w.cell? ⟨a.block, o, s⟩ := fun o s => he.cell (p := ⟨a.block, o, s⟩) ha
  exact ⟨vh, (hk _ _).trans h0, (hk _ _).trans h1, (hk _ _).trans h2, h3.ext he⟩
theorem CmAt.ext {k : Cm} (h : CmAt w a k) (he : Ext w w') (ha : a.block < w.heap.size) : CmAt w' a k := by
  obtain ⟨vx, vy, h0, h1, h2, h3, h4, h5, h6⟩ := h
  have hk : ∀ o s, w'.cell? ⟨a.block, o, s⟩ = w.cell? ⟨a.block, o, s⟩ := fun o s => he.cell (p := ⟨a.block, o, s⟩) ha
  exact ⟨vx, vy, (hk _ _).trans h0, (hk _ _).trans h1, (hk _ _).trans h2, (hk _ _).trans h3, (hk _ _).trans h4, h5.ext he, h6.ext he⟩
theorem KnsAt.ext {A : Option Addr} {c : Nat} {l : List Kn} (h : KnsAt w A c l) (he : Ext w w') : KnsAt w' A c l :=
  ⟨h.1, h.2.1, fun hn => by
    obtain ⟨ad, e, hlt, hc⟩ := h.2.2 hn
    exact ⟨ad, e, Nat.lt_of_lt_of_le hlt he.size, fun k n hk => (hc k n hk).ext he (by rw [block_of_add]; exact hlt)⟩⟩
theorem CmsAt.ext {A : Option Addr} {c : Nat} {l : List Cm} (h : CmsAt w A c l) (he : Ext w w') : CmsAt w' A c l :=
  ⟨h.1, h.2.1, fun hn => by
    obtain ⟨ad, e, hlt, hc⟩ := h.2.2 hn
    exact ⟨ad, e, Nat.lt_of_lt_of_le hlt he.size, fun k n hk => (hc k n hk).ext he (by rw [block_of_add]; exact hlt)⟩⟩
theorem Kns.ext {l : List Kn} (h : Kns w v l) (he : Ext w w') : Kns w' v l := by
  obtain ⟨A, c, e, h⟩ := h
  exact ⟨A, c, e, h.ext he⟩
theorem Cms.ext {l : List Cm} (h : Cms w v l) (he : Ext w w') : Cms w' v l := by
  obtain ⟨A, c, e, h⟩ := h
  exact ⟨A, c, e, h.ext he⟩
end
/-- The engine behind a pointer to block b. -/
structure Eng (w : World) (b : Nat) (lg : Int) (base : List (List Nd)) (root : List Bool) (ks : List Kn) (cs : List Cm) (alive : List Bool) : Prop where
  all : ∃ vb vr vk vc va, w.heap[b]? = some (.cells #[.int .i64 lg, vb, vr, vk, vc, va] 74 (0, 0)) ∧ Fmls w vb base ∧ Bools w vr root ∧ Kns w vk ks ∧ Cms w vc cs ∧ Bools w va alive
section
variable {w w' : World} {b : Nat} {lg : Int} {base : List (List Nd)} {root : List Bool} {ks : List Kn} {cs : List Cm} {alive : List Bool}
theorem Eng.ext (h : Eng w b lg base root ks cs alive) (he : Ext w w') : Eng w' b lg base root ks cs alive := by
  obtain ⟨vb, vr, vk, vc, va, hb, h1, h2, h3, h4, h5⟩ := h.all
  exact ⟨vb, vr, vk, vc, va, (he.block (lt_heap hb)).trans hb, h1.ext he, h2.ext he, h3.ext he, h4.ext he, h5.ext he⟩
/-- What a walk reads of the engine. -/
theorem Eng.cells (h : Eng w b lg base root ks cs alive) : ∃ Ab cb Ar cr Ak ck Ac cc Aa ca, w.cell? ⟨b, 0, none⟩ = some (.int .i64 lg) ∧ w.cell? ⟨b, 1, none⟩ = some (.slice Ab base.length cb) ∧ w.cell? ⟨b, 2, none⟩ = some (.slice Ar root.length cr) ∧
    w.cell? ⟨b, 3, none⟩ = some (.slice Ak ks.length ck) ∧ w.cell? ⟨b, 4, none⟩ = some (.slice Ac cs.length cc) ∧ w.cell? ⟨b, 5, none⟩ = some (.slice Aa alive.length ca) ∧ b < w.heap.size ∧
    Fmls w (.slice Ab base.length cb) base ∧ BoolsAt w Ar cr root ∧ KnsAt w Ak ck ks ∧ CmsAt w Ac cc cs ∧ BoolsAt w Aa ca alive := by
  obtain ⟨vb, vr, vk, vc, va, hb, h1, ⟨Ar, cr, rfl, h2⟩, ⟨Ak, ck, rfl, h3⟩, ⟨Ac, cc, rfl, h4⟩, ⟨Aa, ca, rfl, h5⟩⟩ := h.all
  obtain ⟨⟨d0, d1, d2, d3, d4, d5⟩, _, hl⟩ := cells6 hb
  have h1' := h1
  obtain ⟨Ab, cb, rfl, _⟩ := h1
  exact ⟨Ab, cb, Ar, cr, Ak, ck, Ac, cc, Aa, ca, d0, d1, d2, d3, d4, d5, hl, h1', h2, h3, h4, h5⟩
end
/-- The sizes of an engine. -/
structure Fit2 (base : List (List Nd)) (root : List Bool) (ks : List Kn) (cs : List Cm) (alive : List Bool) : Prop where
  len : base.length ≤ 12
  m : alive.length = 2 ^ base.length
  root : root.length = 2 ^ base.length
  kn : ∀ k ∈ ks, k.place < base.length ∧ k.holds.length = 2 ^ base.length ∧ i64ok k.agent
  cm : ∀ c ∈ cs, c.place < base.length ∧ c.x.length = 2 ^ base.length ∧ c.y.length = 2 ^ base.length ∧ c.parts < 18446744073709551616 ∧ 0 ≤ c.group ∧ c.group < 16
  klen : ks.length ≤ 12
  clen : cs.length ≤ 12
theorem pow12 {n : Nat} (h : n ≤ 12) : 2 ^ n ≤ 4096 := Nat.pow_le_pow_right (by decide) h
end Go.Proofs.YtbfeodammikajaaGreat

/- types' reflexive, satisfied: the walks. -/

namespace Go.Proofs.YtbfeodammikajaaGreat
open Go.RowKit

theorem bools_get {w : World} {A : Option Addr} {c : Nat} {l : List Bool} (h : BoolsAt w A c l) {k : Nat} (hk : k < l.length) : ∃ ad, A = some ad ∧ ad.block < w.heap.size ∧ w.cell? (ad.add k) = some (.bool (l.getD k false)) := by
  obtain ⟨ad, e, hb, hc⟩ := h.2.2 (by intro e; rw [e] at hk; simp at hk)
  refine ⟨ad, e, hb, hc k _ ?_⟩
  rw [List.getD_eq_getElem?_getD, List.getElem?_eq_getElem hk]
  rfl
set_option maxRecDepth 100000 in
set_option maxHeartbeats 4000000 in
theorem reflexive_any (b : Nat) (lg : Int) (w : World) (d0 : w.cell? ⟨b, 0, none⟩ = some (.int .i64 lg)) :
    Calls Tryz.prog 132 #[.pointer (some ⟨b, 0, none⟩)] w fun e w' => e = .returned (.bool (reflN lg)) ∧ w = w' := by
  cases h2 : lg == 2
  · cases h4 : lg == 4
    · cases h6 : lg == 6
      · have HE := Lib.hid (show reflN lg = false by unfold reflN; rw [h2, h4, h6]; rfl)
        go_enter Tryz.func132, Tryz.ntmps132
        go_wp2_with fail
        go_ret
        exact ⟨by rw [HE.out] <;> rfl, rfl⟩
      · have HE := Lib.hid (show reflN lg = true by unfold reflN; rw [h2, h4, h6]; rfl)
        go_enter Tryz.func132, Tryz.ntmps132
        go_wp2_with fail
        go_ret
        exact ⟨by rw [HE.out] <;> rfl, rfl⟩
    · have HE := Lib.hid (show reflN lg = true by unfold reflN; rw [h2, h4]; rfl)
      go_enter Tryz.func132, Tryz.ntmps132
      go_wp2_with fail
      go_ret
      exact ⟨by rw [HE.out] <;> rfl, rfl⟩
  · have HE := Lib.hid (show reflN lg = true by unfold reflN; rw [h2]; rfl)
    go_enter Tryz.func132, Tryz.ntmps132
    go_wp2_with fail
    go_ret
    exact ⟨by rw [HE.out] <;> rfl, rfl⟩
theorem sat_hit {al rt : List Bool} {k : Nat} (hk : k < al.length) (h1 : al.getD k false = true) (h2 : rt.getD k false = true) : satisfiedN al rt = true := by
  unfold satisfiedN
  rw [List.any_eq_true]
  exact ⟨k, List.mem_range.2 hk, by rw [h1, h2]; rfl⟩
theorem sat_miss {al rt : List Bool} (h : ∀ k, k < al.length → (al.getD k false && rt.getD k false) = false) : satisfiedN al rt = false := by
  unfold satisfiedN
  rw [List.any_eq_false]
  intro k hk
  rw [h k (List.mem_range.1 hk)]
  simp
set_option maxRecDepth 100000 in
set_option maxHeartbeats 4000000 in
theorem satisfied_any (b : Nat) (lg : Int) (base : List (List Nd)) (root : List Bool) (ks : List Kn) (cs : List Cm) (alive : List Bool) (w : World)
    (hE : Eng w b lg base root ks cs alive) (hr : root.length = alive.length) :
    Calls Tryz.prog 35 #[.pointer (some ⟨b, 0, none⟩)] w fun e w' => e = .returned (.bool (satisfiedN alive root)) ∧ w = w' := by
  obtain ⟨Ab, cb, Ar, cr, Ak, ck, Ac, cc, Aa, ca, d0, d1, d2, d3, d4, d5, hbl, _, hroot, _, _, hal⟩ := hE.cells
  have HR := Lib.hid hroot
  have HA := Lib.hid hal
  have hac := hal.1
  have hca := hal.2.1
  have hrc := hroot.1
  have hcr := hroot.2.1
  unfold maxLen at hca hcr
  rw [hr] at d2 hrc
  have HRL := Lib.hid hr
  clear hE hroot hal hr d0 d1 d3 d4
  go_enter Tryz.func35, Tryz.ntmps35
  go_wp2_with fail
  go_loop [10] (fun v => ∃ k : Nat, v = .int .i64 (k : Int) ∧ k ≤ alive.length ∧ Hid (∀ j, j < k → (alive.getD j false && root.getD j false) = false)) (fun v => alive.length - (intOf v).toNat)
  case atStart => exact ⟨0, rfl, Nat.zero_le _, Lib.hid (fun j hj => absurd hj (by omega))⟩
  case round =>
    obtain ⟨k, rfl, hk, HREL⟩ := hrel
    by_cases hlt2 : k < alive.length
    · have hk1 : (k : Int) < (alive.length : Int) := by omega
      obtain ⟨ad, rfl, hb1, a0⟩ := bools_get HA.out hlt2
      obtain ⟨ar, rfl, hb2, r0⟩ := bools_get HR.out (show k < root.length by rw [HRL.out]; exact hlt2)
      cases ha : alive.getD k false
      · rw [ha] at a0
        have HN := Lib.hid (show ∀ j, j < k + 1 → (alive.getD j false && root.getD j false) = false from fun j hj => by
          by_cases e : j < k
          · exact HREL.out j e
          · have : j = k := by omega
            subst this
            rw [ha]; rfl)
        clear ha
        go_wp2_with fail
        go_round
        case rel => exact ⟨k + 1, by go_num, by omega, HN⟩
        case measure => simp [intOf]; omega
      · rw [ha] at a0
        cases hrt : root.getD k false
        · rw [hrt] at r0
          have HN := Lib.hid (show ∀ j, j < k + 1 → (alive.getD j false && root.getD j false) = false from fun j hj => by
            by_cases e : j < k
            · exact HREL.out j e
            · have : j = k := by omega
              subst this
              rw [ha, hrt]; rfl)
          clear ha hrt
          go_wp2_with fail
          go_round
          case rel => exact ⟨k + 1, by go_num, by omega, HN⟩
          case measure => simp [intOf]; omega
        · rw [hrt] at r0
          have HE := Lib.hid (sat_hit hlt2 ha hrt)
          clear ha hrt
          go_wp2_with fail
          go_ret
          exact ⟨by rw [HE.out] <;> rfl, rfl⟩
    · obtain rfl : alive.length = k := by omega
      have HE := Lib.hid (sat_miss HREL.out)
      go_wp2_with fail
      go_ret
      exact ⟨by rw [HE.out] <;> rfl, rfl⟩
end Go.Proofs.YtbfeodammikajaaGreat

/- Bits of words, as a walk shows them. -/

namespace Go.Proofs.YtbfeodammikajaaGreat
open Go.RowKit

theorem testBit_int (s k : Nat) : s.testBit k = (s / 2 ^ k % 2 == 1) := by
  rw [Nat.testBit_eq_decide_div_mod_eq]
  rfl
theorem shr_nat (s k : Nat) : (s : Int) / 2 ^ k = ((s / 2 ^ k : Nat) : Int) := by
  rw [show ((2 : Int) ^ k) = ((2 ^ k : Nat) : Int) by simp]
  rfl
theorem shr_and_one (s k : Nat) (hs : s < 18446744073709551616) : (bits .and .u64 ((s : Int) / 2 ^ k) 1 == 1) = s.testBit k := by
  have hlt : s / 2 ^ k < 18446744073709551616 := Nat.lt_of_le_of_lt (Nat.div_le_self _ _) hs
  rw [shr_nat, show (1 : Int) = ((1 : Nat) : Int) from rfl, bits_and_u64_nat _ 1 hlt (by decide), Nat.and_one_is_mod, testBit_int]
  generalize s / 2 ^ k % 2 = r
  rw [Bool.eq_iff_iff, beq_iff_eq, beq_iff_eq]
  omega
theorem i64_and_nat (a b : Nat) (ha : a < 9223372036854775808) (hb : b < 9223372036854775808) : bits .and .i64 (a : Int) (b : Int) = ((a &&& b : Nat) : Int) := by
  have hx : a &&& b < 2 ^ 63 := Nat.and_lt_two_pow _ (by omega)
  show IntKind.i64.wrap ((BitVec.ofInt 64 (a : Int) &&& BitVec.ofInt 64 (b : Int)).toNat : Int) = _
  rw [BitVec.toNat_and, ofInt_i64 a ha, ofInt_i64 b hb, IntKind.wrap_i64]
  omega
theorem shr_and_one_i (s k : Nat) (hs : s < 9223372036854775808) : (bits .and .i64 ((s : Int) / 2 ^ k) 1 == 1) = s.testBit k := by
  have hlt : s / 2 ^ k < 9223372036854775808 := Nat.lt_of_le_of_lt (Nat.div_le_self _ _) hs
  rw [shr_nat, show (1 : Int) = ((1 : Nat) : Int) from rfl, i64_and_nat _ 1 hlt (by decide), Nat.and_one_is_mod, testBit_int]
  generalize s / 2 ^ k % 2 = r
  rw [Bool.eq_iff_iff, beq_iff_eq, beq_iff_eq]
  omega
theorem shr_and_zero_i (s k : Nat) (hs : s < 9223372036854775808) : (bits .and .i64 ((s : Int) / 2 ^ k) 1 == 0) = !s.testBit k := by
  have hlt : s / 2 ^ k < 9223372036854775808 := Nat.lt_of_le_of_lt (Nat.div_le_self _ _) hs
  rw [shr_nat, show (1 : Int) = ((1 : Nat) : Int) from rfl, i64_and_nat _ 1 hlt (by decide), Nat.and_one_is_mod, testBit_int]
  rcases Nat.mod_two_eq_zero_or_one (s / 2 ^ k) with h | h <;> rw [h] <;> rfl
end Go.Proofs.YtbfeodammikajaaGreat

/- A region that draws its order and whose last operation writes what the others read: one condition on the world serves up to that operation. -/

namespace Go.Proofs.YtbfeodammikajaaGreat
open Go.RowKit

section
variable {P : Program} {ops : Array Oper} {Q : Exit → Act → World → Prop} {md : Region.Mode} {S : World → Prop} {z : Nat}

/-- Whatever order is picked; S holds behind each operation but number z. -/
def OrdU (P : Program) (md : Region.Mode) (ops : Array Oper) (Q : Exit → Act → World → Prop) (S : World → Prop) (z : Nat) : Nat → Array Bool → Act → World → Prop
  | 0, up, a, w => Region.ready md ops up = [] ∧ Q .normal a w
  | n + 1, up, a, w => (Region.ready md ops up = [] → Q .normal a w) ∧ ∀ i ∈ Region.ready md ops up, wpOp P ops Q i (fun b v => (i ≠ z → S v) ∧ OrdU P md ops Q S z n (up.setIfInBounds i true) b v) a w
theorem OrdU.any : ∀ (n : Nat) (up : Array Bool) (a : Act) (w : World), OrdU P md ops Q S z n up a w → wpAny P md ops Q n up a w
  | 0, _, _, _, h => h
  | n + 1, _, _, _, h => ⟨h.1, fun i hi => wpOp_mono (fun b v g => OrdU.any n _ b v g.2) (h.2 i hi)⟩
/-- Number z waits for number i. -/
def WaitsFor (md : Region.Mode) (ops : Array Oper) (z i : Nat) : Prop := ∀ o, ops[z]? = some o → ∃ e ∈ o.after, Region.binds md e = true ∧ e.on = i
theorem up_both {up : Array Bool} {i : Nat} (h0 : up.getD i true = false) (h1 : up.getD i false = true) : False := by
  rcases Nat.lt_or_ge i up.size with h' | h'
  · simp [h'] at h0 h1; rw [h0] at h1; cases h1
  · simp [Array.getElem?_eq_none h'] at h1
theorem OrdU.first {i : Nat} {oi : Oper} {v : Value} (hi : ops[i]? = some oi) (hsel : ∀ (j : Nat) (o : Oper) cs b, ops[j]? = some o → o.op ≠ .select cs b) (hQ : ∀ c a w, Q (.panic c) (a.put oi.dst v) w → Q (.panic c) a w)
    (hz : WaitsFor md ops z i) : ∀ (n : Nat) (up : Array Bool) (a : Act) (w : World),
      (∀ j oj, ops[j]? = some oj → j ≠ i → up.getD j true = false → (∀ e ∈ oj.after, Region.binds md e = true → e.on ≠ i) → oi.apart ops oj = true) →
      i ∈ Region.ready md ops up → YieldsIf P ops S oi v a → S w → OrdU P md ops Q S z n (up.setIfInBounds i true) (a.put oi.dst v) w → OrdU P md ops Q S z (n + 1) up a w
  | 0, up, a, w, _, hr, hy, hS, H => ⟨fun h => (by rw [h] at hr; cases hr), fun j hj => by
      by_cases e : j = i
      · subst e; exact hy.wpOp hi hS ⟨fun _ => hS, H⟩
      · have h2 := ready_mono hj e
        rw [H.1] at h2
        cases h2⟩
  | n + 1, up, a, w, hfree, hr, hy, hS, H => ⟨fun h => (by rw [h] at hr; cases hr), fun j hj => by
      by_cases e : j = i
      · subst e; exact hy.wpOp hi hS ⟨fun _ => hS, H⟩
      · obtain ⟨hjun, oj, hoj, hall⟩ := mem_ready.1 hj
        have hiun := (mem_ready.1 hr).1
        have hnot : ∀ e ∈ oj.after, Region.binds md e = true → e.on ≠ i := fun d hd hb hq => up_both hiun (by have := hall d hd hb; rwa [hq] at this)
        have hjz : j ≠ z := fun hjz => by
          subst hjz
          obtain ⟨d, hd, hb, hq⟩ := hz oj hoj
          exact hnot d hd hb hq
        have h2 := wpOp_putIf hoj (hfree j oj hoj e hjun hnot) (fun cs b => hsel i oi cs b hi) (fun cs b => hsel j oj cs b hoj) hQ hy (H.2 j (ready_mono hj e))
        refine wpOp_mono (fun b v h3 => ⟨h3.2.1, OrdU.first hi hsel hQ hz n (up.setIfInBounds j true) b v (fun k ok hk hki hun hno => hfree k ok hk hki ?_ hno) (ready_mono hr (Ne.symm e)) h3.1 (h3.2.1 hjz) ?_⟩) h2
        · by_cases hjk : j = k
          · subst hjk; exact hjun
          · rw [getD_set_ne true hjk] at hun; exact hun
        · rw [Array.setIfInBounds_comm _ _ e]
          exact h3.2.2⟩
def waitsB (md : Region.Mode) (ops : Array Oper) (z i : Nat) : Bool := match ops[z]? with | none => true | some o => o.after.any fun e => Region.binds md e && e.on == i
theorem waits_of {i : Nat} (h : waitsB md ops z i = true) : WaitsFor md ops z i := by
  intro o ho
  unfold waitsB at h
  rw [ho] at h
  simp only [Array.any_eq_true'] at h
  obtain ⟨e, he, hb⟩ := h
  rw [Bool.and_eq_true] at hb
  exact ⟨e, he, hb.1, eq_of_beq hb.2⟩
theorem ordU_take {i : Nat} {oi : Oper} {v : Value} {n : Nat} {up : Array Bool} {a : Act} {w : World} (hi : ops[i]? = some oi) (hs : Region.noSelect ops = true) (hf : Region.free md ops up i = true) (hr : (Region.ready md ops up).contains i = true)
    (hz : waitsB md ops z i = true) (hQ : ∀ c a w, Q (.panic c) (a.put oi.dst v) w → Q (.panic c) a w) (hy : YieldsIf P ops S oi v a) (hS : S w)
    (h : OrdU P md ops Q S z n (up.setIfInBounds i true) (a.put oi.dst v) w) : OrdU P md ops Q S z (n + 1) up a w :=
  OrdU.first hi (Region.noSelect_spec hs) hQ (waits_of hz) n up a w (Region.free_spec hi hf) (by simpa using hr) hy hS h
def AllU (P : Program) (md : Region.Mode) (ops : Array Oper) (Q : Exit → Act → World → Prop) (S : World → Prop) (z n : Nat) (up : Array Bool) (a : Act) (w : World) (rs : List Nat) : Prop :=
  ∀ i ∈ rs, wpOp P ops Q i (fun b v => (i ≠ z → S v) ∧ OrdU P md ops Q S z n (up.setIfInBounds i true) b v) a w
theorem ordU_ready {rs : List Nat} {n : Nat} {up : Array Bool} {a : Act} {w : World} (hr : Region.ready md ops up = rs) (hne : rs ≠ []) (h : AllU P md ops Q S z n up a w rs) : OrdU P md ops Q S z (n + 1) up a w :=
  ⟨fun h0 => absurd (hr ▸ h0) hne, hr ▸ h⟩
theorem AllU.nil {n : Nat} {up : Array Bool} {a : Act} {w : World} : AllU P md ops Q S z n up a w [] := fun _ h => by cases h
theorem AllU.cons {n : Nat} {up : Array Bool} {a : Act} {w : World} {i : Nat} {o : Oper} {rs : List Nat} (ho : ops[i]? = some o)
    (h : ∀ K : Act → World → Prop, Hid (∀ a w, S w → (S w → OrdU P md ops Q S z n (up.setIfInBounds i true) a w) → K a w) → if Region.wanted o (yielded ops a.tmps) = true then Oper.wp P o a w K Q else K (a.put o.dst undef) w)
    (hs : AllU P md ops Q S z n up a w rs) : AllU P md ops Q S z n up a w (i :: rs) := fun j hj => by
  rcases List.mem_cons.1 hj with rfl | hj
  · exact wpOp_step ho (fun K hK => h K (Lib.hid (fun a w hS hW => hK a w ⟨fun _ => hS, hW hS⟩)))
  · exact hs j hj
/-- The last operation: behind it nothing is asked of the world. -/
theorem ordU_last {n : Nat} {up : Array Bool} {a : Act} {w : World} {o : Oper} (hr : Region.ready md ops up = [z]) (ho : ops[z]? = some o)
    (h : ∀ K : Act → World → Prop, Hid (∀ a w, OrdU P md ops Q S z n (up.setIfInBounds z true) a w → K a w) → if Region.wanted o (yielded ops a.tmps) = true then Oper.wp P o a w K Q else K (a.put o.dst undef) w) : OrdU P md ops Q S z (n + 1) up a w :=
  ⟨fun h0 => (by rw [hr] at h0; cases h0), fun j hj => by
    rw [hr, List.mem_singleton] at hj
    subst hj
    exact wpOp_step ho (fun K hK => h K (Lib.hid (fun a w hW => hK a w ⟨fun hne => absurd rfl hne, hW⟩)))⟩
theorem ordU_done {up : Array Bool} {a : Act} {w : World} (hr : Region.ready md ops up = []) (h : Q .normal a w) : ∀ n, OrdU P md ops Q S z n up a w
  | 0 => ⟨hr, h⟩
  | _ + 1 => ⟨fun _ => h, by rw [hr]; simp⟩
theorem ordU_region {id : Nat} {a : Act} {w : World} (z : Nat) (S : World → Prop) (hm : P.follows .mixedOrders = true) (hS : S w.drew) (h : S w.drew → OrdU P .any ops Q S z ops.size (Array.replicate ops.size false) a w.drew) : (Code.region id ops true).wp P Q a w :=
  wp_region_any hm (OrdU.any _ _ _ _ (h hS))
end
end Go.Proofs.YtbfeodammikajaaGreat

/- Short forms of the moves of a walk through a region that draws its order. -/

namespace Go.Proofs.YtbfeodammikajaaGreat
open Go.RowKit

section
variable {P : Program} {md : Region.Mode} {ops : Array Oper} {Q : Exit → Act → World → Prop} {S : World → Prop}
/-- An operation is taken: its value is what it yields in every world that meets S. -/
theorem tk (i : Nat) {oi : Oper} {v : Value} {fuel : Nat} {listed : Array Bool} {a a' : Act} {w : World} (hS : S w)
    (h : wpAnyH P md ops Q S fuel (listed.setIfInBounds i true) a' w)
    (hi : ops[i]? = some oi := by exact rfl) (hs : Region.noSelect ops = true := by kernel_rfl) (hf : Region.free md ops listed i = true := by kernel_rfl) (hr : (Region.ready md ops listed).contains i = true := by kernel_rfl)
    (hy : YieldsIf P ops S oi v a := by refine Or.inl ⟨by rfl, ?_⟩; intro w' hSw; (try dsimp only at hSw); go_simp; (try with_reducible rfl))
    (hQ : ∀ c a w, Q (.panic c) (a.put oi.dst v) w → Q (.panic c) a w := by exact fun _ _ _ h => h)
    (ha : a.put oi.dst v = a' := by (try simp only [Act.put, List.setIfInBounds_toArray, List.set_cons_zero, List.set_cons_succ, List.getElem_toArray, List.getElem_cons_succ, List.getElem_cons_zero]); exact rfl) : wpAnyH P md ops Q S (fuel + 1) listed a w :=
  wpAnyH_take hi hs hf hr hQ hy hS (by rw [ha]; exact h)
/-- An operation that is not wanted is passed over. -/
theorem un (i : Nat) {oi : Oper} {fuel : Nat} {listed : Array Bool} {a a' : Act} {w : World} (hS : S w)
    (h : wpAnyH P md ops Q S fuel (listed.setIfInBounds i true) a' w)
    (hi : ops[i]? = some oi := by exact rfl) (hs : Region.noSelect ops = true := by kernel_rfl) (hf : Region.free md ops listed i = true := by kernel_rfl) (hr : (Region.ready md ops listed).contains i = true := by kernel_rfl)
    (hy : YieldsIf P ops S oi undef a := by exact Or.inr ⟨by rfl, rfl⟩)
    (hQ : ∀ c a w, Q (.panic c) (a.put oi.dst undef) w → Q (.panic c) a w := by exact fun _ _ _ h => h)
    (ha : a.put oi.dst undef = a' := by (try simp only [Act.put, List.setIfInBounds_toArray, List.set_cons_zero, List.set_cons_succ, List.getElem_toArray, List.getElem_cons_succ, List.getElem_cons_zero]); exact rfl) : wpAnyH P md ops Q S (fuel + 1) listed a w :=
  wpAnyH_take hi hs hf hr hQ hy hS (by rw [ha]; exact h)
end
section
variable {a b c : World} {p : Addr} {v : Value}
/-- A cell that was there is as it was. -/
theorem xc (hb : p.block < a.heap.size) (f : a.cell? p = some v) (h : Ext a b := by repeat (first | exact Ext.refl _ | assumption | apply Ext.alloc | apply Ext.drew)) : b.cell? p = some v := (h.cell hb).trans f
/-- A world behind a call. -/
theorem xt (h : Ext b c) (e : Ext a b := by repeat (first | exact Ext.refl _ | assumption | apply Ext.alloc | apply Ext.drew)) : Ext a c := e.trans h
/-- The world as it stands. -/
theorem xw (e : Ext a b := by repeat (first | exact Ext.refl _ | assumption | apply Ext.alloc | apply Ext.drew)) : Ext a b := e
end
end Go.Proofs.YtbfeodammikajaaGreat
