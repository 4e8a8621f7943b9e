/- The two maps of formula.compact: the numbers of nodes, and what is done. -/
import Derived.Test.YtipnbfbakohcaaaDoorProg
import Derived.Test.YtipnbfbakohcaaaDoorSpecFin
import Derived.Test.YtipnbfbakohcaaaDoorNds
import Derived.Maps.OwnSet
import Derived.DeepKeys4
namespace Go.Proofs.YtipnbfbakohcaaaDoor
open Go.RowKit
open Go.Maps (Keyed IsMap Tidy has has_put_same has_put_other atKey_put_same atKey_put_other)

def i64ok (a : Int) : Prop := -9223372036854775808 ≤ a ∧ a ≤ 9223372036854775807
def Nd.ok (n : Nd) : Prop := i64ok n.op ∧ i64ok n.i ∧ i64ok n.e ∧ i64ok n.g ∧ i64ok n.x ∧ i64ok n.y
theorem wf_of {a : Int} (h : i64ok a) : (Lit.int .i64 a).wf = true := by
  unfold i64ok at h
  have h1 : IntKind.i64.min = -9223372036854775808 := by decide
  have h2 : IntKind.i64.max = 9223372036854775807 := by decide
  simp only [Lit.wf, h1, h2, Bool.and_eq_true, decide_eq_true_eq]
  exact h
set_option maxRecDepth 100000
theorem tLaidOut : laidOutB Tryd.prog = true := by kernel_rfl
theorem tRow : (60 : TypeId) < Tryd.prog.types.size := of_decide_eq_true (by kernel_rfl)
theorem tWide : (match Tryd.prog.underlying 60 with | some (.array _ _) | some (.struct _) => true | _ => false) = true := by kernel_rfl
theorem tKeyAt : Tryd.prog.keyTypeAt 2 60 = true := by kernel_rfl
theorem tKeyType : Tryd.prog.keyType 60 = true := by kernel_rfl
theorem nodeKeyed : Keyed Tryd.prog 60 := Keyed.of_law (deep_law_laid tLaidOut (m := 2) (by omega) tRow tKeyAt tWide)
theorem tCells : Tryd.prog.cellsOf 60 = 6 := by kernel_rfl
theorem tCells3 : Tryd.prog.cellsOf 3 = 1 := by kernel_rfl
theorem tSize : ∃ m, Tryd.prog.types.size = m + 1 := by
  have h : 0 < Tryd.prog.types.size := of_decide_eq_true (by kernel_rfl)
  exact ⟨Tryd.prog.types.size - 1, by omega⟩
def nkey (n : Nd) : Lit := .string (keyBytes [.int .i64 n.op, .int .i64 n.i, .int .i64 n.e, .int .i64 n.g, .int .i64 n.x, .int .i64 n.y])
theorem keyOf_node {n : Nd} (h : n.ok) : keyOf Tryd.prog 60 n.val = some (nkey n) := by
  obtain ⟨h0, h1, h2, h3, h4, h5⟩ := h
  obtain ⟨m, hm⟩ := tSize
  have hf : n.val.formed Tryd.prog 60 = true := by simp [Nd.val, Value.formed, Tryd.underlying60, tCells]
  unfold keyOf
  rw [Tryd.underlying60]
  simp only [tKeyType, hf, Bool.and_true, if_true]
  rw [hm]
  simp [Program.keyLits, Tryd.underlying60, Tryd.underlying3, tCells, tCells3, Nd.val, Value.cells, wf_of h0, wf_of h1, wf_of h2, wf_of h3, wf_of h4, wf_of h5, nkey]

theorem keyOf_int {a : Int} (h : i64ok a) : keyOf Tryd.prog 3 (.int .i64 a) = some (.int .i64 a) := Go.Maps.keyOf_int_mk Tryd.underlying3 (wf_of h)
theorem intKeyed : Keyed Tryd.prog 3 := Go.Maps.int_keyed Tryd.underlying3
theorem nkey_key {n : Nd} : WideAt.IsKeyLit (nkey n) := trivial
theorem nkey_inj {n m : Nd} (hn : n.ok) (hm : m.ok) (h : nkey n = nkey m) : n = m := by
  have e : n.val = m.val := nodeKeyed.inj (keyOf_node hn) (by rw [h]; exact keyOf_node hm)
  cases n; cases m
  simpa [Nd.val] using e

abbrev D0 := DataW Unit
theorem elem_int {a : Int} (h : i64ok a) : (plainElem Tryd.prog 3 (.int .i64 a) : Option (D0 × List MemPlace)) = some (.lit (.int .i64 a), []) := plainElem_int Tryd.underlying3 (wf_of h)
theorem zeroInt (w : World) : (zeroValue 3).run Tryd.prog w = .ok (.int .i64 0) w := by kernel_rfl

/-- The map of the numbers of the nodes of a list. -/
def NumMap (w : World) (b : Nat) (o : List Nd) : Prop :=
  ∃ (D : D0) (m : Nat), w.ownsMap Tryd.prog 60 (plainElem Tryd.prog 3) b m D ∧ m ≤ o.length ∧ ∀ n : Nd, n.ok → has D (nkey n) = decide (n ∈ o) ∧ (n ∈ o → ∀ z, D.atKey (nkey n) z = .lit (.int .i64 (o.idxOf n)))
/-- The map of what is done: each entry's node comes to its number, and adds nothing. -/
def DoneIs (D : D0) (f o : List Nd) : Prop :=
  ∀ i : Nat, has D (.int .i64 i) = true → i < f.length ∧ finN f i o = (o, (finN f i o).2) ∧ ∀ z, D.atKey (.int .i64 i) z = .lit (.int .i64 (finN f i o).2)
def doneCount (D : D0) (f : List Nd) : Nat := (List.range f.length).countP fun i : Nat => has D (.int .i64 i)
def DoneMap (w : World) (b : Nat) (f o : List Nd) : Prop :=
  ∃ (D : D0) (m : Nat), w.ownsMap Tryd.prog 3 (plainElem Tryd.prog 3) b m D ∧ m ≤ doneCount D f ∧ DoneIs D f o

theorem NumMap.made (w : World) : NumMap (w.alloc (.map #[] 0)) w.heap.size [] :=
  ⟨.map [], 0, World.ownsMap_made w _ _ _, Nat.le_refl _, fun n _ => ⟨by simp [has], fun h => by cases h⟩⟩
theorem DoneMap.made (w : World) (f : List Nd) : DoneMap (w.alloc (.map #[] 0)) w.heap.size f [] :=
  ⟨.map [], 0, World.ownsMap_made w _ _ _, Nat.zero_le _, fun i h => by simp [has] at h⟩
theorem NumMap.kept {w w' : World} {b : Nat} {o : List Nd} (h : NumMap w b o) (hb : w'.heap[b]? = w.heap[b]?) : NumMap w' b o := by
  obtain ⟨D, m, ⟨es, clock, h1, h2⟩, h3, h4⟩ := h
  exact ⟨D, m, ⟨es, clock, hb.trans h1, h2⟩, h3, h4⟩
theorem DoneMap.kept {w w' : World} {b : Nat} {f o : List Nd} (h : DoneMap w b f o) (hb : w'.heap[b]? = w.heap[b]?) : DoneMap w' b f o := by
  obtain ⟨D, m, ⟨es, clock, h1, h2⟩, h4⟩ := h
  exact ⟨D, m, ⟨es, clock, hb.trans h1, h2⟩, h4⟩
theorem NumMap.lt {w : World} {b : Nat} {o : List Nd} (h : NumMap w b o) : b < w.heap.size := by
  obtain ⟨D, m, h1, _⟩ := h
  exact h1.lt
theorem DoneMap.lt {w : World} {b : Nat} {f o : List Nd} (h : DoneMap w b f o) : b < w.heap.size := by
  obtain ⟨D, m, h1, _⟩ := h
  exact h1.lt
theorem DoneIs.grow {D : D0} {f o o' : List Nd} (hf : Wf f) (h : DoneIs D f o) (hp : o <+: o') : DoneIs D f o' := by
  intro i hi
  obtain ⟨a, e, c⟩ := h i hi
  have hg := finN_again hf i o o' a (by rw [e]; exact hp)
  exact ⟨a, by rw [hg], by rw [hg]; exact c⟩
theorem DoneMap.grow {w : World} {b : Nat} {f o o' : List Nd} (hf : Wf f) (h : DoneMap w b f o) (hp : o <+: o') : DoneMap w b f o' := by
  obtain ⟨D, m, h1, h2, h3⟩ := h
  exact ⟨D, m, h1, h2, h3.grow hf hp⟩
theorem doneCount_le (D : D0) (f : List Nd) : doneCount D f ≤ f.length := by
  have := List.countP_le_length (p := fun i : Nat => has D (.int .i64 i)) (l := List.range f.length)
  simpa [doneCount] using this
theorem IsMapOf {w : World} {k : TypeId} {b m : Nat} {D : D0} (h : w.ownsMap Tryd.prog k (plainElem Tryd.prog 3) b m D) : IsMap D := h.isMap
/-- A new node's number is stored. -/
theorem NumMap.put {w w' : World} {b : Nat} {o : List Nd} {n : Nd} {D : D0} {m : Nat} (hk : n.ok) (hn : n ∉ o) (h : w.ownsMap Tryd.prog 60 (plainElem Tryd.prog 3) b m D) (hm : m ≤ o.length)
    (hD : ∀ n : Nd, n.ok → has D (nkey n) = decide (n ∈ o) ∧ (n ∈ o → ∀ z, D.atKey (nkey n) z = .lit (.int .i64 (o.idxOf n))))
    (h' : w'.ownsMap Tryd.prog 60 (plainElem Tryd.prog 3) b (m + 1) (D.put (nkey n) (.lit (.int .i64 o.length)))) : NumMap w' b (o ++ [n]) := by
  refine ⟨_, _, h', by simp; omega, fun n' hk' => ?_⟩
  by_cases e : n' = n
  · subst e
    refine ⟨by rw [has_put_same h.isMap nkey_key]; simp, fun _ z => ?_⟩
    rw [atKey_put_same h.isMap nkey_key, List.idxOf_append, if_neg hn]
    simp
  · have hne : nkey n' ≠ nkey n := fun e' => e (nkey_inj hk' hk e')
    refine ⟨?_, fun hin z => ?_⟩
    · rw [has_put_other hne, (hD n' hk').1]
      simp [e]
    · have hin' : n' ∈ o := by simpa [e] using hin
      rw [atKey_put_other hne, (hD n' hk').2 hin', List.idxOf_append, if_pos hin']
theorem ownsMap_tight {w : World} {k : TypeId} {R : Value → Option (D0 × List MemPlace)} {b n : Nat} {D : D0} (h : w.ownsMap Tryd.prog k R b n D) : w.ownsMap Tryd.prog k R b (Go.Maps.size D) D := by
  obtain ⟨es, clock, hb, F, hs, rfl⟩ := h
  exact ⟨es, clock, hb, F, by simp [Go.Maps.size, length_sorted], rfl⟩
/-- A node is done. -/
theorem DoneMap.put {w w' : World} {b : Nat} {f o : List Nd} {i m : Nat} {D : D0} (h : w.ownsMap Tryd.prog 3 (plainElem Tryd.prog 3) b m D) (hm : m ≤ doneCount D f) (hD : DoneIs D f o)
    (hi : i < f.length) (hfin : finN f i o = (o, (finN f i o).2))
    (h' : w'.ownsMap Tryd.prog 3 (plainElem Tryd.prog 3) b (m + 1) (D.put (.int .i64 i) (.lit (.int .i64 (finN f i o).2)))) : DoneMap w' b f o := by
  have hkey : WideAt.IsKeyLit (.int .i64 (i : Int)) := trivial
  have other : ∀ j : Nat, j ≠ i → (Lit.int .i64 (j : Int)) ≠ .int .i64 (i : Int) := fun j e e' => e (by injection e' with _ e'; omega)
  have htidy := h.tidy intKeyed
  have hsz := h.size_le
  have mono : ∀ j : Nat, has D (.int .i64 j) = true → has (D.put (.int .i64 i) (.lit (.int .i64 (finN f i o).2))) (.int .i64 j) = true := by
    intro j hj
    by_cases e : j = i
    · subst e; exact has_put_same h.isMap hkey _
    · rw [has_put_other (other j e)]; exact hj
  refine ⟨_, _, ownsMap_tight h', ?_, fun j hj => ?_⟩
  · rw [Go.Maps.size_put htidy]
    split
    · exact Nat.le_trans (Nat.le_trans hsz hm) (List.countP_mono_left fun j _ => mono j)
    · rename_i hno
      refine Nat.succ_le_of_lt (Nat.lt_of_le_of_lt (Nat.le_trans hsz hm) ?_)
      exact countP_lt (fun j _ => mono j) ⟨i, List.mem_range.2 hi, by simpa using hno, has_put_same h.isMap hkey _⟩
  · by_cases e : j = i
    · subst e
      exact ⟨hi, hfin, fun z => atKey_put_same h.isMap hkey _ z⟩
    · rw [has_put_other (other j e)] at hj
      obtain ⟨a, c, d⟩ := hD j hj
      exact ⟨a, c, fun z => by rw [atKey_put_other (other j e)]; exact d z⟩
end Go.Proofs.YtipnbfbakohcaaaDoor
