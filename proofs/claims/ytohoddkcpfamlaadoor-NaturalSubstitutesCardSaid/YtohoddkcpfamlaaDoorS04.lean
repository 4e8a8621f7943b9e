/- Canonical lists are formulas again; what a constructor comes to. -/
import Derived.Test.YtohoddkcpfamlaaDoorS03
import Derived.OneCell

namespace Go.Proofs.YtohoddkcpfamlaaDoor

/-- What is in a list after a walk was in it before, or is a node of the formula with other operands. -/
theorem fin_mem {f : List Nd} (hf : Wf f) : ∀ (i : Nat) (o : List Nd), i < f.length → ∀ m ∈ (finN f i o).1, m ∈ o ∨ ∃ n ∈ f, ∃ k1 k2, m = n.with_ k1 k2 := by
  intro i
  induction i using Nat.strongRecOn with
  | _ i ih =>
    intro o hi m hm
    obtain ⟨n, hn⟩ : ∃ n, f[i]? = some n := ⟨_, List.getElem?_eq_getElem hi⟩
    obtain ⟨hx, hy⟩ := hf i n hn
    have p1 : ∀ o, ∀ m ∈ (opX f n o).1, m ∈ o ∨ ∃ n ∈ f, ∃ k1 k2, m = n.with_ k1 k2 := by
      intro o m hm
      unfold opX at hm
      split at hm
      · rename_i h1
        have := hx h1
        exact ih _ (by omega) _ (by omega) m hm
      · exact .inl hm
    have p2 : ∀ o, ∀ m ∈ (opY f n o).1, m ∈ o ∨ ∃ n ∈ f, ∃ k1 k2, m = n.with_ k1 k2 := by
      intro o m hm
      unfold opY at hm
      split at hm
      · rename_i h1
        have := hy h1
        exact ih _ (by omega) _ (by omega) m hm
      · exact .inl hm
    rw [finN_eq hf hn] at hm
    have hm' : m ∈ (opY f n (opX f n o).1).1 ∨ m = n.with_ (opX f n o).2 (opY f n (opX f n o).1).2 := by
      simp only [addN] at hm
      split at hm
      · exact .inl hm
      · simpa using hm
    rcases hm' with hm' | rfl
    · rcases p2 _ m hm' with h | h
      · exact p1 _ m h
      · exact .inr h
    · exact .inr ⟨n, List.mem_of_getElem? hn, _, _, rfl⟩

theorem wf_snoc {o : List Nd} {m : Nd} (ho : Wf o) (hx : hasX m.op = true → 0 ≤ m.x ∧ m.x < o.length) (hy : hasY m.op = true → 0 ≤ m.y ∧ m.y < o.length) : Wf (o ++ [m]) := by
  intro i n hn
  by_cases h : i < o.length
  · rw [List.getElem?_append_left h] at hn
    exact ho i n hn
  · rw [List.getElem?_append_right (by omega)] at hn
    have hi : i = o.length := by
      by_cases e : i - o.length = 0
      · omega
      · rw [List.getElem?_eq_none (by simp; omega)] at hn; cases hn
    subst hi
    simp at hn
    subst hn
    exact ⟨hx, hy⟩
theorem wf_append {a b : List Nd} (ha : Wf a) (hb : ∀ (i : Nat) (n : Nd), b[i]? = some n → (hasX n.op = true → 0 ≤ n.x ∧ n.x < (a.length + i : Nat)) ∧ (hasY n.op = true → 0 ≤ n.y ∧ n.y < (a.length + i : Nat))) : Wf (a ++ b) := by
  intro i n hn
  by_cases h : i < a.length
  · rw [List.getElem?_append_left h] at hn
    exact ha i n hn
  · rw [List.getElem?_append_right (by omega)] at hn
    have := hb _ n hn
    have e : a.length + (i - a.length) = i := by omega
    rw [e] at this
    exact this
theorem wf_nil : Wf [] := fun i n h => by simp at h
theorem hasX_of_hasY {op : Int} (h : hasY op = true) : hasX op = true := by
  unfold hasX
  simp [hasY] at h
  simp
  omega

theorem fin_wf {f : List Nd} (hf : Wf f) : ∀ (i : Nat) (o : List Nd), i < f.length → Wf o → Wf (finN f i o).1 := by
  intro i
  induction i using Nat.strongRecOn with
  | _ i ih =>
    intro o hi ho
    obtain ⟨n, hn⟩ : ∃ n, f[i]? = some n := ⟨_, List.getElem?_eq_getElem hi⟩
    obtain ⟨hx, hy⟩ := hf i n hn
    have w1 : Wf (opX f n o).1 := by
      unfold opX
      split
      · rename_i h1
        have := hx h1
        exact ih _ (by omega) _ (by omega) ho
      · exact ho
    have w2 : Wf (opY f n (opX f n o).1).1 := by
      unfold opY
      split
      · rename_i h1
        have := hy h1
        exact ih _ (by omega) _ (by omega) w1
      · exact w1
    rw [finN_eq hf hn]
    simp only [addN]
    split
    · exact w2
    · refine wf_snoc w2 (fun h => ?_) (fun h => ?_)
      · have h' : hasX n.op = true := h
        have hp := opY_prefix hf hn (opX f n o).1
        have hl : (opX f n o).2 < (opX f n o).1.length := by
          have := hx h'
          unfold opX
          rw [if_pos h']
          exact finN_lt hf _ _ (by omega)
        have := hp.length_le
        simp only [Nd.with_, h', cond_true]
        omega
      · have h' : hasY n.op = true := h
        have hl : (opY f n (opX f n o).1).2 < (opY f n (opX f n o).1).1.length := by
          have := hy h'
          unfold opY
          rw [if_pos h']
          exact finN_lt hf _ _ (by omega)
        simp only [Nd.with_, h', cond_true]
        omega

/-- A node without its operands is right. -/
def headOk (n : Nd) : Prop := isOp n.op = true ∧ formBad n = false ∧ rangeBad n = false ∧ (hasX n.op = false → n.x = 0) ∧ (hasY n.op = false → n.y = 0)
theorem headOk_of {n : Nd} {a : Int} (h : nodeErr n a = 0) : headOk n := by
  obtain ⟨hx, hy⟩ := nodeErr_xy h
  obtain ⟨hf, hr⟩ := nodeErr_form h
  refine ⟨nodeErr_op h, hf, hr, fun e => ?_, fun e => ?_⟩
  · rw [e] at hx; simpa [operandOk] using hx
  · rw [e] at hy; simpa [operandOk] using hy
theorem headOk.err {n : Nd} {a : Nat} (h : headOk n) (hx : hasX n.op = true → 0 ≤ n.x ∧ n.x < a) (hy : hasY n.op = true → 0 ≤ n.y ∧ n.y < a) : nodeErr n a = 0 := by
  obtain ⟨ho, hf, hr, h1, h2⟩ := h
  refine nodeErr_of ho ?_ ?_ hf hr
  · cases e : hasX n.op
    · simp [operandOk, h1 e]
    · have := hx e; simp [operandOk]; omega
  · cases e : hasY n.op
    · simp [operandOk, h2 e]
    · have := hy e; simp [operandOk]; omega
theorem headOk.with_ {n : Nd} (h : headOk n) (k1 k2 : Nat) : headOk (n.with_ k1 k2) := by
  obtain ⟨ho, hf, hr, h1, h2⟩ := h
  refine ⟨ho, hf, hr, fun e => ?_, fun e => ?_⟩
  · have e' : hasX n.op = false := e
    simp only [Nd.with_, e', cond_false]; exact h1 e'
  · have e' : hasY n.op = false := e
    simp only [Nd.with_, e', cond_false]; exact h2 e'
theorem nodes_of {f : List Nd} (hw : Wf f) (hh : ∀ n ∈ f, headOk n) : checkNodes f 0 = 0 := by
  refine checkNodes_of f 0 fun k n hk => ?_
  obtain ⟨hx, hy⟩ := hw k n hk
  have := (hh n (List.mem_of_getElem? hk)).err hx hy
  simpa using this
theorem check_of {f : List Nd} (h0 : f ≠ []) (hl : f.length ≤ 200) (hw : Wf f) (hh : ∀ n ∈ f, headOk n) : check f = 0 := by
  unfold check
  have h1 : f.length ≠ 0 := by simpa using h0
  have h2 : ¬ 200 < f.length := by omega
  simp [h1, h2, nodes_of hw hh]
theorem heads_of {f : List Nd} (h : check f = 0) : ∀ n ∈ f, headOk n := by
  intro n hn
  obtain ⟨i, hi⟩ := List.getElem?_of_mem hn
  exact headOk_of (checkNodes_all f 0 (check_parts h).2.2 i n hi)

theorem compactN_props {f : List Nd} (h : check f = 0) : Wf (compactN f) ∧ (compactN f).length ≤ f.length ∧ 0 < (compactN f).length ∧ (∀ n ∈ compactN f, headOk n) := by
  have hw := check_wf h
  have hl := (check_parts h).1
  rw [compactN_eq h]
  refine ⟨fin_wf hw _ _ (by omega) wf_nil, ?_, ?_, ?_⟩
  · have h1 := pot_le hw (f.length - 1) [] (by omega)
    have h2 := pot_nil f
    have h3 := length_le_pot f (finN f (f.length - 1) []).1
    omega
  · have := finN_lt hw (f.length - 1) [] (by omega)
    omega
  · intro m hm
    rcases fin_mem hw _ _ (by omega) m hm with h' | ⟨n, hn, k1, k2, rfl⟩
    · cases h'
    · exact (heads_of h n hn).with_ k1 k2
theorem compactN_check {f : List Nd} (h : check f = 0) : check (compactN f) = 0 := by
  obtain ⟨a, b, c, d⟩ := compactN_props h
  have := (check_parts h).2.1
  exact check_of (by intro e; rw [e] at c; simp at c) (by omega) a d

def shiftN (d : Nat) (n : Nd) : Nd := { n with x := bif hasX n.op then n.x + d else n.x, y := bif hasY n.op then n.y + d else n.y }
def setOp (k : Nat) (x : Nd) (len : Nat) : Nd := bif k == 0 then { x with x := (len : Int) - 1 } else { x with y := (len : Int) - 1 }
/-- The operands' canonical lists, one behind the other, and the node with their roots. -/
def layout : List (List Nd) → Nat → List Nd → Nd → List Nd × Nd
  | [], _, f, x => (f, x)
  | o :: r, k, f, x => layout r (k + 1) (f ++ (compactN o).map (shiftN f.length)) (setOp k x (f ++ (compactN o).map (shiftN f.length)).length)
def joinN (f : List Nd) (y : Nd) : List Nd :=
  bif nodeErr y f.length != 0 then [] else bif decide (200 < (finN (f ++ [y]) f.length []).1.length) then [] else (finN (f ++ [y]) f.length []).1
def buildN (x : Nd) (ops : List (List Nd)) : List Nd := bif ops.any (fun o => check o != 0) then [] else joinN (layout ops 0 [] x).1 (layout ops 0 [] x).2

theorem shift_wf {a b : List Nd} (ha : Wf a) (hb : Wf b) : Wf (a ++ b.map (shiftN a.length)) := by
  refine wf_append ha fun i n hn => ?_
  rw [List.getElem?_map] at hn
  obtain ⟨m, hm, rfl⟩ := Option.map_eq_some_iff.1 hn
  obtain ⟨hx, hy⟩ := hb i m hm
  refine ⟨fun e => ?_, fun e => ?_⟩
  · have e' : hasX m.op = true := e
    have := hx e'
    simp only [shiftN, e', cond_true]
    omega
  · have e' : hasY m.op = true := e
    have := hy e'
    simp only [shiftN, e', cond_true]
    omega
theorem layout_step (ops : List (List Nd)) (k : Nat) (o : List Nd) (f : List Nd) (x : Nd) (h : ops[k]? = some o) :
    layout (ops.drop k) k f x = layout (ops.drop (k + 1)) (k + 1) (f ++ (compactN o).map (shiftN f.length)) (setOp k x (f ++ (compactN o).map (shiftN f.length)).length) := by
  obtain ⟨hk, rfl⟩ := List.getElem?_eq_some_iff.1 h
  rw [List.drop_eq_getElem_cons hk]
  rfl
theorem any_step (ops : List (List Nd)) (k : Nat) (o : List Nd) (h : ops[k]? = some o) : (ops.drop k).any (fun o => check o != 0) = (check o != 0 || (ops.drop (k + 1)).any (fun o => check o != 0)) := by
  obtain ⟨hk, rfl⟩ := List.getElem?_eq_some_iff.1 h
  rw [List.drop_eq_getElem_cons hk]
  rfl
end Go.Proofs.YtohoddkcpfamlaaDoor

/- A slice that the call makes and appends to: what may have changed. -/

namespace Go.Proofs.YtohoddkcpfamlaaDoor
open Go.RowKit

structure RStep (w w' : World) (v v' : Value) : Prop where
  os : w'.os = w.os
  tape : w'.tape = w.tape
  output : w'.output = w.output
  size : w.heap.size ≤ w'.heap.size
  block : ∀ k, k < w.heap.size → v.ownBlock ≠ some k → w'.heap[k]? = w.heap[k]?
  row : ∀ g, v'.ownBlock = some g → v.ownBlock = some g ∨ w.heap.size ≤ g
section
variable {a b c w w' : World} {va vb vc v v' : Value}
theorem RStep.refl (w : World) (v : Value) : RStep w w v v := ⟨rfl, rfl, rfl, Nat.le_refl _, fun _ _ _ => rfl, fun _ h => .inl h⟩
theorem RStep.trans (h : RStep a b va vb) (k : RStep b c vb vc) : RStep a c va vc :=
  ⟨k.os.trans h.os, k.tape.trans h.tape, k.output.trans h.output, Nat.le_trans h.size k.size,
    fun i hi h4 => (k.block i (Nat.lt_of_lt_of_le hi h.size) (fun e => by
      rcases h.row i e with e' | e'
      · exact h4 e'
      · omega)).trans (h.block i hi h4),
    fun g hg => by
      rcases k.row g hg with e | e
      · exact h.row g e
      · exact .inr (Nat.le_trans h.size e)⟩
theorem RStep.ext (h : RStep a b va vb) (e : Ext b c) : RStep a c va vb := h.trans ⟨e.os, e.tape, e.output, e.size, fun _ hk _ => e.block hk, fun _ h => .inl h⟩
theorem RStep.appended (h : RStep a b va v) (hg : b.grownBy w' v.ownBlock) (hat : v'.ownBlock = v.ownBlock ∨ v'.ownBlock = some b.heap.size) : RStep a w' va v' :=
  h.trans ⟨hg.os, hg.tape, hg.output, hg.size, fun k hk hne => hg.block k hk (fun e => hne e.symm), fun g hg' => by
    rcases hat with e | e
    · exact .inl (by rw [← e]; exact hg')
    · rw [e] at hg'
      injection hg' with hg'
      exact .inr (by omega)⟩
theorem RStep.cell (h : RStep a b va vb) {p : Addr} (hp : p.block < a.heap.size) (hne : va.ownBlock ≠ some p.block) : b.cell? p = a.cell? p := World.cell?_of_block (h.block _ hp hne)
/-- Below a row's base nothing has changed. -/
theorem RStep.below {B : Nat} (h : RStep a b va vb) (hB : B ≤ a.heap.size) (hr : ∀ g, va.ownBlock = some g → B ≤ g) : Below B a b :=
  ⟨h.os, h.tape, h.output, h.size, fun k hk => h.block k (by omega) (fun e => by have := hr k e; omega)⟩
theorem row_ext {base : Nat} {e : TypeId} {size n : Nat} {xs : List Value} (h : w.ownsRow base e size v n xs) (he : Ext w w') : w'.ownsRow base e size v n xs := row_keep h fun g hg => he.block (h.lt g hg).2
theorem row_new (w : World) (cs : Array Value) (t : TypeId) : ∀ j u, cs.toList[j]? = some u → (w.alloc (.cells cs t)).cell? ((⟨w.heap.size, 0, none⟩ : Addr).add j) = some u := by
  intro j u hj
  have h := heap_alloc_new w (.cells cs t)
  have e : ((⟨w.heap.size, 0, none⟩ : Addr).add j) = ⟨w.heap.size, j, none⟩ := by
    unfold Addr.add
    split
    · rename_i h0; rw [h0]
    · simp
  rw [e]
  simp only [World.cell?, h]
  rw [← hj]
  simp
theorem row_new_at (w : World) (cs : Array Value) (t : TypeId) {g : Nat} (hg : g = w.heap.size) : ∀ j u, cs.toList[j]? = some u → (w.alloc (.cells cs t)).cell? ((⟨g, 0, none⟩ : Addr).add j) = some u := by
  subst hg
  exact row_new w cs t
end

/-- A slice of formulas. -/
def FmlsAt (w : World) (A : Option Addr) (c : Nat) (ops : List (List Nd)) : Prop :=
  ops.length ≤ c ∧ c ≤ maxLen ∧ (ops ≠ [] → ∃ ad, A = some ad ∧ ad.block < w.heap.size ∧ ∀ k l, ops[k]? = some l → ∃ u, w.cell? (ad.add k) = some u ∧ Fml w u l)
def Fmls (w : World) (v : Value) (ops : List (List Nd)) : Prop := ∃ A c, v = .slice A ops.length c ∧ FmlsAt w A c ops
theorem FmlsAt.ext {w w' : World} {A : Option Addr} {c : Nat} {ops : List (List Nd)} (h : FmlsAt w A c ops) (he : Ext w w') : FmlsAt w' A c ops :=
  ⟨h.1, h.2.1, fun hn => by
    obtain ⟨ad, e, hlt, hc⟩ := h.2.2 hn
    refine ⟨ad, e, Nat.lt_of_lt_of_le hlt he.size, fun k l hk => ?_⟩
    obtain ⟨u, hu, hf⟩ := hc k l hk
    exact ⟨u, (he.cell (by rw [block_of_add]; exact hlt)).trans hu, hf.ext he⟩⟩
theorem Fmls.ext {w w' : World} {v : Value} {ops : List (List Nd)} (h : Fmls w v ops) (he : Ext w w') : Fmls w' v ops := by
  obtain ⟨A, c, e, h⟩ := h
  exact ⟨A, c, e, h.ext he⟩

/-- The outer loop of formula.build. -/
structure BOut (w wr : World) (ops : List (List Nd)) (x : Nd) (k : Nat) (f : List Nd) (y : Nd) (v : Value) : Prop where
  row : wr.ownsRow (w.heap.size + 1) 46 6 v f.length (f.flatMap Nd.cells)
  ext : Ext w wr
  box : wr.heap[w.heap.size]? = some (.cells #[.int .i64 y.op, .int .i64 y.i, .int .i64 y.e, .int .i64 y.g, .int .i64 y.x, .int .i64 y.y] 46 (0, 0))
  lay : layout (ops.drop k) k f y = layout ops 0 [] x
  any : ops.any (fun o => check o != 0) = (ops.drop k).any (fun o => check o != 0)
  wf : Wf f
  oks : ∀ n ∈ f, n.ok
  yok : y.ok
  len : f.length ≤ 200 * k
theorem fml_slice {w : World} {v : Value} {l : List Nd} (h : Fml w v l) : ∃ A c, v = .slice A l.length c ∧ NdsAt w A c l := by
  obtain ⟨⟨A, c, e, hat⟩, _⟩ := h
  exact ⟨A, c, e, hat⟩
theorem setOp_ok {k len : Nat} {y : Nd} (h : y.ok) (hl : len ≤ 1000) : (setOp k y len).ok := by
  obtain ⟨a, b, c, d, e, g⟩ := h
  have hb : i64ok ((len : Int) - 1) := ⟨by omega, by omega⟩
  unfold setOp
  cases k == 0
  · exact ⟨a, b, c, d, e, hb⟩
  · exact ⟨a, b, c, d, hb, g⟩
theorem shift_ok {d : Nat} {n : Nd} (h : n.ok) (hx : hasX n.op = true → 0 ≤ n.x ∧ n.x ≤ 1000) (hy : hasY n.op = true → 0 ≤ n.y ∧ n.y ≤ 1000) (hd : d ≤ 1000) : (shiftN d n).ok := by
  obtain ⟨a, b, c, d', e, g⟩ := h
  refine ⟨a, b, c, d', ?_, ?_⟩
  · show i64ok (bif hasX n.op then n.x + d else n.x)
    cases hh : hasX n.op
    · exact e
    · have := hx hh
      exact ⟨by simp only [cond_true]; omega, by simp only [cond_true]; omega⟩
  · show i64ok (bif hasY n.op then n.y + d else n.y)
    cases hh : hasY n.op
    · exact g
    · have := hy hh
      exact ⟨by simp only [cond_true]; omega, by simp only [cond_true]; omega⟩
theorem xy_cases (op : Int) : (hasX op = false ∧ hasY op = false) ∨ (hasX op = true ∧ hasY op = false) ∨ (hasX op = true ∧ hasY op = true) := by
  cases hx : hasX op
  · cases hy : hasY op
    · exact .inl ⟨rfl, rfl⟩
    · rw [hasX_of_hasY hy] at hx; cases hx
  · cases hy : hasY op
    · exact .inr (.inl ⟨rfl, rfl⟩)
    · exact .inr (.inr ⟨rfl, rfl⟩)
/-- What a call has made lies in no row that stood before. -/
theorem new_apart {wr w1 w' : World} {base : Nat} {A5 Ac : Option Addr} {n c5 cc : Nat} {xs : List Value} {l : List Nd} (hm : Made w1 w' (.slice Ac l.length cc) l) (hrow : wr.ownsRow base 46 6 (.slice A5 n c5) n xs) (he : Ext wr w1) :
    ∀ ad : Addr, Ac = some ad → (Value.slice A5 n c5).ownBlock ≠ some ad.block ∧ ad.block < w'.heap.size := by
  rintro ad rfl
  obtain ⟨h1, h2⟩ := hm.1.lt ad.block rfl
  refine ⟨fun e => ?_, h2⟩
  have := (hrow.lt _ e).2
  have := he.size
  omega
theorem row_ne {w : World} {base : Nat} {e : TypeId} {size n : Nat} {v : Value} {xs : List Value} (h : w.ownsRow (base + 1) e size v n xs) : v.ownBlock ≠ some base := fun e => by
  have := (h.lt _ e).1
  omega
/-- One operand more. -/
theorem BOut.next {w wo wi wr : World} {ops : List (List Nd)} {x y : Nd} {k : Nat} {f cl o : List Nd} {v5 v6 : Value} (h : BOut w wo ops x k f y v5) (hk : k < 2) (hx : Ext w wi) (hrow5 : wi.ownsRow (w.heap.size + 1) 46 6 v5 f.length (f.flatMap Nd.cells))
    (hst : RStep wi wr v5 v6) (hrow : wr.ownsRow (w.heap.size + 1) 46 6 v6 (f.length + cl.length) ((f ++ (cl.take cl.length).map (shiftN f.length)).flatMap Nd.cells))
    (hbox : wi.heap[w.heap.size]? = some (.cells #[.int .i64 y.op, .int .i64 y.i, .int .i64 y.e, .int .i64 y.g, .int .i64 y.x, .int .i64 y.y] 46 (0, 0)))
    (hlay : layout (ops.drop k) k f y = layout (ops.drop (k + 1)) (k + 1) (f ++ (compactN o).map (shiftN f.length)) (setOp k y (f ++ (compactN o).map (shiftN f.length)).length))
    (hany : (ops.drop k).any (fun o => check o != 0) = (check o != 0 || (ops.drop (k + 1)).any (fun o => check o != 0))) (hc : check o = 0) (hcl : cl = compactN o) (hwf : Wf cl) (hlen : cl.length ≤ 200) (hok : ∀ n ∈ cl, n.ok)
    (slot : Nat) (hslot : slot = bif k == 0 then 4 else 5) (z : Int) (hz : z = ((f.length + cl.length : Nat) : Int) - 1) :
    BOut w (wr.setCell ⟨w.heap.size, slot, none⟩ (.int .i64 z)) ops x (k + 1) (f ++ cl.map (shiftN f.length)) (setOp k y (f ++ cl.map (shiftN f.length)).length) v6 := by
  have hll : (f ++ cl.map (shiftN f.length)).length = f.length + cl.length := by simp
  have hlt := lt_heap hbox
  have hxb : wr.heap[w.heap.size]? = some (.cells #[.int .i64 y.op, .int .i64 y.i, .int .i64 y.e, .int .i64 y.g, .int .i64 y.x, .int .i64 y.y] 46 (0, 0)) := (hst.block _ hlt (row_ne hrow5)).trans hbox
  rw [List.take_of_length_le (Nat.le_refl _)] at hrow
  refine ⟨?_, ?_, ?_, ?_, ?_, shift_wf h.wf hwf, ?_, setOp_ok h.yok (by have := h.len; omega), by have := h.len; omega⟩
  · rw [hll]
    exact ownsRow_setCell_other hrow (row_ne hrow) _
  · have hb : Below (w.heap.size + 1) wi wr := hst.below hlt (fun g hg => (hrow5.lt g hg).1)
    exact Ext.setCell (Below.trans hx (Below.mono hb (Nat.le_succ _))) (Nat.le_refl _) _
  · simp only [World.setCell, Array.getElem?_modify, hxb, if_true, Option.map_some]
    rw [hll]
    subst hslot hz
    unfold setOp
    cases e : k == 0
    · simp
    · simp
  · rw [← h.lay, hlay, hcl]
  · rw [h.any, hany, hc]
    rfl
  · intro n hn
    rcases List.mem_append.1 hn with hn | hn
    · exact h.oks n hn
    · obtain ⟨m, hm, rfl⟩ := List.mem_map.1 hn
      obtain ⟨i, hi⟩ := List.getElem?_of_mem hm
      have hil : i < cl.length := (List.getElem?_eq_some_iff.1 hi).1
      obtain ⟨h1, h2⟩ := hwf i m hi
      exact shift_ok (hok m hm) (fun e => by have := h1 e; omega) (fun e => by have := h2 e; omega) (by have := h.len; omega)
theorem BOut.end_ {w wr : World} {ops : List (List Nd)} {x y : Nd} {f : List Nd} {v : Value} (h : BOut w wr ops x ops.length f y v) : buildN x ops = joinN f y := by
  have h1 := h.lay
  have h2 := h.any
  rw [List.drop_length] at h1 h2
  unfold buildN
  rw [h2, ← h1]
  rfl
theorem BOut.bad {w wr : World} {ops : List (List Nd)} {x y : Nd} {k : Nat} {f o : List Nd} {v : Value} (h : BOut w wr ops x k f y v) (hc : check o ≠ 0)
    (hany : (ops.drop k).any (fun o => check o != 0) = (check o != 0 || (ops.drop (k + 1)).any (fun o => check o != 0))) : buildN x ops = [] := by
  have hb : (check o != 0) = true := by simpa using hc
  unfold buildN
  rw [h.any, hany, hb]
  rfl
theorem join_bad {f : List Nd} {y : Nd} (h : nodeErr y f.length ≠ 0) : joinN f y = [] := by
  have hb : (nodeErr y f.length != 0) = true := by simpa using h
  unfold joinN
  rw [hb]
  rfl
theorem join_long {f : List Nd} {y : Nd} (h : nodeErr y f.length = 0) (hl : 200 < (finN (f ++ [y]) f.length []).1.length) : joinN f y = [] := by
  unfold joinN
  simp [h, hl]
theorem join_ok {f : List Nd} {y : Nd} (h : nodeErr y f.length = 0) (hl : ¬ 200 < (finN (f ++ [y]) f.length []).1.length) : joinN f y = (finN (f ++ [y]) f.length []).1 := by
  unfold joinN
  simp [h, hl]
theorem join_wf {f : List Nd} {y : Nd} (hf : Wf f) (h : nodeErr y f.length = 0) : Wf (f ++ [y]) := by
  obtain ⟨hx, hy⟩ := nodeErr_xy h
  refine wf_snoc hf (fun e => ?_) (fun e => ?_)
  · rw [e] at hx; simp [operandOk] at hx; omega
  · rw [e] at hy; simp [operandOk] at hy; omega
end Go.Proofs.YtohoddkcpfamlaaDoor

/- Cells of small blocks. -/

namespace Go.Proofs.YtohoddkcpfamlaaDoor
open Go.RowKit

theorem cells2 {w : World} {b : Nat} {a0 a1 : Value} {t : TypeId} (h : w.heap[b]? = some (.cells #[a0, a1] t (0, 0))) :
    w.cell? ⟨b, 0, none⟩ = some a0 ∧ w.cell? ⟨b, 1, none⟩ = some a1 ∧ (∀ j, w.frozen? ⟨b, j, none⟩ = false) ∧ b < w.heap.size :=
  ⟨by simp [World.cell?, h], by simp [World.cell?, h], fun j => by simp [World.frozen?, h], lt_heap h⟩

theorem set_first {w : World} {b : Nat} {a0 a1 : Value} {t : TypeId} (h : w.heap[b]? = some (.cells #[a0, a1] t (0, 0))) (u : Value) : (w.setCell ⟨b, 0, none⟩ u).heap[b]? = some (.cells #[u, a1] t (0, 0)) := by
  simp only [World.setCell, Array.getElem?_modify, h, if_true, Option.map_some]
  simp
theorem set_second {w : World} {b : Nat} {a0 a1 : Value} {t : TypeId} (h : w.heap[b]? = some (.cells #[a0, a1] t (0, 0))) (u : Value) : (w.setCell ⟨b, 1, none⟩ u).heap[b]? = some (.cells #[a0, u] t (0, 0)) := by
  simp only [World.setCell, Array.getElem?_modify, h, if_true, Option.map_some]
  simp

theorem tInfo3 : (Tryd.prog.info? 3).map (fun i => (i.zero, i.size, i.bytes)) = some (some (.int .i64 0), 1, 8) := by kernel_rfl

end Go.Proofs.YtohoddkcpfamlaaDoor

/- formula.build: the canonical list of a node with operands. -/

namespace Go.Proofs.YtohoddkcpfamlaaDoor
open Go.RowKit

theorem compact_len (f : List Nd) (A : Option Addr) (c r n : Nat) (w : World) (hn : f.length = n) (hf : Wf f) (hok : ∀ n ∈ f, n.ok) (hlen : f.length ≤ 1000) (hr : r < f.length) (h : NdsAt w A c f) :
    Calls Tryd.prog 53 #[.slice A n c, .int .i64 r] w fun e w' => ∃ v, e = .returned v ∧ w'.ownsRow w.heap.size 46 6 v (finN f r []).1.length ((finN f r []).1.flatMap Nd.cells) ∧ (∀ n ∈ (finN f r []).1, n.ok) ∧ Ext w w' := by
  subst hn
  exact compact_any f A c r w hf hok hlen hr h

set_option maxRecDepth 100000 in
set_option maxHeartbeats 4000000 in
theorem build_any (x : Nd) (v : Value) (ops : List (List Nd)) (w : World) (hx : x.ok) (hops : Fmls w v ops) (hn : ops.length ≤ 2) :
    Calls Tryd.prog 25 #[.agg #[.int .i64 x.op, .int .i64 x.i, .int .i64 x.e, .int .i64 x.g, .int .i64 x.x, .int .i64 x.y], v] w fun e w' => ∃ u, e = .returned u ∧ Made w w' u (buildN x ops) := by
  obtain ⟨A, c, rfl, hcap, hmax, hread⟩ := hops
  unfold maxLen at hmax
  have HREAD := Lib.hid hread
  have HXOK := Lib.hid hx
  obtain ⟨i0, hi0, hz0', hz1', hz2'⟩ := info_parts tInfo
  clear hread hx
  go_enter Tryd.func25, Tryd.ntmps25
  go_wp2_with fail
  go_loopw [5, 16] (fun v5 i wr => ∃ (k : Nat) (f : List Nd) (y : Nd), k ≤ ops.length ∧ i = .int .i64 k ∧ Hid (BOut w wr ops x k f y v5)) (fun _ i _ => ops.length - (intOf i).toNat)
  case atStart => exact ⟨0, [], x, Nat.zero_le _, rfl, Lib.hid ⟨World.ownsRow_nil _ _ _ _, (Ext.refl _).alloc _, heap_alloc_new _ _, rfl, rfl, wf_nil, by simp, HXOK.out, Nat.le_refl _⟩⟩
  case round =>
    obtain ⟨wo, rfl⟩ : ∃ wo : World, wo = wr := ⟨_, rfl⟩
    obtain ⟨k, f, y, hk, rfl, HO⟩ := hrel
    obtain ⟨A5, c5, rfl⟩ := slice_of_row HO.out.row
    have hflen := HO.out.len
    by_cases hlt : k < ops.length
    · obtain ⟨o, ho⟩ : ∃ o, ops[k]? = some o := ⟨_, List.getElem?_eq_getElem hlt⟩
      obtain ⟨ad, rfl, hb1, hc1⟩ := HREAD.out (by intro e; rw [e] at hlt; simp at hlt)
      obtain ⟨u, hu, hfu⟩ := hc1 k o ho
      have cu := (HO.out.ext.cell (p := ad.add k) (by rw [block_of_add]; exact hb1)).trans hu
      have HFU := Lib.hid (hfu.ext HO.out.ext)
      have HLAY := Lib.hid (layout_step ops k o f y ho)
      have HANY := Lib.hid (any_step ops k o ho)
      obtain ⟨Au, cuu, rfl, _⟩ := fml_slice hfu
      clear hc1 hu hfu ho
      by_cases hc : check o = 0
      · have HC := Lib.hid hc
        clear hc
        go_wp2_with fail
        refine (check_any _ o _ HFU.out.1).mono ?_
        rintro e w1 ⟨rfl, hb⟩
        rw [HC.out]
        have HX1 := Lib.hid hb
        clear hb cu
        go_wp2_with fail
        refine (compactF_any _ o _ (HFU.out.ext HX1.out)).mono ?_
        rintro e wi ⟨uc, rfl, hm⟩
        have HM := Lib.hid hm
        obtain ⟨Ac, cc, rfl, hcc⟩ := fml_slice hm.fml
        have hclr := hcc.2.2
        have hccap := hcc.1
        have hccm := hcc.2.1
        unfold maxLen at hccm
        have HCLR := Lib.hid hclr
        have hp := compactN_props HC.out
        have hlen200 := (check_parts HC.out).2.1
        have hcl1 : (compactN o).length ≤ 200 := by omega
        have hcl0 := hp.2.2.1
        have HWFC := Lib.hid hp.1
        have HOKC := Lib.hid hm.2.1
        have HX2 := Lib.hid (HO.out.ext.trans (HX1.out.trans hm.2.2))
        have HROWI : Hid (wi.ownsRow (w.heap.size + 1) 46 6 (.slice A5 f.length c5) f.length (f.flatMap Nd.cells)) := Lib.hid (row_ext HO.out.row (HX1.out.trans hm.2.2))
        have HBOXI : Hid (wi.heap[w.heap.size]? = some (.cells #[.int .i64 y.op, .int .i64 y.i, .int .i64 y.e, .int .i64 y.g, .int .i64 y.x, .int .i64 y.y] 46 (0, 0))) :=
          Lib.hid (((HX1.out.trans hm.2.2).block (lt_heap HO.out.box)).trans HO.out.box)
        have HNEW := Lib.hid (new_apart hm HO.out.row HX1.out)
        obtain ⟨cl, hcl⟩ : ∃ cl, cl = compactN o := ⟨_, rfl⟩
        have HCL := Lib.hid hcl
        rw [← hcl] at HCLR hccap hcl1 hcl0 HWFC HOKC
        rw [← hcl]
        clear hm hcc hclr hp hcl
        go_wp2_with fail
        go_loopw [5, 29] (fun v5 i wr => ∃ j : Nat, j ≤ cl.length ∧ i = .int .i64 j ∧ Hid (wr.ownsRow (w.heap.size + 1) 46 6 v5 (f.length + j) ((f ++ (cl.take j).map (shiftN f.length)).flatMap Nd.cells)) ∧ Hid (RStep wi wr (.slice A5 f.length c5) v5)) (fun _ i _ => cl.length - (intOf i).toNat)
        case atStart => exact ⟨0, Nat.zero_le _, rfl, Lib.hid (by simpa using HROWI.out), Lib.hid (RStep.refl _ _)⟩
        case round =>
          obtain ⟨j, hj, rfl, HROW2, HST⟩ := hrel
          obtain ⟨A6, c6, rfl⟩ := slice_of_row HROW2.out
          by_cases hlt2 : j < cl.length
          · obtain ⟨a, ha⟩ : ∃ a, cl[j]? = some a := ⟨_, List.getElem?_eq_getElem hlt2⟩
            obtain ⟨adc, rfl, hbc, hcc2⟩ := HCLR.out (by intro e; rw [e] at hlt2; simp at hlt2)
            obtain ⟨a0, a1, a2, a3, a4, a5⟩ := (hcc2 j a ha).keep fun p hp => HST.out.cell (p := p) (by rw [hp, block_of_add]; exact hbc) (by rw [hp, block_of_add]; exact (HNEW.out adc rfl).1)
            obtain ⟨xs, hxs⟩ : ∃ xs, xs = (f ++ (cl.take j).map (shiftN f.length)).flatMap Nd.cells := ⟨_, rfl⟩
            rw [← hxs] at HROW2
            have HXS := Lib.hid hxs
            clear hxs
            have hxy := HWFC.out j a ha
            have haok := HOKC.out a (List.mem_of_getElem? ha)
            have HTK := Lib.hid (take_succ_eq ha)
            have hc3 : f.length + j + 1 ≤ maxLen := by unfold maxLen; omega
            have hc4 : (f.length + j + 1) * 48 ≤ 140737488355328 := by omega
            have HX3 : Hid (w.heap.size + 1 ≤ wr.heap.size) := Lib.hid (Nat.le_trans (Nat.succ_le_of_lt (lt_heap HBOXI.out)) HST.out.size)
            have hxb : hasX a.op = true → 0 ≤ a.x ∧ a.x < 200 := fun e => by have := hxy.1 e; omega
            have hyb : hasY a.op = true → 0 ≤ a.y ∧ a.y < 200 := fun e => by have := hxy.2 e; omega
            clear hcc2 hxy haok ha
            rcases xy_cases a.op with ⟨hux, huy⟩ | ⟨hux, huy⟩ | ⟨hux, huy⟩

            · -- no operands
              have HUX := Lib.hid hux; have HUY := Lib.hid huy
              have HN2 : Hid (xs ++ [.int .i64 a.op, .int .i64 a.i, .int .i64 a.e, .int .i64 a.g, .int .i64 (a.x), .int .i64 (a.y)] = (f ++ (cl.take (j + 1)).map (shiftN f.length)).flatMap Nd.cells) :=
                Lib.hid (by rw [HXS.out, HTK.out, List.map_append, ← List.append_assoc, List.flatMap_append]; simp [shiftN, hux, huy, Nd.cells])
              clear hux huy hxb hyb
              go_wp2_with (first | (go_at_call 30; refine (uses_as _ _ _ _ _ _ _ _ HUX.out HUY.out rfl rfl rfl rfl rfl _).mono ?_; rintro e w2 ⟨rfl, hb⟩; have HB := Lib.hid hb; obtain ⟨hc, hfz, hz0⟩ := hb.facts; clear hb; have hz : wr.heap.size < w2.heap.size := by { simp at hz0; omega }; clear hz0) | (at_builtin; refine wpList_append_own_at _ rfl _ _ 28 rfl (w.heap.size + 1) 46 i0 Nd.zero.val 6 48 Tryd.underlying28 hi0 hz0' hz1' hz2' rfl (by decide) _ _ _ rfl (row_ext HROW2.out ?hx) _ 1 1 [.int .i64 a.op, .int .i64 a.i, .int .i64 a.e, .int .i64 a.g, .int .i64 (a.x), .int .i64 (a.y)] rfl rfl ?c1 ?c2 hc3 hc4 ?c5 ?_))
              case hx => exact (((((Ext.refl _).alloc _).trans HB.out).alloc _).alloc _)
              case c1 => exact row_new_at _ _ _ (by simp)
              case c2 =>
                intro u hu
                simp only [List.mem_cons, List.mem_nil_iff, or_false] at hu
                rcases hu with rfl | rfl | rfl | rfl | rfl | rfl <;> rfl
              case c5 =>
                have h1 := HX3.out
                have h2 := HB.out.size
                simp at h2 ⊢
                omega
              intro v' w4 hown4 hgrow4 _ hat4
              have HROW4 := Lib.hid hown4
              have HST4 := Lib.hid ((HST.out.ext (((((Ext.refl _).alloc _).trans HB.out).alloc _).alloc _)).appended hgrow4 (hat4.imp id fun e => by rw [e]; simp))
              obtain ⟨A4, c4', rfl⟩ := slice_of_row hown4
              clear hown4 hgrow4 hat4
              go_wp2_with fail
              go_roundw
              case rel => exact ⟨j + 1, by omega, by go_num, Lib.hid (by rw [← HN2.out]; exact HROW4.out), HST4⟩
              case measure => simp [intOf]; omega

            · -- one operand
              obtain ⟨bx0, bx1⟩ := hxb hux
              have HUX := Lib.hid hux; have HUY := Lib.hid huy
              have HN2 : Hid (xs ++ [.int .i64 a.op, .int .i64 a.i, .int .i64 a.e, .int .i64 a.g, .int .i64 (a.x + (f.length : Int)), .int .i64 (a.y)] = (f ++ (cl.take (j + 1)).map (shiftN f.length)).flatMap Nd.cells) :=
                Lib.hid (by rw [HXS.out, HTK.out, List.map_append, ← List.append_assoc, List.flatMap_append]; simp [shiftN, hux, huy, Nd.cells])
              clear hux huy hxb hyb
              go_wp2_with (first | (go_at_call 30; refine (uses_as _ _ _ _ _ _ _ _ HUX.out HUY.out rfl rfl rfl rfl rfl _).mono ?_; rintro e w2 ⟨rfl, hb⟩; have HB := Lib.hid hb; obtain ⟨hc, hfz, hz0⟩ := hb.facts; clear hb; have hz : wr.heap.size < w2.heap.size := by { simp at hz0; omega }; clear hz0) | (at_builtin; refine wpList_append_own_at _ rfl _ _ 28 rfl (w.heap.size + 1) 46 i0 Nd.zero.val 6 48 Tryd.underlying28 hi0 hz0' hz1' hz2' rfl (by decide) _ _ _ rfl (row_ext HROW2.out ?hx) _ 1 1 [.int .i64 a.op, .int .i64 a.i, .int .i64 a.e, .int .i64 a.g, .int .i64 (a.x + (f.length : Int)), .int .i64 (a.y)] rfl rfl ?c1 ?c2 hc3 hc4 ?c5 ?_))
              case hx => exact (((Ext.setCell (p := ⟨wr.heap.size, 4, none⟩) (((Ext.refl _).alloc _).trans HB.out) (Nat.le_refl _) _).alloc _).alloc _)
              case c1 => exact row_new_at _ _ _ (by simp)
              case c2 =>
                intro u hu
                simp only [List.mem_cons, List.mem_nil_iff, or_false] at hu
                rcases hu with rfl | rfl | rfl | rfl | rfl | rfl <;> rfl
              case c5 =>
                have h1 := HX3.out
                have h2 := HB.out.size
                simp at h2 ⊢
                omega
              intro v' w4 hown4 hgrow4 _ hat4
              have HROW4 := Lib.hid hown4
              have HST4 := Lib.hid ((HST.out.ext (((Ext.setCell (p := ⟨wr.heap.size, 4, none⟩) (((Ext.refl _).alloc _).trans HB.out) (Nat.le_refl _) _).alloc _).alloc _)).appended hgrow4 (hat4.imp id fun e => by rw [e]; simp))
              obtain ⟨A4, c4', rfl⟩ := slice_of_row hown4
              clear hown4 hgrow4 hat4
              go_wp2_with fail
              go_roundw
              case rel => exact ⟨j + 1, by omega, by go_num, Lib.hid (by rw [← HN2.out]; exact HROW4.out), HST4⟩
              case measure => simp [intOf]; omega

            · -- two operands
              obtain ⟨bx0, bx1⟩ := hxb hux
              obtain ⟨by0, by1⟩ := hyb huy
              have HUX := Lib.hid hux; have HUY := Lib.hid huy
              have HN2 : Hid (xs ++ [.int .i64 a.op, .int .i64 a.i, .int .i64 a.e, .int .i64 a.g, .int .i64 (a.x + (f.length : Int)), .int .i64 (a.y + (f.length : Int))] = (f ++ (cl.take (j + 1)).map (shiftN f.length)).flatMap Nd.cells) :=
                Lib.hid (by rw [HXS.out, HTK.out, List.map_append, ← List.append_assoc, List.flatMap_append]; simp [shiftN, hux, huy, Nd.cells])
              clear hux huy hxb hyb
              go_wp2_with (first | (go_at_call 30; refine (uses_as _ _ _ _ _ _ _ _ HUX.out HUY.out rfl rfl rfl rfl rfl _).mono ?_; rintro e w2 ⟨rfl, hb⟩; have HB := Lib.hid hb; obtain ⟨hc, hfz, hz0⟩ := hb.facts; clear hb; have hz : wr.heap.size < w2.heap.size := by { simp at hz0; omega }; clear hz0) | (at_builtin; refine wpList_append_own_at _ rfl _ _ 28 rfl (w.heap.size + 1) 46 i0 Nd.zero.val 6 48 Tryd.underlying28 hi0 hz0' hz1' hz2' rfl (by decide) _ _ _ rfl (row_ext HROW2.out ?hx) _ 1 1 [.int .i64 a.op, .int .i64 a.i, .int .i64 a.e, .int .i64 a.g, .int .i64 (a.x + (f.length : Int)), .int .i64 (a.y + (f.length : Int))] rfl rfl ?c1 ?c2 hc3 hc4 ?c5 ?_))
              case hx => exact (((Ext.setCell (p := ⟨wr.heap.size, 5, none⟩) (Ext.setCell (p := ⟨wr.heap.size, 4, none⟩) (((Ext.refl _).alloc _).trans HB.out) (Nat.le_refl _) _) (Nat.le_refl _) _).alloc _).alloc _)
              case c1 => exact row_new_at _ _ _ (by simp)
              case c2 =>
                intro u hu
                simp only [List.mem_cons, List.mem_nil_iff, or_false] at hu
                rcases hu with rfl | rfl | rfl | rfl | rfl | rfl <;> rfl
              case c5 =>
                have h1 := HX3.out
                have h2 := HB.out.size
                simp at h2 ⊢
                omega
              intro v' w4 hown4 hgrow4 _ hat4
              have HROW4 := Lib.hid hown4
              have HST4 := Lib.hid ((HST.out.ext (((Ext.setCell (p := ⟨wr.heap.size, 5, none⟩) (Ext.setCell (p := ⟨wr.heap.size, 4, none⟩) (((Ext.refl _).alloc _).trans HB.out) (Nat.le_refl _) _) (Nat.le_refl _) _).alloc _).alloc _)).appended hgrow4 (hat4.imp id fun e => by rw [e]; simp))
              obtain ⟨A4, c4', rfl⟩ := slice_of_row hown4
              clear hown4 hgrow4 hat4
              go_wp2_with fail
              go_roundw
              case rel => exact ⟨j + 1, by omega, by go_num, Lib.hid (by rw [← HN2.out]; exact HROW4.out), HST4⟩
              case measure => simp [intOf]; omega

          · obtain rfl : cl.length = j := by omega
            clear hlt2
            have hlast : 1 ≤ f.length + cl.length := by omega
            have HBX : Hid (wr.heap[w.heap.size]? = some (.cells #[.int .i64 y.op, .int .i64 y.i, .int .i64 y.e, .int .i64 y.g, .int .i64 y.x, .int .i64 y.y] 46 (0, 0))) :=
              Lib.hid ((HST.out.block _ (lt_heap HBOXI.out) (row_ne HROWI.out)).trans HBOXI.out)
            obtain ⟨⟨d0, d1, d2, d3, d4, d5⟩, dfr, dlt⟩ := cells6 HBX.out
            by_cases hk0 : k = 0
            · -- the first operand
              obtain rfl : k = 0 := hk0
              go_wp2_with fail
              go_roundw
              case rel => exact ⟨0 + 1, _, _, by omega, by go_num, Lib.hid (HO.out.next (by omega) HX2.out HROWI.out HST.out HROW2.out HBOXI.out HLAY.out HANY.out HC.out HCL.out HWFC.out hcl1 HOKC.out 4 rfl _ (by go_num))⟩
              case measure => simp [intOf]; omega
            · -- the second
              have hkb : ((k : Int) == 0) = false := by rw [beq_eq_false_iff_ne]; omega
              have HKB := Lib.hid hk0
              clear hk0
              go_wp2_with fail
              go_roundw
              case rel => exact ⟨k + 1, _, _, by omega, by go_num, Lib.hid (HO.out.next (by omega) HX2.out HROWI.out HST.out HROW2.out HBOXI.out HLAY.out HANY.out HC.out HCL.out HWFC.out hcl1 HOKC.out 5 (by have e : (k == 0) = false := by { rw [beq_eq_false_iff_ne]; exact HKB.out }; rw [e]; rfl) _ (by go_num))⟩
              case measure => simp [intOf]; omega
      · have HB0 := Lib.hid (HO.out.bad hc HANY.out)
        have hcb : (check o != 0) = true := by simpa using hc
        clear hc
        go_wp2_with fail
        refine (check_any _ o _ HFU.out.1).mono ?_
        rintro e w1 ⟨rfl, hb⟩
        have HX1 := Lib.hid (HO.out.ext.trans hb)
        clear hb
        go_wp2_with fail
        go_ret
        exact ⟨_, rfl, by rw [HB0.out]; exact (Made.none_ _).after HX1.out⟩
    · obtain rfl : ops.length = k := by omega
      have HJ := Lib.hid HO.out.end_
      obtain ⟨⟨d0, d1, d2, d3, d4, d5⟩, dfr, dlt⟩ := cells6 HO.out.box
      by_cases hne : nodeErr y f.length = 0
      · have HNE := Lib.hid hne
        clear hne
        go_wp2_with fail
        refine (nodeError_any y _ _).mono ?_
        rintro e w1 ⟨rfl, hb⟩
        rw [HNE.out]
        have HX1 := Lib.hid hb
        have HROW1 := Lib.hid (row_ext HO.out.row hb)
        have HBX : Hid (w1.heap[w.heap.size]? = some (.cells #[.int .i64 y.op, .int .i64 y.i, .int .i64 y.e, .int .i64 y.g, .int .i64 y.x, .int .i64 y.y] 46 (0, 0))) := Lib.hid ((hb.block (lt_heap HO.out.box)).trans HO.out.box)
        clear hb d0 d1 d2 d3 d4 d5 dfr dlt
        obtain ⟨⟨d0, d1, d2, d3, d4, d5⟩, dfr, dlt⟩ := cells6 HBX.out
        obtain ⟨xs, hxs⟩ : ∃ xs, xs = f.flatMap Nd.cells := ⟨_, rfl⟩
        rw [← hxs] at HROW1
        have HXS := Lib.hid hxs
        clear hxs
        have hc3 : f.length + 1 ≤ maxLen := by unfold maxLen; omega
        have hc4 : (f.length + 1) * 48 ≤ 140737488355328 := by omega
        go_wp2_with (at_builtin; refine wpList_append_own_at _ rfl _ _ 28 rfl (w.heap.size + 1) 46 i0 Nd.zero.val 6 48 Tryd.underlying28 hi0 hz0' hz1' hz2' rfl (by decide) _ _ _ rfl (row_ext HROW1.out ?hx) _ 1 1 y.cells rfl rfl ?c1 (node_cells y) hc3 hc4 ?c5 ?_)
        case hx => exact (Ext.refl _).alloc _
        case c1 => exact row_new_at _ _ _ rfl
        case c5 => simp; omega
        intro v' w4 hown4 hgrow4 _ hat4
        have HROW4 : Hid (w4.ownsRow (w.heap.size + 1) 46 6 v' (f ++ [y]).length ((f ++ [y]).flatMap Nd.cells)) := Lib.hid (by rw [HXS.out] at hown4; simpa using hown4)
        have HX4 : Hid (Ext w w4) := Lib.hid ((((HO.out.ext.trans HX1.out).alloc _).grown hgrow4 (fun g hg => by have := (HO.out.row.lt g hg).1; omega)))
        obtain ⟨A7, c7, hv7, hat7⟩ := nds_of_row HROW4.out
        have HAT7 := Lib.hid hat7
        have e7 : (f ++ [y]).length = f.length + 1 := by simp
        rw [e7] at hv7
        have HWF := Lib.hid (join_wf HO.out.wf HNE.out)
        have HOKS : Hid (∀ n ∈ f ++ [y], n.ok) := Lib.hid (fun n hn => by
          rcases List.mem_append.1 hn with hn | hn
          · exact HO.out.oks n hn
          · rw [List.mem_singleton.1 hn]; exact HO.out.yok)
        have HE7 := Lib.hid e7
        subst hv7
        clear hown4 hgrow4 hat4 hat7 e7
        go_wp2_with fail
        refine (compact_len (f ++ [y]) A7 c7 f.length (f.length + 1) _ HE7.out HWF.out HOKS.out (by rw [HE7.out]; omega) (by rw [HE7.out]; omega) HAT7.out).mono ?_
        rintro e w5 ⟨u5, rfl, hrow5, hoks5, hext5⟩
        have HM5 := Lib.hid (show Made w w5 u5 (finN (f ++ [y]) f.length []).1 from Made.before ⟨hrow5, hoks5, hext5⟩ HX4.out)
        obtain ⟨A8, c8, rfl⟩ := slice_of_row hrow5
        clear hrow5 hoks5 hext5
        by_cases hlong : 200 < (finN (f ++ [y]) f.length []).1.length
        · have HLJ := Lib.hid (join_long HNE.out hlong)
          generalize (finN (f ++ [y]) f.length []).1 = cf at HM5 hlong
          go_wp2_with fail
          go_ret
          exact ⟨_, rfl, by rw [HJ.out, HLJ.out]; exact (Made.none_ _).after HM5.out.2.2⟩
        · have HLJ := Lib.hid (join_ok HNE.out hlong)
          generalize (finN (f ++ [y]) f.length []).1 = cf at HM5 hlong HLJ
          go_wp2_with fail
          go_ret
          exact ⟨_, rfl, by rw [HJ.out, HLJ.out]; exact HM5.out⟩
      · have HB0 := Lib.hid (join_bad hne)
        have hcb : (nodeErr y f.length != 0) = true := by simpa using hne
        clear hne
        go_wp2_with fail
        refine (nodeError_any y _ _).mono ?_
        rintro e w1 ⟨rfl, hb⟩
        have HX1 := Lib.hid (HO.out.ext.trans hb)
        clear hb
        go_wp2_with fail
        go_ret
        exact ⟨_, rfl, by rw [HJ.out, HB0.out]; exact (Made.none_ _).after HX1.out⟩
end Go.Proofs.YtohoddkcpfamlaaDoor

/- The constructors of formulas. -/

namespace Go.Proofs.YtohoddkcpfamlaaDoor
open Go.RowKit

theorem fmls_nil (w : World) : Fmls w (.slice none 0 0) [] := ⟨none, 0, rfl, Nat.le_refl _, by unfold maxLen; omega, fun h => absurd rfl h⟩
theorem fmls_one {w : World} {v : Value} {f : List Nd} (h : Fml w v f) : Fmls (w.alloc (.cells #[v] 28)) (.slice (some ⟨w.heap.size, 0, none⟩) 1 1) [f] := by
  refine ⟨_, _, rfl, Nat.le_refl _, by unfold maxLen; simp, fun _ => ⟨_, rfl, by simp, fun k l hk => ?_⟩⟩
  match k, hk with
  | 0, hk =>
    simp only [List.getElem?_cons_zero, Option.some.injEq] at hk
    subst hk
    exact ⟨v, row_new w #[v] 28 0 v rfl, h.ext ((Ext.refl _).alloc _)⟩
theorem fmls_two {w : World} {v1 v2 : Value} {f g : List Nd} (h1 : Fml w v1 f) (h2 : Fml w v2 g) : Fmls (w.alloc (.cells #[v1, v2] 28)) (.slice (some ⟨w.heap.size, 0, none⟩) 2 2) [f, g] := by
  refine ⟨_, _, rfl, Nat.le_refl _, by unfold maxLen; simp, fun _ => ⟨_, rfl, by simp, fun k l hk => ?_⟩⟩
  match k, hk with
  | 0, hk =>
    simp only [List.getElem?_cons_zero, Option.some.injEq] at hk
    subst hk
    exact ⟨v1, row_new w #[v1, v2] 28 0 v1 rfl, h1.ext ((Ext.refl _).alloc _)⟩
  | 1, hk =>
    simp only [List.getElem?_cons_succ, List.getElem?_cons_zero, Option.some.injEq] at hk
    subst hk
    exact ⟨v2, row_new w #[v1, v2] 28 1 v2 rfl, h2.ext ((Ext.refl _).alloc _)⟩
theorem small_ok {a b c d e g : Int} (ha : i64ok a) (hb : i64ok b) (hc : i64ok c) (hd : i64ok d) (he : i64ok e) (hg : i64ok g) : (Nd.mk a b c d e g).ok := ⟨ha, hb, hc, hd, he, hg⟩
theorem i64_small {a : Int} (h0 : 0 ≤ a) (h1 : a ≤ 1000) : i64ok a := ⟨by omega, by omega⟩

def trueN : List Nd := buildN ⟨1, 0, 0, 0, 0, 0⟩ []
set_option maxHeartbeats 400000 in
theorem true_any (w : World) :
    Calls Tryd.prog 29 #[] w fun e w' => ∃ u, e = .returned u ∧ Made w w' u (trueN) := by
  go_enter Tryd.func29, Tryd.ntmps29
  go_wp2_with fail
  refine (build_any ⟨1, 0, 0, 0, 0, 0⟩ _ [] _ (small_ok (i64_small (by omega) (by omega)) (i64_small (by omega) (by omega)) (i64_small (by omega) (by omega)) (i64_small (by omega) (by omega)) (i64_small (by omega) (by omega)) (i64_small (by omega) (by omega))) (fmls_nil _) (by simp)).mono ?_
  rintro e w1 ⟨u, rfl, hm⟩
  have HM := Lib.hid hm
  clear hm
  go_wp2_with fail
  go_ret
  exact ⟨_, rfl, HM.out⟩

def falseN : List Nd := buildN ⟨2, 0, 0, 0, 0, 0⟩ []
set_option maxHeartbeats 400000 in
theorem false_any (w : World) :
    Calls Tryd.prog 35 #[] w fun e w' => ∃ u, e = .returned u ∧ Made w w' u (falseN) := by
  go_enter Tryd.func35, Tryd.ntmps35
  go_wp2_with fail
  refine (build_any ⟨2, 0, 0, 0, 0, 0⟩ _ [] _ (small_ok (i64_small (by omega) (by omega)) (i64_small (by omega) (by omega)) (i64_small (by omega) (by omega)) (i64_small (by omega) (by omega)) (i64_small (by omega) (by omega)) (i64_small (by omega) (by omega))) (fmls_nil _) (by simp)).mono ?_
  rintro e w1 ⟨u, rfl, hm⟩
  have HM := Lib.hid hm
  clear hm
  go_wp2_with fail
  go_ret
  exact ⟨_, rfl, HM.out⟩

def factN (a : Int) : List Nd := buildN ⟨3, a, 0, 0, 0, 0⟩ []
set_option maxHeartbeats 400000 in
theorem fact_any (a : Int) (ha : i64ok a) (w : World) :
    Calls Tryd.prog 11 #[.int .i64 a] w fun e w' => ∃ u, e = .returned u ∧ Made w w' u (factN a) := by
  go_enter Tryd.func11, Tryd.ntmps11
  go_wp2_with fail
  refine (build_any ⟨3, a, 0, 0, 0, 0⟩ _ [] _ (small_ok (i64_small (by omega) (by omega)) ha (i64_small (by omega) (by omega)) (i64_small (by omega) (by omega)) (i64_small (by omega) (by omega)) (i64_small (by omega) (by omega))) (fmls_nil _) (by simp)).mono ?_
  rintro e w1 ⟨u, rfl, hm⟩
  have HM := Lib.hid hm
  clear hm
  go_wp2_with fail
  go_ret
  exact ⟨_, rfl, HM.out⟩

def notN (f : List Nd) : List Nd := buildN ⟨4, 0, 0, 0, 0, 0⟩ [f]
set_option maxHeartbeats 400000 in
theorem not_any (v1 : Value) (f : List Nd) (w : World) (h1 : Fml w v1 f) :
    Calls Tryd.prog 36 #[v1] w fun e w' => ∃ u, e = .returned u ∧ Made w w' u (notN f) := by
  have H1 := Lib.hid h1
  obtain ⟨A1, c1, rfl, _⟩ := fml_slice h1
  clear h1
  go_enter Tryd.func36, Tryd.ntmps36
  go_wp2_with fail
  refine (build_any ⟨4, 0, 0, 0, 0, 0⟩ _ [f] _ (small_ok (i64_small (by omega) (by omega)) (i64_small (by omega) (by omega)) (i64_small (by omega) (by omega)) (i64_small (by omega) (by omega)) (i64_small (by omega) (by omega)) (i64_small (by omega) (by omega))) (fmls_one H1.out) (by simp)).mono ?_
  rintro e w1 ⟨u, rfl, hm⟩
  have HM := Lib.hid hm
  clear hm
  go_wp2_with fail
  go_ret
  exact ⟨_, rfl, (HM.out.before ((Ext.refl _).alloc _))⟩

def andN (f g : List Nd) : List Nd := buildN ⟨5, 0, 0, 0, 0, 0⟩ [f, g]
set_option maxHeartbeats 400000 in
theorem and_any (v1 v2 : Value) (f g : List Nd) (w : World) (h1 : Fml w v1 f) (h2 : Fml w v2 g) :
    Calls Tryd.prog 37 #[v1, v2] w fun e w' => ∃ u, e = .returned u ∧ Made w w' u (andN f g) := by
  have H1 := Lib.hid h1
  have H2 := Lib.hid h2
  obtain ⟨A1, c1, rfl, _⟩ := fml_slice h1
  obtain ⟨A2, c2, rfl, _⟩ := fml_slice h2
  clear h1 h2
  go_enter Tryd.func37, Tryd.ntmps37
  go_wp2_with fail
  refine (build_any ⟨5, 0, 0, 0, 0, 0⟩ _ [f, g] _ (small_ok (i64_small (by omega) (by omega)) (i64_small (by omega) (by omega)) (i64_small (by omega) (by omega)) (i64_small (by omega) (by omega)) (i64_small (by omega) (by omega)) (i64_small (by omega) (by omega))) (fmls_two H1.out H2.out) (by simp)).mono ?_
  rintro e w1 ⟨u, rfl, hm⟩
  have HM := Lib.hid hm
  clear hm
  go_wp2_with fail
  go_ret
  exact ⟨_, rfl, (HM.out.before ((Ext.refl _).alloc _))⟩

def impN (f g : List Nd) : List Nd := buildN ⟨7, 0, 0, 0, 0, 0⟩ [f, g]
set_option maxHeartbeats 400000 in
theorem imp_any (v1 v2 : Value) (f g : List Nd) (w : World) (h1 : Fml w v1 f) (h2 : Fml w v2 g) :
    Calls Tryd.prog 14 #[v1, v2] w fun e w' => ∃ u, e = .returned u ∧ Made w w' u (impN f g) := by
  have H1 := Lib.hid h1
  have H2 := Lib.hid h2
  obtain ⟨A1, c1, rfl, _⟩ := fml_slice h1
  obtain ⟨A2, c2, rfl, _⟩ := fml_slice h2
  clear h1 h2
  go_enter Tryd.func14, Tryd.ntmps14
  go_wp2_with fail
  refine (build_any ⟨7, 0, 0, 0, 0, 0⟩ _ [f, g] _ (small_ok (i64_small (by omega) (by omega)) (i64_small (by omega) (by omega)) (i64_small (by omega) (by omega)) (i64_small (by omega) (by omega)) (i64_small (by omega) (by omega)) (i64_small (by omega) (by omega))) (fmls_two H1.out H2.out) (by simp)).mono ?_
  rintro e w1 ⟨u, rfl, hm⟩
  have HM := Lib.hid hm
  clear hm
  go_wp2_with fail
  go_ret
  exact ⟨_, rfl, (HM.out.before ((Ext.refl _).alloc _))⟩

def knowN (a : Int) (f : List Nd) : List Nd := buildN ⟨9, a, 0, 0, 0, 0⟩ [f]
set_option maxHeartbeats 400000 in
theorem know_any (a : Int) (ha : i64ok a) (v1 : Value) (f : List Nd) (w : World) (h1 : Fml w v1 f) :
    Calls Tryd.prog 15 #[.int .i64 a, v1] w fun e w' => ∃ u, e = .returned u ∧ Made w w' u (knowN a f) := by
  have H1 := Lib.hid h1
  obtain ⟨A1, c1, rfl, _⟩ := fml_slice h1
  clear h1
  go_enter Tryd.func15, Tryd.ntmps15
  go_wp2_with fail
  refine (build_any ⟨9, a, 0, 0, 0, 0⟩ _ [f] _ (small_ok (i64_small (by omega) (by omega)) ha (i64_small (by omega) (by omega)) (i64_small (by omega) (by omega)) (i64_small (by omega) (by omega)) (i64_small (by omega) (by omega))) (fmls_one H1.out) (by simp)).mono ?_
  rintro e w1 ⟨u, rfl, hm⟩
  have HM := Lib.hid hm
  clear hm
  go_wp2_with fail
  go_ret
  exact ⟨_, rfl, (HM.out.before ((Ext.refl _).alloc _))⟩

def possN (a : Int) (f : List Nd) : List Nd := buildN ⟨10, a, 0, 0, 0, 0⟩ [f]
end Go.Proofs.YtohoddkcpfamlaaDoor

/- Slices of integers. -/

namespace Go.Proofs.YtohoddkcpfamlaaDoor
open Go.RowKit

theorem done_cells {w : World} {base n : Nat} {vd : Value} {d : List Int} (h : w.ownsRow base 3 1 vd n (d.map (Value.int .i64))) (hn : 0 < n) :
    ∃ g cap, vd = .slice (some ⟨g, 0, none⟩) n cap ∧ g < w.heap.size ∧ n ≤ cap ∧ cap ≤ maxLen ∧ ∀ i z, d[i]? = some z → w.cell? ⟨g, i, none⟩ = some (.int .i64 z) ∧ w.frozen? ⟨g, i, none⟩ = false := by
  rcases h.2 with ⟨_, h0⟩ | ⟨g, cap, cur, rfl, _, hg, hnc, hm, hs, ht⟩
  · omega
  · refine ⟨g, cap, rfl, lt_heap hg, hnc, hm, fun i z hz => ⟨?_, by simp [World.frozen?, hg]⟩⟩
    have h1 : (d.map (Value.int .i64))[i]? = some (.int .i64 z) := by rw [List.getElem?_map, hz]; rfl
    rw [← ht, List.getElem?_take] at h1
    split at h1
    · have h2 : cur[i]? = some (.int .i64 z) := by simpa using h1
      simp [World.cell?, hg, h2]
    · cases h1
theorem addr_zero (g i : Nat) : ((⟨g, 0, none⟩ : Addr).add i) = ⟨g, i, none⟩ := by
  unfold Addr.add
  split
  · rename_i h; rw [h]
  · simp
def IntsAt (w : World) (A : Option Addr) (c : Nat) (l : List Int) : Prop :=
  l.length ≤ c ∧ c ≤ maxLen ∧ (l ≠ [] → ∃ ad, A = some ad ∧ ad.block < w.heap.size ∧ ∀ k z, l[k]? = some z → w.cell? (ad.add k) = some (.int .i64 z))
def Ints (w : World) (v : Value) (l : List Int) : Prop := ∃ A c, v = .slice A l.length c ∧ IntsAt w A c l
theorem IntsAt.ext {w w' : World} {A : Option Addr} {c : Nat} {l : List Int} (h : IntsAt w A c l) (he : Ext w w') : IntsAt w' A c l :=
  ⟨h.1, h.2.1, fun hn => by
    obtain ⟨ad, e, hlt, hc⟩ := h.2.2 hn
    exact ⟨ad, e, Nat.lt_of_lt_of_le hlt he.size, fun k z hk => (he.cell (by rw [block_of_add]; exact hlt)).trans (hc k z hk)⟩⟩
theorem Ints.ext {w w' : World} {v : Value} {l : List Int} (h : Ints w v l) (he : Ext w w') : Ints w' v l := by
  obtain ⟨A, c, e, h⟩ := h
  exact ⟨A, c, e, h.ext he⟩
theorem Ints.none_ (w : World) : Ints w (.slice none 0 0) [] := ⟨none, 0, rfl, Nat.le_refl _, by unfold maxLen; omega, fun h => absurd rfl h⟩
theorem ints_of_row {w : World} {base : Nat} {v : Value} {l : List Int} (h : w.ownsRow base 3 1 v l.length (l.map (Value.int .i64))) : Ints w v l := by
  by_cases h0 : 0 < l.length
  · obtain ⟨g, cap, rfl, hg, hc, hm, hcell⟩ := done_cells h h0
    exact ⟨_, _, rfl, hc, hm, fun _ => ⟨_, rfl, hg, fun k z hk => by rw [addr_zero]; exact (hcell k z hk).1⟩⟩
  · have e : l = [] := List.length_eq_zero_iff.1 (by omega)
    subst e
    rcases h.2 with ⟨rfl, _⟩ | ⟨g, cap, cur, rfl, _, _, hn, hm, _⟩
    · exact Ints.none_ w
    · exact ⟨_, cap, rfl, Nat.zero_le _, hm, fun h => absurd rfl h⟩

def MadeInts (w w' : World) (v : Value) (l : List Int) : Prop := w'.ownsRow w.heap.size 3 1 v l.length (l.map (Value.int .i64)) ∧ Ext w w'
theorem MadeInts.ints {w w' : World} {v : Value} {l : List Int} (h : MadeInts w w' v l) : Ints w' v l := ints_of_row h.1
end Go.Proofs.YtohoddkcpfamlaaDoor
