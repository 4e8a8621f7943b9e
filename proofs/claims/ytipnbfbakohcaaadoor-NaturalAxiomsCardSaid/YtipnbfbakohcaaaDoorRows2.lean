/- A slice that the call makes and appends to: what may have changed. -/
import Derived.Test.YtipnbfbakohcaaaDoorFrags
import Derived.Test.YtipnbfbakohcaaaDoorSpecBuild
import Derived.OneCell
namespace Go.Proofs.YtipnbfbakohcaaaDoor
open Go.RowKit

structure RStep (w w' : World) (v v' : Value) : Prop where
  os : w'.os = w.os
  tape : w'.tape = w.tape
  output : w'.output = w.output
  size : w.heap.size ≤ w'.heap.size
  block : ∀ k, k < w.heap.size → v.ownBlock ≠ some k → w'.heap[k]? = w.heap[k]?
  row : ∀ g, v'.ownBlock = some g → v.ownBlock = some g ∨ w.heap.size ≤ g
section
variable {a b c w w' : World} {va vb vc v v' : Value}
theorem RStep.refl (w : World) (v : Value) : RStep w w v v := ⟨rfl, rfl, rfl, Nat.le_refl _, fun _ _ _ => rfl, fun _ h => .inl h⟩
theorem RStep.trans (h : RStep a b va vb) (k : RStep b c vb vc) : RStep a c va vc :=
  ⟨k.os.trans h.os, k.tape.trans h.tape, k.output.trans h.output, Nat.le_trans h.size k.size,
    fun i hi h4 => (k.block i (Nat.lt_of_lt_of_le hi h.size) (fun e => by
      rcases h.row i e with e' | e'
      · exact h4 e'
      · omega)).trans (h.block i hi h4),
    fun g hg => by
      rcases k.row g hg with e | e
      · exact h.row g e
      · exact .inr (Nat.le_trans h.size e)⟩
theorem RStep.ext (h : RStep a b va vb) (e : Ext b c) : RStep a c va vb := h.trans ⟨e.os, e.tape, e.output, e.size, fun _ hk _ => e.block hk, fun _ h => .inl h⟩
theorem RStep.appended (h : RStep a b va v) (hg : b.grownBy w' v.ownBlock) (hat : v'.ownBlock = v.ownBlock ∨ v'.ownBlock = some b.heap.size) : RStep a w' va v' :=
  h.trans ⟨hg.os, hg.tape, hg.output, hg.size, fun k hk hne => hg.block k hk (fun e => hne e.symm), fun g hg' => by
    rcases hat with e | e
    · exact .inl (by rw [← e]; exact hg')
    · rw [e] at hg'
      injection hg' with hg'
      exact .inr (by omega)⟩
theorem RStep.cell (h : RStep a b va vb) {p : Addr} (hp : p.block < a.heap.size) (hne : va.ownBlock ≠ some p.block) : b.cell? p = a.cell? p := World.cell?_of_block (h.block _ hp hne)
/-- Below a row's base nothing has changed. -/
theorem RStep.below {B : Nat} (h : RStep a b va vb) (hB : B ≤ a.heap.size) (hr : ∀ g, va.ownBlock = some g → B ≤ g) : Below B a b :=
  ⟨h.os, h.tape, h.output, h.size, fun k hk => h.block k (by omega) (fun e => by have := hr k e; omega)⟩
theorem row_ext {base : Nat} {e : TypeId} {size n : Nat} {xs : List Value} (h : w.ownsRow base e size v n xs) (he : Ext w w') : w'.ownsRow base e size v n xs := row_keep h fun g hg => he.block (h.lt g hg).2
theorem row_new (w : World) (cs : Array Value) (t : TypeId) : ∀ j u, cs.toList[j]? = some u → (w.alloc (.cells cs t)).cell? ((⟨w.heap.size, 0, none⟩ : Addr).add j) = some u := by
  intro j u hj
  have h := heap_alloc_new w (.cells cs t)
  have e : ((⟨w.heap.size, 0, none⟩ : Addr).add j) = ⟨w.heap.size, j, none⟩ := by
    unfold Addr.add
    split
    · rename_i h0; rw [h0]
    · simp
  rw [e]
  simp only [World.cell?, h]
  rw [← hj]
  simp
theorem row_new_at (w : World) (cs : Array Value) (t : TypeId) {g : Nat} (hg : g = w.heap.size) : ∀ j u, cs.toList[j]? = some u → (w.alloc (.cells cs t)).cell? ((⟨g, 0, none⟩ : Addr).add j) = some u := by
  subst hg
  exact row_new w cs t
end

/-- A slice of formulas. -/
def FmlsAt (w : World) (A : Option Addr) (c : Nat) (ops : List (List Nd)) : Prop :=
  ops.length ≤ c ∧ c ≤ maxLen ∧ (ops ≠ [] → ∃ ad, A = some ad ∧ ad.block < w.heap.size ∧ ∀ k l, ops[k]? = some l → ∃ u, w.cell? (ad.add k) = some u ∧ Fml w u l)
def Fmls (w : World) (v : Value) (ops : List (List Nd)) : Prop := ∃ A c, v = .slice A ops.length c ∧ FmlsAt w A c ops
theorem FmlsAt.ext {w w' : World} {A : Option Addr} {c : Nat} {ops : List (List Nd)} (h : FmlsAt w A c ops) (he : Ext w w') : FmlsAt w' A c ops :=
  ⟨h.1, h.2.1, fun hn => by
    obtain ⟨ad, e, hlt, hc⟩ := h.2.2 hn
    refine ⟨ad, e, Nat.lt_of_lt_of_le hlt he.size, fun k l hk => ?_⟩
    obtain ⟨u, hu, hf⟩ := hc k l hk
    exact ⟨u, (he.cell (by rw [block_of_add]; exact hlt)).trans hu, hf.ext he⟩⟩
theorem Fmls.ext {w w' : World} {v : Value} {ops : List (List Nd)} (h : Fmls w v ops) (he : Ext w w') : Fmls w' v ops := by
  obtain ⟨A, c, e, h⟩ := h
  exact ⟨A, c, e, h.ext he⟩

/-- The outer loop of formula.build. -/
structure BOut (w wr : World) (ops : List (List Nd)) (x : Nd) (k : Nat) (f : List Nd) (y : Nd) (v : Value) : Prop where
  row : wr.ownsRow (w.heap.size + 1) 60 6 v f.length (f.flatMap Nd.cells)
  ext : Ext w wr
  box : wr.heap[w.heap.size]? = some (.cells #[.int .i64 y.op, .int .i64 y.i, .int .i64 y.e, .int .i64 y.g, .int .i64 y.x, .int .i64 y.y] 60 (0, 0))
  lay : layout (ops.drop k) k f y = layout ops 0 [] x
  any : ops.any (fun o => check o != 0) = (ops.drop k).any (fun o => check o != 0)
  wf : Wf f
  oks : ∀ n ∈ f, n.ok
  yok : y.ok
  len : f.length ≤ 200 * k
theorem fml_slice {w : World} {v : Value} {l : List Nd} (h : Fml w v l) : ∃ A c, v = .slice A l.length c ∧ NdsAt w A c l := by
  obtain ⟨⟨A, c, e, hat⟩, _⟩ := h
  exact ⟨A, c, e, hat⟩
theorem setOp_ok {k len : Nat} {y : Nd} (h : y.ok) (hl : len ≤ 1000) : (setOp k y len).ok := by
  obtain ⟨a, b, c, d, e, g⟩ := h
  have hb : i64ok ((len : Int) - 1) := ⟨by omega, by omega⟩
  unfold setOp
  cases k == 0
  · exact ⟨a, b, c, d, e, hb⟩
  · exact ⟨a, b, c, d, hb, g⟩
theorem shift_ok {d : Nat} {n : Nd} (h : n.ok) (hx : hasX n.op = true → 0 ≤ n.x ∧ n.x ≤ 1000) (hy : hasY n.op = true → 0 ≤ n.y ∧ n.y ≤ 1000) (hd : d ≤ 1000) : (shiftN d n).ok := by
  obtain ⟨a, b, c, d', e, g⟩ := h
  refine ⟨a, b, c, d', ?_, ?_⟩
  · show i64ok (bif hasX n.op then n.x + d else n.x)
    cases hh : hasX n.op
    · exact e
    · have := hx hh
      exact ⟨by simp only [cond_true]; omega, by simp only [cond_true]; omega⟩
  · show i64ok (bif hasY n.op then n.y + d else n.y)
    cases hh : hasY n.op
    · exact g
    · have := hy hh
      exact ⟨by simp only [cond_true]; omega, by simp only [cond_true]; omega⟩
theorem xy_cases (op : Int) : (hasX op = false ∧ hasY op = false) ∨ (hasX op = true ∧ hasY op = false) ∨ (hasX op = true ∧ hasY op = true) := by
  cases hx : hasX op
  · cases hy : hasY op
    · exact .inl ⟨rfl, rfl⟩
    · rw [hasX_of_hasY hy] at hx; cases hx
  · cases hy : hasY op
    · exact .inr (.inl ⟨rfl, rfl⟩)
    · exact .inr (.inr ⟨rfl, rfl⟩)
/-- What a call has made lies in no row that stood before. -/
theorem new_apart {wr w1 w' : World} {base : Nat} {A5 Ac : Option Addr} {n c5 cc : Nat} {xs : List Value} {l : List Nd} (hm : Made w1 w' (.slice Ac l.length cc) l) (hrow : wr.ownsRow base 60 6 (.slice A5 n c5) n xs) (he : Ext wr w1) :
    ∀ ad : Addr, Ac = some ad → (Value.slice A5 n c5).ownBlock ≠ some ad.block ∧ ad.block < w'.heap.size := by
  rintro ad rfl
  obtain ⟨h1, h2⟩ := hm.1.lt ad.block rfl
  refine ⟨fun e => ?_, h2⟩
  have := (hrow.lt _ e).2
  have := he.size
  omega
theorem row_ne {w : World} {base : Nat} {e : TypeId} {size n : Nat} {v : Value} {xs : List Value} (h : w.ownsRow (base + 1) e size v n xs) : v.ownBlock ≠ some base := fun e => by
  have := (h.lt _ e).1
  omega
/-- One operand more. -/
theorem BOut.next {w wo wi wr : World} {ops : List (List Nd)} {x y : Nd} {k : Nat} {f cl o : List Nd} {v5 v6 : Value} (h : BOut w wo ops x k f y v5) (hk : k < 2) (hx : Ext w wi) (hrow5 : wi.ownsRow (w.heap.size + 1) 60 6 v5 f.length (f.flatMap Nd.cells))
    (hst : RStep wi wr v5 v6) (hrow : wr.ownsRow (w.heap.size + 1) 60 6 v6 (f.length + cl.length) ((f ++ (cl.take cl.length).map (shiftN f.length)).flatMap Nd.cells))
    (hbox : wi.heap[w.heap.size]? = some (.cells #[.int .i64 y.op, .int .i64 y.i, .int .i64 y.e, .int .i64 y.g, .int .i64 y.x, .int .i64 y.y] 60 (0, 0)))
    (hlay : layout (ops.drop k) k f y = layout (ops.drop (k + 1)) (k + 1) (f ++ (compactN o).map (shiftN f.length)) (setOp k y (f ++ (compactN o).map (shiftN f.length)).length))
    (hany : (ops.drop k).any (fun o => check o != 0) = (check o != 0 || (ops.drop (k + 1)).any (fun o => check o != 0))) (hc : check o = 0) (hcl : cl = compactN o) (hwf : Wf cl) (hlen : cl.length ≤ 200) (hok : ∀ n ∈ cl, n.ok)
    (slot : Nat) (hslot : slot = bif k == 0 then 4 else 5) (z : Int) (hz : z = ((f.length + cl.length : Nat) : Int) - 1) :
    BOut w (wr.setCell ⟨w.heap.size, slot, none⟩ (.int .i64 z)) ops x (k + 1) (f ++ cl.map (shiftN f.length)) (setOp k y (f ++ cl.map (shiftN f.length)).length) v6 := by
  have hll : (f ++ cl.map (shiftN f.length)).length = f.length + cl.length := by simp
  have hlt := lt_heap hbox
  have hxb : wr.heap[w.heap.size]? = some (.cells #[.int .i64 y.op, .int .i64 y.i, .int .i64 y.e, .int .i64 y.g, .int .i64 y.x, .int .i64 y.y] 60 (0, 0)) := (hst.block _ hlt (row_ne hrow5)).trans hbox
  rw [List.take_of_length_le (Nat.le_refl _)] at hrow
  refine ⟨?_, ?_, ?_, ?_, ?_, shift_wf h.wf hwf, ?_, setOp_ok h.yok (by have := h.len; omega), by have := h.len; omega⟩
  · rw [hll]
    exact ownsRow_setCell_other hrow (row_ne hrow) _
  · have hb : Below (w.heap.size + 1) wi wr := hst.below hlt (fun g hg => (hrow5.lt g hg).1)
    exact Ext.setCell (Below.trans hx (Below.mono hb (Nat.le_succ _))) (Nat.le_refl _) _
  · simp only [World.setCell, Array.getElem?_modify, hxb, if_true, Option.map_some]
    rw [hll]
    subst hslot hz
    unfold setOp
    cases e : k == 0
    · simp
    · simp
  · rw [← h.lay, hlay, hcl]
  · rw [h.any, hany, hc]
    rfl
  · intro n hn
    rcases List.mem_append.1 hn with hn | hn
    · exact h.oks n hn
    · obtain ⟨m, hm, rfl⟩ := List.mem_map.1 hn
      obtain ⟨i, hi⟩ := List.getElem?_of_mem hm
      have hil : i < cl.length := (List.getElem?_eq_some_iff.1 hi).1
      obtain ⟨h1, h2⟩ := hwf i m hi
      exact shift_ok (hok m hm) (fun e => by have := h1 e; omega) (fun e => by have := h2 e; omega) (by have := h.len; omega)
theorem BOut.end_ {w wr : World} {ops : List (List Nd)} {x y : Nd} {f : List Nd} {v : Value} (h : BOut w wr ops x ops.length f y v) : buildN x ops = joinN f y := by
  have h1 := h.lay
  have h2 := h.any
  rw [List.drop_length] at h1 h2
  unfold buildN
  rw [h2, ← h1]
  rfl
theorem BOut.bad {w wr : World} {ops : List (List Nd)} {x y : Nd} {k : Nat} {f o : List Nd} {v : Value} (h : BOut w wr ops x k f y v) (hc : check o ≠ 0)
    (hany : (ops.drop k).any (fun o => check o != 0) = (check o != 0 || (ops.drop (k + 1)).any (fun o => check o != 0))) : buildN x ops = [] := by
  have hb : (check o != 0) = true := by simpa using hc
  unfold buildN
  rw [h.any, hany, hb]
  rfl
theorem join_bad {f : List Nd} {y : Nd} (h : nodeErr y f.length ≠ 0) : joinN f y = [] := by
  have hb : (nodeErr y f.length != 0) = true := by simpa using h
  unfold joinN
  rw [hb]
  rfl
theorem join_long {f : List Nd} {y : Nd} (h : nodeErr y f.length = 0) (hl : 200 < (finN (f ++ [y]) f.length []).1.length) : joinN f y = [] := by
  unfold joinN
  simp [h, hl]
theorem join_ok {f : List Nd} {y : Nd} (h : nodeErr y f.length = 0) (hl : ¬ 200 < (finN (f ++ [y]) f.length []).1.length) : joinN f y = (finN (f ++ [y]) f.length []).1 := by
  unfold joinN
  simp [h, hl]
theorem join_wf {f : List Nd} {y : Nd} (hf : Wf f) (h : nodeErr y f.length = 0) : Wf (f ++ [y]) := by
  obtain ⟨hx, hy⟩ := nodeErr_xy h
  refine wf_snoc hf (fun e => ?_) (fun e => ?_)
  · rw [e] at hx; simp [operandOk] at hx; omega
  · rw [e] at hy; simp [operandOk] at hy; omega
end Go.Proofs.YtipnbfbakohcaaaDoor
