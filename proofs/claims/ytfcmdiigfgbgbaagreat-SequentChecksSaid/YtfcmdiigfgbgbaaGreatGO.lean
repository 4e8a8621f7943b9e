/- A region that draws its order, by what each of its slots holds: no order is walked. -/
import Derived.Test.YtfcmdiigfgbgbaaGreatGF1
import Derived.RegionTactic
import Derived.Test.YtfcmdiigfgbgbaaGreatGN
import Derived.Test.YtfcmdiigfgbgbaaGreatGD

namespace Go.Proofs.YtfcmdiigfgbgbaaGreat
open Go.RowKit

/-- The edges of a region's operations fit: each reads slots that were there or that an operation ahead of it fills; each fills a slot of its own; the last one waits for all. -/
def SlotOk (ops : Array Oper) (pre : List Nat) (reads : Nat → List Nat) (N : Nat) : Bool :=
  decide (0 < ops.size) && (List.range ops.size).all fun i =>
    match ops[i]? with
    | none => false
    | some o => o.guard.isNone && (o.after.all (fun e => decide (e.on < i)) &&
        (if i + 1 = ops.size then (List.range i).all (fun j => o.after.any fun e => Region.binds .any e && e.on == j)
         else (reads i).all (fun t => pre.contains t || o.after.any (fun e => Region.binds .any e && ((ops[e.on]?).map (fun oj => oj.dst == some t)).getD false)) &&
           match o.dst with
           | some d => !pre.contains d && (decide (d < N) && (List.range ops.size).all (fun j => j == i || ((ops[j]?).map (fun oj => !(oj.dst == some d))).getD true))
           | none => false))
structure SlotFit (ops : Array Oper) (pre : List Nat) (reads : Nat → List Nat) (N i : Nat) (o : Oper) : Prop where
  guard : o.guard = none
  back : ∀ e ∈ o.after, e.on < i
  last : i + 1 = ops.size → ∀ j, j < i → ∃ e ∈ o.after, Region.binds .any e = true ∧ e.on = j
  reads_ : i + 1 ≠ ops.size → ∀ t ∈ reads i, t ∈ pre ∨ ∃ e ∈ o.after, Region.binds .any e = true ∧ ∃ oj, ops[e.on]? = some oj ∧ oj.dst = some t
  dst : i + 1 ≠ ops.size → ∃ d, o.dst = some d ∧ d ∉ pre ∧ d < N ∧ ∀ j oj, ops[j]? = some oj → j ≠ i → oj.dst ≠ some d
theorem slotFit {ops : Array Oper} {pre : List Nat} {reads : Nat → List Nat} {N : Nat} (h : SlotOk ops pre reads N = true) {i : Nat} {o : Oper} (ho : ops[i]? = some o) : SlotFit ops pre reads N i o := by
  have hi : i < ops.size := (Array.getElem?_eq_some_iff.1 ho).1
  unfold SlotOk at h
  rw [Bool.and_eq_true, List.all_eq_true] at h
  have hh := h.2 i (List.mem_range.2 hi)
  simp only [ho, Bool.and_eq_true] at hh
  obtain ⟨h1, h2, h3⟩ := hh
  refine ⟨Option.isNone_iff_eq_none.1 h1, fun e he => ?_, fun hl j hj => ?_, fun hl t ht => ?_, fun hl => ?_⟩
  · rw [Array.all_eq_true'] at h2
    exact of_decide_eq_true (h2 e he)
  · rw [if_pos hl, List.all_eq_true] at h3
    have := h3 j (List.mem_range.2 hj)
    rw [Array.any_eq_true'] at this
    obtain ⟨e, he, hb⟩ := this
    rw [Bool.and_eq_true] at hb
    exact ⟨e, he, hb.1, eq_of_beq hb.2⟩
  · rw [if_neg hl, Bool.and_eq_true, List.all_eq_true] at h3
    have := h3.1 t ht
    rw [Bool.or_eq_true] at this
    rcases this with h4 | h4
    · exact .inl (List.contains_iff_mem.1 h4)
    · rw [Array.any_eq_true'] at h4
      obtain ⟨e, he, hb⟩ := h4
      rw [Bool.and_eq_true] at hb
      refine .inr ⟨e, he, hb.1, ?_⟩
      cases hq : ops[e.on]? with
      | none => rw [hq] at hb; simp at hb
      | some oj =>
        rw [hq] at hb
        exact ⟨oj, rfl, eq_of_beq hb.2⟩
  · rw [if_neg hl, Bool.and_eq_true] at h3
    have h4 := h3.2
    cases hd : o.dst with
    | none => rw [hd] at h4; cases h4
    | some d =>
      rw [hd] at h4
      simp only [Bool.and_eq_true] at h4
      obtain ⟨h5, h6, h7⟩ := h4
      refine ⟨d, rfl, fun hm => ?_, of_decide_eq_true h6, fun j oj hj hne e => ?_⟩
      · have : pre.contains d = true := List.contains_iff_mem.2 hm
        rw [this] at h5; cases h5
      · rw [List.all_eq_true] at h7
        have := h7 j (List.mem_range.2 (Array.getElem?_eq_some_iff.1 hj).1)
        rw [hj, Bool.or_eq_true] at this
        rcases this with h8 | h8
        · exact hne (eq_of_beq h8)
        · have h9 : (oj.dst == some d) = true := by rw [e]; simp
          simp [h9] at h8

structure SlotInv (Sl : Nat → Value → World → Prop) (ops : Array Oper) (pre : List Nat) (N : Nat) (D : List Deferred) (w0 : World) (listed : Array Bool) (a : Act) (w : World) : Prop where
  ext : Ext w0 w
  size : a.tmps.size = N
  pre_ : ∀ t ∈ pre, Sl t (a.eval (.tmp t)) w
  done : ∀ (j : Nat) (o : Oper) (d : Tmp), ops[j]? = some o → j + 1 ≠ ops.size → listed.getD j true = true → o.dst = some d → Sl d (a.eval (.tmp d)) w
  lsize : listed.size = ops.size
  defers_ : a.defers = D
theorem eval_put (a : Act) (t d : Nat) (v : Value) : (a.put (some d) v).eval (.tmp t) = if t = d ∧ d < a.tmps.size then v else a.eval (.tmp t) := by
  show (a.tmps.setIfInBounds d v).getD t undef = _
  rw [Array.getD_eq_getD_getElem?, Array.getElem?_setIfInBounds]
  by_cases e : d = t
  · subst e
    by_cases h : d < a.tmps.size
    · simp [h]
    · simp [h, Act.eval]
  · have e2 : ¬ (t = d ∧ d < a.tmps.size) := fun hh => e hh.1.symm
    simp [e, e2, Act.eval]
theorem getD_set (l : Array Bool) (i j : Nat) (hi : i < l.size) : (l.setIfInBounds i true).getD j true = if j = i then true else l.getD j true := by
  rw [Array.getD_eq_getD_getElem?, Array.getElem?_setIfInBounds, Array.getD_eq_getD_getElem?]
  by_cases e : i = j
  · subst e; simp [hi]
  · rw [if_neg e, if_neg (fun h => e h.symm)]
theorem ready_mem {ops : Array Oper} {listed : Array Bool} {i : Nat} : i ∈ Region.ready .any ops listed ↔ i < ops.size ∧ listed.getD i true = false ∧ ∃ o, ops[i]? = some o ∧ ∀ e ∈ o.after, Region.binds .any e = true → listed.getD e.on false = true := by
  unfold Region.ready
  rw [List.mem_filter, List.mem_range, Bool.and_eq_true, Bool.not_eq_true']
  constructor
  · rintro ⟨h1, h2, h3⟩
    refine ⟨h1, h2, ?_⟩
    cases ho : ops[i]? with
    | none => rw [ho] at h3; cases h3
    | some o =>
      rw [ho] at h3
      refine ⟨o, rfl, fun e he hb => ?_⟩
      have h4 : o.after.all (fun e => !Region.binds .any e || listed.getD e.on false) = true := h3
      rw [Array.all_eq_true'] at h4
      have := h4 e he
      rw [hb] at this
      simpa using this
  · rintro ⟨h1, h2, o, ho, h3⟩
    refine ⟨h1, h2, ?_⟩
    rw [ho]
    show o.after.all (fun e => !Region.binds .any e || listed.getD e.on false) = true
    rw [Array.all_eq_true']
    intro e he
    cases hb : Region.binds .any e
    · rfl
    · simpa using h3 e he hb
theorem least_ready {ops : Array Oper} {pre : List Nat} {reads : Nat → List Nat} {N : Nat} (hok : SlotOk ops pre reads N = true) {listed : Array Bool} (hs : listed.size = ops.size) : ∀ (i : Nat), i < ops.size → listed.getD i true = false → ∃ m, m ∈ Region.ready .any ops listed := by
  intro i
  induction i using Nat.strongRecOn with
  | _ i ih =>
    intro hi hl
    by_cases hx : ∃ j, j < i ∧ listed.getD j true = false
    · obtain ⟨j, hj, hjl⟩ := hx
      exact ih j hj (by omega) hjl
    · have ho : ops[i]? = some ops[i] := Array.getElem?_eq_getElem hi
      refine ⟨i, ready_mem.2 ⟨hi, hl, _, ho, fun e he _ => ?_⟩⟩
      have hlt := (slotFit hok ho).back e he
      have h2 : listed.getD e.on true = true := by
        cases h : listed.getD e.on true
        · exact absurd ⟨_, hlt, h⟩ hx
        · rfl
      rw [Array.getD_eq_getD_getElem?] at h2 ⊢
      rw [Array.getElem?_eq_getElem (by omega)] at h2 ⊢
      simpa using h2
theorem getD_same {listed : Array Bool} {j : Nat} (hj : j < listed.size) : listed.getD j true = listed.getD j false := by
  rw [Array.getD_eq_getD_getElem?, Array.getD_eq_getD_getElem?, Array.getElem?_eq_getElem hj]; rfl
theorem all_listed_ready {ops : Array Oper} {listed : Array Bool} (h : ∀ i, i < ops.size → listed.getD i true = true) : Region.ready .any ops listed = [] := by
  cases hr : Region.ready .any ops listed with
  | nil => rfl
  | cons i r =>
    have hm : i ∈ Region.ready .any ops listed := by rw [hr]; simp
    obtain ⟨h1, h2, _⟩ := ready_mem.1 hm
    rw [h i h1] at h2
    cases h2
def unl (ops : Array Oper) (listed : Array Bool) : Nat := (List.range ops.size).countP fun i => !listed.getD i true
theorem countP_lt' {p q : Nat → Bool} : ∀ {l : List Nat}, (∀ x ∈ l, p x = true → q x = true) → (∃ x ∈ l, p x = false ∧ q x = true) → l.countP p < l.countP q
  | [], _, ⟨x, h, _⟩ => by simp at h
  | a :: r, h, ⟨x, hx, hp, hq⟩ => by
    rw [List.countP_cons, List.countP_cons]
    have hmono : r.countP p ≤ r.countP q := List.countP_mono_left fun y hy => h y (List.mem_cons_of_mem _ hy)
    rcases List.mem_cons.1 hx with rfl | hx
    · rw [hp, hq]
      simp
      omega
    · have ih := countP_lt' (l := r) (fun y hy => h y (List.mem_cons_of_mem _ hy)) ⟨x, hx, hp, hq⟩
      have := h a (List.mem_cons_self ..)
      cases ha : p a
      · simp only [Bool.false_eq_true, if_false]; omega
      · rw [this ha]; simp only [if_true]; omega
section
variable {P : Program} {ops : Array Oper} {Q : Exit → Act → World → Prop} {Sl : Nat → Value → World → Prop} {pre : List Nat} {reads : Nat → List Nat} {N : Nat} {w0 : World} {D : List Deferred}
theorem wpAny_slots (hok : SlotOk ops pre reads N = true) (hSl : ∀ t v w w', Sl t v w → Ext w w' → Sl t v w')
    (hstep : ∀ (i : Nat) (o : Oper), ops[i]? = some o → i + 1 ≠ ops.size → ∀ (a : Act) (w : World), Ext w0 w → (∀ t ∈ reads i, Sl t (a.eval (.tmp t)) w) → ∀ K : Act → World → Prop, (∀ v w', Ext w w' → (∀ d, o.dst = some d → Sl d v w') → K (a.put o.dst v) w') → o.wp P a w K Q)
    (hlast : ∀ o : Oper, ops[ops.size - 1]? = some o → ∀ (a : Act) (w : World), Ext w0 w → a.tmps.size = N → a.defers = D → (∀ t ∈ pre, Sl t (a.eval (.tmp t)) w) → (∀ (j : Nat) (oj : Oper) (d : Tmp), ops[j]? = some oj → j + 1 ≠ ops.size → oj.dst = some d → Sl d (a.eval (.tmp d)) w) →
      ∀ K : Act → World → Prop, (∀ a' w', Q .normal a' w' → K a' w') → o.wp P a w K Q) :
    ∀ (fuel : Nat) (listed : Array Bool) (a : Act) (w : World), unl ops listed ≤ fuel → listed.getD (ops.size - 1) true = false → SlotInv Sl ops pre N D w0 listed a w → wpAny P .any ops Q fuel listed a w := by
  have hpos : 0 < ops.size := by
    unfold SlotOk at hok
    rw [Bool.and_eq_true] at hok
    exact of_decide_eq_true hok.1
  intro fuel
  induction fuel with
  | zero =>
    intro listed a w hu hl _
    exfalso
    have : 0 < unl ops listed := List.countP_pos_iff.2 ⟨ops.size - 1, List.mem_range.2 (by omega), by rw [hl]; rfl⟩
    omega
  | succ fuel ih =>
    intro listed a w hu hl hinv
    refine ⟨fun he => ?_, fun i hi => ?_⟩
    · obtain ⟨m, hm⟩ := least_ready hok hinv.lsize (ops.size - 1) (by omega) hl
      rw [he] at hm
      simp at hm
    · obtain ⟨h1, h2, o, ho, h3⟩ := ready_mem.1 hi
      have hfit := slotFit hok ho
      have hls := hinv.lsize
      unfold wpOp
      rw [ho]
      have hw : Region.wanted o (yielded ops a.tmps) = true := by simp [Region.wanted, hfit.guard]
      simp only [hw, if_true]
      refine .inl ?_
      have hset : ∀ j, (listed.setIfInBounds i true).getD j true = if j = i then true else listed.getD j true := fun j => getD_set listed i j (by omega)
      have hsize : (listed.setIfInBounds i true).size = ops.size := by simp [hls]
      by_cases hlast_i : i + 1 = ops.size
      · have e : ops.size - 1 = i := by omega
        have hall : ∀ j, j < i → listed.getD j true = true := fun j hj => by
          obtain ⟨e', he', hb, hon⟩ := hfit.last hlast_i j hj
          rw [← hon, getD_same (by omega)]
          exact h3 e' he' hb
        refine hlast o (by rw [e]; exact ho) a w hinv.ext hinv.size hinv.defers_ hinv.pre_ (fun j oj d hj hne hd => hinv.done j oj d hj hne (hall j (by have := (Array.getElem?_eq_some_iff.1 hj).1; omega)) hd) _ (fun a' w' hq => ?_)
        refine wpAny_done (all_listed_ready fun j hj => ?_) hq fuel
        rw [hset]
        split
        · rfl
        · exact hall j (by omega)
      · refine hstep i o ho hlast_i a w hinv.ext (fun t ht => ?_) _ (fun v w' hx hv => ?_)
        · rcases hfit.reads_ hlast_i t ht with h4 | ⟨e', he', hb, oj, hoj, hd⟩
          · exact hinv.pre_ t h4
          · have hlt := hfit.back e' he'
            refine hinv.done e'.on oj t hoj (by omega) ?_ hd
            rw [getD_same (by omega)]
            exact h3 e' he' hb
        · obtain ⟨d, hd, hdp, hdN, hdo⟩ := hfit.dst hlast_i
          refine ih _ _ _ ?_ ?_ ⟨hinv.ext.trans hx, ?_, fun t ht => ?_, fun j oj d' hj hne hjl hd' => ?_, hsize, by rw [hd]; exact hinv.defers_⟩
          · have : unl ops (listed.setIfInBounds i true) < unl ops listed := by
              refine countP_lt' (fun x _ hx => ?_) ⟨i, List.mem_range.2 h1, ?_, ?_⟩
              · rw [hset] at hx
                split at hx
                · cases hx
                · exact hx
              · rw [hset, if_pos rfl]; rfl
              · rw [h2]; rfl
            omega
          · rw [hset, if_neg (by omega)]; exact hl
          · rw [hd]
            show (a.tmps.setIfInBounds d v).size = N
            rw [Array.size_setIfInBounds]; exact hinv.size
          · rw [hd, eval_put, if_neg (fun e => hdp (by rw [← e.1]; exact ht))]
            exact hSl _ _ _ _ (hinv.pre_ t ht) hx
          · by_cases hji : j = i
            · subst hji
              rw [ho] at hj
              injection hj with hj
              subst hj
              rw [hd] at hd'
              injection hd' with hd'
              subst hd'
              rw [hd, eval_put, if_pos ⟨rfl, by rw [hinv.size]; exact hdN⟩]
              exact hv _ hd
            · rw [hset, if_neg hji] at hjl
              rw [hd, eval_put, if_neg (fun e => hdo j oj hj hji (by rw [hd', e.1]))]
              exact hSl _ _ _ _ (hinv.done j oj d' hj hne hjl hd') hx
theorem wp_region_slots {id : Nat} (hm : P.follows .mixedOrders = true) (hok : SlotOk ops pre reads N = true) (hSl : ∀ t v w w', Sl t v w → Ext w w' → Sl t v w') {a : Act} (hD : a.defers = D) (hN : a.tmps.size = N) (hpre : ∀ t ∈ pre, Sl t (a.eval (.tmp t)) w0)
    (hstep : ∀ (i : Nat) (o : Oper), ops[i]? = some o → i + 1 ≠ ops.size → ∀ (a : Act) (w : World), Ext w0 w → (∀ t ∈ reads i, Sl t (a.eval (.tmp t)) w) → ∀ K : Act → World → Prop, (∀ v w', Ext w w' → (∀ d, o.dst = some d → Sl d v w') → K (a.put o.dst v) w') → o.wp P a w K Q)
    (hlast : ∀ o : Oper, ops[ops.size - 1]? = some o → ∀ (a : Act) (w : World), Ext w0 w → a.tmps.size = N → a.defers = D → (∀ t ∈ pre, Sl t (a.eval (.tmp t)) w) → (∀ (j : Nat) (oj : Oper) (d : Tmp), ops[j]? = some oj → j + 1 ≠ ops.size → oj.dst = some d → Sl d (a.eval (.tmp d)) w) →
      ∀ K : Act → World → Prop, (∀ a' w', Q .normal a' w' → K a' w') → o.wp P a w K Q) :
    (Code.region id ops true).wp P Q a w0 := by
  refine wp_region_any hm (wpAny_slots hok hSl hstep hlast _ _ _ _ ?_ ?_ ⟨(Ext.refl w0).drewN 1, hN, fun t ht => hSl _ _ _ _ (hpre t ht) ((Ext.refl w0).drewN 1), fun j o d hj hne hl _ => ?_, by simp, hD⟩)
  · have h := List.countP_le_length (p := fun i => !(Array.replicate ops.size false).getD i true) (l := List.range ops.size)
    rw [List.length_range] at h
    exact h
  · have hpos : 0 < ops.size := by
      unfold SlotOk at hok
      rw [Bool.and_eq_true] at hok
      exact of_decide_eq_true hok.1
    rw [Array.getD_eq_getD_getElem?, Array.getElem?_replicate, if_pos (by omega)]
    rfl
  · have := (Array.getElem?_eq_some_iff.1 hj).1
    rw [Array.getD_eq_getD_getElem?, Array.getElem?_replicate, if_pos this] at hl
    cases hl
end
end Go.Proofs.YtfcmdiigfgbgbaaGreat

/- A region that draws its order, by what each of its slots holds and by what two of its slots hold together. -/

namespace Go.Proofs.YtfcmdiigfgbgbaaGreat
open Go.RowKit

structure PairInv (Sl : Nat → Value → World → Prop) (Rl : Nat → Value → Nat → Value → Prop) (ops : Array Oper) (pre : List Nat) (N : Nat) (D : List Deferred) (w0 : World) (listed : Array Bool) (a : Act) (w : World) : Prop where
  inv : SlotInv Sl ops pre N D w0 listed a w
  pairs : ∀ (j j' : Nat) (o o' : Oper) (d d' : Tmp), ops[j]? = some o → ops[j']? = some o' → j ≠ j' → j + 1 ≠ ops.size → j' + 1 ≠ ops.size → listed.getD j true = true → listed.getD j' true = true → o.dst = some d → o'.dst = some d' → Rl d (a.eval (.tmp d)) d' (a.eval (.tmp d'))
section
variable {P : Program} {ops : Array Oper} {Q : Exit → Act → World → Prop} {Sl : Nat → Value → World → Prop} {Rl : Nat → Value → Nat → Value → Prop} {pre : List Nat} {reads : Nat → List Nat} {N : Nat} {w0 : World} {D : List Deferred}
theorem eval_tmp' (a : Act) (t : Nat) : a.eval (.tmp t) = a.tmps[t]?.getD undef := by
  show a.tmps.getD t undef = _
  rw [Array.getD_eq_getD_getElem?]
theorem wpAny_pairs (hok : SlotOk ops pre reads N = true) (hSl : ∀ t v w w', Sl t v w → Ext w w' → Sl t v w')
    (hstep : ∀ (i : Nat) (o : Oper), ops[i]? = some o → i + 1 ≠ ops.size → ∀ (a : Act) (w : World), Ext w0 w → (∀ t ∈ reads i, Sl t (a.eval (.tmp t)) w) → (∀ t ∈ reads i, ∀ t' ∈ reads i, t ∉ pre → t' ∉ pre → t ≠ t' → Rl t (a.eval (.tmp t)) t' (a.eval (.tmp t'))) → ∀ K : Act → World → Prop, (∀ v w', Ext w w' → (∀ d, o.dst = some d → Sl d v w' ∧ ∀ t u, Sl t u w → Rl d v t u ∧ Rl t u d v) → K (a.put o.dst v) w') → o.wp P a w K Q)
    (hlast : ∀ o : Oper, ops[ops.size - 1]? = some o → ∀ (a : Act) (w : World), Ext w0 w → a.tmps.size = N → a.defers = D → (∀ t ∈ pre, Sl t (a.eval (.tmp t)) w) → (∀ (j : Nat) (oj : Oper) (d : Tmp), ops[j]? = some oj → j + 1 ≠ ops.size → oj.dst = some d → Sl d (a.eval (.tmp d)) w) → (∀ (j j' : Nat) (o o' : Oper) (d d' : Tmp), ops[j]? = some o → ops[j']? = some o' → j ≠ j' → j + 1 ≠ ops.size → j' + 1 ≠ ops.size → o.dst = some d → o'.dst = some d' → Rl d (a.eval (.tmp d)) d' (a.eval (.tmp d'))) →
      ∀ K : Act → World → Prop, (∀ a' w', Q .normal a' w' → K a' w') → o.wp P a w K Q) :
    ∀ (fuel : Nat) (listed : Array Bool) (a : Act) (w : World), unl ops listed ≤ fuel → listed.getD (ops.size - 1) true = false → PairInv Sl Rl ops pre N D w0 listed a w → wpAny P .any ops Q fuel listed a w := by
  have hpos : 0 < ops.size := by
    unfold SlotOk at hok
    rw [Bool.and_eq_true] at hok
    exact of_decide_eq_true hok.1
  intro fuel
  induction fuel with
  | zero =>
    intro listed a w hu hl _
    exfalso
    have : 0 < unl ops listed := List.countP_pos_iff.2 ⟨ops.size - 1, List.mem_range.2 (by omega), by rw [hl]; rfl⟩
    omega
  | succ fuel ih =>
    intro listed a w hu hl hpinv
    have hinv := hpinv.inv
    refine ⟨fun he => ?_, fun i hi => ?_⟩
    · obtain ⟨m, hm⟩ := least_ready hok hinv.lsize (ops.size - 1) (by omega) hl
      rw [he] at hm
      simp at hm
    · obtain ⟨h1, h2, o, ho, h3⟩ := ready_mem.1 hi
      have hfit := slotFit hok ho
      have hls := hinv.lsize
      unfold wpOp
      rw [ho]
      have hw : Region.wanted o (yielded ops a.tmps) = true := by simp [Region.wanted, hfit.guard]
      simp only [hw, if_true]
      refine .inl ?_
      have hset : ∀ j, (listed.setIfInBounds i true).getD j true = if j = i then true else listed.getD j true := fun j => getD_set listed i j (by omega)
      have hsize : (listed.setIfInBounds i true).size = ops.size := by simp [hls]
      by_cases hlast_i : i + 1 = ops.size
      · have e : ops.size - 1 = i := by omega
        have hall : ∀ j, j < i → listed.getD j true = true := fun j hj => by
          obtain ⟨e', he', hb, hon⟩ := hfit.last hlast_i j hj
          rw [← hon, getD_same (by omega)]
          exact h3 e' he' hb
        refine hlast o (by rw [e]; exact ho) a w hinv.ext hinv.size hinv.defers_ hinv.pre_ (fun j oj d hj hne hd => hinv.done j oj d hj hne (hall j (by have := (Array.getElem?_eq_some_iff.1 hj).1; omega)) hd) (fun j j' oj oj' d d' hj hj' hne h1 h2 hd hd' => hpinv.pairs j j' oj oj' d d' hj hj' hne h1 h2 (hall j (by have := (Array.getElem?_eq_some_iff.1 hj).1; omega)) (hall j' (by have := (Array.getElem?_eq_some_iff.1 hj').1; omega)) hd hd') _ (fun a' w' hq => ?_)
        refine wpAny_done (all_listed_ready fun j hj => ?_) hq fuel
        rw [hset]
        split
        · rfl
        · exact hall j (by omega)
      · refine hstep i o ho hlast_i a w hinv.ext (fun t ht => ?_) (fun t ht t' ht' hp hp' hne => ?_) _ (fun v w' hx hv => ?_)
        · rcases hfit.reads_ hlast_i t ht with h4 | ⟨e', he', hb, oj, hoj, hd⟩
          · exact hinv.pre_ t h4
          · have hlt := hfit.back e' he'
            refine hinv.done e'.on oj t hoj (by omega) ?_ hd
            rw [getD_same (by omega)]
            exact h3 e' he' hb
        · rcases hfit.reads_ hlast_i t ht with h4 | ⟨e1, he1, hb1, oj, hoj, hd⟩
          · exact absurd h4 hp
          · rcases hfit.reads_ hlast_i t' ht' with h4 | ⟨e2, he2, hb2, oj2, hoj2, hd2⟩
            · exact absurd h4 hp'
            · have l1 := hfit.back e1 he1
              have l2 := hfit.back e2 he2
              refine hpinv.pairs e1.on e2.on oj oj2 t t' hoj hoj2 (fun e => ?_) (by omega) (by omega) (by rw [getD_same (by omega)]; exact h3 e1 he1 hb1) (by rw [getD_same (by omega)]; exact h3 e2 he2 hb2) hd hd2
              rw [e, hoj2] at hoj
              injection hoj with hoj
              rw [← hoj, hd2] at hd
              injection hd with hd
              exact hne hd.symm
        · obtain ⟨d, hd, hdp, hdN, hdo⟩ := hfit.dst hlast_i
          refine ih _ _ _ ?_ ?_ ⟨⟨hinv.ext.trans hx, ?_, fun t ht => ?_, fun j oj d' hj hne hjl hd' => ?_, hsize, by rw [hd]; exact hinv.defers_⟩, fun j j' oj oj' d1 d2 hj hj' hne hj1 hj2 hjl hjl' hd1 hd2 => ?_⟩
          · have : unl ops (listed.setIfInBounds i true) < unl ops listed := by
              refine countP_lt' (fun x _ hx => ?_) ⟨i, List.mem_range.2 h1, ?_, ?_⟩
              · rw [hset] at hx
                split at hx
                · cases hx
                · exact hx
              · rw [hset, if_pos rfl]; rfl
              · rw [h2]; rfl
            omega
          · rw [hset, if_neg (by omega)]; exact hl
          · rw [hd]
            show (a.tmps.setIfInBounds d v).size = N
            rw [Array.size_setIfInBounds]; exact hinv.size
          · rw [hd, eval_put, if_neg (fun e => hdp (by rw [← e.1]; exact ht))]
            exact hSl _ _ _ _ (hinv.pre_ t ht) hx
          · by_cases hji : j = i
            · subst hji
              rw [ho] at hj
              injection hj with hj
              subst hj
              rw [hd] at hd'
              injection hd' with hd'
              subst hd'
              rw [hd, eval_put, if_pos ⟨rfl, by rw [hinv.size]; exact hdN⟩]
              exact (hv _ hd).1
            · rw [hset, if_neg hji] at hjl
              rw [hd, eval_put, if_neg (fun e => hdo j oj hj hji (by rw [hd', e.1]))]
              exact hSl _ _ _ _ (hinv.done j oj d' hj hne hjl hd') hx
          · by_cases hji : j = i
            · have hji' : ¬ j' = i := fun e => hne (hji.trans e.symm)
              rw [hset, if_neg hji'] at hjl'
              subst hji
              rw [ho] at hj
              injection hj with hj
              subst hj
              rw [hd] at hd1
              injection hd1 with hd1
              subst hd1
              rw [hd, eval_put, if_pos ⟨rfl, by rw [hinv.size]; exact hdN⟩, eval_put, if_neg (fun e => hdo j' oj' hj' hji' (by rw [hd2, e.1]))]
              exact ((hv _ hd).2 _ _ (hinv.done j' oj' d2 hj' hj2 hjl' hd2)).1
            · rw [hset, if_neg hji] at hjl
              by_cases hji' : j' = i
              · subst hji'
                rw [ho] at hj'
                injection hj' with hj'
                subst hj'
                rw [hd] at hd2
                injection hd2 with hd2
                subst hd2
                rw [hd, eval_put, if_neg (fun e => hdo j oj hj hji (by rw [hd1, e.1])), eval_put, if_pos ⟨rfl, by rw [hinv.size]; exact hdN⟩]
                exact ((hv _ hd).2 _ _ (hinv.done j oj d1 hj hj1 hjl hd1)).2
              · rw [hset, if_neg hji'] at hjl'
                rw [hd, eval_put, if_neg (fun e => hdo j oj hj hji (by rw [hd1, e.1])), eval_put, if_neg (fun e => hdo j' oj' hj' hji' (by rw [hd2, e.1]))]
                exact hpinv.pairs j j' oj oj' d1 d2 hj hj' hne hj1 hj2 hjl hjl' hd1 hd2
/-- A region by its slots: each operation once. -/
theorem wp_region_pairs {id : Nat} (hm : P.follows .mixedOrders = true) (hok : SlotOk ops pre reads N = true) (hSl : ∀ t v w w', Sl t v w → Ext w w' → Sl t v w') {a : Act} (hD : a.defers = D) (hN : a.tmps.size = N) (hpre : ∀ t ∈ pre, Sl t (a.tmps[t]?.getD undef) w0)
    (hstep : ∀ i : Nat, i + 1 < ops.size → ∃ o, ops[i]? = some o ∧ ∀ (a : Act) (w : World), Ext w0 w → (∀ t ∈ reads i, ∃ x, a.tmps[t]?.getD undef = x ∧ Sl t x w) → (∀ t ∈ reads i, ∀ t' ∈ reads i, t ∉ pre → t' ∉ pre → t ≠ t' → Rl t (a.tmps[t]?.getD undef) t' (a.tmps[t']?.getD undef)) → ∀ K : Act → World → Prop, (∀ v w', Ext w w' → (∀ d, o.dst = some d → Sl d v w' ∧ ∀ t u, Sl t u w → Rl d v t u ∧ Rl t u d v) → K (a.put o.dst v) w') → o.wp P a w K Q)
    (hlast : ∃ o, ops[ops.size - 1]? = some o ∧ ∀ (a : Act) (w : World), Ext w0 w → a.tmps.size = N → a.defers = D → (∀ t ∈ pre, ∃ x, a.tmps[t]?.getD undef = x ∧ Sl t x w) → (∀ (j : Nat) (oj : Oper) (d : Tmp), ops[j]? = some oj → j + 1 ≠ ops.size → oj.dst = some d → ∃ x, a.tmps[d]?.getD undef = x ∧ Sl d x w) →
      (∀ (j j' : Nat) (o o' : Oper) (d d' : Tmp), ops[j]? = some o → ops[j']? = some o' → j ≠ j' → j + 1 ≠ ops.size → j' + 1 ≠ ops.size → o.dst = some d → o'.dst = some d' → Rl d (a.tmps[d]?.getD undef) d' (a.tmps[d']?.getD undef)) →
      ∀ K : Act → World → Prop, (∀ a' w', Q .normal a' w' → K a' w') → o.wp P a w K Q) :
    (Code.region id ops true).wp P Q a w0 := by
  refine wp_region_any hm (wpAny_pairs (Sl := Sl) (Rl := Rl) (reads := reads) (pre := pre) (N := N) (w0 := w0) (D := D) hok hSl (fun i o ho hne a w hx hr hrp K hK => ?_) (fun o ho a w hx hn hdf hp hd hpr K hK => ?_) _ _ _ _ ?_ ?_ ⟨⟨(Ext.refl w0).drewN 1, hN, fun t ht => hSl _ _ _ _ (by rw [eval_tmp']; exact hpre t ht) ((Ext.refl w0).drewN 1), fun j o d hj hne hl _ => ?_, by simp, hD⟩, fun j j' o o' d d' hj hj' hne h1 h2 hl hl' _ _ => ?_⟩)
  · obtain ⟨o', ho', h⟩ := hstep i (by have := (Array.getElem?_eq_some_iff.1 ho).1; omega)
    have e := Option.some.inj (ho'.symm.trans ho)
    subst e
    exact h a w hx (fun t ht => ⟨_, rfl, by have := hr t ht; rwa [eval_tmp'] at this⟩) (fun t ht t' ht' h1 h2 h3 => by have := hrp t ht t' ht' h1 h2 h3; rwa [eval_tmp', eval_tmp'] at this) K hK
  · obtain ⟨o', ho', h⟩ := hlast
    have e := Option.some.inj (ho'.symm.trans ho)
    subst e
    exact h a w hx hn hdf (fun t ht => ⟨_, rfl, by have := hp t ht; rwa [eval_tmp'] at this⟩) (fun j oj d hj hne hdd => ⟨_, rfl, by have := hd j oj d hj hne hdd; rwa [eval_tmp'] at this⟩) (fun j j' oj oj' d d' hj hj' hne h1 h2 hd1 hd2 => by have := hpr j j' oj oj' d d' hj hj' hne h1 h2 hd1 hd2; rwa [eval_tmp', eval_tmp'] at this) K hK
  · have h := List.countP_le_length (p := fun i => !(Array.replicate ops.size false).getD i true) (l := List.range ops.size)
    rw [List.length_range] at h
    exact h
  · have hpos : 0 < ops.size := by
      unfold SlotOk at hok
      rw [Bool.and_eq_true] at hok
      exact of_decide_eq_true hok.1
    rw [Array.getD_eq_getD_getElem?, Array.getElem?_replicate, if_pos (by omega)]
    rfl
  · have := (Array.getElem?_eq_some_iff.1 hj).1
    rw [Array.getD_eq_getD_getElem?, Array.getElem?_replicate, if_pos this] at hl
    cases hl
  · have := (Array.getElem?_eq_some_iff.1 hj).1
    rw [Array.getD_eq_getD_getElem?, Array.getElem?_replicate, if_pos this] at hl
    cases hl
end
end Go.Proofs.YtfcmdiigfgbgbaaGreat

/- The reference's Nnf and opposite. -/

namespace Go.Proofs.YtfcmdiigfgbgbaaGreat
open Go.RowKit

/-- positive and negative at all nodes. -/
theorem posneg_all {W0 : World} {bn b1 b2 b3 b4 cp : Nat} {A : Option Addr} {c : List Nd} (hc : Wf c) (hF : FewN c) (hh : ∀ n ∈ c, headOk n) (hok : ∀ n ∈ c, n.ok) :
    ∀ i : Nat, i < c.length → PosSaid W0 bn b1 b2 b3 b4 A cp c i ∧ NegSaid W0 bn b1 b2 b3 b4 A cp c i := by
  intro i
  induction i using Nat.strongRecOn with
  | _ i ih =>
    intro hi
    obtain ⟨n, hn⟩ : ∃ n, c[i]? = some n := ⟨_, List.getElem?_eq_getElem hi⟩
    obtain ⟨hx, hy⟩ := hc i n hn
    have hm := List.mem_of_getElem? hn
    have X : hasX n.op = true → PosSaid W0 bn b1 b2 b3 b4 A cp c n.x ∧ NegSaid W0 bn b1 b2 b3 b4 A cp c n.x := fun h => by
      have h1 := hx h
      have h2 := ih n.x.toNat (by omega) (by omega)
      rwa [Int.toNat_of_nonneg h1.1] at h2
    have Y : hasY n.op = true → PosSaid W0 bn b1 b2 b3 b4 A cp c n.y ∧ NegSaid W0 bn b1 b2 b3 b4 A cp c n.y := fun h => by
      have h1 := hy h
      have h2 := ih n.y.toNat (by omega) (by omega)
      rwa [Int.toNat_of_nonneg h1.1] at h2
    have hop := hF n hm
    have P : PosSaid W0 bn b1 b2 b3 b4 A cp c i := positive_of hi (by
      by_cases h4 : n.op = 4
      · exact mkpos_not hc hn h4 (X (by rw [h4]; rfl)).2
      · exact mkpos_re hc hn (hh n hm) (hok n hm) hop h4 (fun h => (X h).1) (fun h => (Y h).1))
    refine ⟨P, negative_of hi ?_⟩
    rcases (show n.op = 1 ∨ n.op = 2 ∨ n.op = 3 ∨ n.op = 4 ∨ n.op = 5 ∨ n.op = 6 ∨ n.op = 9 ∨ n.op = 10 by unfold OpN at hop; omega) with ho | ho | ho | ho | ho | ho | ho | ho
    · exact mkneg_1 hc hn ho
    · exact mkneg_2 hc hn ho
    · exact mkneg_3 hc hn ho P
    · exact mkneg_4 hc hn ho (X (by rw [ho]; rfl)).1
    · exact mkneg_5 hc hn ho (X (by rw [ho]; rfl)).2 (Y (by rw [ho]; rfl)).2
    · exact mkneg_6 hc hn ho (X (by rw [ho]; rfl)).2 (Y (by rw [ho]; rfl)).2
    · exact mkneg_9 hc hn ho (hh n hm) (hok n hm) (X (by rw [ho]; rfl)).2
    · exact mkneg_10 hc hn ho (hh n hm) (hok n hm) (X (by rw [ho]; rfl)).2
set_option maxHeartbeats 2000000 in
theorem done_any (v : Value) (l : List Nd) (w : World) (h : Fml w v l) :
    Calls Tryz.prog 77 #[v] w fun e w' => ∃ u, e = .returned (.tuple #[u, .int .i64 (longErr l)]) ∧ Ext w w' ∧ Fml w' u l := by
  have H := Lib.hid h
  obtain ⟨A, c, rfl, _⟩ := fml_slice h
  clear h
  by_cases h0 : l.length = 0
  · have hn : l = [] := List.length_eq_zero_iff.1 h0
    subst hn
    go_enter Tryz.func77, Tryz.ntmps77
    go_wp2_with fail
    go_ret2
    exact ⟨_, rfl, Ext.refl _, fml_none _⟩
  · have hd : ((l.length : Int) == 0) = false := by rw [beq_eq_false_iff_ne]; omega
    have HD := Lib.hid (show longErr l = 0 by unfold longErr; rw [decide_eq_false h0]; rfl)
    clear h0
    go_enter Tryz.func77, Tryz.ntmps77
    go_wp2_with fail
    go_ret2
    rw [HD.out]
    exact ⟨_, rfl, Ext.refl _, H.out⟩
theorem tInfoL : (Tryz.prog.info? 22).map (fun i => (i.zero, i.size, i.bytes)) = some (some (.slice none 0 0), 1, 24) := by kernel_rfl
theorem tInfoB : (Tryz.prog.info? 4).map (fun i => (i.zero, i.size, i.bytes)) = some (some (.bool false), 1, 1) := by kernel_rfl
theorem make_lists (n : Nat) (hn : n ≤ 1000) (W : World) : (Instr.makeSlice 41 (.int .i64 (n : Int)) (.int .i64 (n : Int))).run Tryz.prog W = .ok (.slice (some ⟨W.heap.size, 0, none⟩) n n) (W.alloc (.cells (List.replicate n (Value.slice none 0 0)).toArray 22)) := by
  obtain ⟨i, hi, h0, h1, h2⟩ := info_parts tInfoL
  have h := run_make (P := Tryz.prog) W 41 22 i (.slice none 0 0) Tryz.underlying41 hi h0 .i64 .i64 n n (by omega) (Int.le_refl _) (by rw [h2]; omega) (by omega)
  rw [h1, Int.toNat_natCast, Nat.mul_one] at h
  rw [h, ← toList_madeCells_one]
  rfl
theorem make_bools (n : Nat) (hn : n ≤ 1000) (W : World) : (Instr.makeSlice 91 (.int .i64 (n : Int)) (.int .i64 (n : Int))).run Tryz.prog W = .ok (.slice (some ⟨W.heap.size, 0, none⟩) n n) (W.alloc (.cells (List.replicate n (Value.bool false)).toArray 4)) := by
  obtain ⟨i, hi, h0, h1, h2⟩ := info_parts tInfoB
  have h := run_make (P := Tryz.prog) W 91 4 i (.bool false) Tryz.underlying91 hi h0 .i64 .i64 n n (by omega) (Int.le_refl _) (by rw [h2]; omega) (by omega)
  rw [h1, Int.toNat_natCast, Nat.mul_one] at h
  rw [h, ← toList_madeCells_one]
  rfl
theorem arr35 {a : Array Value} (h : a.size = 35) : ∃ v0 v1 v2 v3 v4 v5 v6 v7 v8 v9 v10 v11 v12 v13 v14 v15 v16 v17 v18 v19 v20 v21 v22 v23 v24 v25 v26 v27 v28 v29 v30 v31 v32 v33 v34, a = #[v0, v1, v2, v3, v4, v5, v6, v7, v8, v9, v10, v11, v12, v13, v14, v15, v16, v17, v18, v19, v20, v21, v22, v23, v24, v25, v26, v27, v28, v29, v30, v31, v32, v33, v34] := by
  obtain ⟨l⟩ := a
  have h : l.length = 35 := h
  rcases l with _ | ⟨v0, l⟩
  · simp at h
  rw [List.length_cons] at h
  rcases l with _ | ⟨v1, l⟩
  · simp at h
  rw [List.length_cons] at h
  rcases l with _ | ⟨v2, l⟩
  · simp at h
  rw [List.length_cons] at h
  rcases l with _ | ⟨v3, l⟩
  · simp at h
  rw [List.length_cons] at h
  rcases l with _ | ⟨v4, l⟩
  · simp at h
  rw [List.length_cons] at h
  rcases l with _ | ⟨v5, l⟩
  · simp at h
  rw [List.length_cons] at h
  rcases l with _ | ⟨v6, l⟩
  · simp at h
  rw [List.length_cons] at h
  rcases l with _ | ⟨v7, l⟩
  · simp at h
  rw [List.length_cons] at h
  rcases l with _ | ⟨v8, l⟩
  · simp at h
  rw [List.length_cons] at h
  rcases l with _ | ⟨v9, l⟩
  · simp at h
  rw [List.length_cons] at h
  rcases l with _ | ⟨v10, l⟩
  · simp at h
  rw [List.length_cons] at h
  rcases l with _ | ⟨v11, l⟩
  · simp at h
  rw [List.length_cons] at h
  rcases l with _ | ⟨v12, l⟩
  · simp at h
  rw [List.length_cons] at h
  rcases l with _ | ⟨v13, l⟩
  · simp at h
  rw [List.length_cons] at h
  rcases l with _ | ⟨v14, l⟩
  · simp at h
  rw [List.length_cons] at h
  rcases l with _ | ⟨v15, l⟩
  · simp at h
  rw [List.length_cons] at h
  rcases l with _ | ⟨v16, l⟩
  · simp at h
  rw [List.length_cons] at h
  rcases l with _ | ⟨v17, l⟩
  · simp at h
  rw [List.length_cons] at h
  rcases l with _ | ⟨v18, l⟩
  · simp at h
  rw [List.length_cons] at h
  rcases l with _ | ⟨v19, l⟩
  · simp at h
  rw [List.length_cons] at h
  rcases l with _ | ⟨v20, l⟩
  · simp at h
  rw [List.length_cons] at h
  rcases l with _ | ⟨v21, l⟩
  · simp at h
  rw [List.length_cons] at h
  rcases l with _ | ⟨v22, l⟩
  · simp at h
  rw [List.length_cons] at h
  rcases l with _ | ⟨v23, l⟩
  · simp at h
  rw [List.length_cons] at h
  rcases l with _ | ⟨v24, l⟩
  · simp at h
  rw [List.length_cons] at h
  rcases l with _ | ⟨v25, l⟩
  · simp at h
  rw [List.length_cons] at h
  rcases l with _ | ⟨v26, l⟩
  · simp at h
  rw [List.length_cons] at h
  rcases l with _ | ⟨v27, l⟩
  · simp at h
  rw [List.length_cons] at h
  rcases l with _ | ⟨v28, l⟩
  · simp at h
  rw [List.length_cons] at h
  rcases l with _ | ⟨v29, l⟩
  · simp at h
  rw [List.length_cons] at h
  rcases l with _ | ⟨v30, l⟩
  · simp at h
  rw [List.length_cons] at h
  rcases l with _ | ⟨v31, l⟩
  · simp at h
  rw [List.length_cons] at h
  rcases l with _ | ⟨v32, l⟩
  · simp at h
  rw [List.length_cons] at h
  rcases l with _ | ⟨v33, l⟩
  · simp at h
  rw [List.length_cons] at h
  rcases l with _ | ⟨v34, l⟩
  · simp at h
  rw [List.length_cons] at h
  rcases l with _ | ⟨x, l⟩
  · exact ⟨_, _, _, _, _, _, _, _, _, _, _, _, _, _, _, _, _, _, _, _, _, _, _, _, _, _, _, _, _, _, _, _, _, _, _, rfl⟩
  · rw [List.length_cons] at h
    omega
/-- A row as it is made. -/
def RowSl (base n : Nat) (z : Value) (ty : TypeId) (v : Value) (w : World) : Prop := ∃ g, v = .slice (some ⟨g, 0, none⟩) n n ∧ base ≤ g ∧ w.heap[g]? = some (.cells (List.replicate n z).toArray ty (0, 0))
section
variable {base n : Nat} {z v u0 : Value} {ty : TypeId} {w w' : World}
theorem RowSl.ext (h : RowSl base n z ty v w) (he : Ext w w') : RowSl base n z ty v w' := by
  obtain ⟨g, h1, h2, h3⟩ := h
  exact ⟨g, h1, h2, (he.block (lt_heap h3)).trans h3⟩
theorem RowSl.new (hb : base ≤ w.heap.size) : RowSl base n z ty (.slice (some ⟨w.heap.size, 0, none⟩) n n) (w.alloc (.cells (List.replicate n z).toArray ty)) := ⟨_, rfl, hb, heap_alloc_new _ _⟩
theorem RowSl.ne (h : RowSl base n z ty v w) : Value.slice (some ⟨w.heap.size, 0, none⟩) n n ≠ v := by
  obtain ⟨g, h1, h2, h3⟩ := h
  intro e
  rw [h1] at e
  injection e with e1
  injection e1 with e1
  injection e1 with e1
  have := lt_heap h3
  omega
/-- What the slots of Nnf's region hold. -/
def nnSl (base n : Nat) (u0 : Value) (t : Nat) (v : Value) (w : World) : Prop :=
  match t with
  | 5 => v = u0
  | 14 => v = u0
  | 15 => v = u0
  | 18 => v = u0
  | 21 => v = u0
  | 24 => v = u0
  | 16 => v = .int .i64 (n : Int)
  | 19 => v = .int .i64 (n : Int)
  | 22 => v = .int .i64 (n : Int)
  | 25 => v = .int .i64 (n : Int)
  | 17 => RowSl base n (.slice none 0 0) 22 v w
  | 20 => RowSl base n (.slice none 0 0) 22 v w
  | 23 => RowSl base n (.bool false) 4 v w
  | 26 => RowSl base n (.bool false) 4 v w
  | 27 => ∃ x1 x2 x3 x4, v = .agg #[u0, x1, x2, x3, x4] ∧ (RowSl base n (.slice none 0 0) 22 x1 w ∧ RowSl base n (.slice none 0 0) 22 x2 w ∧ RowSl base n (.bool false) 4 x3 w ∧ RowSl base n (.bool false) 4 x4 w) ∧ x1 ≠ x2 ∧ x3 ≠ x4
  | 6 => ∃ b, v = .pointer (some ⟨b, 0, none⟩) ∧ base ≤ b ∧ w.heap[b]? = some (.cells #[.slice none 0 0, .slice none 0 0, .slice none 0 0, .slice none 0 0, .slice none 0 0] 93 (0, 0))
  | _ => True
theorem nnSl_ext (base n : Nat) (u0 : Value) (t : Nat) (v : Value) (w w' : World) (h : nnSl base n u0 t v w) (he : Ext w w') : nnSl base n u0 t v w' := by
  unfold nnSl at h ⊢
  split at h <;> first
    | exact h
    | exact RowSl.ext h he
    | (obtain ⟨x1, x2, x3, x4, e, ⟨h1, h2, h3, h4⟩, h5⟩ := h; exact ⟨x1, x2, x3, x4, e, ⟨h1.ext he, h2.ext he, h3.ext he, h4.ext he⟩, h5⟩)
    | (obtain ⟨b, h1, h2, h3⟩ := h; exact ⟨b, h1, h2, (he.block (lt_heap h3)).trans h3⟩)
def nnRl (d : Nat) (v : Value) (t : Nat) (u : Value) : Prop := d ∈ [17, 20, 23, 26] → t ∈ [17, 20, 23, 26] → v ≠ u
theorem nnSl_ne {t : Nat} {u : Value} (ht : t ∈ [17, 20, 23, 26]) (h : nnSl base n u0 t u w) : Value.slice (some ⟨w.heap.size, 0, none⟩) n n ≠ u := by
  simp only [List.mem_cons, List.mem_nil_iff, or_false] at ht
  rcases ht with rfl | rfl | rfl | rfl
  · exact RowSl.ne (z := .slice none 0 0) (ty := 22) h
  · exact RowSl.ne (z := .slice none 0 0) (ty := 22) h
  · exact RowSl.ne (z := .bool false) (ty := 4) h
  · exact RowSl.ne (z := .bool false) (ty := 4) h
theorem nn_new (t : Nat) (u : Value) (d : Nat) (h : nnSl base n u0 t u w) : nnRl d (.slice (some ⟨w.heap.size, 0, none⟩) n n) t u ∧ nnRl t u d (.slice (some ⟨w.heap.size, 0, none⟩) n n) :=
  ⟨fun _ ht => nnSl_ne ht h, fun ht _ => (nnSl_ne ht h).symm⟩
theorem nn_other {d : Nat} (hd : d ∉ [17, 20, 23, 26]) (v : Value) (t : Nat) (u : Value) : nnRl d v t u ∧ nnRl t u d v := ⟨fun h => absurd h hd, fun _ h => absurd h hd⟩
end
def nnReads (i : Nat) : List Nat :=
  match i with
  | 0 => [5]
  | 1 => [5]
  | 2 => [15]
  | 3 => [16]
  | 4 => [5]
  | 5 => [18]
  | 6 => [19]
  | 7 => [5]
  | 8 => [21]
  | 9 => [22]
  | 10 => [5]
  | 11 => [24]
  | 12 => [25]
  | 13 => [14, 17, 20, 23, 26]
  | _ => []
/-- The state as it is made. -/
theorem renv_made {W0 w : World} {A : Option Addr} {cp b g1 g2 g3 g4 : Nat} {c : List Nd} (hx : Ext W0 w) (hc : Fml W0 (.slice A c.length cp) c) (hb : W0.heap.size ≤ b)
    (hbb : w.heap[b]? = some (.cells #[.slice none 0 0, .slice none 0 0, .slice none 0 0, .slice none 0 0, .slice none 0 0] 93 (0, 0)))
    (r1 : W0.heap.size ≤ g1 ∧ w.heap[g1]? = some (.cells (List.replicate c.length (Value.slice none 0 0)).toArray 22 (0, 0))) (r2 : W0.heap.size ≤ g2 ∧ w.heap[g2]? = some (.cells (List.replicate c.length (Value.slice none 0 0)).toArray 22 (0, 0)))
    (r3 : W0.heap.size ≤ g3 ∧ w.heap[g3]? = some (.cells (List.replicate c.length (Value.bool false)).toArray 4 (0, 0))) (r4 : W0.heap.size ≤ g4 ∧ w.heap[g4]? = some (.cells (List.replicate c.length (Value.bool false)).toArray 4 (0, 0)))
    (h12 : g1 ≠ g2) (h34 : g3 ≠ g4) :
    REnv W0 (((((w.setCell ⟨b, 0, none⟩ (.slice A c.length cp)).setCell ⟨b, 1, none⟩ (.slice (some ⟨g1, 0, none⟩) c.length c.length)).setCell ⟨b, 2, none⟩ (.slice (some ⟨g2, 0, none⟩) c.length c.length)).setCell ⟨b, 3, none⟩ (.slice (some ⟨g3, 0, none⟩) c.length c.length)).setCell ⟨b, 4, none⟩ (.slice (some ⟨g4, 0, none⟩) c.length c.length)) b g1 g2 g3 g4 A cp c := by
  have ty : ∀ {x y : Nat} {p q : Array Value} {s t : TypeId}, w.heap[x]? = some (.cells p s (0, 0)) → w.heap[y]? = some (.cells q t (0, 0)) → s ≠ t → x ≠ y := fun h1 h2 hne e => by
    rw [e, h2] at h1
    injection h1 with h1
    injection h1 with _ h1
    exact hne h1.symm
  have n1 : b ≠ g1 := ty hbb r1.2 (by decide)
  have n2 : b ≠ g2 := ty hbb r2.2 (by decide)
  have n3 : b ≠ g3 := ty hbb r3.2 (by decide)
  have n4 : b ≠ g4 := ty hbb r4.2 (by decide)
  have n5 : g1 ≠ g3 := ty r1.2 r3.2 (by decide)
  have n6 : g1 ≠ g4 := ty r1.2 r4.2 (by decide)
  have n7 : g2 ≠ g3 := ty r2.2 r3.2 (by decide)
  have n8 : g2 ≠ g4 := ty r2.2 r4.2 (by decide)
  obtain ⟨w5, hw5⟩ : ∃ w5, w5 = ((((w.setCell ⟨b, 0, none⟩ (.slice A c.length cp)).setCell ⟨b, 1, none⟩ (.slice (some ⟨g1, 0, none⟩) c.length c.length)).setCell ⟨b, 2, none⟩ (.slice (some ⟨g2, 0, none⟩) c.length c.length)).setCell ⟨b, 3, none⟩ (.slice (some ⟨g3, 0, none⟩) c.length c.length)).setCell ⟨b, 4, none⟩ (.slice (some ⟨g4, 0, none⟩) c.length c.length) := ⟨_, rfl⟩
  rw [← hw5]
  have k : ∀ g, b ≠ g → w5.heap[g]? = w.heap[g]? := fun g hg => by
    rw [hw5]
    rw [Below.heap_setCell _ ⟨b, 4, none⟩ _ _ (Ne.symm hg), Below.heap_setCell _ ⟨b, 3, none⟩ _ _ (Ne.symm hg), Below.heap_setCell _ ⟨b, 2, none⟩ _ _ (Ne.symm hg), Below.heap_setCell _ ⟨b, 1, none⟩ _ _ (Ne.symm hg), Below.heap_setCell _ ⟨b, 0, none⟩ _ _ (Ne.symm hg)]
  have kb : w5.heap[b]? = some (.cells #[.slice A c.length cp, .slice (some ⟨g1, 0, none⟩) c.length c.length, .slice (some ⟨g2, 0, none⟩) c.length c.length, .slice (some ⟨g3, 0, none⟩) c.length c.length, .slice (some ⟨g4, 0, none⟩) c.length c.length] 93 (0, 0)) := by
    rw [hw5, heap_setCell_same _ b 4 _ _ _ (heap_setCell_same _ b 3 _ _ _ (heap_setCell_same _ b 2 _ _ _ (heap_setCell_same _ b 1 _ _ _ (heap_setCell_same _ b 0 _ _ _ hbb))))]
    rfl
  have kx : Ext W0 w5 := by
    rw [hw5]
    exact Ext.setCell (Ext.setCell (Ext.setCell (Ext.setCell (Ext.setCell hx hb _) hb _) hb _) hb _) hb _
  refine ⟨kx, hc, kb, ⟨List.replicate c.length (.slice none 0 0), List.replicate c.length false, (k g1 n1).trans r1.2, by rw [List.map_replicate]; exact (k g3 n3).trans r3.2, by simp, by simp, fun v hv => ?_, fun i hi => ?_⟩,
    ⟨List.replicate c.length (.slice none 0 0), List.replicate c.length false, (k g2 n2).trans r2.2, by rw [List.map_replicate]; exact (k g4 n4).trans r4.2, by simp, by simp, fun v hv => ?_, fun i hi => ?_⟩, fun x hx => ?_, ?_⟩
  · rw [List.eq_of_mem_replicate hv]; exact ⟨_, _, _, rfl⟩
  · have := List.eq_of_mem_replicate (List.mem_of_getElem? hi)
    cases this
  · rw [List.eq_of_mem_replicate hv]; exact ⟨_, _, _, rfl⟩
  · have := List.eq_of_mem_replicate (List.mem_of_getElem? hi)
    cases this
  · simp only [List.mem_cons, List.mem_nil_iff, or_false] at hx
    rcases hx with rfl | rfl | rfl | rfl
    · exact r1.1
    · exact r2.1
    · exact r3.1
    · exact r4.1
  · simp only [List.nodup_cons, List.mem_cons, List.mem_nil_iff, or_false, not_or, List.nodup_nil, and_true, not_false_eq_true]
    exact ⟨⟨n1, n2, n3, n4⟩, ⟨h12, n5, n6⟩, ⟨n7, n8⟩, h34⟩
set_option maxRecDepth 100000 in
set_option maxHeartbeats 40000000 in
theorem rnnf_any (v : Value) (f : List Nd) (w : World) (h : Fml w v f) (hF : check f = 0 → FewN (compactN f)) :
    Calls Tryz.prog 63 #[v] w fun e w' => ∃ u, e = .returned (.tuple #[u, .int .i64 (nnfErr f)]) ∧ Ext w w' ∧ Fml w' u (nnfAll f) := by
  have H := Lib.hid h
  have HFW := Lib.hid hF
  obtain ⟨A, c, rfl, _⟩ := fml_slice h
  clear h hF
  go_enter Tryz.func63, Tryz.ntmps63
  go_wp2_with fail
  refine (refCheck_any _ f _ H.out.1).mono ?_
  rintro e w1 ⟨rfl, hx⟩
  have X1 := Lib.hid hx
  clear hx
  cases hc : check f != 0
  case true =>
    have HE := Lib.hid (show nnfErr f = check f ∧ nnfAll f = [] by unfold nnfErr nnfAll; rw [hc]; exact ⟨rfl, rfl⟩)
    go_wp2_with fail
    go_ret2
    rw [HE.out.1, HE.out.2]
    exact ⟨_, rfl, X1.out, fml_none _⟩
  case false =>
    have hc0 : check f = 0 := by simpa using hc
    have HE := Lib.hid (show nnfErr f = longErr (nnfAll f) ∧ nnfAll f = nnfN (compactN f) false ((compactN f).length - 1) by
      unfold nnfErr
      rw [hc]
      refine ⟨rfl, ?_⟩
      unfold nnfAll
      rw [hc]
      rfl)
    obtain ⟨cw, cl, cpos, cheads⟩ := compactN_props hc0
    have hl200 := (check_parts hc0).2.1
    have CW := Lib.hid cw
    have CH := Lib.hid cheads
    have HF10 := Lib.hid (HFW.out hc0)
    generalize hcc : compactN f = cc at HE CW CH HF10 cl cpos
    have HCC := Lib.hid hcc
    clear cw hcc hc0 cheads
    go_wp2_with fail
    refine (refCompact_any _ f _ (H.out.ext X1.out)).mono ?_
    rintro e w2 ⟨u, rfl, hm⟩
    rw [HCC.out] at hm
    have X2 := Lib.hid (X1.out.trans hm.2.2)
    have HF := Lib.hid hm.fml
    obtain ⟨Au, cu, rfl, _⟩ := fml_slice hm.fml
    have hcap : cc.length ≤ cu := by
      obtain ⟨A', c', e, h1, _⟩ := HF.out.1
      injection e with _ _ e3
      subst e3
      exact h1
    clear hm hc
    go_wp2_with fail
    have hmk1 := make_lists cc.length (by omega)
    have hmk2 := make_bools cc.length (by omega)
    refine wp_region_pairs (Sl := nnSl w2.heap.size cc.length (.slice Au cc.length cu)) (Rl := nnRl) (pre := [5]) (reads := nnReads) (N := 35) (by kernel_rfl) (by kernel_rfl) (nnSl_ext _ _ _) (D := []) rfl rfl ?pre ?step ?last
    case pre =>
      intro t ht
      simp only [List.mem_cons, List.not_mem_nil, or_false] at ht
      subst ht
      exact (rfl : Value.slice Au cc.length cu = .slice Au cc.length cu)
    case step =>
      clear HF H HFW HE CW CH HF10 HCC X1 X2
      intro i hi
      match i, hi with
      | 0, _ =>
        refine ⟨_, rfl, fun a' w hx hr hp K hK => ?_⟩
        obtain ⟨x, e, h⟩ := hr 5 (by simp [nnReads])
        have h' : x = .slice Au cc.length cu := h
        subst h'
        go_simp
        exact hK _ w (Ext.refl _) (fun d hd => by cases hd; exact ⟨rfl, fun t u _ => nn_other (by decide) _ t u⟩)
      | 1, _ =>
        refine ⟨_, rfl, fun a' w hx hr hp K hK => ?_⟩
        obtain ⟨x, e, h⟩ := hr 5 (by simp [nnReads])
        have h' : x = .slice Au cc.length cu := h
        subst h'
        go_simp
        exact hK _ w (Ext.refl _) (fun d hd => by cases hd; exact ⟨rfl, fun t u _ => nn_other (by decide) _ t u⟩)
      | 2, _ =>
        refine ⟨_, rfl, fun a' w hx hr hp K hK => ?_⟩
        obtain ⟨x, e, h⟩ := hr 15 (by simp [nnReads])
        have h' : x = .slice Au cc.length cu := h
        subst h'
        go_simp
        exact hK _ w (Ext.refl _) (fun d hd => by cases hd; exact ⟨rfl, fun t u _ => nn_other (by decide) _ t u⟩)
      | 3, _ =>
        refine ⟨_, rfl, fun a' w hx hr hp K hK => ?_⟩
        obtain ⟨x, e, h⟩ := hr 16 (by simp [nnReads])
        have h' : x = .int .i64 (cc.length : Int) := h
        subst h'
        go_simp
        exact hK _ _ ((Ext.refl _).alloc _) (fun d hd => by cases hd; exact ⟨RowSl.new hx.size, fun t u hs => nn_new t u 17 hs⟩)
      | 4, _ =>
        refine ⟨_, rfl, fun a' w hx hr hp K hK => ?_⟩
        obtain ⟨x, e, h⟩ := hr 5 (by simp [nnReads])
        have h' : x = .slice Au cc.length cu := h
        subst h'
        go_simp
        exact hK _ w (Ext.refl _) (fun d hd => by cases hd; exact ⟨rfl, fun t u _ => nn_other (by decide) _ t u⟩)
      | 5, _ =>
        refine ⟨_, rfl, fun a' w hx hr hp K hK => ?_⟩
        obtain ⟨x, e, h⟩ := hr 18 (by simp [nnReads])
        have h' : x = .slice Au cc.length cu := h
        subst h'
        go_simp
        exact hK _ w (Ext.refl _) (fun d hd => by cases hd; exact ⟨rfl, fun t u _ => nn_other (by decide) _ t u⟩)
      | 6, _ =>
        refine ⟨_, rfl, fun a' w hx hr hp K hK => ?_⟩
        obtain ⟨x, e, h⟩ := hr 19 (by simp [nnReads])
        have h' : x = .int .i64 (cc.length : Int) := h
        subst h'
        go_simp
        exact hK _ _ ((Ext.refl _).alloc _) (fun d hd => by cases hd; exact ⟨RowSl.new hx.size, fun t u hs => nn_new t u 20 hs⟩)
      | 7, _ =>
        refine ⟨_, rfl, fun a' w hx hr hp K hK => ?_⟩
        obtain ⟨x, e, h⟩ := hr 5 (by simp [nnReads])
        have h' : x = .slice Au cc.length cu := h
        subst h'
        go_simp
        exact hK _ w (Ext.refl _) (fun d hd => by cases hd; exact ⟨rfl, fun t u _ => nn_other (by decide) _ t u⟩)
      | 8, _ =>
        refine ⟨_, rfl, fun a' w hx hr hp K hK => ?_⟩
        obtain ⟨x, e, h⟩ := hr 21 (by simp [nnReads])
        have h' : x = .slice Au cc.length cu := h
        subst h'
        go_simp
        exact hK _ w (Ext.refl _) (fun d hd => by cases hd; exact ⟨rfl, fun t u _ => nn_other (by decide) _ t u⟩)
      | 9, _ =>
        refine ⟨_, rfl, fun a' w hx hr hp K hK => ?_⟩
        obtain ⟨x, e, h⟩ := hr 22 (by simp [nnReads])
        have h' : x = .int .i64 (cc.length : Int) := h
        subst h'
        go_simp
        exact hK _ _ ((Ext.refl _).alloc _) (fun d hd => by cases hd; exact ⟨RowSl.new hx.size, fun t u hs => nn_new t u 23 hs⟩)
      | 10, _ =>
        refine ⟨_, rfl, fun a' w hx hr hp K hK => ?_⟩
        obtain ⟨x, e, h⟩ := hr 5 (by simp [nnReads])
        have h' : x = .slice Au cc.length cu := h
        subst h'
        go_simp
        exact hK _ w (Ext.refl _) (fun d hd => by cases hd; exact ⟨rfl, fun t u _ => nn_other (by decide) _ t u⟩)
      | 11, _ =>
        refine ⟨_, rfl, fun a' w hx hr hp K hK => ?_⟩
        obtain ⟨x, e, h⟩ := hr 24 (by simp [nnReads])
        have h' : x = .slice Au cc.length cu := h
        subst h'
        go_simp
        exact hK _ w (Ext.refl _) (fun d hd => by cases hd; exact ⟨rfl, fun t u _ => nn_other (by decide) _ t u⟩)
      | 12, _ =>
        refine ⟨_, rfl, fun a' w hx hr hp K hK => ?_⟩
        obtain ⟨x, e, h⟩ := hr 25 (by simp [nnReads])
        have h' : x = .int .i64 (cc.length : Int) := h
        subst h'
        go_simp
        exact hK _ _ ((Ext.refl _).alloc _) (fun d hd => by cases hd; exact ⟨RowSl.new hx.size, fun t u hs => nn_new t u 26 hs⟩)
      | 13, _ =>
        refine ⟨_, rfl, fun a' w hx hr hp K hK => ?_⟩
        obtain ⟨x0, e0, h0⟩ := hr 14 (by simp [nnReads])
        have h0' : x0 = .slice Au cc.length cu := h0
        subst h0'
        obtain ⟨x1, e1, h1⟩ := hr 17 (by simp [nnReads])
        obtain ⟨x2, e2, h2⟩ := hr 20 (by simp [nnReads])
        obtain ⟨x3, e3, h3⟩ := hr 23 (by simp [nnReads])
        obtain ⟨x4, e4, h4⟩ := hr 26 (by simp [nnReads])
        have p12 : x1 ≠ x2 := by have := hp 17 (by simp [nnReads]) 20 (by simp [nnReads]) (by decide) (by decide) (by decide) (by decide) (by decide); rwa [e1, e2] at this
        have p34 : x3 ≠ x4 := by have := hp 23 (by simp [nnReads]) 26 (by simp [nnReads]) (by decide) (by decide) (by decide) (by decide) (by decide); rwa [e3, e4] at this
        have HS := Lib.hid (show nnSl w2.heap.size cc.length (.slice Au cc.length cu) 27 (.agg #[.slice Au cc.length cu, x1, x2, x3, x4]) w from ⟨x1, x2, x3, x4, rfl, ⟨h1, h2, h3, h4⟩, p12, p34⟩)
        obtain ⟨g1, rfl, _⟩ := h1
        obtain ⟨g2, rfl, _⟩ := h2
        obtain ⟨g3, rfl, _⟩ := h3
        obtain ⟨g4, rfl, _⟩ := h4
        clear p12 p34
        go_simp
        exact hK _ w (Ext.refl _) (fun d hd => by cases hd; exact ⟨HS.out, fun t u _ => nn_other (by decide) _ t u⟩)
      | 14, _ =>
        refine ⟨_, rfl, fun a' w hx hr hp K hK => ?_⟩
        go_simp
        exact hK _ _ ((Ext.refl _).alloc _) (fun d hd => by cases hd; exact ⟨⟨_, rfl, hx.size, heap_alloc_new _ _⟩, fun t u _ => nn_other (by decide) _ t u⟩)
      | k + 15, h => exact absurd h (by show ¬ (k + 15 + 1 < 16); omega)
    case last =>
      refine ⟨_, rfl, fun a' w9 hx hn hdf hp hd hpr K hK => ?_⟩
      obtain ⟨x6, e6, h6⟩ := hd 14 _ 6 rfl (by decide) rfl
      obtain ⟨x27, e27, h27⟩ := hd 13 _ 27 rfl (by decide) rfl
      obtain ⟨x5, e5, h5⟩ := hp 5 (by simp)
      have h5' : x5 = .slice Au cc.length cu := h5
      subst h5'
      obtain ⟨b, rfl, hb0, hbb⟩ := h6
      obtain ⟨x1, x2, x3, x4, rfl, ⟨h1, h2, h3, h4⟩, h12, h34⟩ := h27
      obtain ⟨g1, rfl, r1⟩ := h1
      obtain ⟨g2, rfl, r2⟩ := h2
      obtain ⟨g3, rfl, r3⟩ := h3
      obtain ⟨g4, rfl, r4⟩ := h4
      have RE := Lib.hid (renv_made hx HF.out hb0 hbb r1 r2 r3 r4 (fun e => h12 (by rw [e])) (fun e => h34 (by rw [e])))
      obtain ⟨⟨d0, d1, d2, d3, d4⟩, dlt⟩ := cells5 hbb
      have hfz := fun j => frozen_block hbb j
      have f0 := hfz 0
      have f1 := hfz 1
      have f2 := hfz 2
      have f3 := hfz 3
      have f4 := hfz 4
      have HNN := Lib.hid hn
      clear hp hd hpr hbb hb0 r1 r2 r3 r4 h12 h34 hn hx hmk1 hmk2 hfz h5
      go_simp
      refine hK _ _ ?_
      clear hK
      obtain ⟨v0, v1, v2, v3, v4, v5, v6, v7, v8, v9, v10, v11, v12, v13, v14, v15, v16, v17, v18, v19, v20, v21, v22, v23, v24, v25, v26, v27, v28, v29, v30, v31, v32, v33, v34, hvs⟩ := arr35 HNN.out
      have q5 : v5 = .slice Au cc.length cu := by rw [hvs] at e5; exact e5
      have q6 : v6 = .pointer (some ⟨b, 0, none⟩) := by rw [hvs] at e6; exact e6
      obtain ⟨tm, df⟩ := a'
      simp only at hvs hdf
      subst hvs hdf q5 q6
      clear HNN e5 e6 e27 d0 d1 d2 d3 d4 f0 f1 f2 f3 f4 dlt
      generalize hW : World.setCell _ _ _ = W at RE ⊢
      clear hW
      have hof := (posneg_all (W0 := w2) (bn := b) (b1 := g1) (b2 := g2) (b3 := g3) (b4 := g4) (A := Au) (cp := cu) CW.out HF10.out CH.out HF.out.2 (cc.length - 1) (by omega)).1
      rw [show (((cc.length - 1 : Nat) : Int)) = (cc.length : Int) - 1 by omega] at hof
      have HOF := Lib.hid hof
      have hT : ((cc.length : Int) - 1).toNat = cc.length - 1 := by omega
      clear hof
      go_wp2_with fail
      refine (HOF.out _ RE.out).mono ?_
      rintro e w4 ⟨u4, rfl, he4, hs4, hu4⟩
      rw [hT] at hu4
      have F4 := Lib.hid hu4
      have X4 := Lib.hid (X2.out.trans he4.ext)
      clear he4 hs4
      obtain ⟨A4, c4, rfl, _⟩ := fml_slice hu4
      clear hu4
      go_wp2_with fail
      refine (done_any _ _ _ F4.out).mono ?_
      rintro e w5 ⟨u5, rfl, hx5, hu5⟩
      have X5 := Lib.hid (X4.out.trans hx5)
      have F5 := Lib.hid hu5
      clear hx5 hu5
      go_wp2_with fail
      go_ret2
      rw [HE.out.1, HE.out.2]
      exact ⟨_, rfl, X5.out, F5.out⟩
set_option maxRecDepth 100000 in
set_option maxHeartbeats 2000000 in
theorem ropposite_any (v : Value) (f : List Nd) (w : World) (h : Fml w v f) (hF : check (notN f) = 0 → FewN (compactN (notN f))) :
    Calls Tryz.prog 34 #[v] w fun e w' => ∃ u, e = .returned u ∧ Ext w w' ∧ Fml w' u (oppN f) := by
  have H := Lib.hid h
  have HF := Lib.hid hF
  obtain ⟨A, c, rfl, _⟩ := fml_slice h
  clear h hF
  go_enter Tryz.func34, Tryz.ntmps34
  go_wp2_with fail
  refine (rNot_any _ f _ H.out).mono ?_
  rintro e w1 ⟨u, rfl, hm⟩
  have HM := Lib.hid hm
  clear hm
  obtain ⟨Au, cu, rfl, _⟩ := fml_slice HM.out.fml
  go_wp2_with fail
  refine (rnnf_any _ (notN f) _ HM.out.fml HF.out).mono ?_
  rintro e w2 ⟨u2, rfl, hx, hu⟩
  have X2 := Lib.hid (HM.out.2.2.trans hx)
  have F2 := Lib.hid hu
  obtain ⟨A2, c2, rfl, _⟩ := fml_slice hu
  clear hx hu
  cases he : nnfErr (notN f) != 0
  case true =>
    have HO : Hid (oppN f = []) := Lib.hid (by
      unfold nnfErr at he
      unfold oppN
      cases hc : check (notN f) != 0
      · rw [hc, cond_false] at he
        cases hl : decide ((nnfAll (notN f)).length = 0)
        · rw [hl] at he; simp at he
        · exact List.length_eq_zero_iff.1 (of_decide_eq_true hl)
      · unfold nnfAll; rw [hc]; rfl)
    go_wp2_with fail
    go_ret
    rw [HO.out]
    exact ⟨_, rfl, X2.out, fml_none _⟩
  case false =>
    go_wp2_with fail
    go_ret
    exact ⟨_, rfl, X2.out, F2.out⟩
end Go.Proofs.YtfcmdiigfgbgbaaGreat
