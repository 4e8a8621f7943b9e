/- natural.Theorem: the walk. -/
import Derived.Test.YtohoddkcpfamlaaDoorS03
import Derived.Test.YtohoddkcpfamlaaDoorS16
import Derived.Test.YtohoddkcpfamlaaDoorS01
import Derived.Deep.MidRow
import Derived.RegionTactic
import Derived.Test.YtohoddkcpfamlaaDoorS06
import Derived.Handy

namespace Go.Proofs.YtohoddkcpfamlaaDoor
open Go.RowKit

def lastLn (ls : List Ln) : Ln := ls.getLastD Ln.zero
def natTheorem (lg : Int) (ls : List Ln) : List Nd × Int :=
  bif (natCheck lg ls).2 != 0 then ([], (natCheck lg ls).2) else bif (lastLn ls).depth != 0 then ([], 16) else (compactN (lastLn ls).f, 0)
theorem natCheck_pos {lg : Int} {ls : List Ln} (h : (natCheck lg ls).2 = 0) : 0 < ls.length := by
  unfold natCheck at h
  cases e1 : (decide (lg < 0) || decide (6 < lg))
  · rw [e1] at h
    cases e2 : decide (400 < ls.length)
    · rw [e2] at h
      cases e3 : decide (ls.length = 0)
      · have := of_decide_eq_false e3; omega
      · rw [e3] at h; cases h
    · rw [e2] at h; cases h
  · rw [e1] at h; cases h
theorem lastLn_get {ls : List Ln} (h : 0 < ls.length) : ls[ls.length - 1]? = some (lastLn ls) := by
  unfold lastLn
  rw [← List.getLast?_eq_getElem?]
  cases ls with
  | nil => simp at h
  | cons a t => simp [List.getLast?_cons]
set_option maxRecDepth 100000 in
set_option maxHeartbeats 4000000 in
theorem natTheorem_any {w : World} {lg : Int} {vl : Value} {ls : List Ln} (hl : Lns w vl ls) (hT : Tab w) :
    Calls Tryd.prog 8 #[.agg #[.int .i64 lg, vl]] w fun e w' => ∃ u, e = .returned (.tuple #[u, .int .i64 (natTheorem lg ls).2]) ∧ Ext w w' ∧ Fml w' u (natTheorem lg ls).1 := by
  have HL := Lib.hid hl
  have HT := Lib.hid hT
  obtain ⟨Al, cl, rfl, hat⟩ := hl
  have hcap := hat.1
  have hcm := hat.2.1
  unfold maxLen at hcm
  have HAT := Lib.hid hat.2.2
  clear hat hT
  go_enter Tryd.func8, Tryd.ntmps8
  go_wp2_with fail
  refine (natCheck_any (lg := lg) (HL.out.ext ((Ext.refl w).alloc (.cells #[.int .i64 lg, .slice Al ls.length cl] 24))) (HT.out.ext ((Ext.refl w).alloc (.cells #[.int .i64 lg, .slice Al ls.length cl] 24)))).mono ?_
  rintro e w1 ⟨rfl, hx⟩
  have HX := Lib.hid (((Ext.refl w).alloc (.cells #[.int .i64 lg, .slice Al ls.length cl] 24)).trans hx)
  obtain ⟨z0, z1, _, zlt⟩ := cells2 ((hx.block (by simp)).trans (heap_alloc_new w (.cells #[.int .i64 lg, .slice Al ls.length cl] 24)))
  clear hx
  cases hc : ((natCheck lg ls).2 != 0)
  case true =>
    have HN := Lib.hid (show natTheorem lg ls = ([], (natCheck lg ls).2) by unfold natTheorem; rw [hc]; rfl)
    go_wp2_with fail
    go_ret2
    exact ⟨.slice none 0 0, by rw [HN.out] <;> rfl, HX.out, by rw [HN.out]; exact ⟨⟨none, 0, rfl, Nat.le_refl _, by unfold maxLen; omega, fun h => absurd rfl h⟩, by simp⟩⟩
  case false =>
    have hc0 : (natCheck lg ls).2 = 0 := by simpa using hc
    have hp := natCheck_pos hc0
    have HC := Lib.hid hc
    obtain ⟨ad, rfl, hblk, hcells⟩ := HAT.out (by intro e; rw [e] at hp; simp at hp)
    have hn := lastLn_get hp
    obtain ⟨uf, ur, q0, q1, q2, q3, q4, hff, hii⟩ := (hcells _ _ hn).ext HX.out (by rw [block_of_add]; exact hblk)
    have HFF := Lib.hid hff
    obtain ⟨Af, cf, rfl, _⟩ := fml_slice hff
    obtain ⟨Ar, cr, rfl, _⟩ := hii
    have hi1 : ((ls.length : Int) - 1) < (ls.length : Int) := by omega
    have hi0 : (0 : Int) ≤ (ls.length : Int) - 1 := by omega
    have e1 : ((ls.length : Int) - 1).toNat = ls.length - 1 := by omega
    have hblk1 : ad.block < w1.heap.size := Nat.lt_of_lt_of_le hblk HX.out.size
    obtain ⟨n, hnn⟩ : ∃ n, lastLn ls = n := ⟨_, rfl⟩
    rw [hnn] at q0 q1 q2 q3 q4 HFF
    have HNN := Lib.hid hnn
    clear hcells hff hn hnn hp hc0
    by_cases hd : n.depth = 0
    · have hdb : (n.depth != 0) = false := by simp [hd]
      have HN := Lib.hid (show natTheorem lg ls = (compactN n.f, 0) by unfold natTheorem; rw [HC.out, HNN.out, hdb]; rfl)
      clear hd
      go_wp2_with fail
      refine (compactF_any _ n.f _ (HFF.out.ext ((Ext.refl _).alloc _))).mono ?_
      rintro e w2 ⟨u, rfl, hm⟩
      have HM := Lib.hid hm.fml
      have HX2 := Lib.hid (Ext.trans (show Ext w _ from HX.out.alloc _) hm.2.2)
      clear hm
      go_wp2_with fail
      go_ret2
      exact ⟨u, by rw [HN.out] <;> rfl, HX2.out, by rw [HN.out]; exact HM.out⟩
    · have hdb : (n.depth != 0) = true := by simpa using hd
      have HN := Lib.hid (show natTheorem lg ls = ([], 16) by unfold natTheorem; rw [HC.out, HNN.out, hdb]; rfl)
      clear hd
      go_wp2_with fail
      go_ret2
      exact ⟨.slice none 0 0, by rw [HN.out] <;> rfl, HX.out.alloc _, by rw [HN.out]; exact ⟨⟨none, 0, rfl, Nat.le_refl _, by unfold maxLen; omega, fun h => absurd rfl h⟩, by simp⟩⟩

/-- Does a proof prove a formula? -/
def provesL (lg : Int) (ls : List Ln) (f : List Nd) : Bool := (natTheorem lg ls).2 == 0 && sameN f (natTheorem lg ls).1
end Go.Proofs.YtohoddkcpfamlaaDoor

/- The law's proves. -/

namespace Go.Proofs.YtohoddkcpfamlaaDoor
open Go.RowKit

set_option maxRecDepth 100000 in
set_option maxHeartbeats 4000000 in
theorem proves_any {w : World} {lg : Int} {vl vf : Value} {ls : List Ln} {f : List Nd} (hl : Lns w vl ls) (hf : Fml w vf f) (hT : Tab w) :
    Calls Tryd.prog 10 #[.agg #[.int .i64 lg, vl], vf] w fun e w' => e = .returned (.bool (provesL lg ls f)) ∧ Ext w w' := by
  have HL := Lib.hid hl
  have HT := Lib.hid hT
  have HF := Lib.hid hf
  obtain ⟨Al, cl, rfl, _⟩ := hl
  obtain ⟨Af, cf, rfl, _⟩ := fml_slice hf
  clear hT hf
  go_enter Tryd.func10, Tryd.ntmps10
  go_wp2_with fail
  refine (natTheorem_any (lg := lg) (HL.out.ext ((Ext.refl w).alloc (.cells #[.int .i64 lg, .slice Al ls.length cl] 24))) (HT.out.ext ((Ext.refl w).alloc (.cells #[.int .i64 lg, .slice Al ls.length cl] 24)))).mono ?_
  rintro e w1 ⟨u, rfl, hx, hu⟩
  have HX := Lib.hid (((Ext.refl w).alloc (.cells #[.int .i64 lg, .slice Al ls.length cl] 24)).trans hx)
  have HU := Lib.hid hu
  clear hx hu
  cases hc : ((natTheorem lg ls).2 == 0)
  case false =>
    have HN := Lib.hid (show provesL lg ls f = false by unfold provesL; rw [hc]; rfl)
    go_wp2_with fail
    go_ret
    exact ⟨same_of HN.out.symm, HX.out⟩
  case true =>
    have HN := Lib.hid (show provesL lg ls f = sameN f (natTheorem lg ls).1 by unfold provesL; rw [hc]; rfl)
    go_wp2_with fail
    refine (same_any _ _ f (natTheorem lg ls).1 _ (HF.out.ext HX.out) HU.out).mono ?_
    rintro e w2 ⟨rfl, hx2⟩
    have HX2 := Lib.hid (HX.out.trans hx2)
    clear hx2
    go_wp2_with fail
    go_ret
    exact ⟨same_of HN.out.symm, HX2.out⟩
end Go.Proofs.YtohoddkcpfamlaaDoor

/- A result that is a variable of the call's own. -/

namespace Go.Proofs.YtohoddkcpfamlaaDoor
open Go.RowKit

theorem results_cell {P : Program} {fn : Func} {t : Tmp} {ty : TypeId} (h : fn.results = #[.cell t ty]) (tmps : Array Value) (w : World) {b o : Nat} (ht : tmps.getD t undef = .pointer (some ⟨b, o, none⟩)) {cs : List Value} {d : TypeDesc} (hc : w.rangeAt b o cs)
    (hu : P.underlying ty = some d) (hd : d.isRow = true) (hi : (P.info? ty).map (·.size) = some cs.length) : (results fn tmps).run P w = .ok (.agg cs.toArray) w := by
  have ht' : tmps[t]?.getD undef = .pointer (some ⟨b, o, none⟩) := by rw [← Array.getD_eq_getD_getElem?]; exact ht
  simp [results, h, ht', asAddr, run_loadVar_mid w b o ty cs d hc hu hd hi]
end Go.Proofs.YtohoddkcpfamlaaDoor

/- A region that draws its order, by what each of its slots holds: no order is walked. -/

namespace Go.Proofs.YtohoddkcpfamlaaDoor
open Go.RowKit

/-- The edges of a region's operations fit: each reads slots that were there or that an operation ahead of it fills; each fills a slot of its own; the last one waits for all. -/
def SlotOk (ops : Array Oper) (pre : List Nat) (reads : Nat → List Nat) (N : Nat) : Bool :=
  decide (0 < ops.size) && (List.range ops.size).all fun i =>
    match ops[i]? with
    | none => false
    | some o => o.guard.isNone && (o.after.all (fun e => decide (e.on < i)) &&
        (if i + 1 = ops.size then (List.range i).all (fun j => o.after.any fun e => Region.binds .any e && e.on == j)
         else (reads i).all (fun t => pre.contains t || o.after.any (fun e => Region.binds .any e && ((ops[e.on]?).map (fun oj => oj.dst == some t)).getD false)) &&
           match o.dst with
           | some d => !pre.contains d && (decide (d < N) && (List.range ops.size).all (fun j => j == i || ((ops[j]?).map (fun oj => !(oj.dst == some d))).getD true))
           | none => false))
structure SlotFit (ops : Array Oper) (pre : List Nat) (reads : Nat → List Nat) (N i : Nat) (o : Oper) : Prop where
  guard : o.guard = none
  back : ∀ e ∈ o.after, e.on < i
  last : i + 1 = ops.size → ∀ j, j < i → ∃ e ∈ o.after, Region.binds .any e = true ∧ e.on = j
  reads_ : i + 1 ≠ ops.size → ∀ t ∈ reads i, t ∈ pre ∨ ∃ e ∈ o.after, Region.binds .any e = true ∧ ∃ oj, ops[e.on]? = some oj ∧ oj.dst = some t
  dst : i + 1 ≠ ops.size → ∃ d, o.dst = some d ∧ d ∉ pre ∧ d < N ∧ ∀ j oj, ops[j]? = some oj → j ≠ i → oj.dst ≠ some d
theorem slotFit {ops : Array Oper} {pre : List Nat} {reads : Nat → List Nat} {N : Nat} (h : SlotOk ops pre reads N = true) {i : Nat} {o : Oper} (ho : ops[i]? = some o) : SlotFit ops pre reads N i o := by
  have hi : i < ops.size := (Array.getElem?_eq_some_iff.1 ho).1
  unfold SlotOk at h
  rw [Bool.and_eq_true, List.all_eq_true] at h
  have hh := h.2 i (List.mem_range.2 hi)
  simp only [ho, Bool.and_eq_true] at hh
  obtain ⟨h1, h2, h3⟩ := hh
  refine ⟨Option.isNone_iff_eq_none.1 h1, fun e he => ?_, fun hl j hj => ?_, fun hl t ht => ?_, fun hl => ?_⟩
  · rw [Array.all_eq_true'] at h2
    exact of_decide_eq_true (h2 e he)
  · rw [if_pos hl, List.all_eq_true] at h3
    have := h3 j (List.mem_range.2 hj)
    rw [Array.any_eq_true'] at this
    obtain ⟨e, he, hb⟩ := this
    rw [Bool.and_eq_true] at hb
    exact ⟨e, he, hb.1, eq_of_beq hb.2⟩
  · rw [if_neg hl, Bool.and_eq_true, List.all_eq_true] at h3
    have := h3.1 t ht
    rw [Bool.or_eq_true] at this
    rcases this with h4 | h4
    · exact .inl (List.contains_iff_mem.1 h4)
    · rw [Array.any_eq_true'] at h4
      obtain ⟨e, he, hb⟩ := h4
      rw [Bool.and_eq_true] at hb
      refine .inr ⟨e, he, hb.1, ?_⟩
      cases hq : ops[e.on]? with
      | none => rw [hq] at hb; simp at hb
      | some oj =>
        rw [hq] at hb
        exact ⟨oj, rfl, eq_of_beq hb.2⟩
  · rw [if_neg hl, Bool.and_eq_true] at h3
    have h4 := h3.2
    cases hd : o.dst with
    | none => rw [hd] at h4; cases h4
    | some d =>
      rw [hd] at h4
      simp only [Bool.and_eq_true] at h4
      obtain ⟨h5, h6, h7⟩ := h4
      refine ⟨d, rfl, fun hm => ?_, of_decide_eq_true h6, fun j oj hj hne e => ?_⟩
      · have : pre.contains d = true := List.contains_iff_mem.2 hm
        rw [this] at h5; cases h5
      · rw [List.all_eq_true] at h7
        have := h7 j (List.mem_range.2 (Array.getElem?_eq_some_iff.1 hj).1)
        rw [hj, Bool.or_eq_true] at this
        rcases this with h8 | h8
        · exact hne (eq_of_beq h8)
        · have h9 : (oj.dst == some d) = true := by rw [e]; simp
          simp [h9] at h8

structure SlotInv (Sl : Nat → Value → World → Prop) (ops : Array Oper) (pre : List Nat) (N : Nat) (D : List Deferred) (w0 : World) (listed : Array Bool) (a : Act) (w : World) : Prop where
  ext : Ext w0 w
  size : a.tmps.size = N
  pre_ : ∀ t ∈ pre, Sl t (a.eval (.tmp t)) w
  done : ∀ (j : Nat) (o : Oper) (d : Tmp), ops[j]? = some o → j + 1 ≠ ops.size → listed.getD j true = true → o.dst = some d → Sl d (a.eval (.tmp d)) w
  lsize : listed.size = ops.size
  defers_ : a.defers = D
theorem eval_put (a : Act) (t d : Nat) (v : Value) : (a.put (some d) v).eval (.tmp t) = if t = d ∧ d < a.tmps.size then v else a.eval (.tmp t) := by
  show (a.tmps.setIfInBounds d v).getD t undef = _
  rw [Array.getD_eq_getD_getElem?, Array.getElem?_setIfInBounds]
  by_cases e : d = t
  · subst e
    by_cases h : d < a.tmps.size
    · simp [h]
    · simp [h, Act.eval]
  · have e2 : ¬ (t = d ∧ d < a.tmps.size) := fun hh => e hh.1.symm
    simp [e, e2, Act.eval]
theorem getD_setS (l : Array Bool) (i j : Nat) (hi : i < l.size) : (l.setIfInBounds i true).getD j true = if j = i then true else l.getD j true := by
  rw [Array.getD_eq_getD_getElem?, Array.getElem?_setIfInBounds, Array.getD_eq_getD_getElem?]
  by_cases e : i = j
  · subst e; simp [hi]
  · rw [if_neg e, if_neg (fun h => e h.symm)]
theorem ready_mem {ops : Array Oper} {listed : Array Bool} {i : Nat} : i ∈ Region.ready .any ops listed ↔ i < ops.size ∧ listed.getD i true = false ∧ ∃ o, ops[i]? = some o ∧ ∀ e ∈ o.after, Region.binds .any e = true → listed.getD e.on false = true := by
  unfold Region.ready
  rw [List.mem_filter, List.mem_range, Bool.and_eq_true, Bool.not_eq_true']
  constructor
  · rintro ⟨h1, h2, h3⟩
    refine ⟨h1, h2, ?_⟩
    cases ho : ops[i]? with
    | none => rw [ho] at h3; cases h3
    | some o =>
      rw [ho] at h3
      refine ⟨o, rfl, fun e he hb => ?_⟩
      have h4 : o.after.all (fun e => !Region.binds .any e || listed.getD e.on false) = true := h3
      rw [Array.all_eq_true'] at h4
      have := h4 e he
      rw [hb] at this
      simpa using this
  · rintro ⟨h1, h2, o, ho, h3⟩
    refine ⟨h1, h2, ?_⟩
    rw [ho]
    show o.after.all (fun e => !Region.binds .any e || listed.getD e.on false) = true
    rw [Array.all_eq_true']
    intro e he
    cases hb : Region.binds .any e
    · rfl
    · simpa using h3 e he hb
theorem least_ready {ops : Array Oper} {pre : List Nat} {reads : Nat → List Nat} {N : Nat} (hok : SlotOk ops pre reads N = true) {listed : Array Bool} (hs : listed.size = ops.size) : ∀ (i : Nat), i < ops.size → listed.getD i true = false → ∃ m, m ∈ Region.ready .any ops listed := by
  intro i
  induction i using Nat.strongRecOn with
  | _ i ih =>
    intro hi hl
    by_cases hx : ∃ j, j < i ∧ listed.getD j true = false
    · obtain ⟨j, hj, hjl⟩ := hx
      exact ih j hj (by omega) hjl
    · have ho : ops[i]? = some ops[i] := Array.getElem?_eq_getElem hi
      refine ⟨i, ready_mem.2 ⟨hi, hl, _, ho, fun e he _ => ?_⟩⟩
      have hlt := (slotFit hok ho).back e he
      have h2 : listed.getD e.on true = true := by
        cases h : listed.getD e.on true
        · exact absurd ⟨_, hlt, h⟩ hx
        · rfl
      rw [Array.getD_eq_getD_getElem?] at h2 ⊢
      rw [Array.getElem?_eq_getElem (by omega)] at h2 ⊢
      simpa using h2
theorem getD_same {listed : Array Bool} {j : Nat} (hj : j < listed.size) : listed.getD j true = listed.getD j false := by
  rw [Array.getD_eq_getD_getElem?, Array.getD_eq_getD_getElem?, Array.getElem?_eq_getElem hj]; rfl
theorem all_listed_ready {ops : Array Oper} {listed : Array Bool} (h : ∀ i, i < ops.size → listed.getD i true = true) : Region.ready .any ops listed = [] := by
  cases hr : Region.ready .any ops listed with
  | nil => rfl
  | cons i r =>
    have hm : i ∈ Region.ready .any ops listed := by rw [hr]; simp
    obtain ⟨h1, h2, _⟩ := ready_mem.1 hm
    rw [h i h1] at h2
    cases h2
def unl (ops : Array Oper) (listed : Array Bool) : Nat := (List.range ops.size).countP fun i => !listed.getD i true
theorem countP_lt' {p q : Nat → Bool} : ∀ {l : List Nat}, (∀ x ∈ l, p x = true → q x = true) → (∃ x ∈ l, p x = false ∧ q x = true) → l.countP p < l.countP q
  | [], _, ⟨x, h, _⟩ => by simp at h
  | a :: r, h, ⟨x, hx, hp, hq⟩ => by
    rw [List.countP_cons, List.countP_cons]
    have hmono : r.countP p ≤ r.countP q := List.countP_mono_left fun y hy => h y (List.mem_cons_of_mem _ hy)
    rcases List.mem_cons.1 hx with rfl | hx
    · rw [hp, hq]
      simp
      omega
    · have ih := countP_lt' (l := r) (fun y hy => h y (List.mem_cons_of_mem _ hy)) ⟨x, hx, hp, hq⟩
      have := h a (List.mem_cons_self ..)
      cases ha : p a
      · simp only [Bool.false_eq_true, if_false]; omega
      · rw [this ha]; simp only [if_true]; omega
section
variable {P : Program} {ops : Array Oper} {Q : Exit → Act → World → Prop} {Sl : Nat → Value → World → Prop} {pre : List Nat} {reads : Nat → List Nat} {N : Nat} {w0 : World} {D : List Deferred}
theorem wpAny_slots (hok : SlotOk ops pre reads N = true) (hSl : ∀ t v w w', Sl t v w → Ext w w' → Sl t v w')
    (hstep : ∀ (i : Nat) (o : Oper), ops[i]? = some o → i + 1 ≠ ops.size → ∀ (a : Act) (w : World), Ext w0 w → (∀ t ∈ reads i, Sl t (a.eval (.tmp t)) w) → ∀ K : Act → World → Prop, (∀ v w', Ext w w' → (∀ d, o.dst = some d → Sl d v w') → K (a.put o.dst v) w') → o.wp P a w K Q)
    (hlast : ∀ o : Oper, ops[ops.size - 1]? = some o → ∀ (a : Act) (w : World), Ext w0 w → a.tmps.size = N → a.defers = D → (∀ t ∈ pre, Sl t (a.eval (.tmp t)) w) → (∀ (j : Nat) (oj : Oper) (d : Tmp), ops[j]? = some oj → j + 1 ≠ ops.size → oj.dst = some d → Sl d (a.eval (.tmp d)) w) →
      ∀ K : Act → World → Prop, (∀ a' w', Q .normal a' w' → K a' w') → o.wp P a w K Q) :
    ∀ (fuel : Nat) (listed : Array Bool) (a : Act) (w : World), unl ops listed ≤ fuel → listed.getD (ops.size - 1) true = false → SlotInv Sl ops pre N D w0 listed a w → wpAny P .any ops Q fuel listed a w := by
  have hpos : 0 < ops.size := by
    unfold SlotOk at hok
    rw [Bool.and_eq_true] at hok
    exact of_decide_eq_true hok.1
  intro fuel
  induction fuel with
  | zero =>
    intro listed a w hu hl _
    exfalso
    have : 0 < unl ops listed := List.countP_pos_iff.2 ⟨ops.size - 1, List.mem_range.2 (by omega), by rw [hl]; rfl⟩
    omega
  | succ fuel ih =>
    intro listed a w hu hl hinv
    refine ⟨fun he => ?_, fun i hi => ?_⟩
    · obtain ⟨m, hm⟩ := least_ready hok hinv.lsize (ops.size - 1) (by omega) hl
      rw [he] at hm
      simp at hm
    · obtain ⟨h1, h2, o, ho, h3⟩ := ready_mem.1 hi
      have hfit := slotFit hok ho
      have hls := hinv.lsize
      unfold wpOp
      rw [ho]
      have hw : Region.wanted o (yielded ops a.tmps) = true := by simp [Region.wanted, hfit.guard]
      simp only [hw, if_true]
      refine .inl ?_
      have hset : ∀ j, (listed.setIfInBounds i true).getD j true = if j = i then true else listed.getD j true := fun j => getD_setS listed i j (by omega)
      have hsize : (listed.setIfInBounds i true).size = ops.size := by simp [hls]
      by_cases hlast_i : i + 1 = ops.size
      · have e : ops.size - 1 = i := by omega
        have hall : ∀ j, j < i → listed.getD j true = true := fun j hj => by
          obtain ⟨e', he', hb, hon⟩ := hfit.last hlast_i j hj
          rw [← hon, getD_same (by omega)]
          exact h3 e' he' hb
        refine hlast o (by rw [e]; exact ho) a w hinv.ext hinv.size hinv.defers_ hinv.pre_ (fun j oj d hj hne hd => hinv.done j oj d hj hne (hall j (by have := (Array.getElem?_eq_some_iff.1 hj).1; omega)) hd) _ (fun a' w' hq => ?_)
        refine wpAny_done (all_listed_ready fun j hj => ?_) hq fuel
        rw [hset]
        split
        · rfl
        · exact hall j (by omega)
      · refine hstep i o ho hlast_i a w hinv.ext (fun t ht => ?_) _ (fun v w' hx hv => ?_)
        · rcases hfit.reads_ hlast_i t ht with h4 | ⟨e', he', hb, oj, hoj, hd⟩
          · exact hinv.pre_ t h4
          · have hlt := hfit.back e' he'
            refine hinv.done e'.on oj t hoj (by omega) ?_ hd
            rw [getD_same (by omega)]
            exact h3 e' he' hb
        · obtain ⟨d, hd, hdp, hdN, hdo⟩ := hfit.dst hlast_i
          refine ih _ _ _ ?_ ?_ ⟨hinv.ext.trans hx, ?_, fun t ht => ?_, fun j oj d' hj hne hjl hd' => ?_, hsize, by rw [hd]; exact hinv.defers_⟩
          · have : unl ops (listed.setIfInBounds i true) < unl ops listed := by
              refine countP_lt' (fun x _ hx => ?_) ⟨i, List.mem_range.2 h1, ?_, ?_⟩
              · rw [hset] at hx
                split at hx
                · cases hx
                · exact hx
              · rw [hset, if_pos rfl]; rfl
              · rw [h2]; rfl
            omega
          · rw [hset, if_neg (by omega)]; exact hl
          · rw [hd]
            show (a.tmps.setIfInBounds d v).size = N
            rw [Array.size_setIfInBounds]; exact hinv.size
          · rw [hd, eval_put, if_neg (fun e => hdp (by rw [← e.1]; exact ht))]
            exact hSl _ _ _ _ (hinv.pre_ t ht) hx
          · by_cases hji : j = i
            · subst hji
              rw [ho] at hj
              injection hj with hj
              subst hj
              rw [hd] at hd'
              injection hd' with hd'
              subst hd'
              rw [hd, eval_put, if_pos ⟨rfl, by rw [hinv.size]; exact hdN⟩]
              exact hv _ hd
            · rw [hset, if_neg hji] at hjl
              rw [hd, eval_put, if_neg (fun e => hdo j oj hj hji (by rw [hd', e.1]))]
              exact hSl _ _ _ _ (hinv.done j oj d' hj hne hjl hd') hx
theorem wp_region_slots {id : Nat} (hm : P.follows .mixedOrders = true) (hok : SlotOk ops pre reads N = true) (hSl : ∀ t v w w', Sl t v w → Ext w w' → Sl t v w') {a : Act} (hD : a.defers = D) (hN : a.tmps.size = N) (hpre : ∀ t ∈ pre, Sl t (a.eval (.tmp t)) w0)
    (hstep : ∀ (i : Nat) (o : Oper), ops[i]? = some o → i + 1 ≠ ops.size → ∀ (a : Act) (w : World), Ext w0 w → (∀ t ∈ reads i, Sl t (a.eval (.tmp t)) w) → ∀ K : Act → World → Prop, (∀ v w', Ext w w' → (∀ d, o.dst = some d → Sl d v w') → K (a.put o.dst v) w') → o.wp P a w K Q)
    (hlast : ∀ o : Oper, ops[ops.size - 1]? = some o → ∀ (a : Act) (w : World), Ext w0 w → a.tmps.size = N → a.defers = D → (∀ t ∈ pre, Sl t (a.eval (.tmp t)) w) → (∀ (j : Nat) (oj : Oper) (d : Tmp), ops[j]? = some oj → j + 1 ≠ ops.size → oj.dst = some d → Sl d (a.eval (.tmp d)) w) →
      ∀ K : Act → World → Prop, (∀ a' w', Q .normal a' w' → K a' w') → o.wp P a w K Q) :
    (Code.region id ops true).wp P Q a w0 := by
  refine wp_region_any hm (wpAny_slots hok hSl hstep hlast _ _ _ _ ?_ ?_ ⟨(Ext.refl w0).drewN 1, hN, fun t ht => hSl _ _ _ _ (hpre t ht) ((Ext.refl w0).drewN 1), fun j o d hj hne hl _ => ?_, by simp, hD⟩)
  · have h := List.countP_le_length (p := fun i => !(Array.replicate ops.size false).getD i true) (l := List.range ops.size)
    rw [List.length_range] at h
    exact h
  · have hpos : 0 < ops.size := by
      unfold SlotOk at hok
      rw [Bool.and_eq_true] at hok
      exact of_decide_eq_true hok.1
    rw [Array.getD_eq_getD_getElem?, Array.getElem?_replicate, if_pos (by omega)]
    rfl
  · have := (Array.getElem?_eq_some_iff.1 hj).1
    rw [Array.getD_eq_getD_getElem?, Array.getElem?_replicate, if_pos this] at hl
    cases hl
end
end Go.Proofs.YtohoddkcpfamlaaDoor

/- The law's lines of a proof, and the proof truth. -/

namespace Go.Proofs.YtohoddkcpfamlaaDoor
open Go.RowKit

/-- The value does not lie in a block. -/
def NB (b : Nat) (v : Value) : Prop := v.ownBlock ≠ some b
theorem NB.nil (b : Nat) : NB b (.slice none 0 0) := fun h => by cases h
theorem NB.of_lt {b : Nat} {w : World} {v : Value} {l : List Nd} (h : Fml w v l) (h0 : 0 < l.length) (hb : w.heap.size ≤ b) : NB b v := fun e => by
  obtain ⟨⟨A, c, rfl, _, _, hr⟩, _⟩ := h
  obtain ⟨ad, rfl, hlt, _⟩ := hr (by intro e; rw [e] at h0; simp at h0)
  have : ad.block = b := by simpa [Value.ownBlock] using e
  omega
theorem NB.of_row {b base : Nat} {w : World} {v : Value} {T : TypeId} {sz n : Nat} {xs : List Value} (h : w.ownsRow base T sz v n xs) (hb : b < base) : NB b v := fun e => by
  have := (h.lt b e).1
  omega
/-- A value that is a line of a proof, apart from a block. -/
def LineV (b : Nat) (w : World) (v : Value) (n : Ln) : Prop := ∃ Af cf Ar cr, v = .agg #[.int .i64 n.depth, .int .i64 n.rule, .slice Af n.f.length cf, .int .i64 n.agent, .slice Ar n.from_.length cr] ∧
  Fml w (.slice Af n.f.length cf) n.f ∧ Ints w (.slice Ar n.from_.length cr) n.from_ ∧ NB b (.slice Af n.f.length cf) ∧ NB b (.slice Ar n.from_.length cr)
theorem LineV.ext {b : Nat} {w w' : World} {v : Value} {n : Ln} (h : LineV b w v n) (he : Ext w w') : LineV b w' v n := by
  obtain ⟨Af, cf, Ar, cr, e, h1, h2, h3, h4⟩ := h
  exact ⟨Af, cf, Ar, cr, e, h1.ext he, h2.ext he, h3, h4⟩
set_option maxHeartbeats 1000000 in
theorem lineV_any (d r : Int) (Af Ar : Option Addr) (nf cf nr cr : Nat) (w : World) :
    Calls Tryd.prog 28 #[.int .i64 d, .int .i64 r, .slice Af nf cf, .slice Ar nr cr] w fun e w' => e = .returned (.agg #[.int .i64 d, .int .i64 r, .slice Af nf cf, .int .i64 0, .slice Ar nr cr]) ∧ Ext w w' := by
  go_enter Tryd.func28, Tryd.ntmps28
  go_wp2_with fail
  go_returns
  refine ⟨by simp, ?_⟩
  exact (Ext.refl _).alloc _
def mkLn (d r : Int) (f : List Nd) (l : List Int) : Ln := ⟨d, r, f, 0, l⟩
/-- A call of line gives a line. -/
theorem line_call {b : Nat} {w : World} {vf vr : Value} {f : List Nd} {l : List Int} (d r : Int) (hf : Fml w vf f) (hr : Ints w vr l) (n1 : NB b vf) (n2 : NB b vr) :
    Calls Tryd.prog 28 #[.int .i64 d, .int .i64 r, vf, vr] w fun e w' => ∃ v, e = .returned v ∧ Ext w w' ∧ LineV b w' v (mkLn d r f l) := by
  obtain ⟨Af, cf, rfl, _⟩ := fml_slice hf
  obtain ⟨Ar, cr, rfl, hat⟩ := hr
  refine (lineV_any d r Af Ar f.length cf l.length cr w).mono ?_
  rintro e w' ⟨rfl, hx⟩
  exact ⟨_, rfl, hx, Af, cf, Ar, cr, rfl, hf.ext hx, ⟨Ar, cr, rfl, hat.ext hx⟩, n1, n2⟩
/-- A list of lines, apart from a block. -/
def LnsB (b : Nat) (w : World) (v : Value) (ls : List Ln) : Prop := ∃ g c, v = .slice (some ⟨g, 0, none⟩) ls.length c ∧ g < w.heap.size ∧ g ≠ b ∧ ls.length ≤ c ∧ c ≤ maxLen ∧
  ∀ (k : Nat) (n : Ln), ls[k]? = some n → ∃ uf ur, w.cell? ⟨g, k * 5, none⟩ = some (.int .i64 n.depth) ∧ w.cell? ⟨g, k * 5 + 1, none⟩ = some (.int .i64 n.rule) ∧ w.cell? ⟨g, k * 5 + 2, none⟩ = some uf ∧ w.cell? ⟨g, k * 5 + 3, none⟩ = some (.int .i64 n.agent) ∧ w.cell? ⟨g, k * 5 + 4, none⟩ = some ur ∧
    Fml w uf n.f ∧ Ints w ur n.from_ ∧ NB b uf ∧ NB b ur
theorem LnsB.keep {b : Nat} {w w' : World} {v : Value} {ls : List Ln} (h : LnsB b w v ls) (hk : ∀ g, g < w.heap.size → g ≠ b → w'.heap[g]? = w.heap[g]?) (hs : w.heap.size ≤ w'.heap.size) : LnsB b w' v ls := by
  obtain ⟨g, c, e, h1, h2, h3, h4, h5⟩ := h
  have hc : ∀ o, w'.cell? ⟨g, o, none⟩ = w.cell? ⟨g, o, none⟩ := fun o => World.cell?_of_block (hk g h1 h2)
  refine ⟨g, c, e, Nat.lt_of_lt_of_le h1 hs, h2, h3, h4, fun k n hn => ?_⟩
  obtain ⟨uf, ur, q0, q1, q2, q3, q4, q5, q6, q7, q8⟩ := h5 k n hn
  exact ⟨uf, ur, (hc _).trans q0, (hc _).trans q1, (hc _).trans q2, (hc _).trans q3, (hc _).trans q4, q5.keep (fun g' hg' hl => hk g' hl (fun e => q7 (by rw [← e]; exact hg'))) hs, q6.keep (fun g' hg' hl => hk g' hl (fun e => q8 (by rw [← e]; exact hg'))) hs, q7, q8⟩
theorem LnsB.lns {b : Nat} {w : World} {v : Value} {ls : List Ln} (h : LnsB b w v ls) : Lns w v ls := by
  obtain ⟨g, c, e, h1, h2, h3, h4, h5⟩ := h
  refine ⟨_, c, e, h3, h4, fun _ => ⟨_, rfl, h1, fun k n hk => ?_⟩⟩
  obtain ⟨uf, ur, q0, q1, q2, q3, q4, q5, q6, _, _⟩ := h5 k n hk
  have e : ((⟨g, 0, none⟩ : Addr).add (k * 5)) = ⟨g, k * 5, none⟩ := addr_zero _ _
  rw [e]
  exact ⟨uf, ur, q0, q1, q2, q3, q4, q5, q6⟩
/-- The cells of lines, one behind the other. -/
inductive LineCells (b : Nat) (w : World) : List Ln → List Value → Prop where
  | nil : LineCells b w [] []
  | cons {n : Ln} {ls : List Ln} {cs : List Value} {Af : Option Addr} {cf : Nat} {Ar : Option Addr} {cr : Nat} (h1 : Fml w (.slice Af n.f.length cf) n.f) (h2 : Ints w (.slice Ar n.from_.length cr) n.from_) (h3 : NB b (.slice Af n.f.length cf)) (h4 : NB b (.slice Ar n.from_.length cr)) (hr : LineCells b w ls cs) :
      LineCells b w (n :: ls) (.int .i64 n.depth :: .int .i64 n.rule :: .slice Af n.f.length cf :: .int .i64 n.agent :: .slice Ar n.from_.length cr :: cs)
theorem LineCells.get {b : Nat} {w : World} {ls : List Ln} {cs : List Value} (h : LineCells b w ls cs) : ∀ (k : Nat) (n : Ln), ls[k]? = some n → ∃ uf ur, cs[k * 5]? = some (.int .i64 n.depth) ∧ cs[k * 5 + 1]? = some (.int .i64 n.rule) ∧ cs[k * 5 + 2]? = some uf ∧ cs[k * 5 + 3]? = some (.int .i64 n.agent) ∧ cs[k * 5 + 4]? = some ur ∧ Fml w uf n.f ∧ Ints w ur n.from_ ∧ NB b uf ∧ NB b ur := by
  induction h with
  | nil => intro k n hk; simp at hk
  | cons h1 h2 h3 h4 hr ih =>
    intro k n hk
    cases k with
    | zero =>
      simp only [List.getElem?_cons_zero, Option.some.injEq] at hk
      subst hk
      exact ⟨_, _, rfl, rfl, rfl, rfl, rfl, h1, h2, h3, h4⟩
    | succ k =>
      rw [List.getElem?_cons_succ] at hk
      obtain ⟨uf, ur, q0, q1, q2, q3, q4, q5⟩ := ih k n hk
      have e : (k + 1) * 5 = k * 5 + 5 := by omega
      rw [e]
      exact ⟨uf, ur, q0, q1, q2, q3, q4, q5⟩
theorem lnsB_new {b : Nat} {w : World} {ns : List Ln} {cs : List Value} {T : TypeId} (hl : ns.length ≤ 1000) (hb : b < w.heap.size) (h : LineCells b w ns cs) :
    LnsB b (w.alloc (.cells cs.toArray T)) (.slice (some ⟨w.heap.size, 0, none⟩) ns.length ns.length) ns := by
  refine ⟨_, _, rfl, by simp, by omega, Nat.le_refl _, by unfold maxLen; omega, fun k n hk => ?_⟩
  obtain ⟨uf, ur, h0, h1, h2, h3, h4, h5, h6, h7, h8⟩ := h.get k n hk
  have hc : ∀ j u, cs[j]? = some u → (w.alloc (.cells cs.toArray T)).cell? ⟨w.heap.size, j, none⟩ = some u := fun j u hj => by
    have := row_new w cs.toArray T j u (by simpa using hj)
    rwa [addr_zero] at this
  exact ⟨uf, ur, hc _ _ h0, hc _ _ h1, hc _ _ h2, hc _ _ h3, hc _ _ h4, h5.ext ((Ext.refl _).alloc _), h6.ext ((Ext.refl _).alloc _), h7, h8⟩
theorem alloc_set_heap (w : World) (C : Obj) (p0 p1 : Addr) (u0 u1 : Value) {g : Nat} (h0 : g ≠ p0.block) (h1 : g ≠ p1.block) : (((w.setCell p0 u0).setCell p1 u1).alloc C).heap[g]? = (w.alloc C).heap[g]? := by
  have e : ∀ w : World, (w.alloc C).heap[g]? = if g = w.heap.size then some C else w.heap[g]? := fun w => by
    show (w.heap.push C)[g]? = _
    rw [Array.getElem?_push]
  rw [e, e, size_set, size_set, Below.heap_setCell _ _ _ _ h1, Below.heap_setCell _ _ _ _ h0]
theorem range2 {w : World} {b : Nat} {a0 a1 : Value} {t : TypeId} (h : w.heap[b]? = some (.cells #[a0, a1] t (0, 0))) : w.rangeAt b 0 [a0, a1] := fun j v hj => by
  match j, hj with
  | 0, hj => simp at hj; subst hj; simp [World.cell?, h]
  | 1, hj => simp at hj; subst hj; simp [World.cell?, h]
/-- The proof's struct stored and read back. -/
theorem proof_done {w w5 : World} {b : Nat} {C : Obj} {lg : Int} {vl : Value} {ls : List Ln} (hb : w.heap.size ≤ b) (hx : Ext w w5) (h5 : w5.heap[b]? = some (.cells #[.int .i64 0, .slice none 0 0] 24 (0, 0))) (hl : LnsB b (w5.alloc C) vl ls) :
    (((w5.setCell ⟨b, 0, none⟩ (.int .i64 lg)).setCell ⟨b, 1, none⟩ vl).alloc C).rangeAt b 0 [.int .i64 lg, vl] ∧ Ext w (((w5.setCell ⟨b, 0, none⟩ (.int .i64 lg)).setCell ⟨b, 1, none⟩ vl).alloc C) ∧ Lns (((w5.setCell ⟨b, 0, none⟩ (.int .i64 lg)).setCell ⟨b, 1, none⟩ vl).alloc C) vl ls := by
  have hlt := lt_heap h5
  refine ⟨range2 (t := 24) ?_, ((hx.setCell hb _).setCell hb _).alloc _, (hl.keep (fun g _ hne => alloc_set_heap _ _ _ _ _ _ hne hne) ?_).lns⟩
  · have h6 := set_second (set_first h5 (.int .i64 lg)) vl
    exact (((Ext.refl ((w5.setCell ⟨b, 0, none⟩ (.int .i64 lg)).setCell ⟨b, 1, none⟩ vl)).alloc C).block (lt_heap h6)).trans h6
  · simp [World.setCell]

/-- The proof of Know(a, f) -> f. -/
def truthLs (a : Int) (f : List Nd) : List Ln := [mkLn 1 1 (knowN a f) [], mkLn 1 18 f [0], mkLn 0 8 (impN (knowN a f) f) [0]]
theorem ints_one (w : World) (x : Int) : Ints (w.alloc (.cells #[.int .i64 x] 3)) (.slice (some ⟨w.heap.size, 0, none⟩) 1 1) [x] := by
  refine ⟨_, _, rfl, Nat.le_refl _, by unfold maxLen; simp, fun _ => ⟨_, rfl, by simp, fun k z hk => ?_⟩⟩
  match k, hk with
  | 0, hk =>
    simp only [List.getElem?_cons_zero, Option.some.injEq] at hk
    subst hk
    exact row_new w #[.int .i64 x] 3 0 _ rfl
theorem nb_new {b : Nat} {w : World} {n c : Nat} (h : b < w.heap.size) : NB b (.slice (some ⟨w.heap.size, 0, none⟩) n c) := fun e => by
  have : w.heap.size = b := by simpa [Value.ownBlock] using e
  omega
set_option maxRecDepth 100000 in
set_option maxHeartbeats 4000000 in
theorem truth_any (lg a : Int) (ha : i64ok a) (v : Value) (f : List Nd) (w : World) (hf : Fml w v f) (h0 : 0 < f.length) :
    Calls Tryd.prog 13 #[.int .i64 lg, .int .i64 a, v] w fun e w' => ∃ vl, e = .returned (.agg #[.int .i64 lg, vl]) ∧ Ext w w' ∧ Lns w' vl (truthLs a f) := by
  have HF := Lib.hid hf
  have NF := Lib.hid (NB.of_lt (b := w.heap.size) hf h0 (Nat.le_refl _))
  obtain ⟨Af, cf, rfl, _⟩ := fml_slice hf
  clear hf
  go_enter Tryd.func13, Tryd.ntmps13
  go_wp2_with fail
  refine (know_any a ha _ f _ (HF.out.ext ((Ext.refl _).alloc _))).mono ?_
  rintro e w1 ⟨uk, rfl, hm⟩
  have MK := Lib.hid hm
  have NK := Lib.hid (NB.of_row (b := w.heap.size) hm.1 (by simp))
  have HX1 := Lib.hid (show Ext (w.alloc (.cells #[.int .i64 0, .slice none 0 0] 24)) w1 from hm.2.2)
  have hb1 : w1.heap[w.heap.size]? = some (.cells #[.int .i64 0, .slice none 0 0] 24 (0, 0)) := (hm.2.2.block (by simp)).trans (heap_alloc_new _ _)
  have HB1 := Lib.hid hb1
  have HL1 := Lib.hid (lt_heap hb1)
  clear hm hb1
  go_wp2_with fail
  refine (line_call 1 1 MK.out.fml (Ints.none_ _) NK.out (NB.nil _)).mono ?_
  rintro e w2 ⟨v1, rfl, hx, hv1⟩
  obtain ⟨A1, c1, R1, r1, rfl, p1, p2, p3, p4⟩ := hv1
  have HP1 := Lib.hid (And.intro p1 (And.intro p2 (And.intro p3 p4)))
  have H12 := Lib.hid hx
  clear hx p1 p2 p3 p4
  go_wp2_with fail
  refine (line_call 1 18 (HF.out.ext ((((Ext.refl w).alloc _).trans (HX1.out.trans H12.out)).alloc _)) (ints_one w2 0) NF.out (nb_new (Nat.lt_of_lt_of_le HL1.out H12.out.size))).mono ?_
  rintro e w3 ⟨v2, rfl, hx, hv2⟩
  have H23 := Lib.hid (Ext.trans (show Ext w2 _ from (Ext.refl _).alloc _) hx)
  obtain ⟨A2, c2, R2, r2, rfl, p1, p2, p3, p4⟩ := hv2
  have HP2 := Lib.hid (And.intro p1 (And.intro p2 (And.intro p3 p4)))
  clear hx p1 p2 p3 p4
  go_wp2_with fail
  refine (imp_any _ _ (knowN a f) f _ (MK.out.fml.ext (H12.out.trans H23.out)) (HF.out.ext (((Ext.refl w).alloc _).trans (HX1.out.trans (H12.out.trans H23.out))))).mono ?_
  rintro e w4 ⟨ui, rfl, hm⟩
  have MI := Lib.hid hm
  have NI := Lib.hid (NB.of_row (b := w.heap.size) hm.1 (by have := HL1.out; have := H12.out.size; have := H23.out.size; omega))
  have H34 := Lib.hid hm.2.2
  clear hm
  go_wp2_with fail
  refine (line_call 0 8 (MI.out.fml.ext ((Ext.refl _).alloc _)) (ints_one w4 0) NI.out (nb_new (by have := HL1.out; have := H12.out.size; have := H23.out.size; have := H34.out.size; omega))).mono ?_
  rintro e w5 ⟨v3, rfl, hx, hv3⟩
  have H45 := Lib.hid (Ext.trans (show Ext w4 _ from (Ext.refl _).alloc _) hx)
  obtain ⟨A3, c3, R3, r3, rfl, p1, p2, p3, p4⟩ := hv3
  have HP3 := Lib.hid (And.intro p1 (And.intro p2 (And.intro p3 p4)))
  clear hx p1 p2 p3 p4
  have H35 := Lib.hid (H34.out.trans H45.out)
  have H25 := Lib.hid (H23.out.trans H35.out)
  have H15 := Lib.hid (H12.out.trans H25.out)
  have hb5 := (H15.out.block HL1.out).trans HB1.out
  obtain ⟨z0, z1, zfr, zlt⟩ := cells2 hb5
  have HB5 := Lib.hid hb5
  have zf0 := zfr 0
  have zf1 := zfr 1
  have HLC := Lib.hid (lnsB_new (b := w.heap.size) (w := w5) (T := 34) (ns := truthLs a f) (by simp [truthLs]) zlt
    (LineCells.cons (n := mkLn 1 1 (knowN a f) []) (HP1.out.1.ext H25.out) (HP1.out.2.1.ext H25.out) HP1.out.2.2.1 HP1.out.2.2.2
    (LineCells.cons (n := mkLn 1 18 f [0]) (HP2.out.1.ext H35.out) (HP2.out.2.1.ext H35.out) HP2.out.2.2.1 HP2.out.2.2.2
    (LineCells.cons (n := mkLn 0 8 (impN (knowN a f) f) [0]) HP3.out.1 HP3.out.2.1 HP3.out.2.2.1 HP3.out.2.2.2 LineCells.nil))))
  have HD := Lib.hid (proof_done (lg := lg) (Nat.le_refl w.heap.size) (((Ext.refl w).alloc _).trans (HX1.out.trans H15.out)) HB5.out HLC.out)
  clear hb5 zfr
  go_wp2_with fail
  (try simp only [Exit.inBlock, Exit.then])
  refine bodyPost_ret (results_cell Tryd.results13 _ _ rfl HD.out.1 Tryd.underlying24 rfl (by kernel_rfl)) rfl ?_
  exact ⟨_, rfl, HD.out.2.1, HD.out.2.2⟩
end Go.Proofs.YtohoddkcpfamlaaDoor
