/- The law's axiom: a proof of Know(a, f -> g) -> (Know(a, f) -> Know(a, g)). -/
import Derived.Test.YtdpblciohodgcaaDoorS27

namespace Go.Proofs.YtdpblciohodgcaaDoor
open Go.RowKit

section
variable {P : Program} {ops : Array Oper} {Q : Exit → Act → World → Prop} {Sl : Nat → Value → World → Prop} {pre : List Nat} {reads : Nat → List Nat} {N : Nat} {w0 : World} {D : List Deferred}
theorem eval_tmp (a : Act) (t : Nat) : a.eval (.tmp t) = a.tmps[t]?.getD undef := by
  show a.tmps.getD t undef = _
  rw [Array.getD_eq_getD_getElem?]
/-- A region by its slots: each operation once. -/
theorem wp_region_each {id : Nat} (hm : P.follows .mixedOrders = true) (hok : SlotOk ops pre reads N = true) (hSl : ∀ t v w w', Sl t v w → Ext w w' → Sl t v w') {a : Act} (hD : a.defers = D) (hN : a.tmps.size = N) (hpre : ∀ t ∈ pre, Sl t (a.tmps[t]?.getD undef) w0)
    (hstep : ∀ i : Nat, i + 1 < ops.size → ∃ o, ops[i]? = some o ∧ ∀ (a : Act) (w : World), Ext w0 w → (∀ t ∈ reads i, ∃ x, a.tmps[t]?.getD undef = x ∧ Sl t x w) → ∀ K : Act → World → Prop, (∀ v w', Ext w w' → (∀ d, o.dst = some d → Sl d v w') → K (a.put o.dst v) w') → o.wp P a w K Q)
    (hlast : ∃ o, ops[ops.size - 1]? = some o ∧ ∀ (a : Act) (w : World), Ext w0 w → a.tmps.size = N → a.defers = D → (∀ t ∈ pre, ∃ x, a.tmps[t]?.getD undef = x ∧ Sl t x w) → (∀ (j : Nat) (oj : Oper) (d : Tmp), ops[j]? = some oj → j + 1 ≠ ops.size → oj.dst = some d → ∃ x, a.tmps[d]?.getD undef = x ∧ Sl d x w) →
      ∀ K : Act → World → Prop, (∀ a' w', Q .normal a' w' → K a' w') → o.wp P a w K Q) :
    (Code.region id ops true).wp P Q a w0 := by
  refine wp_region_slots (reads := reads) hm hok hSl hD hN (fun t ht => by rw [eval_tmp]; exact hpre t ht) (fun i o ho hne a w hx hr K hK => ?_) (fun o ho a w hx hn hdf hp hd K hK => ?_)
  · obtain ⟨o', ho', h⟩ := hstep i (by have := (Array.getElem?_eq_some_iff.1 ho).1; omega)
    have e := Option.some.inj (ho'.symm.trans ho)
    subst e
    exact h a w hx (fun t ht => ⟨_, rfl, by have := hr t ht; rwa [eval_tmp] at this⟩) K hK
  · obtain ⟨o', ho', h⟩ := hlast
    have e := Option.some.inj (ho'.symm.trans ho)
    subst e
    exact h a w hx hn hdf (fun t ht => ⟨_, rfl, by have := hp t ht; rwa [eval_tmp] at this⟩) (fun j oj d hj hne hdd => ⟨_, rfl, by have := hd j oj d hj hne hdd; rwa [eval_tmp] at this⟩) K hK
end
theorem proof_done0 {w w5 : World} {b : Nat} {lg : Int} {vl : Value} {ls : List Ln} (hb : w.heap.size ≤ b) (hx : Ext w w5) (h5 : w5.heap[b]? = some (.cells #[.int .i64 0, .slice none 0 0] 24 (0, 0))) (hl : LnsB b w5 vl ls) :
    ((w5.setCell ⟨b, 0, none⟩ (.int .i64 lg)).setCell ⟨b, 1, none⟩ vl).rangeAt b 0 [.int .i64 lg, vl] ∧ Ext w ((w5.setCell ⟨b, 0, none⟩ (.int .i64 lg)).setCell ⟨b, 1, none⟩ vl) ∧ Lns ((w5.setCell ⟨b, 0, none⟩ (.int .i64 lg)).setCell ⟨b, 1, none⟩ vl) vl ls := by
  refine ⟨range2 (set_second (set_first h5 (.int .i64 lg)) vl), (hx.setCell hb _).setCell hb _, (hl.keep (fun g _ hne => ?_) ?_).lns⟩
  · rw [Below.heap_setCell _ _ _ _ hne, Below.heap_setCell _ _ _ _ hne]
  · simp [World.setCell]
def FmlB (b : Nat) (w : World) (v : Value) (f : List Nd) : Prop := Fml w v f ∧ NB b v
def IntsB (b : Nat) (w : World) (v : Value) (l : List Int) : Prop := Ints w v l ∧ NB b v
theorem FmlB.ext {b : Nat} {w w' : World} {v : Value} {f : List Nd} (h : FmlB b w v f) (he : Ext w w') : FmlB b w' v f := ⟨h.1.ext he, h.2⟩
theorem IntsB.ext {b : Nat} {w w' : World} {v : Value} {f : List Int} (h : IntsB b w v f) (he : Ext w w') : IntsB b w' v f := ⟨h.1.ext he, h.2⟩
theorem LnsB.ext {b : Nat} {w w' : World} {v : Value} {ls : List Ln} (h : LnsB b w v ls) (he : Ext w w') : LnsB b w' v ls := h.keep (fun _ hg _ => he.block hg) he.size
theorem ints_two (w : World) (x y : Int) : Ints (w.alloc (.cells #[.int .i64 x, .int .i64 y] 3)) (.slice (some ⟨w.heap.size, 0, none⟩) 2 2) [x, y] := by
  refine ⟨_, _, rfl, Nat.le_refl _, by unfold maxLen; simp, fun _ => ⟨_, rfl, by simp, fun k z hk => ?_⟩⟩
  match k, hk with
  | 0, hk =>
    simp only [List.getElem?_cons_zero, Option.some.injEq] at hk
    subst hk
    exact row_new w #[.int .i64 x, .int .i64 y] 3 0 _ rfl
  | 1, hk =>
    simp only [List.getElem?_cons_succ, List.getElem?_cons_zero, Option.some.injEq] at hk
    subst hk
    exact row_new w #[.int .i64 x, .int .i64 y] 3 1 _ rfl

def boxLn (a : Int) : Ln := ⟨3, 2, trueN, a, []⟩
def axiomLs (a : Int) (f g : List Nd) : List Ln :=
  [mkLn 1 1 (knowN a (impN f g)) [], mkLn 2 1 (knowN a f) [], boxLn a, mkLn 3 17 (impN f g) [0], mkLn 3 17 f [1], mkLn 3 9 g [4, 3], mkLn 2 16 (knowN a g) [2], mkLn 1 8 (impN (knowN a f) (knowN a g)) [1],
    mkLn 0 8 (impN (knowN a (impN f g)) (impN (knowN a f) (knowN a g))) [0]]
/-- The box line's struct in memory. -/
def BoxAt (b bx : Nat) (a : Int) (w : World) : Prop := ∃ At ct Rt rt, w.heap[bx]? = some (.cells #[.int .i64 3, .int .i64 2, .slice At trueN.length ct, .int .i64 a, .slice Rt 0 rt] 40 (0, 0)) ∧ Fml w (.slice At trueN.length ct) trueN ∧ NB b (.slice At trueN.length ct) ∧ Ints w (.slice Rt 0 rt) [] ∧ NB b (.slice Rt 0 rt)
theorem BoxAt.ext {b bx : Nat} {a : Int} {w w' : World} (h : BoxAt b bx a w) (he : Ext w w') : BoxAt b bx a w' := by
  obtain ⟨At, ct, Rt, rt, h1, h2, h3, h4, h5⟩ := h
  exact ⟨At, ct, Rt, rt, (he.block (lt_heap h1)).trans h1, h2.ext he, h3, h4.ext he, h5⟩
/-- What the slots of axiom's region hold. -/
def axSl (b bx : Nat) (lg a : Int) (f g : List Nd) (t : Nat) (v : Value) (w : World) : Prop :=
  match t with
  | 0 => v = .int .i64 lg
  | 30 => v = .int .i64 lg
  | 8 => v = .pointer (some ⟨b, 0, none⟩)
  | 13 => v = .pointer (some ⟨bx, 0, none⟩) ∧ BoxAt b bx a w
  | 2 => FmlB b w v f
  | 39 => FmlB b w v f
  | 3 => FmlB b w v g
  | 42 => FmlB b w v g
  | 9 => FmlB b w v (impN f g)
  | 36 => FmlB b w v (impN f g)
  | 10 => FmlB b w v (knowN a (impN f g))
  | 31 => FmlB b w v (knowN a (impN f g))
  | 53 => FmlB b w v (knowN a (impN f g))
  | 11 => FmlB b w v (knowN a f)
  | 33 => FmlB b w v (knowN a f)
  | 48 => FmlB b w v (knowN a f)
  | 54 => FmlB b w v (knowN a f)
  | 12 => FmlB b w v (knowN a g)
  | 45 => FmlB b w v (knowN a g)
  | 49 => FmlB b w v (knowN a g)
  | 55 => FmlB b w v (knowN a g)
  | 50 => FmlB b w v (impN (knowN a f) (knowN a g))
  | 56 => FmlB b w v (impN (knowN a f) (knowN a g))
  | 57 => FmlB b w v (impN (knowN a (impN f g)) (impN (knowN a f) (knowN a g)))
  | 37 => IntsB b w v [0]
  | 40 => IntsB b w v [1]
  | 43 => IntsB b w v [4, 3]
  | 46 => IntsB b w v [2]
  | 51 => IntsB b w v [1]
  | 58 => IntsB b w v [0]
  | 32 => LineV b w v (mkLn 1 1 (knowN a (impN f g)) [])
  | 34 => LineV b w v (mkLn 2 1 (knowN a f) [])
  | 38 => LineV b w v (mkLn 3 17 (impN f g) [0])
  | 41 => LineV b w v (mkLn 3 17 f [1])
  | 44 => LineV b w v (mkLn 3 9 g [4, 3])
  | 47 => LineV b w v (mkLn 2 16 (knowN a g) [2])
  | 52 => LineV b w v (mkLn 1 8 (impN (knowN a f) (knowN a g)) [1])
  | 59 => LineV b w v (mkLn 0 8 (impN (knowN a (impN f g)) (impN (knowN a f) (knowN a g))) [0])
  | 35 => LineV b w v (boxLn a)
  | 60 => LnsB b w v (axiomLs a f g)
  | 61 => ∃ vl, v = .agg #[.int .i64 lg, vl] ∧ LnsB b w vl (axiomLs a f g)
  | _ => True
theorem axSl_ext (b bx : Nat) (lg a : Int) (f g : List Nd) (t : Nat) (v : Value) (w w' : World) (h : axSl b bx lg a f g t v w) (he : Ext w w') : axSl b bx lg a f g t v w' := by
  unfold axSl at h ⊢
  split at h <;> first
    | exact h
    | exact FmlB.ext h he
    | exact IntsB.ext h he
    | exact LineV.ext h he
    | exact LnsB.ext h he
    | exact ⟨h.1, h.2.ext he⟩
    | exact ⟨h.choose, h.choose_spec.1, h.choose_spec.2.ext he⟩
def axReads (i : Nat) : List Nat :=
  match i with
  | 0 => [0]
  | 1 => [10]
  | 2 => [31]
  | 3 => [11]
  | 4 => [33]
  | 5 => [13]
  | 6 => [9]
  | 8 => [36, 37]
  | 9 => [2]
  | 11 => [39, 40]
  | 12 => [3]
  | 14 => [42, 43]
  | 15 => [12]
  | 17 => [45, 46]
  | 18 => [11]
  | 19 => [12]
  | 20 => [48, 49]
  | 22 => [50, 51]
  | 23 => [10]
  | 24 => [11]
  | 25 => [12]
  | 26 => [54, 55]
  | 27 => [53, 56]
  | 29 => [57, 58]
  | 30 => [32, 34, 35, 38, 41, 44, 47, 52, 59]
  | 31 => [30, 60]
  | _ => []
theorem cells5' {w : World} {b : Nat} {a0 a1 a2 a3 a4 : Value} {t : TypeId} (h : w.heap[b]? = some (.cells #[a0, a1, a2, a3, a4] t (0, 0))) :
    w.cell? ⟨b, 0, none⟩ = some a0 ∧ w.cell? ⟨b, 1, none⟩ = some a1 ∧ w.cell? ⟨b, 2, none⟩ = some a2 ∧ w.cell? ⟨b, 3, none⟩ = some a3 ∧ w.cell? ⟨b, 4, none⟩ = some a4 ∧ b < w.heap.size :=
  ⟨by simp [World.cell?, h], by simp [World.cell?, h], by simp [World.cell?, h], by simp [World.cell?, h], by simp [World.cell?, h], lt_heap h⟩
set_option maxRecDepth 100000 in
set_option maxHeartbeats 40000000 in
theorem axiom_any (lg a : Int) (ha : i64ok a) (v1 v2 : Value) (f g : List Nd) (w : World) (hf : Fml w v1 f) (hg : Fml w v2 g) (h0 : 0 < f.length) (h1 : 0 < g.length) :
    Calls Tryd.prog 16 #[.int .i64 lg, .int .i64 a, v1, v2] w fun e w' => ∃ vl, e = .returned (.agg #[.int .i64 lg, vl]) ∧ Ext w w' ∧ Lns w' vl (axiomLs a f g) := by
  have HF := Lib.hid (show FmlB w.heap.size w v1 f from ⟨hf, NB.of_lt hf h0 (Nat.le_refl _)⟩)
  have HG := Lib.hid (show FmlB w.heap.size w v2 g from ⟨hg, NB.of_lt hg h1 (Nat.le_refl _)⟩)
  obtain ⟨Af, cf, rfl, _⟩ := fml_slice hf
  obtain ⟨Ag, cg, rfl, _⟩ := fml_slice hg
  clear hf hg
  go_enter Tryd.func16, Tryd.ntmps16
  go_wp2_with fail
  refine (imp_any _ _ f g _ (HF.out.1.ext ((Ext.refl _).alloc _)) (HG.out.1.ext ((Ext.refl _).alloc _))).mono ?_
  rintro e w1 ⟨u9, rfl, hm⟩
  have hb1 : w1.heap[w.heap.size]? = some (.cells #[.int .i64 0, .slice none 0 0] 24 (0, 0)) := (hm.2.2.block (by simp)).trans (heap_alloc_new _ _)
  have HB1 := Lib.hid hb1
  have hl1 := lt_heap hb1
  have HX1 := Lib.hid (((Ext.refl w).alloc (.cells #[.int .i64 0, .slice none 0 0] 24)).trans hm.2.2)
  have H9 := Lib.hid (show FmlB w.heap.size w1 u9 (impN f g) from ⟨hm.fml, NB.of_row hm.1 (by simp)⟩)
  clear hm hb1
  go_wp2_with fail
  refine (know_any a ha _ (impN f g) _ H9.out.1).mono ?_
  rintro e w2 ⟨u10, rfl, hm⟩
  have H10 := Lib.hid (show FmlB w.heap.size w2 u10 (knowN a (impN f g)) from ⟨hm.fml, NB.of_row hm.1 hl1⟩)
  have X12 := Lib.hid hm.2.2
  have hl2 := Nat.lt_of_lt_of_le hl1 hm.2.2.size
  clear hm
  go_wp2_with fail
  refine (know_any a ha _ f _ (HF.out.1.ext (HX1.out.trans X12.out))).mono ?_
  rintro e w3 ⟨u11, rfl, hm⟩
  have H11 := Lib.hid (show FmlB w.heap.size w3 u11 (knowN a f) from ⟨hm.fml, NB.of_row hm.1 hl2⟩)
  have X23 := Lib.hid hm.2.2
  have hl3 := Nat.lt_of_lt_of_le hl2 hm.2.2.size
  clear hm
  go_wp2_with fail
  refine (know_any a ha _ g _ (HG.out.1.ext (HX1.out.trans (X12.out.trans X23.out)))).mono ?_
  rintro e w4 ⟨u12, rfl, hm⟩
  have H12 := Lib.hid (show FmlB w.heap.size w4 u12 (knowN a g) from ⟨hm.fml, NB.of_row hm.1 hl3⟩)
  have X34 := Lib.hid hm.2.2
  have hl4 := Nat.lt_of_lt_of_le hl3 hm.2.2.size
  clear hm
  go_wp2_with fail
  refine (true_any _).mono ?_
  rintro e w5 ⟨ut, rfl, hm⟩
  have HTR := Lib.hid (show FmlB w.heap.size w5 ut trueN from ⟨hm.fml, NB.of_row hm.1 hl4⟩)
  have X45 := Lib.hid hm.2.2
  have hl5 := Nat.lt_of_lt_of_le hl4 hm.2.2.size
  clear hm
  go_wp2_with fail
  refine (line_call (b := w.heap.size) 3 2 HTR.out.1 (Ints.none_ _) HTR.out.2 (NB.nil _)).mono ?_
  rintro e w6 ⟨vb, rfl, hx6, hv⟩
  obtain ⟨At, ct, Rt, rt, rfl, p1, p2, p3, p4⟩ := hv
  have HP := Lib.hid (And.intro p1 (And.intro p2 (And.intro p3 p4)))
  have hl6 := Nat.lt_of_lt_of_le hl5 hx6.size
  have X26 := Lib.hid (X23.out.trans (X34.out.trans (X45.out.trans hx6)))
  have X36 := Lib.hid (X34.out.trans (X45.out.trans hx6))
  have X46 := Lib.hid (X45.out.trans hx6)
  have X16 := Lib.hid (X12.out.trans X26.out)
  clear hx6 p1 p2 p3 p4 hl2 hl3 hl4 hl5
  go_wp2_with fail
  generalize hW : World.alloc w6 _ = W
  have hW0 : Ext w6 W := by rw [← hW]; exact (Ext.refl _).alloc _
  have hbx : W.heap[w6.heap.size]? = some (.cells #[.int .i64 3, .int .i64 2, .slice At trueN.length ct, .int .i64 a, .slice Rt 0 rt] 40 (0, 0)) := by rw [← hW]; exact heap_alloc_new _ _
  have hbW : W.heap[w.heap.size]? = some (.cells #[.int .i64 0, .slice none 0 0] 24 (0, 0)) := ((X16.out.trans hW0).block hl1).trans HB1.out
  have hb : w.heap.size < W.heap.size := lt_heap hbW
  clear hW
  refine wp_region_each (Sl := axSl w.heap.size w6.heap.size lg a f g) (pre := [0, 2, 3, 8, 9, 10, 11, 12, 13]) (reads := axReads) (N := 62) (by kernel_rfl) (by kernel_rfl) (axSl_ext _ _ _ _ _ _) (D := []) rfl rfl ?pre ?step ?last
  case pre =>
    have b0 : axSl w.heap.size w6.heap.size lg a f g 2 (.slice Af f.length cf) W := HF.out.ext (HX1.out.trans (X16.out.trans hW0))
    have b1 : axSl w.heap.size w6.heap.size lg a f g 3 (.slice Ag g.length cg) W := HG.out.ext (HX1.out.trans (X16.out.trans hW0))
    have b2 : axSl w.heap.size w6.heap.size lg a f g 9 u9 W := H9.out.ext (X16.out.trans hW0)
    have b3 : axSl w.heap.size w6.heap.size lg a f g 10 u10 W := H10.out.ext (X26.out.trans hW0)
    have b4 : axSl w.heap.size w6.heap.size lg a f g 11 u11 W := H11.out.ext (X36.out.trans hW0)
    have b5 : axSl w.heap.size w6.heap.size lg a f g 12 u12 W := H12.out.ext (X46.out.trans hW0)
    have b6 : axSl w.heap.size w6.heap.size lg a f g 13 (.pointer (some ⟨w6.heap.size, 0, none⟩)) W := ⟨rfl, At, ct, Rt, rt, hbx, HP.out.1.ext hW0, HP.out.2.2.1, HP.out.2.1.ext hW0, HP.out.2.2.2⟩
    intro t ht
    simp only [List.mem_cons, List.not_mem_nil, or_false] at ht
    rcases ht with rfl | rfl | rfl | rfl | rfl | rfl | rfl | rfl | rfl
    · exact (rfl : Value.int .i64 lg = .int .i64 lg)
    · exact b0
    · exact b1
    · exact (rfl : Value.pointer (some ⟨w.heap.size, 0, none⟩) = .pointer (some ⟨w.heap.size, 0, none⟩))
    · exact b2
    · exact b3
    · exact b4
    · exact b5
    · exact b6
  case step =>
    clear HB1 HX1 H9 H10 H11 H12 HTR X12 X23 X34 X45 X26 X36 X46 X16 HP hW0 hbx hbW HF HG
    intro i hi
    match i, hi with
    | 0, _ =>
      refine ⟨_, rfl, fun a' w hx hr K hK => ?_⟩
      obtain ⟨x, e, h⟩ := hr 0 (by simp [axReads])
      go_simp
      exact hK x w (Ext.refl _) (fun d hd => by cases hd; exact h)
    | 1, _ =>
      refine ⟨_, rfl, fun a' w hx hr K hK => ?_⟩
      obtain ⟨x, e, h⟩ := hr 10 (by simp [axReads])
      go_simp
      exact hK x w (Ext.refl _) (fun d hd => by cases hd; exact h)
    | 2, _ =>
      refine ⟨_, rfl, fun a' w hx hr K hK => ?_⟩
      obtain ⟨x1, e1, h1⟩ := hr 31 (by simp [axReads])
      go_simp
      refine (line_call (f := (knowN a (impN f g))) (l := []) 1 1 h1.1 (Ints.none_ _) h1.2 (NB.nil _)).mono ?_
      rintro e w' ⟨v, rfl, hx', hv⟩
      exact hK v w' hx' (fun d hd => by cases hd; exact hv)
    | 3, _ =>
      refine ⟨_, rfl, fun a' w hx hr K hK => ?_⟩
      obtain ⟨x, e, h⟩ := hr 11 (by simp [axReads])
      go_simp
      exact hK x w (Ext.refl _) (fun d hd => by cases hd; exact h)
    | 4, _ =>
      refine ⟨_, rfl, fun a' w hx hr K hK => ?_⟩
      obtain ⟨x1, e1, h1⟩ := hr 33 (by simp [axReads])
      go_simp
      refine (line_call (f := (knowN a f)) (l := []) 2 1 h1.1 (Ints.none_ _) h1.2 (NB.nil _)).mono ?_
      rintro e w' ⟨v, rfl, hx', hv⟩
      exact hK v w' hx' (fun d hd => by cases hd; exact hv)
    | 5, _ =>
      refine ⟨_, rfl, fun a' w hx hr K hK => ?_⟩
      obtain ⟨x, e, h⟩ := hr 13 (by simp [axReads])
      obtain ⟨rfl, At, ct, Rt, rt, h1, h2, h3, h4, h5⟩ := h
      obtain ⟨s0, s1, s2, s3, s4, slt⟩ := cells5' h1
      go_simp
      exact hK _ w (Ext.refl _) (fun d hd => by cases hd; exact ⟨At, ct, Rt, rt, rfl, h2, h4, h3, h5⟩)
    | 6, _ =>
      refine ⟨_, rfl, fun a' w hx hr K hK => ?_⟩
      obtain ⟨x, e, h⟩ := hr 9 (by simp [axReads])
      go_simp
      exact hK x w (Ext.refl _) (fun d hd => by cases hd; exact h)
    | 7, _ =>
      refine ⟨_, rfl, fun a' w hx hr K hK => ?_⟩
      go_simp
      exact hK _ _ ((Ext.refl _).alloc _) (fun d hd => by cases hd; exact ⟨ints_one w 0, nb_new (Nat.lt_of_lt_of_le hb hx.size)⟩)
    | 8, _ =>
      refine ⟨_, rfl, fun a' w hx hr K hK => ?_⟩
      obtain ⟨x1, e1, h1⟩ := hr 36 (by simp [axReads])
      obtain ⟨x2, e2, h2⟩ := hr 37 (by simp [axReads])
      go_simp
      refine (line_call (f := (impN f g)) (l := [0]) 3 17 h1.1 h2.1 h1.2 h2.2).mono ?_
      rintro e w' ⟨v, rfl, hx', hv⟩
      exact hK v w' hx' (fun d hd => by cases hd; exact hv)
    | 9, _ =>
      refine ⟨_, rfl, fun a' w hx hr K hK => ?_⟩
      obtain ⟨x, e, h⟩ := hr 2 (by simp [axReads])
      go_simp
      exact hK x w (Ext.refl _) (fun d hd => by cases hd; exact h)
    | 10, _ =>
      refine ⟨_, rfl, fun a' w hx hr K hK => ?_⟩
      go_simp
      exact hK _ _ ((Ext.refl _).alloc _) (fun d hd => by cases hd; exact ⟨ints_one w 1, nb_new (Nat.lt_of_lt_of_le hb hx.size)⟩)
    | 11, _ =>
      refine ⟨_, rfl, fun a' w hx hr K hK => ?_⟩
      obtain ⟨x1, e1, h1⟩ := hr 39 (by simp [axReads])
      obtain ⟨x2, e2, h2⟩ := hr 40 (by simp [axReads])
      go_simp
      refine (line_call (f := f) (l := [1]) 3 17 h1.1 h2.1 h1.2 h2.2).mono ?_
      rintro e w' ⟨v, rfl, hx', hv⟩
      exact hK v w' hx' (fun d hd => by cases hd; exact hv)
    | 12, _ =>
      refine ⟨_, rfl, fun a' w hx hr K hK => ?_⟩
      obtain ⟨x, e, h⟩ := hr 3 (by simp [axReads])
      go_simp
      exact hK x w (Ext.refl _) (fun d hd => by cases hd; exact h)
    | 13, _ =>
      refine ⟨_, rfl, fun a' w hx hr K hK => ?_⟩
      go_simp
      exact hK _ _ ((Ext.refl _).alloc _) (fun d hd => by cases hd; exact ⟨ints_two w 4 3, nb_new (Nat.lt_of_lt_of_le hb hx.size)⟩)
    | 14, _ =>
      refine ⟨_, rfl, fun a' w hx hr K hK => ?_⟩
      obtain ⟨x1, e1, h1⟩ := hr 42 (by simp [axReads])
      obtain ⟨x2, e2, h2⟩ := hr 43 (by simp [axReads])
      go_simp
      refine (line_call (f := g) (l := [4, 3]) 3 9 h1.1 h2.1 h1.2 h2.2).mono ?_
      rintro e w' ⟨v, rfl, hx', hv⟩
      exact hK v w' hx' (fun d hd => by cases hd; exact hv)
    | 15, _ =>
      refine ⟨_, rfl, fun a' w hx hr K hK => ?_⟩
      obtain ⟨x, e, h⟩ := hr 12 (by simp [axReads])
      go_simp
      exact hK x w (Ext.refl _) (fun d hd => by cases hd; exact h)
    | 16, _ =>
      refine ⟨_, rfl, fun a' w hx hr K hK => ?_⟩
      go_simp
      exact hK _ _ ((Ext.refl _).alloc _) (fun d hd => by cases hd; exact ⟨ints_one w 2, nb_new (Nat.lt_of_lt_of_le hb hx.size)⟩)
    | 17, _ =>
      refine ⟨_, rfl, fun a' w hx hr K hK => ?_⟩
      obtain ⟨x1, e1, h1⟩ := hr 45 (by simp [axReads])
      obtain ⟨x2, e2, h2⟩ := hr 46 (by simp [axReads])
      go_simp
      refine (line_call (f := (knowN a g)) (l := [2]) 2 16 h1.1 h2.1 h1.2 h2.2).mono ?_
      rintro e w' ⟨v, rfl, hx', hv⟩
      exact hK v w' hx' (fun d hd => by cases hd; exact hv)
    | 18, _ =>
      refine ⟨_, rfl, fun a' w hx hr K hK => ?_⟩
      obtain ⟨x, e, h⟩ := hr 11 (by simp [axReads])
      go_simp
      exact hK x w (Ext.refl _) (fun d hd => by cases hd; exact h)
    | 19, _ =>
      refine ⟨_, rfl, fun a' w hx hr K hK => ?_⟩
      obtain ⟨x, e, h⟩ := hr 12 (by simp [axReads])
      go_simp
      exact hK x w (Ext.refl _) (fun d hd => by cases hd; exact h)
    | 20, _ =>
      refine ⟨_, rfl, fun a' w hx hr K hK => ?_⟩
      obtain ⟨x1, e1, h1⟩ := hr 48 (by simp [axReads])
      obtain ⟨x2, e2, h2⟩ := hr 49 (by simp [axReads])
      go_simp
      refine (imp_any x1 x2 (knowN a f) (knowN a g) _ h1.1 h2.1).mono ?_
      rintro e w' ⟨v, rfl, hm⟩
      exact hK v w' hm.2.2 (fun d hd => by cases hd; exact ⟨hm.fml, NB.of_row hm.1 (Nat.lt_of_lt_of_le hb hx.size)⟩)
    | 21, _ =>
      refine ⟨_, rfl, fun a' w hx hr K hK => ?_⟩
      go_simp
      exact hK _ _ ((Ext.refl _).alloc _) (fun d hd => by cases hd; exact ⟨ints_one w 1, nb_new (Nat.lt_of_lt_of_le hb hx.size)⟩)
    | 22, _ =>
      refine ⟨_, rfl, fun a' w hx hr K hK => ?_⟩
      obtain ⟨x1, e1, h1⟩ := hr 50 (by simp [axReads])
      obtain ⟨x2, e2, h2⟩ := hr 51 (by simp [axReads])
      go_simp
      refine (line_call (f := (impN (knowN a f) (knowN a g))) (l := [1]) 1 8 h1.1 h2.1 h1.2 h2.2).mono ?_
      rintro e w' ⟨v, rfl, hx', hv⟩
      exact hK v w' hx' (fun d hd => by cases hd; exact hv)
    | 23, _ =>
      refine ⟨_, rfl, fun a' w hx hr K hK => ?_⟩
      obtain ⟨x, e, h⟩ := hr 10 (by simp [axReads])
      go_simp
      exact hK x w (Ext.refl _) (fun d hd => by cases hd; exact h)
    | 24, _ =>
      refine ⟨_, rfl, fun a' w hx hr K hK => ?_⟩
      obtain ⟨x, e, h⟩ := hr 11 (by simp [axReads])
      go_simp
      exact hK x w (Ext.refl _) (fun d hd => by cases hd; exact h)
    | 25, _ =>
      refine ⟨_, rfl, fun a' w hx hr K hK => ?_⟩
      obtain ⟨x, e, h⟩ := hr 12 (by simp [axReads])
      go_simp
      exact hK x w (Ext.refl _) (fun d hd => by cases hd; exact h)
    | 26, _ =>
      refine ⟨_, rfl, fun a' w hx hr K hK => ?_⟩
      obtain ⟨x1, e1, h1⟩ := hr 54 (by simp [axReads])
      obtain ⟨x2, e2, h2⟩ := hr 55 (by simp [axReads])
      go_simp
      refine (imp_any x1 x2 (knowN a f) (knowN a g) _ h1.1 h2.1).mono ?_
      rintro e w' ⟨v, rfl, hm⟩
      exact hK v w' hm.2.2 (fun d hd => by cases hd; exact ⟨hm.fml, NB.of_row hm.1 (Nat.lt_of_lt_of_le hb hx.size)⟩)
    | 27, _ =>
      refine ⟨_, rfl, fun a' w hx hr K hK => ?_⟩
      obtain ⟨x1, e1, h1⟩ := hr 53 (by simp [axReads])
      obtain ⟨x2, e2, h2⟩ := hr 56 (by simp [axReads])
      go_simp
      refine (imp_any x1 x2 (knowN a (impN f g)) (impN (knowN a f) (knowN a g)) _ h1.1 h2.1).mono ?_
      rintro e w' ⟨v, rfl, hm⟩
      exact hK v w' hm.2.2 (fun d hd => by cases hd; exact ⟨hm.fml, NB.of_row hm.1 (Nat.lt_of_lt_of_le hb hx.size)⟩)
    | 28, _ =>
      refine ⟨_, rfl, fun a' w hx hr K hK => ?_⟩
      go_simp
      exact hK _ _ ((Ext.refl _).alloc _) (fun d hd => by cases hd; exact ⟨ints_one w 0, nb_new (Nat.lt_of_lt_of_le hb hx.size)⟩)
    | 29, _ =>
      refine ⟨_, rfl, fun a' w hx hr K hK => ?_⟩
      obtain ⟨x1, e1, h1⟩ := hr 57 (by simp [axReads])
      obtain ⟨x2, e2, h2⟩ := hr 58 (by simp [axReads])
      go_simp
      refine (line_call (f := (impN (knowN a (impN f g)) (impN (knowN a f) (knowN a g)))) (l := [0]) 0 8 h1.1 h2.1 h1.2 h2.2).mono ?_
      rintro e w' ⟨v, rfl, hx', hv⟩
      exact hK v w' hx' (fun d hd => by cases hd; exact hv)
    | 30, _ =>
      refine ⟨_, rfl, fun a' w hx hr K hK => ?_⟩
      obtain ⟨x0, e0, A0, c0, R0, r0, y0, p0, q0, m0, n0⟩ := hr 32 (by simp [axReads])
      subst y0
      obtain ⟨x1, e1, A1, c1, R1, r1, y1, p1, q1, m1, n1⟩ := hr 34 (by simp [axReads])
      subst y1
      obtain ⟨x2, e2, A2, c2, R2, r2, y2, p2, q2, m2, n2⟩ := hr 35 (by simp [axReads])
      subst y2
      obtain ⟨x3, e3, A3, c3, R3, r3, y3, p3, q3, m3, n3⟩ := hr 38 (by simp [axReads])
      subst y3
      obtain ⟨x4, e4, A4, c4, R4, r4, y4, p4, q4, m4, n4⟩ := hr 41 (by simp [axReads])
      subst y4
      obtain ⟨x5, e5, A5, c5, R5, r5, y5, p5, q5, m5, n5⟩ := hr 44 (by simp [axReads])
      subst y5
      obtain ⟨x6, e6, A6, c6, R6, r6, y6, p6, q6, m6, n6⟩ := hr 47 (by simp [axReads])
      subst y6
      obtain ⟨x7, e7, A7, c7, R7, r7, y7, p7, q7, m7, n7⟩ := hr 52 (by simp [axReads])
      subst y7
      obtain ⟨x8, e8, A8, c8, R8, r8, y8, p8, q8, m8, n8⟩ := hr 59 (by simp [axReads])
      subst y8
      have HL := lnsB_new  (w := w) (T := 40) (ns := axiomLs a f g) (by simp [axiomLs]) (Nat.lt_of_lt_of_le hb hx.size) (LineCells.cons (n := mkLn 1 1 (knowN a (impN f g)) []) p0 q0 m0 n0 (LineCells.cons (n := mkLn 2 1 (knowN a f) []) p1 q1 m1 n1 (LineCells.cons (n := boxLn a) p2 q2 m2 n2 (LineCells.cons (n := mkLn 3 17 (impN f g) [0]) p3 q3 m3 n3 (LineCells.cons (n := mkLn 3 17 f [1]) p4 q4 m4 n4 (LineCells.cons (n := mkLn 3 9 g [4, 3]) p5 q5 m5 n5 (LineCells.cons (n := mkLn 2 16 (knowN a g) [2]) p6 q6 m6 n6 (LineCells.cons (n := mkLn 1 8 (impN (knowN a f) (knowN a g)) [1]) p7 q7 m7 n7 (LineCells.cons (n := mkLn 0 8 (impN (knowN a (impN f g)) (impN (knowN a f) (knowN a g))) [0]) p8 q8 m8 n8 (LineCells.nil))))))))))
      clear p0 q0 m0 n0
      go_simp
      exact hK _ _ ((Ext.refl _).alloc _) (fun d hd => by cases hd; exact HL)
    | 31, _ =>
      refine ⟨_, rfl, fun a' w hx hr K hK => ?_⟩
      obtain ⟨x1, e1, h1⟩ := hr 30 (by simp [axReads])
      obtain ⟨x2, e2, h2⟩ := hr 60 (by simp [axReads])
      obtain ⟨gg, cc, hs, hrest⟩ := h2
      have hv : x1 = .int .i64 lg := h1
      subst hv
      subst hs
      go_simp
      exact hK _ w (Ext.refl _) (fun d hd => by cases hd; exact ⟨_, rfl, gg, cc, rfl, hrest⟩)
    | i + 32, hi => exact absurd (show i + 33 < 33 from hi) (by omega)
  case last =>
    refine ⟨_, rfl, fun a' w7 hx hn hdf hp hd K hK => ?_⟩
    obtain ⟨x8, e8, h8⟩ := hp 8 (by simp)
    obtain ⟨x61, e61, h61⟩ := hd 31 _ 61 rfl (by decide) rfl
    obtain ⟨vl, hv, hl⟩ := h61
    subst hv
    have h8' : x8 = .pointer (some ⟨w.heap.size, 0, none⟩) := h8
    subst h8'
    have hb7 := (hx.block hb).trans hbW
    obtain ⟨z0, z1, zfr, zlt⟩ := cells2 hb7
    have zf0 := zfr 0
    have zf1 := zfr 1
    have HD := Lib.hid (proof_done0 (lg := lg) (Nat.le_refl w.heap.size) (HX1.out.trans (X16.out.trans (hW0.trans hx))) hb7 hl)
    obtain ⟨gl, cl, hvl, _⟩ := hl
    subst hvl
    clear zfr hp hd hb7 hn
    have e8' : a'.tmps.getD 8 undef = .pointer (some ⟨w.heap.size, 0, none⟩) := by rw [Array.getD_eq_getD_getElem?]; exact e8
    go_simp
    refine hK _ _ ?_
    go_wp2_with fail
    (try simp only [Exit.inBlock, Exit.then])
    refine bodyPost_ret (results_cell Tryd.results16 _ _ e8' HD.out.1 Tryd.underlying24 rfl (by kernel_rfl)) hdf ?_
    exact ⟨_, rfl, HD.out.2.1, HD.out.2.2⟩
end Go.Proofs.YtdpblciohodgcaaDoor
