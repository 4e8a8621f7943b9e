/- The law's axiom: a proof of Know(a, f -> g) -> (Know(a, f) -> Know(a, g)). -/
import Derived.Test.YtohoddkcpfamlaaDoorS17
import Derived.Test.YtohoddkcpfamlaaDoorRows
import Derived.Deep.Slices
import Derived.Deep.Fields
import Derived.ChangeSame
import Derived.ProofKit
import Derived.OpenShut
import Derived.Lib.SmallJoins
import Derived.SevenTiedAt
import Derived.Stop.Joined
import Derived.Below
import Derived.LaidMore

namespace Go.Proofs.YtohoddkcpfamlaaDoor
open Go.RowKit

section
variable {P : Program} {ops : Array Oper} {Q : Exit → Act → World → Prop} {Sl : Nat → Value → World → Prop} {pre : List Nat} {reads : Nat → List Nat} {N : Nat} {w0 : World} {D : List Deferred}
theorem eval_tmp (a : Act) (t : Nat) : a.eval (.tmp t) = a.tmps[t]?.getD undef := by
  show a.tmps.getD t undef = _
  rw [Array.getD_eq_getD_getElem?]
/-- A region by its slots: each operation once. -/
theorem wp_region_each {id : Nat} (hm : P.follows .mixedOrders = true) (hok : SlotOk ops pre reads N = true) (hSl : ∀ t v w w', Sl t v w → Ext w w' → Sl t v w') {a : Act} (hD : a.defers = D) (hN : a.tmps.size = N) (hpre : ∀ t ∈ pre, Sl t (a.tmps[t]?.getD undef) w0)
    (hstep : ∀ i : Nat, i + 1 < ops.size → ∃ o, ops[i]? = some o ∧ ∀ (a : Act) (w : World), Ext w0 w → (∀ t ∈ reads i, ∃ x, a.tmps[t]?.getD undef = x ∧ Sl t x w) → ∀ K : Act → World → Prop, (∀ v w', Ext w w' → (∀ d, o.dst = some d → Sl d v w') → K (a.put o.dst v) w') → o.wp P a w K Q)
    (hlast : ∃ o, ops[ops.size - 1]? = some o ∧ ∀ (a : Act) (w : World), Ext w0 w → a.tmps.size = N → a.defers = D → (∀ t ∈ pre, ∃ x, a.tmps[t]?.getD undef = x ∧ Sl t x w) → (∀ (j : Nat) (oj : Oper) (d : Tmp), ops[j]? = some oj → j + 1 ≠ ops.size → oj.dst = some d → ∃ x, a.tmps[d]?.getD undef = x ∧ Sl d x w) →
      ∀ K : Act → World → Prop, (∀ a' w', Q .normal a' w' → K a' w') → o.wp P a w K Q) :
    (Code.region id ops true).wp P Q a w0 := by
  refine wp_region_slots (reads := reads) hm hok hSl hD hN (fun t ht => by rw [eval_tmp]; exact hpre t ht) (fun i o ho hne a w hx hr K hK => ?_) (fun o ho a w hx hn hdf hp hd K hK => ?_)
  · obtain ⟨o', ho', h⟩ := hstep i (by have := (Array.getElem?_eq_some_iff.1 ho).1; omega)
    have e := Option.some.inj (ho'.symm.trans ho)
    subst e
    exact h a w hx (fun t ht => ⟨_, rfl, by have := hr t ht; rwa [eval_tmp] at this⟩) K hK
  · obtain ⟨o', ho', h⟩ := hlast
    have e := Option.some.inj (ho'.symm.trans ho)
    subst e
    exact h a w hx hn hdf (fun t ht => ⟨_, rfl, by have := hp t ht; rwa [eval_tmp] at this⟩) (fun j oj d hj hne hdd => ⟨_, rfl, by have := hd j oj d hj hne hdd; rwa [eval_tmp] at this⟩) K hK
end
theorem proof_done0 {w w5 : World} {b : Nat} {lg : Int} {vl : Value} {ls : List Ln} (hb : w.heap.size ≤ b) (hx : Ext w w5) (h5 : w5.heap[b]? = some (.cells #[.int .i64 0, .slice none 0 0] 24 (0, 0))) (hl : LnsB b w5 vl ls) :
    ((w5.setCell ⟨b, 0, none⟩ (.int .i64 lg)).setCell ⟨b, 1, none⟩ vl).rangeAt b 0 [.int .i64 lg, vl] ∧ Ext w ((w5.setCell ⟨b, 0, none⟩ (.int .i64 lg)).setCell ⟨b, 1, none⟩ vl) ∧ Lns ((w5.setCell ⟨b, 0, none⟩ (.int .i64 lg)).setCell ⟨b, 1, none⟩ vl) vl ls := by
  refine ⟨range2 (set_second (set_first h5 (.int .i64 lg)) vl), (hx.setCell hb _).setCell hb _, (hl.keep (fun g _ hne => ?_) ?_).lns⟩
  · rw [Below.heap_setCell _ _ _ _ hne, Below.heap_setCell _ _ _ _ hne]
  · simp [World.setCell]
def FmlB (b : Nat) (w : World) (v : Value) (f : List Nd) : Prop := Fml w v f ∧ NB b v
def IntsB (b : Nat) (w : World) (v : Value) (l : List Int) : Prop := Ints w v l ∧ NB b v
theorem FmlB.ext {b : Nat} {w w' : World} {v : Value} {f : List Nd} (h : FmlB b w v f) (he : Ext w w') : FmlB b w' v f := ⟨h.1.ext he, h.2⟩
theorem IntsB.ext {b : Nat} {w w' : World} {v : Value} {f : List Int} (h : IntsB b w v f) (he : Ext w w') : IntsB b w' v f := ⟨h.1.ext he, h.2⟩
theorem LnsB.ext {b : Nat} {w w' : World} {v : Value} {ls : List Ln} (h : LnsB b w v ls) (he : Ext w w') : LnsB b w' v ls := h.keep (fun _ hg _ => he.block hg) he.size
theorem ints_two (w : World) (x y : Int) : Ints (w.alloc (.cells #[.int .i64 x, .int .i64 y] 3)) (.slice (some ⟨w.heap.size, 0, none⟩) 2 2) [x, y] := by
  refine ⟨_, _, rfl, Nat.le_refl _, by unfold maxLen; simp, fun _ => ⟨_, rfl, by simp, fun k z hk => ?_⟩⟩
  match k, hk with
  | 0, hk =>
    simp only [List.getElem?_cons_zero, Option.some.injEq] at hk
    subst hk
    exact row_new w #[.int .i64 x, .int .i64 y] 3 0 _ rfl
  | 1, hk =>
    simp only [List.getElem?_cons_succ, List.getElem?_cons_zero, Option.some.injEq] at hk
    subst hk
    exact row_new w #[.int .i64 x, .int .i64 y] 3 1 _ rfl

def boxLn (a : Int) : Ln := ⟨3, 2, trueN, a, []⟩
def axiomLs (a : Int) (f g : List Nd) : List Ln :=
  [mkLn 1 1 (knowN a (impN f g)) [], mkLn 2 1 (knowN a f) [], boxLn a, mkLn 3 17 (impN f g) [0], mkLn 3 17 f [1], mkLn 3 9 g [4, 3], mkLn 2 16 (knowN a g) [2], mkLn 1 8 (impN (knowN a f) (knowN a g)) [1],
    mkLn 0 8 (impN (knowN a (impN f g)) (impN (knowN a f) (knowN a g))) [0]]
/-- The box line's struct in memory. -/
def BoxAt (b bx : Nat) (a : Int) (w : World) : Prop := ∃ At ct Rt rt, w.heap[bx]? = some (.cells #[.int .i64 3, .int .i64 2, .slice At trueN.length ct, .int .i64 a, .slice Rt 0 rt] 34 (0, 0)) ∧ Fml w (.slice At trueN.length ct) trueN ∧ NB b (.slice At trueN.length ct) ∧ Ints w (.slice Rt 0 rt) [] ∧ NB b (.slice Rt 0 rt)
theorem BoxAt.ext {b bx : Nat} {a : Int} {w w' : World} (h : BoxAt b bx a w) (he : Ext w w') : BoxAt b bx a w' := by
  obtain ⟨At, ct, Rt, rt, h1, h2, h3, h4, h5⟩ := h
  exact ⟨At, ct, Rt, rt, (he.block (lt_heap h1)).trans h1, h2.ext he, h3, h4.ext he, h5⟩
/-- What the slots of axiom's region hold. -/
def axSl (b bx : Nat) (lg a : Int) (f g : List Nd) (t : Nat) (v : Value) (w : World) : Prop :=
  match t with
  | 0 => v = .int .i64 lg
  | 30 => v = .int .i64 lg
  | 8 => v = .pointer (some ⟨b, 0, none⟩)
  | 13 => v = .pointer (some ⟨bx, 0, none⟩) ∧ BoxAt b bx a w
  | 2 => FmlB b w v f
  | 39 => FmlB b w v f
  | 3 => FmlB b w v g
  | 42 => FmlB b w v g
  | 9 => FmlB b w v (impN f g)
  | 36 => FmlB b w v (impN f g)
  | 10 => FmlB b w v (knowN a (impN f g))
  | 31 => FmlB b w v (knowN a (impN f g))
  | 53 => FmlB b w v (knowN a (impN f g))
  | 11 => FmlB b w v (knowN a f)
  | 33 => FmlB b w v (knowN a f)
  | 48 => FmlB b w v (knowN a f)
  | 54 => FmlB b w v (knowN a f)
  | 12 => FmlB b w v (knowN a g)
  | 45 => FmlB b w v (knowN a g)
  | 49 => FmlB b w v (knowN a g)
  | 55 => FmlB b w v (knowN a g)
  | 50 => FmlB b w v (impN (knowN a f) (knowN a g))
  | 56 => FmlB b w v (impN (knowN a f) (knowN a g))
  | 57 => FmlB b w v (impN (knowN a (impN f g)) (impN (knowN a f) (knowN a g)))
  | 37 => IntsB b w v [0]
  | 40 => IntsB b w v [1]
  | 43 => IntsB b w v [4, 3]
  | 46 => IntsB b w v [2]
  | 51 => IntsB b w v [1]
  | 58 => IntsB b w v [0]
  | 32 => LineV b w v (mkLn 1 1 (knowN a (impN f g)) [])
  | 34 => LineV b w v (mkLn 2 1 (knowN a f) [])
  | 38 => LineV b w v (mkLn 3 17 (impN f g) [0])
  | 41 => LineV b w v (mkLn 3 17 f [1])
  | 44 => LineV b w v (mkLn 3 9 g [4, 3])
  | 47 => LineV b w v (mkLn 2 16 (knowN a g) [2])
  | 52 => LineV b w v (mkLn 1 8 (impN (knowN a f) (knowN a g)) [1])
  | 59 => LineV b w v (mkLn 0 8 (impN (knowN a (impN f g)) (impN (knowN a f) (knowN a g))) [0])
  | 35 => LineV b w v (boxLn a)
  | 60 => LnsB b w v (axiomLs a f g)
  | 61 => ∃ vl, v = .agg #[.int .i64 lg, vl] ∧ LnsB b w vl (axiomLs a f g)
  | _ => True
theorem axSl_ext (b bx : Nat) (lg a : Int) (f g : List Nd) (t : Nat) (v : Value) (w w' : World) (h : axSl b bx lg a f g t v w) (he : Ext w w') : axSl b bx lg a f g t v w' := by
  unfold axSl at h ⊢
  split at h <;> first
    | exact h
    | exact FmlB.ext h he
    | exact IntsB.ext h he
    | exact LineV.ext h he
    | exact LnsB.ext h he
    | exact ⟨h.1, h.2.ext he⟩
    | exact ⟨h.choose, h.choose_spec.1, h.choose_spec.2.ext he⟩
def axReads (i : Nat) : List Nat :=
  match i with
  | 0 => [0]
  | 1 => [10]
  | 2 => [31]
  | 3 => [11]
  | 4 => [33]
  | 5 => [13]
  | 6 => [9]
  | 8 => [36, 37]
  | 9 => [2]
  | 11 => [39, 40]
  | 12 => [3]
  | 14 => [42, 43]
  | 15 => [12]
  | 17 => [45, 46]
  | 18 => [11]
  | 19 => [12]
  | 20 => [48, 49]
  | 22 => [50, 51]
  | 23 => [10]
  | 24 => [11]
  | 25 => [12]
  | 26 => [54, 55]
  | 27 => [53, 56]
  | 29 => [57, 58]
  | 30 => [32, 34, 35, 38, 41, 44, 47, 52, 59]
  | 31 => [30, 60]
  | _ => []
theorem cells5' {w : World} {b : Nat} {a0 a1 a2 a3 a4 : Value} {t : TypeId} (h : w.heap[b]? = some (.cells #[a0, a1, a2, a3, a4] t (0, 0))) :
    w.cell? ⟨b, 0, none⟩ = some a0 ∧ w.cell? ⟨b, 1, none⟩ = some a1 ∧ w.cell? ⟨b, 2, none⟩ = some a2 ∧ w.cell? ⟨b, 3, none⟩ = some a3 ∧ w.cell? ⟨b, 4, none⟩ = some a4 ∧ b < w.heap.size :=
  ⟨by simp [World.cell?, h], by simp [World.cell?, h], by simp [World.cell?, h], by simp [World.cell?, h], by simp [World.cell?, h], lt_heap h⟩
set_option maxRecDepth 100000 in
set_option maxHeartbeats 40000000 in
theorem axiom_any (lg a : Int) (ha : i64ok a) (v1 v2 : Value) (f g : List Nd) (w : World) (hf : Fml w v1 f) (hg : Fml w v2 g) (h0 : 0 < f.length) (h1 : 0 < g.length) :
    Calls Tryd.prog 16 #[.int .i64 lg, .int .i64 a, v1, v2] w fun e w' => ∃ vl, e = .returned (.agg #[.int .i64 lg, vl]) ∧ Ext w w' ∧ Lns w' vl (axiomLs a f g) := by
  have HF := Lib.hid (show FmlB w.heap.size w v1 f from ⟨hf, NB.of_lt hf h0 (Nat.le_refl _)⟩)
  have HG := Lib.hid (show FmlB w.heap.size w v2 g from ⟨hg, NB.of_lt hg h1 (Nat.le_refl _)⟩)
  obtain ⟨Af, cf, rfl, _⟩ := fml_slice hf
  obtain ⟨Ag, cg, rfl, _⟩ := fml_slice hg
  clear hf hg
  go_enter Tryd.func16, Tryd.ntmps16
  go_wp2_with fail
  refine (imp_any _ _ f g _ (HF.out.1.ext ((Ext.refl _).alloc _)) (HG.out.1.ext ((Ext.refl _).alloc _))).mono ?_
  rintro e w1 ⟨u9, rfl, hm⟩
  have hb1 : w1.heap[w.heap.size]? = some (.cells #[.int .i64 0, .slice none 0 0] 24 (0, 0)) := (hm.2.2.block (by simp)).trans (heap_alloc_new _ _)
  have HB1 := Lib.hid hb1
  have hl1 := lt_heap hb1
  have HX1 := Lib.hid (((Ext.refl w).alloc (.cells #[.int .i64 0, .slice none 0 0] 24)).trans hm.2.2)
  have H9 := Lib.hid (show FmlB w.heap.size w1 u9 (impN f g) from ⟨hm.fml, NB.of_row hm.1 (by simp)⟩)
  clear hm hb1
  go_wp2_with fail
  refine (know_any a ha _ (impN f g) _ H9.out.1).mono ?_
  rintro e w2 ⟨u10, rfl, hm⟩
  have H10 := Lib.hid (show FmlB w.heap.size w2 u10 (knowN a (impN f g)) from ⟨hm.fml, NB.of_row hm.1 hl1⟩)
  have X12 := Lib.hid hm.2.2
  have hl2 := Nat.lt_of_lt_of_le hl1 hm.2.2.size
  clear hm
  go_wp2_with fail
  refine (know_any a ha _ f _ (HF.out.1.ext (HX1.out.trans X12.out))).mono ?_
  rintro e w3 ⟨u11, rfl, hm⟩
  have H11 := Lib.hid (show FmlB w.heap.size w3 u11 (knowN a f) from ⟨hm.fml, NB.of_row hm.1 hl2⟩)
  have X23 := Lib.hid hm.2.2
  have hl3 := Nat.lt_of_lt_of_le hl2 hm.2.2.size
  clear hm
  go_wp2_with fail
  refine (know_any a ha _ g _ (HG.out.1.ext (HX1.out.trans (X12.out.trans X23.out)))).mono ?_
  rintro e w4 ⟨u12, rfl, hm⟩
  have H12 := Lib.hid (show FmlB w.heap.size w4 u12 (knowN a g) from ⟨hm.fml, NB.of_row hm.1 hl3⟩)
  have X34 := Lib.hid hm.2.2
  have hl4 := Nat.lt_of_lt_of_le hl3 hm.2.2.size
  clear hm
  go_wp2_with fail
  refine (true_any _).mono ?_
  rintro e w5 ⟨ut, rfl, hm⟩
  have HTR := Lib.hid (show FmlB w.heap.size w5 ut trueN from ⟨hm.fml, NB.of_row hm.1 hl4⟩)
  have X45 := Lib.hid hm.2.2
  have hl5 := Nat.lt_of_lt_of_le hl4 hm.2.2.size
  clear hm
  go_wp2_with fail
  refine (line_call (b := w.heap.size) 3 2 HTR.out.1 (Ints.none_ _) HTR.out.2 (NB.nil _)).mono ?_
  rintro e w6 ⟨vb, rfl, hx6, hv⟩
  obtain ⟨At, ct, Rt, rt, rfl, p1, p2, p3, p4⟩ := hv
  have HP := Lib.hid (And.intro p1 (And.intro p2 (And.intro p3 p4)))
  have hl6 := Nat.lt_of_lt_of_le hl5 hx6.size
  have X26 := Lib.hid (X23.out.trans (X34.out.trans (X45.out.trans hx6)))
  have X36 := Lib.hid (X34.out.trans (X45.out.trans hx6))
  have X46 := Lib.hid (X45.out.trans hx6)
  have X16 := Lib.hid (X12.out.trans X26.out)
  clear hx6 p1 p2 p3 p4 hl2 hl3 hl4 hl5
  go_wp2_with fail
  generalize hW : World.alloc w6 _ = W
  have hW0 : Ext w6 W := by rw [← hW]; exact (Ext.refl _).alloc _
  have hbx : W.heap[w6.heap.size]? = some (.cells #[.int .i64 3, .int .i64 2, .slice At trueN.length ct, .int .i64 a, .slice Rt 0 rt] 34 (0, 0)) := by rw [← hW]; exact heap_alloc_new _ _
  have hbW : W.heap[w.heap.size]? = some (.cells #[.int .i64 0, .slice none 0 0] 24 (0, 0)) := ((X16.out.trans hW0).block hl1).trans HB1.out
  have hb : w.heap.size < W.heap.size := lt_heap hbW
  clear hW
  refine wp_region_each (Sl := axSl w.heap.size w6.heap.size lg a f g) (pre := [0, 2, 3, 8, 9, 10, 11, 12, 13]) (reads := axReads) (N := 62) (by kernel_rfl) (by kernel_rfl) (axSl_ext _ _ _ _ _ _) (D := []) rfl rfl ?pre ?step ?last
  case pre =>
    have b0 : axSl w.heap.size w6.heap.size lg a f g 2 (.slice Af f.length cf) W := HF.out.ext (HX1.out.trans (X16.out.trans hW0))
    have b1 : axSl w.heap.size w6.heap.size lg a f g 3 (.slice Ag g.length cg) W := HG.out.ext (HX1.out.trans (X16.out.trans hW0))
    have b2 : axSl w.heap.size w6.heap.size lg a f g 9 u9 W := H9.out.ext (X16.out.trans hW0)
    have b3 : axSl w.heap.size w6.heap.size lg a f g 10 u10 W := H10.out.ext (X26.out.trans hW0)
    have b4 : axSl w.heap.size w6.heap.size lg a f g 11 u11 W := H11.out.ext (X36.out.trans hW0)
    have b5 : axSl w.heap.size w6.heap.size lg a f g 12 u12 W := H12.out.ext (X46.out.trans hW0)
    have b6 : axSl w.heap.size w6.heap.size lg a f g 13 (.pointer (some ⟨w6.heap.size, 0, none⟩)) W := ⟨rfl, At, ct, Rt, rt, hbx, HP.out.1.ext hW0, HP.out.2.2.1, HP.out.2.1.ext hW0, HP.out.2.2.2⟩
    intro t ht
    simp only [List.mem_cons, List.not_mem_nil, or_false] at ht
    rcases ht with rfl | rfl | rfl | rfl | rfl | rfl | rfl | rfl | rfl
    · exact (rfl : Value.int .i64 lg = .int .i64 lg)
    · exact b0
    · exact b1
    · exact (rfl : Value.pointer (some ⟨w.heap.size, 0, none⟩) = .pointer (some ⟨w.heap.size, 0, none⟩))
    · exact b2
    · exact b3
    · exact b4
    · exact b5
    · exact b6
  case step =>
    clear HB1 HX1 H9 H10 H11 H12 HTR X12 X23 X34 X45 X26 X36 X46 X16 HP hW0 hbx hbW HF HG
    intro i hi
    match i, hi with
    | 0, _ =>
      refine ⟨_, rfl, fun a' w hx hr K hK => ?_⟩
      obtain ⟨x, e, h⟩ := hr 0 (by simp [axReads])
      go_simp
      exact hK x w (Ext.refl _) (fun d hd => by cases hd; exact h)
    | 1, _ =>
      refine ⟨_, rfl, fun a' w hx hr K hK => ?_⟩
      obtain ⟨x, e, h⟩ := hr 10 (by simp [axReads])
      go_simp
      exact hK x w (Ext.refl _) (fun d hd => by cases hd; exact h)
    | 2, _ =>
      refine ⟨_, rfl, fun a' w hx hr K hK => ?_⟩
      obtain ⟨x1, e1, h1⟩ := hr 31 (by simp [axReads])
      go_simp
      refine (line_call (f := (knowN a (impN f g))) (l := []) 1 1 h1.1 (Ints.none_ _) h1.2 (NB.nil _)).mono ?_
      rintro e w' ⟨v, rfl, hx', hv⟩
      exact hK v w' hx' (fun d hd => by cases hd; exact hv)
    | 3, _ =>
      refine ⟨_, rfl, fun a' w hx hr K hK => ?_⟩
      obtain ⟨x, e, h⟩ := hr 11 (by simp [axReads])
      go_simp
      exact hK x w (Ext.refl _) (fun d hd => by cases hd; exact h)
    | 4, _ =>
      refine ⟨_, rfl, fun a' w hx hr K hK => ?_⟩
      obtain ⟨x1, e1, h1⟩ := hr 33 (by simp [axReads])
      go_simp
      refine (line_call (f := (knowN a f)) (l := []) 2 1 h1.1 (Ints.none_ _) h1.2 (NB.nil _)).mono ?_
      rintro e w' ⟨v, rfl, hx', hv⟩
      exact hK v w' hx' (fun d hd => by cases hd; exact hv)
    | 5, _ =>
      refine ⟨_, rfl, fun a' w hx hr K hK => ?_⟩
      obtain ⟨x, e, h⟩ := hr 13 (by simp [axReads])
      obtain ⟨rfl, At, ct, Rt, rt, h1, h2, h3, h4, h5⟩ := h
      obtain ⟨s0, s1, s2, s3, s4, slt⟩ := cells5' h1
      go_simp
      exact hK _ w (Ext.refl _) (fun d hd => by cases hd; exact ⟨At, ct, Rt, rt, rfl, h2, h4, h3, h5⟩)
    | 6, _ =>
      refine ⟨_, rfl, fun a' w hx hr K hK => ?_⟩
      obtain ⟨x, e, h⟩ := hr 9 (by simp [axReads])
      go_simp
      exact hK x w (Ext.refl _) (fun d hd => by cases hd; exact h)
    | 7, _ =>
      refine ⟨_, rfl, fun a' w hx hr K hK => ?_⟩
      go_simp
      exact hK _ _ ((Ext.refl _).alloc _) (fun d hd => by cases hd; exact ⟨ints_one w 0, nb_new (Nat.lt_of_lt_of_le hb hx.size)⟩)
    | 8, _ =>
      refine ⟨_, rfl, fun a' w hx hr K hK => ?_⟩
      obtain ⟨x1, e1, h1⟩ := hr 36 (by simp [axReads])
      obtain ⟨x2, e2, h2⟩ := hr 37 (by simp [axReads])
      go_simp
      refine (line_call (f := (impN f g)) (l := [0]) 3 17 h1.1 h2.1 h1.2 h2.2).mono ?_
      rintro e w' ⟨v, rfl, hx', hv⟩
      exact hK v w' hx' (fun d hd => by cases hd; exact hv)
    | 9, _ =>
      refine ⟨_, rfl, fun a' w hx hr K hK => ?_⟩
      obtain ⟨x, e, h⟩ := hr 2 (by simp [axReads])
      go_simp
      exact hK x w (Ext.refl _) (fun d hd => by cases hd; exact h)
    | 10, _ =>
      refine ⟨_, rfl, fun a' w hx hr K hK => ?_⟩
      go_simp
      exact hK _ _ ((Ext.refl _).alloc _) (fun d hd => by cases hd; exact ⟨ints_one w 1, nb_new (Nat.lt_of_lt_of_le hb hx.size)⟩)
    | 11, _ =>
      refine ⟨_, rfl, fun a' w hx hr K hK => ?_⟩
      obtain ⟨x1, e1, h1⟩ := hr 39 (by simp [axReads])
      obtain ⟨x2, e2, h2⟩ := hr 40 (by simp [axReads])
      go_simp
      refine (line_call (f := f) (l := [1]) 3 17 h1.1 h2.1 h1.2 h2.2).mono ?_
      rintro e w' ⟨v, rfl, hx', hv⟩
      exact hK v w' hx' (fun d hd => by cases hd; exact hv)
    | 12, _ =>
      refine ⟨_, rfl, fun a' w hx hr K hK => ?_⟩
      obtain ⟨x, e, h⟩ := hr 3 (by simp [axReads])
      go_simp
      exact hK x w (Ext.refl _) (fun d hd => by cases hd; exact h)
    | 13, _ =>
      refine ⟨_, rfl, fun a' w hx hr K hK => ?_⟩
      go_simp
      exact hK _ _ ((Ext.refl _).alloc _) (fun d hd => by cases hd; exact ⟨ints_two w 4 3, nb_new (Nat.lt_of_lt_of_le hb hx.size)⟩)
    | 14, _ =>
      refine ⟨_, rfl, fun a' w hx hr K hK => ?_⟩
      obtain ⟨x1, e1, h1⟩ := hr 42 (by simp [axReads])
      obtain ⟨x2, e2, h2⟩ := hr 43 (by simp [axReads])
      go_simp
      refine (line_call (f := g) (l := [4, 3]) 3 9 h1.1 h2.1 h1.2 h2.2).mono ?_
      rintro e w' ⟨v, rfl, hx', hv⟩
      exact hK v w' hx' (fun d hd => by cases hd; exact hv)
    | 15, _ =>
      refine ⟨_, rfl, fun a' w hx hr K hK => ?_⟩
      obtain ⟨x, e, h⟩ := hr 12 (by simp [axReads])
      go_simp
      exact hK x w (Ext.refl _) (fun d hd => by cases hd; exact h)
    | 16, _ =>
      refine ⟨_, rfl, fun a' w hx hr K hK => ?_⟩
      go_simp
      exact hK _ _ ((Ext.refl _).alloc _) (fun d hd => by cases hd; exact ⟨ints_one w 2, nb_new (Nat.lt_of_lt_of_le hb hx.size)⟩)
    | 17, _ =>
      refine ⟨_, rfl, fun a' w hx hr K hK => ?_⟩
      obtain ⟨x1, e1, h1⟩ := hr 45 (by simp [axReads])
      obtain ⟨x2, e2, h2⟩ := hr 46 (by simp [axReads])
      go_simp
      refine (line_call (f := (knowN a g)) (l := [2]) 2 16 h1.1 h2.1 h1.2 h2.2).mono ?_
      rintro e w' ⟨v, rfl, hx', hv⟩
      exact hK v w' hx' (fun d hd => by cases hd; exact hv)
    | 18, _ =>
      refine ⟨_, rfl, fun a' w hx hr K hK => ?_⟩
      obtain ⟨x, e, h⟩ := hr 11 (by simp [axReads])
      go_simp
      exact hK x w (Ext.refl _) (fun d hd => by cases hd; exact h)
    | 19, _ =>
      refine ⟨_, rfl, fun a' w hx hr K hK => ?_⟩
      obtain ⟨x, e, h⟩ := hr 12 (by simp [axReads])
      go_simp
      exact hK x w (Ext.refl _) (fun d hd => by cases hd; exact h)
    | 20, _ =>
      refine ⟨_, rfl, fun a' w hx hr K hK => ?_⟩
      obtain ⟨x1, e1, h1⟩ := hr 48 (by simp [axReads])
      obtain ⟨x2, e2, h2⟩ := hr 49 (by simp [axReads])
      go_simp
      refine (imp_any x1 x2 (knowN a f) (knowN a g) _ h1.1 h2.1).mono ?_
      rintro e w' ⟨v, rfl, hm⟩
      exact hK v w' hm.2.2 (fun d hd => by cases hd; exact ⟨hm.fml, NB.of_row hm.1 (Nat.lt_of_lt_of_le hb hx.size)⟩)
    | 21, _ =>
      refine ⟨_, rfl, fun a' w hx hr K hK => ?_⟩
      go_simp
      exact hK _ _ ((Ext.refl _).alloc _) (fun d hd => by cases hd; exact ⟨ints_one w 1, nb_new (Nat.lt_of_lt_of_le hb hx.size)⟩)
    | 22, _ =>
      refine ⟨_, rfl, fun a' w hx hr K hK => ?_⟩
      obtain ⟨x1, e1, h1⟩ := hr 50 (by simp [axReads])
      obtain ⟨x2, e2, h2⟩ := hr 51 (by simp [axReads])
      go_simp
      refine (line_call (f := (impN (knowN a f) (knowN a g))) (l := [1]) 1 8 h1.1 h2.1 h1.2 h2.2).mono ?_
      rintro e w' ⟨v, rfl, hx', hv⟩
      exact hK v w' hx' (fun d hd => by cases hd; exact hv)
    | 23, _ =>
      refine ⟨_, rfl, fun a' w hx hr K hK => ?_⟩
      obtain ⟨x, e, h⟩ := hr 10 (by simp [axReads])
      go_simp
      exact hK x w (Ext.refl _) (fun d hd => by cases hd; exact h)
    | 24, _ =>
      refine ⟨_, rfl, fun a' w hx hr K hK => ?_⟩
      obtain ⟨x, e, h⟩ := hr 11 (by simp [axReads])
      go_simp
      exact hK x w (Ext.refl _) (fun d hd => by cases hd; exact h)
    | 25, _ =>
      refine ⟨_, rfl, fun a' w hx hr K hK => ?_⟩
      obtain ⟨x, e, h⟩ := hr 12 (by simp [axReads])
      go_simp
      exact hK x w (Ext.refl _) (fun d hd => by cases hd; exact h)
    | 26, _ =>
      refine ⟨_, rfl, fun a' w hx hr K hK => ?_⟩
      obtain ⟨x1, e1, h1⟩ := hr 54 (by simp [axReads])
      obtain ⟨x2, e2, h2⟩ := hr 55 (by simp [axReads])
      go_simp
      refine (imp_any x1 x2 (knowN a f) (knowN a g) _ h1.1 h2.1).mono ?_
      rintro e w' ⟨v, rfl, hm⟩
      exact hK v w' hm.2.2 (fun d hd => by cases hd; exact ⟨hm.fml, NB.of_row hm.1 (Nat.lt_of_lt_of_le hb hx.size)⟩)
    | 27, _ =>
      refine ⟨_, rfl, fun a' w hx hr K hK => ?_⟩
      obtain ⟨x1, e1, h1⟩ := hr 53 (by simp [axReads])
      obtain ⟨x2, e2, h2⟩ := hr 56 (by simp [axReads])
      go_simp
      refine (imp_any x1 x2 (knowN a (impN f g)) (impN (knowN a f) (knowN a g)) _ h1.1 h2.1).mono ?_
      rintro e w' ⟨v, rfl, hm⟩
      exact hK v w' hm.2.2 (fun d hd => by cases hd; exact ⟨hm.fml, NB.of_row hm.1 (Nat.lt_of_lt_of_le hb hx.size)⟩)
    | 28, _ =>
      refine ⟨_, rfl, fun a' w hx hr K hK => ?_⟩
      go_simp
      exact hK _ _ ((Ext.refl _).alloc _) (fun d hd => by cases hd; exact ⟨ints_one w 0, nb_new (Nat.lt_of_lt_of_le hb hx.size)⟩)
    | 29, _ =>
      refine ⟨_, rfl, fun a' w hx hr K hK => ?_⟩
      obtain ⟨x1, e1, h1⟩ := hr 57 (by simp [axReads])
      obtain ⟨x2, e2, h2⟩ := hr 58 (by simp [axReads])
      go_simp
      refine (line_call (f := (impN (knowN a (impN f g)) (impN (knowN a f) (knowN a g)))) (l := [0]) 0 8 h1.1 h2.1 h1.2 h2.2).mono ?_
      rintro e w' ⟨v, rfl, hx', hv⟩
      exact hK v w' hx' (fun d hd => by cases hd; exact hv)
    | 30, _ =>
      refine ⟨_, rfl, fun a' w hx hr K hK => ?_⟩
      obtain ⟨x0, e0, A0, c0, R0, r0, y0, p0, q0, m0, n0⟩ := hr 32 (by simp [axReads])
      subst y0
      obtain ⟨x1, e1, A1, c1, R1, r1, y1, p1, q1, m1, n1⟩ := hr 34 (by simp [axReads])
      subst y1
      obtain ⟨x2, e2, A2, c2, R2, r2, y2, p2, q2, m2, n2⟩ := hr 35 (by simp [axReads])
      subst y2
      obtain ⟨x3, e3, A3, c3, R3, r3, y3, p3, q3, m3, n3⟩ := hr 38 (by simp [axReads])
      subst y3
      obtain ⟨x4, e4, A4, c4, R4, r4, y4, p4, q4, m4, n4⟩ := hr 41 (by simp [axReads])
      subst y4
      obtain ⟨x5, e5, A5, c5, R5, r5, y5, p5, q5, m5, n5⟩ := hr 44 (by simp [axReads])
      subst y5
      obtain ⟨x6, e6, A6, c6, R6, r6, y6, p6, q6, m6, n6⟩ := hr 47 (by simp [axReads])
      subst y6
      obtain ⟨x7, e7, A7, c7, R7, r7, y7, p7, q7, m7, n7⟩ := hr 52 (by simp [axReads])
      subst y7
      obtain ⟨x8, e8, A8, c8, R8, r8, y8, p8, q8, m8, n8⟩ := hr 59 (by simp [axReads])
      subst y8
      have HL := lnsB_new  (w := w) (T := 34) (ns := axiomLs a f g) (by simp [axiomLs]) (Nat.lt_of_lt_of_le hb hx.size) (LineCells.cons (n := mkLn 1 1 (knowN a (impN f g)) []) p0 q0 m0 n0 (LineCells.cons (n := mkLn 2 1 (knowN a f) []) p1 q1 m1 n1 (LineCells.cons (n := boxLn a) p2 q2 m2 n2 (LineCells.cons (n := mkLn 3 17 (impN f g) [0]) p3 q3 m3 n3 (LineCells.cons (n := mkLn 3 17 f [1]) p4 q4 m4 n4 (LineCells.cons (n := mkLn 3 9 g [4, 3]) p5 q5 m5 n5 (LineCells.cons (n := mkLn 2 16 (knowN a g) [2]) p6 q6 m6 n6 (LineCells.cons (n := mkLn 1 8 (impN (knowN a f) (knowN a g)) [1]) p7 q7 m7 n7 (LineCells.cons (n := mkLn 0 8 (impN (knowN a (impN f g)) (impN (knowN a f) (knowN a g))) [0]) p8 q8 m8 n8 (LineCells.nil))))))))))
      clear p0 q0 m0 n0
      go_simp
      exact hK _ _ ((Ext.refl _).alloc _) (fun d hd => by cases hd; exact HL)
    | 31, _ =>
      refine ⟨_, rfl, fun a' w hx hr K hK => ?_⟩
      obtain ⟨x1, e1, h1⟩ := hr 30 (by simp [axReads])
      obtain ⟨x2, e2, h2⟩ := hr 60 (by simp [axReads])
      obtain ⟨gg, cc, hs, hrest⟩ := h2
      have hv : x1 = .int .i64 lg := h1
      subst hv
      subst hs
      go_simp
      exact hK _ w (Ext.refl _) (fun d hd => by cases hd; exact ⟨_, rfl, gg, cc, rfl, hrest⟩)
    | i + 32, hi => exact absurd (show i + 33 < 33 from hi) (by omega)
  case last =>
    refine ⟨_, rfl, fun a' w7 hx hn hdf hp hd K hK => ?_⟩
    obtain ⟨x8, e8, h8⟩ := hp 8 (by simp)
    obtain ⟨x61, e61, h61⟩ := hd 31 _ 61 rfl (by decide) rfl
    obtain ⟨vl, hv, hl⟩ := h61
    subst hv
    have h8' : x8 = .pointer (some ⟨w.heap.size, 0, none⟩) := h8
    subst h8'
    have hb7 := (hx.block hb).trans hbW
    obtain ⟨z0, z1, zfr, zlt⟩ := cells2 hb7
    have zf0 := zfr 0
    have zf1 := zfr 1
    have HD := Lib.hid (proof_done0 (lg := lg) (Nat.le_refl w.heap.size) (HX1.out.trans (X16.out.trans (hW0.trans hx))) hb7 hl)
    obtain ⟨gl, cl, hvl, _⟩ := hl
    subst hvl
    clear zfr hp hd hb7 hn
    have e8' : a'.tmps.getD 8 undef = .pointer (some ⟨w.heap.size, 0, none⟩) := by rw [Array.getD_eq_getD_getElem?]; exact e8
    go_simp
    refine hK _ _ ?_
    go_wp2_with fail
    (try simp only [Exit.inBlock, Exit.then])
    refine bodyPost_ret (results_cell Tryd.results16 _ _ e8' HD.out.1 Tryd.underlying24 rfl (by kernel_rfl)) hdf ?_
    exact ⟨_, rfl, HD.out.2.1, HD.out.2.2⟩
end Go.Proofs.YtohoddkcpfamlaaDoor

/- The law's awake. -/

namespace Go.Proofs.YtohoddkcpfamlaaDoor
open Go.RowKit

theorem awake1 : natCheck 0 (truthLs 0 (factN 0)) = (1, 13) := by decide +kernel
theorem awake2 : (factN 0).length = 1 := by decide +kernel
theorem awake2b : (factN 1).length = 1 := by decide +kernel
theorem awake3 : provesL 2 (truthLs 0 (factN 0)) (impN (knowN 0 (factN 0)) (factN 0)) = true := by decide +kernel
theorem awake4 : provesL 0 (axiomLs 0 (factN 0) (factN 1)) (impN (knowN 0 (impN (factN 0) (factN 1))) (impN (knowN 0 (factN 0)) (knowN 0 (factN 1)))) = true := by decide +kernel
set_option maxRecDepth 100000 in
set_option maxHeartbeats 4000000 in
theorem awake_any {w : World} (hT : Tab w) :
    Calls Tryd.prog 5 #[] w fun e w' => e = .returned (.bool true) ∧ Ext w w' := by
  have HT := Lib.hid hT
  have P0 : Hid (0 < (factN 0).length) := Lib.hid (by rw [awake2]; decide)
  have P1 : Hid (0 < (factN 1).length) := Lib.hid (by rw [awake2b]; decide)
  clear hT
  go_enter Tryd.func5, Tryd.ntmps5
  go_wp2_with fail
  refine (fact_any 0 ⟨by omega, by omega⟩ _).mono ?_
  rintro e w1 ⟨up, rfl, hm⟩
  have MP := Lib.hid hm.fml
  have X1 := Lib.hid hm.2.2
  clear hm
  go_wp2_with fail
  refine (fact_any 1 ⟨by omega, by omega⟩ _).mono ?_
  rintro e w2 ⟨uq, rfl, hm⟩
  have MQ := Lib.hid hm.fml
  have X2 := Lib.hid hm.2.2
  clear hm
  go_wp2_with fail
  refine (truth_any 0 0 ⟨by omega, by omega⟩ up (factN 0) _ (MP.out.ext X2.out) P0.out).mono ?_
  rintro e w3 ⟨vl, rfl, hx, hl⟩
  have X3 := Lib.hid hx
  have HL := Lib.hid hl
  clear hx hl
  go_wp2_with fail
  refine (natCheck_any (lg := 0) HL.out (HT.out.ext (X1.out.trans (X2.out.trans X3.out)))).mono ?_
  rintro e w4 ⟨rfl, hx⟩
  rw [awake1]
  have X4 := Lib.hid hx
  have X24 := Lib.hid (X3.out.trans hx)
  have X14 := Lib.hid (X2.out.trans X24.out)
  have X04 := Lib.hid (X1.out.trans X14.out)
  clear hx
  go_wp2_with fail
  refine (imp_any _ _ (factN 0) (factN 1) _ (MP.out.ext X14.out) (MQ.out.ext X24.out)).mono ?_
  rintro e w5 ⟨u1, rfl, hm⟩
  have M1 := Lib.hid hm.fml
  have X45 := Lib.hid hm.2.2
  clear hm
  go_wp2_with fail
  refine (know_any 0 ⟨by omega, by omega⟩ _ (impN (factN 0) (factN 1)) _ M1.out).mono ?_
  rintro e w6 ⟨u2, rfl, hm⟩
  have M2 := Lib.hid hm.fml
  have X46 := Lib.hid (X45.out.trans hm.2.2)
  clear hm
  go_wp2_with fail
  refine (know_any 0 ⟨by omega, by omega⟩ _ (factN 0) _ (MP.out.ext (X14.out.trans X46.out))).mono ?_
  rintro e w7 ⟨u3, rfl, hm⟩
  have M3 := Lib.hid hm.fml
  have X67 := Lib.hid hm.2.2
  clear hm
  go_wp2_with fail
  refine (know_any 0 ⟨by omega, by omega⟩ _ (factN 1) _ (MQ.out.ext (X24.out.trans (X46.out.trans X67.out)))).mono ?_
  rintro e w8 ⟨u4, rfl, hm⟩
  have M4 := Lib.hid hm.fml
  have X78 := Lib.hid hm.2.2
  clear hm
  go_wp2_with fail
  refine (imp_any _ _ (knowN 0 (factN 0)) (knowN 0 (factN 1)) _ (M3.out.ext X78.out) M4.out).mono ?_
  rintro e w9 ⟨u5, rfl, hm⟩
  have M5 := Lib.hid hm.fml
  have X69 := Lib.hid (X67.out.trans (X78.out.trans hm.2.2))
  clear hm
  go_wp2_with fail
  refine (imp_any _ _ (knowN 0 (impN (factN 0) (factN 1))) (impN (knowN 0 (factN 0)) (knowN 0 (factN 1))) _ (M2.out.ext X69.out) M5.out).mono ?_
  rintro e w10 ⟨u6, rfl, hm⟩
  have M6 := Lib.hid hm.fml
  have Y10 := Lib.hid (X46.out.trans (X69.out.trans hm.2.2))
  have HP := Lib.hid (MP.out.ext (X14.out.trans Y10.out))
  obtain ⟨Ap, cp, rfl, _⟩ := fml_slice HP.out
  have hp1 := HP.out
  rw [awake2] at hp1
  have HP1 := Lib.hid hp1
  rw [awake2]
  have Y := Lib.hid (X04.out.trans Y10.out)
  have HQ := Lib.hid (MQ.out.ext (X24.out.trans Y10.out))
  clear hm hp1
  go_wp2_with fail
  refine (truth_any 2 0 ⟨by omega, by omega⟩ _ (factN 0) _ HP1.out P0.out).mono ?_
  rintro e w11 ⟨vl2, rfl, hx, hl⟩
  have Z1 := Lib.hid hx
  have HL2 := Lib.hid hl
  clear hx hl
  go_wp2_with fail
  refine (know_any 0 ⟨by omega, by omega⟩ _ (factN 0) _ (HP1.out.ext Z1.out)).mono ?_
  rintro e w12 ⟨u7, rfl, hm⟩
  have M7 := Lib.hid hm.fml
  have Z2 := Lib.hid hm.2.2
  clear hm
  go_wp2_with fail
  refine (imp_any _ _ (knowN 0 (factN 0)) (factN 0) _ M7.out (HP1.out.ext (Z1.out.trans Z2.out))).mono ?_
  rintro e w13 ⟨u8, rfl, hm⟩
  have M8 := Lib.hid hm.fml
  have Z3 := Lib.hid hm.2.2
  have Z13 := Lib.hid (Z1.out.trans (Z2.out.trans hm.2.2))
  clear hm
  go_wp2_with fail
  refine (proves_any (lg := 2) (HL2.out.ext (Z2.out.trans Z3.out)) M8.out (HT.out.ext (Y.out.trans Z13.out))).mono ?_
  rintro e w14 ⟨rfl, hx⟩
  rw [awake3]
  have Z14 := Lib.hid (Z13.out.trans hx)
  clear hx
  go_wp2_with fail
  refine (axiom_any 0 0 ⟨by omega, by omega⟩ _ _ (factN 0) (factN 1) _ (HP1.out.ext Z14.out) (HQ.out.ext Z14.out) P0.out P1.out).mono ?_
  rintro e w15 ⟨vl3, rfl, hx, hl⟩
  have HL3 := Lib.hid hl
  have Z15 := Lib.hid (Z14.out.trans hx)
  clear hx hl
  go_wp2_with fail
  refine (proves_any (lg := 0) HL3.out (M6.out.ext Z15.out) (HT.out.ext (Y.out.trans Z15.out))).mono ?_
  rintro e w16 ⟨rfl, hx⟩
  rw [awake4]
  have Z16 := Lib.hid (Z15.out.trans hx)
  clear hx
  go_wp2_with fail
  go_ret
  exact ⟨rfl, Y.out.trans Z16.out⟩
end Go.Proofs.YtohoddkcpfamlaaDoor

/- What a law's call leaves as it was. -/

namespace Go.Proofs.YtohoddkcpfamlaaDoor
open Go.ChangeShapes Go.WideShapes Go.ChangeAt Go.RowKit Go.Joins

section
variable {H : Type} {enc : TypeId × Value → H} {P : Program}
theorem post_of_below {f : Func} {s : ChangeSpec} {apart fresh handsOn again : Bool} {W W' : World} {args : Array Value} {v : Value} {ds gs : List (DataW H)} {before pa pv : List MemPlace}
    (hW : DataW.Whole enc P f.params.toList s.vars apart W args.toList ds gs before)
    (hres : ∀ (b : Nat) (sp : Nat → Bool) (hd : Bool), DataW.TrodAll enc P W' b sp hd f.resultTypes.toList (v.resultList f.resultTypes.size) (s.fn H (ds ++ gs)).results [])
    (hargs : ∀ sp : Nat → Bool, (∀ p ∈ before, sp p.block = true) → DataW.TrodAll enc P W' 0 sp true f.params.toList args.toList (s.fn H (ds ++ gs)).args pa)
    (hvars : ∀ sp : Nat → Bool, (∀ p ∈ before, sp p.block = true) → DataW.TrodVars enc P W' sp s.vars (s.fn H (ds ++ gs)).vars pv)
    (hps : before = pa ++ pv) (hb : Below W.heap.size W W')
    (hok : ∀ (j : Nat) (t : TypeId) (r : Value), f.resultTypes[j]? = some t → (v.resultList f.resultTypes.size)[j]? = some r → Value.okWide P W' .any 0 t r) :
    s.post enc P f apart fresh handsOn again W args v W' := by
  have hlt : ∀ p ∈ before, p.block < W.heap.size := fun p hp => hW.lt p hp
  have hold : ∀ p ∈ before, (fun b => decide (b < W.heap.size)) p.block = true := fun p hp => by simpa using hlt p hp
  refine ⟨ds, gs, before, [], pa, pv, hW, hres _ _ _, hargs _ hold, hvars _ hold, World.keptBut_mono (fun p hp => ⟨hp, ?_⟩) (hb.frame (· ∈ before)), fun _ => ?_⟩
  · rw [hps, List.mem_append] at hp
    exact Or.inr hp
  · obtain ⟨_, _, _, _, _, hz, hn⟩ := hW
    refine ⟨hok, _, _, ([] ++ pa) ++ pv, ⟨[] ++ pa, pv, trodAll_append (hargs _ (fun _ _ => rfl)) (hres _ _ _), hvars _ (fun _ _ => rfl), rfl, ?_, ?_⟩, ?_⟩
    · intro b off hp
      have hin : MemPlace.cell b off ∈ before := by rw [hps]; simpa using hp
      rw [hb.frozen (hlt _ hin)]
      exact hz b off hin
    · intro ha
      have := hn ha
      rw [hps] at this
      simpa using this
    · intro p hp _
      rw [hps]
      simpa using hp
end
end Go.Proofs.YtohoddkcpfamlaaDoor

/- Proofs by natural deduction read from arguments (Read without the law NaturalLogics). -/

namespace Go.Proofs.YtohoddkcpfamlaaDoor
open Go.ChangeShapes Go.WideShapes Go.ChangeAt Go.RowKit Go.Deep Go.Joins

theorem list_of {α : Type} {P : Nat → α → Prop} : ∀ len : Nat, (∀ i, i < len → ∃ a, P i a) → ∃ l : List α, l.length = len ∧ ∀ k a, l[k]? = some a → P k a
  | 0, _ => ⟨[], rfl, fun k a h => by simp at h⟩
  | len + 1, h => by
    obtain ⟨l, hl, hp⟩ := list_of len (fun i hi => h i (by omega))
    obtain ⟨a, ha⟩ := h len (by omega)
    refine ⟨l ++ [a], by simp [hl], fun k b hk => ?_⟩
    by_cases e : k < l.length
    · rw [List.getElem?_append_left e] at hk
      exact hp k b hk
    · rw [List.getElem?_append_right (by omega)] at hk
      have e0 : k - l.length = 0 := by
        by_cases e2 : k - l.length = 0
        · exact e2
        · rw [List.getElem?_eq_none (by simp; omega)] at hk; cases hk
      rw [e0] at hk
      simp at hk
      subst hk
      have : k = len := by omega
      rw [this]
      exact ha
section
variable {H : Type} {enc : TypeId × Value → H} {P : Program} {w : World} {base : Nat} {spare : Nat → Bool} {held : Bool}
theorem open_slice_fields {t e : TypeId} {fs : Array Field} {fuel : Nat} {cs : List Value} {x : DataW H × List MemPlace} (ht : P.underlying t = some (.slice e)) (he : P.underlying e = some (.struct fs))
    (hone : oneCellFields P fs = true) (hC : P.cellsOf e = fs.size) (h : DataW.trod enc P w base spare held fuel t cs = some x) :
    (cs = [.slice none 0 0] ∧ x = (.nil, [])) ∨
    ∃ (a : Addr) (len cap : Nat), cs = [.slice (some a) len cap] ∧ len ≤ cap ∧ cap ≤ maxLen ∧
      ∀ i, i < len → ∀ (j : Nat) (f : Field), fs[j]? = some f → ∃ (v : Value) (y : DataW H × List MemPlace) (n : Nat), w.cell? (a.add (i * fs.size + j)) = some v ∧ DataW.trod enc P w base spare held n f.type [v] = some y := by
  rcases open_slice ht h with h0 | ⟨a, len, cap, m, n, D, Pl, hcs, hb, hl, hm, hmm, hx, hi⟩
  · exact .inl h0
  · refine .inr ⟨a, len, cap, hcs, hl, hm, fun i hil j f hj => ?_⟩
    have him : i < m := by rw [hmm]; split <;> omega
    obtain ⟨cs', hc, ht'⟩ := hi i him
    rw [hC] at hc
    obtain ⟨ys, n', hn', hy, hlen, hyl, hf⟩ := DataW.trod_struct he ht'
    obtain ⟨_, hcl, hat⟩ := World.cells?_some hc
    obtain ⟨ho, hk⟩ := hone_of hone j f hj
    have hjl : j < fs.size := (Array.getElem?_eq_some_iff.1 hj).1
    have hcell := hat j hjl
    have hv : cs'[j]? = some (cs'[j]'(by omega)) := List.getElem?_eq_getElem (by omega)
    have h1 := hf j f hj
    rw [ho, hk] at h1
    have hone' : (cs'.drop j).take 1 = [cs'[j]'(by omega)] := by
      rw [List.drop_eq_getElem_cons (by omega)]
      rfl
    rw [hone'] at h1
    have hys : ys[j]? = some (ys[j]'(by omega)) := List.getElem?_eq_getElem (by omega)
    refine ⟨_, _, _, ?_, h1.trans hys⟩
    rw [← Go.Deep.add_add, hcell, hv]
end
section
variable {H : Type} {enc : TypeId × Value → H} {w : World} {spare : Nat → Bool} {held : Bool}
theorem cell_field {w : World} {a : Addr} {k j : Nat} {u : Value} (hj : 0 < j) (hc : w.cell? (a.add (k + j)) = some u) : w.cell? ⟨(a.add k).block, (a.add k).off + j, none⟩ = some u := by
  have e : a.add (k + j) = ⟨(a.add k).block, (a.add k).off + j, none⟩ := by
    rw [← add_of_add]
    unfold Addr.add
    rw [if_neg (by omega)]
  rw [← e]
  exact hc
theorem i64_of_wf {z : Int} (h : (Lit.int .i64 z).wf = true) : i64ok z := by
  unfold Lit.wf at h
  rw [Bool.and_eq_true, decide_eq_true_iff, decide_eq_true_iff] at h
  have h1 : IntKind.i64.min = -9223372036854775808 := by decide +kernel
  have h2 : IntKind.i64.max = 9223372036854775807 := by decide +kernel
  rw [h1, h2] at h
  exact h
theorem int_of_trod {fuel : Nat} {v : Value} {y : DataW H × List MemPlace} (h : DataW.trod enc Tryd.prog w 0 spare held fuel 3 [v] = some y) : ∃ z, v = .int .i64 z ∧ i64ok z := by
  obtain ⟨n, hc, _, hw⟩ := DataW.trod_int Tryd.underlying3 h
  injection hc with hc _
  exact ⟨n, hc, i64_of_wf hw⟩
theorem fml_of_trod {fuel : Nat} {v : Value} {y : DataW H × List MemPlace} (h : DataW.trod enc Tryd.prog w 0 spare held fuel 28 [v] = some y) : ∃ l, Fml w v l := by
  rcases open_slice_fields Tryd.underlying28 Tryd.underlying46 (by kernel_rfl) (by kernel_rfl) h with ⟨hc, _⟩ | ⟨a, len, cap, hc, hl, hm, hf⟩
  · injection hc with hc _
    subst hc
    exact ⟨[], ⟨none, 0, rfl, Nat.le_refl _, by unfold maxLen; omega, fun h => absurd rfl h⟩, by simp⟩
  · injection hc with hc _
    subst hc
    obtain ⟨l, hlen, hp⟩ := list_of (P := fun i n => NdAt w (a.add (i * 6)) n ∧ n.ok ∧ a.block < w.heap.size) len (fun i hi => by
      obtain ⟨v0, _, _, c0, t0⟩ := hf i hi 0 _ rfl
      obtain ⟨v1, _, _, c1, t1⟩ := hf i hi 1 _ rfl
      obtain ⟨v2, _, _, c2, t2⟩ := hf i hi 2 _ rfl
      obtain ⟨v3, _, _, c3, t3⟩ := hf i hi 3 _ rfl
      obtain ⟨v4, _, _, c4, t4⟩ := hf i hi 4 _ rfl
      obtain ⟨v5, _, _, c5, t5⟩ := hf i hi 5 _ rfl
      obtain ⟨z0, rfl, o0⟩ := int_of_trod t0
      obtain ⟨z1, rfl, o1⟩ := int_of_trod t1
      obtain ⟨z2, rfl, o2⟩ := int_of_trod t2
      obtain ⟨z3, rfl, o3⟩ := int_of_trod t3
      obtain ⟨z4, rfl, o4⟩ := int_of_trod t4
      obtain ⟨z5, rfl, o5⟩ := int_of_trod t5
      have hs : ∀ (j : Nat) u, 0 < j → w.cell? (a.add (i * 6 + j)) = some u → w.cell? ⟨(a.add (i * 6)).block, (a.add (i * 6)).off + j, none⟩ = some u := fun j u hj hc => cell_field hj hc
      exact ⟨⟨z0, z1, z2, z3, z4, z5⟩, ⟨by simpa using c0, hs 1 _ (by omega) c1, hs 2 _ (by omega) c2, hs 3 _ (by omega) c3, hs 4 _ (by omega) c4, hs 5 _ (by omega) c5⟩, ⟨o0, o1, o2, o3, o4, o5⟩, by have := World.block_lt_of_cell? w _ c0; rwa [block_of_add] at this⟩)
    refine ⟨l, ⟨some a, cap, by rw [hlen], by rw [hlen]; exact hl, hm, fun hne => ⟨a, rfl, ?_, fun k n hk => (hp k n hk).1⟩⟩, fun n hn => ?_⟩
    · obtain ⟨n, hn⟩ : ∃ n, l[0]? = some n := by
        cases l with
        | nil => exact absurd rfl hne
        | cons x t => exact ⟨x, rfl⟩
      exact (hp 0 n hn).2.2
    · obtain ⟨k, hk⟩ := List.getElem?_of_mem hn
      exact (hp k n hk).2.1
theorem ints_of_trod {fuel : Nat} {v : Value} {y : DataW H × List MemPlace} (h : DataW.trod enc Tryd.prog w 0 spare held fuel 32 [v] = some y) : ∃ l, Ints w v l := by
  rcases open_ints Tryd.underlying32 Tryd.underlying3 (by kernel_rfl) h with ⟨hc, _⟩ | ⟨a, len, cap, zs, hc, _, hl, hm, hz, _, hcell, _⟩
  · injection hc with hc _
    subst hc
    exact ⟨[], Ints.none_ w⟩
  · injection hc with hc _
    subst hc
    have hzl : len ≤ zs.length := by rw [hz]; split <;> omega
    have el : (zs.take len).length = len := by simp; omega
    have hcl : ∀ k z, (zs.take len)[k]? = some z → w.cell? (a.add k) = some (.int .i64 z) := fun k z hk => by
      rw [List.getElem?_take] at hk
      split at hk
      · have hk' := (List.getElem?_eq_some_iff.1 hk).1
        rw [hcell k hk', List.getD_eq_getElem?_getD, hk]; rfl
      · cases hk
    refine ⟨zs.take len, some a, cap, by rw [el], by rw [el]; exact hl, hm, fun hne => ⟨a, rfl, ?_, hcl⟩⟩
    obtain ⟨z, hz0⟩ : ∃ z, (zs.take len)[0]? = some z := by
      cases hq : zs.take len with
      | nil => exact absurd hq hne
      | cons x t => exact ⟨x, rfl⟩
    have := World.block_lt_of_cell? w _ (hcl 0 z hz0)
    rwa [block_of_add] at this
theorem lns_of_trod {fuel : Nat} {v : Value} {y : DataW H × List MemPlace} (h : DataW.trod enc Tryd.prog w 0 spare held fuel 22 [v] = some y) : ∃ l, Lns w v l := by
  rcases open_slice_fields Tryd.underlying22 Tryd.underlying34 (by kernel_rfl) (by kernel_rfl) h with ⟨hc, _⟩ | ⟨a, len, cap, hc, hl, hm, hf⟩
  · injection hc with hc _
    subst hc
    exact ⟨[], none, 0, rfl, Nat.le_refl _, by unfold maxLen; omega, fun h => absurd rfl h⟩
  · injection hc with hc _
    subst hc
    obtain ⟨l, hlen, hp⟩ := list_of (P := fun i n => LnAt w (a.add (i * 5)) n ∧ a.block < w.heap.size) len (fun i hi => by
      obtain ⟨v0, _, _, c0, t0⟩ := hf i hi 0 _ rfl
      obtain ⟨v1, _, _, c1, t1⟩ := hf i hi 1 _ rfl
      obtain ⟨v2, _, _, c2, t2⟩ := hf i hi 2 _ rfl
      obtain ⟨v3, _, _, c3, t3⟩ := hf i hi 3 _ rfl
      obtain ⟨v4, _, _, c4, t4⟩ := hf i hi 4 _ rfl
      obtain ⟨z0, rfl, _⟩ := int_of_trod t0
      obtain ⟨z1, rfl, _⟩ := int_of_trod t1
      obtain ⟨f, hff⟩ := fml_of_trod t2
      obtain ⟨z3, rfl, _⟩ := int_of_trod t3
      obtain ⟨r, hr⟩ := ints_of_trod t4
      have hs : ∀ (j : Nat) u, 0 < j → w.cell? (a.add (i * 5 + j)) = some u → w.cell? ⟨(a.add (i * 5)).block, (a.add (i * 5)).off + j, none⟩ = some u := fun j u hj hc => cell_field hj hc
      exact ⟨⟨z0, z1, f, z3, r⟩, ⟨v2, v4, by simpa using c0, hs 1 _ (by omega) c1, hs 2 _ (by omega) c2, hs 3 _ (by omega) c3, hs 4 _ (by omega) c4, hff, hr⟩, by have := World.block_lt_of_cell? w _ c0; rwa [block_of_add] at this⟩)
    refine ⟨l, some a, cap, by rw [hlen], by rw [hlen]; exact hl, hm, fun hne => ⟨a, rfl, ?_, fun k n hk => (hp k n hk).1⟩⟩
    obtain ⟨n, hn⟩ : ∃ n, l[0]? = some n := by
      cases l with
      | nil => exact absurd rfl hne
      | cons x t => exact ⟨x, rfl⟩
    exact (hp 0 n hn).2
end

theorem c3 : Tryd.prog.cellsOf 3 = 1 := by kernel_rfl
theorem c73 : Tryd.prog.cellsOf 74 = 2 := by kernel_rfl
theorem gTab : Tryd.prog.globalNamed "witting/natural.table" = some 0 := by kernel_rfl
theorem tTab : (Tryd.prog.globals[0]?).map (·.type) = some 75 := by kernel_rfl
set_option maxRecDepth 100000 in
theorem row_of {W : World} {fuel : Nat} {cs : List Value} {z : Int} {b : UInt8} {r : List UInt8} {q : List MemPlace} {f0 : FuncId} (h : DataW.trod (funcToken Tryd.prog) Tryd.prog W 0 (fun _ => true) true fuel 74 cs = some (.agg [.lit (.int .i64 z), .held (b :: r)], q))
    (hone : ((List.range Tryd.prog.funcs.size).filter fun f => (Tryd.prog.funcs[f]?).any (·.name.toUTF8.data.toList == b :: r)) = [f0]) : cs = [.int .i64 z, .func (.func f0) #[] #[]] := by
  obtain ⟨ys, n, rfl, hx, hl, hyl, hf⟩ := DataW.trod_struct Tryd.underlying74 h
  rw [c73] at hl
  match cs, hl with
  | [c0, c1], _ =>
    match ys, hyl with
    | [y0, y1], _ =>
      have h0 := hf 0 _ rfl
      have h1 := hf 1 _ rfl
      simp only [Prod.mk.injEq, DataW.agg.injEq, List.map_cons, List.map_nil, List.cons.injEq, and_true] at hx
      obtain ⟨⟨e0, e1⟩, _⟩ := hx
      have h0' : DataW.trod (funcToken Tryd.prog) Tryd.prog W 0 (fun _ => true) true n 3 [c0] = some y0 := h0
      have h1' : DataW.trod (funcToken Tryd.prog) Tryd.prog W 0 (fun _ => true) true n 72 [c1] = some y1 := h1
      obtain ⟨z', hc, hy, _⟩ := DataW.trod_int Tryd.underlying3 h0'
      injection hc with hc _
      rw [hy] at e0
      simp only [DataW.lit.injEq, Lit.int.injEq, true_and] at e0
      have ey : y1 = (.held (b :: r), y1.2) := by rw [e1]
      rw [ey] at h1'
      have := func_of_trod (f0 := f0) Tryd.underlying72 hone h1'
      rw [hc, e0, this]
theorem pair_get {l : List Value} {a : Nat} {x y : Value} (h : (l.drop a).take 2 = [x, y]) : l[a]? = some x ∧ l[a + 1]? = some y := by
  have h0 := congrArg (fun q => q[0]?) h
  have h1 := congrArg (fun q => q[1]?) h
  simp only [List.getElem?_take, List.getElem?_drop] at h0 h1
  exact ⟨by simpa using h0, by simpa using h1⟩
set_option maxRecDepth 100000 in
set_option maxHeartbeats 4000000 in
theorem tab_of_laid {W : World} {L : List (String × DataW Unit)} (h : laidMetH Tryd.prog L W) (hx : ("witting/natural.table", Rows.laid_witting_natural_table) ∈ L) : Tab W := by
  obtain ⟨g, t, cs, fuel, p, hg, ht, hv, hd⟩ := h.funcs hx
  obtain rfl := Option.some.inj (gTab.symm.trans hg)
  obtain rfl := Option.some.inj (tTab.symm.trans ht)
  have hd' : DataW.trod (funcToken Tryd.prog) Tryd.prog W 0 (fun _ => true) true fuel 75 cs.toList = some (.agg [.agg [.lit (.int .i64 3), .held [40, 42, 119, 105, 116, 116, 105, 110, 103, 47, 110, 97, 116, 117, 114, 97, 108, 46, 99, 104, 101, 99, 107, 101, 114, 41, 46, 99, 111, 112, 105, 101, 100]], .agg [.lit (.int .i64 4), .held [40, 42, 119, 105, 116, 116, 105, 110, 103, 47, 110, 97, 116, 117, 114, 97, 108, 46, 99, 104, 101, 99, 107, 101, 114, 41, 46, 97, 110, 100, 73, 110]], .agg [.lit (.int .i64 5), .held [40, 42, 119, 105, 116, 116, 105, 110, 103, 47, 110, 97, 116, 117, 114, 97, 108, 46, 99, 104, 101, 99, 107, 101, 114, 41, 46, 97, 110, 100, 79, 117, 116]], .agg [.lit (.int .i64 6), .held [40, 42, 119, 105, 116, 116, 105, 110, 103, 47, 110, 97, 116, 117, 114, 97, 108, 46, 99, 104, 101, 99, 107, 101, 114, 41, 46, 111, 114, 73, 110]], .agg [.lit (.int .i64 7), .held [40, 42, 119, 105, 116, 116, 105, 110, 103, 47, 110, 97, 116, 117, 114, 97, 108, 46, 99, 104, 101, 99, 107, 101, 114, 41, 46, 111, 114, 79, 117, 116]], .agg [.lit (.int .i64 8), .held [40, 42, 119, 105, 116, 116, 105, 110, 103, 47, 110, 97, 116, 117, 114, 97, 108, 46, 99, 104, 101, 99, 107, 101, 114, 41, 46, 105, 109, 112, 73, 110]], .agg [.lit (.int .i64 9), .held [40, 42, 119, 105, 116, 116, 105, 110, 103, 47, 110, 97, 116, 117, 114, 97, 108, 46, 99, 104, 101, 99, 107, 101, 114, 41, 46, 105, 109, 112, 79, 117, 116]], .agg [.lit (.int .i64 10), .held [40, 42, 119, 105, 116, 116, 105, 110, 103, 47, 110, 97, 116, 117, 114, 97, 108, 46, 99, 104, 101, 99, 107, 101, 114, 41, 46, 110, 111, 116, 73, 110]], .agg [.lit (.int .i64 11), .held [40, 42, 119, 105, 116, 116, 105, 110, 103, 47, 110, 97, 116, 117, 114, 97, 108, 46, 99, 104, 101, 99, 107, 101, 114, 41, 46, 110, 111, 116, 79, 117, 116]], .agg [.lit (.int .i64 12), .held [40, 42, 119, 105, 116, 116, 105, 110, 103, 47, 110, 97, 116, 117, 114, 97, 108, 46, 99, 104, 101, 99, 107, 101, 114, 41, 46, 97, 98, 115, 117, 114, 100]], .agg [.lit (.int .i64 13), .held [40, 42, 119, 105, 116, 116, 105, 110, 103, 47, 110, 97, 116, 117, 114, 97, 108, 46, 99, 104, 101, 99, 107, 101, 114, 41, 46, 102, 114, 111, 109, 70, 97, 108, 115, 101]], .agg [.lit (.int .i64 14), .held [40, 42, 119, 105, 116, 116, 105, 110, 103, 47, 110, 97, 116, 117, 114, 97, 108, 46, 99, 104, 101, 99, 107, 101, 114, 41, 46, 105, 115, 84, 114, 117, 101]], .agg [.lit (.int .i64 15), .held [40, 42, 119, 105, 116, 116, 105, 110, 103, 47, 110, 97, 116, 117, 114, 97, 108, 46, 99, 104, 101, 99, 107, 101, 114, 41, 46, 105, 102, 102]], .agg [.lit (.int .i64 16), .held [40, 42, 119, 105, 116, 116, 105, 110, 103, 47, 110, 97, 116, 117, 114, 97, 108, 46, 99, 104, 101, 99, 107, 101, 114, 41, 46, 107, 110, 111, 119, 73, 110]], .agg [.lit (.int .i64 17), .held [40, 42, 119, 105, 116, 116, 105, 110, 103, 47, 110, 97, 116, 117, 114, 97, 108, 46, 99, 104, 101, 99, 107, 101, 114, 41, 46, 105, 109, 112, 111, 114, 116, 101, 100]], .agg [.lit (.int .i64 18), .held [40, 42, 119, 105, 116, 116, 105, 110, 103, 47, 110, 97, 116, 117, 114, 97, 108, 46, 99, 104, 101, 99, 107, 101, 114, 41, 46, 107, 110, 111, 119, 84]], .agg [.lit (.int .i64 19), .held [40, 42, 119, 105, 116, 116, 105, 110, 103, 47, 110, 97, 116, 117, 114, 97, 108, 46, 99, 104, 101, 99, 107, 101, 114, 41, 46, 100, 117, 97, 108]], .agg [.lit (.int .i64 20), .held [40, 42, 119, 105, 116, 116, 105, 110, 103, 47, 110, 97, 116, 117, 114, 97, 108, 46, 99, 104, 101, 99, 107, 101, 114, 41, 46, 115, 101, 114, 105, 97, 108]]], p) := hd
  obtain ⟨xs, m, rfl, hx, hlen, hxl, hi⟩ := DataW.trod_array Tryd.underlying75 hd'
  simp only [Prod.mk.injEq, DataW.agg.injEq] at hx
  obtain ⟨hx1, _⟩ := hx
  have key : ∀ (k : Nat) (d : DataW (List UInt8)), k < 18 → (xs.map (·.1))[k]? = some d → ∃ q, DataW.trod (funcToken Tryd.prog) Tryd.prog W 0 (fun _ => true) true m 74 ((cs.toList.drop (k * 2)).take 2) = some (d, q) := fun k d hk hd => by
    rw [List.getElem?_map] at hd
    obtain ⟨x, hx, rfl⟩ := Option.map_eq_some_iff.1 hd
    have := hi k hk
    rw [c73] at this
    exact ⟨x.2, by rw [this, hx]⟩
  rw [← hx1] at key
  have hcell := fun j => World.var?_cell hg hv j
  obtain ⟨q0, h0⟩ := key 0 _ (by decide) rfl
  obtain ⟨a0, b0⟩ := pair_get (row_of (f0 := 74) h0 (by kernel_rfl))
  obtain ⟨q1, h1⟩ := key 1 _ (by decide) rfl
  obtain ⟨a1, b1⟩ := pair_get (row_of (f0 := 75) h1 (by kernel_rfl))
  obtain ⟨q2, h2⟩ := key 2 _ (by decide) rfl
  obtain ⟨a2, b2⟩ := pair_get (row_of (f0 := 76) h2 (by kernel_rfl))
  obtain ⟨q3, h3⟩ := key 3 _ (by decide) rfl
  obtain ⟨a3, b3⟩ := pair_get (row_of (f0 := 77) h3 (by kernel_rfl))
  obtain ⟨q4, h4⟩ := key 4 _ (by decide) rfl
  obtain ⟨a4, b4⟩ := pair_get (row_of (f0 := 78) h4 (by kernel_rfl))
  obtain ⟨q5, h5⟩ := key 5 _ (by decide) rfl
  obtain ⟨a5, b5⟩ := pair_get (row_of (f0 := 79) h5 (by kernel_rfl))
  obtain ⟨q6, h6⟩ := key 6 _ (by decide) rfl
  obtain ⟨a6, b6⟩ := pair_get (row_of (f0 := 80) h6 (by kernel_rfl))
  obtain ⟨q7, h7⟩ := key 7 _ (by decide) rfl
  obtain ⟨a7, b7⟩ := pair_get (row_of (f0 := 81) h7 (by kernel_rfl))
  obtain ⟨q8, h8⟩ := key 8 _ (by decide) rfl
  obtain ⟨a8, b8⟩ := pair_get (row_of (f0 := 82) h8 (by kernel_rfl))
  obtain ⟨q9, h9⟩ := key 9 _ (by decide) rfl
  obtain ⟨a9, b9⟩ := pair_get (row_of (f0 := 83) h9 (by kernel_rfl))
  obtain ⟨q10, h10⟩ := key 10 _ (by decide) rfl
  obtain ⟨a10, b10⟩ := pair_get (row_of (f0 := 84) h10 (by kernel_rfl))
  obtain ⟨q11, h11⟩ := key 11 _ (by decide) rfl
  obtain ⟨a11, b11⟩ := pair_get (row_of (f0 := 85) h11 (by kernel_rfl))
  obtain ⟨q12, h12⟩ := key 12 _ (by decide) rfl
  obtain ⟨a12, b12⟩ := pair_get (row_of (f0 := 86) h12 (by kernel_rfl))
  obtain ⟨q13, h13⟩ := key 13 _ (by decide) rfl
  obtain ⟨a13, b13⟩ := pair_get (row_of (f0 := 87) h13 (by kernel_rfl))
  obtain ⟨q14, h14⟩ := key 14 _ (by decide) rfl
  obtain ⟨a14, b14⟩ := pair_get (row_of (f0 := 88) h14 (by kernel_rfl))
  obtain ⟨q15, h15⟩ := key 15 _ (by decide) rfl
  obtain ⟨a15, b15⟩ := pair_get (row_of (f0 := 89) h15 (by kernel_rfl))
  obtain ⟨q16, h16⟩ := key 16 _ (by decide) rfl
  obtain ⟨a16, b16⟩ := pair_get (row_of (f0 := 90) h16 (by kernel_rfl))
  obtain ⟨q17, h17⟩ := key 17 _ (by decide) rfl
  obtain ⟨a17, b17⟩ := pair_get (row_of (f0 := 91) h17 (by kernel_rfl))
  refine ⟨fun j v hj => ?_, ?_⟩
  · rw [Nat.zero_add, hcell j, ← Array.getElem?_toList]
    match j, hj with
    | 0, hj => rw [← hj]; exact a0
    | 1, hj => rw [← hj]; exact b0
    | 2, hj => rw [← hj]; exact a1
    | 3, hj => rw [← hj]; exact b1
    | 4, hj => rw [← hj]; exact a2
    | 5, hj => rw [← hj]; exact b2
    | 6, hj => rw [← hj]; exact a3
    | 7, hj => rw [← hj]; exact b3
    | 8, hj => rw [← hj]; exact a4
    | 9, hj => rw [← hj]; exact b4
    | 10, hj => rw [← hj]; exact a5
    | 11, hj => rw [← hj]; exact b5
    | 12, hj => rw [← hj]; exact a6
    | 13, hj => rw [← hj]; exact b6
    | 14, hj => rw [← hj]; exact a7
    | 15, hj => rw [← hj]; exact b7
    | 16, hj => rw [← hj]; exact a8
    | 17, hj => rw [← hj]; exact b8
    | 18, hj => rw [← hj]; exact a9
    | 19, hj => rw [← hj]; exact b9
    | 20, hj => rw [← hj]; exact a10
    | 21, hj => rw [← hj]; exact b10
    | 22, hj => rw [← hj]; exact a11
    | 23, hj => rw [← hj]; exact b11
    | 24, hj => rw [← hj]; exact a12
    | 25, hj => rw [← hj]; exact b12
    | 26, hj => rw [← hj]; exact a13
    | 27, hj => rw [← hj]; exact b13
    | 28, hj => rw [← hj]; exact a14
    | 29, hj => rw [← hj]; exact b14
    | 30, hj => rw [← hj]; exact a15
    | 31, hj => rw [← hj]; exact b15
    | 32, hj => rw [← hj]; exact a16
    | 33, hj => rw [← hj]; exact b16
    | 34, hj => rw [← hj]; exact a17
    | 35, hj => rw [← hj]; exact b17
    | j + 36, hj => simp [tabCells] at hj
  · have h0 := hcell 0
    rw [← Array.getElem?_toList, a0] at h0
    exact World.block_lt_of_cell? W _ h0
end Go.Proofs.YtohoddkcpfamlaaDoor
