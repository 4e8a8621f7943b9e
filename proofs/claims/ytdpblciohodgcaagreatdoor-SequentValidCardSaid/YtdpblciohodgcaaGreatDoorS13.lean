/- The table of math/bits, read from what the row lays. -/
import Derived.Test.YtdpblciohodgcaaGreatDoorS10
import Derived.Test.YtdpblciohodgcaaGreatDoorS12
import Derived.Test.YtdpblciohodgcaaGreatDoorCards
import Derived.Test.YtdpblciohodgcaaGreatDoorTie
import Derived.MakeChecks
import Derived.Test.YtdpblciohodgcaaGreatDoorS07
import Derived.Test.YtdpblciohodgcaaGreatDoorS08
import Derived.Test.YtdpblciohodgcaaGreatDoorS01
import Derived.OrdersHeld
import Derived.Deep.RegionHeld

namespace Go.Proofs.YtdpblciohodgcaaGreatDoor
open Go.ChangeShapes Go.WideShapes Go.ChangeAt Go.RowKit Go.Joins

theorem gTabZ : Tryz.prog.globalNamed "math/bits.deBruijn64tab" = some 0 := by kernel_rfl
theorem tTabZ : (Tryz.prog.globals[0]?).map (·.type) = some 132 := by kernel_rfl
theorem c5Z : Tryz.prog.cellsOf 5 = 1 := by kernel_rfl
theorem tabz_of_laid {W : World} (h : laidMetH Tryz.prog [("math/bits.deBruijn64tab", Rows.laid_math_bits_deBruijn64tab)] W) : TabZ W := by
  rw [Go.MakeChecks.laidMetH_plain _ _ _ rfl] at h
  obtain ⟨_, ⟨g, t, cs, fuel, p, _, hg, ht, hv, hd, _, _⟩, _, _⟩ := h
  obtain rfl := Option.some.inj (gTabZ.symm.trans hg)
  obtain rfl := Option.some.inj (tTabZ.symm.trans ht)
  have hd' : DataW.trod (fun _ => ()) Tryz.prog W 0 (fun _ => true) false fuel 132 cs.toList = some (.agg (dbTab.map fun (z : Nat) => .lit (.int .u8 (z : Int))), p) := hd
  obtain ⟨xs, m, rfl, hx, hlen, hxl, hi⟩ := DataW.trod_array Tryz.underlying132 hd'
  simp only [Prod.mk.injEq, DataW.agg.injEq] at hx
  obtain ⟨hx1, _⟩ := hx
  have hcell := fun j => World.var?_cell hg hv j
  have key : ∀ k, k < 64 → W.cell? ⟨0, k, none⟩ = some (.int .u8 ((dbTab.getD k 0 : Nat) : Int)) := fun k hk => by
    have h1 := hi k hk
    rw [c5Z, Nat.mul_one] at h1
    have hxk : (xs.map (·.1))[k]? = some (.lit (.int .u8 ((dbTab.getD k 0 : Nat) : Int))) := by
      rw [← hx1, List.getElem?_map, List.getD_eq_getElem?_getD]
      have : k < dbTab.length := hk
      rw [List.getElem?_eq_getElem this]
      rfl
    rw [List.getElem?_map] at hxk
    obtain ⟨x, hx2, hx3⟩ := Option.map_eq_some_iff.1 hxk
    rw [hx2] at h1
    obtain ⟨z, hc, hy, _⟩ := DataW.trod_int Tryz.underlying5 h1
    rw [hy] at hx3
    simp only [DataW.lit.injEq, Lit.int.injEq, true_and] at hx3
    have h0 := congrArg (fun q => q[0]?) hc
    simp only [List.getElem?_take, List.getElem?_drop] at h0
    rw [hcell k, ← Array.getElem?_toList, ← hx3]
    simpa using h0
  exact ⟨key, World.block_lt_of_cell? W _ (key 0 (by decide))⟩
end Go.Proofs.YtdpblciohodgcaaGreatDoor

/- formula.Same. -/

namespace Go.Proofs.YtdpblciohodgcaaGreatDoor
open Go.RowKit

set_option maxRecDepth 100000 in
set_option maxHeartbeats 1000000 in
theorem same_any (v1 v2 : Value) (l1 l2 : List Nd) (w : World) (h1 : Fml w v1 l1) (h2 : Fml w v2 l2) :
    Calls Tryz.prog 21 #[v1, v2] w fun e w' => e = .returned (.bool (sameN l1 l2)) ∧ Ext w w' := by
  have H1 := Lib.hid h1
  have H2 := Lib.hid h2
  clear h1 h2
  by_cases hc1 : check l1 = 0
  · have HC1 := Lib.hid hc1
    clear hc1
    by_cases hc2 : check l2 = 0
    · have HC2 := Lib.hid hc2
      clear hc2
      go_enter Tryz.func21, Tryz.ntmps21
      go_wp2_with fail
      refine (check_any _ l1 _ H1.out.1).mono ?_
      rintro e w1 ⟨rfl, hb1⟩
      rw [HC1.out]
      go_wp2_with fail
      refine (check_any _ l2 _ (H2.out.1.ext hb1)).mono ?_
      rintro e w2 ⟨rfl, hb2⟩
      rw [HC2.out]
      have X2 := Lib.hid (hb1.trans hb2)
      clear hb1 hb2
      go_wp2_with fail
      refine (compactF_any _ l1 _ (H1.out.ext X2.out)).mono ?_
      rintro e w3 ⟨u1, rfl, hm1⟩
      have X3 := Lib.hid (X2.out.trans hm1.2.2)
      have M1 := Lib.hid hm1
      clear hm1
      go_wp2_with fail
      refine (compactF_any _ l2 _ (H2.out.ext X3.out)).mono ?_
      rintro e w4 ⟨u2, rfl, hm2⟩
      have X4 := Lib.hid (X3.out.trans hm2.2.2)
      have M2 := Lib.hid hm2
      clear hm2
      go_wp2_with fail
      refine (equalN_any _ _ _ _ _ ((M1.out.after M2.out.2.2).fml.1) M2.out.fml.1).mono ?_
      rintro e w5 ⟨rfl, hb5⟩
      go_wp2_with fail
      go_ret
      exact ⟨same_of (by simp [sameN, HC1.out, HC2.out]), X4.out.trans hb5⟩
    · have hb : (check l2 == 0) = false := by simpa using hc2
      have HR := Lib.hid (show sameN l1 l2 = false by simp [sameN, hb])
      clear hc2
      go_enter Tryz.func21, Tryz.ntmps21
      go_wp2_with fail
      refine (check_any _ l1 _ H1.out.1).mono ?_
      rintro e w1 ⟨rfl, hb1⟩
      rw [HC1.out]
      go_wp2_with fail
      refine (check_any _ l2 _ (H2.out.1.ext hb1)).mono ?_
      rintro e w2 ⟨rfl, hb2⟩
      go_wp2_with fail
      go_ret
      exact ⟨same_of (by rw [HR.out]), hb1.trans hb2⟩
  · have hb : (check l1 == 0) = false := by simpa using hc1
    have HR := Lib.hid (show sameN l1 l2 = false by simp [sameN, hb])
    clear hc1
    go_enter Tryz.func21, Tryz.ntmps21
    go_wp2_with fail
    refine (check_any _ l1 _ H1.out.1).mono ?_
    rintro e w1 ⟨rfl, hb1⟩
    go_wp2_with fail
    go_ret
    exact ⟨same_of (by rw [HR.out]), hb1⟩
end Go.Proofs.YtdpblciohodgcaaGreatDoor

/- The maps of negation normal forms, and the state of the walk. -/

namespace Go.Proofs.YtdpblciohodgcaaGreatDoor
open Go.RowKit
open Go.Maps (Keyed IsMap Tidy has has_put_same has_put_other atKey_put_same atKey_put_other)

abbrev DV := DataW Value
/-- An element of a map as it stands. -/
def heldElem (v : Value) : Option (DV × List MemPlace) := some (.held v, [])
theorem heldElem_inv {v : Value} {d : DV} {ps : List MemPlace} (h : heldElem v = some (d, ps)) : d = .held v := by
  unfold heldElem at h
  injection h with h
  injection h with h _
  exact h.symm
def FormIs (D : DV) (w : World) (c : List Nd) (no : Bool) : Prop := ∀ i : Nat, has D (.int .i64 i) = true → i < c.length ∧ ∃ v, (∀ z, D.atKey (.int .i64 i) z = .held v) ∧ Fml w v (nnfN c no i)
def formCount (D : DV) (c : List Nd) : Nat := (List.range c.length).countP fun i : Nat => has D (.int .i64 i)
/-- The forms so far: each entry is its node's form. -/
def FormMap (w : World) (b : Nat) (c : List Nd) (no : Bool) : Prop :=
  ∃ (D : DV) (m : Nat), w.ownsMap Tryz.prog 3 heldElem b m D ∧ m ≤ formCount D c ∧ FormIs D w c no
theorem formCount_le (D : DV) (c : List Nd) : formCount D c ≤ c.length := by
  have := List.countP_le_length (p := fun i : Nat => has D (.int .i64 i)) (l := List.range c.length)
  simpa [formCount] using this
theorem FormMap.made (w : World) (c : List Nd) (no : Bool) : FormMap (w.alloc (.map #[] 0)) w.heap.size c no :=
  ⟨.map [], 0, World.ownsMap_made w _ _ _, Nat.zero_le _, fun i h => by simp [has] at h⟩
theorem ownsMapV_of_block {w w' : World} {P : Program} {k : TypeId} {R : Value → Option (DV × List MemPlace)} {b n : Nat} {D : DV} (h : w.ownsMap P k R b n D) (hb : w'.heap[b]? = w.heap[b]?) : w'.ownsMap P k R b n D := by
  obtain ⟨es, clock, h1, h2⟩ := h
  exact ⟨es, clock, hb.trans h1, h2⟩
theorem ownsMapV_tight {w : World} {k : TypeId} {R : Value → Option (DV × List MemPlace)} {b n : Nat} {D : DV} (h : w.ownsMap Tryz.prog k R b n D) : w.ownsMap Tryz.prog k R b (Go.Maps.size D) D := by
  obtain ⟨es, clock, hb, F, hs, rfl⟩ := h
  exact ⟨es, clock, hb, F, by simp [Go.Maps.size, length_sorted], rfl⟩
theorem FormMap.map {w : World} {b : Nat} {c : List Nd} {no : Bool} (h : FormMap w b c no) : ∃ es clock, w.heap[b]? = some (.map es clock) := by
  obtain ⟨D, m, ⟨es, clock, h1, _⟩, _⟩ := h
  exact ⟨es, clock, h1⟩
theorem FormMap.lt {w : World} {b : Nat} {c : List Nd} {no : Bool} (h : FormMap w b c no) : b < w.heap.size := by
  obtain ⟨es, clock, h⟩ := h.map
  exact lt_heap h
/-- What a call may have changed: the two maps. -/
structure NStep (m0 m1 : Nat) (w w' : World) : Prop where
  os : w'.os = w.os
  tape : w'.tape = w.tape
  output : w'.output = w.output
  size : w.heap.size ≤ w'.heap.size
  block : ∀ k, k < w.heap.size → k ≠ m0 → k ≠ m1 → w'.heap[k]? = w.heap[k]?
section
variable {m0 m1 : Nat} {a b c' w w' W0 : World} {c : List Nd} {no : Bool} {v : Value} {l : List Nd}
theorem NStep.refl : NStep m0 m1 w w := ⟨rfl, rfl, rfl, Nat.le_refl _, fun _ _ _ _ => rfl⟩
theorem NStep.trans (h : NStep m0 m1 a b) (k : NStep m0 m1 b c') : NStep m0 m1 a c' :=
  ⟨k.os.trans h.os, k.tape.trans h.tape, k.output.trans h.output, Nat.le_trans h.size k.size, fun i hi h1 h2 => (k.block i (Nat.lt_of_lt_of_le hi h.size) h1 h2).trans (h.block i hi h1 h2)⟩
theorem NStep.of_ext (h : Ext a b) : NStep m0 m1 a b := ⟨h.os, h.tape, h.output, h.size, fun _ hk _ _ => h.block hk⟩
/-- What reads as nodes reads so still: no map's block holds nodes. -/
theorem Fml.nstep (h : Fml w v l) (h0 : ∃ es k, w.heap[m0]? = some (.map es k)) (h1 : ∃ es k, w.heap[m1]? = some (.map es k)) (hs : NStep m0 m1 w w') : Fml w' v l := by
  obtain ⟨⟨A, cp, rfl, p1, p2, p3⟩, hok⟩ := h
  refine ⟨⟨A, cp, rfl, p1, p2, fun hn => ?_⟩, hok⟩
  obtain ⟨ad, rfl, hlt, hc⟩ := p3 hn
  have hne : ∀ m, (∃ es k, w.heap[m]? = some (.map es k)) → ad.block ≠ m := fun m ⟨es, k, hm⟩ e => by
    obtain ⟨n, hn'⟩ : ∃ n, l[0]? = some n := by
      cases l with
      | nil => exact absurd rfl hn
      | cons a t => exact ⟨a, rfl⟩
    have c0 := (hc 0 n hn').1
    simp [World.cell?, block_of_add, e, hm] at c0
  have hb := hs.block ad.block hlt (hne m0 h0) (hne m1 h1)
  exact ⟨ad, rfl, Nat.lt_of_lt_of_le hlt hs.size, fun k n hk => (hc k n hk).keep fun p hp => World.cell?_of_block (by rw [hp, block_of_add]; exact hb)⟩
theorem FormMap.nstep {m : Nat} (h : FormMap w m c no) (h0 : ∃ es k, w.heap[m0]? = some (.map es k)) (h1 : ∃ es k, w.heap[m1]? = some (.map es k)) (hs : NStep m0 m1 w w') (hb : w'.heap[m]? = w.heap[m]?) : FormMap w' m c no := by
  obtain ⟨D, k, a, b, d⟩ := h
  refine ⟨D, k, ownsMapV_of_block a hb, b, fun i hi => ?_⟩
  obtain ⟨x, v, y, z⟩ := d i hi
  exact ⟨x, v, y, z.nstep h0 h1 hs⟩
/-- A node's form is stored. -/
theorem FormMap.put {m k i : Nat} {D : DV} (h : w.ownsMap Tryz.prog 3 heldElem m k D) (hm : k ≤ formCount D c) (hD : FormIs D w' c no) (hi : i < c.length) (hv : Fml w' v (nnfN c no i))
    (h' : w'.ownsMap Tryz.prog 3 heldElem m (k + 1) (D.put (.int .i64 i) (.held v))) : FormMap w' m c no := by
  have hkey : WideAt.IsKeyLit (.int .i64 (i : Int)) := trivial
  have other : ∀ j : Nat, j ≠ i → (Lit.int .i64 (j : Int)) ≠ .int .i64 (i : Int) := fun j e e' => e (by injection e' with _ e'; omega)
  have htidy := h.tidy intKeyed
  have hsz := h.size_le
  have mono : ∀ j : Nat, has D (.int .i64 j) = true → has (D.put (.int .i64 i) (.held v)) (.int .i64 j) = true := by
    intro j hj
    by_cases e : j = i
    · subst e; exact has_put_same h.isMap hkey _
    · rw [has_put_other (other j e)]; exact hj
  refine ⟨_, _, ownsMapV_tight h', ?_, fun j hj => ?_⟩
  · rw [Go.Maps.size_put htidy]
    split
    · exact Nat.le_trans (Nat.le_trans hsz hm) (List.countP_mono_left fun j _ => mono j)
    · rename_i hno
      refine Nat.succ_le_of_lt (Nat.lt_of_le_of_lt (Nat.le_trans hsz hm) ?_)
      exact countP_lt (fun j _ => mono j) ⟨i, List.mem_range.2 hi, by simpa using hno, has_put_same h.isMap hkey _⟩
  · by_cases e : j = i
    · subst e
      exact ⟨hi, v, fun z => atKey_put_same h.isMap hkey _ z, hv⟩
    · rw [has_put_other (other j e)] at hj
      obtain ⟨a, x, d, f⟩ := hD j hj
      exact ⟨a, x, fun z => by rw [atKey_put_other (other j e)]; exact d z, f⟩
end
/-- The state of Nnf: the list, the two maps. -/
structure NEnv (W0 w : World) (bn m0 m1 : Nat) (A : Option Addr) (cp : Nat) (c : List Nd) : Prop where
  ext : Ext W0 w
  nds : Fml W0 (.slice A c.length cp) c
  blk : w.heap[bn]? = some (.cells #[.slice A c.length cp, .map (some m0), .map (some m1)] 119 (0, 0))
  f0 : FormMap w m0 c false
  f1 : FormMap w m1 c true
  low : W0.heap.size ≤ m0 ∧ W0.heap.size ≤ m1
  ne : m0 ≠ m1
section
variable {W0 w w' : World} {bn m0 m1 cp : Nat} {A : Option Addr} {c : List Nd} {v : Value} {l : List Nd}
theorem NEnv.bne (h : NEnv W0 w bn m0 m1 A cp c) : bn ≠ m0 ∧ bn ≠ m1 := by
  obtain ⟨es, k, h0⟩ := h.f0.map
  obtain ⟨es', k', h1⟩ := h.f1.map
  refine ⟨fun e => ?_, fun e => ?_⟩
  · rw [← e, h.blk] at h0; cases h0
  · rw [← e, h.blk] at h1; cases h1
theorem NEnv.keep (h : NEnv W0 w bn m0 m1 A cp c) (he : Ext w w') : NEnv W0 w' bn m0 m1 A cp c :=
  ⟨h.ext.trans he, h.nds, (he.block (lt_heap h.blk)).trans h.blk, h.f0.nstep h.f0.map h.f1.map (.of_ext he) (he.block h.f0.lt), h.f1.nstep h.f0.map h.f1.map (.of_ext he) (he.block h.f1.lt), h.low, h.ne⟩
theorem NEnv.fml (h : NEnv W0 w bn m0 m1 A cp c) (hf : Fml w v l) (hs : NStep m0 m1 w w') : Fml w' v l := hf.nstep h.f0.map h.f1.map hs
theorem NStep.ext0 (hs : NStep m0 m1 w w') (h : Ext W0 w) (l0 : W0.heap.size ≤ m0) (l1 : W0.heap.size ≤ m1) : Ext W0 w' := by
  exact Below.trans h ⟨hs.os, hs.tape, hs.output, hs.size, fun k hk => hs.block k (Nat.lt_of_lt_of_le hk h.size) (by omega) (by omega)⟩
end
end Go.Proofs.YtdpblciohodgcaaGreatDoor

/- The constructor Poss. -/

namespace Go.Proofs.YtdpblciohodgcaaGreatDoor
open Go.RowKit

set_option maxHeartbeats 400000 in
theorem poss_any (a : Int) (ha : i64ok a) (v1 : Value) (f : List Nd) (w : World) (h1 : Fml w v1 f) :
    Calls Tryz.prog 111 #[.int .i64 a, v1] w fun e w' => ∃ u, e = .returned u ∧ Made w w' u (possN a f) := by
  have H1 := Lib.hid h1
  obtain ⟨A1, c1, rfl, _⟩ := fml_slice h1
  clear h1
  go_enter Tryz.func111, Tryz.ntmps111
  go_wp2_with fail
  refine (build_any ⟨10, a, 0, 0, 0, 0⟩ _ [f] _ (small_ok (i64_small (by omega) (by omega)) ha (i64_small (by omega) (by omega)) (i64_small (by omega) (by omega)) (i64_small (by omega) (by omega)) (i64_small (by omega) (by omega))) (fmls_one H1.out) (by simp)).mono ?_
  rintro e w1 ⟨u, rfl, hm⟩
  have HM := Lib.hid hm
  clear hm
  go_wp2_with fail
  go_ret
  exact ⟨_, rfl, (HM.out.before ((Ext.refl _).alloc _))⟩
end Go.Proofs.YtdpblciohodgcaaGreatDoor

/- rewrite.binary and rewrite.build. -/

namespace Go.Proofs.YtdpblciohodgcaaGreatDoor
open Go.RowKit

set_option maxRecDepth 100000 in
set_option maxHeartbeats 2000000 in
theorem rbinary_any (op : Int) (h : 1 ≤ op ∧ op ≤ 10) (w : World) : Calls Tryz.prog 112 #[.int .i64 op] w fun e w' => e = .returned (.bool (hasY op)) ∧ Ext w w' := by
  rcases (show op = 1 ∨ op = 2 ∨ op = 3 ∨ op = 4 ∨ op = 5 ∨ op = 6 ∨ op = 7 ∨ op = 8 ∨ op = 9 ∨ op = 10 by omega) with rfl | rfl | rfl | rfl | rfl | rfl | rfl | rfl | rfl | rfl <;>
    (go_enter Tryz.func112, Tryz.ntmps112
     go_wp2_with fail
     go_ret
     exact ⟨rfl, Ext.refl _⟩)
set_option maxRecDepth 100000 in
set_option maxHeartbeats 2000000 in
theorem rb_true {x : Nd} (hx : x.op = 1) (v1 v2 : Value) (f g : List Nd) (w : World) (h1 : Fml w v1 f) (h2 : Fml w v2 g) :
    Calls Tryz.prog 113 #[x.val, v1, v2] w fun e w' => ∃ u, e = .returned u ∧ Ext w w' ∧ Fml w' u (trueN) := by
  obtain ⟨A1, c1, rfl, _⟩ := fml_slice h1
  obtain ⟨A2, c2, rfl, _⟩ := fml_slice h2
  obtain ⟨o, i, e, k, p, q⟩ := x
  simp only at hx
  subst hx
  have X0 := Lib.hid ((Ext.refl w).alloc (.cells #[.int .i64 1, .int .i64 i, .int .i64 e, .int .i64 k, .int .i64 p, .int .i64 q] 68))
  unfold Nd.val
  clear h1 h2
  go_enter Tryz.func113, Tryz.ntmps113
  go_wp2_with fail
  refine (true_any _).mono ?_
  rintro e w1 ⟨u, rfl, hm⟩
  have HM := Lib.hid hm
  clear hm
  go_wp2_with fail
  go_ret
  exact ⟨_, rfl, X0.out.trans HM.out.2.2, HM.out.fml⟩
set_option maxRecDepth 100000 in
set_option maxHeartbeats 2000000 in
theorem rb_false {x : Nd} (hx : x.op = 2) (v1 v2 : Value) (f g : List Nd) (w : World) (h1 : Fml w v1 f) (h2 : Fml w v2 g) :
    Calls Tryz.prog 113 #[x.val, v1, v2] w fun e w' => ∃ u, e = .returned u ∧ Ext w w' ∧ Fml w' u (falseN) := by
  obtain ⟨A1, c1, rfl, _⟩ := fml_slice h1
  obtain ⟨A2, c2, rfl, _⟩ := fml_slice h2
  obtain ⟨o, i, e, k, p, q⟩ := x
  simp only at hx
  subst hx
  have X0 := Lib.hid ((Ext.refl w).alloc (.cells #[.int .i64 2, .int .i64 i, .int .i64 e, .int .i64 k, .int .i64 p, .int .i64 q] 68))
  unfold Nd.val
  clear h1 h2
  go_enter Tryz.func113, Tryz.ntmps113
  go_wp2_with fail
  refine (false_any _).mono ?_
  rintro e w1 ⟨u, rfl, hm⟩
  have HM := Lib.hid hm
  clear hm
  go_wp2_with fail
  go_ret
  exact ⟨_, rfl, X0.out.trans HM.out.2.2, HM.out.fml⟩
set_option maxRecDepth 100000 in
set_option maxHeartbeats 2000000 in
theorem rb_fact {x : Nd} (hx : x.op = 3) (hi : i64ok x.i) (v1 v2 : Value) (f g : List Nd) (w : World) (h1 : Fml w v1 f) (h2 : Fml w v2 g) :
    Calls Tryz.prog 113 #[x.val, v1, v2] w fun e w' => ∃ u, e = .returned u ∧ Ext w w' ∧ Fml w' u (factN x.i) := by
  obtain ⟨A1, c1, rfl, _⟩ := fml_slice h1
  obtain ⟨A2, c2, rfl, _⟩ := fml_slice h2
  obtain ⟨o, i, e, k, p, q⟩ := x
  simp only at hx
  subst hx
  have X0 := Lib.hid ((Ext.refl w).alloc (.cells #[.int .i64 3, .int .i64 i, .int .i64 e, .int .i64 k, .int .i64 p, .int .i64 q] 68))
  unfold Nd.val
  clear h1 h2
  go_enter Tryz.func113, Tryz.ntmps113
  go_wp2_with fail
  refine (fact_any i hi _).mono ?_
  rintro e w1 ⟨u, rfl, hm⟩
  have HM := Lib.hid hm
  clear hm
  go_wp2_with fail
  go_ret
  exact ⟨_, rfl, X0.out.trans HM.out.2.2, HM.out.fml⟩
set_option maxRecDepth 100000 in
set_option maxHeartbeats 2000000 in
theorem rb_and {x : Nd} (hx : x.op = 5) (v1 v2 : Value) (f g : List Nd) (w : World) (h1 : Fml w v1 f) (h2 : Fml w v2 g) :
    Calls Tryz.prog 113 #[x.val, v1, v2] w fun e w' => ∃ u, e = .returned u ∧ Ext w w' ∧ Fml w' u (andN f g) := by
  obtain ⟨A1, c1, rfl, _⟩ := fml_slice h1
  obtain ⟨A2, c2, rfl, _⟩ := fml_slice h2
  have H1 := Lib.hid h1
  have H2 := Lib.hid h2
  obtain ⟨o, i, e, k, p, q⟩ := x
  simp only at hx
  subst hx
  have X0 := Lib.hid ((Ext.refl w).alloc (.cells #[.int .i64 5, .int .i64 i, .int .i64 e, .int .i64 k, .int .i64 p, .int .i64 q] 68))
  unfold Nd.val
  clear h1 h2
  go_enter Tryz.func113, Tryz.ntmps113
  go_wp2_with fail
  refine (and_any _ _ f g _ (H1.out.ext X0.out) (H2.out.ext X0.out)).mono ?_
  rintro e w1 ⟨u, rfl, hm⟩
  have HM := Lib.hid hm
  clear hm
  go_wp2_with fail
  go_ret
  exact ⟨_, rfl, X0.out.trans HM.out.2.2, HM.out.fml⟩
set_option maxRecDepth 100000 in
set_option maxHeartbeats 2000000 in
theorem rb_or {x : Nd} (hx : x.op = 6) (v1 v2 : Value) (f g : List Nd) (w : World) (h1 : Fml w v1 f) (h2 : Fml w v2 g) :
    Calls Tryz.prog 113 #[x.val, v1, v2] w fun e w' => ∃ u, e = .returned u ∧ Ext w w' ∧ Fml w' u (orN f g) := by
  obtain ⟨A1, c1, rfl, _⟩ := fml_slice h1
  obtain ⟨A2, c2, rfl, _⟩ := fml_slice h2
  have H1 := Lib.hid h1
  have H2 := Lib.hid h2
  obtain ⟨o, i, e, k, p, q⟩ := x
  simp only at hx
  subst hx
  have X0 := Lib.hid ((Ext.refl w).alloc (.cells #[.int .i64 6, .int .i64 i, .int .i64 e, .int .i64 k, .int .i64 p, .int .i64 q] 68))
  unfold Nd.val
  clear h1 h2
  go_enter Tryz.func113, Tryz.ntmps113
  go_wp2_with fail
  refine (or_any _ _ f g _ (H1.out.ext X0.out) (H2.out.ext X0.out)).mono ?_
  rintro e w1 ⟨u, rfl, hm⟩
  have HM := Lib.hid hm
  clear hm
  go_wp2_with fail
  go_ret
  exact ⟨_, rfl, X0.out.trans HM.out.2.2, HM.out.fml⟩
set_option maxRecDepth 100000 in
set_option maxHeartbeats 2000000 in
theorem rb_know {x : Nd} (hx : x.op = 9) (hi : i64ok x.i) (v1 v2 : Value) (f g : List Nd) (w : World) (h1 : Fml w v1 f) (h2 : Fml w v2 g) :
    Calls Tryz.prog 113 #[x.val, v1, v2] w fun e w' => ∃ u, e = .returned u ∧ Ext w w' ∧ Fml w' u (knowN x.i f) := by
  obtain ⟨A1, c1, rfl, _⟩ := fml_slice h1
  obtain ⟨A2, c2, rfl, _⟩ := fml_slice h2
  have H1 := Lib.hid h1
  obtain ⟨o, i, e, k, p, q⟩ := x
  simp only at hx
  subst hx
  have X0 := Lib.hid ((Ext.refl w).alloc (.cells #[.int .i64 9, .int .i64 i, .int .i64 e, .int .i64 k, .int .i64 p, .int .i64 q] 68))
  unfold Nd.val
  clear h1 h2
  go_enter Tryz.func113, Tryz.ntmps113
  go_wp2_with fail
  refine (know_any i hi _ f _ (H1.out.ext X0.out)).mono ?_
  rintro e w1 ⟨u, rfl, hm⟩
  have HM := Lib.hid hm
  clear hm
  go_wp2_with fail
  go_ret
  exact ⟨_, rfl, X0.out.trans HM.out.2.2, HM.out.fml⟩
set_option maxRecDepth 100000 in
set_option maxHeartbeats 2000000 in
theorem rb_poss {x : Nd} (hx : x.op = 10) (hi : i64ok x.i) (v1 v2 : Value) (f g : List Nd) (w : World) (h1 : Fml w v1 f) (h2 : Fml w v2 g) :
    Calls Tryz.prog 113 #[x.val, v1, v2] w fun e w' => ∃ u, e = .returned u ∧ Ext w w' ∧ Fml w' u (possN x.i f) := by
  obtain ⟨A1, c1, rfl, _⟩ := fml_slice h1
  obtain ⟨A2, c2, rfl, _⟩ := fml_slice h2
  have H1 := Lib.hid h1
  obtain ⟨o, i, e, k, p, q⟩ := x
  simp only at hx
  subst hx
  have X0 := Lib.hid ((Ext.refl w).alloc (.cells #[.int .i64 10, .int .i64 i, .int .i64 e, .int .i64 k, .int .i64 p, .int .i64 q] 68))
  unfold Nd.val
  clear h1 h2
  go_enter Tryz.func113, Tryz.ntmps113
  go_wp2_with fail
  refine (poss_any i hi _ f _ (H1.out.ext X0.out)).mono ?_
  rintro e w1 ⟨u, rfl, hm⟩
  have HM := Lib.hid hm
  clear hm
  go_wp2_with fail
  go_ret
  exact ⟨_, rfl, X0.out.trans HM.out.2.2, HM.out.fml⟩
end Go.Proofs.YtdpblciohodgcaaGreatDoor

/- rewrite.binary and rewrite.build; the normal form of a node that is no implication and no equivalence. -/

namespace Go.Proofs.YtdpblciohodgcaaGreatDoor
open Go.RowKit

/-- What a call of 'of' comes to. -/
def OfSaid (W0 : World) (bn m0 m1 : Nat) (A : Option Addr) (cp : Nat) (c : List Nd) (z : Int) : Prop :=
  ∀ (no : Bool) (w : World), NEnv W0 w bn m0 m1 A cp c → Calls Tryz.prog 90 #[.pointer (some ⟨bn, 0, none⟩), .int .i64 z, .bool no] w fun e w' => ∃ u, e = .returned u ∧ NEnv W0 w' bn m0 m1 A cp c ∧ NStep m0 m1 w w' ∧ Fml w' u (nnfN c no z.toNat)
/-- A box of the call's own stays. -/
theorem NStep.box {m0 m1 : Nat} {w w' : World} {k : Nat} {o : Obj} (h : NStep m0 m1 w w') (hb : w.heap[k]? = some o) (h0 : k ≠ m0) (h1 : k ≠ m1) : w'.heap[k]? = some o := (h.block k (lt_heap hb) h0 h1).trans hb
theorem nfml_nil (w : World) : Fml w (.slice none 0 0) [] := (Made.none_ w).fml
set_option maxRecDepth 100000 in
set_option maxHeartbeats 4000000 in
theorem pos_4 {W0 w : World} {bn m0 m1 cp : Nat} {A : Option Addr} {c : List Nd} {n : Nd} (hop : n.op = 4) (hx : OfSaid W0 bn m0 m1 A cp c n.x) (henv : NEnv W0 w bn m0 m1 A cp c) :
    Calls Tryz.prog 103 #[.pointer (some ⟨bn, 0, none⟩), n.val] w fun e w' => ∃ u, e = .returned u ∧ NEnv W0 w' bn m0 m1 A cp c ∧ NStep m0 m1 w w' ∧ Fml w' u (posS n (fun b j => nnfN c b j.toNat)) := by
  obtain ⟨o, i, e, k, x, y⟩ := n
  simp only at hop
  subst hop
  have X0 := Lib.hid ((Ext.refl w).alloc (.cells #[.int .i64 4, .int .i64 i, .int .i64 e, .int .i64 k, .int .i64 x, .int .i64 y] 68))
  have E0 := Lib.hid (henv.keep X0.out)
  have S0 := Lib.hid (NStep.of_ext (m0 := m0) (m1 := m1) X0.out)
  have hbx : (w.alloc (.cells #[.int .i64 4, .int .i64 i, .int .i64 e, .int .i64 k, .int .i64 x, .int .i64 y] 68)).heap[w.heap.size]? = some (.cells #[.int .i64 4, .int .i64 i, .int .i64 e, .int .i64 k, .int .i64 x, .int .i64 y] 68 (0, 0)) := heap_alloc_new _ _
  have B0 := Lib.hid hbx
  have hm0 := henv.f0.lt
  have hm1 := henv.f1.lt
  have hn0 : w.heap.size ≠ m0 := by omega
  have hn1 : w.heap.size ≠ m1 := by omega
  unfold Nd.val
  have HX := Lib.hid hx
  clear hx
  clear hm0 hm1 hbx henv
  go_enter Tryz.func103, Tryz.ntmps103
  go_wp2_with fail
  refine (HX.out true _ E0.out).mono ?_
  rintro e w1 ⟨u1, rfl, he, hs, hu⟩
  have E1 := Lib.hid he
  have S1 := Lib.hid (S0.out.trans hs)
  have B1 := Lib.hid (hs.box B0.out hn0 hn1)
  have T1 := Lib.hid hs
  have Fu1 := Lib.hid hu
  obtain ⟨Au1, cu1, rfl, _⟩ := fml_slice hu
  clear he hs hu
  go_wp2_with fail
  go_ret
  exact ⟨_, rfl, E1.out, S1.out, Fu1.out⟩
set_option maxRecDepth 100000 in
set_option maxHeartbeats 4000000 in
theorem pos_1 {W0 w : World} {bn m0 m1 cp : Nat} {A : Option Addr} {c : List Nd} {n : Nd} (hop : n.op = 1) (henv : NEnv W0 w bn m0 m1 A cp c) :
    Calls Tryz.prog 103 #[.pointer (some ⟨bn, 0, none⟩), n.val] w fun e w' => ∃ u, e = .returned u ∧ NEnv W0 w' bn m0 m1 A cp c ∧ NStep m0 m1 w w' ∧ Fml w' u (posS n (fun b j => nnfN c b j.toNat)) := by
  obtain ⟨o, i, e, k, x, y⟩ := n
  simp only at hop
  subst hop
  have X0 := Lib.hid ((Ext.refl w).alloc (.cells #[.int .i64 1, .int .i64 i, .int .i64 e, .int .i64 k, .int .i64 x, .int .i64 y] 68))
  have E0 := Lib.hid (henv.keep X0.out)
  have S0 := Lib.hid (NStep.of_ext (m0 := m0) (m1 := m1) X0.out)
  have hbx : (w.alloc (.cells #[.int .i64 1, .int .i64 i, .int .i64 e, .int .i64 k, .int .i64 x, .int .i64 y] 68)).heap[w.heap.size]? = some (.cells #[.int .i64 1, .int .i64 i, .int .i64 e, .int .i64 k, .int .i64 x, .int .i64 y] 68 (0, 0)) := heap_alloc_new _ _
  have B0 := Lib.hid hbx
  have hm0 := henv.f0.lt
  have hm1 := henv.f1.lt
  have hn0 : w.heap.size ≠ m0 := by omega
  have hn1 : w.heap.size ≠ m1 := by omega
  unfold Nd.val
  clear hm0 hm1 hbx henv
  go_enter Tryz.func103, Tryz.ntmps103
  go_wp2_with fail
  refine (rbinary_any 1 (by omega) _).mono ?_
  rintro e w1 ⟨rfl, hx⟩
  have E1 := Lib.hid (E0.out.keep hx)
  have S1 := Lib.hid (S0.out.trans (.of_ext hx))
  have B1 := Lib.hid ((hx.block (lt_heap B0.out)).trans B0.out)
  clear hx
  rw [show hasY 1 = false from rfl]
  obtain ⟨⟨z0, z1, z2, z3, z4, z5⟩, _, zlt⟩ := cells6 B1.out
  go_wp2_with fail
  refine (rb_true (x := ⟨1, i, e, k, x, y⟩) rfl (.slice none 0 0) (.slice none 0 0) [] [] _ (nfml_nil _) (nfml_nil _)).mono ?_
  rintro e w2 ⟨u3, rfl, hx, hu⟩
  have E2 := Lib.hid (E1.out.keep hx)
  have S2 := Lib.hid (S1.out.trans (.of_ext hx))
  have B2 := Lib.hid ((hx.block (lt_heap B1.out)).trans B1.out)
  have F3 := Lib.hid hu
  obtain ⟨A3, c3, rfl, _⟩ := fml_slice hu
  clear hx hu z0 z1 z2 z3 z4 z5 zlt
  go_wp2_with fail
  go_ret
  exact ⟨_, rfl, E2.out, S2.out, F3.out⟩
set_option maxRecDepth 100000 in
set_option maxHeartbeats 4000000 in
theorem pos_2 {W0 w : World} {bn m0 m1 cp : Nat} {A : Option Addr} {c : List Nd} {n : Nd} (hop : n.op = 2) (henv : NEnv W0 w bn m0 m1 A cp c) :
    Calls Tryz.prog 103 #[.pointer (some ⟨bn, 0, none⟩), n.val] w fun e w' => ∃ u, e = .returned u ∧ NEnv W0 w' bn m0 m1 A cp c ∧ NStep m0 m1 w w' ∧ Fml w' u (posS n (fun b j => nnfN c b j.toNat)) := by
  obtain ⟨o, i, e, k, x, y⟩ := n
  simp only at hop
  subst hop
  have X0 := Lib.hid ((Ext.refl w).alloc (.cells #[.int .i64 2, .int .i64 i, .int .i64 e, .int .i64 k, .int .i64 x, .int .i64 y] 68))
  have E0 := Lib.hid (henv.keep X0.out)
  have S0 := Lib.hid (NStep.of_ext (m0 := m0) (m1 := m1) X0.out)
  have hbx : (w.alloc (.cells #[.int .i64 2, .int .i64 i, .int .i64 e, .int .i64 k, .int .i64 x, .int .i64 y] 68)).heap[w.heap.size]? = some (.cells #[.int .i64 2, .int .i64 i, .int .i64 e, .int .i64 k, .int .i64 x, .int .i64 y] 68 (0, 0)) := heap_alloc_new _ _
  have B0 := Lib.hid hbx
  have hm0 := henv.f0.lt
  have hm1 := henv.f1.lt
  have hn0 : w.heap.size ≠ m0 := by omega
  have hn1 : w.heap.size ≠ m1 := by omega
  unfold Nd.val
  clear hm0 hm1 hbx henv
  go_enter Tryz.func103, Tryz.ntmps103
  go_wp2_with fail
  refine (rbinary_any 2 (by omega) _).mono ?_
  rintro e w1 ⟨rfl, hx⟩
  have E1 := Lib.hid (E0.out.keep hx)
  have S1 := Lib.hid (S0.out.trans (.of_ext hx))
  have B1 := Lib.hid ((hx.block (lt_heap B0.out)).trans B0.out)
  clear hx
  rw [show hasY 2 = false from rfl]
  obtain ⟨⟨z0, z1, z2, z3, z4, z5⟩, _, zlt⟩ := cells6 B1.out
  go_wp2_with fail
  refine (rb_false (x := ⟨2, i, e, k, x, y⟩) rfl (.slice none 0 0) (.slice none 0 0) [] [] _ (nfml_nil _) (nfml_nil _)).mono ?_
  rintro e w2 ⟨u3, rfl, hx, hu⟩
  have E2 := Lib.hid (E1.out.keep hx)
  have S2 := Lib.hid (S1.out.trans (.of_ext hx))
  have B2 := Lib.hid ((hx.block (lt_heap B1.out)).trans B1.out)
  have F3 := Lib.hid hu
  obtain ⟨A3, c3, rfl, _⟩ := fml_slice hu
  clear hx hu z0 z1 z2 z3 z4 z5 zlt
  go_wp2_with fail
  go_ret
  exact ⟨_, rfl, E2.out, S2.out, F3.out⟩
set_option maxRecDepth 100000 in
set_option maxHeartbeats 4000000 in
theorem pos_3 {W0 w : World} {bn m0 m1 cp : Nat} {A : Option Addr} {c : List Nd} {n : Nd} (hop : n.op = 3) (hi : i64ok n.i) (henv : NEnv W0 w bn m0 m1 A cp c) :
    Calls Tryz.prog 103 #[.pointer (some ⟨bn, 0, none⟩), n.val] w fun e w' => ∃ u, e = .returned u ∧ NEnv W0 w' bn m0 m1 A cp c ∧ NStep m0 m1 w w' ∧ Fml w' u (posS n (fun b j => nnfN c b j.toNat)) := by
  obtain ⟨o, i, e, k, x, y⟩ := n
  simp only at hop
  subst hop
  have X0 := Lib.hid ((Ext.refl w).alloc (.cells #[.int .i64 3, .int .i64 i, .int .i64 e, .int .i64 k, .int .i64 x, .int .i64 y] 68))
  have E0 := Lib.hid (henv.keep X0.out)
  have S0 := Lib.hid (NStep.of_ext (m0 := m0) (m1 := m1) X0.out)
  have hbx : (w.alloc (.cells #[.int .i64 3, .int .i64 i, .int .i64 e, .int .i64 k, .int .i64 x, .int .i64 y] 68)).heap[w.heap.size]? = some (.cells #[.int .i64 3, .int .i64 i, .int .i64 e, .int .i64 k, .int .i64 x, .int .i64 y] 68 (0, 0)) := heap_alloc_new _ _
  have B0 := Lib.hid hbx
  have hm0 := henv.f0.lt
  have hm1 := henv.f1.lt
  have hn0 : w.heap.size ≠ m0 := by omega
  have hn1 : w.heap.size ≠ m1 := by omega
  unfold Nd.val
  clear hm0 hm1 hbx henv
  go_enter Tryz.func103, Tryz.ntmps103
  go_wp2_with fail
  refine (rbinary_any 3 (by omega) _).mono ?_
  rintro e w1 ⟨rfl, hx⟩
  have E1 := Lib.hid (E0.out.keep hx)
  have S1 := Lib.hid (S0.out.trans (.of_ext hx))
  have B1 := Lib.hid ((hx.block (lt_heap B0.out)).trans B0.out)
  clear hx
  rw [show hasY 3 = false from rfl]
  obtain ⟨⟨z0, z1, z2, z3, z4, z5⟩, _, zlt⟩ := cells6 B1.out
  go_wp2_with fail
  refine (rb_fact (x := ⟨3, i, e, k, x, y⟩) rfl hi (.slice none 0 0) (.slice none 0 0) [] [] _ (nfml_nil _) (nfml_nil _)).mono ?_
  rintro e w2 ⟨u3, rfl, hx, hu⟩
  have E2 := Lib.hid (E1.out.keep hx)
  have S2 := Lib.hid (S1.out.trans (.of_ext hx))
  have B2 := Lib.hid ((hx.block (lt_heap B1.out)).trans B1.out)
  have F3 := Lib.hid hu
  obtain ⟨A3, c3, rfl, _⟩ := fml_slice hu
  clear hx hu z0 z1 z2 z3 z4 z5 zlt
  go_wp2_with fail
  go_ret
  exact ⟨_, rfl, E2.out, S2.out, F3.out⟩
set_option maxRecDepth 100000 in
set_option maxHeartbeats 4000000 in
theorem pos_5 {W0 w : World} {bn m0 m1 cp : Nat} {A : Option Addr} {c : List Nd} {n : Nd} (hop : n.op = 5) (hx : OfSaid W0 bn m0 m1 A cp c n.x) (hy : OfSaid W0 bn m0 m1 A cp c n.y) (henv : NEnv W0 w bn m0 m1 A cp c) :
    Calls Tryz.prog 103 #[.pointer (some ⟨bn, 0, none⟩), n.val] w fun e w' => ∃ u, e = .returned u ∧ NEnv W0 w' bn m0 m1 A cp c ∧ NStep m0 m1 w w' ∧ Fml w' u (posS n (fun b j => nnfN c b j.toNat)) := by
  obtain ⟨o, i, e, k, x, y⟩ := n
  simp only at hop
  subst hop
  have X0 := Lib.hid ((Ext.refl w).alloc (.cells #[.int .i64 5, .int .i64 i, .int .i64 e, .int .i64 k, .int .i64 x, .int .i64 y] 68))
  have E0 := Lib.hid (henv.keep X0.out)
  have S0 := Lib.hid (NStep.of_ext (m0 := m0) (m1 := m1) X0.out)
  have hbx : (w.alloc (.cells #[.int .i64 5, .int .i64 i, .int .i64 e, .int .i64 k, .int .i64 x, .int .i64 y] 68)).heap[w.heap.size]? = some (.cells #[.int .i64 5, .int .i64 i, .int .i64 e, .int .i64 k, .int .i64 x, .int .i64 y] 68 (0, 0)) := heap_alloc_new _ _
  have B0 := Lib.hid hbx
  have hm0 := henv.f0.lt
  have hm1 := henv.f1.lt
  have hn0 : w.heap.size ≠ m0 := by omega
  have hn1 : w.heap.size ≠ m1 := by omega
  unfold Nd.val
  have HX := Lib.hid hx
  clear hx
  have HY := Lib.hid hy
  clear hy
  clear hm0 hm1 hbx henv
  go_enter Tryz.func103, Tryz.ntmps103
  go_wp2_with fail
  refine (HX.out false _ E0.out).mono ?_
  rintro e w1 ⟨u1, rfl, he, hs, hu⟩
  have E1 := Lib.hid he
  have S1 := Lib.hid (S0.out.trans hs)
  have B1 := Lib.hid (hs.box B0.out hn0 hn1)
  have T1 := Lib.hid hs
  have Fu1 := Lib.hid hu
  obtain ⟨Au1, cu1, rfl, _⟩ := fml_slice hu
  clear he hs hu
  obtain ⟨⟨z0, z1, z2, z3, z4, z5⟩, _, zlt⟩ := cells6 B1.out
  go_wp2_with fail
  refine (rbinary_any 5 (by omega) _).mono ?_
  rintro e w2 ⟨rfl, hx⟩
  have E2 := Lib.hid (E1.out.keep hx)
  have S2 := Lib.hid (S1.out.trans (.of_ext hx))
  have B2 := Lib.hid ((hx.block (lt_heap B1.out)).trans B1.out)
  have Fu1 := Lib.hid (Fu1.out.ext hx)
  clear hx
  clear z0 z1 z2 z3 z4 z5 zlt
  rw [show hasY 5 = true from rfl]
  obtain ⟨⟨z0, z1, z2, z3, z4, z5⟩, _, zlt⟩ := cells6 B2.out
  go_wp2_with fail
  refine (HY.out false _ E2.out).mono ?_
  rintro e w3 ⟨u2, rfl, he, hs, hu⟩
  have E3 := Lib.hid he
  have S3 := Lib.hid (S2.out.trans hs)
  have B3 := Lib.hid (hs.box B2.out hn0 hn1)
  have T3 := Lib.hid hs
  have Fu2 := Lib.hid hu
  obtain ⟨Au2, cu2, rfl, _⟩ := fml_slice hu
  clear he hs hu
  have Fu1 := Lib.hid (E2.out.fml Fu1.out T3.out)
  clear z0 z1 z2 z3 z4 z5 zlt
  obtain ⟨⟨z0, z1, z2, z3, z4, z5⟩, _, zlt⟩ := cells6 B3.out
  go_wp2_with fail
  refine (rb_and (x := ⟨5, i, e, k, x, y⟩) rfl _ _ (nnfN c false x.toNat) (nnfN c false y.toNat) _ Fu1.out Fu2.out).mono ?_
  rintro e w4 ⟨u3, rfl, hx, hu⟩
  have E4 := Lib.hid (E3.out.keep hx)
  have S4 := Lib.hid (S3.out.trans (.of_ext hx))
  have B4 := Lib.hid ((hx.block (lt_heap B3.out)).trans B3.out)
  have F3 := Lib.hid hu
  obtain ⟨A3, c3, rfl, _⟩ := fml_slice hu
  clear hx hu z0 z1 z2 z3 z4 z5 zlt
  go_wp2_with fail
  go_ret
  exact ⟨_, rfl, E4.out, S4.out, F3.out⟩
set_option maxRecDepth 100000 in
set_option maxHeartbeats 4000000 in
theorem pos_6 {W0 w : World} {bn m0 m1 cp : Nat} {A : Option Addr} {c : List Nd} {n : Nd} (hop : n.op = 6) (hx : OfSaid W0 bn m0 m1 A cp c n.x) (hy : OfSaid W0 bn m0 m1 A cp c n.y) (henv : NEnv W0 w bn m0 m1 A cp c) :
    Calls Tryz.prog 103 #[.pointer (some ⟨bn, 0, none⟩), n.val] w fun e w' => ∃ u, e = .returned u ∧ NEnv W0 w' bn m0 m1 A cp c ∧ NStep m0 m1 w w' ∧ Fml w' u (posS n (fun b j => nnfN c b j.toNat)) := by
  obtain ⟨o, i, e, k, x, y⟩ := n
  simp only at hop
  subst hop
  have X0 := Lib.hid ((Ext.refl w).alloc (.cells #[.int .i64 6, .int .i64 i, .int .i64 e, .int .i64 k, .int .i64 x, .int .i64 y] 68))
  have E0 := Lib.hid (henv.keep X0.out)
  have S0 := Lib.hid (NStep.of_ext (m0 := m0) (m1 := m1) X0.out)
  have hbx : (w.alloc (.cells #[.int .i64 6, .int .i64 i, .int .i64 e, .int .i64 k, .int .i64 x, .int .i64 y] 68)).heap[w.heap.size]? = some (.cells #[.int .i64 6, .int .i64 i, .int .i64 e, .int .i64 k, .int .i64 x, .int .i64 y] 68 (0, 0)) := heap_alloc_new _ _
  have B0 := Lib.hid hbx
  have hm0 := henv.f0.lt
  have hm1 := henv.f1.lt
  have hn0 : w.heap.size ≠ m0 := by omega
  have hn1 : w.heap.size ≠ m1 := by omega
  unfold Nd.val
  have HX := Lib.hid hx
  clear hx
  have HY := Lib.hid hy
  clear hy
  clear hm0 hm1 hbx henv
  go_enter Tryz.func103, Tryz.ntmps103
  go_wp2_with fail
  refine (HX.out false _ E0.out).mono ?_
  rintro e w1 ⟨u1, rfl, he, hs, hu⟩
  have E1 := Lib.hid he
  have S1 := Lib.hid (S0.out.trans hs)
  have B1 := Lib.hid (hs.box B0.out hn0 hn1)
  have T1 := Lib.hid hs
  have Fu1 := Lib.hid hu
  obtain ⟨Au1, cu1, rfl, _⟩ := fml_slice hu
  clear he hs hu
  obtain ⟨⟨z0, z1, z2, z3, z4, z5⟩, _, zlt⟩ := cells6 B1.out
  go_wp2_with fail
  refine (rbinary_any 6 (by omega) _).mono ?_
  rintro e w2 ⟨rfl, hx⟩
  have E2 := Lib.hid (E1.out.keep hx)
  have S2 := Lib.hid (S1.out.trans (.of_ext hx))
  have B2 := Lib.hid ((hx.block (lt_heap B1.out)).trans B1.out)
  have Fu1 := Lib.hid (Fu1.out.ext hx)
  clear hx
  clear z0 z1 z2 z3 z4 z5 zlt
  rw [show hasY 6 = true from rfl]
  obtain ⟨⟨z0, z1, z2, z3, z4, z5⟩, _, zlt⟩ := cells6 B2.out
  go_wp2_with fail
  refine (HY.out false _ E2.out).mono ?_
  rintro e w3 ⟨u2, rfl, he, hs, hu⟩
  have E3 := Lib.hid he
  have S3 := Lib.hid (S2.out.trans hs)
  have B3 := Lib.hid (hs.box B2.out hn0 hn1)
  have T3 := Lib.hid hs
  have Fu2 := Lib.hid hu
  obtain ⟨Au2, cu2, rfl, _⟩ := fml_slice hu
  clear he hs hu
  have Fu1 := Lib.hid (E2.out.fml Fu1.out T3.out)
  clear z0 z1 z2 z3 z4 z5 zlt
  obtain ⟨⟨z0, z1, z2, z3, z4, z5⟩, _, zlt⟩ := cells6 B3.out
  go_wp2_with fail
  refine (rb_or (x := ⟨6, i, e, k, x, y⟩) rfl _ _ (nnfN c false x.toNat) (nnfN c false y.toNat) _ Fu1.out Fu2.out).mono ?_
  rintro e w4 ⟨u3, rfl, hx, hu⟩
  have E4 := Lib.hid (E3.out.keep hx)
  have S4 := Lib.hid (S3.out.trans (.of_ext hx))
  have B4 := Lib.hid ((hx.block (lt_heap B3.out)).trans B3.out)
  have F3 := Lib.hid hu
  obtain ⟨A3, c3, rfl, _⟩ := fml_slice hu
  clear hx hu z0 z1 z2 z3 z4 z5 zlt
  go_wp2_with fail
  go_ret
  exact ⟨_, rfl, E4.out, S4.out, F3.out⟩
set_option maxRecDepth 100000 in
set_option maxHeartbeats 4000000 in
theorem pos_9 {W0 w : World} {bn m0 m1 cp : Nat} {A : Option Addr} {c : List Nd} {n : Nd} (hop : n.op = 9) (hx : OfSaid W0 bn m0 m1 A cp c n.x) (hi : i64ok n.i) (henv : NEnv W0 w bn m0 m1 A cp c) :
    Calls Tryz.prog 103 #[.pointer (some ⟨bn, 0, none⟩), n.val] w fun e w' => ∃ u, e = .returned u ∧ NEnv W0 w' bn m0 m1 A cp c ∧ NStep m0 m1 w w' ∧ Fml w' u (posS n (fun b j => nnfN c b j.toNat)) := by
  obtain ⟨o, i, e, k, x, y⟩ := n
  simp only at hop
  subst hop
  have X0 := Lib.hid ((Ext.refl w).alloc (.cells #[.int .i64 9, .int .i64 i, .int .i64 e, .int .i64 k, .int .i64 x, .int .i64 y] 68))
  have E0 := Lib.hid (henv.keep X0.out)
  have S0 := Lib.hid (NStep.of_ext (m0 := m0) (m1 := m1) X0.out)
  have hbx : (w.alloc (.cells #[.int .i64 9, .int .i64 i, .int .i64 e, .int .i64 k, .int .i64 x, .int .i64 y] 68)).heap[w.heap.size]? = some (.cells #[.int .i64 9, .int .i64 i, .int .i64 e, .int .i64 k, .int .i64 x, .int .i64 y] 68 (0, 0)) := heap_alloc_new _ _
  have B0 := Lib.hid hbx
  have hm0 := henv.f0.lt
  have hm1 := henv.f1.lt
  have hn0 : w.heap.size ≠ m0 := by omega
  have hn1 : w.heap.size ≠ m1 := by omega
  unfold Nd.val
  have HX := Lib.hid hx
  clear hx
  clear hm0 hm1 hbx henv
  go_enter Tryz.func103, Tryz.ntmps103
  go_wp2_with fail
  refine (HX.out false _ E0.out).mono ?_
  rintro e w1 ⟨u1, rfl, he, hs, hu⟩
  have E1 := Lib.hid he
  have S1 := Lib.hid (S0.out.trans hs)
  have B1 := Lib.hid (hs.box B0.out hn0 hn1)
  have T1 := Lib.hid hs
  have Fu1 := Lib.hid hu
  obtain ⟨Au1, cu1, rfl, _⟩ := fml_slice hu
  clear he hs hu
  obtain ⟨⟨z0, z1, z2, z3, z4, z5⟩, _, zlt⟩ := cells6 B1.out
  go_wp2_with fail
  refine (rbinary_any 9 (by omega) _).mono ?_
  rintro e w2 ⟨rfl, hx⟩
  have E2 := Lib.hid (E1.out.keep hx)
  have S2 := Lib.hid (S1.out.trans (.of_ext hx))
  have B2 := Lib.hid ((hx.block (lt_heap B1.out)).trans B1.out)
  have Fu1 := Lib.hid (Fu1.out.ext hx)
  clear hx
  clear z0 z1 z2 z3 z4 z5 zlt
  rw [show hasY 9 = false from rfl]
  obtain ⟨⟨z0, z1, z2, z3, z4, z5⟩, _, zlt⟩ := cells6 B2.out
  go_wp2_with fail
  refine (rb_know (x := ⟨9, i, e, k, x, y⟩) rfl hi _ (.slice none 0 0) (nnfN c false x.toNat) [] _ Fu1.out (nfml_nil _)).mono ?_
  rintro e w3 ⟨u3, rfl, hx, hu⟩
  have E3 := Lib.hid (E2.out.keep hx)
  have S3 := Lib.hid (S2.out.trans (.of_ext hx))
  have B3 := Lib.hid ((hx.block (lt_heap B2.out)).trans B2.out)
  have F3 := Lib.hid hu
  obtain ⟨A3, c3, rfl, _⟩ := fml_slice hu
  clear hx hu z0 z1 z2 z3 z4 z5 zlt
  go_wp2_with fail
  go_ret
  exact ⟨_, rfl, E3.out, S3.out, F3.out⟩
set_option maxRecDepth 100000 in
set_option maxHeartbeats 4000000 in
theorem pos_10 {W0 w : World} {bn m0 m1 cp : Nat} {A : Option Addr} {c : List Nd} {n : Nd} (hop : n.op = 10) (hx : OfSaid W0 bn m0 m1 A cp c n.x) (hi : i64ok n.i) (henv : NEnv W0 w bn m0 m1 A cp c) :
    Calls Tryz.prog 103 #[.pointer (some ⟨bn, 0, none⟩), n.val] w fun e w' => ∃ u, e = .returned u ∧ NEnv W0 w' bn m0 m1 A cp c ∧ NStep m0 m1 w w' ∧ Fml w' u (posS n (fun b j => nnfN c b j.toNat)) := by
  obtain ⟨o, i, e, k, x, y⟩ := n
  simp only at hop
  subst hop
  have X0 := Lib.hid ((Ext.refl w).alloc (.cells #[.int .i64 10, .int .i64 i, .int .i64 e, .int .i64 k, .int .i64 x, .int .i64 y] 68))
  have E0 := Lib.hid (henv.keep X0.out)
  have S0 := Lib.hid (NStep.of_ext (m0 := m0) (m1 := m1) X0.out)
  have hbx : (w.alloc (.cells #[.int .i64 10, .int .i64 i, .int .i64 e, .int .i64 k, .int .i64 x, .int .i64 y] 68)).heap[w.heap.size]? = some (.cells #[.int .i64 10, .int .i64 i, .int .i64 e, .int .i64 k, .int .i64 x, .int .i64 y] 68 (0, 0)) := heap_alloc_new _ _
  have B0 := Lib.hid hbx
  have hm0 := henv.f0.lt
  have hm1 := henv.f1.lt
  have hn0 : w.heap.size ≠ m0 := by omega
  have hn1 : w.heap.size ≠ m1 := by omega
  unfold Nd.val
  have HX := Lib.hid hx
  clear hx
  clear hm0 hm1 hbx henv
  go_enter Tryz.func103, Tryz.ntmps103
  go_wp2_with fail
  refine (HX.out false _ E0.out).mono ?_
  rintro e w1 ⟨u1, rfl, he, hs, hu⟩
  have E1 := Lib.hid he
  have S1 := Lib.hid (S0.out.trans hs)
  have B1 := Lib.hid (hs.box B0.out hn0 hn1)
  have T1 := Lib.hid hs
  have Fu1 := Lib.hid hu
  obtain ⟨Au1, cu1, rfl, _⟩ := fml_slice hu
  clear he hs hu
  obtain ⟨⟨z0, z1, z2, z3, z4, z5⟩, _, zlt⟩ := cells6 B1.out
  go_wp2_with fail
  refine (rbinary_any 10 (by omega) _).mono ?_
  rintro e w2 ⟨rfl, hx⟩
  have E2 := Lib.hid (E1.out.keep hx)
  have S2 := Lib.hid (S1.out.trans (.of_ext hx))
  have B2 := Lib.hid ((hx.block (lt_heap B1.out)).trans B1.out)
  have Fu1 := Lib.hid (Fu1.out.ext hx)
  clear hx
  clear z0 z1 z2 z3 z4 z5 zlt
  rw [show hasY 10 = false from rfl]
  obtain ⟨⟨z0, z1, z2, z3, z4, z5⟩, _, zlt⟩ := cells6 B2.out
  go_wp2_with fail
  refine (rb_poss (x := ⟨10, i, e, k, x, y⟩) rfl hi _ (.slice none 0 0) (nnfN c false x.toNat) [] _ Fu1.out (nfml_nil _)).mono ?_
  rintro e w3 ⟨u3, rfl, hx, hu⟩
  have E3 := Lib.hid (E2.out.keep hx)
  have S3 := Lib.hid (S2.out.trans (.of_ext hx))
  have B3 := Lib.hid ((hx.block (lt_heap B2.out)).trans B2.out)
  have F3 := Lib.hid hu
  obtain ⟨A3, c3, rfl, _⟩ := fml_slice hu
  clear hx hu z0 z1 z2 z3 z4 z5 zlt
  go_wp2_with fail
  go_ret
  exact ⟨_, rfl, E3.out, S3.out, F3.out⟩
end Go.Proofs.YtdpblciohodgcaaGreatDoor

/- Short forms of the moves of a walk through a region that draws its order. -/

namespace Go.Proofs.YtdpblciohodgcaaGreatDoor
open Go.RowKit

section
variable {P : Program} {md : Region.Mode} {ops : Array Oper} {Q : Exit → Act → World → Prop} {S : World → Prop}
/-- An operation is taken: its value is what it yields in every world that meets S. -/
theorem tk (i : Nat) {oi : Oper} {v : Value} {fuel : Nat} {listed : Array Bool} {a a' : Act} {w : World} (hS : S w)
    (h : wpAnyH P md ops Q S fuel (listed.setIfInBounds i true) a' w)
    (hi : ops[i]? = some oi := by exact rfl) (hs : Region.noSelect ops = true := by kernel_rfl) (hf : Region.free md ops listed i = true := by kernel_rfl) (hr : (Region.ready md ops listed).contains i = true := by kernel_rfl)
    (hy : YieldsIf P ops S oi v a := by refine Or.inl ⟨by rfl, ?_⟩; intro w' hSw; (try dsimp only at hSw); go_simp; (try with_reducible rfl))
    (hQ : ∀ c a w, Q (.panic c) (a.put oi.dst v) w → Q (.panic c) a w := by exact fun _ _ _ h => h)
    (ha : a.put oi.dst v = a' := by (try simp only [Act.put, List.setIfInBounds_toArray, List.set_cons_zero, List.set_cons_succ, List.getElem_toArray, List.getElem_cons_succ, List.getElem_cons_zero]); exact rfl) : wpAnyH P md ops Q S (fuel + 1) listed a w :=
  wpAnyH_take hi hs hf hr hQ hy hS (by rw [ha]; exact h)
/-- An operation that is not wanted is passed over. -/
theorem un (i : Nat) {oi : Oper} {fuel : Nat} {listed : Array Bool} {a a' : Act} {w : World} (hS : S w)
    (h : wpAnyH P md ops Q S fuel (listed.setIfInBounds i true) a' w)
    (hi : ops[i]? = some oi := by exact rfl) (hs : Region.noSelect ops = true := by kernel_rfl) (hf : Region.free md ops listed i = true := by kernel_rfl) (hr : (Region.ready md ops listed).contains i = true := by kernel_rfl)
    (hy : YieldsIf P ops S oi undef a := by exact Or.inr ⟨by rfl, rfl⟩)
    (hQ : ∀ c a w, Q (.panic c) (a.put oi.dst undef) w → Q (.panic c) a w := by exact fun _ _ _ h => h)
    (ha : a.put oi.dst undef = a' := by (try simp only [Act.put, List.setIfInBounds_toArray, List.set_cons_zero, List.set_cons_succ, List.getElem_toArray, List.getElem_cons_succ, List.getElem_cons_zero]); exact rfl) : wpAnyH P md ops Q S (fuel + 1) listed a w :=
  wpAnyH_take hi hs hf hr hQ hy hS (by rw [ha]; exact h)
end
section
variable {a b c : World} {p : Addr} {v : Value}
/-- A cell that was there is as it was. -/
theorem xc (hb : p.block < a.heap.size) (f : a.cell? p = some v) (h : Ext a b := by repeat (first | exact Ext.refl _ | assumption | apply Ext.alloc | apply Ext.drew)) : b.cell? p = some v := (h.cell hb).trans f
/-- A world behind a call. -/
theorem xt (h : Ext b c) (e : Ext a b := by repeat (first | exact Ext.refl _ | assumption | apply Ext.alloc | apply Ext.drew)) : Ext a c := e.trans h
/-- The world as it stands. -/
theorem xw (e : Ext a b := by repeat (first | exact Ext.refl _ | assumption | apply Ext.alloc | apply Ext.drew)) : Ext a b := e
end
end Go.Proofs.YtdpblciohodgcaaGreatDoor
