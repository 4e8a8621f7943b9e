/- Further constructors of formulas: Or, Iff. -/
import Derived.Test.YtohoddkcpfamlaaDoorS04
import Derived.Test.YtohoddkcpfamlaaDoorS19
import Derived.Test.YtohoddkcpfamlaaDoorS12
import Derived.Test.YtohoddkcpfamlaaDoorS20

namespace Go.Proofs.YtohoddkcpfamlaaDoor
open Go.RowKit

set_option maxHeartbeats 400000 in
theorem or_any (v1 v2 : Value) (f g : List Nd) (w : World) (h1 : Fml w v1 f) (h2 : Fml w v2 g) :
    Calls Tryd.prog 38 #[v1, v2] w fun e w' => ∃ u, e = .returned u ∧ Made w w' u (orN f g) := by
  have H1 := Lib.hid h1
  have H2 := Lib.hid h2
  obtain ⟨A1, c1, rfl, _⟩ := fml_slice h1
  obtain ⟨A2, c2, rfl, _⟩ := fml_slice h2
  clear h1 h2
  go_enter Tryd.func38, Tryd.ntmps38
  go_wp2_with fail
  refine (build_any ⟨6, 0, 0, 0, 0, 0⟩ _ [f, g] _ (small_ok (i64_small (by omega) (by omega)) (i64_small (by omega) (by omega)) (i64_small (by omega) (by omega)) (i64_small (by omega) (by omega)) (i64_small (by omega) (by omega)) (i64_small (by omega) (by omega))) (fmls_two H1.out H2.out) (by simp)).mono ?_
  rintro e w1 ⟨u, rfl, hm⟩
  have HM := Lib.hid hm
  clear hm
  go_wp2_with fail
  go_ret
  exact ⟨_, rfl, (HM.out.before ((Ext.refl _).alloc _))⟩

set_option maxHeartbeats 400000 in
theorem fiff_any (v1 v2 : Value) (f g : List Nd) (w : World) (h1 : Fml w v1 f) (h2 : Fml w v2 g) :
    Calls Tryd.prog 39 #[v1, v2] w fun e w' => ∃ u, e = .returned u ∧ Made w w' u (iffN f g) := by
  have H1 := Lib.hid h1
  have H2 := Lib.hid h2
  obtain ⟨A1, c1, rfl, _⟩ := fml_slice h1
  obtain ⟨A2, c2, rfl, _⟩ := fml_slice h2
  clear h1 h2
  go_enter Tryd.func39, Tryd.ntmps39
  go_wp2_with fail
  refine (build_any ⟨8, 0, 0, 0, 0, 0⟩ _ [f, g] _ (small_ok (i64_small (by omega) (by omega)) (i64_small (by omega) (by omega)) (i64_small (by omega) (by omega)) (i64_small (by omega) (by omega)) (i64_small (by omega) (by omega)) (i64_small (by omega) (by omega))) (fmls_two H1.out H2.out) (by simp)).mono ?_
  rintro e w1 ⟨u, rfl, hm⟩
  have HM := Lib.hid hm
  clear hm
  go_wp2_with fail
  go_ret
  exact ⟨_, rfl, (HM.out.before ((Ext.refl _).alloc _))⟩
end Go.Proofs.YtohoddkcpfamlaaDoor

/- rewrite.binary and rewrite.build: the lists that they make. -/

namespace Go.Proofs.YtohoddkcpfamlaaDoor
open Go.RowKit

set_option maxRecDepth 100000 in
set_option maxHeartbeats 2000000 in
theorem nbinary_any (op : Int) (h : 1 ≤ op ∧ op ≤ 10) (w : World) : Calls Tryd.prog 34 #[.int .i64 op] w fun e w' => e = .returned (.bool (hasY op)) ∧ Ext w w' := by
  rcases (show op = 1 ∨ op = 2 ∨ op = 3 ∨ op = 4 ∨ op = 5 ∨ op = 6 ∨ op = 7 ∨ op = 8 ∨ op = 9 ∨ op = 10 by omega) with rfl | rfl | rfl | rfl | rfl | rfl | rfl | rfl | rfl | rfl <;>
    (go_enter Tryd.func34, Tryd.ntmps34
     go_wp2_with fail
     go_ret
     exact ⟨rfl, Ext.refl _⟩)
set_option maxRecDepth 100000 in
set_option maxHeartbeats 2000000 in
theorem nb_true (i e k p q : Int) (v1 v2 : Value) (f g : List Nd) (w : World) (h1 : Fml w v1 f) (h2 : Fml w v2 g) :
    Calls Tryd.prog 23 #[.agg #[.int .i64 1, .int .i64 i, .int .i64 e, .int .i64 k, .int .i64 p, .int .i64 q], v1, v2] w fun e w' => ∃ u, e = .returned u ∧ Made w w' u trueN := by
  obtain ⟨A1, c1, rfl, _⟩ := fml_slice h1
  obtain ⟨A2, c2, rfl, _⟩ := fml_slice h2
  have X0 := Lib.hid ((Ext.refl w).alloc (.cells #[.int .i64 1, .int .i64 i, .int .i64 e, .int .i64 k, .int .i64 p, .int .i64 q] 46))
  clear h1 h2
  go_enter Tryd.func23, Tryd.ntmps23
  go_wp2_with fail
  refine (true_any _).mono ?_
  rintro e w1 ⟨u, rfl, hm⟩
  have HM := Lib.hid hm
  clear hm
  go_wp2_with fail
  go_ret
  exact ⟨_, rfl, HM.out.before X0.out⟩
set_option maxRecDepth 100000 in
set_option maxHeartbeats 2000000 in
theorem nb_false (i e k p q : Int) (v1 v2 : Value) (f g : List Nd) (w : World) (h1 : Fml w v1 f) (h2 : Fml w v2 g) :
    Calls Tryd.prog 23 #[.agg #[.int .i64 2, .int .i64 i, .int .i64 e, .int .i64 k, .int .i64 p, .int .i64 q], v1, v2] w fun e w' => ∃ u, e = .returned u ∧ Made w w' u falseN := by
  obtain ⟨A1, c1, rfl, _⟩ := fml_slice h1
  obtain ⟨A2, c2, rfl, _⟩ := fml_slice h2
  have X0 := Lib.hid ((Ext.refl w).alloc (.cells #[.int .i64 2, .int .i64 i, .int .i64 e, .int .i64 k, .int .i64 p, .int .i64 q] 46))
  clear h1 h2
  go_enter Tryd.func23, Tryd.ntmps23
  go_wp2_with fail
  refine (false_any _).mono ?_
  rintro e w1 ⟨u, rfl, hm⟩
  have HM := Lib.hid hm
  clear hm
  go_wp2_with fail
  go_ret
  exact ⟨_, rfl, HM.out.before X0.out⟩
set_option maxRecDepth 100000 in
set_option maxHeartbeats 2000000 in
theorem nb_fact (i e k p q : Int) (hi : i64ok i) (v1 v2 : Value) (f g : List Nd) (w : World) (h1 : Fml w v1 f) (h2 : Fml w v2 g) :
    Calls Tryd.prog 23 #[.agg #[.int .i64 3, .int .i64 i, .int .i64 e, .int .i64 k, .int .i64 p, .int .i64 q], v1, v2] w fun e w' => ∃ u, e = .returned u ∧ Made w w' u (factN i) := by
  obtain ⟨A1, c1, rfl, _⟩ := fml_slice h1
  obtain ⟨A2, c2, rfl, _⟩ := fml_slice h2
  have X0 := Lib.hid ((Ext.refl w).alloc (.cells #[.int .i64 3, .int .i64 i, .int .i64 e, .int .i64 k, .int .i64 p, .int .i64 q] 46))
  clear h1 h2
  go_enter Tryd.func23, Tryd.ntmps23
  go_wp2_with fail
  refine (fact_any i hi _).mono ?_
  rintro e w1 ⟨u, rfl, hm⟩
  have HM := Lib.hid hm
  clear hm
  go_wp2_with fail
  go_ret
  exact ⟨_, rfl, HM.out.before X0.out⟩
set_option maxRecDepth 100000 in
set_option maxHeartbeats 2000000 in
theorem nb_not (i e k p q : Int) (v1 v2 : Value) (f g : List Nd) (w : World) (h1 : Fml w v1 f) (h2 : Fml w v2 g) :
    Calls Tryd.prog 23 #[.agg #[.int .i64 4, .int .i64 i, .int .i64 e, .int .i64 k, .int .i64 p, .int .i64 q], v1, v2] w fun e w' => ∃ u, e = .returned u ∧ Made w w' u (notN f) := by
  obtain ⟨A1, c1, rfl, _⟩ := fml_slice h1
  obtain ⟨A2, c2, rfl, _⟩ := fml_slice h2
  have H1 := Lib.hid h1
  have X0 := Lib.hid ((Ext.refl w).alloc (.cells #[.int .i64 4, .int .i64 i, .int .i64 e, .int .i64 k, .int .i64 p, .int .i64 q] 46))
  clear h1 h2
  go_enter Tryd.func23, Tryd.ntmps23
  go_wp2_with fail
  refine (not_any _ f _ (H1.out.ext X0.out)).mono ?_
  rintro e w1 ⟨u, rfl, hm⟩
  have HM := Lib.hid hm
  clear hm
  go_wp2_with fail
  go_ret
  exact ⟨_, rfl, HM.out.before X0.out⟩
set_option maxRecDepth 100000 in
set_option maxHeartbeats 2000000 in
theorem nb_and (i e k p q : Int) (v1 v2 : Value) (f g : List Nd) (w : World) (h1 : Fml w v1 f) (h2 : Fml w v2 g) :
    Calls Tryd.prog 23 #[.agg #[.int .i64 5, .int .i64 i, .int .i64 e, .int .i64 k, .int .i64 p, .int .i64 q], v1, v2] w fun e w' => ∃ u, e = .returned u ∧ Made w w' u (andN f g) := by
  obtain ⟨A1, c1, rfl, _⟩ := fml_slice h1
  obtain ⟨A2, c2, rfl, _⟩ := fml_slice h2
  have H1 := Lib.hid h1
  have H2 := Lib.hid h2
  have X0 := Lib.hid ((Ext.refl w).alloc (.cells #[.int .i64 5, .int .i64 i, .int .i64 e, .int .i64 k, .int .i64 p, .int .i64 q] 46))
  clear h1 h2
  go_enter Tryd.func23, Tryd.ntmps23
  go_wp2_with fail
  refine (and_any _ _ f g _ (H1.out.ext X0.out) (H2.out.ext X0.out)).mono ?_
  rintro e w1 ⟨u, rfl, hm⟩
  have HM := Lib.hid hm
  clear hm
  go_wp2_with fail
  go_ret
  exact ⟨_, rfl, HM.out.before X0.out⟩
set_option maxRecDepth 100000 in
set_option maxHeartbeats 2000000 in
theorem nb_or (i e k p q : Int) (v1 v2 : Value) (f g : List Nd) (w : World) (h1 : Fml w v1 f) (h2 : Fml w v2 g) :
    Calls Tryd.prog 23 #[.agg #[.int .i64 6, .int .i64 i, .int .i64 e, .int .i64 k, .int .i64 p, .int .i64 q], v1, v2] w fun e w' => ∃ u, e = .returned u ∧ Made w w' u (orN f g) := by
  obtain ⟨A1, c1, rfl, _⟩ := fml_slice h1
  obtain ⟨A2, c2, rfl, _⟩ := fml_slice h2
  have H1 := Lib.hid h1
  have H2 := Lib.hid h2
  have X0 := Lib.hid ((Ext.refl w).alloc (.cells #[.int .i64 6, .int .i64 i, .int .i64 e, .int .i64 k, .int .i64 p, .int .i64 q] 46))
  clear h1 h2
  go_enter Tryd.func23, Tryd.ntmps23
  go_wp2_with fail
  refine (or_any _ _ f g _ (H1.out.ext X0.out) (H2.out.ext X0.out)).mono ?_
  rintro e w1 ⟨u, rfl, hm⟩
  have HM := Lib.hid hm
  clear hm
  go_wp2_with fail
  go_ret
  exact ⟨_, rfl, HM.out.before X0.out⟩
set_option maxRecDepth 100000 in
set_option maxHeartbeats 2000000 in
theorem nb_imp (i e k p q : Int) (v1 v2 : Value) (f g : List Nd) (w : World) (h1 : Fml w v1 f) (h2 : Fml w v2 g) :
    Calls Tryd.prog 23 #[.agg #[.int .i64 7, .int .i64 i, .int .i64 e, .int .i64 k, .int .i64 p, .int .i64 q], v1, v2] w fun e w' => ∃ u, e = .returned u ∧ Made w w' u (impN f g) := by
  obtain ⟨A1, c1, rfl, _⟩ := fml_slice h1
  obtain ⟨A2, c2, rfl, _⟩ := fml_slice h2
  have H1 := Lib.hid h1
  have H2 := Lib.hid h2
  have X0 := Lib.hid ((Ext.refl w).alloc (.cells #[.int .i64 7, .int .i64 i, .int .i64 e, .int .i64 k, .int .i64 p, .int .i64 q] 46))
  clear h1 h2
  go_enter Tryd.func23, Tryd.ntmps23
  go_wp2_with fail
  refine (imp_any _ _ f g _ (H1.out.ext X0.out) (H2.out.ext X0.out)).mono ?_
  rintro e w1 ⟨u, rfl, hm⟩
  have HM := Lib.hid hm
  clear hm
  go_wp2_with fail
  go_ret
  exact ⟨_, rfl, HM.out.before X0.out⟩
set_option maxRecDepth 100000 in
set_option maxHeartbeats 2000000 in
theorem nb_iff (i e k p q : Int) (v1 v2 : Value) (f g : List Nd) (w : World) (h1 : Fml w v1 f) (h2 : Fml w v2 g) :
    Calls Tryd.prog 23 #[.agg #[.int .i64 8, .int .i64 i, .int .i64 e, .int .i64 k, .int .i64 p, .int .i64 q], v1, v2] w fun e w' => ∃ u, e = .returned u ∧ Made w w' u (iffN f g) := by
  obtain ⟨A1, c1, rfl, _⟩ := fml_slice h1
  obtain ⟨A2, c2, rfl, _⟩ := fml_slice h2
  have H1 := Lib.hid h1
  have H2 := Lib.hid h2
  have X0 := Lib.hid ((Ext.refl w).alloc (.cells #[.int .i64 8, .int .i64 i, .int .i64 e, .int .i64 k, .int .i64 p, .int .i64 q] 46))
  clear h1 h2
  go_enter Tryd.func23, Tryd.ntmps23
  go_wp2_with fail
  refine (fiff_any _ _ f g _ (H1.out.ext X0.out) (H2.out.ext X0.out)).mono ?_
  rintro e w1 ⟨u, rfl, hm⟩
  have HM := Lib.hid hm
  clear hm
  go_wp2_with fail
  go_ret
  exact ⟨_, rfl, HM.out.before X0.out⟩
set_option maxRecDepth 100000 in
set_option maxHeartbeats 2000000 in
theorem nb_know (i e k p q : Int) (hi : i64ok i) (v1 v2 : Value) (f g : List Nd) (w : World) (h1 : Fml w v1 f) (h2 : Fml w v2 g) :
    Calls Tryd.prog 23 #[.agg #[.int .i64 9, .int .i64 i, .int .i64 e, .int .i64 k, .int .i64 p, .int .i64 q], v1, v2] w fun e w' => ∃ u, e = .returned u ∧ Made w w' u (knowN i f) := by
  obtain ⟨A1, c1, rfl, _⟩ := fml_slice h1
  obtain ⟨A2, c2, rfl, _⟩ := fml_slice h2
  have H1 := Lib.hid h1
  have X0 := Lib.hid ((Ext.refl w).alloc (.cells #[.int .i64 9, .int .i64 i, .int .i64 e, .int .i64 k, .int .i64 p, .int .i64 q] 46))
  clear h1 h2
  go_enter Tryd.func23, Tryd.ntmps23
  go_wp2_with fail
  refine (know_any i hi _ f _ (H1.out.ext X0.out)).mono ?_
  rintro e w1 ⟨u, rfl, hm⟩
  have HM := Lib.hid hm
  clear hm
  go_wp2_with fail
  go_ret
  exact ⟨_, rfl, HM.out.before X0.out⟩
set_option maxRecDepth 100000 in
set_option maxHeartbeats 2000000 in
theorem nb_poss (i e k p q : Int) (hi : i64ok i) (v1 v2 : Value) (f g : List Nd) (w : World) (h1 : Fml w v1 f) (h2 : Fml w v2 g) :
    Calls Tryd.prog 23 #[.agg #[.int .i64 10, .int .i64 i, .int .i64 e, .int .i64 k, .int .i64 p, .int .i64 q], v1, v2] w fun e w' => ∃ u, e = .returned u ∧ Made w w' u (possN i f) := by
  obtain ⟨A1, c1, rfl, _⟩ := fml_slice h1
  obtain ⟨A2, c2, rfl, _⟩ := fml_slice h2
  have H1 := Lib.hid h1
  have X0 := Lib.hid ((Ext.refl w).alloc (.cells #[.int .i64 10, .int .i64 i, .int .i64 e, .int .i64 k, .int .i64 p, .int .i64 q] 46))
  clear h1 h2
  go_enter Tryd.func23, Tryd.ntmps23
  go_wp2_with fail
  refine (poss_any i hi _ f _ (H1.out.ext X0.out)).mono ?_
  rintro e w1 ⟨u, rfl, hm⟩
  have HM := Lib.hid hm
  clear hm
  go_wp2_with fail
  go_ret
  exact ⟨_, rfl, HM.out.before X0.out⟩
end Go.Proofs.YtohoddkcpfamlaaDoor

/- Formulas in a row of the call's own. -/

namespace Go.Proofs.YtohoddkcpfamlaaDoor
open Go.RowKit

/-- A value's block is not the row's, and lies from m on. -/
def Away (m : Nat) (w : World) (vo u : Value) : Prop := ∀ g, u.ownBlock = some g → g < w.heap.size ∧ vo.ownBlock ≠ some g ∧ m ≤ g
theorem Away.ext {m : Nat} {w w' : World} {vo u : Value} (h : Away m w vo u) (he : Ext w w') : Away m w' vo u := fun g hg => ⟨Nat.lt_of_lt_of_le (h g hg).1 he.size, (h g hg).2⟩
theorem tInfoF2 : (Tryd.prog.info? 28).map (fun i => (i.zero, i.size, i.bytes)) = some (some (.slice none 0 0), 1, 24) := by kernel_rfl
theorem Nds.keepF {w w' : World} {v : Value} {l : List Nd} (h : Nds w v l) (hb : ∀ g, v.ownBlock = some g → g < w.heap.size → w'.heap[g]? = w.heap[g]?) (hs : w.heap.size ≤ w'.heap.size) : Nds w' v l := by
  obtain ⟨A, c, rfl, h1, h2, h3⟩ := h
  refine ⟨A, c, rfl, h1, h2, fun hn => ?_⟩
  obtain ⟨ad, rfl, hlt, hc⟩ := h3 hn
  refine ⟨ad, rfl, Nat.lt_of_lt_of_le hlt hs, fun k n hk => (hc k n hk).keep fun p hp => World.cell?_of_block ?_⟩
  rw [hp, block_of_add]
  exact hb ad.block rfl hlt
/-- Formulas in a row of the call's own. -/
structure FRow (w0 w : World) (vo : Value) (out : List (List Nd)) : Prop where
  ext : Ext w0 w
  row : ∃ us, w.ownsRow w0.heap.size 28 1 vo out.length us ∧ ∀ (k : Nat) (s : List Nd), out[k]? = some s → ∃ u, us[k]? = some u ∧ Fml w u s ∧ Away w0.heap.size w vo u
theorem FRow.ext_ {w0 w w' : World} {vo : Value} {out : List (List Nd)} (h : FRow w0 w vo out) (he : Ext w w') : FRow w0 w' vo out := by
  obtain ⟨us, hr, hu⟩ := h.row
  refine ⟨h.ext.trans he, us, row_ext hr he, fun k s hk => ?_⟩
  obtain ⟨u, a, b, c⟩ := hu k s hk
  exact ⟨u, a, b.ext he, c.ext he⟩
theorem FRow.nil (w : World) : FRow w w (.slice none 0 0) [] := ⟨Ext.refl _, [], World.ownsRow_nil _ _ _ _, fun k s h => by simp at h⟩
theorem row1_cellsF {w : World} {base n : Nat} {t : TypeId} {v : Value} {us : List Value} (h : w.ownsRow base t 1 v n us) (hn : 0 < n) :
    ∃ g cap, v = .slice (some ⟨g, 0, none⟩) n cap ∧ g < w.heap.size ∧ n ≤ cap ∧ cap ≤ maxLen ∧ ∀ i z, us[i]? = some z → w.cell? ⟨g, i, none⟩ = some z := by
  rcases h.2 with ⟨_, h0⟩ | ⟨g, cap, cur, rfl, _, hg, hnc, hm, hs, ht⟩
  · omega
  · refine ⟨g, cap, rfl, lt_heap hg, hnc, hm, fun i z h1 => ?_⟩
    rw [← ht, List.getElem?_take] at h1
    split at h1
    · have h2 : cur[i]? = some z := by simpa using h1
      simp [World.cell?, hg, h2]
    · cases h1
/-- What lies in the row lies in blocks of the call's own: so it stays where these blocks stay. -/
theorem FRow.keep {w0 w w' : World} {vo : Value} {out : List (List Nd)} (h : FRow w0 w vo out) (hb : ∀ g, w0.heap.size ≤ g → g < w.heap.size → w'.heap[g]? = w.heap[g]?) (hs : w.heap.size ≤ w'.heap.size) (he : Ext w0 w') : FRow w0 w' vo out := by
  obtain ⟨us, hr, hu⟩ := h.row
  refine ⟨he, us, ⟨hr.1, ?_⟩, fun k s hk => ?_⟩
  · rcases hr.2 with h0 | ⟨g, cap, cur, e, h1, h2, h3, h4, h5, h6⟩
    · exact .inl h0
    · exact .inr ⟨g, cap, cur, e, h1, (hb g h1 (lt_heap h2)).trans h2, h3, h4, h5, h6⟩
  · obtain ⟨u, a, b, c⟩ := hu k s hk
    exact ⟨u, a, ⟨b.1.keepF (fun g hg _ => hb g (c g hg).2.2 (c g hg).1) hs, b.2⟩, fun g hg => ⟨Nat.lt_of_lt_of_le (c g hg).1 hs, (c g hg).2⟩⟩
theorem FRow.push {w0 W w4 : World} {vo v' x : Value} {out : List (List Nd)} {s : List Nd} {ss : List Value} (he : Ext w0 W) (hs : W.ownsRow w0.heap.size 28 1 vo out.length ss) (hv : ∀ (k : Nat) (s : List Nd), out[k]? = some s → ∃ u, ss[k]? = some u ∧ Fml W u s ∧ Away w0.heap.size W vo u)
    (hrow : w4.ownsRow w0.heap.size 28 1 v' (out.length + 1) (ss ++ [x])) (hg : W.grownBy w4 vo.ownBlock) (hat : v'.ownBlock = vo.ownBlock ∨ v'.ownBlock = some W.heap.size) (hx : Fml W x s) (hxf : Away w0.heap.size W vo x) :
    FRow w0 w4 v' (out ++ [s]) := by
  have hlen : ss.length = out.length := by simpa using hs.1
  have hkeep : ∀ g, g < W.heap.size → vo.ownBlock ≠ some g → w4.heap[g]? = W.heap[g]? := fun g h1 h2 => hg.block g h1 (fun e => h2 e.symm)
  have haway : ∀ u, Away w0.heap.size W vo u → Away w0.heap.size w4 v' u := fun u hu g hgu => by
    obtain ⟨a, b, hm⟩ := hu g hgu
    refine ⟨Nat.lt_of_lt_of_le a hg.size, fun e => ?_, hm⟩
    rcases hat with e1 | e1
    · exact b (e1.symm.trans e)
    · rw [e1] at e; injection e with e; omega
  have hfml : ∀ u s, Away w0.heap.size W vo u → Fml W u s → Fml w4 u s := fun u s ha hi => ⟨hi.1.keepF (fun g hg' _ => hkeep g (ha g hg').1 (ha g hg').2.1) hg.size, hi.2⟩
  refine ⟨he.grown hg (fun g hg' => (hs.lt g hg').1), ss ++ [x], by rw [List.length_append]; exact hrow, fun k s' hk => ?_⟩
  by_cases hk' : k < out.length
  · rw [List.getElem?_append_left hk'] at hk
    obtain ⟨u, a, b, c⟩ := hv k s' hk
    exact ⟨u, by rw [List.getElem?_append_left (by omega)]; exact a, hfml u s' c b, haway u c⟩
  · rw [List.getElem?_append_right (by omega)] at hk
    have hk0 : k = out.length := by
      by_cases e : k - out.length = 0
      · omega
      · rw [List.getElem?_eq_none (by simp; omega)] at hk; cases hk
    subst hk0
    simp at hk
    subst hk
    exact ⟨x, by rw [List.getElem?_append_right (by omega), hlen]; simp, hfml x _ hxf hx, haway x hxf⟩
theorem made_away {w W : World} {vo x : Value} {B n k : Nat} {us zs : List Value} {e : TypeId} {sz m : Nat} (hB : w.heap.size ≤ B) (hx : W.ownsRow B e sz x n zs) (hs : w.ownsRow m 28 1 vo k us) (hm : m ≤ w.heap.size) : Away m W vo x := fun g hg => by
  obtain ⟨h1, h2⟩ := hx.lt g hg
  exact ⟨h2, fun e => by have := (hs.lt g e).2; omega, by omega⟩
end Go.Proofs.YtohoddkcpfamlaaDoor

/- rewrite.Subst: what it returns. -/

namespace Go.Proofs.YtohoddkcpfamlaaDoor
open Go.RowKit

set_option maxRecDepth 100000 in
set_option maxHeartbeats 4000000 in
theorem sub1_true {w : World} (vt : Value) (i e k p q : Int) (v1 v2 : Value) (f g : List Nd) (h1 : Fml w v1 f) (h2 : Fml w v2 g) :
    Calls Tryd.prog 22 #[.agg #[.int .i64 1, .int .i64 i, .int .i64 e, .int .i64 k, .int .i64 p, .int .i64 q], v1, v2, vt] w fun e' w' => ∃ u, e' = .returned u ∧ Made w w' u (bldN ⟨1, i, e, k, p, q⟩ f g) := by
  obtain ⟨A1, c1, rfl, _⟩ := fml_slice h1
  obtain ⟨A2, c2, rfl, _⟩ := fml_slice h2
  have H1 := Lib.hid h1
  have H2 := Lib.hid h2
  have X0 := Lib.hid ((Ext.refl w).alloc (.cells #[.int .i64 1, .int .i64 i, .int .i64 e, .int .i64 k, .int .i64 p, .int .i64 q] 46))
  clear h1 h2
  go_enter Tryd.func22, Tryd.ntmps22
  go_wp2_with fail
  refine (nb_true i e k p q _ _ f g _ (H1.out.ext X0.out) (H2.out.ext X0.out)).mono ?_
  rintro e' w1 ⟨u, rfl, hm⟩
  have HM := Lib.hid hm
  clear hm
  go_wp2_with fail
  go_ret
  exact ⟨_, rfl, HM.out.before X0.out⟩
set_option maxRecDepth 100000 in
set_option maxHeartbeats 4000000 in
theorem sub1_false {w : World} (vt : Value) (i e k p q : Int) (v1 v2 : Value) (f g : List Nd) (h1 : Fml w v1 f) (h2 : Fml w v2 g) :
    Calls Tryd.prog 22 #[.agg #[.int .i64 2, .int .i64 i, .int .i64 e, .int .i64 k, .int .i64 p, .int .i64 q], v1, v2, vt] w fun e' w' => ∃ u, e' = .returned u ∧ Made w w' u (bldN ⟨2, i, e, k, p, q⟩ f g) := by
  obtain ⟨A1, c1, rfl, _⟩ := fml_slice h1
  obtain ⟨A2, c2, rfl, _⟩ := fml_slice h2
  have H1 := Lib.hid h1
  have H2 := Lib.hid h2
  have X0 := Lib.hid ((Ext.refl w).alloc (.cells #[.int .i64 2, .int .i64 i, .int .i64 e, .int .i64 k, .int .i64 p, .int .i64 q] 46))
  clear h1 h2
  go_enter Tryd.func22, Tryd.ntmps22
  go_wp2_with fail
  refine (nb_false i e k p q _ _ f g _ (H1.out.ext X0.out) (H2.out.ext X0.out)).mono ?_
  rintro e' w1 ⟨u, rfl, hm⟩
  have HM := Lib.hid hm
  clear hm
  go_wp2_with fail
  go_ret
  exact ⟨_, rfl, HM.out.before X0.out⟩
set_option maxRecDepth 100000 in
set_option maxHeartbeats 4000000 in
theorem sub1_not {w : World} (vt : Value) (i e k p q : Int) (v1 v2 : Value) (f g : List Nd) (h1 : Fml w v1 f) (h2 : Fml w v2 g) :
    Calls Tryd.prog 22 #[.agg #[.int .i64 4, .int .i64 i, .int .i64 e, .int .i64 k, .int .i64 p, .int .i64 q], v1, v2, vt] w fun e' w' => ∃ u, e' = .returned u ∧ Made w w' u (bldN ⟨4, i, e, k, p, q⟩ f g) := by
  obtain ⟨A1, c1, rfl, _⟩ := fml_slice h1
  obtain ⟨A2, c2, rfl, _⟩ := fml_slice h2
  have H1 := Lib.hid h1
  have H2 := Lib.hid h2
  have X0 := Lib.hid ((Ext.refl w).alloc (.cells #[.int .i64 4, .int .i64 i, .int .i64 e, .int .i64 k, .int .i64 p, .int .i64 q] 46))
  clear h1 h2
  go_enter Tryd.func22, Tryd.ntmps22
  go_wp2_with fail
  refine (nb_not i e k p q _ _ f g _ (H1.out.ext X0.out) (H2.out.ext X0.out)).mono ?_
  rintro e' w1 ⟨u, rfl, hm⟩
  have HM := Lib.hid hm
  clear hm
  go_wp2_with fail
  go_ret
  exact ⟨_, rfl, HM.out.before X0.out⟩
set_option maxRecDepth 100000 in
set_option maxHeartbeats 4000000 in
theorem sub1_and {w : World} (vt : Value) (i e k p q : Int) (v1 v2 : Value) (f g : List Nd) (h1 : Fml w v1 f) (h2 : Fml w v2 g) :
    Calls Tryd.prog 22 #[.agg #[.int .i64 5, .int .i64 i, .int .i64 e, .int .i64 k, .int .i64 p, .int .i64 q], v1, v2, vt] w fun e' w' => ∃ u, e' = .returned u ∧ Made w w' u (bldN ⟨5, i, e, k, p, q⟩ f g) := by
  obtain ⟨A1, c1, rfl, _⟩ := fml_slice h1
  obtain ⟨A2, c2, rfl, _⟩ := fml_slice h2
  have H1 := Lib.hid h1
  have H2 := Lib.hid h2
  have X0 := Lib.hid ((Ext.refl w).alloc (.cells #[.int .i64 5, .int .i64 i, .int .i64 e, .int .i64 k, .int .i64 p, .int .i64 q] 46))
  clear h1 h2
  go_enter Tryd.func22, Tryd.ntmps22
  go_wp2_with fail
  refine (nb_and i e k p q _ _ f g _ (H1.out.ext X0.out) (H2.out.ext X0.out)).mono ?_
  rintro e' w1 ⟨u, rfl, hm⟩
  have HM := Lib.hid hm
  clear hm
  go_wp2_with fail
  go_ret
  exact ⟨_, rfl, HM.out.before X0.out⟩
set_option maxRecDepth 100000 in
set_option maxHeartbeats 4000000 in
theorem sub1_or {w : World} (vt : Value) (i e k p q : Int) (v1 v2 : Value) (f g : List Nd) (h1 : Fml w v1 f) (h2 : Fml w v2 g) :
    Calls Tryd.prog 22 #[.agg #[.int .i64 6, .int .i64 i, .int .i64 e, .int .i64 k, .int .i64 p, .int .i64 q], v1, v2, vt] w fun e' w' => ∃ u, e' = .returned u ∧ Made w w' u (bldN ⟨6, i, e, k, p, q⟩ f g) := by
  obtain ⟨A1, c1, rfl, _⟩ := fml_slice h1
  obtain ⟨A2, c2, rfl, _⟩ := fml_slice h2
  have H1 := Lib.hid h1
  have H2 := Lib.hid h2
  have X0 := Lib.hid ((Ext.refl w).alloc (.cells #[.int .i64 6, .int .i64 i, .int .i64 e, .int .i64 k, .int .i64 p, .int .i64 q] 46))
  clear h1 h2
  go_enter Tryd.func22, Tryd.ntmps22
  go_wp2_with fail
  refine (nb_or i e k p q _ _ f g _ (H1.out.ext X0.out) (H2.out.ext X0.out)).mono ?_
  rintro e' w1 ⟨u, rfl, hm⟩
  have HM := Lib.hid hm
  clear hm
  go_wp2_with fail
  go_ret
  exact ⟨_, rfl, HM.out.before X0.out⟩
set_option maxRecDepth 100000 in
set_option maxHeartbeats 4000000 in
theorem sub1_imp {w : World} (vt : Value) (i e k p q : Int) (v1 v2 : Value) (f g : List Nd) (h1 : Fml w v1 f) (h2 : Fml w v2 g) :
    Calls Tryd.prog 22 #[.agg #[.int .i64 7, .int .i64 i, .int .i64 e, .int .i64 k, .int .i64 p, .int .i64 q], v1, v2, vt] w fun e' w' => ∃ u, e' = .returned u ∧ Made w w' u (bldN ⟨7, i, e, k, p, q⟩ f g) := by
  obtain ⟨A1, c1, rfl, _⟩ := fml_slice h1
  obtain ⟨A2, c2, rfl, _⟩ := fml_slice h2
  have H1 := Lib.hid h1
  have H2 := Lib.hid h2
  have X0 := Lib.hid ((Ext.refl w).alloc (.cells #[.int .i64 7, .int .i64 i, .int .i64 e, .int .i64 k, .int .i64 p, .int .i64 q] 46))
  clear h1 h2
  go_enter Tryd.func22, Tryd.ntmps22
  go_wp2_with fail
  refine (nb_imp i e k p q _ _ f g _ (H1.out.ext X0.out) (H2.out.ext X0.out)).mono ?_
  rintro e' w1 ⟨u, rfl, hm⟩
  have HM := Lib.hid hm
  clear hm
  go_wp2_with fail
  go_ret
  exact ⟨_, rfl, HM.out.before X0.out⟩
set_option maxRecDepth 100000 in
set_option maxHeartbeats 4000000 in
theorem sub1_iff {w : World} (vt : Value) (i e k p q : Int) (v1 v2 : Value) (f g : List Nd) (h1 : Fml w v1 f) (h2 : Fml w v2 g) :
    Calls Tryd.prog 22 #[.agg #[.int .i64 8, .int .i64 i, .int .i64 e, .int .i64 k, .int .i64 p, .int .i64 q], v1, v2, vt] w fun e' w' => ∃ u, e' = .returned u ∧ Made w w' u (bldN ⟨8, i, e, k, p, q⟩ f g) := by
  obtain ⟨A1, c1, rfl, _⟩ := fml_slice h1
  obtain ⟨A2, c2, rfl, _⟩ := fml_slice h2
  have H1 := Lib.hid h1
  have H2 := Lib.hid h2
  have X0 := Lib.hid ((Ext.refl w).alloc (.cells #[.int .i64 8, .int .i64 i, .int .i64 e, .int .i64 k, .int .i64 p, .int .i64 q] 46))
  clear h1 h2
  go_enter Tryd.func22, Tryd.ntmps22
  go_wp2_with fail
  refine (nb_iff i e k p q _ _ f g _ (H1.out.ext X0.out) (H2.out.ext X0.out)).mono ?_
  rintro e' w1 ⟨u, rfl, hm⟩
  have HM := Lib.hid hm
  clear hm
  go_wp2_with fail
  go_ret
  exact ⟨_, rfl, HM.out.before X0.out⟩
set_option maxRecDepth 100000 in
set_option maxHeartbeats 4000000 in
theorem sub1_know {w : World} (vt : Value) (i e k p q : Int) (hi : i64ok i) (v1 v2 : Value) (f g : List Nd) (h1 : Fml w v1 f) (h2 : Fml w v2 g) :
    Calls Tryd.prog 22 #[.agg #[.int .i64 9, .int .i64 i, .int .i64 e, .int .i64 k, .int .i64 p, .int .i64 q], v1, v2, vt] w fun e' w' => ∃ u, e' = .returned u ∧ Made w w' u (bldN ⟨9, i, e, k, p, q⟩ f g) := by
  obtain ⟨A1, c1, rfl, _⟩ := fml_slice h1
  obtain ⟨A2, c2, rfl, _⟩ := fml_slice h2
  have H1 := Lib.hid h1
  have H2 := Lib.hid h2
  have X0 := Lib.hid ((Ext.refl w).alloc (.cells #[.int .i64 9, .int .i64 i, .int .i64 e, .int .i64 k, .int .i64 p, .int .i64 q] 46))
  clear h1 h2
  go_enter Tryd.func22, Tryd.ntmps22
  go_wp2_with fail
  refine (nb_know i e k p q hi _ _ f g _ (H1.out.ext X0.out) (H2.out.ext X0.out)).mono ?_
  rintro e' w1 ⟨u, rfl, hm⟩
  have HM := Lib.hid hm
  clear hm
  go_wp2_with fail
  go_ret
  exact ⟨_, rfl, HM.out.before X0.out⟩
set_option maxRecDepth 100000 in
set_option maxHeartbeats 4000000 in
theorem sub1_poss {w : World} (vt : Value) (i e k p q : Int) (hi : i64ok i) (v1 v2 : Value) (f g : List Nd) (h1 : Fml w v1 f) (h2 : Fml w v2 g) :
    Calls Tryd.prog 22 #[.agg #[.int .i64 10, .int .i64 i, .int .i64 e, .int .i64 k, .int .i64 p, .int .i64 q], v1, v2, vt] w fun e' w' => ∃ u, e' = .returned u ∧ Made w w' u (bldN ⟨10, i, e, k, p, q⟩ f g) := by
  obtain ⟨A1, c1, rfl, _⟩ := fml_slice h1
  obtain ⟨A2, c2, rfl, _⟩ := fml_slice h2
  have H1 := Lib.hid h1
  have H2 := Lib.hid h2
  have X0 := Lib.hid ((Ext.refl w).alloc (.cells #[.int .i64 10, .int .i64 i, .int .i64 e, .int .i64 k, .int .i64 p, .int .i64 q] 46))
  clear h1 h2
  go_enter Tryd.func22, Tryd.ntmps22
  go_wp2_with fail
  refine (nb_poss i e k p q hi _ _ f g _ (H1.out.ext X0.out) (H2.out.ext X0.out)).mono ?_
  rintro e' w1 ⟨u, rfl, hm⟩
  have HM := Lib.hid hm
  clear hm
  go_wp2_with fail
  go_ret
  exact ⟨_, rfl, HM.out.before X0.out⟩
set_option maxRecDepth 100000 in
set_option maxHeartbeats 4000000 in
theorem sub1_fact {w : World} {bt : Nat} {vt : Value} {tl : List (List Nd)} (hb : w.cell? ⟨bt, 0, none⟩ = some vt) (ht : Fmls w vt tl) (j : Nat) (hj8 : j < 8) (e k p q : Int) (v1 v2 : Value) (f g : List Nd) (h1 : Fml w v1 f) (h2 : Fml w v2 g) :
    Calls Tryd.prog 22 #[.agg #[.int .i64 3, .int .i64 (j : Int), .int .i64 e, .int .i64 k, .int .i64 p, .int .i64 q], v1, v2, .pointer (some ⟨bt, 0, none⟩)] w fun e' w' => ∃ u, e' = .returned u ∧ Made w w' u (ruleS tl ⟨3, (j : Int), e, k, p, q⟩ f g) := by
  obtain ⟨A1, c1, rfl, _⟩ := fml_slice h1
  obtain ⟨A2, c2, rfl, _⟩ := fml_slice h2
  have H1 := Lib.hid h1
  have H2 := Lib.hid h2
  have X0 := Lib.hid ((Ext.refl w).alloc (.cells #[.int .i64 3, .int .i64 (j : Int), .int .i64 e, .int .i64 k, .int .i64 p, .int .i64 q] 46))
  obtain ⟨A, c, rfl, hc1, hc2, hcc⟩ := ht
  have hz := (X0.out.cell (p := ⟨bt, 0, none⟩) (World.block_lt_of_cell? w _ hb)).trans hb
  by_cases hj : j < tl.length
  · obtain ⟨ad, rfl, hlt, hat⟩ := hcc (by intro e; rw [e] at hj; simp at hj)
    obtain ⟨u, hu, hf⟩ := hat j tl[j] (List.getElem?_eq_getElem hj)
    have hu1 := (X0.out.cell (p := ad.add j) (by rw [block_of_add]; exact hlt)).trans hu
    have HR := Lib.hid (show ruleS tl ⟨3, (j : Int), e, k, p, q⟩ f g = compactN tl[j] by
      unfold ruleS
      rw [show (((3 : Int) == 3) && decide ((j : Int) < (tl.length : Int))) = true by rw [decide_eq_true (by omega)]; rfl, cond_true, Int.toNat_natCast, List.getD_eq_getElem?_getD, List.getElem?_eq_getElem hj]; rfl)
    have HF := Lib.hid (hf.ext X0.out)
    have hji : (j : Int) < (tl.length : Int) := by omega
    obtain ⟨Au, cu, rfl, _⟩ := fml_slice hf
    generalize tl[j] = l at HR HF hu1
    clear h1 h2 hat hu hf hb
    go_enter Tryd.func22, Tryd.ntmps22
    go_wp2_with fail
    refine (compactF_any _ l _ HF.out).mono ?_
    rintro e' w1 ⟨u, rfl, hm⟩
    have HM := Lib.hid hm
    clear hm
    go_wp2_with fail
    go_ret
    exact ⟨_, rfl, by rw [HR.out]; exact HM.out.before X0.out⟩
  · have HR := Lib.hid (show ruleS tl ⟨3, (j : Int), e, k, p, q⟩ f g = factN (j : Int) by
      unfold ruleS
      rw [show (((3 : Int) == 3) && decide ((j : Int) < (tl.length : Int))) = false by rw [decide_eq_false (by omega)]; rfl, cond_false]; rfl)
    have hji : ¬ (j : Int) < (tl.length : Int) := by omega
    clear h1 h2 hcc hb
    go_enter Tryd.func22, Tryd.ntmps22
    go_wp2_with fail
    refine (nb_fact (j : Int) e k p q ⟨by omega, by omega⟩ _ _ f g _ (H1.out.ext X0.out) (H2.out.ext X0.out)).mono ?_
    rintro e' w1 ⟨u, rfl, hm⟩
    have HM := Lib.hid hm
    clear hm
    go_wp2_with fail
    go_ret
    exact ⟨_, rfl, by rw [HR.out]; exact HM.out.before X0.out⟩
theorem rule_bld {tl : List (List Nd)} {n : Nd} {a b : List Nd} (h : n.op ≠ 3) : ruleS tl n a b = bldN n a b := by
  unfold ruleS
  rw [show (n.op == 3) = false by simpa using h]; rfl
/-- What comes of a node. -/
theorem sub1_any {w : World} {bt : Nat} {vt : Value} {tl : List (List Nd)} (hb : w.cell? ⟨bt, 0, none⟩ = some vt) (ht : Fmls w vt tl) {n : Nd} (hn : 1 ≤ n.op ∧ n.op ≤ 10) (hi : i64ok n.i) (h3 : n.op = 3 → 0 ≤ n.i ∧ n.i < 8) (v1 v2 : Value) (f g : List Nd) (h1 : Fml w v1 f) (h2 : Fml w v2 g) :
    Calls Tryd.prog 22 #[.agg #[.int .i64 n.op, .int .i64 n.i, .int .i64 n.e, .int .i64 n.g, .int .i64 n.x, .int .i64 n.y], v1, v2, .pointer (some ⟨bt, 0, none⟩)] w fun e' w' => ∃ u, e' = .returned u ∧ Made w w' u (ruleS tl n f g) := by
  obtain ⟨o, i, e, k, p, q⟩ := n
  simp only at hn hi h3
  rcases (show o = 1 ∨ o = 2 ∨ o = 3 ∨ o = 4 ∨ o = 5 ∨ o = 6 ∨ o = 7 ∨ o = 8 ∨ o = 9 ∨ o = 10 by omega) with rfl | rfl | rfl | rfl | rfl | rfl | rfl | rfl | rfl | rfl
  · rw [rule_bld (show (1 : Int) ≠ 3 by decide)]
    exact sub1_true _ i e k p q v1 v2 f g h1 h2
  · rw [rule_bld (show (2 : Int) ≠ 3 by decide)]
    exact sub1_false _ i e k p q v1 v2 f g h1 h2
  · obtain ⟨a, b⟩ := h3 rfl
    obtain ⟨j, rfl⟩ := Int.eq_ofNat_of_zero_le a
    exact sub1_fact hb ht j (by omega) e k p q v1 v2 f g h1 h2
  · rw [rule_bld (show (4 : Int) ≠ 3 by decide)]
    exact sub1_not _ i e k p q v1 v2 f g h1 h2
  · rw [rule_bld (show (5 : Int) ≠ 3 by decide)]
    exact sub1_and _ i e k p q v1 v2 f g h1 h2
  · rw [rule_bld (show (6 : Int) ≠ 3 by decide)]
    exact sub1_or _ i e k p q v1 v2 f g h1 h2
  · rw [rule_bld (show (7 : Int) ≠ 3 by decide)]
    exact sub1_imp _ i e k p q v1 v2 f g h1 h2
  · rw [rule_bld (show (8 : Int) ≠ 3 by decide)]
    exact sub1_iff _ i e k p q v1 v2 f g h1 h2
  · rw [rule_bld (show (9 : Int) ≠ 3 by decide)]
    exact sub1_know _ i e k p q hi v1 v2 f g h1 h2
  · rw [rule_bld (show (10 : Int) ≠ 3 by decide)]
    exact sub1_poss _ i e k p q hi v1 v2 f g h1 h2
end Go.Proofs.YtohoddkcpfamlaaDoor

/- rewrite.upward and rewrite.Subst: what they return. -/

namespace Go.Proofs.YtohoddkcpfamlaaDoor
open Go.RowKit

theorem fact_rng {n : Nd} (h : headOk n) (ho : n.op = 3) : 0 ≤ n.i ∧ n.i < 8 := by
  obtain ⟨_, _, h3, _, _⟩ := h
  unfold rangeBad at h3
  rw [ho] at h3
  simp [outsideB, hasFact, hasAgent, hasEvent, hasGroup] at h3
  omega
theorem nfml (w : World) : Fml w (.slice none 0 0) [] := (Made.none_ w).fml
/-- The value's block is none of an older world. -/
def NewV (w : World) (u : Value) : Prop := ∀ g, u.ownBlock = some g → w.heap.size ≤ g
theorem NewV.mono {w w' : World} {u : Value} (h : NewV w' u) (hs : w.heap.size ≤ w'.heap.size) : NewV w u := fun g hg => Nat.le_trans hs (h g hg)
theorem FRow.cellsA {w0 w : World} {vo : Value} {out : List (List Nd)} (h : FRow w0 w vo out) :
    ∃ A c, vo = .slice A out.length c ∧ (out ≠ [] → ∃ ad, A = some ad ∧ ad.block < w.heap.size ∧ ∀ k l, out[k]? = some l → ∃ u, w.cell? (ad.add k) = some u ∧ Fml w u l ∧ Away w0.heap.size w vo u) := by
  obtain ⟨ss, hs, hv⟩ := h.row
  by_cases h0 : 0 < out.length
  · obtain ⟨g, cap, rfl, hg, _, _, hc⟩ := row1_cellsF hs h0
    refine ⟨_, cap, rfl, fun _ => ⟨_, rfl, hg, fun k f hk => ?_⟩⟩
    obtain ⟨u, a, b, c⟩ := hv k f hk
    exact ⟨u, by rw [addr_zero]; exact hc k u a, b, c⟩
  · obtain ⟨A, c, rfl⟩ := slice_of_row hs
    exact ⟨A, c, rfl, fun hne => absurd (List.length_eq_zero_iff.1 (by omega)) hne⟩
set_option maxRecDepth 100000 in
set_option maxHeartbeats 16000000 in
theorem upward_any {w : World} {bt : Nat} {vt vf : Value} {f : List Nd} {tl : List (List Nd)} (hb : w.cell? ⟨bt, 0, none⟩ = some vt) (ht : Fmls w vt tl) (hf : Fml w vf f) (hc : check f = 0) (hF : Few10 (compactN f)) :
    Calls Tryd.prog 21 #[vf, .func (.func 22) #[] #[.pointer (some ⟨bt, 0, none⟩)]] w fun e' w' => ∃ u, e' = .returned (.tuple #[u, .int .i64 (substN tl f).2]) ∧ Ext w w' ∧ Fml w' u (substN tl f).1 ∧ NewV w u := by
  have H := Lib.hid hf
  have HC := Lib.hid hc
  have HBT := Lib.hid hb
  have HTL := Lib.hid ht
  obtain ⟨iI, hiI, hzI0, hzI1, hzI2⟩ := info_parts tInfoF2
  obtain ⟨A, c, rfl, _⟩ := fml_slice hf
  have hcc := compactN_check hc
  have HNO : Hid (upGo tl (compactN f) [] = none → substN tl f = ([], 8)) := Lib.hid (fun h => by unfold substN; rw [h])
  have HYES : Hid (∀ D, upGo tl (compactN f) [] = some D → substN tl f = (D.getD ((compactN f).length - 1) [], 0)) := Lib.hid (fun D h => by unfold substN; rw [h])
  have hwf := check_wf hcc
  have hhd := heads_of hcc
  have hlen := (check_parts hcc).2.1
  have hpos := (check_parts hcc).1
  obtain ⟨cl, hcl⟩ : ∃ z, z = compactN f := ⟨_, rfl⟩
  rw [← hcl] at hwf hhd hlen hpos hF HNO HYES
  have HWF := Lib.hid hwf
  have HHD := Lib.hid hhd
  have HF10 := Lib.hid hF
  have HCL := Lib.hid hcl
  clear hf hc hb ht hF hcl hcc hwf hhd
  go_enter Tryd.func21, Tryd.ntmps21
  go_wp2_with fail
  refine (check_any _ f _ H.out.1).mono ?_
  rintro e' w1 ⟨rfl, hx1⟩
  rw [HC.out]
  have X1 := Lib.hid hx1
  clear hx1
  go_wp2_with fail
  refine (compactF_any _ f _ (H.out.ext X1.out)).mono ?_
  rintro e' w2 ⟨u, rfl, hm⟩
  rw [← HCL.out] at hm
  have X2 := Lib.hid (X1.out.trans hm.ext)
  have HOK := Lib.hid hm.2.1
  obtain ⟨Ac, cc, rfl, hat⟩ := fml_slice hm.fml
  have HR := Lib.hid hat.2.2
  clear hm hat
  go_wp2_with fail
  go_loopw [7, 21] (fun vo vi wr => ∃ k : Nat, vi = .int .i64 (k : Int) ∧ k ≤ cl.length ∧ Hid (∃ D : List (List Nd), FRow w2 wr vo D ∧ D.length = k ∧ upGo tl (cl.drop k) D = upGo tl cl [])) (fun _ v _ => cl.length - (intOf v).toNat)
  case atStart => exact ⟨0, rfl, Nat.zero_le _, Lib.hid ⟨[], FRow.nil _, rfl, rfl⟩⟩
  case round =>
    obtain ⟨k, rfl, hk, HREL⟩ := hrel
    obtain ⟨out, hfr, hol, hup⟩ := HREL.out
    clear HREL
    subst hol
    obtain ⟨us, hrow, hus⟩ := hfr.row
    obtain ⟨Ao, co, rfl⟩ := slice_of_row hrow
    have HFR := Lib.hid hfr
    have HROW := Lib.hid hrow
    have HUS := Lib.hid hus
    have HUP := Lib.hid hup
    have HE := Lib.hid (X2.out.trans hfr.ext)
    have HDA : Hid (out ≠ [] → ∃ ad, Ao = some ad ∧ ad.block < wr.heap.size ∧ ∀ k l, out[k]? = some l → ∃ u, wr.cell? (ad.add k) = some u ∧ Fml wr u l ∧ NewV w u) := Lib.hid (by
      obtain ⟨A', c', e', h'⟩ := hfr.cellsA
      injection e' with e1
      subst e1
      intro hne
      obtain ⟨ad, ea, hb, hc⟩ := h' hne
      refine ⟨ad, ea, hb, fun k l hk => ?_⟩
      obtain ⟨u, q1, q2, q3⟩ := hc k l hk
      exact ⟨u, q1, q2, fun g hg => Nat.le_trans X2.out.size (q3 g hg).2.2⟩)
    clear hfr hrow hus hup
    by_cases hlt2 : out.length < cl.length
    · obtain ⟨a, ha⟩ : ∃ a, cl[out.length]? = some a := ⟨_, List.getElem?_eq_getElem hlt2⟩
      have ham := List.mem_of_getElem? ha
      obtain ⟨ad, rfl, hb1, hc1⟩ := HR.out (by intro e; rw [e] at hlt2; simp at hlt2)
      obtain ⟨a0, a1, a2, a3, a4, a5⟩ := (hc1 out.length a ha).keep fun p hp => HFR.out.ext.cell (p := p) (by rw [hp, block_of_add]; exact hb1)
      have hop := HF10.out a ham
      have hok := HOK.out a ham
      have hii : i64ok a.i := hok.2.1
      obtain ⟨hwx, hwy⟩ := HWF.out _ _ ha
      have h3 : a.op = 3 → 0 ≤ a.i ∧ a.i < 8 := fact_rng (HHD.out a ham)
      have HDR : Hid (cl.drop out.length = a :: cl.drop (out.length + 1)) := Lib.hid (by rw [List.drop_eq_getElem_cons hlt2]; rw [List.getElem?_eq_getElem hlt2] at ha; injection ha with ha; rw [ha])
      have hc3 : out.length + 1 ≤ maxLen := by unfold maxLen; omega
      have hc4 : (out.length + 1) * 24 ≤ 140737488355328 := by omega
      have hk1 : (out.length : Int) < (cl.length : Int) := by omega
      obtain ⟨o, i, e, g, x, y⟩ := a
      simp only at a0 a1 a2 a3 a4 a5 hop hii hwx hwy h3
      have X0 := Lib.hid ((Ext.refl wr).alloc (.cells #[.int .i64 o, .int .i64 i, .int .i64 e, .int .i64 g, .int .i64 x, .int .i64 y] 46))
      have B0 := Lib.hid (heap_alloc_new wr (.cells #[.int .i64 o, .int .i64 i, .int .i64 e, .int .i64 g, .int .i64 x, .int .i64 y] 46))
      clear ha ham hc1 hok
      rcases (show (o = 1 ∨ o = 2 ∨ o = 3) ∨ (o = 4 ∨ o = 9 ∨ o = 10) ∨ (o = 5 ∨ o = 6 ∨ o = 7 ∨ o = 8) by omega) with ho | ho | ho
      · clear hwx hwy
        have hhx : hasY o = false := by rcases ho with h | h | h <;> rw [h] <;> rfl
        have h4 : ¬ (4 : Int) ≤ o := by omega
        have HAX : Hid (argX out ⟨o, i, e, g, x, y⟩ = []) := Lib.hid (by unfold argX; rw [decide_eq_false h4]; rfl)
        have HAY : Hid (argY out ⟨o, i, e, g, x, y⟩ = []) := Lib.hid (by unfold argY; rw [show hasY (⟨o, i, e, g, x, y⟩ : Nd).op = false from hhx]; rfl)
        go_wp2_with fail
        refine (nbinary_any o hop _).mono ?_
        rintro e' w3 ⟨rfl, hx⟩
        rw [hhx]
        have Y3 := Lib.hid (X0.out.trans hx)
        obtain ⟨⟨z0, z1, z2, z3, z4, z5⟩, _, zlt⟩ := cells6 ((hx.block (lt_heap B0.out)).trans B0.out)
        clear hx
        go_wp2_with fail
        refine (sub1_any (n := ⟨o, i, e, g, x, y⟩) ((HE.out.trans Y3.out).cell (p := ⟨bt, 0, none⟩) (World.block_lt_of_cell? _ _ HBT.out) |>.trans HBT.out) (HTL.out.ext (HE.out.trans Y3.out)) hop hii h3 _ _ [] [] (nfml _) (nfml _)).mono ?_
        rintro e' w4 ⟨u, rfl, hm⟩
        obtain ⟨r, hr⟩ : ∃ r, r = ruleS tl ⟨o, i, e, g, x, y⟩ [] [] := ⟨_, rfl⟩
        rw [← hr] at hm
        have HM := Lib.hid (hm.before Y3.out)
        have Y4 := Lib.hid HM.out.ext
        have HG : Hid (upGo tl (cl.drop out.length) out = bif decide (r.length = 0) then none else upGo tl (cl.drop (out.length + 1)) (out ++ [r])) := Lib.hid (by rw [HDR.out]; show (bif decide ((ruleS tl _ (argX out _) (argY out _)).length = 0) then none else upGo tl _ (out ++ [ruleS tl _ (argX out _) (argY out _)])) = _; rw [HAX.out, HAY.out, hr])
        obtain ⟨Au, cu, rfl, _⟩ := fml_slice HM.out.fml
        clear hm hr z0 z1 z2 z3 z4 z5 zlt
        by_cases hz : r.length = 0
        · have HSV := Lib.hid (HNO.out (by rw [← HUP.out, HG.out, hz]; rfl))
          go_wp2_with fail
          go_ret2
          exact ⟨_, by rw [HSV.out] <;> rfl, HE.out.trans Y4.out, by rw [HSV.out]; exact nfml _, fun g hg => by cases hg⟩
        · have hz1 : 0 < r.length := by omega
          have hzi : ((r.length : Int) == 0) = false := by rw [beq_eq_false_iff_ne]; omega
          go_wp2_with (at_builtin; refine wpList_append_own_at _ rfl _ _ 25 rfl w2.heap.size 28 iI (.slice none 0 0) 1 24 Tryd.underlying25 hiI hzI0 hzI1 hzI2 rfl (by decide) _ out.length us rfl (row_ext HROW.out (Y4.out.alloc _)) ⟨_, 0, none⟩ 1 1 [.slice Au r.length cu] rfl rfl (row_new_at _ _ _ (by simp)) (fun u hu => by rw [List.mem_singleton.1 hu]; rfl) hc3 hc4 (Nat.le_trans HFR.out.ext.size (Y4.out.alloc _).size) ?_)
          intro v7 w7 hown7 hgrow7 _ hat7
          have HPS := Lib.hid (FRow.push (s := r) ((HFR.out.ext.trans Y4.out).alloc _) (row_ext HROW.out (Y4.out.alloc _)) (fun k s hk => by
            obtain ⟨u, a, b, c⟩ := HUS.out k s hk
            exact ⟨u, a, b.ext (Y4.out.alloc _), c.ext (Y4.out.alloc _)⟩) hown7 hgrow7 (hat7.imp id (fun e => e.trans (by simp))) (HM.out.fml.ext ((Ext.refl _).alloc _)) (made_away (Nat.le_refl _) (row_ext HM.out.1 ((Ext.refl _).alloc _)) HROW.out HFR.out.ext.size))
          obtain ⟨A7, c7, rfl⟩ := slice_of_row hown7
          clear hown7 hgrow7 hat7
          go_wp2_with fail
          go_roundw
          case rel => exact ⟨out.length + 1, rfl, by omega, Lib.hid ⟨_, HPS.out, by rw [List.length_append]; rfl, by rw [← HUP.out, HG.out, decide_eq_false hz]; rfl⟩⟩
          case measure => simp [intOf]; omega
      · clear hwy
        obtain ⟨ado, rfl, hdl, hda⟩ := HDA.out (fun e0 => by have := hwx (by unfold hasX; rw [decide_eq_true (show (4 : Int) ≤ o by omega), decide_eq_true (show o ≤ 21 by omega)]; rfl); rw [e0] at this; simp at this; omega)
        have hhx : hasY o = false := by rcases ho with h | h | h <;> rw [h] <;> rfl
        have h4 : (4 : Int) ≤ o := by omega
        have hx0 := hwx (by unfold hasX; rw [decide_eq_true h4, decide_eq_true (show o ≤ 21 by omega)]; rfl)
        obtain ⟨jx, hjx⟩ := Int.eq_ofNat_of_zero_le hx0.1
        have hjx1 : jx < out.length := by omega
        subst hjx
        obtain ⟨lx, hlx⟩ : ∃ l, out[jx]? = some l := ⟨_, List.getElem?_eq_getElem hjx1⟩
        obtain ⟨ux, hux, hfx, _⟩ := hda jx lx hlx
        have HFX := Lib.hid hfx
        have hxi : (jx : Int) < (out.length : Int) := by omega
        have hux0 := (X0.out.cell (p := ado.add jx) (by rw [block_of_add]; exact hdl)).trans hux
        obtain ⟨Aux, cux, rfl, _⟩ := fml_slice hfx
        have HAX : Hid (argX out ⟨o, i, e, g, (jx : Int), y⟩ = lx) := Lib.hid (by unfold argX; rw [decide_eq_true h4, cond_true]; show out.getD (jx : Int).toNat [] = lx; rw [Int.toNat_natCast, List.getD_eq_getElem?_getD, hlx]; rfl)
        clear hlx hfx
        have HAY : Hid (argY out ⟨o, i, e, g, (jx : Int), y⟩ = []) := Lib.hid (by unfold argY; rw [show hasY (⟨o, i, e, g, (jx : Int), y⟩ : Nd).op = false from hhx]; rfl)
        clear hda
        go_wp2_with fail
        refine (nbinary_any o hop _).mono ?_
        rintro e' w3 ⟨rfl, hx⟩
        rw [hhx]
        have Y3 := Lib.hid (X0.out.trans hx)
        obtain ⟨⟨z0, z1, z2, z3, z4, z5⟩, _, zlt⟩ := cells6 ((hx.block (lt_heap B0.out)).trans B0.out)
        clear hx
        go_wp2_with fail
        refine (sub1_any (n := ⟨o, i, e, g, (jx : Int), y⟩) ((HE.out.trans Y3.out).cell (p := ⟨bt, 0, none⟩) (World.block_lt_of_cell? _ _ HBT.out) |>.trans HBT.out) (HTL.out.ext (HE.out.trans Y3.out)) hop hii h3 _ _ lx [] (HFX.out.ext Y3.out) (nfml _)).mono ?_
        rintro e' w4 ⟨u, rfl, hm⟩
        obtain ⟨r, hr⟩ : ∃ r, r = ruleS tl ⟨o, i, e, g, (jx : Int), y⟩ lx [] := ⟨_, rfl⟩
        rw [← hr] at hm
        have HM := Lib.hid (hm.before Y3.out)
        have Y4 := Lib.hid HM.out.ext
        have HG : Hid (upGo tl (cl.drop out.length) out = bif decide (r.length = 0) then none else upGo tl (cl.drop (out.length + 1)) (out ++ [r])) := Lib.hid (by rw [HDR.out]; show (bif decide ((ruleS tl _ (argX out _) (argY out _)).length = 0) then none else upGo tl _ (out ++ [ruleS tl _ (argX out _) (argY out _)])) = _; rw [HAX.out, HAY.out, hr])
        obtain ⟨Au, cu, rfl, _⟩ := fml_slice HM.out.fml
        clear hm hr z0 z1 z2 z3 z4 z5 zlt
        by_cases hz : r.length = 0
        · have HSV := Lib.hid (HNO.out (by rw [← HUP.out, HG.out, hz]; rfl))
          go_wp2_with fail
          go_ret2
          exact ⟨_, by rw [HSV.out] <;> rfl, HE.out.trans Y4.out, by rw [HSV.out]; exact nfml _, fun g hg => by cases hg⟩
        · have hz1 : 0 < r.length := by omega
          have hzi : ((r.length : Int) == 0) = false := by rw [beq_eq_false_iff_ne]; omega
          go_wp2_with (at_builtin; refine wpList_append_own_at _ rfl _ _ 25 rfl w2.heap.size 28 iI (.slice none 0 0) 1 24 Tryd.underlying25 hiI hzI0 hzI1 hzI2 rfl (by decide) _ out.length us rfl (row_ext HROW.out (Y4.out.alloc _)) ⟨_, 0, none⟩ 1 1 [.slice Au r.length cu] rfl rfl (row_new_at _ _ _ (by simp)) (fun u hu => by rw [List.mem_singleton.1 hu]; rfl) hc3 hc4 (Nat.le_trans HFR.out.ext.size (Y4.out.alloc _).size) ?_)
          intro v7 w7 hown7 hgrow7 _ hat7
          have HPS := Lib.hid (FRow.push (s := r) ((HFR.out.ext.trans Y4.out).alloc _) (row_ext HROW.out (Y4.out.alloc _)) (fun k s hk => by
            obtain ⟨u, a, b, c⟩ := HUS.out k s hk
            exact ⟨u, a, b.ext (Y4.out.alloc _), c.ext (Y4.out.alloc _)⟩) hown7 hgrow7 (hat7.imp id (fun e => e.trans (by simp))) (HM.out.fml.ext ((Ext.refl _).alloc _)) (made_away (Nat.le_refl _) (row_ext HM.out.1 ((Ext.refl _).alloc _)) HROW.out HFR.out.ext.size))
          obtain ⟨A7, c7, rfl⟩ := slice_of_row hown7
          clear hown7 hgrow7 hat7
          go_wp2_with fail
          go_roundw
          case rel => exact ⟨out.length + 1, rfl, by omega, Lib.hid ⟨_, HPS.out, by rw [List.length_append]; rfl, by rw [← HUP.out, HG.out, decide_eq_false hz]; rfl⟩⟩
          case measure => simp [intOf]; omega
      · skip
        obtain ⟨ado, rfl, hdl, hda⟩ := HDA.out (fun e0 => by have := hwx (by unfold hasX; rw [decide_eq_true (show (4 : Int) ≤ o by omega), decide_eq_true (show o ≤ 21 by omega)]; rfl); rw [e0] at this; simp at this; omega)
        have hhx : hasY o = true := by rcases ho with h | h | h | h <;> rw [h] <;> rfl
        have h4 : (4 : Int) ≤ o := by omega
        have hx0 := hwx (by unfold hasX; rw [decide_eq_true h4, decide_eq_true (show o ≤ 21 by omega)]; rfl)
        obtain ⟨jx, hjx⟩ := Int.eq_ofNat_of_zero_le hx0.1
        have hjx1 : jx < out.length := by omega
        subst hjx
        obtain ⟨lx, hlx⟩ : ∃ l, out[jx]? = some l := ⟨_, List.getElem?_eq_getElem hjx1⟩
        obtain ⟨ux, hux, hfx, _⟩ := hda jx lx hlx
        have HFX := Lib.hid hfx
        have hxi : (jx : Int) < (out.length : Int) := by omega
        have hux0 := (X0.out.cell (p := ado.add jx) (by rw [block_of_add]; exact hdl)).trans hux
        obtain ⟨Aux, cux, rfl, _⟩ := fml_slice hfx
        have HAX : Hid (argX out ⟨o, i, e, g, (jx : Int), y⟩ = lx) := Lib.hid (by unfold argX; rw [decide_eq_true h4, cond_true]; show out.getD (jx : Int).toNat [] = lx; rw [Int.toNat_natCast, List.getD_eq_getElem?_getD, hlx]; rfl)
        clear hlx hfx
        have hy0 := hwy hhx
        obtain ⟨jy, hjy⟩ := Int.eq_ofNat_of_zero_le hy0.1
        have hjy1 : jy < out.length := by omega
        subst hjy
        obtain ⟨ly, hly⟩ : ∃ l, out[jy]? = some l := ⟨_, List.getElem?_eq_getElem hjy1⟩
        obtain ⟨uy, huy, hfy, _⟩ := hda jy ly hly
        have HFY := Lib.hid hfy
        have hyi : (jy : Int) < (out.length : Int) := by omega
        obtain ⟨Auy, cuy, rfl, _⟩ := fml_slice hfy
        have HAY : Hid (argY out ⟨o, i, e, g, (jx : Int), (jy : Int)⟩ = ly) := Lib.hid (by unfold argY; rw [show hasY (⟨o, i, e, g, (jx : Int), (jy : Int)⟩ : Nd).op = true from hhx, cond_true]; show out.getD (jy : Int).toNat [] = ly; rw [Int.toNat_natCast, List.getD_eq_getElem?_getD, hly]; rfl)
        clear hly hfy
        replace HAX : Hid (argX out ⟨o, i, e, g, (jx : Int), (jy : Int)⟩ = lx) := HAX
        clear hda
        go_wp2_with fail
        refine (nbinary_any o hop _).mono ?_
        rintro e' w3 ⟨rfl, hx⟩
        rw [hhx]
        have Y3 := Lib.hid (X0.out.trans hx)
        obtain ⟨⟨z0, z1, z2, z3, z4, z5⟩, _, zlt⟩ := cells6 ((hx.block (lt_heap B0.out)).trans B0.out)
        have huy3 := (Y3.out.cell (p := ado.add jy) (by rw [block_of_add]; exact hdl)).trans huy
        clear hx
        go_wp2_with fail
        refine (sub1_any (n := ⟨o, i, e, g, (jx : Int), (jy : Int)⟩) ((HE.out.trans Y3.out).cell (p := ⟨bt, 0, none⟩) (World.block_lt_of_cell? _ _ HBT.out) |>.trans HBT.out) (HTL.out.ext (HE.out.trans Y3.out)) hop hii h3 _ _ lx ly (HFX.out.ext Y3.out) (HFY.out.ext Y3.out)).mono ?_
        rintro e' w4 ⟨u, rfl, hm⟩
        obtain ⟨r, hr⟩ : ∃ r, r = ruleS tl ⟨o, i, e, g, (jx : Int), (jy : Int)⟩ lx ly := ⟨_, rfl⟩
        rw [← hr] at hm
        have HM := Lib.hid (hm.before Y3.out)
        have Y4 := Lib.hid HM.out.ext
        have HG : Hid (upGo tl (cl.drop out.length) out = bif decide (r.length = 0) then none else upGo tl (cl.drop (out.length + 1)) (out ++ [r])) := Lib.hid (by rw [HDR.out]; show (bif decide ((ruleS tl _ (argX out _) (argY out _)).length = 0) then none else upGo tl _ (out ++ [ruleS tl _ (argX out _) (argY out _)])) = _; rw [HAX.out, HAY.out, hr])
        obtain ⟨Au, cu, rfl, _⟩ := fml_slice HM.out.fml
        clear hm hr z0 z1 z2 z3 z4 z5 zlt
        by_cases hz : r.length = 0
        · have HSV := Lib.hid (HNO.out (by rw [← HUP.out, HG.out, hz]; rfl))
          go_wp2_with fail
          go_ret2
          exact ⟨_, by rw [HSV.out] <;> rfl, HE.out.trans Y4.out, by rw [HSV.out]; exact nfml _, fun g hg => by cases hg⟩
        · have hz1 : 0 < r.length := by omega
          have hzi : ((r.length : Int) == 0) = false := by rw [beq_eq_false_iff_ne]; omega
          go_wp2_with (at_builtin; refine wpList_append_own_at _ rfl _ _ 25 rfl w2.heap.size 28 iI (.slice none 0 0) 1 24 Tryd.underlying25 hiI hzI0 hzI1 hzI2 rfl (by decide) _ out.length us rfl (row_ext HROW.out (Y4.out.alloc _)) ⟨_, 0, none⟩ 1 1 [.slice Au r.length cu] rfl rfl (row_new_at _ _ _ (by simp)) (fun u hu => by rw [List.mem_singleton.1 hu]; rfl) hc3 hc4 (Nat.le_trans HFR.out.ext.size (Y4.out.alloc _).size) ?_)
          intro v7 w7 hown7 hgrow7 _ hat7
          have HPS := Lib.hid (FRow.push (s := r) ((HFR.out.ext.trans Y4.out).alloc _) (row_ext HROW.out (Y4.out.alloc _)) (fun k s hk => by
            obtain ⟨u, a, b, c⟩ := HUS.out k s hk
            exact ⟨u, a, b.ext (Y4.out.alloc _), c.ext (Y4.out.alloc _)⟩) hown7 hgrow7 (hat7.imp id (fun e => e.trans (by simp))) (HM.out.fml.ext ((Ext.refl _).alloc _)) (made_away (Nat.le_refl _) (row_ext HM.out.1 ((Ext.refl _).alloc _)) HROW.out HFR.out.ext.size))
          obtain ⟨A7, c7, rfl⟩ := slice_of_row hown7
          clear hown7 hgrow7 hat7
          go_wp2_with fail
          go_roundw
          case rel => exact ⟨out.length + 1, rfl, by omega, Lib.hid ⟨_, HPS.out, by rw [List.length_append]; rfl, by rw [← HUP.out, HG.out, decide_eq_false hz]; rfl⟩⟩
          case measure => simp [intOf]; omega
    · have hkl : out.length = cl.length := by omega
      obtain ⟨ado, rfl, hdl, hda⟩ := HDA.out (fun e0 => by rw [e0] at hkl; simp at hkl; omega)
      have HSV := Lib.hid (HYES.out out (by rw [← HUP.out, hkl, List.drop_of_length_le (Nat.le_refl _)]; rfl))
      obtain ⟨lz, hlz⟩ : ∃ l, out[out.length - 1]? = some l := ⟨_, List.getElem?_eq_getElem (by omega)⟩
      rw [← hkl, List.getD_eq_getElem?_getD, hlz] at HSV
      obtain ⟨ux, hux, hfx, hnew⟩ := hda (out.length - 1) lz hlz
      have HNEW := Lib.hid hnew
      have HFX := Lib.hid hfx
      clear hnew
      obtain ⟨Aux, cux, rfl, _⟩ := fml_slice hfx
      have hi1 : ((out.length : Int) - 1) < (out.length : Int) := by omega
      have hi0 : (0 : Int) ≤ (out.length : Int) - 1 := by omega
      have e1 : ((out.length : Int) - 1).toNat = out.length - 1 := by omega
      have hnl : ¬ (out.length : Int) < (cl.length : Int) := by omega
      clear hda hfx hkl hlz
      go_wp2_with fail
      go_ret2
      exact ⟨_, by rw [HSV.out] <;> rfl, HE.out, by rw [HSV.out]; exact HFX.out, HNEW.out⟩
end Go.Proofs.YtohoddkcpfamlaaDoor

/- rewrite.Subst: what it returns. -/

namespace Go.Proofs.YtohoddkcpfamlaaDoor
open Go.RowKit

theorem cell1n {w : World} {b : Nat} {a0 : Value} {t : TypeId} (h : w.heap[b]? = some (.cells #[a0] t (0, 0))) : w.cell? ⟨b, 0, none⟩ = some a0 ∧ b < w.heap.size :=
  ⟨by simp [World.cell?, h], lt_heap h⟩
set_option maxRecDepth 100000 in
set_option maxHeartbeats 4000000 in
theorem subst_any {w : World} {vf vt : Value} {f : List Nd} {tl : List (List Nd)} (hf : Fml w vf f) (ht : Fmls w vt tl) (hc : check f = 0) (hF : Few10 (compactN f)) (hto : ∀ g ∈ tl, check g = 0) (hsm : tl.length ≤ 1000) :
    Calls Tryd.prog 9 #[vf, vt] w fun e' w' => ∃ u, e' = .returned (.tuple #[u, .int .i64 (substN tl f).2]) ∧ Ext w w' ∧ Fml w' u (substN tl f).1 ∧ NewV w u := by
  have H := Lib.hid hf
  have HC := Lib.hid hc
  have HF := Lib.hid hF
  have HTO := Lib.hid hto
  have HTL := Lib.hid ht
  obtain ⟨A, c, rfl, _⟩ := fml_slice hf
  obtain ⟨At, ct, rfl, _, _, hat⟩ := ht
  have HAT := Lib.hid hat
  have X0 := Lib.hid ((Ext.refl w).alloc (.cells #[.slice At tl.length ct] 25))
  have B0 := Lib.hid (heap_alloc_new w (.cells #[.slice At tl.length ct] 25))
  clear hf hc hF hto hat
  go_enter Tryd.func9, Tryd.ntmps9
  go_wp2_with fail
  refine (check_any _ f _ (H.out.ext X0.out).1).mono ?_
  rintro e' w1 ⟨rfl, hx1⟩
  rw [HC.out]
  have X1 := Lib.hid (X0.out.trans hx1)
  have B1 := Lib.hid ((hx1.block (lt_heap B0.out)).trans B0.out)
  obtain ⟨z0, zlt⟩ := cell1n B1.out
  clear hx1
  go_wp2_with fail
  clear z0 zlt
  go_loopw [17] (fun vi wr => ∃ k : Nat, vi = .int .i64 (k : Int) ∧ k ≤ tl.length ∧ Ext w1 wr) (fun v _ => tl.length - (intOf v).toNat)
  case atStart => exact ⟨0, rfl, Nat.zero_le _, Ext.refl _⟩
  case round =>
    obtain ⟨k, rfl, hk, hext⟩ := hrel
    have E := Lib.hid (X1.out.trans hext)
    have HEX := Lib.hid hext
    clear hext
    by_cases hlt2 : k < tl.length
    · have hk1 : (k : Int) < (tl.length : Int) := by omega
      obtain ⟨ad, rfl, hdl, hda⟩ := HAT.out (by intro e; rw [e] at hlt2; simp at hlt2)
      obtain ⟨l, hl⟩ : ∃ l, tl[k]? = some l := ⟨_, List.getElem?_eq_getElem hlt2⟩
      obtain ⟨u, hu, hfl⟩ := hda k l hl
      have HCK := Lib.hid (HTO.out l (List.mem_of_getElem? hl))
      have hu1 := (E.out.cell (p := ad.add k) (by rw [block_of_add]; exact hdl)).trans hu
      have HFL := Lib.hid (hfl.ext E.out)
      obtain ⟨Au, cu, rfl, _⟩ := fml_slice hfl
      clear hda hl hu hfl
      go_wp2_with fail
      refine (check_any _ l _ HFL.out.1).mono ?_
      rintro e' w2 ⟨rfl, hx⟩
      rw [HCK.out]
      have HX := Lib.hid hx
      clear hx
      go_wp2_with fail
      go_roundw
      case rel => exact ⟨k + 1, by go_num, by omega, HEX.out.trans HX.out⟩
      case measure => simp [intOf]; omega
    · obtain rfl : tl.length = k := by omega
      have HZ := Lib.hid (cell1n ((HEX.out.block (lt_heap B1.out)).trans B1.out)).1
      go_wp2_with fail
      refine (upward_any (bt := w.heap.size) HZ.out (HTL.out.ext E.out) (H.out.ext E.out) HC.out HF.out).mono ?_
      rintro e' w2 ⟨u, rfl, hx, hu, hn⟩
      have HX := Lib.hid hx
      have HU := Lib.hid hu
      have HN := Lib.hid (hn.mono E.out.size)
      clear hx hu hn
      go_wp2_with fail
      go_ret2
      exact ⟨_, rfl, E.out.trans HX.out, HU.out, HN.out⟩
end Go.Proofs.YtohoddkcpfamlaaDoor
