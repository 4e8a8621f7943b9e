/- The constructors of formulas. -/
import Derived.Test.YtipnbfbakohcaaaDoorBuild
namespace Go.Proofs.YtipnbfbakohcaaaDoor
open Go.RowKit

theorem fmls_nil (w : World) : Fmls w (.slice none 0 0) [] := ⟨none, 0, rfl, Nat.le_refl _, by unfold maxLen; omega, fun h => absurd rfl h⟩
theorem fmls_one {w : World} {v : Value} {f : List Nd} (h : Fml w v f) : Fmls (w.alloc (.cells #[v] 29)) (.slice (some ⟨w.heap.size, 0, none⟩) 1 1) [f] := by
  refine ⟨_, _, rfl, Nat.le_refl _, by unfold maxLen; simp, fun _ => ⟨_, rfl, by simp, fun k l hk => ?_⟩⟩
  match k, hk with
  | 0, hk =>
    simp only [List.getElem?_cons_zero, Option.some.injEq] at hk
    subst hk
    exact ⟨v, row_new w #[v] 29 0 v rfl, h.ext ((Ext.refl _).alloc _)⟩
theorem fmls_two {w : World} {v1 v2 : Value} {f g : List Nd} (h1 : Fml w v1 f) (h2 : Fml w v2 g) : Fmls (w.alloc (.cells #[v1, v2] 29)) (.slice (some ⟨w.heap.size, 0, none⟩) 2 2) [f, g] := by
  refine ⟨_, _, rfl, Nat.le_refl _, by unfold maxLen; simp, fun _ => ⟨_, rfl, by simp, fun k l hk => ?_⟩⟩
  match k, hk with
  | 0, hk =>
    simp only [List.getElem?_cons_zero, Option.some.injEq] at hk
    subst hk
    exact ⟨v1, row_new w #[v1, v2] 29 0 v1 rfl, h1.ext ((Ext.refl _).alloc _)⟩
  | 1, hk =>
    simp only [List.getElem?_cons_succ, List.getElem?_cons_zero, Option.some.injEq] at hk
    subst hk
    exact ⟨v2, row_new w #[v1, v2] 29 1 v2 rfl, h2.ext ((Ext.refl _).alloc _)⟩
theorem small_ok {a b c d e g : Int} (ha : i64ok a) (hb : i64ok b) (hc : i64ok c) (hd : i64ok d) (he : i64ok e) (hg : i64ok g) : (Nd.mk a b c d e g).ok := ⟨ha, hb, hc, hd, he, hg⟩
theorem i64_small {a : Int} (h0 : 0 ≤ a) (h1 : a ≤ 1000) : i64ok a := ⟨by omega, by omega⟩

def trueN : List Nd := buildN ⟨1, 0, 0, 0, 0, 0⟩ []
set_option maxHeartbeats 400000 in
theorem true_any (w : World) :
    Calls Tryd.prog 41 #[] w fun e w' => ∃ u, e = .returned u ∧ Made w w' u (trueN) := by
  go_enter Tryd.func41, Tryd.ntmps41
  go_wp2_with fail
  refine (build_any ⟨1, 0, 0, 0, 0, 0⟩ _ [] _ (small_ok (i64_small (by omega) (by omega)) (i64_small (by omega) (by omega)) (i64_small (by omega) (by omega)) (i64_small (by omega) (by omega)) (i64_small (by omega) (by omega)) (i64_small (by omega) (by omega))) (fmls_nil _) (by simp)).mono ?_
  rintro e w1 ⟨u, rfl, hm⟩
  have HM := Lib.hid hm
  clear hm
  go_wp2_with fail
  go_ret
  exact ⟨_, rfl, HM.out⟩

def falseN : List Nd := buildN ⟨2, 0, 0, 0, 0, 0⟩ []
set_option maxHeartbeats 400000 in
theorem false_any (w : World) :
    Calls Tryd.prog 123 #[] w fun e w' => ∃ u, e = .returned u ∧ Made w w' u (falseN) := by
  go_enter Tryd.func123, Tryd.ntmps123
  go_wp2_with fail
  refine (build_any ⟨2, 0, 0, 0, 0, 0⟩ _ [] _ (small_ok (i64_small (by omega) (by omega)) (i64_small (by omega) (by omega)) (i64_small (by omega) (by omega)) (i64_small (by omega) (by omega)) (i64_small (by omega) (by omega)) (i64_small (by omega) (by omega))) (fmls_nil _) (by simp)).mono ?_
  rintro e w1 ⟨u, rfl, hm⟩
  have HM := Lib.hid hm
  clear hm
  go_wp2_with fail
  go_ret
  exact ⟨_, rfl, HM.out⟩

def factN (a : Int) : List Nd := buildN ⟨3, a, 0, 0, 0, 0⟩ []
set_option maxHeartbeats 400000 in
theorem fact_any (a : Int) (ha : i64ok a) (w : World) :
    Calls Tryd.prog 26 #[.int .i64 a] w fun e w' => ∃ u, e = .returned u ∧ Made w w' u (factN a) := by
  go_enter Tryd.func26, Tryd.ntmps26
  go_wp2_with fail
  refine (build_any ⟨3, a, 0, 0, 0, 0⟩ _ [] _ (small_ok (i64_small (by omega) (by omega)) ha (i64_small (by omega) (by omega)) (i64_small (by omega) (by omega)) (i64_small (by omega) (by omega)) (i64_small (by omega) (by omega))) (fmls_nil _) (by simp)).mono ?_
  rintro e w1 ⟨u, rfl, hm⟩
  have HM := Lib.hid hm
  clear hm
  go_wp2_with fail
  go_ret
  exact ⟨_, rfl, HM.out⟩

def notN (f : List Nd) : List Nd := buildN ⟨4, 0, 0, 0, 0, 0⟩ [f]
set_option maxHeartbeats 400000 in
theorem not_any (v1 : Value) (f : List Nd) (w : World) (h1 : Fml w v1 f) :
    Calls Tryd.prog 19 #[v1] w fun e w' => ∃ u, e = .returned u ∧ Made w w' u (notN f) := by
  have H1 := Lib.hid h1
  obtain ⟨A1, c1, rfl, _⟩ := fml_slice h1
  clear h1
  go_enter Tryd.func19, Tryd.ntmps19
  go_wp2_with fail
  refine (build_any ⟨4, 0, 0, 0, 0, 0⟩ _ [f] _ (small_ok (i64_small (by omega) (by omega)) (i64_small (by omega) (by omega)) (i64_small (by omega) (by omega)) (i64_small (by omega) (by omega)) (i64_small (by omega) (by omega)) (i64_small (by omega) (by omega))) (fmls_one H1.out) (by simp)).mono ?_
  rintro e w1 ⟨u, rfl, hm⟩
  have HM := Lib.hid hm
  clear hm
  go_wp2_with fail
  go_ret
  exact ⟨_, rfl, (HM.out.before ((Ext.refl _).alloc _))⟩

def andN (f g : List Nd) : List Nd := buildN ⟨5, 0, 0, 0, 0, 0⟩ [f, g]
set_option maxHeartbeats 400000 in
theorem and_any (v1 v2 : Value) (f g : List Nd) (w : World) (h1 : Fml w v1 f) (h2 : Fml w v2 g) :
    Calls Tryd.prog 118 #[v1, v2] w fun e w' => ∃ u, e = .returned u ∧ Made w w' u (andN f g) := by
  have H1 := Lib.hid h1
  have H2 := Lib.hid h2
  obtain ⟨A1, c1, rfl, _⟩ := fml_slice h1
  obtain ⟨A2, c2, rfl, _⟩ := fml_slice h2
  clear h1 h2
  go_enter Tryd.func118, Tryd.ntmps118
  go_wp2_with fail
  refine (build_any ⟨5, 0, 0, 0, 0, 0⟩ _ [f, g] _ (small_ok (i64_small (by omega) (by omega)) (i64_small (by omega) (by omega)) (i64_small (by omega) (by omega)) (i64_small (by omega) (by omega)) (i64_small (by omega) (by omega)) (i64_small (by omega) (by omega))) (fmls_two H1.out H2.out) (by simp)).mono ?_
  rintro e w1 ⟨u, rfl, hm⟩
  have HM := Lib.hid hm
  clear hm
  go_wp2_with fail
  go_ret
  exact ⟨_, rfl, (HM.out.before ((Ext.refl _).alloc _))⟩

def impN (f g : List Nd) : List Nd := buildN ⟨7, 0, 0, 0, 0, 0⟩ [f, g]
set_option maxHeartbeats 400000 in
theorem imp_any (v1 v2 : Value) (f g : List Nd) (w : World) (h1 : Fml w v1 f) (h2 : Fml w v2 g) :
    Calls Tryd.prog 20 #[v1, v2] w fun e w' => ∃ u, e = .returned u ∧ Made w w' u (impN f g) := by
  have H1 := Lib.hid h1
  have H2 := Lib.hid h2
  obtain ⟨A1, c1, rfl, _⟩ := fml_slice h1
  obtain ⟨A2, c2, rfl, _⟩ := fml_slice h2
  clear h1 h2
  go_enter Tryd.func20, Tryd.ntmps20
  go_wp2_with fail
  refine (build_any ⟨7, 0, 0, 0, 0, 0⟩ _ [f, g] _ (small_ok (i64_small (by omega) (by omega)) (i64_small (by omega) (by omega)) (i64_small (by omega) (by omega)) (i64_small (by omega) (by omega)) (i64_small (by omega) (by omega)) (i64_small (by omega) (by omega))) (fmls_two H1.out H2.out) (by simp)).mono ?_
  rintro e w1 ⟨u, rfl, hm⟩
  have HM := Lib.hid hm
  clear hm
  go_wp2_with fail
  go_ret
  exact ⟨_, rfl, (HM.out.before ((Ext.refl _).alloc _))⟩

def knowN (a : Int) (f : List Nd) : List Nd := buildN ⟨9, a, 0, 0, 0, 0⟩ [f]
set_option maxHeartbeats 400000 in
theorem know_any (a : Int) (ha : i64ok a) (v1 : Value) (f : List Nd) (w : World) (h1 : Fml w v1 f) :
    Calls Tryd.prog 18 #[.int .i64 a, v1] w fun e w' => ∃ u, e = .returned u ∧ Made w w' u (knowN a f) := by
  have H1 := Lib.hid h1
  obtain ⟨A1, c1, rfl, _⟩ := fml_slice h1
  clear h1
  go_enter Tryd.func18, Tryd.ntmps18
  go_wp2_with fail
  refine (build_any ⟨9, a, 0, 0, 0, 0⟩ _ [f] _ (small_ok (i64_small (by omega) (by omega)) ha (i64_small (by omega) (by omega)) (i64_small (by omega) (by omega)) (i64_small (by omega) (by omega)) (i64_small (by omega) (by omega))) (fmls_one H1.out) (by simp)).mono ?_
  rintro e w1 ⟨u, rfl, hm⟩
  have HM := Lib.hid hm
  clear hm
  go_wp2_with fail
  go_ret
  exact ⟨_, rfl, (HM.out.before ((Ext.refl _).alloc _))⟩

def possN (a : Int) (f : List Nd) : List Nd := buildN ⟨10, a, 0, 0, 0, 0⟩ [f]
set_option maxHeartbeats 400000 in
theorem poss_any (a : Int) (ha : i64ok a) (v1 : Value) (f : List Nd) (w : World) (h1 : Fml w v1 f) :
    Calls Tryd.prog 24 #[.int .i64 a, v1] w fun e w' => ∃ u, e = .returned u ∧ Made w w' u (possN a f) := by
  have H1 := Lib.hid h1
  obtain ⟨A1, c1, rfl, _⟩ := fml_slice h1
  clear h1
  go_enter Tryd.func24, Tryd.ntmps24
  go_wp2_with fail
  refine (build_any ⟨10, a, 0, 0, 0, 0⟩ _ [f] _ (small_ok (i64_small (by omega) (by omega)) ha (i64_small (by omega) (by omega)) (i64_small (by omega) (by omega)) (i64_small (by omega) (by omega)) (i64_small (by omega) (by omega))) (fmls_one H1.out) (by simp)).mono ?_
  rintro e w1 ⟨u, rfl, hm⟩
  have HM := Lib.hid hm
  clear hm
  go_wp2_with fail
  go_ret
  exact ⟨_, rfl, (HM.out.before ((Ext.refl _).alloc _))⟩
end Go.Proofs.YtipnbfbakohcaaaDoor
