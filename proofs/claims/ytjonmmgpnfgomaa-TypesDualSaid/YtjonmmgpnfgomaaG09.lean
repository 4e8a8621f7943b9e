/- What the functions on formulas come to on trees. -/
import Derived.Test.YtjonmmgpnfgomaaG08

namespace Go.Proofs.Ytjonmmgpnfgomaa

theorem treeOf_ok {f : List Nd} (h : check f = 0) : (treeOf f).ok := tr_ok (check_wf h) _ (by have := (check_parts h).1; omega)
theorem compactN_tree {f : List Nd} (h : check f = 0) : compactN f = canon (treeOf f) := by
  rw [compactN_eq h, finN_ins (check_wf h) _ _ (by have := (check_parts h).1; omega)]
  rfl
theorem subN_tree {f : List Nd} (h : check f = 0) {z : Nat} (hz : z < f.length) : subN f z = canon (tr f z) := by
  unfold subN
  have e : (decide ((z : Int) < 0) || decide ((f.length : Int) ≤ (z : Int))) = false := by simp; omega
  rw [h, e, Int.toNat_natCast, finN_ins (check_wf h) _ _ hz]
  rfl
theorem treeOf_compact {f : List Nd} (h : check f = 0) : treeOf (compactN f) = treeOf f := by
  rw [compactN_tree h, treeOf_canon (treeOf_ok h)]
theorem compactN_inj {f g : List Nd} (hf : check f = 0) (hg : check g = 0) : compactN f = compactN g ↔ treeOf f = treeOf g := by
  rw [compactN_tree hf, compactN_tree hg]
  exact ⟨canon_inj (treeOf_ok hf) (treeOf_ok hg), fun e => by rw [e]⟩
theorem sameN_tree {f g : List Nd} : sameN f g = true ↔ check f = 0 ∧ check g = 0 ∧ treeOf f = treeOf g := by
  unfold sameN
  rw [Bool.and_eq_true, Bool.and_eq_true, beq_iff_eq, beq_iff_eq, decide_eq_true_iff]
  constructor
  · rintro ⟨a, b, c⟩
    exact ⟨a, b, (compactN_inj a b).1 c⟩
  · rintro ⟨a, b, c⟩
    exact ⟨a, b, (compactN_inj a b).2 c⟩
theorem compact_twice {f : List Nd} (h : check f = 0) : compactN (compactN f) = compactN f := by
  rw [compactN_tree (compactN_check h), treeOf_compact h, compactN_tree h]

theorem tr_shift {a b : List Nd} (ha : Wf a) (hb : Wf b) : ∀ k, k < b.length → tr (a ++ b.map (shiftN a.length)) (a.length + k) = tr b k := by
  intro k
  induction k using Nat.strongRecOn with
  | _ k ih =>
    intro hk
    obtain ⟨n, hn⟩ : ∃ n, b[k]? = some n := ⟨_, List.getElem?_eq_getElem hk⟩
    obtain ⟨hx, hy⟩ := hb k n hn
    have hn' : (a ++ b.map (shiftN a.length))[a.length + k]? = some (shiftN a.length n) := by
      rw [List.getElem?_append_right (by omega), Nat.add_sub_cancel_left, List.getElem?_map, hn]; rfl
    rw [tr_eq (shift_wf ha hb) hn', tr_eq hb hn]
    have e0 : (shiftN a.length n).op = n.op := rfl
    have ehead : (shiftN a.length n).head = n.head := by
      unfold Nd.head Nd.with_ shiftN
      cases hasX n.op <;> cases hasY n.op <;> rfl
    unfold mkTr
    rw [e0, ehead]
    cases h2 : hasY n.op
    · cases h1 : hasX n.op
      · simp only [cond_false]
        congr 1
        unfold shiftN
        rw [h1, h2]
        rfl
      · have := hx h1
        have e1 : (shiftN a.length n).x.toNat = a.length + n.x.toNat := by simp only [shiftN, h1, cond_true]; omega
        rw [e1, ih _ (by omega) (by omega)]
        rfl
    · have h1 := hasX_of_hasY h2
      have := hx h1
      have := hy h2
      have e1 : (shiftN a.length n).x.toNat = a.length + n.x.toNat := by simp only [shiftN, h1, cond_true]; omega
      have e2 : (shiftN a.length n).y.toNat = a.length + n.y.toNat := by simp only [shiftN, h2, cond_true]; omega
      rw [e1, e2, ih n.x.toNat (by omega) (by omega), ih n.y.toNat (by omega) (by omega)]
      rfl

/-- A node with one operand. -/
theorem build_one {n : Nd} {f : List Nd} (hf : check f = 0) (h1 : hasX n.op = true) (h2 : hasY n.op = false) (hh : headOk n) (hl : f.length < 200) : buildN n [f] = canon (.one n.head (treeOf f)) := by
  obtain ⟨cw, cl, cp, _⟩ := compactN_props hf
  unfold buildN
  have e0 : [f].any (fun o => check o != 0) = false := by simp [hf]
  rw [e0, cond_false]
  have eL : layout [f] 0 [] n = (compactN f, { n with x := ((compactN f).length : Int) - 1 }) := by
    simp only [layout, setOp, List.nil_append, List.length_nil]
    have : (compactN f).map (shiftN 0) = compactN f := by
      rw [show shiftN 0 = id from by funext m; unfold shiftN; cases hasX m.op <;> cases hasY m.op <;> simp]
      simp
    rw [this]
    rfl
  rw [eL]
  generalize hm : ({ n with x := ((compactN f).length : Int) - 1 } : Nd) = m
  have mo : m.op = n.op := by rw [← hm]
  have mx : m.x = ((compactN f).length : Int) - 1 := by rw [← hm]
  have mh : m.head = n.head := by
    rw [← hm]
    unfold Nd.head Nd.with_
    simp [h1, h2]
  have hmh : headOk m := by
    rw [← hm]
    exact ⟨hh.1, hh.2.1, hh.2.2.1, fun h => by (rw [h1] at h; cases h), hh.2.2.2.2⟩
  have herr : nodeErr m (compactN f).length = 0 := hmh.err (fun _ => by omega) (fun h => by rw [mo, h2] at h; cases h)
  have hw : Wf (compactN f ++ [m]) := wf_snoc cw (fun _ => by omega) (fun h => by rw [mo, h2] at h; cases h)
  have htr : tr (compactN f ++ [m]) (compactN f).length = .one n.head (treeOf f) := by
    rw [tr_eq hw (n := m) (by simp)]
    unfold mkTr
    rw [mo, h1, h2, mh, mx]
    rw [show (((compactN f).length : Int) - 1).toNat = (compactN f).length - 1 by omega, tr_prefix cw hw (List.prefix_append _ _) _ (by omega)]
    rw [show tr (compactN f) ((compactN f).length - 1) = treeOf (compactN f) from rfl, treeOf_compact hf]
    rfl
  unfold joinN
  have hfin : (finN (compactN f ++ [m]) (compactN f).length []).1 = canon (.one n.head (treeOf f)) := by
    rw [finN_ins hw _ _ (by simp), htr]; rfl
  have hlen : (finN (compactN f ++ [m]) (compactN f).length []).1.length ≤ (compactN f ++ [m]).length := by
    have a := length_le_pot (compactN f ++ [m]) (finN (compactN f ++ [m]) (compactN f).length []).1
    have b := pot_le hw (compactN f).length [] (by simp)
    have c := pot_nil (compactN f ++ [m])
    omega
  simp only [List.length_append, List.length_singleton] at hlen
  have e3 : decide (200 < (finN (compactN f ++ [m]) (compactN f).length []).1.length) = false := by simp; omega
  rw [herr, e3, hfin]
  rfl

/-- A node with two operands. -/
theorem build_two {n : Nd} {f g : List Nd} (hf : check f = 0) (hg : check g = 0) (h1 : hasX n.op = true) (h2 : hasY n.op = true) (hh : headOk n) (hl : f.length + g.length < 200) : buildN n [f, g] = canon (.two n.head (treeOf f) (treeOf g)) := by
  obtain ⟨cw, cl, cp, _⟩ := compactN_props hf
  obtain ⟨dw, dl, dp, _⟩ := compactN_props hg
  unfold buildN
  have e0 : [f, g].any (fun o => check o != 0) = false := by simp [hf, hg]
  rw [e0, cond_false]
  have eL : layout [f, g] 0 [] n = (compactN f ++ (compactN g).map (shiftN (compactN f).length), { n with x := ((compactN f).length : Int) - 1, y := ((compactN f).length : Int) + (compactN g).length - 1 }) := by
    simp only [layout, setOp, List.nil_append, List.length_nil]
    have : (compactN f).map (shiftN 0) = compactN f := by
      rw [show shiftN 0 = id from by funext m; unfold shiftN; cases hasX m.op <;> cases hasY m.op <;> simp]
      simp
    rw [this]
    simp
  rw [eL]
  have hFw := shift_wf cw dw
  have hFl : (compactN f ++ (compactN g).map (shiftN (compactN f).length)).length = (compactN f).length + (compactN g).length := by simp
  have hF1 : tr (compactN f ++ (compactN g).map (shiftN (compactN f).length)) ((compactN f).length - 1) = treeOf f := by
    rw [tr_prefix cw hFw (List.prefix_append _ _) _ (by omega), show tr (compactN f) ((compactN f).length - 1) = treeOf (compactN f) from rfl, treeOf_compact hf]
  have hF2 : tr (compactN f ++ (compactN g).map (shiftN (compactN f).length)) ((compactN f).length + (compactN g).length - 1) = treeOf g := by
    rw [show (compactN f).length + (compactN g).length - 1 = (compactN f).length + ((compactN g).length - 1) by omega, tr_shift cw dw _ (by omega), show tr (compactN g) ((compactN g).length - 1) = treeOf (compactN g) from rfl, treeOf_compact hg]
  generalize compactN f ++ (compactN g).map (shiftN (compactN f).length) = F at *
  generalize hm : ({ n with x := ((compactN f).length : Int) - 1, y := ((compactN f).length : Int) + (compactN g).length - 1 } : Nd) = m
  have mo : m.op = n.op := by rw [← hm]
  have mx : m.x = ((compactN f).length : Int) - 1 := by rw [← hm]
  have my : m.y = ((compactN f).length : Int) + (compactN g).length - 1 := by rw [← hm]
  have mh : m.head = n.head := by
    rw [← hm]
    unfold Nd.head Nd.with_
    simp [h1, h2]
  have hmh : headOk m := by
    rw [← hm]
    exact ⟨hh.1, hh.2.1, hh.2.2.1, fun h => by (rw [h1] at h; cases h), fun h => by (rw [h2] at h; cases h)⟩
  have herr : nodeErr m F.length = 0 := hmh.err (fun _ => by omega) (fun _ => by omega)
  have hw : Wf (F ++ [m]) := wf_snoc hFw (fun _ => by omega) (fun _ => by omega)
  have htr : tr (F ++ [m]) F.length = .two n.head (treeOf f) (treeOf g) := by
    rw [tr_eq hw (n := m) (by simp)]
    unfold mkTr
    rw [mo, h2, mh, mx, my]
    rw [show (((compactN f).length : Int) - 1).toNat = (compactN f).length - 1 by omega, tr_prefix hFw hw (List.prefix_append _ _) _ (by omega), hF1]
    rw [show (((compactN f).length : Int) + (compactN g).length - 1).toNat = (compactN f).length + (compactN g).length - 1 by omega, tr_prefix hFw hw (List.prefix_append _ _) _ (by omega), hF2]
    rfl
  unfold joinN
  have hfin : (finN (F ++ [m]) F.length []).1 = canon (.two n.head (treeOf f) (treeOf g)) := by
    rw [finN_ins hw _ _ (by simp), htr]; rfl
  have hlen : (finN (F ++ [m]) F.length []).1.length ≤ (F ++ [m]).length := by
    have a := length_le_pot (F ++ [m]) (finN (F ++ [m]) F.length []).1
    have b := pot_le hw F.length [] (by simp)
    have c := pot_nil (F ++ [m])
    omega
  simp only [List.length_append, List.length_singleton] at hlen
  have e3 : decide (200 < (finN (F ++ [m]) F.length []).1.length) = false := by simp; omega
  rw [herr, e3, hfin]
  rfl
end Go.Proofs.Ytjonmmgpnfgomaa

/- Further constructors of formulas: Or, Iff. -/

namespace Go.Proofs.Ytjonmmgpnfgomaa
open Go.RowKit

def orN (f g : List Nd) : List Nd := buildN ⟨6, 0, 0, 0, 0, 0⟩ [f, g]
set_option maxHeartbeats 400000 in
theorem or_any (v1 v2 : Value) (f g : List Nd) (w : World) (h1 : Fml w v1 f) (h2 : Fml w v2 g) :
    Calls Try.prog 57 #[v1, v2] w fun e w' => ∃ u, e = .returned u ∧ Made w w' u (orN f g) := by
  have H1 := Lib.hid h1
  have H2 := Lib.hid h2
  obtain ⟨A1, c1, rfl, _⟩ := fml_slice h1
  obtain ⟨A2, c2, rfl, _⟩ := fml_slice h2
  clear h1 h2
  go_enter Try.func57, Try.ntmps57
  go_wp2_with fail
  refine (build_any ⟨6, 0, 0, 0, 0, 0⟩ _ [f, g] _ (small_ok (i64_small (by omega) (by omega)) (i64_small (by omega) (by omega)) (i64_small (by omega) (by omega)) (i64_small (by omega) (by omega)) (i64_small (by omega) (by omega)) (i64_small (by omega) (by omega))) (fmls_two H1.out H2.out) (by simp)).mono ?_
  rintro e w1 ⟨u, rfl, hm⟩
  have HM := Lib.hid hm
  clear hm
  go_wp2_with fail
  go_ret
  exact ⟨_, rfl, (HM.out.before ((Ext.refl _).alloc _))⟩

def iffN (f g : List Nd) : List Nd := buildN ⟨8, 0, 0, 0, 0, 0⟩ [f, g]
set_option maxHeartbeats 400000 in
theorem iff_any (v1 v2 : Value) (f g : List Nd) (w : World) (h1 : Fml w v1 f) (h2 : Fml w v2 g) :
    Calls Try.prog 59 #[v1, v2] w fun e w' => ∃ u, e = .returned u ∧ Made w w' u (iffN f g) := by
  have H1 := Lib.hid h1
  have H2 := Lib.hid h2
  obtain ⟨A1, c1, rfl, _⟩ := fml_slice h1
  obtain ⟨A2, c2, rfl, _⟩ := fml_slice h2
  clear h1 h2
  go_enter Try.func59, Try.ntmps59
  go_wp2_with fail
  refine (build_any ⟨8, 0, 0, 0, 0, 0⟩ _ [f, g] _ (small_ok (i64_small (by omega) (by omega)) (i64_small (by omega) (by omega)) (i64_small (by omega) (by omega)) (i64_small (by omega) (by omega)) (i64_small (by omega) (by omega)) (i64_small (by omega) (by omega))) (fmls_two H1.out H2.out) (by simp)).mono ?_
  rintro e w1 ⟨u, rfl, hm⟩
  have HM := Lib.hid hm
  clear hm
  go_wp2_with fail
  go_ret
  exact ⟨_, rfl, (HM.out.before ((Ext.refl _).alloc _))⟩
end Go.Proofs.Ytjonmmgpnfgomaa

/- Negation normal forms as Lean functions. -/

namespace Go.Proofs.Ytjonmmgpnfgomaa

/-- The form of a node, from the forms of its operands (the Bool: of the negation). -/
def posS (x : Nd) (p : Bool → Int → List Nd) : List Nd :=
  bif x.op == 4 then p true x.x
  else bif x.op == 7 then orN (p true x.x) (p false x.y)
  else bif x.op == 8 then andN (orN (p true x.x) (p false x.y)) (orN (p false x.x) (p true x.y))
  else bif x.op == 2 then falseN
  else bif x.op == 3 then factN x.i
  else bif x.op == 5 then andN (p false x.x) (p false x.y)
  else bif x.op == 6 then orN (p false x.x) (p false x.y)
  else bif x.op == 9 then knowN x.i (p false x.x)
  else bif x.op == 10 then possN x.i (p false x.x)
  else trueN
/-- The form of the negation of a node. -/
def negS (x : Nd) (p : Bool → Int → List Nd) : List Nd :=
  bif x.op == 1 then falseN
  else bif x.op == 2 then trueN
  else bif x.op == 4 then p false x.x
  else bif x.op == 5 then orN (p true x.x) (p true x.y)
  else bif x.op == 6 then andN (p true x.x) (p true x.y)
  else bif x.op == 7 then andN (p false x.x) (p true x.y)
  else bif x.op == 8 then orN (andN (p false x.x) (p true x.y)) (andN (p true x.x) (p false x.y))
  else bif x.op == 9 then possN x.i (p true x.x)
  else bif x.op == 10 then knowN x.i (p true x.x)
  else notN (posS x p)
def nnfF (c : List Nd) : Nat → Bool → Nat → List Nd
  | 0, _, _ => []
  | k + 1, no, i => bif no then negS (c.getD i Nd.zero) (fun b j => nnfF c k b j.toNat) else posS (c.getD i Nd.zero) (fun b j => nnfF c k b j.toNat)
/-- The form of the formula at a place of a list. -/
def nnfN (c : List Nd) (no : Bool) (i : Nat) : List Nd := nnfF c (i + 1) no i
/-- The operators of the fragment of knowledge. -/
def Few10 (c : List Nd) : Prop := ∀ n ∈ c, 1 ≤ n.op ∧ n.op ≤ 10
theorem posS_congr {x : Nd} {p q : Bool → Int → List Nd} (hx : hasX x.op = true → ∀ b, p b x.x = q b x.x) (hy : hasY x.op = true → ∀ b, p b x.y = q b x.y) : posS x p = posS x q := by
  unfold posS
  have X : ∀ {k : Int}, (x.op == k) = true → hasX k = true → ∀ b, p b x.x = q b x.x := fun h h2 => hx (by rw [beq_iff_eq] at h; rw [h]; exact h2)
  have Y : ∀ {k : Int}, (x.op == k) = true → hasY k = true → ∀ b, p b x.y = q b x.y := fun h h2 => hy (by rw [beq_iff_eq] at h; rw [h]; exact h2)
  cases h4 : x.op == 4
  · cases h7 : x.op == 7
    · cases h8 : x.op == 8
      · cases x.op == 2
        · cases x.op == 3
          · cases h5 : x.op == 5
            · cases h6 : x.op == 6
              · cases h9 : x.op == 9
                · cases h10 : x.op == 10
                  · rfl
                  · simp only [cond_true, cond_false, X h10 rfl]
                · simp only [cond_true, cond_false, X h9 rfl]
              · simp only [cond_true, cond_false, X h6 rfl, Y h6 rfl]
            · simp only [cond_true, cond_false, X h5 rfl, Y h5 rfl]
          · rfl
        · rfl
      · simp only [cond_true, cond_false, X h8 rfl, Y h8 rfl]
    · simp only [cond_true, cond_false, X h7 rfl, Y h7 rfl]
  · simp only [cond_true, X h4 rfl]
theorem negS_congr {x : Nd} {p q : Bool → Int → List Nd} (hx : hasX x.op = true → ∀ b, p b x.x = q b x.x) (hy : hasY x.op = true → ∀ b, p b x.y = q b x.y) : negS x p = negS x q := by
  unfold negS
  have X : ∀ {k : Int}, (x.op == k) = true → hasX k = true → ∀ b, p b x.x = q b x.x := fun h h2 => hx (by rw [beq_iff_eq] at h; rw [h]; exact h2)
  have Y : ∀ {k : Int}, (x.op == k) = true → hasY k = true → ∀ b, p b x.y = q b x.y := fun h h2 => hy (by rw [beq_iff_eq] at h; rw [h]; exact h2)
  cases x.op == 1
  · cases x.op == 2
    · cases h4 : x.op == 4
      · cases h5 : x.op == 5
        · cases h6 : x.op == 6
          · cases h7 : x.op == 7
            · cases h8 : x.op == 8
              · cases h9 : x.op == 9
                · cases h10 : x.op == 10
                  · simp only [cond_false, posS_congr hx hy]
                  · simp only [cond_true, cond_false, X h10 rfl]
                · simp only [cond_true, cond_false, X h9 rfl]
              · simp only [cond_true, cond_false, X h8 rfl, Y h8 rfl]
            · simp only [cond_true, cond_false, X h7 rfl, Y h7 rfl]
          · simp only [cond_true, cond_false, X h6 rfl, Y h6 rfl]
        · simp only [cond_true, cond_false, X h5 rfl, Y h5 rfl]
      · simp only [cond_true, cond_false, X h4 rfl]
    · rfl
  · rfl
theorem nnfF_fuel {c : List Nd} (hc : Wf c) : ∀ (k : Nat) (no : Bool) (i : Nat), i < k → i < c.length → nnfF c k no i = nnfN c no i := by
  intro k
  induction k using Nat.strongRecOn with
  | _ k ih =>
    intro no i h hi
    cases k with
    | zero => omega
    | succ k =>
      obtain ⟨n, hn⟩ : ∃ n, c[i]? = some n := ⟨_, List.getElem?_eq_getElem hi⟩
      obtain ⟨hx, hy⟩ := hc i n hn
      have e : ∀ (j : Int), 0 ≤ j → j < i → ∀ b, nnfF c k b j.toNat = nnfF c i b j.toNat := fun j h0 h1 b => by
        rw [ih k (by omega) b j.toNat (by omega) (by omega)]
        by_cases hik : i = k
        · subst hik; exact (ih i (by omega) b j.toNat (by omega) (by omega)).symm
        · exact (ih i (by omega) b j.toNat (by omega) (by omega)).symm
      unfold nnfN
      simp only [nnfF, getD_of hn]
      cases no
      · exact posS_congr (p := fun b j => nnfF c k b j.toNat) (q := fun b j => nnfF c i b j.toNat) (fun h => e n.x (hx h).1 (hx h).2) (fun h => e n.y (hy h).1 (hy h).2)
      · exact negS_congr (p := fun b j => nnfF c k b j.toNat) (q := fun b j => nnfF c i b j.toNat) (fun h => e n.x (hx h).1 (hx h).2) (fun h => e n.y (hy h).1 (hy h).2)
/-- The equation of the form. -/
theorem nnfN_eq {c : List Nd} (hc : Wf c) {i : Nat} {n : Nd} (hn : c[i]? = some n) (no : Bool) :
    nnfN c no i = bif no then negS n (fun b j => nnfN c b j.toNat) else posS n (fun b j => nnfN c b j.toNat) := by
  have hi := (List.getElem?_eq_some_iff.1 hn).1
  obtain ⟨hx, hy⟩ := hc i n hn
  have e : ∀ (j : Int), 0 ≤ j → j < i → ∀ b, nnfF c i b j.toNat = nnfN c b j.toNat := fun j h0 h1 b => nnfF_fuel hc i b j.toNat (by omega) (by omega)
  conv => lhs; unfold nnfN
  simp only [nnfF, getD_of hn]
  cases no
  · exact posS_congr (p := fun b j => nnfF c i b j.toNat) (q := fun b j => nnfN c b j.toNat) (fun h => e n.x (hx h).1 (hx h).2) (fun h => e n.y (hy h).1 (hy h).2)
  · exact negS_congr (p := fun b j => nnfF c i b j.toNat) (q := fun b j => nnfN c b j.toNat) (fun h => e n.x (hx h).1 (hx h).2) (fun h => e n.y (hy h).1 (hy h).2)
/-- rewrite.Nnf's formula. -/
def nnfAll (f : List Nd) : List Nd := bif check f != 0 then [] else nnfN (compactN f) false ((compactN f).length - 1)
def nnfErr (f : List Nd) : Int := bif check f != 0 then check f else bif decide ((nnfAll f).length = 0) then 8 else 0
/-- The negation normal form of the negation. -/
def oppN (f : List Nd) : List Nd := nnfAll (notN f)
end Go.Proofs.Ytjonmmgpnfgomaa

/- What the reference's constructors of formulas come to: the lists that the program's constructors come to. -/

namespace Go.Proofs.Ytjonmmgpnfgomaa

/-- The canonical list of a tree, or nothing if it is too long. -/
def shortT (t : Tr) : List Nd := bif decide (200 < (canon t).length) then [] else canon t
theorem short_fit {t : Tr} (h : (canon t).length ≤ 200) : shortT t = canon t := by
  unfold shortT
  rw [decide_eq_false (by omega)]
  rfl
theorem short_long {t : Tr} (h : 200 < (canon t).length) : shortT t = [] := by
  unfold shortT
  rw [decide_eq_true h]
  rfl
theorem check_nil' : check [] ≠ 0 := by decide
/-- The canonical list of a list's last node, or nothing if it is too long. -/
def shortN (l : List Nd) : List Nd := bif decide (200 < (finN l (l.length - 1) []).1.length) then [] else (finN l (l.length - 1) []).1
theorem shortN_tree {l : List Nd} (hw : Wf l) (h0 : 0 < l.length) : shortN l = shortT (treeOf l) := by
  unfold shortN shortT
  rw [finN_ins hw _ _ (by omega)]
  rfl
theorem map_shift0 (f : List Nd) : f.map (shiftN 0) = f := by
  rw [show shiftN 0 = id from by funext m; unfold shiftN; cases hasX m.op <;> cases hasY m.op <;> simp]
  simp
/-- A node with one operand. -/
theorem build_oneS {n : Nd} {f : List Nd} (hf : check f = 0) (h1 : hasX n.op = true) (h2 : hasY n.op = false) (hh : headOk n) : buildN n [f] = shortT (.one n.head (treeOf f)) := by
  obtain ⟨cw, cl, cp, _⟩ := compactN_props hf
  unfold buildN
  have e0 : [f].any (fun o => check o != 0) = false := by simp [hf]
  rw [e0, cond_false]
  have eL : layout [f] 0 [] n = (compactN f, { n with x := ((compactN f).length : Int) - 1 }) := by
    simp only [layout, setOp, List.nil_append, List.length_nil, map_shift0]
    rfl
  rw [eL]
  generalize hm : ({ n with x := ((compactN f).length : Int) - 1 } : Nd) = m
  have mo : m.op = n.op := by rw [← hm]
  have mx : m.x = ((compactN f).length : Int) - 1 := by rw [← hm]
  have mh : m.head = n.head := by
    rw [← hm]
    unfold Nd.head Nd.with_
    simp [h1, h2]
  have hmh : headOk m := by
    rw [← hm]
    exact ⟨hh.1, hh.2.1, hh.2.2.1, fun h => by (rw [h1] at h; cases h), hh.2.2.2.2⟩
  have herr : nodeErr m (compactN f).length = 0 := hmh.err (fun _ => by omega) (fun h => by rw [mo, h2] at h; cases h)
  have hw : Wf (compactN f ++ [m]) := wf_snoc cw (fun _ => by omega) (fun h => by rw [mo, h2] at h; cases h)
  have htr : tr (compactN f ++ [m]) (compactN f).length = .one n.head (treeOf f) := by
    rw [tr_eq hw (n := m) (by simp)]
    unfold mkTr
    rw [mo, h1, h2, mh, mx]
    rw [show (((compactN f).length : Int) - 1).toNat = (compactN f).length - 1 by omega, tr_prefix cw hw (List.prefix_append _ _) _ (by omega)]
    rw [show tr (compactN f) ((compactN f).length - 1) = treeOf (compactN f) from rfl, treeOf_compact hf]
    rfl
  unfold joinN
  have hfin : (finN (compactN f ++ [m]) (compactN f).length []).1 = canon (.one n.head (treeOf f)) := by
    rw [finN_ins hw _ _ (by simp), htr]; rfl
  simp only [herr, hfin]
  rfl
/-- The same, as the reference writes it. -/
theorem un_short {n : Nd} {f : List Nd} (hf : check f = 0) (h1 : hasX n.op = true) (h2 : hasY n.op = false) (hh : headOk n) {m : Nd} (hm : m = { n with x := (f.length : Int) - 1 }) : nodeErr m f.length = 0 ∧ Wf (f ++ [m]) ∧ shortN (f ++ [m]) = buildN n [f] := by
  have fw := check_wf hf
  have fp := (check_parts hf).1
  have mo : m.op = n.op := by rw [hm]
  have mx : m.x = (f.length : Int) - 1 := by rw [hm]
  have mh : m.head = n.head := by
    rw [hm]
    unfold Nd.head Nd.with_
    simp [h1, h2]
  have hmh : headOk m := by
    rw [hm]
    exact ⟨hh.1, hh.2.1, hh.2.2.1, fun h => by (rw [h1] at h; cases h), hh.2.2.2.2⟩
  have hw : Wf (f ++ [m]) := wf_snoc fw (fun _ => by omega) (fun h => by rw [mo, h2] at h; cases h)
  refine ⟨hmh.err (fun _ => by omega) (fun h => by rw [mo, h2] at h; cases h), hw, ?_⟩
  rw [shortN_tree hw (by simp), build_oneS hf h1 h2 hh]
  congr 1
  unfold treeOf
  rw [List.length_append, List.length_singleton, Nat.add_sub_cancel, tr_eq hw (n := m) (by simp)]
  unfold mkTr
  rw [mo, h1, h2, mh, mx]
  rw [show ((f.length : Int) - 1).toNat = f.length - 1 by omega, tr_prefix fw hw (List.prefix_append _ _) _ (by omega)]
  rfl
/-- A node with two operands. -/
theorem build_twoS {n : Nd} {f g : List Nd} (hf : check f = 0) (hg : check g = 0) (h1 : hasX n.op = true) (h2 : hasY n.op = true) (hh : headOk n) : buildN n [f, g] = shortT (.two n.head (treeOf f) (treeOf g)) := by
  obtain ⟨cw, cl, cp, _⟩ := compactN_props hf
  obtain ⟨dw, dl, dp, _⟩ := compactN_props hg
  unfold buildN
  have e0 : [f, g].any (fun o => check o != 0) = false := by simp [hf, hg]
  rw [e0, cond_false]
  have eL : layout [f, g] 0 [] n = (compactN f ++ (compactN g).map (shiftN (compactN f).length), { n with x := ((compactN f).length : Int) - 1, y := ((compactN f).length : Int) + (compactN g).length - 1 }) := by
    simp only [layout, setOp, List.nil_append, List.length_nil, map_shift0]
    simp
  rw [eL]
  have hFw := shift_wf cw dw
  have hFl : (compactN f ++ (compactN g).map (shiftN (compactN f).length)).length = (compactN f).length + (compactN g).length := by simp
  have hF1 : tr (compactN f ++ (compactN g).map (shiftN (compactN f).length)) ((compactN f).length - 1) = treeOf f := by
    rw [tr_prefix cw hFw (List.prefix_append _ _) _ (by omega), show tr (compactN f) ((compactN f).length - 1) = treeOf (compactN f) from rfl, treeOf_compact hf]
  have hF2 : tr (compactN f ++ (compactN g).map (shiftN (compactN f).length)) ((compactN f).length + (compactN g).length - 1) = treeOf g := by
    rw [show (compactN f).length + (compactN g).length - 1 = (compactN f).length + ((compactN g).length - 1) by omega, tr_shift cw dw _ (by omega), show tr (compactN g) ((compactN g).length - 1) = treeOf (compactN g) from rfl, treeOf_compact hg]
  generalize compactN f ++ (compactN g).map (shiftN (compactN f).length) = F at *
  generalize hm : ({ n with x := ((compactN f).length : Int) - 1, y := ((compactN f).length : Int) + (compactN g).length - 1 } : Nd) = m
  have mo : m.op = n.op := by rw [← hm]
  have mx : m.x = ((compactN f).length : Int) - 1 := by rw [← hm]
  have my : m.y = ((compactN f).length : Int) + (compactN g).length - 1 := by rw [← hm]
  have mh : m.head = n.head := by
    rw [← hm]
    unfold Nd.head Nd.with_
    simp [h1, h2]
  have hmh : headOk m := by
    rw [← hm]
    exact ⟨hh.1, hh.2.1, hh.2.2.1, fun h => by (rw [h1] at h; cases h), fun h => by (rw [h2] at h; cases h)⟩
  have herr : nodeErr m F.length = 0 := hmh.err (fun _ => by omega) (fun _ => by omega)
  have hw : Wf (F ++ [m]) := wf_snoc hFw (fun _ => by omega) (fun _ => by omega)
  have htr : tr (F ++ [m]) F.length = .two n.head (treeOf f) (treeOf g) := by
    rw [tr_eq hw (n := m) (by simp)]
    unfold mkTr
    rw [mo, h2, mh, mx, my]
    rw [show (((compactN f).length : Int) - 1).toNat = (compactN f).length - 1 by omega, tr_prefix hFw hw (List.prefix_append _ _) _ (by omega), hF1]
    rw [show (((compactN f).length : Int) + (compactN g).length - 1).toNat = (compactN f).length + (compactN g).length - 1 by omega, tr_prefix hFw hw (List.prefix_append _ _) _ (by omega), hF2]
    rfl
  unfold joinN
  have hfin : (finN (F ++ [m]) F.length []).1 = canon (.two n.head (treeOf f) (treeOf g)) := by
    rw [finN_ins hw _ _ (by simp), htr]; rfl
  simp only [herr, hfin]
  rfl
/-- The same, as the reference writes it. -/
theorem bin_short {n : Nd} {f g : List Nd} (hf : check f = 0) (hg : check g = 0) (h1 : hasX n.op = true) (h2 : hasY n.op = true) (hh : headOk n) {m : Nd} (hm : m = { n with x := (f.length : Int) - 1, y := (f.length : Int) + g.length - 1 }) :
    nodeErr m ((f.length : Int) + g.length) = 0 ∧ Wf (f ++ g.map (shiftN f.length) ++ [m]) ∧ shortN (f ++ g.map (shiftN f.length) ++ [m]) = buildN n [f, g] := by
  have fw := check_wf hf
  have gw := check_wf hg
  have fp := (check_parts hf).1
  have gp := (check_parts hg).1
  rw [build_twoS hf hg h1 h2 hh]
  have hFw := shift_wf fw gw
  have hFl : (f ++ g.map (shiftN f.length)).length = f.length + g.length := by simp
  have hF1 : tr (f ++ g.map (shiftN f.length)) (f.length - 1) = treeOf f := by
    rw [tr_prefix fw hFw (List.prefix_append _ _) _ (by omega)]; rfl
  have hF2 : tr (f ++ g.map (shiftN f.length)) (f.length + g.length - 1) = treeOf g := by
    rw [show f.length + g.length - 1 = f.length + (g.length - 1) by omega, tr_shift fw gw _ (by omega)]; rfl
  generalize f ++ g.map (shiftN f.length) = F at *
  have mo : m.op = n.op := by rw [hm]
  have mx : m.x = (f.length : Int) - 1 := by rw [hm]
  have my : m.y = (f.length : Int) + g.length - 1 := by rw [hm]
  have mh : m.head = n.head := by
    rw [hm]
    unfold Nd.head Nd.with_
    simp [h1, h2]
  have hmh : headOk m := by
    rw [hm]
    exact ⟨hh.1, hh.2.1, hh.2.2.1, fun h => by (rw [h1] at h; cases h), fun h => by (rw [h2] at h; cases h)⟩
  have hw : Wf (F ++ [m]) := wf_snoc hFw (fun _ => by omega) (fun _ => by omega)
  refine ⟨by have := hmh.err (a := f.length + g.length) (fun _ => by omega) (fun _ => by omega); rw [← this]; congr 1, hw, ?_⟩
  rw [shortN_tree hw (by simp)]
  congr 1
  unfold treeOf
  rw [List.length_append, List.length_singleton, Nat.add_sub_cancel, tr_eq hw (n := m) (by simp)]
  unfold mkTr
  rw [mo, h2, mh, mx, my]
  rw [show ((f.length : Int) - 1).toNat = f.length - 1 by omega, tr_prefix hFw hw (List.prefix_append _ _) _ (by omega), hF1]
  rw [show ((f.length : Int) + g.length - 1).toNat = f.length + g.length - 1 by omega, tr_prefix hFw hw (List.prefix_append _ _) _ (by omega), hF2]
  rfl
theorem build_bad1 {n : Nd} {f : List Nd} (hf : check f ≠ 0) : buildN n [f] = [] := by
  unfold buildN
  have e0 : [f].any (fun o => check o != 0) = true := by simpa using hf
  rw [e0, cond_true]
theorem build_bad2 {n : Nd} {f g : List Nd} (hf : check f ≠ 0 ∨ check g ≠ 0) : buildN n [f, g] = [] := by
  unfold buildN
  have e0 : [f, g].any (fun o => check o != 0) = true := by simp; exact hf
  rw [e0, cond_true]
end Go.Proofs.Ytjonmmgpnfgomaa

/- Canonical lists: what the constructors come to at leaves; a node with other operands. -/

namespace Go.Proofs.Ytjonmmgpnfgomaa

/-- Nothing, or the list of a tree. -/
def Can (l : List Nd) : Prop := l = [] ∨ ∃ t : Tr, t.ok ∧ l = canon t
theorem can_short {t : Tr} (h : t.ok) : Can (shortT t) := by
  unfold shortT
  cases decide (200 < (canon t).length)
  · exact .inr ⟨t, h, rfl⟩
  · exact .inl rfl
theorem can_un {n : Nd} {f : List Nd} (h1 : hasX n.op = true) (h2 : hasY n.op = false) (hh : headOk n) : Can (buildN n [f]) := by
  by_cases hf : check f = 0
  · rw [build_oneS hf h1 h2 hh]
    exact can_short ⟨h1, h2, head_head n, treeOf_ok hf⟩
  · rw [build_bad1 hf]; exact .inl rfl
theorem can_bin {n : Nd} {f g : List Nd} (h1 : hasX n.op = true) (h2 : hasY n.op = true) (hh : headOk n) : Can (buildN n [f, g]) := by
  by_cases hf : check f = 0
  · by_cases hg : check g = 0
    · rw [build_twoS hf hg h1 h2 hh]
      exact can_short ⟨h1, h2, head_head n, treeOf_ok hf, treeOf_ok hg⟩
    · rw [build_bad2 (.inr hg)]; exact .inl rfl
  · rw [build_bad2 (.inl hf)]; exact .inl rfl
theorem canon_leaf (n : Nd) : canon (.leaf n) = [n] := by simp [canon, ins, addN]
theorem can_leaf {n : Nd} (h1 : hasX n.op = false) (h2 : hasY n.op = false) : Can [n] := .inr ⟨.leaf n, ⟨h1, h2⟩, (canon_leaf n).symm⟩
theorem build_zero {n : Nd} (h1 : hasX n.op = false) (h2 : hasY n.op = false) (hh : headOk n) : nodeErr n 0 = 0 ∧ buildN n [] = [n] := by
  have herr : nodeErr n 0 = 0 := hh.err (a := 0) (fun h => by rw [h1] at h; cases h) (fun h => by rw [h2] at h; cases h)
  refine ⟨herr, ?_⟩
  have hw : Wf ([] ++ [n]) := wf_snoc wf_nil (fun h => by rw [h1] at h; cases h) (fun h => by rw [h2] at h; cases h)
  have hfin : (finN ([] ++ [n]) ([] : List Nd).length []).1 = [n] := by
    rw [finN_ins hw _ _ (by simp), tr_eq hw (n := n) (by simp)]
    unfold mkTr
    rw [h1, h2]
    exact canon_leaf n
  unfold buildN
  show joinN [] n = [n]
  unfold joinN
  have e : nodeErr n (([] : List Nd).length : Int) = 0 := herr
  simp only [hfin, e]
  rfl
theorem head0 (k : Int) (h : k = 1 ∨ k = 2 ∨ k = 4 ∨ k = 5 ∨ k = 6) : headOk ⟨k, 0, 0, 0, 0, 0⟩ := by
  rcases h with rfl | rfl | rfl | rfl | rfl <;> exact ⟨by decide, by decide, by decide, fun _ => rfl, fun _ => rfl⟩
theorem head3 {n : Nd} (h : headOk n) (ho : n.op = 3) : headOk ⟨3, n.i, 0, 0, 0, 0⟩ := by
  obtain ⟨_, _, h3, _, _⟩ := h
  refine ⟨rfl, by simp [formBad, hasFact, hasAgent, hasEvent, hasGroup], ?_, fun _ => rfl, fun _ => rfl⟩
  unfold rangeBad at h3 ⊢
  rw [ho] at h3
  simpa [outsideB, hasFact, hasAgent, hasEvent, hasGroup] using h3
theorem head9 {n : Nd} (h : headOk n) (k : Int) (hk : k = 9 ∨ k = 10) (ho : n.op = 9 ∨ n.op = 10) : headOk ⟨k, n.i, 0, 0, 0, 0⟩ := by
  obtain ⟨_, _, h3, _, _⟩ := h
  have hr : outsideB true n.i 0 3 = false := by
    unfold rangeBad at h3
    rcases ho with ho | ho <;> (rw [ho] at h3; simpa [outsideB, hasFact, hasAgent, hasEvent, hasGroup] using h3)
  rcases hk with rfl | rfl
  · refine ⟨rfl, by simp [formBad, hasFact, hasAgent, hasEvent, hasGroup], ?_, fun _ => rfl, fun _ => rfl⟩
    simpa [rangeBad, outsideB, hasFact, hasAgent, hasEvent, hasGroup] using hr
  · refine ⟨rfl, by simp [formBad, hasFact, hasAgent, hasEvent, hasGroup], ?_, fun _ => rfl, fun _ => rfl⟩
    simpa [rangeBad, outsideB, hasFact, hasAgent, hasEvent, hasGroup] using hr
theorem true_list : trueN = [⟨1, 0, 0, 0, 0, 0⟩] := (build_zero rfl rfl (head0 1 (by omega))).2
theorem false_list : falseN = [⟨2, 0, 0, 0, 0, 0⟩] := (build_zero rfl rfl (head0 2 (by omega))).2
/-- A node with its operands in other lists. -/
def rebuildN (x : Nd) (a b : List Nd) : List Nd :=
  bif hasY x.op then buildN { x with x := 0, y := 0 } [a, b] else bif hasX x.op then buildN { x with x := 0, y := 0 } [a] else [{ x with x := 0, y := 0 }]
theorem head_zero {n : Nd} (h : headOk n) : headOk { n with x := 0, y := 0 } := ⟨h.1, h.2.1, h.2.2.1, fun _ => rfl, fun _ => rfl⟩
theorem bare_of {n : Nd} (h : headOk n) (hk : n.op = 1 ∨ n.op = 2 ∨ n.op = 5 ∨ n.op = 6) : ({ n with x := 0, y := 0 } : Nd) = ⟨n.op, 0, 0, 0, 0, 0⟩ := by
  obtain ⟨_, h2, _, _, _⟩ := h
  unfold formBad at h2
  rcases hk with ho | ho | ho | ho <;> (rw [ho] at h2; simp [hasFact, hasAgent, hasEvent, hasGroup] at h2; rw [h2.1.1, h2.1.2, h2.2])
theorem bare_i {n : Nd} (h : headOk n) (hk : n.op = 3 ∨ n.op = 9 ∨ n.op = 10) : ({ n with x := 0, y := 0 } : Nd) = ⟨n.op, n.i, 0, 0, 0, 0⟩ := by
  obtain ⟨_, h2, _, _, _⟩ := h
  unfold formBad at h2
  rcases hk with ho | ho | ho <;> (rw [ho] at h2; simp [hasFact, hasAgent, hasEvent, hasGroup] at h2; rw [h2.1, h2.2])
end Go.Proofs.Ytjonmmgpnfgomaa

/- Refutations and their check as Lean functions. -/

namespace Go.Proofs.Ytjonmmgpnfgomaa

/-- A step of a refutation. -/
structure Stp where
  set : Nat
  rule : Int
  on : Int
  e : Int
  from_ : List Int
def Stp.zero : Stp := ⟨0, 0, 0, 0, []⟩
/-- A node of a negation normal form. -/
def normalN (base : List Nd) (n : Nd) : Bool :=
  bif n.op == 4 then (base.getD n.x.toNat Nd.zero).op == 3 else n.op == 1 || (n.op == 2 || (n.op == 3 || (n.op == 5 || (n.op == 6 || (n.op == 9 || n.op == 10)))))
def baseErr (base : List Nd) : Int :=
  bif check base != 0 then check base else bif decide (64 < base.length) then 8 else bif base.all (normalN base) then 0 else 10
def inS (set : Nat) (node : Int) : Bool := decide (0 ≤ node) && (decide (node < 64) && set.testBit node.toNat)
def subS (a b : Nat) : Bool := (a &&& b) == a
def insideS (base : List Nd) (set : Nat) : Bool := decide (set < 2 ^ base.length)
def formulasN (base : List Nd) : List (List Nd) := (List.range base.length).map fun (i : Nat) => subN base i
/-- The place of a list of nodes in a list, or -1. -/
def placeN (l : List (List Nd)) (g : List Nd) : Int := match l.findIdx? (fun f => decide (f = g)) with | none => -1 | some j => j
def negationN (base : List Nd) (node : Int) : Int := placeN (formulasN base) (oppN (subN base node))
def NegationN (base : List Nd) (node : Int) : Int := bif baseErr base != 0 || (decide (node < 0) || decide ((base.length : Int) ≤ node)) then -1 else negationN base node
def oppsN (base : List Nd) : List Int := (formulasN base).map fun f => placeN (formulasN base) (oppN f)
def transN (lg : Int) : Bool := lg == 3 || (lg == 4 || (lg == 5 || lg == 6))
def euclN (lg : Int) : Bool := lg == 5 || lg == 6
/-- What a node of a set adds to the carry. -/
def carry1 (lg : Int) (set : Nat) (agent : Int) (i : Nat) (n : Nd) (out : Nat) : Nat :=
  bif !inS set i || n.i != agent then out
  else bif n.op == 9 && transN lg then out ||| (2 ^ n.x.toNat ||| 2 ^ i)
  else bif n.op == 9 then out ||| 2 ^ n.x.toNat
  else bif n.op == 10 && euclN lg then out ||| 2 ^ i
  else out
def carryGo (lg : Int) (set : Nat) (agent : Int) : List Nd → Nat → Nat → Nat
  | [], _, out => out
  | n :: r, i, out => carryGo lg set agent r (i + 1) (carry1 lg set agent i n out)
def carryN (lg : Int) (base : List Nd) (set : Nat) (agent : Int) : Nat := carryGo lg set agent base 0 0
def knownN (lg : Int) : Bool := decide (0 ≤ lg) && decide (lg ≤ 6)
def CarryN (lg : Int) (base : List Nd) (set : Nat) (agent : Int) : Nat :=
  bif !knownN lg || (baseErr base != 0 || (!insideS base set || (decide (agent < 0) || decide (4 ≤ agent)))) then 0 else carryN lg base set agent
def opposedN (opps : List Int) (node other : Int) : Bool := decide (0 ≤ node) && (decide (node < opps.length) && (decide (0 ≤ other) && opps.getD node.toNat 0 == other))
def onN (base : List Nd) (x : Stp) (op : Int) : Bool := !(decide ((base.length : Int) ≤ x.on) || (!inS x.set x.on || (base.getD x.on.toNat Nd.zero).op != op))
def nodeOn (base : List Nd) (x : Stp) : Nd := base.getD x.on.toNat Nd.zero
def premGo (steps : List Stp) (at_ : Nat) : List Int → List Nat → Bool
  | [], [] => true
  | j :: r, s :: t => bif decide (j < 0) || (decide ((at_ : Int) ≤ j) || !subS (steps.getD j.toNat Stp.zero).set s) then false else premGo steps at_ r t
  | _, _ => false
/-- Exactly premises within the given sets. -/
def premN (steps : List Stp) (at_ : Nat) (sets : List Nat) : Bool := (steps.getD at_ Stp.zero).from_.length == sets.length && premGo steps at_ (steps.getD at_ Stp.zero).from_ sets
def closedN (base : List Nd) (opps : List Int) (steps : List Stp) (at_ : Nat) : Bool :=
  let x := steps.getD at_ Stp.zero
  bif onN base x 2 && x.e == 0 then premN steps at_ []
  else inS x.set x.on && (inS x.set x.e && (opposedN opps x.on x.e && premN steps at_ []))
def correctN (lg : Int) (base : List Nd) (opps : List Int) (steps : List Stp) (at_ : Nat) : Bool :=
  let x := steps.getD at_ Stp.zero
  let n := nodeOn base x
  bif !insideS base x.set then false
  else bif x.rule == 1 then closedN base opps steps at_
  else bif x.rule == 4 then decide (0 ≤ x.e) && (opposedN opps x.on x.e && premN steps at_ [x.set ||| 2 ^ x.on.toNat, x.set ||| 2 ^ x.e.toNat])
  else bif x.e != 0 then false
  else bif x.rule == 2 then onN base x 5 && premN steps at_ [x.set ||| 2 ^ n.x.toNat ||| 2 ^ n.y.toNat]
  else bif x.rule == 3 then onN base x 6 && premN steps at_ [x.set ||| 2 ^ n.x.toNat, x.set ||| 2 ^ n.y.toNat]
  else bif x.rule == 5 then onN base x 9 && ((lg == 2 || (lg == 4 || lg == 6)) && premN steps at_ [x.set ||| 2 ^ n.x.toNat])
  else bif x.rule == 6 then onN base x 10 && premN steps at_ [2 ^ n.x.toNat ||| carryN lg base x.set n.i]
  else bif x.rule == 7 then (lg == 1 || lg == 5) && (decide (0 ≤ x.on) && (decide (x.on < 4) && premN steps at_ [carryN lg base x.set x.on]))
  else false
def formS (lg : Int) (base : List Nd) (steps : List Stp) : Int :=
  bif !knownN lg then 2 else bif baseErr base != 0 then baseErr base else bif decide (steps.length = 0) || decide (4096 < steps.length) then 3 else 0
def brokenGo (lg : Int) (base : List Nd) (opps : List Int) (steps : List Stp) : Nat → Nat → Int
  | 0, _ => -1
  | k + 1, i => bif correctN lg base opps steps i then brokenGo lg base opps steps k (i + 1) else i
def brokenS (lg : Int) (base : List Nd) (steps : List Stp) : Int :=
  bif formS lg base steps != 0 then -1 else brokenGo lg base (oppsN base) steps steps.length 0
def checkS (lg : Int) (base : List Nd) (steps : List Stp) : Int :=
  bif formS lg base steps != 0 then formS lg base steps else bif decide (0 ≤ brokenS lg base steps) then 13 else 0
def refutedS (lg : Int) (base : List Nd) (steps : List Stp) : List (List Nd) × Int :=
  bif checkS lg base steps != 0 then ([], checkS lg base steps)
  else (((List.range base.length).filter fun (i : Nat) => inS (steps.getLastD Stp.zero).set i).map fun (i : Nat) => subN base i, 0)
def provesS (lg : Int) (base : List Nd) (steps : List Stp) (f : List Nd) : Int :=
  bif (refutedS lg base steps).2 != 0 then (refutedS lg base steps).2
  else bif check f != 0 then check f
  else bif decide (2 ≤ fragsN f) then 10
  else bif !decide ((refutedS lg base steps).1 = [oppN f]) then 13 else 0
end Go.Proofs.Ytjonmmgpnfgomaa

/- The formulas of a base are formulas of knowledge, and so are their negations. -/

namespace Go.Proofs.Ytjonmmgpnfgomaa

def OpOk (n : Nd) : Prop := 1 ≤ n.op ∧ n.op ≤ 10
theorem fin_ops {f : List Nd} (hf : Wf f) (h : ∀ n ∈ f, OpOk n) {i : Nat} (hi : i < f.length) : ∀ n ∈ (finN f i []).1, OpOk n := by
  intro m hm
  rcases fin_mem hf i [] hi m hm with h1 | ⟨n, hn, k1, k2, rfl⟩
  · cases h1
  · exact h n hn
theorem few_compact {g : List Nd} (hc : check g = 0) (h : Few10 g) : Few10 (compactN g) := by
  rw [compactN_eq hc]
  exact fin_ops (check_wf hc) h (by have := (check_parts hc).1; omega)
theorem check_nil : check [] ≠ 0 := by decide
theorem any_one (f : List Nd) : [f].any (fun o => check o != 0) = (check f != 0) := by simp
theorem few_not {f : List Nd} (h : check f = 0 → Few10 (compactN f)) (hn : check (notN f) = 0) : Few10 (compactN (notN f)) := by
  refine few_compact hn ?_
  unfold notN buildN at hn ⊢
  rw [any_one] at hn ⊢
  cases hc : check f != 0
  · have hc0 : check f = 0 := by simpa using hc
    rw [hc, cond_false] at hn
    rw [cond_false]
    have hcw := (compactN_props hc0).1
    have hsw := shift_wf wf_nil hcw
    have hops : ∀ n ∈ ([] ++ (compactN f).map (shiftN ([] : List Nd).length)), OpOk n := by
      intro n hn
      rw [List.nil_append, List.mem_map] at hn
      obtain ⟨m, hm, rfl⟩ := hn
      exact h hc0 m hm
    simp only [layout] at hn ⊢
    unfold joinN at hn ⊢
    generalize [] ++ (compactN f).map (shiftN ([] : List Nd).length) = l at hn hsw hops ⊢
    cases he : nodeErr (setOp 0 ⟨4, 0, 0, 0, 0, 0⟩ l.length) l.length != 0
    · rw [he, cond_false] at hn
      rw [cond_false]
      have he0 : nodeErr (setOp 0 ⟨4, 0, 0, 0, 0, 0⟩ l.length) l.length = 0 := by simpa using he
      obtain ⟨hx, hy⟩ := nodeErr_xy he0
      have hl0 : 0 < l.length := by
        have : operandOk true ((l.length : Int) - 1) l.length = true := hx
        unfold operandOk at this
        simp at this
        omega
      have hw : Wf (l ++ [setOp 0 ⟨4, 0, 0, 0, 0, 0⟩ l.length]) := wf_snoc hsw (fun _ => by
        show 0 ≤ (l.length : Int) - 1 ∧ (l.length : Int) - 1 < l.length
        omega) (fun h => by cases h)
      have key : ∀ n ∈ (finN (l ++ [setOp 0 ⟨4, 0, 0, 0, 0, 0⟩ l.length]) l.length []).1, OpOk n := fin_ops hw (fun n hn => by
        rcases List.mem_append.1 hn with h1 | h1
        · exact hops n h1
        · rw [List.mem_singleton.1 h1]
          exact ⟨by show (1 : Int) ≤ 4; decide, by show (4 : Int) ≤ 10; decide⟩) (by simp)
      cases hb : decide (200 < (finN (l ++ [setOp 0 ⟨4, 0, 0, 0, 0, 0⟩ l.length]) l.length []).1.length)
      · exact key
      · exact fun n hn => by cases hn
    · exact fun n hn => by cases hn
  · exact fun n hn => by cases hn
theorem sub_props {base : List Nd} (hc : check base = 0) {k : Nat} (hk : k < base.length) : subN base k = (finN base k []).1 ∧ check (subN base k) = 0 ∧ (subN base k).length ≤ base.length := by
  have e : subN base k = (finN base k []).1 := by
    unfold subN
    have e2 : (decide ((k : Int) < 0) || decide ((base.length : Int) ≤ (k : Int))) = false := by simp; omega
    rw [hc, e2, Int.toNat_natCast]
    rfl
  have hw := check_wf hc
  have h1 := length_le_pot base (finN base k []).1
  have h2 := pot_le hw k [] hk
  have h3 := pot_nil base
  have hl : (finN base k []).1.length ≤ base.length := by omega
  have h4 := finN_lt hw k [] hk
  refine ⟨e, ?_, by rw [e]; exact hl⟩
  rw [e]
  refine check_of (by intro e; rw [e] at h4; simp at h4) (by have := (check_parts hc).2.1; omega) (fin_wf hw k [] hk wf_nil) (fun n hn => ?_)
  rcases fin_mem hw k [] hk n hn with h | ⟨m, hm, k1, k2, rfl⟩
  · cases h
  · exact (heads_of hc m hm).with_ k1 k2
theorem normal_ops {base : List Nd} {n : Nd} (h : normalN base n = true) : OpOk n := by
  unfold normalN at h
  unfold OpOk
  cases h4 : n.op == 4
  · rw [h4] at h
    simp only [cond_false, Bool.or_eq_true, beq_iff_eq] at h
    omega
  · have : n.op = 4 := by simpa using h4
    omega
theorem base_few {base : List Nd} (ha : base.all (normalN base) = true) : ∀ n ∈ base, OpOk n := fun n hn => normal_ops (List.all_eq_true.1 ha n hn)
theorem sub_few {base : List Nd} (hc : check base = 0) (ha : base.all (normalN base) = true) {k : Nat} (hk : k < base.length) : Few10 (subN base k) := by
  rw [(sub_props hc hk).1]
  exact fin_ops (check_wf hc) (base_few ha) hk
/-- What opposite wants. -/
theorem opp_few {base : List Nd} (hc : check base = 0) (ha : base.all (normalN base) = true) {k : Nat} (hk : k < base.length) : check (notN (subN base k)) = 0 → Few10 (compactN (notN (subN base k))) :=
  few_not fun h => few_compact h (sub_few hc ha hk)
theorem frag_ops {n : Nd} (ho : isOp n.op = true) (h : fragOf n.op < 2) : OpOk n := by
  obtain ⟨h1, h2⟩ := (isOp_iff _).1 ho
  refine ⟨h1, ?_⟩
  rcases op_cases n.op with e | e | e | e | e | e | e | e | e | e | e | e | e | e | e | e | e | e | e | e | e | e | e
  all_goals first | omega | (rw [e] at h; exact absurd h (by decide))
end Go.Proofs.Ytjonmmgpnfgomaa

/- The negation normal forms are canonical lists; the place of a formula among those of a base. -/

namespace Go.Proofs.Ytjonmmgpnfgomaa

theorem can_true : Can trueN := by rw [true_list]; exact can_leaf rfl rfl
theorem can_false : Can falseN := by rw [false_list]; exact can_leaf rfl rfl
theorem can_not (f : List Nd) : Can (notN f) := can_un rfl rfl (head0 4 (by omega))
theorem can_and (f g : List Nd) : Can (andN f g) := can_bin rfl rfl (head0 5 (by omega))
theorem can_or (f g : List Nd) : Can (orN f g) := can_bin rfl rfl (head0 6 (by omega))
theorem can_know {n : Nd} (h : headOk n) (ho : n.op = 9 ∨ n.op = 10) (f : List Nd) : Can (knowN n.i f) := can_un rfl rfl (head9 h 9 (.inl rfl) ho)
theorem can_poss {n : Nd} (h : headOk n) (ho : n.op = 9 ∨ n.op = 10) (f : List Nd) : Can (possN n.i f) := can_un rfl rfl (head9 h 10 (.inr rfl) ho)
theorem can_fact {n : Nd} (h : headOk n) (ho : n.op = 3) : Can (factN n.i) := by
  unfold factN
  rw [(build_zero rfl rfl (head3 h ho)).2]
  exact can_leaf rfl rfl
theorem can_pos {n : Nd} (h : headOk n) {p : Bool → Int → List Nd} (hp : n.op = 4 → Can (p true n.x)) : Can (posS n p) := by
  unfold posS
  cases h4 : n.op == 4
  · cases n.op == 7
    · cases n.op == 8
      · cases n.op == 2
        · cases h3 : n.op == 3
          · cases n.op == 5
            · cases n.op == 6
              · cases h9 : n.op == 9
                · cases h10 : n.op == 10
                  · exact can_true
                  · exact can_poss h (.inr (by simpa using h10)) _
                · exact can_know h (.inl (by simpa using h9)) _
              · exact can_or _ _
            · exact can_and _ _
          · exact can_fact h (by simpa using h3)
        · exact can_false
      · exact can_and _ _
    · exact can_or _ _
  · exact hp (by simpa using h4)
theorem can_neg {n : Nd} (h : headOk n) {p : Bool → Int → List Nd} (hp : n.op = 4 → Can (p false n.x)) : Can (negS n p) := by
  unfold negS
  cases n.op == 1
  · cases n.op == 2
    · cases h4 : n.op == 4
      · cases n.op == 5
        · cases n.op == 6
          · cases n.op == 7
            · cases n.op == 8
              · cases h9 : n.op == 9
                · cases h10 : n.op == 10
                  · exact can_not _
                  · exact can_know h (.inr (by simpa using h10)) _
                · exact can_poss h (.inl (by simpa using h9)) _
              · exact can_or _ _
            · exact can_and _ _
          · exact can_and _ _
        · exact can_or _ _
      · exact hp (by simpa using h4)
    · exact can_true
  · exact can_false
theorem nnf_can {c : List Nd} (hc : Wf c) (hh : ∀ n ∈ c, headOk n) : ∀ (i : Nat), i < c.length → ∀ no, Can (nnfN c no i) := by
  intro i
  induction i using Nat.strongRecOn with
  | _ i ih =>
    intro hi no
    obtain ⟨n, hn⟩ : ∃ n, c[i]? = some n := ⟨_, List.getElem?_eq_getElem hi⟩
    obtain ⟨hx, _⟩ := hc i n hn
    have hd := hh n (List.mem_of_getElem? hn)
    have hs : ∀ b, n.op = 4 → Can (nnfN c b n.x.toNat) := fun b h4 => by
      have := hx (by rw [h4]; rfl)
      exact ih _ (by omega) (by omega) b
    rw [nnfN_eq hc hn]
    cases no
    · exact can_pos (p := fun b j => nnfN c b j.toNat) hd (hs true)
    · exact can_neg (p := fun b j => nnfN c b j.toNat) hd (hs false)
theorem can_opp (f : List Nd) : Can (oppN f) := by
  unfold oppN nnfAll
  cases hc : check (notN f) != 0
  · have hc0 : check (notN f) = 0 := by simpa using hc
    obtain ⟨a, _, b, d⟩ := compactN_props hc0
    exact nnf_can a d _ (by omega) false
  · exact .inl rfl
theorem same_can {f g : List Nd} (hf : Can f) (hg : Can g) (hc : check f = 0) : sameN f g = decide (f = g) := by
  rw [Bool.eq_iff_iff, sameN_tree, decide_eq_true_iff]
  constructor
  · rintro ⟨_, hcg, he⟩
    rcases hf with rfl | ⟨t, ht, rfl⟩
    · exact absurd hc check_nil
    · rcases hg with rfl | ⟨s, hs, rfl⟩
      · exact absurd hcg check_nil
      · rw [treeOf_canon ht, treeOf_canon hs] at he
        rw [he]
  · rintro rfl
    exact ⟨hc, hc, rfl⟩
/-- The reference's test at a node of a base. -/
theorem same_at {base : List Nd} (hc : check base = 0) {i : Nat} (hi : i < base.length) (f : List Nd) : sameN (subN base i) (oppN f) = decide (subN base i = oppN f) :=
  same_can (by rw [subN_tree hc hi]; exact .inr ⟨_, tr_ok (check_wf hc) _ hi, rfl⟩) (can_opp f) (sub_props hc hi).2.1
theorem place_hit {base g : List Nd} {k : Nat} (hk : k < base.length) (hb : ∀ j : Nat, j < k → decide (subN base j = g) = false) (h : decide (subN base k = g) = true) : placeN (formulasN base) g = k := by
  have hl : (formulasN base).length = base.length := by simp [formulasN]
  have : (formulasN base).findIdx? (fun f => decide (f = g)) = some k := by
    rw [List.findIdx?_eq_some_iff_getElem]
    refine ⟨by omega, by simpa [formulasN] using h, fun j hj => by simpa [formulasN] using hb j hj⟩
  unfold placeN
  rw [this]
theorem place_none {base g : List Nd} (hb : ∀ j : Nat, j < base.length → decide (subN base j = g) = false) : placeN (formulasN base) g = -1 := by
  have : (formulasN base).findIdx? (fun f => decide (f = g)) = none := by
    rw [List.findIdx?_eq_none_iff]
    intro x hx
    unfold formulasN at hx
    rw [List.mem_map] at hx
    obtain ⟨i, hi, rfl⟩ := hx
    exact hb i (List.mem_range.1 hi)
  unfold placeN
  rw [this]
/-- The normal form of a node without negation, implication, equivalence. -/
theorem rebuild_pos {n : Nd} (h : headOk n) (hk : 1 ≤ n.op ∧ n.op ≤ 10) (h4 : n.op ≠ 4) (h7 : n.op ≠ 7) (h8 : n.op ≠ 8) (p : Bool → Int → List Nd) : posS n p = rebuildN n (p false n.x) (p false n.y) := by
  rcases (show n.op = 1 ∨ n.op = 2 ∨ n.op = 3 ∨ n.op = 5 ∨ n.op = 6 ∨ n.op = 9 ∨ n.op = 10 by omega) with ho | ho | ho | ho | ho | ho | ho
  · unfold rebuildN posS; rw [bare_of h (by omega), ho]; exact true_list
  · unfold rebuildN posS; rw [bare_of h (by omega), ho]; exact false_list
  · unfold rebuildN posS; rw [bare_i h (by omega), ho]; exact (build_zero rfl rfl (head3 h ho)).2
  · unfold rebuildN posS; rw [bare_of h (by omega), ho]; rfl
  · unfold rebuildN posS; rw [bare_of h (by omega), ho]; rfl
  · unfold rebuildN posS; rw [bare_i h (by omega), ho]; rfl
  · unfold rebuildN posS; rw [bare_i h (by omega), ho]; rfl
end Go.Proofs.Ytjonmmgpnfgomaa

/- The constructor Common. -/

namespace Go.Proofs.Ytjonmmgpnfgomaa
open Go.RowKit

def commonN (g : Int) (a b : List Nd) : List Nd := buildN ⟨13, 0, 0, g, 0, 0⟩ [a, b]
set_option maxHeartbeats 400000 in
theorem common_any (k : Int) (hk : i64ok k) (v1 v2 : Value) (f g : List Nd) (w : World) (h1 : Fml w v1 f) (h2 : Fml w v2 g) :
    Calls Try.prog 60 #[.int .i64 k, v1, v2] w fun e w' => ∃ u, e = .returned u ∧ Made w w' u (commonN k f g) := by
  have H1 := Lib.hid h1
  have H2 := Lib.hid h2
  obtain ⟨A1, c1, rfl, _⟩ := fml_slice h1
  obtain ⟨A2, c2, rfl, _⟩ := fml_slice h2
  clear h1 h2
  go_enter Try.func60, Try.ntmps60
  go_wp2_with fail
  refine (build_any ⟨13, 0, 0, k, 0, 0⟩ _ [f, g] _ (small_ok (i64_small (by omega) (by omega)) (i64_small (by omega) (by omega)) (i64_small (by omega) (by omega)) hk (i64_small (by omega) (by omega)) (i64_small (by omega) (by omega))) (fmls_two H1.out H2.out) (by simp)).mono ?_
  rintro e w1 ⟨u, rfl, hm⟩
  have HM := Lib.hid hm
  clear hm
  go_wp2_with fail
  go_ret
  exact ⟨_, rfl, (HM.out.before ((Ext.refl _).alloc _))⟩
end Go.Proofs.Ytjonmmgpnfgomaa
