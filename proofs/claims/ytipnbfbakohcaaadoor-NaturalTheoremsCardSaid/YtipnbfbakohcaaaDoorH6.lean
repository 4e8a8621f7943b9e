/- What the tests of natural deduction come to on trees. -/
import Derived.Test.YtipnbfbakohcaaaDoorH5
import Derived.Test.YtipnbfbakohcaaaDoorH1
import Derived.Test.YtipnbfbakohcaaaDoorG9

namespace Go.Proofs.YtipnbfbakohcaaaDoor

def opD (op : Int) : Nd := ⟨op, 0, 0, 0, 0, 0⟩
def faD : Nd := ⟨2, 0, 0, 0, 0, 0⟩
theorem faD_ok : Pn faD := ⟨⟨rfl, rfl, rfl, fun h => rfl, fun h => rfl⟩, by decide⟩
theorem false_fo : falseN = canon (.leaf faD) ∧ Fo 1 (.leaf faD) (canon (.leaf faD)) :=
  ⟨by decide +kernel, fo_canon ⟨rfl, rfl⟩ faD_ok (by decide +kernel) (by decide)⟩
theorem anD_ok : Pn (opD 5) := ⟨⟨rfl, rfl, rfl, fun h => rfl, fun h => rfl⟩, by decide⟩
theorem and_fo {N M : Nat} {s t : Tr} {f g : List Nd} (hf : Fo N s f) (hg : Fo M t g) (hl : N + M < 199) : andN f g = canon (.two (opD 5) s t) ∧ Fo (N + M + 1) (.two (opD 5) s t) (canon (.two (opD 5) s t)) :=
  ⟨build_two' hf hg rfl rfl anD_ok rfl (by omega), fo_two hf hg rfl rfl anD_ok rfl (by omega)⟩
theorem subN_len {f : List Nd} (h : check f = 0) {z : Nat} (hz : z < f.length) : (subN f z).length ≤ f.length := by
  unfold subN
  have e : (decide ((z : Int) < 0) || decide ((f.length : Int) ≤ (z : Int))) = false := by simp; omega
  rw [h, e, Int.toNat_natCast]
  have a := length_le_pot f (finN f z []).1
  have b := pot_le (check_wf h) z [] hz
  have c := pot_nil f
  show (finN f z []).1.length ≤ _
  omega
/-- The forms of a formula of the fragment of knowledge. -/
inductive Shape (N : Nat) (t : Tr) (f : List Nd) : Prop where
  | two (op : Int) (a b : Tr) (ho : op = 5 ∨ op = 6 ∨ op = 7 ∨ op = 8) (ht : t = .two (opD op) a b) (h1 : (lastN f).op = op) (hx : firstN f = canon a) (hy : secondN f = canon b) (ha : Fo N a (canon a)) (hb : Fo N b (canon b))
  | not (a : Tr) (ht : t = .one noD a) (h1 : (lastN f).op = 4) (hx : firstN f = canon a) (ha : Fo N a (canon a))
  | know (i : Int) (a : Tr) (hi : 0 ≤ i ∧ i < 4) (ht : t = .one (knD i) a) (h1 : (lastN f).op = 9) (h2 : (lastN f).i = i) (hx : firstN f = canon a) (ha : Fo N a (canon a))
  | poss (i : Int) (a : Tr) (hi : 0 ≤ i ∧ i < 4) (ht : t = .one (poD i) a) (h1 : (lastN f).op = 10) (h2 : (lastN f).i = i) (hx : firstN f = canon a) (ha : Fo N a (canon a))
  | true_ (ht : t = .leaf trD) (h1 : (lastN f).op = 1)
  | false_ (ht : t = .leaf faD) (h1 : (lastN f).op = 2)
  | fact (n : Nd) (ht : t = .leaf n) (h0 : n.op = 3) (h1 : (lastN f).op = 3)
theorem op_ten {op : Int} (h1 : isOp op = true) (h2 : fragOf op < 2) : op = 1 ∨ op = 2 ∨ op = 3 ∨ op = 4 ∨ op = 5 ∨ op = 6 ∨ op = 7 ∨ op = 8 ∨ op = 9 ∨ op = 10 := by
  unfold isOp at h1
  simp only [Bool.and_eq_true, decide_eq_true_iff] at h1
  by_cases h : op ≤ 10
  · omega
  · exfalso
    have : op = 11 ∨ op = 12 ∨ op = 13 ∨ op = 14 ∨ op = 15 ∨ op = 16 ∨ op = 17 ∨ op = 18 ∨ op = 19 ∨ op = 20 ∨ op = 21 := by omega
    rcases this with rfl | rfl | rfl | rfl | rfl | rfl | rfl | rfl | rfl | rfl | rfl <;> revert h2 <;> decide
theorem nd_of {n : Nd} (h : headOk n) (hx : n.x = 0) (hy : n.y = 0) (hf : hasFact n.op = false) (he : hasEvent n.op = false) (hg : hasGroup n.op = false) : n = ⟨n.op, n.i, 0, 0, 0, 0⟩ ∧ (hasAgent n.op = false → n.i = 0) ∧ (hasAgent n.op = true → 0 ≤ n.i ∧ n.i < 4) := by
  obtain ⟨_, h2, h3, _, _⟩ := h
  unfold formBad at h2
  unfold rangeBad outsideB at h3
  rw [hf, he, hg] at h2 h3
  obtain ⟨o, i, e, g, x, y⟩ := n
  simp at h2 h3 hx hy ⊢
  obtain ⟨⟨a, b⟩, c⟩ := h2
  refine ⟨⟨b, c, hx, hy⟩, a, fun hh => ?_⟩
  have := h3 hh
  omega
theorem Fo.shape {N : Nat} {t : Tr} {f : List Nd} (h : Fo N t f) (hN : N ≤ 200) : Shape N t f := by
  have hc := h.ck
  have e := last_tree hc
  rw [h.tree] at e
  have hpos := (check_parts hc).1
  have hlast := lastN_get hpos
  have hwf := check_wf hc _ _ hlast
  have hall := h.all
  have hok := h.ok
  have sub : ∀ z : Int, 0 ≤ z → z < f.length → (tr f z.toNat).ok → (tr f z.toNat).all Pn → subN f z = canon (tr f z.toNat) ∧ Fo N (tr f z.toNat) (canon (tr f z.toNat)) := fun z h0 h1 h2 h3 => by
    have hz : z.toNat < f.length := by omega
    have e1 := subN_tree hc hz
    have e2 := subN_len hc hz
    rw [show ((z.toNat : Nat) : Int) = z by omega] at e1 e2
    refine ⟨e1, fo_canon h2 h3 ?_ hN⟩
    rw [← e1]
    exact Nat.le_trans e2 h.len
  generalize hn : lastN f = n at e hwf hlast
  have hsx : n.x = (lastN f).x := by rw [hn]
  have hsy : n.y = (lastN f).y := by rw [hn]
  have hfx : firstN f = subN f n.x := by unfold firstN; rw [hn]
  have hfy : secondN f = subN f n.y := by unfold secondN; rw [hn]
  unfold mkTr at e
  cases h2 : hasY n.op
  · cases h1 : hasX n.op
    · -- a leaf
      rw [h2, h1] at e
      simp only [cond_false] at e
      subst e
      have hp : Pn n := hall
      rcases op_ten hp.1.1 hp.2 with ho | ho | ho | ho | ho | ho | ho | ho | ho | ho
      · refine .true_ ?_ (by rw [hn]; exact ho)
        obtain ⟨a, b, _⟩ := nd_of hp.1 (hp.1.2.2.2.1 h1) (hp.1.2.2.2.2 h2) (by rw [ho]; rfl) (by rw [ho]; rfl) (by rw [ho]; rfl)
        rw [a, b (by rw [ho]; rfl), ho]; rfl
      · refine .false_ ?_ (by rw [hn]; exact ho)
        obtain ⟨a, b, _⟩ := nd_of hp.1 (hp.1.2.2.2.1 h1) (hp.1.2.2.2.2 h2) (by rw [ho]; rfl) (by rw [ho]; rfl) (by rw [ho]; rfl)
        rw [a, b (by rw [ho]; rfl), ho]; rfl
      · exact .fact n rfl ho (by rw [hn]; exact ho)
      all_goals (rw [ho] at h1; exact absurd h1 (by decide))
    · -- one operand
      rw [h2, h1] at e
      simp only [cond_false, cond_true] at e
      have hx := hwf.1 h1
      have hp : Pn n.head := by rw [e] at hall; exact hall.1
      obtain ⟨s1, s2⟩ := sub n.x (by omega) (by omega) (by rw [e] at hok; exact hok.2.2.2) (by rw [e] at hall; exact hall.2)
      have hop : n.head.op = n.op := rfl
      have hhx : n.head.x = 0 := by unfold Nd.head Nd.with_; simp [h1]
      have hhy : n.head.y = 0 := hp.1.2.2.2.2 (by rw [hop]; exact h2)
      have hi : n.head.i = n.i := rfl
      rcases op_ten (op := n.op) hp.1.1 hp.2 with ho | ho | ho | ho | ho | ho | ho | ho | ho | ho
      · rw [ho] at h1; exact absurd h1 (by decide)
      · rw [ho] at h1; exact absurd h1 (by decide)
      · rw [ho] at h1; exact absurd h1 (by decide)
      · obtain ⟨a, b, _⟩ := nd_of hp.1 hhx hhy (by rw [hop, ho]; rfl) (by rw [hop, ho]; rfl) (by rw [hop, ho]; rfl)
        refine .not (tr f n.x.toNat) ?_ (by rw [hn]; exact ho) (by rw [hfx, s1]) s2
        rw [e, a, b (by rw [hop, ho]; rfl), hop, ho]; rfl
      · rw [ho] at h2; exact absurd h2 (by decide)
      · rw [ho] at h2; exact absurd h2 (by decide)
      · rw [ho] at h2; exact absurd h2 (by decide)
      · rw [ho] at h2; exact absurd h2 (by decide)
      · obtain ⟨a, _, b⟩ := nd_of hp.1 hhx hhy (by rw [hop, ho]; rfl) (by rw [hop, ho]; rfl) (by rw [hop, ho]; rfl)
        refine .know n.i (tr f n.x.toNat) (by have := b (by rw [hop, ho]; rfl); rw [hi] at this; exact this) ?_ (by rw [hn]; exact ho) (by rw [hn]) (by rw [hfx, s1]) s2
        rw [e, a, hi, hop, ho]; rfl
      · obtain ⟨a, _, b⟩ := nd_of hp.1 hhx hhy (by rw [hop, ho]; rfl) (by rw [hop, ho]; rfl) (by rw [hop, ho]; rfl)
        refine .poss n.i (tr f n.x.toNat) (by have := b (by rw [hop, ho]; rfl); rw [hi] at this; exact this) ?_ (by rw [hn]; exact ho) (by rw [hn]) (by rw [hfx, s1]) s2
        rw [e, a, hi, hop, ho]; rfl
  · have h1 := hasX_of_hasY h2
    rw [h2] at e
    simp only [cond_true] at e
    have hx := hwf.1 h1
    have hy := hwf.2 h2
    have hp : Pn n.head := by rw [e] at hall; exact hall.1
    obtain ⟨s1, s2⟩ := sub n.x (by omega) (by omega) (by rw [e] at hok; exact hok.2.2.2.1) (by rw [e] at hall; exact hall.2.1)
    obtain ⟨r1, r2⟩ := sub n.y (by omega) (by omega) (by rw [e] at hok; exact hok.2.2.2.2) (by rw [e] at hall; exact hall.2.2)
    have hop : n.head.op = n.op := rfl
    have hhx : n.head.x = 0 := by unfold Nd.head Nd.with_; simp [h1]
    have hhy : n.head.y = 0 := by unfold Nd.head Nd.with_; simp [h2]
    have ho : n.op = 5 ∨ n.op = 6 ∨ n.op = 7 ∨ n.op = 8 := by
      rcases op_ten (op := n.op) hp.1.1 hp.2 with ho | ho | ho | ho | ho | ho | ho | ho | ho | ho
      all_goals first | omega | (rw [ho] at h2; exact absurd h2 (by decide))
    refine .two n.op _ _ ho ?_ (by rw [hn]) (by rw [hfx, s1]) (by rw [hfy, r1]) s2 r2
    rw [e]
    congr 1
    obtain ⟨a, b, _⟩ := nd_of hp.1 hhx hhy (by rw [hop]; rcases ho with h | h | h | h <;> rw [h] <;> rfl) (by rw [hop]; rcases ho with h | h | h | h <;> rw [h] <;> rfl) (by rw [hop]; rcases ho with h | h | h | h <;> rw [h] <;> rfl)
    rw [a, b (by rw [hop]; rcases ho with h | h | h | h <;> rw [h] <;> rfl), hop]; rfl

theorem eqN_iff {s t : Tr} (hs : s.ok) (ht : t.ok) : eqN (canon s) (canon t) = true ↔ s = t := by
  constructor
  · intro h
    by_cases e : s = t
    · exact e
    · rw [eqN_ne hs ht e] at h; cases h
  · rintro rfl; exact eqN_self hs
theorem sameN_iff {N M : Nat} {s t : Tr} {f g : List Nd} (hf : Fo N s f) (hg : Fo M t g) : sameN f g = true ↔ s = t := by
  rw [sameN_tree, hf.tree, hg.tree]
  exact ⟨fun h => h.2.2, fun h => ⟨hf.ck, hg.ck, h⟩⟩
theorem opD_op (op : Int) : (opD op).op = op := rfl
section
variable {N M K : Nat} {t s u : Tr} {f g a b : List Nd}
theorem two_iff (hf : Fo N t f) (hN : N ≤ 200) {op : Int} (ho : op = 5 ∨ op = 6 ∨ op = 7 ∨ op = 8) : ((lastN f).op == op) = true ↔ ∃ x y, t = .two (opD op) x y ∧ firstN f = canon x ∧ secondN f = canon y ∧ Fo N x (canon x) ∧ Fo N y (canon y) := by
  rw [beq_iff_eq]
  rcases hf.shape hN with ⟨op', x, y, ho', ht, h1, hx, hy, ha, hb⟩ | ⟨x, ht, h1, _, _⟩ | ⟨i, x, hi, ht, h1, h2, hx, ha⟩ | ⟨i, x, hi, ht, h1, h2, hx, ha⟩ | ⟨ht, h1⟩ | ⟨ht, h1⟩ | ⟨n, ht, h0, h1⟩
  · constructor
    · intro e
      obtain rfl : op' = op := by omega
      exact ⟨x, y, ht, hx, hy, ha, hb⟩
    · rintro ⟨x', y', e, _⟩
      rw [ht] at e
      injection e with e
      have := congrArg Nd.op e
      rw [opD_op, opD_op] at this
      omega
  all_goals exact ⟨fun e => by omega, by rintro ⟨x', y', e, _⟩; rw [ht] at e; cases e⟩
theorem not_iff (hf : Fo N t f) (hN : N ≤ 200) : ((lastN f).op == 4) = true ↔ ∃ x, t = .one noD x ∧ firstN f = canon x ∧ Fo N x (canon x) := by
  rw [beq_iff_eq]
  rcases hf.shape hN with ⟨op', x, y, ho', ht, h1, hx, hy, ha, hb⟩ | ⟨x, ht, h1, hx, ha⟩ | ⟨i, x, hi, ht, h1, h2, hx, ha⟩ | ⟨i, x, hi, ht, h1, h2, hx, ha⟩ | ⟨ht, h1⟩ | ⟨ht, h1⟩ | ⟨n, ht, h0, h1⟩
  · exact ⟨fun e => by omega, by rintro ⟨x', e, _⟩; rw [ht] at e; cases e⟩
  · exact ⟨fun _ => ⟨x, ht, hx, ha⟩, fun _ => h1⟩
  · exact ⟨fun e => by omega, by rintro ⟨x', e, _⟩; rw [ht] at e; injection e with e; exact absurd (congrArg Nd.op e) (show (9 : Int) ≠ 4 by decide)⟩
  · exact ⟨fun e => by omega, by rintro ⟨x', e, _⟩; rw [ht] at e; injection e with e; exact absurd (congrArg Nd.op e) (show (10 : Int) ≠ 4 by decide)⟩
  all_goals exact ⟨fun e => by omega, by rintro ⟨x', e, _⟩; rw [ht] at e; cases e⟩
theorem know_iff (hf : Fo N t f) (hN : N ≤ 200) : ((lastN f).op == 9) = true ↔ ∃ x, t = .one (knD (lastN f).i) x ∧ firstN f = canon x ∧ Fo N x (canon x) ∧ 0 ≤ (lastN f).i ∧ (lastN f).i < 4 := by
  rw [beq_iff_eq]
  rcases hf.shape hN with ⟨op', x, y, ho', ht, h1, hx, hy, ha, hb⟩ | ⟨x, ht, h1, hx, ha⟩ | ⟨i, x, hi, ht, h1, h2, hx, ha⟩ | ⟨i, x, hi, ht, h1, h2, hx, ha⟩ | ⟨ht, h1⟩ | ⟨ht, h1⟩ | ⟨n, ht, h0, h1⟩
  · exact ⟨fun e => by omega, by rintro ⟨x', e, _⟩; rw [ht] at e; cases e⟩
  · exact ⟨fun e => by omega, by rintro ⟨x', e, _⟩; rw [ht] at e; injection e with e; exact absurd (congrArg Nd.op e) (show (4 : Int) ≠ 9 by decide)⟩
  · exact ⟨fun _ => ⟨x, by rw [ht, h2], hx, ha, by omega, by omega⟩, fun _ => h1⟩
  · exact ⟨fun e => by omega, by rintro ⟨x', e, _⟩; rw [ht] at e; injection e with e; exact absurd (congrArg Nd.op e) (show (10 : Int) ≠ 9 by decide)⟩
  all_goals exact ⟨fun e => by omega, by rintro ⟨x', e, _⟩; rw [ht] at e; cases e⟩
theorem poss_iff (hf : Fo N t f) (hN : N ≤ 200) : ((lastN f).op == 10) = true ↔ ∃ x, t = .one (poD (lastN f).i) x ∧ firstN f = canon x ∧ Fo N x (canon x) ∧ 0 ≤ (lastN f).i ∧ (lastN f).i < 4 := by
  rw [beq_iff_eq]
  rcases hf.shape hN with ⟨op', x, y, ho', ht, h1, hx, hy, ha, hb⟩ | ⟨x, ht, h1, hx, ha⟩ | ⟨i, x, hi, ht, h1, h2, hx, ha⟩ | ⟨i, x, hi, ht, h1, h2, hx, ha⟩ | ⟨ht, h1⟩ | ⟨ht, h1⟩ | ⟨n, ht, h0, h1⟩
  · exact ⟨fun e => by omega, by rintro ⟨x', e, _⟩; rw [ht] at e; cases e⟩
  · exact ⟨fun e => by omega, by rintro ⟨x', e, _⟩; rw [ht] at e; injection e with e; exact absurd (congrArg Nd.op e) (show (4 : Int) ≠ 10 by decide)⟩
  · exact ⟨fun e => by omega, by rintro ⟨x', e, _⟩; rw [ht] at e; injection e with e; exact absurd (congrArg Nd.op e) (show (9 : Int) ≠ 10 by decide)⟩
  · exact ⟨fun _ => ⟨x, by rw [ht, h2], hx, ha, by omega, by omega⟩, fun _ => h1⟩
  all_goals exact ⟨fun e => by omega, by rintro ⟨x', e, _⟩; rw [ht] at e; cases e⟩
theorem true_iff' (hf : Fo N t f) (hN : N ≤ 200) : ((lastN f).op == 1) = true ↔ t = .leaf trD := by
  rw [beq_iff_eq]
  rcases hf.shape hN with ⟨op', x, y, ho', ht, h1, hx, hy, ha, hb⟩ | ⟨x, ht, h1, hx, ha⟩ | ⟨i, x, hi, ht, h1, h2, hx, ha⟩ | ⟨i, x, hi, ht, h1, h2, hx, ha⟩ | ⟨ht, h1⟩ | ⟨ht, h1⟩ | ⟨n, ht, h0, h1⟩
  · exact ⟨fun e => by omega, fun e => by rw [ht] at e; cases e⟩
  · exact ⟨fun e => by omega, fun e => by rw [ht] at e; cases e⟩
  · exact ⟨fun e => by omega, fun e => by rw [ht] at e; cases e⟩
  · exact ⟨fun e => by omega, fun e => by rw [ht] at e; cases e⟩
  · exact ⟨fun _ => ht, fun _ => h1⟩
  · exact ⟨fun e => by omega, fun e => by rw [ht] at e; injection e with e; exact absurd (congrArg Nd.op e) (by decide)⟩
  · exact ⟨fun e => by omega, fun e => by rw [ht] at e; injection e with e; have := congrArg Nd.op e; rw [h0] at this; exact absurd this (by decide)⟩
theorem false_iff' (hf : Fo N t f) (hN : N ≤ 200) : ((lastN f).op == 2) = true ↔ t = .leaf faD := by
  rw [beq_iff_eq]
  rcases hf.shape hN with ⟨op', x, y, ho', ht, h1, hx, hy, ha, hb⟩ | ⟨x, ht, h1, hx, ha⟩ | ⟨i, x, hi, ht, h1, h2, hx, ha⟩ | ⟨i, x, hi, ht, h1, h2, hx, ha⟩ | ⟨ht, h1⟩ | ⟨ht, h1⟩ | ⟨n, ht, h0, h1⟩
  · exact ⟨fun e => by omega, fun e => by rw [ht] at e; cases e⟩
  · exact ⟨fun e => by omega, fun e => by rw [ht] at e; cases e⟩
  · exact ⟨fun e => by omega, fun e => by rw [ht] at e; cases e⟩
  · exact ⟨fun e => by omega, fun e => by rw [ht] at e; cases e⟩
  · exact ⟨fun e => by omega, fun e => by rw [ht] at e; injection e with e; exact absurd (congrArg Nd.op e) (by decide)⟩
  · exact ⟨fun _ => ht, fun _ => h1⟩
  · exact ⟨fun e => by omega, fun e => by rw [ht] at e; injection e with e; have := congrArg Nd.op e; rw [h0] at this; exact absurd this (by decide)⟩
theorem twoR_iff (hf : Fo N t f) (hN : N ≤ 200) (ha : Fo M s a) (hb : Fo K u b) {op : Int} (ho : op = 5 ∨ op = 6 ∨ op = 7 ∨ op = 8) : twoR f op a b = true ↔ t = .two (opD op) s u := by
  unfold twoR
  rw [Bool.and_eq_true, Bool.and_eq_true, two_iff hf hN ho]
  constructor
  · rintro ⟨⟨x, y, ht, hx, hy, fx, fy⟩, h1, h2⟩
    rw [hx, sameN_iff fx ha] at h1
    rw [hy, sameN_iff fy hb] at h2
    rw [ht, h1, h2]
  · intro ht
    obtain ⟨x, y, ht', hx, hy, fx, fy⟩ := (two_iff hf hN ho).1 (by
      rcases hf.shape hN with ⟨op', x, y, ho', ht', h1, hx, hy, ha, hb⟩ | ⟨x, ht', _⟩ | ⟨i, x, hi, ht', _⟩ | ⟨i, x, hi, ht', _⟩ | ⟨ht', h1⟩ | ⟨ht', h1⟩ | ⟨n, ht', h0, h1⟩
      · rw [ht] at ht'
        injection ht' with e
        have := congrArg Nd.op e
        rw [opD_op, opD_op] at this
        rw [h1, this, beq_self_eq_true]
      all_goals (rw [ht] at ht'; cases ht'))
    refine ⟨⟨x, y, ht', hx, hy, fx, fy⟩, ?_, ?_⟩
    · rw [hx, sameN_iff fx ha]; rw [ht] at ht'; injection ht' with _ e1 _; exact e1.symm
    · rw [hy, sameN_iff fy hb]; rw [ht] at ht'; injection ht' with _ _ e1; exact e1.symm
theorem negR_iff (hf : Fo N t f) (hN : N ≤ 200) (hg : Fo M s g) : negR f g = true ↔ t = .one noD s := by
  unfold negR
  rw [Bool.and_eq_true, not_iff hf hN]
  constructor
  · rintro ⟨⟨x, ht, hx, fx⟩, h1⟩
    rw [hx, sameN_iff fx hg] at h1
    rw [ht, h1]
  · intro ht
    obtain ⟨x, ht', hx, fx⟩ := (not_iff hf hN).1 (by
      rcases hf.shape hN with ⟨op', x, y, ho', ht', h1, hx, hy, ha, hb⟩ | ⟨x, ht', h1, _⟩ | ⟨i, x, hi, ht', _⟩ | ⟨i, x, hi, ht', _⟩ | ⟨ht', h1⟩ | ⟨ht', h1⟩ | ⟨n, ht', h0, h1⟩
      · rw [ht] at ht'; cases ht'
      · rw [h1]; rfl
      · rw [ht] at ht'; injection ht' with e; exact absurd (congrArg Nd.op e) (show (4 : Int) ≠ 9 by decide)
      · rw [ht] at ht'; injection ht' with e; exact absurd (congrArg Nd.op e) (show (4 : Int) ≠ 10 by decide)
      all_goals (rw [ht] at ht'; cases ht'))
    exact ⟨⟨x, ht', hx, fx⟩, by rw [hx, sameN_iff fx hg]; rw [ht] at ht'; injection ht' with _ e1; exact e1.symm⟩
end
theorem last_nil : lastN [] = Nd.zero := rfl
theorem check_nil : check [] = 3 := rfl
theorem sameN_nil_left (g : List Nd) : sameN [] g = false := rfl
theorem sameN_nil_right (f : List Nd) : sameN f [] = false := by
  unfold sameN
  rw [check_nil]
  cases check f == 0 <;> rfl
theorem twoR_nil {op : Int} (h : op ≠ 0) (a b : List Nd) : twoR [] op a b = false := by
  unfold twoR
  rw [last_nil, show (Nd.zero.op == op) = false by simpa [Nd.zero] using fun e => h e.symm]
  rfl
theorem twoR_left (f : List Nd) (op : Int) (b : List Nd) : twoR f op [] b = false := by
  unfold twoR
  rw [sameN_nil_right]
  cases (lastN f).op == op <;> rfl
theorem twoR_right (f : List Nd) (op : Int) (a : List Nd) : twoR f op a [] = false := by
  unfold twoR
  rw [sameN_nil_right]
  cases (lastN f).op == op <;> cases sameN (firstN f) a <;> rfl
theorem negR_nil_left (g : List Nd) : negR [] g = false := rfl
theorem negR_nil_right (f : List Nd) : negR f [] = false := by
  unfold negR
  rw [sameN_nil_right]
  cases (lastN f).op == 4 <;> rfl
theorem partL_yes {f : List Nd} {op : Int} (h : ((lastN f).op == op) = true) : partL f op = some (firstN f, secondN f) := by
  unfold partL
  rw [h]
  rfl
theorem partL_no {f : List Nd} {op : Int} (h : ((lastN f).op == op) = false) : partL f op = none := by
  unfold partL
  rw [h]
  rfl
end Go.Proofs.YtipnbfbakohcaaaDoor

/- What the reference's lines and subproofs are: the checker's. -/

namespace Go.Proofs.YtipnbfbakohcaaaDoor

/-- What holds at a line of the checker's lists and of the reference's stacks. -/
structure AtR (ls : List Ln) (fs : List (List Nd)) (st S : List (List Int)) (i : Nat) : Prop where
  il : i < ls.length
  sl : st.length = i + 1
  same : ∀ j, j ≤ i → S.getD j [] = st.getD j []
  sk : Sk st
  opn : ∀ j : Nat, j ≤ i → opensL (ls.getD j Ln.zero) = true → (j : Int) ∈ st.getD j []
  fo : ∀ j, j ≤ i → Fo 40 (treeOf (ls.getD j Ln.zero).f) (ls.getD j Ln.zero).f ∧ fs.getD j [] = canon (treeOf (ls.getD j Ln.zero).f)
  ag : ∀ j, j ≤ i → 0 ≤ (ls.getD j Ln.zero).agent ∧ (ls.getD j Ln.zero).agent < 4
/-- A formula named by both. -/
inductive Ro (o : Option (List Nd)) (f : List Nd) : Prop where
  | no (h1 : o = none) (h2 : f = [])
  | yes (t : Tr) (h1 : o = some (canon t)) (h2 : Fo 40 t f)
section
variable {ls : List Ln} {fs : List (List Nd)} {st S : List (List Int)} {i k : Nat}
theorem boxesR_same (h : S.getD i [] = st.getD i []) (o : List Int) : boxesR ls S i o = boxesR ls st i o := by
  unfold boxesR
  rw [h]
theorem inR_same {d j : Nat} {o : Int} (h : S.getD j [] = st.getD j []) : inR S d o j = inR st d o j := by
  unfold inR
  rw [h]
theorem lastR_same {d : Nat} {o : Int} (h : ∀ j, j ≤ i → S.getD j [] = st.getD j []) : ∀ k last, lastR S d o i k last = lastR st d o i k last
  | 0, _ => rfl
  | k + 1, last => by
    unfold lastR
    rw [inR_same (h (i - (k + 1)) (by omega)), lastR_same h k]
theorem fromR_none (h : (ls.getD i Ln.zero).from_.length ≤ k ∨ fromAt (ls.getD i Ln.zero) k < 0 ∨ (i : Int) ≤ fromAt (ls.getD i Ln.zero) k) : fromR ls i k = none := by
  unfold fromAt at h
  unfold fromR
  have : (decide ((ls.getD i Ln.zero).from_.length ≤ k) || (decide ((ls.getD i Ln.zero).from_.getD k 0 < 0) || decide ((i : Int) ≤ (ls.getD i Ln.zero).from_.getD k 0))) = true := by
    simp only [Bool.or_eq_true, decide_eq_true_iff]; exact h
  simp only [this, cond_true]
theorem fromR_some (h1 : k < (ls.getD i Ln.zero).from_.length) (h2 : ¬ (fromAt (ls.getD i Ln.zero) k < 0 ∨ (i : Int) ≤ fromAt (ls.getD i Ln.zero) k)) : fromR ls i k = some (fromAt (ls.getD i Ln.zero) k) := by
  unfold fromAt at h2 ⊢
  unfold fromR
  have : (decide ((ls.getD i Ln.zero).from_.length ≤ k) || (decide ((ls.getD i Ln.zero).from_.getD k 0 < 0) || decide ((i : Int) ≤ (ls.getD i Ln.zero).from_.getD k 0))) = false := by
    rw [Bool.eq_false_iff]
    intro e
    simp only [Bool.or_eq_true, decide_eq_true_iff] at e
    omega
  simp only [this, cond_false]
theorem lineR_none (h : fromR ls i k = none) : lineR ls S i k = [] := by unfold lineR; rw [h]
theorem subproofR_none {rule : Int} (h : fromR ls i k = none) : subproofR ls S i k rule = ([], [], 0) := by unfold subproofR; rw [h]
theorem lineR_short (h : (ls.getD i Ln.zero).from_.length ≤ k) : lineR ls S i k = [] := lineR_none (fromR_none (.inl h))
theorem lineAt_nat (ls : List Ln) (j : Nat) : lineAt ls (j : Int) = ls.getD j Ln.zero := by unfold lineAt; rw [Int.toNat_natCast]
theorem AtR.line (h : AtR ls fs st S i) (hk : k < (ls.getD i Ln.zero).from_.length) : Ro (lineL ls fs st i (fromAt (ls.getD i Ln.zero) k)) (lineR ls S i k) := by
  by_cases hj : fromAt (ls.getD i Ln.zero) k < 0 ∨ (i : Int) ≤ fromAt (ls.getD i Ln.zero) k
  · refine .no ?_ (lineR_none (fromR_none (.inr hj)))
    unfold lineL withinL
    rw [if_pos hj]
  · have hf := fromR_some hk hj
    obtain ⟨j, ej⟩ := Int.eq_ofNat_of_zero_le (show 0 ≤ fromAt (ls.getD i Ln.zero) k by omega)
    rw [ej] at hj hf ⊢
    have hS : boxesR ls S i (S.getD ((j : Nat) : Int).toNat []) = boxesR ls st i (st.getD j []) := by
      rw [Int.toNat_natCast, h.same j (by omega), boxesR_same (h.same i (Nat.le_refl _))]
    have hw : withinL st i (j : Int) = if (st.getD i []).take (st.getD j []).length = st.getD j [] then some ((st.getD i []).drop (st.getD j []).length) else none := by
      unfold withinL
      rw [if_neg hj, Int.toNat_natCast]
    have eR : lineR ls S i k = bif (boxesR ls st i (st.getD j [])).1 != 0 then [] else (lineAt ls (j : Int)).f := by
      unfold lineR
      rw [hf]
      show (bif (boxesR ls S i (S.getD ((j : Nat) : Int).toNat [])).1 != 0 then [] else (lineAt ls (j : Int)).f) = _
      rw [hS]
    rw [eR]
    cases hb : (boxesR ls st i (st.getD j [])).1 != 0
    · obtain ⟨h1, h2⟩ := boxesR_zero.1 hb
      obtain ⟨f1, f2⟩ := h.fo j (by omega)
      rw [if_pos h1] at hw
      refine .yes _ ?_ (by rw [cond_false, lineAt_nat]; exact f1)
      unfold lineL
      rw [hw, Int.toNat_natCast, f2]
      simp only [h2]
      rfl
    · refine .no ?_ rfl
      unfold lineL
      rw [hw]
      by_cases h1 : (st.getD i []).take (st.getD j []).length = st.getD j []
      · rw [if_pos h1]
        have h2 : boxesL ls ((st.getD i []).drop (st.getD j []).length) ≠ [] := fun e => by
          rw [boxesR_zero.2 ⟨h1, e⟩] at hb; cases hb
        simp only
        cases hl : boxesL ls ((st.getD i []).drop (st.getD j []).length) with
        | nil => exact absurd hl h2
        | cons a t => rfl
      · rw [if_neg h1]
/-- A subproof named by both. -/
inductive Rs (ls : List Ln) (fs : List (List Nd)) (rule : Int) (o : Option (Int × List Nd)) (r : List Nd × List Nd × Int) : Prop where
  | no (h1 : ∀ q, o = some q → (lineAt ls q.1).rule ≠ rule) (h2 : r = ([], [], 0))
  | yes (j : Nat) (s t : Tr) (f g : List Nd) (h1 : o = some ((j : Int), canon t)) (h2 : (lineAt ls (j : Int)).rule = rule) (h3 : fs.getD j [] = canon s) (hf : Fo 40 s f) (hg : Fo 40 t g) (h4 : r = (f, g, (lineAt ls (j : Int)).agent)) (h5 : 0 ≤ (lineAt ls (j : Int)).agent ∧ (lineAt ls (j : Int)).agent < 4)
theorem AtR.sub (h : AtR ls fs st S i) (hk : k < (ls.getD i Ln.zero).from_.length) {rule : Int} (hr : rule = 1 ∨ rule = 2) : Rs ls fs rule (subprL ls fs st i (fromAt (ls.getD i Ln.zero) k)) (subproofR ls S i k rule) := by
  by_cases hj : fromAt (ls.getD i Ln.zero) k < 0 ∨ (i : Int) ≤ fromAt (ls.getD i Ln.zero) k
  · refine .no (fun q hq => ?_) (subproofR_none (fromR_none (.inr hj)))
    unfold subprL at hq
    rw [if_pos hj] at hq
    cases hq
  · have hf := fromR_some hk hj
    obtain ⟨j, ej⟩ := Int.eq_ofNat_of_zero_le (show 0 ≤ fromAt (ls.getD i Ln.zero) k by omega)
    rw [ej] at hj hf ⊢
    have hji : j < i := by omega
    have eL : subprL ls fs st i (j : Int) = bif opensL (lineAt ls (j : Int)) && subOk ls st i j then some ((j : Int), fs.getD (lastL st j i) []) else none := by
      unfold subprL
      rw [if_neg hj, Int.toNat_natCast]
    have hsj := h.same j (by omega)
    have hsi := h.same i (Nat.le_refl _)
    have eR : subproofR ls S i k rule = bif (lineAt ls (j : Int)).rule != rule then ([], [], 0)
        else bif inR st (st.getD j []).length (j : Int) i then ([], [], 0)
        else bif (boxesR ls st i ((st.getD j []).take ((st.getD j []).length - 1))).1 != 0 then ([], [], 0)
        else bif decide ((S.getD (lastR st (st.getD j []).length (j : Int) i (i - j) j) []).length = (st.getD j []).length) then
          ((lineAt ls (j : Int)).f, (ls.getD (lastR st (st.getD j []).length (j : Int) i (i - j) j) Ln.zero).f, (lineAt ls (j : Int)).agent)
        else ([], [], 0) := by
      unfold subproofR
      rw [hf]
      show (bif (lineAt ls (j : Int)).rule != rule then ([], [], 0)
        else bif inR S (S.getD ((j : Nat) : Int).toNat []).length (j : Int) i then ([], [], 0)
        else bif (boxesR ls S i ((S.getD ((j : Nat) : Int).toNat []).take ((S.getD ((j : Nat) : Int).toNat []).length - 1))).1 != 0 then ([], [], 0)
        else bif decide ((S.getD (lastR S (S.getD ((j : Nat) : Int).toNat []).length (j : Int) i (i - ((j : Nat) : Int).toNat) ((j : Nat) : Int).toNat) []).length = (S.getD ((j : Nat) : Int).toNat []).length) then
          ((lineAt ls (j : Int)).f, (ls.getD (lastR S (S.getD ((j : Nat) : Int).toNat []).length (j : Int) i (i - ((j : Nat) : Int).toNat) ((j : Nat) : Int).toNat) Ln.zero).f, (lineAt ls (j : Int)).agent)
        else ([], [], 0)) = _
      have e1 : S.getD ((j : Nat) : Int).toNat [] = st.getD j [] := by rw [Int.toNat_natCast]; exact hsj
      rw [e1, inR_same hsi, boxesR_same hsi, lastR_same h.same]
      rfl
    by_cases hrule : (lineAt ls (j : Int)).rule = rule
    · have ho : opensL (lineAt ls (j : Int)) = true := by
        unfold opensL
        rcases hr with e | e <;> rw [hrule, e] <;> rfl
      have hm := h.opn j (by omega) (by rw [← lineAt_nat]; exact ho)
      have hd : 0 < (st.getD j []).length := by have := h.sk.mem hm; rw [Int.toNat_natCast] at this; exact this.2.2.1
      have hlen : ((st.getD j []).take ((st.getD j []).length - 1)).length = (st.getD j []).length - 1 := by simp
      obtain ⟨l1, l2⟩ := last_ge hji hm
      rw [last_same h.sk hji hm] at eR
      rw [h.same _ (Nat.le_of_lt l2)] at eR
      rw [ho, Bool.true_and] at eL
      rw [show ((lineAt ls (j : Int)).rule != rule) = false by simp [hrule], cond_false] at eR
      unfold subOk at eL
      by_cases hin : (j : Int) ∈ st.getD i []
      · rw [(inR_iff h.sk hd).2 hin, cond_true] at eR
        rw [decide_eq_true hin] at eL
        refine .no (fun q hq => ?_) eR
        rw [eL] at hq
        simp at hq
      · have e1 : inR st (st.getD j []).length (j : Int) i = false := by
          rw [Bool.eq_false_iff]
          exact fun e => hin ((inR_iff h.sk hd).1 e)
        rw [e1, cond_false] at eR
        rw [decide_eq_false hin] at eL
        cases hb : (boxesR ls st i ((st.getD j []).take ((st.getD j []).length - 1))).1 != 0
        · obtain ⟨b1, b2⟩ := boxesR_zero.1 hb
          rw [hlen] at b1 b2
          rw [hb, cond_false] at eR
          rw [decide_eq_true b1, b2] at eL
          by_cases hq : (st.getD (lastL st j i) []).length = (st.getD j []).length
          · rw [decide_eq_true hq] at eL eR
            obtain ⟨f1, f2⟩ := h.fo j (by omega)
            obtain ⟨g1, g2⟩ := h.fo (lastL st j i) (Nat.le_of_lt l2)
            refine .yes j _ _ _ _ (eL.trans ?_) hrule f2 f1 g1 (eR.trans ?_) (by rw [lineAt_nat]; exact h.ag j (by omega))
            · rw [g2]; rfl
            · rw [lineAt_nat]; rfl
          · rw [decide_eq_false hq] at eL eR
            refine .no (fun q hq => ?_) eR
            rw [eL] at hq
            cases hq
        · rw [hb, cond_true] at eR
          refine .no (fun q hq => ?_) eR
          rw [eL] at hq
          have : ¬ ((st.getD i []).take ((st.getD j []).length - 1) = (st.getD j []).take ((st.getD j []).length - 1) ∧ boxesL ls ((st.getD i []).drop ((st.getD j []).length - 1)) = []) := fun e => by
            have e2 := boxesR_zero (ls := ls) (s := st) (i := i) (outer := (st.getD j []).take ((st.getD j []).length - 1))
            rw [hlen] at e2
            rw [e2.2 e] at hb
            cases hb
          by_cases b1 : (st.getD i []).take ((st.getD j []).length - 1) = (st.getD j []).take ((st.getD j []).length - 1)
          · cases hl : boxesL ls ((st.getD i []).drop ((st.getD j []).length - 1)) with
            | nil => exact absurd ⟨b1, hl⟩ this
            | cons a t => rw [hl] at hq; simp at hq
          · rw [decide_eq_false b1] at hq
            cases hq
    · refine .no (fun q hq => ?_) (by rw [eR, show ((lineAt ls (j : Int)).rule != rule) = true by simpa using hrule]; rfl)
      rw [eL] at hq
      cases hc : opensL (lineAt ls (j : Int)) && subOk ls st i j
      · rw [hc] at hq; cases hq
      · rw [hc] at hq
        injection hq with hq
        rw [← hq]
        exact hrule
/-- A subproof from an assumption named by both. -/
inductive Ra (o : Option (List Nd × List Nd)) (r : List Nd × List Nd × Int) : Prop where
  | no (h1 : o = none) (h2 : r = ([], [], 0))
  | yes (s t : Tr) (f g : List Nd) (a : Int) (h1 : o = some (canon s, canon t)) (hf : Fo 40 s f) (hg : Fo 40 t g) (h2 : r = (f, g, a))
theorem AtR.asm (h : AtR ls fs st S i) (hk : k < (ls.getD i Ln.zero).from_.length) : Ra (assumedL ls fs st i (fromAt (ls.getD i Ln.zero) k)) (subproofR ls S i k 1) := by
  rcases h.sub hk (rule := 1) (.inl rfl) with ⟨h1, h2⟩ | ⟨j, s, t, f, g, h1, h2, h3, hf, hg, h4, _⟩
  · refine .no ?_ h2
    unfold assumedL
    cases hq : subprL ls fs st i (fromAt (ls.getD i Ln.zero) k) with
    | none => rfl
    | some q =>
      have := h1 q hq
      simp only
      rw [show ((lineAt ls q.1).rule == 1) = false by simpa using this]
      rfl
  · refine .yes s t f g _ ?_ hf hg h4
    unfold assumedL
    rw [h1]
    simp only
    rw [h2, Int.toNat_natCast, h3]
    rfl
theorem AtR.one (h : AtR ls fs st S i) : ((ls.getD i Ln.zero).from_.length = 1 ∧ Ro (oneL ls fs st i (ls.getD i Ln.zero)) (lineR ls S i 0)) ∨ ((ls.getD i Ln.zero).from_.length ≠ 1 ∧ oneL ls fs st i (ls.getD i Ln.zero) = none) := by
  by_cases hm : (ls.getD i Ln.zero).from_.length = 1
  · refine .inl ⟨hm, ?_⟩
    rw [(oneL_yes (decide_eq_true hm)).2]
    exact h.line (by omega)
  · exact .inr ⟨hm, oneL_no (decide_eq_false hm)⟩
inductive Rt (o : Option (List Nd × List Nd)) (f g : List Nd) : Prop where
  | no (h1 : o = none) (h2 : f = [] ∨ g = [])
  | yes (s t : Tr) (h1 : o = some (canon s, canon t)) (hf : Fo 40 s f) (hg : Fo 40 t g)
theorem AtR.two (h : AtR ls fs st S i) : ((ls.getD i Ln.zero).from_.length = 2 ∧ Rt (twoL ls fs st i (ls.getD i Ln.zero)) (lineR ls S i 0) (lineR ls S i 1)) ∨ ((ls.getD i Ln.zero).from_.length ≠ 2 ∧ twoL ls fs st i (ls.getD i Ln.zero) = none) := by
  by_cases hm : (ls.getD i Ln.zero).from_.length = 2
  · refine .inl ⟨hm, ?_⟩
    have a0 := h.line (k := 0) (by omega)
    have a1 := h.line (k := 1) (by omega)
    unfold fromAt at a0 a1
    unfold twoL
    rw [decide_eq_true hm, cond_true]
    rcases a0 with ⟨h1, h2⟩ | ⟨s, h1, h2⟩
    · exact .no (by rw [h1]) (.inl h2)
    · rcases a1 with ⟨g1, g2⟩ | ⟨t, g1, g2⟩
      · exact .no (by rw [h1, g1]) (.inr g2)
      · exact .yes s t (by rw [h1, g1]) h2 g2
  · exact .inr ⟨hm, by unfold twoL; rw [decide_eq_false hm]; rfl⟩
end
end Go.Proofs.YtipnbfbakohcaaaDoor

/- The plain law of NaturalChecks: the reference follows a line exactly where the checker does. -/

namespace Go.Proofs.YtipnbfbakohcaaaDoor

theorem mkTr_top (n : Nd) (x y : Tr) : (mkTr n x y).top.op = n.op ∧ (mkTr n x y).top.i = n.i := by
  unfold mkTr
  cases hasY n.op <;> cases hasX n.op <;> exact ⟨rfl, rfl⟩
theorem Fo.top {N : Nat} {s : Tr} {a : List Nd} (ha : Fo N s a) : (lastN a).op = s.top.op ∧ (lastN a).i = s.top.i := by
  have e1 := last_tree ha.ck
  rw [ha.tree] at e1
  obtain ⟨p1, p2⟩ := mkTr_top (lastN a) (tr a (lastN a).x.toNat) (tr a (lastN a).y.toNat)
  rw [← e1] at p1 p2
  exact ⟨p1.symm, p2.symm⟩
theorem top_same {N M : Nat} {s : Tr} {a b : List Nd} (ha : Fo N s a) (hb : Fo M s b) : (lastN a).op = (lastN b).op ∧ (lastN a).i = (lastN b).i :=
  ⟨ha.top.1.trans hb.top.1.symm, ha.top.2.trans hb.top.2.symm⟩
theorem two_inj {n m : Nd} {a b c d : Tr} (h : Tr.two n a b = Tr.two m c d) : a = c ∧ b = d := by injection h with _ h1 h2; exact ⟨h1, h2⟩
theorem one_inj {n m : Nd} {a b : Tr} (h : Tr.one n a = Tr.one m b) : a = b := by injection h
theorem beq_one {m k : Nat} (h : m = k) : (m == k) = true := by simp [h]
theorem bne_one {m k : Nat} (h : m ≠ k) : (m == k) = false := by simp [h]
/-- Both operands of a formula, read by both. -/
theorem parts_two {N M : Nat} {s : Tr} {a b : List Nd} (ha : Fo N s a) (hb : Fo M s b) (hN : N ≤ 200) (hM : M ≤ 200) {op : Int} (ho : op = 5 ∨ op = 6 ∨ op = 7 ∨ op = 8) :
    (((lastN a).op == op) = false ∧ ((lastN b).op == op) = false) ∨ ∃ x y, s = .two (opD op) x y ∧ ((lastN a).op == op) = true ∧ ((lastN b).op == op) = true ∧ firstN a = canon x ∧ secondN a = canon y ∧ firstN b = canon x ∧ secondN b = canon y ∧ Fo N x (canon x) ∧ Fo N y (canon y) := by
  have e := (top_same ha hb).1
  cases h : (lastN a).op == op
  · exact .inl ⟨rfl, by rw [← e]; exact h⟩
  · obtain ⟨x, y, ht, hx, hy, fx, fy⟩ := (two_iff ha hN ho).1 h
    have h' : ((lastN b).op == op) = true := by rw [← e]; exact h
    obtain ⟨x', y', ht', hx', hy', _, _⟩ := (two_iff hb hM ho).1 h'
    obtain ⟨rfl, rfl⟩ := two_inj (ht.symm.trans ht')
    exact .inr ⟨x, y, ht, rfl, h', hx, hy, hx', hy', fx, fy⟩
section
variable {lg : Int} {ls : List Ln} {fs : List (List Nd)} {st S : List (List Int)} {i : Nat}
theorem AtR.me (h : AtR ls fs st S i) : Fo 40 (treeOf (ls.getD i Ln.zero).f) (ls.getD i Ln.zero).f := (h.fo i (Nat.le_refl _)).1
theorem AtR.mec (h : AtR ls fs st S i) : Fo 40 (treeOf (ls.getD i Ln.zero).f) (canon (treeOf (ls.getD i Ln.zero).f)) := h.me.can (by decide)
theorem r3 (h : AtR ls fs st S i) : copiedL lg ls fs st i (ls.getD i Ln.zero) (canon (treeOf (ls.getD i Ln.zero).f)) = ((ls.getD i Ln.zero).from_.length == 1 && sameN (lineR ls S i 0) (ls.getD i Ln.zero).f) := by
  unfold copiedL
  rcases h.one with ⟨hm, ⟨e, e'⟩ | ⟨s, e, f⟩⟩ | ⟨hm, e⟩
  · rw [e, e', sameN_nil_left, Bool.and_false]
  · rw [e, beq_one hm, Bool.true_and]
    exact Bool.eq_iff_iff.2 ((eqN_iff f.ok h.me.ok).trans (sameN_iff f h.me).symm)
  · rw [e, bne_one hm, Bool.false_and]
theorem r4 (h : AtR ls fs st S i) : andInL lg ls fs st i (ls.getD i Ln.zero) (canon (treeOf (ls.getD i Ln.zero).f)) = ((ls.getD i Ln.zero).from_.length == 2 && twoR (ls.getD i Ln.zero).f 5 (lineR ls S i 0) (lineR ls S i 1)) := by
  unfold andInL
  rcases h.two with ⟨hm, ⟨e, e' | e'⟩ | ⟨s, t, e, f, g⟩⟩ | ⟨hm, e⟩
  · rw [e, e', twoR_left, Bool.and_false]
  · rw [e, e', twoR_right, Bool.and_false]
  · rw [e, beq_one hm, Bool.true_and]
    obtain ⟨e1, f1⟩ := and_fo (f.can (by decide)) (g.can (by decide)) (by decide)
    simp only
    rw [e1]
    exact Bool.eq_iff_iff.2 ((eqN_iff f1.ok h.me.ok).trans (eq_comm.trans (twoR_iff h.me (by decide) f g (.inl rfl)).symm))
  · rw [e, bne_one hm, Bool.false_and]
theorem r5 (h : AtR ls fs st S i) : andOutL lg ls fs st i (ls.getD i Ln.zero) (canon (treeOf (ls.getD i Ln.zero).f)) = ((ls.getD i Ln.zero).from_.length == 1 && ((lastN (lineR ls S i 0)).op == 5 && (sameN (firstN (lineR ls S i 0)) (ls.getD i Ln.zero).f || sameN (secondN (lineR ls S i 0)) (ls.getD i Ln.zero).f))) := by
  unfold andOutL
  rcases h.one with ⟨hm, ⟨e, e'⟩ | ⟨s, e, f⟩⟩ | ⟨hm, e⟩
  · rw [e, e', last_nil, show (Nd.zero.op == 5) = false from rfl, Bool.false_and, Bool.and_false]
  · rw [e, beq_one hm, Bool.true_and]
    simp only
    rcases parts_two f (f.can (by decide)) (by decide) (by decide) (op := 5) (.inl rfl) with ⟨h1, h2⟩ | ⟨x, y, ht, h1, h2, hx, hy, hx', hy', fx, fy⟩
    · rw [partL_no h2, h1]; rfl
    · rw [partL_yes h2, h1, Bool.true_and, hx, hy, hx', hy']
      exact Bool.eq_iff_iff.2 (by rw [Bool.or_eq_true, Bool.or_eq_true, eqN_iff fx.ok h.me.ok, eqN_iff fy.ok h.me.ok, sameN_iff fx h.me, sameN_iff fy h.me])
  · rw [e, bne_one hm, Bool.false_and]
theorem r6 (h : AtR ls fs st S i) : orInL lg ls fs st i (ls.getD i Ln.zero) (canon (treeOf (ls.getD i Ln.zero).f)) = ((ls.getD i Ln.zero).from_.length == 1 && ((lastN (ls.getD i Ln.zero).f).op == 6 && (sameN (firstN (ls.getD i Ln.zero).f) (lineR ls S i 0) || sameN (secondN (ls.getD i Ln.zero).f) (lineR ls S i 0)))) := by
  unfold orInL
  rcases h.one with ⟨hm, ⟨e, e'⟩ | ⟨s, e, f⟩⟩ | ⟨hm, e⟩
  · rw [e, e', sameN_nil_right, sameN_nil_right, Bool.or_false, Bool.and_false, Bool.and_false]
  · rw [e, beq_one hm, Bool.true_and]
    simp only
    rcases parts_two h.me h.mec (by decide) (by decide) (op := 6) (.inr (.inl rfl)) with ⟨h1, h2⟩ | ⟨x, y, ht, h1, h2, hx, hy, hx', hy', fx, fy⟩
    · rw [partL_no h2, h1]; rfl
    · rw [partL_yes h2, h1, Bool.true_and, hx, hy, hx', hy']
      exact Bool.eq_iff_iff.2 (by rw [Bool.or_eq_true, Bool.or_eq_true, eqN_iff fx.ok f.ok, eqN_iff fy.ok f.ok, sameN_iff fx f, sameN_iff fy f])
  · rw [e, bne_one hm, Bool.false_and]
theorem r7 (h : AtR ls fs st S i) : orOutL lg ls fs st i (ls.getD i Ln.zero) (canon (treeOf (ls.getD i Ln.zero).f)) = ((ls.getD i Ln.zero).from_.length == 3 && (twoR (lineR ls S i 0) 6 (subproofR ls S i 1 1).1 (subproofR ls S i 2 1).1 && (sameN (subproofR ls S i 1 1).2.1 (ls.getD i Ln.zero).f && sameN (subproofR ls S i 2 1).2.1 (ls.getD i Ln.zero).f))) := by
  unfold orOutL
  by_cases hm : (ls.getD i Ln.zero).from_.length = 3
  · rw [decide_eq_true hm, cond_true, beq_one hm, Bool.true_and]
    rcases h.line (k := 0) (by omega) with ⟨e, e'⟩ | ⟨s, e, f⟩
    · rw [e, e', twoR_nil (by decide), Bool.false_and]
    · rw [e]
      simp only
      rcases h.asm (k := 1) (by omega) with ⟨g1, g2⟩ | ⟨s1, t1, f1, c1, a1, g1, hf1, hc1, g2⟩
      · rw [g1, g2, sameN_nil_left, Bool.false_and, Bool.and_false]
        cases partL (canon s) 6 <;> rfl
      · rcases h.asm (k := 2) (by omega) with ⟨k1, k2⟩ | ⟨s2, t2, f2, c2, a2, k1, hf2, hc2, k2⟩
        · rw [g1, k1, k2, sameN_nil_left, Bool.and_false, Bool.and_false]
          cases partL (canon s) 6 <;> rfl
        · rw [g1, g2, k1, k2]
          simp only
          rcases parts_two f (f.can (by decide)) (by decide) (by decide) (op := 6) (.inr (.inl rfl)) with ⟨h1, h2⟩ | ⟨x, y, ht, h1, h2, hx, hy, hx', hy', fx, fy⟩
          · rw [partL_no h2]
            unfold twoR
            rw [h1]; rfl
          · rw [partL_yes h2, hx', hy']
            simp only
            refine Bool.eq_iff_iff.2 ?_
            simp only [Bool.and_eq_true]
            rw [twoR_iff f (by decide) hf1 hf2 (.inr (.inl rfl)), eqN_iff hf1.ok fx.ok, eqN_iff hf2.ok fy.ok, eqN_iff hc1.ok h.me.ok, eqN_iff hc2.ok h.me.ok, sameN_iff hc1 h.me, sameN_iff hc2 h.me, ht]
            constructor
            · rintro ⟨rfl, rfl, a, b⟩; exact ⟨rfl, a, b⟩
            · rintro ⟨e, a, b⟩
              obtain ⟨rfl, rfl⟩ := two_inj e
              exact ⟨rfl, rfl, a, b⟩
  · rw [decide_eq_false hm, bne_one hm]; rfl
theorem r8 (h : AtR ls fs st S i) : impInL lg ls fs st i (ls.getD i Ln.zero) (canon (treeOf (ls.getD i Ln.zero).f)) = ((ls.getD i Ln.zero).from_.length == 1 && twoR (ls.getD i Ln.zero).f 7 (subproofR ls S i 0 1).1 (subproofR ls S i 0 1).2.1) := by
  unfold impInL
  by_cases hm : (ls.getD i Ln.zero).from_.length = 1
  · rw [beq_one hm, Bool.true_and, (asmL_yes (decide_eq_true hm)).2]
    rcases h.asm (k := 0) (by omega) with ⟨g1, g2⟩ | ⟨s, t, f, g, a, g1, hf, hg, g2⟩
    · rw [g1, g2, twoR_left]
    · rw [g1, g2]
      simp only
      obtain ⟨e1, f1⟩ := imp_fo (hf.can (by decide)) (hg.can (by decide)) (by decide)
      rw [e1]
      exact Bool.eq_iff_iff.2 ((eqN_iff f1.ok h.me.ok).trans (eq_comm.trans (twoR_iff h.me (by decide) hf hg (.inr (.inr (.inl rfl)))).symm))
  · rw [asmL_no (decide_eq_false hm), bne_one hm, Bool.false_and]
theorem r9 (h : AtR ls fs st S i) : impOutL lg ls fs st i (ls.getD i Ln.zero) (canon (treeOf (ls.getD i Ln.zero).f)) = ((ls.getD i Ln.zero).from_.length == 2 && twoR (lineR ls S i 1) 7 (lineR ls S i 0) (ls.getD i Ln.zero).f) := by
  unfold impOutL
  rcases h.two with ⟨hm, ⟨e, e' | e'⟩ | ⟨s, t, e, f, g⟩⟩ | ⟨hm, e⟩
  · rw [e, e', twoR_left, Bool.and_false]
  · rw [e, e', twoR_nil (by decide), Bool.and_false]
  · rw [e, beq_one hm, Bool.true_and]
    obtain ⟨e1, f1⟩ := imp_fo (f.can (by decide)) h.mec (by decide)
    simp only
    rw [e1]
    exact Bool.eq_iff_iff.2 ((eqN_iff f1.ok g.ok).trans (eq_comm.trans (twoR_iff g (by decide) f h.me (.inr (.inr (.inl rfl)))).symm))
  · rw [e, bne_one hm, Bool.false_and]
theorem refutes_cases (h : AtR ls fs st S i) (hm : (ls.getD i Ln.zero).from_.length = 1) : (refutesL ls fs st i (ls.getD i Ln.zero) = none ∧ (((lastN (subproofR ls S i 0 1).2.1).op == 2) = false ∨ subproofR ls S i 0 1 = ([], [], 0))) ∨
    ∃ s f, refutesL ls fs st i (ls.getD i Ln.zero) = some (canon s) ∧ ((lastN (subproofR ls S i 0 1).2.1).op == 2) = true ∧ (subproofR ls S i 0 1).1 = f ∧ Fo 40 s f := by
  unfold refutesL
  rw [(asmL_yes (decide_eq_true hm)).2]
  rcases h.asm (k := 0) (by omega) with ⟨g1, g2⟩ | ⟨s, t, f, g, a, g1, hf, hg, g2⟩
  · exact .inl ⟨by rw [g1], .inr g2⟩
  · rw [g1, g2]
    simp only
    obtain ⟨e1, f1⟩ := false_fo
    rw [e1]
    cases he : (lastN g).op == 2
    · refine .inl ⟨?_, .inl rfl⟩
      rw [show eqN (canon t) (canon (.leaf faD)) = false by
        rw [Bool.eq_false_iff]
        exact fun e => by rw [(false_iff' hg (by decide)).2 ((eqN_iff hg.ok f1.ok).1 e)] at he; cases he]
      rfl
    · refine .inr ⟨s, f, ?_, rfl, rfl, hf⟩
      rw [show eqN (canon t) (canon (.leaf faD)) = true from (eqN_iff hg.ok f1.ok).2 ((false_iff' hg (by decide)).1 he)]
      rfl
theorem r10 (h : AtR ls fs st S i) : notInL lg ls fs st i (ls.getD i Ln.zero) (canon (treeOf (ls.getD i Ln.zero).f)) = ((ls.getD i Ln.zero).from_.length == 1 && ((lastN (subproofR ls S i 0 1).2.1).op == 2 && negR (ls.getD i Ln.zero).f (subproofR ls S i 0 1).1)) := by
  unfold notInL
  by_cases hm : (ls.getD i Ln.zero).from_.length = 1
  · rw [beq_one hm, Bool.true_and]
    rcases refutes_cases h hm with ⟨e, e' | e'⟩ | ⟨s, f, e, e1, e2, hf⟩
    · rw [e, e', Bool.false_and]
    · rw [e, e']; rfl
    · rw [e, e1, e2, Bool.true_and]
      simp only
      obtain ⟨k1, f1⟩ := not_fo (hf.can (by decide)) (by decide)
      rw [k1]
      exact Bool.eq_iff_iff.2 ((eqN_iff f1.ok h.me.ok).trans (eq_comm.trans (negR_iff h.me (by decide) hf).symm))
  · rw [show refutesL ls fs st i (ls.getD i Ln.zero) = none by unfold refutesL; rw [asmL_no (decide_eq_false hm)], bne_one hm, Bool.false_and]
theorem r12 (h : AtR ls fs st S i) : absurdL lg ls fs st i (ls.getD i Ln.zero) (canon (treeOf (ls.getD i Ln.zero).f)) = ((ls.getD i Ln.zero).from_.length == 1 && ((lastN (subproofR ls S i 0 1).2.1).op == 2 && negR (subproofR ls S i 0 1).1 (ls.getD i Ln.zero).f)) := by
  unfold absurdL
  by_cases hm : (ls.getD i Ln.zero).from_.length = 1
  · rw [beq_one hm, Bool.true_and]
    rcases refutes_cases h hm with ⟨e, e' | e'⟩ | ⟨s, f, e, e1, e2, hf⟩
    · rw [e, e', Bool.false_and]
    · rw [e, e']; rfl
    · rw [e, e1, e2, Bool.true_and]
      simp only
      obtain ⟨k1, f1⟩ := not_fo h.mec (by decide)
      rw [k1]
      exact Bool.eq_iff_iff.2 ((eqN_iff f1.ok hf.ok).trans (eq_comm.trans (negR_iff hf (by decide) h.me).symm))
  · rw [show refutesL ls fs st i (ls.getD i Ln.zero) = none by unfold refutesL; rw [asmL_no (decide_eq_false hm)], bne_one hm, Bool.false_and]
theorem eq_false {t : Tr} {f : List Nd} {N : Nat} (hf : Fo N t f) (hN : N ≤ 200) : eqN (canon t) falseN = ((lastN f).op == 2) := by
  obtain ⟨e1, f1⟩ := false_fo
  rw [e1]
  exact Bool.eq_iff_iff.2 ((eqN_iff hf.ok f1.ok).trans (false_iff' hf hN).symm)
theorem eq_true {t : Tr} {f : List Nd} {N : Nat} (hf : Fo N t f) (hN : N ≤ 200) : eqN (canon t) trueN = ((lastN f).op == 1) := by
  obtain ⟨e1, f1⟩ := true_fo
  rw [e1]
  exact Bool.eq_iff_iff.2 ((eqN_iff hf.ok f1.ok).trans (true_iff' hf hN).symm)
theorem r11 (h : AtR ls fs st S i) : notOutL lg ls fs st i (ls.getD i Ln.zero) (canon (treeOf (ls.getD i Ln.zero).f)) = ((ls.getD i Ln.zero).from_.length == 2 && (negR (lineR ls S i 1) (lineR ls S i 0) && (lastN (ls.getD i Ln.zero).f).op == 2)) := by
  unfold notOutL
  rcases h.two with ⟨hm, ⟨e, e' | e'⟩ | ⟨s, t, e, f, g⟩⟩ | ⟨hm, e⟩
  · rw [e, e', negR_nil_right, Bool.false_and, Bool.and_false]
  · rw [e, e', negR_nil_left, Bool.false_and, Bool.and_false]
  · rw [e, beq_one hm, Bool.true_and]
    obtain ⟨e1, f1⟩ := not_fo (f.can (by decide)) (by decide)
    simp only
    rw [e1, eq_false h.me (by decide)]
    congr 1
    exact Bool.eq_iff_iff.2 ((eqN_iff f1.ok g.ok).trans (eq_comm.trans (negR_iff g (by decide) f).symm))
  · rw [e, bne_one hm, Bool.false_and]
theorem r13 (h : AtR ls fs st S i) : fromFalseL lg ls fs st i (ls.getD i Ln.zero) (canon (treeOf (ls.getD i Ln.zero).f)) = ((ls.getD i Ln.zero).from_.length == 1 && (lastN (lineR ls S i 0)).op == 2) := by
  unfold fromFalseL
  rcases h.one with ⟨hm, ⟨e, e'⟩ | ⟨s, e, f⟩⟩ | ⟨hm, e⟩
  · rw [e, e', last_nil, show (Nd.zero.op == 2) = false from rfl, Bool.and_false]
  · rw [e, beq_one hm, Bool.true_and]
    exact eq_false f (by decide)
  · rw [e, bne_one hm, Bool.false_and]
theorem r14 (h : AtR ls fs st S i) : isTrueL lg ls fs st i (ls.getD i Ln.zero) (canon (treeOf (ls.getD i Ln.zero).f)) = ((ls.getD i Ln.zero).from_.length == 0 && (lastN (ls.getD i Ln.zero).f).op == 1) := by
  unfold isTrueL
  rw [eq_true h.me (by decide)]
  congr 1
theorem eqN_imp {N M K : Nat} {s u t : Tr} {f a b : List Nd} (hs : Fo N s (canon s)) (hu : Fo M u (canon u)) (hl : N + M < 199) (hf : Fo K t f) (hK : K ≤ 200) (ha : Fo N s a) (hb : Fo M u b) : eqN (impN (canon s) (canon u)) (canon t) = twoR f 7 a b := by
  obtain ⟨e1, f1⟩ := imp_fo hs hu hl
  rw [e1]
  exact Bool.eq_iff_iff.2 ((eqN_iff f1.ok hf.ok).trans (eq_comm.trans (twoR_iff hf hK ha hb (.inr (.inr (.inl rfl)))).symm))
theorem r15 (h : AtR ls fs st S i) : iffL lg ls fs st i (ls.getD i Ln.zero) (canon (treeOf (ls.getD i Ln.zero).f)) =
    bif (ls.getD i Ln.zero).from_.length == 2 then (lastN (lineR ls S i 0)).op == 7 && (twoR (lineR ls S i 1) 7 (secondN (lineR ls S i 0)) (firstN (lineR ls S i 0)) && twoR (ls.getD i Ln.zero).f 8 (firstN (lineR ls S i 0)) (secondN (lineR ls S i 0)))
    else (ls.getD i Ln.zero).from_.length == 1 && ((lastN (lineR ls S i 0)).op == 8 && (twoR (ls.getD i Ln.zero).f 7 (firstN (lineR ls S i 0)) (secondN (lineR ls S i 0)) || twoR (ls.getD i Ln.zero).f 7 (secondN (lineR ls S i 0)) (firstN (lineR ls S i 0)))) := by
  unfold iffL
  rcases h.two with ⟨hm, r⟩ | ⟨hm, e⟩
  · have e1 : oneL ls fs st i (ls.getD i Ln.zero) = none := oneL_no (decide_eq_false (by omega))
    rw [beq_one hm, cond_true]
    rcases r with ⟨e, e' | e'⟩ | ⟨s, t, e, f, g⟩
    · rw [e, e1, e']; rfl
    · rw [e, e1, e', twoR_nil (by decide), Bool.false_and, Bool.and_false]
    · rw [e]
      simp only
      rcases parts_two f (f.can (by decide)) (by decide) (by decide) (op := 7) (.inr (.inr (.inl rfl))) with ⟨h1, h2⟩ | ⟨x, y, ht, h1, h2, hx, hy, hx', hy', fx, fy⟩
      · rw [h1, Bool.false_and]
        rcases parts_two h.me h.mec (by decide) (by decide) (op := 8) (.inr (.inr (.inr rfl))) with ⟨q1, q2⟩ | ⟨p, q, qt, q1, q2, qx, qy, qx', qy', gx, gy⟩
        · rw [partL_no q2]
        · rw [partL_yes q2, qx', qy']
          simp only
          rw [eqN_imp gx gy (by decide) f (by decide) gx gy]
          unfold twoR
          rw [h1, Bool.false_and, Bool.false_and]
      · rw [h1, hx, hy, Bool.true_and]
        rcases parts_two h.me h.mec (by decide) (by decide) (op := 8) (.inr (.inr (.inr rfl))) with ⟨q1, q2⟩ | ⟨p, q, qt, q1, q2, qx, qy, qx', qy', gx, gy⟩
        · rw [partL_no q2]
          unfold twoR
          rw [q1, Bool.false_and, Bool.and_false]
        · rw [partL_yes q2, qx', qy']
          simp only
          rw [eqN_imp gx gy (by decide) f (by decide) gx gy, eqN_imp gy gx (by decide) g (by decide) gy gx]
          refine Bool.eq_iff_iff.2 ?_
          simp only [Bool.and_eq_true]
          rw [twoR_iff f (by decide) gx gy (.inr (.inr (.inl rfl))), twoR_iff g (by decide) gy gx (.inr (.inr (.inl rfl))), twoR_iff g (by decide) fy fx (.inr (.inr (.inl rfl))), twoR_iff h.me (by decide) fx fy (.inr (.inr (.inr rfl))), ht, qt]
          constructor
          · rintro ⟨a, b⟩
            obtain ⟨rfl, rfl⟩ := two_inj a
            exact ⟨b, rfl⟩
          · rintro ⟨a, b⟩
            obtain ⟨rfl, rfl⟩ := two_inj b
            exact ⟨rfl, a⟩
  · rw [e, bne_one hm, cond_false]
    simp only
    rcases h.one with ⟨hm, ⟨e, e'⟩ | ⟨s, e, f⟩⟩ | ⟨hm, e⟩
    · rw [e, e', last_nil, show (Nd.zero.op == 8) = false from rfl, Bool.false_and, Bool.and_false]
    · rw [e, beq_one hm, Bool.true_and]
      simp only
      rcases parts_two f (f.can (by decide)) (by decide) (by decide) (op := 8) (.inr (.inr (.inr rfl))) with ⟨h1, h2⟩ | ⟨x, y, ht, h1, h2, hx, hy, hx', hy', fx, fy⟩
      · rw [partL_no h2, h1]; rfl
      · rw [partL_yes h2, h1, Bool.true_and, hx, hy, hx', hy']
        simp only
        rw [eqN_imp fx fy (by decide) h.me (by decide) fx fy, eqN_imp fy fx (by decide) h.me (by decide) fy fx]
    · rw [e, bne_one hm, Bool.false_and]
/-- A formula of one operand, read by both. -/
theorem know_same {N M : Nat} {s : Tr} {a b : List Nd} (ha : Fo N s a) (hb : Fo M s b) (hN : N ≤ 200) (hM : M ≤ 200) :
    (((lastN a).op == 9) = false ∧ ((lastN b).op == 9) = false) ∨ ∃ j x, s = .one (knD j) x ∧ 0 ≤ j ∧ j < 4 ∧ ((lastN a).op == 9) = true ∧ ((lastN b).op == 9) = true ∧ (lastN a).i = j ∧ (lastN b).i = j ∧ firstN a = canon x ∧ firstN b = canon x ∧ Fo N x (canon x) := by
  obtain ⟨e, e2⟩ := top_same ha hb
  cases h : (lastN a).op == 9
  · exact .inl ⟨rfl, by rw [← e]; exact h⟩
  · obtain ⟨x, ht, hx, fx, i0, i1⟩ := (know_iff ha hN).1 h
    have h' : ((lastN b).op == 9) = true := by rw [← e]; exact h
    obtain ⟨x', ht', hx', _⟩ := (know_iff hb hM).1 h'
    obtain rfl := one_inj (ht.symm.trans ht')
    exact .inr ⟨_, x, ht, i0, i1, rfl, h', rfl, e2.symm, hx, hx', fx⟩
theorem poss_same {N M : Nat} {s : Tr} {a b : List Nd} (ha : Fo N s a) (hb : Fo M s b) (hN : N ≤ 200) (hM : M ≤ 200) :
    (((lastN a).op == 10) = false ∧ ((lastN b).op == 10) = false) ∨ ∃ j x, s = .one (poD j) x ∧ 0 ≤ j ∧ j < 4 ∧ ((lastN a).op == 10) = true ∧ ((lastN b).op == 10) = true ∧ (lastN a).i = j ∧ (lastN b).i = j ∧ firstN a = canon x ∧ firstN b = canon x ∧ Fo N x (canon x) := by
  obtain ⟨e, e2⟩ := top_same ha hb
  cases h : (lastN a).op == 10
  · exact .inl ⟨rfl, by rw [← e]; exact h⟩
  · obtain ⟨x, ht, hx, fx, i0, i1⟩ := (poss_iff ha hN).1 h
    have h' : ((lastN b).op == 10) = true := by rw [← e]; exact h
    obtain ⟨x', ht', hx', _⟩ := (poss_iff hb hM).1 h'
    obtain rfl := one_inj (ht.symm.trans ht')
    exact .inr ⟨_, x, ht, i0, i1, rfl, h', rfl, e2.symm, hx, hx', fx⟩
theorem not_same {N M : Nat} {s : Tr} {a b : List Nd} (ha : Fo N s a) (hb : Fo M s b) (hN : N ≤ 200) (hM : M ≤ 200) :
    (((lastN a).op == 4) = false ∧ ((lastN b).op == 4) = false) ∨ ∃ x, s = .one noD x ∧ ((lastN a).op == 4) = true ∧ ((lastN b).op == 4) = true ∧ firstN a = canon x ∧ firstN b = canon x ∧ Fo N x (canon x) := by
  obtain ⟨e, e2⟩ := top_same ha hb
  cases h : (lastN a).op == 4
  · exact .inl ⟨rfl, by rw [← e]; exact h⟩
  · obtain ⟨x, ht, hx, fx⟩ := (not_iff ha hN).1 h
    have h' : ((lastN b).op == 4) = true := by rw [← e]; exact h
    obtain ⟨x', ht', hx', _⟩ := (not_iff hb hM).1 h'
    obtain rfl := one_inj (ht.symm.trans ht')
    exact .inr ⟨x, ht, rfl, h', hx, hx', fx⟩
theorem knD_inj {a b : Int} (h : knD a = knD b) : a = b := congrArg Nd.i h
theorem r16 (h : AtR ls fs st S i) : knowInL lg ls fs st i (ls.getD i Ln.zero) (canon (treeOf (ls.getD i Ln.zero).f)) = ((ls.getD i Ln.zero).from_.length == 1 && ((lastN (ls.getD i Ln.zero).f).op == 9 && ((lastN (ls.getD i Ln.zero).f).i == (subproofR ls S i 0 2).2.2 && sameN (firstN (ls.getD i Ln.zero).f) (subproofR ls S i 0 2).2.1))) := by
  unfold knowInL
  by_cases hm : (ls.getD i Ln.zero).from_.length = 1
  · rw [decide_eq_true hm, cond_true, beq_one hm, Bool.true_and]
    rcases h.sub (k := 0) (by omega) (rule := 2) (.inr rfl) with ⟨h1, h2⟩ | ⟨j, s, t, f, g, h1, h2, h3, hf, hg, h4, h5⟩
    · rw [h2, sameN_nil_right, Bool.and_false, Bool.and_false]
      cases hq : subprL ls fs st i (fromAt (ls.getD i Ln.zero) 0) with
      | none => rfl
      | some q =>
        have := h1 q hq
        simp only
        rw [show ((lineAt ls q.1).rule == 2) = false by simpa using this, Bool.false_and]
    · rw [h1, h4]
      simp only
      rw [h2, show ((2 : Int) == 2) = true from rfl, Bool.true_and]
      obtain ⟨e1, f1⟩ := know_fo h5 (hg.can (by decide)) (by decide)
      rw [e1]
      refine Bool.eq_iff_iff.2 ?_
      rw [eqN_iff f1.ok h.me.ok]
      rcases know_same h.me h.mec (by decide) (by decide) with ⟨q1, q2⟩ | ⟨a, x, ht, _, _, q1, _, q3, _, hx, _, fx⟩
      · rw [q1, Bool.false_and]
        constructor
        · intro e
          have k := h.me.top.1
          rw [← e] at k
          rw [k] at q1
          exact absurd q1 (show ¬ (((9 : Int) == 9) = false) by decide)
        · intro e; cases e
      · rw [q1, q3, hx, Bool.true_and, Bool.and_eq_true, beq_iff_eq, sameN_iff fx hg, ht]
        constructor
        · intro e
          injection e with e1 e2
          exact ⟨(knD_inj e1).symm, e2.symm⟩
        · rintro ⟨rfl, rfl⟩; rfl
  · rw [decide_eq_false hm, bne_one hm]; rfl
end
end Go.Proofs.YtipnbfbakohcaaaDoor

/- The plain law of NaturalChecks, joined: the reference's Check is the checker's. -/

namespace Go.Proofs.YtipnbfbakohcaaaDoor

theorem bne_no {m k : Nat} (h : m = k) : (m != k) = false := by simp [h]
theorem bne_yes {m k : Nat} (h : m ≠ k) : (m != k) = true := by simpa using h
theorem dec_or_true {p q : Prop} [Decidable p] [Decidable q] (h : p ∨ q) : (decide p || decide q) = true := by
  rw [Bool.or_eq_true, decide_eq_true_iff, decide_eq_true_iff]; exact h
theorem dec_or_false {p q : Prop} [Decidable p] [Decidable q] (h : ¬ (p ∨ q)) : (decide p || decide q) = false := by
  rw [decide_eq_false (fun e => h (.inl e)), decide_eq_false (fun e => h (.inr e))]; rfl
section
variable {lg : Int} {ls : List Ln} {fs : List (List Nd)} {st S : List (List Int)} {i : Nat}
theorem eq_same {N M : Nat} {s t : Tr} {f g : List Nd} (hf : Fo N s f) (hg : Fo M t g) : eqN (canon s) (canon t) = sameN f g :=
  Bool.eq_iff_iff.2 ((eqN_iff hf.ok hg.ok).trans (sameN_iff hf hg).symm)
theorem inner_top {N : Nat} {n : Nd} {x : Tr} {f : List Nd} (hf : Fo N (.one n x) f) : (f.getD (lastN f).x.toNat Nd.zero).op = x.top.op ∧ (f.getD (lastN f).x.toNat Nd.zero).i = x.top.i := by
  obtain ⟨_, _, h3, _, h5⟩ := last_one hf.ck hf.tree
  have hn : f[(lastN f).x.toNat]? = some f[(lastN f).x.toNat] := List.getElem?_eq_getElem h5
  have e := tr_eq (check_wf hf.ck) hn
  rw [h3] at e
  rw [getD_of hn, e]
  obtain ⟨a, b⟩ := mkTr_top f[(lastN f).x.toNat] (tr f f[(lastN f).x.toNat].x.toNat) (tr f f[(lastN f).x.toNat].y.toNat)
  exact ⟨a.symm, b.symm⟩
theorem imp_same {s t : Tr} {F f : List Nd} {a : Int} (hs : Fo 40 s F) (hf : Fo 40 t f) : impAt lg (canon s) a (canon t) =
    bif (lastN F).op == 9 && (lastN F).i == a then sameN (firstN F) f || (inL [3, 4, 5, 6] lg && sameN F f)
    else ((lastN F).op == 10 || ((lastN F).op == 4 && (lastN (bif (lastN F).op == 4 then firstN F else F)).op == 9)) && ((lastN (bif (lastN F).op == 4 then firstN F else F)).i == a && (inL [5, 6] lg && sameN F f)) := by
  have hc := hs.can (by decide)
  obtain ⟨e1, e2⟩ := top_same hc hs
  have hsub : ∀ g : List Nd, subN g (lastN g).x = firstN g := fun g => rfl
  unfold impAt
  rw [e1, e2, eq_same hs hf]
  rcases know_same hs hc (by decide) (by decide) with ⟨q1, q2⟩ | ⟨j, x, ht, _, _, q1, q2, q3, q4, hx, hx', fx⟩
  · rw [q1, Bool.false_and, cond_false, cond_false]
    rcases not_same hs hc (by decide) (by decide) with ⟨p1, p2⟩ | ⟨x, ht, p1, p2, hx, hx', fx⟩
    · rw [p1, cond_false, Bool.false_and, Bool.false_and, Bool.or_false, Bool.or_false]
      cases (lastN F).op == 10 <;> cases (lastN F).i == a <;> rfl
    · have h10 : ((lastN F).op == 10) = false := by
        rw [beq_iff_eq] at p1
        rw [p1]; rfl
      rw [h10, p1, cond_true, hx, Bool.false_and, Bool.false_or, Bool.false_or, Bool.true_and, Bool.true_and]
      have hi : (innerN (canon s)).op = (lastN (canon x)).op ∧ (innerN (canon s)).i = (lastN (canon x)).i := by
        unfold innerN
        rw [p2, cond_true]
        subst ht
        obtain ⟨a1, a2⟩ := inner_top hc
        exact ⟨a1.trans fx.top.1.symm, a2.trans fx.top.2.symm⟩
      rw [hi.1, hi.2]
      cases (lastN (canon x)).op == 9 <;> cases (lastN (canon x)).i == a <;> rfl
  · have h10 : ((lastN F).op == 10) = false := by
      rw [beq_iff_eq] at q1
      rw [q1]; rfl
    have h4 : ((lastN F).op == 4) = false := by
      rw [beq_iff_eq] at q1
      rw [q1]; rfl
    rw [q1, h10, h4, hsub, hx, hx', eq_same fx hf |>.trans (show sameN (canon x) f = sameN (canon x) f from rfl)]
    cases (lastN F).i == a <;> rfl
theorem r17 (h : AtR ls fs st S i) : importedL lg ls fs st i (ls.getD i Ln.zero) (canon (treeOf (ls.getD i Ln.zero).f)) = importR lg ls S i := by
  unfold importedL importR
  show _ = (bif (ls.getD i Ln.zero).from_.length != 1 || (decide (fromAt (ls.getD i Ln.zero) 0 < 0) || decide ((i : Int) ≤ fromAt (ls.getD i Ln.zero) 0)) then false else
    bif (boxesR ls S i (S.getD (fromAt (ls.getD i Ln.zero) 0).toNat [])).1 != 1 then false
    else bif (lastN (lineAt ls (fromAt (ls.getD i Ln.zero) 0)).f).op == 9 && (lastN (lineAt ls (fromAt (ls.getD i Ln.zero) 0)).f).i == (boxesR ls S i (S.getD (fromAt (ls.getD i Ln.zero) 0).toNat [])).2 then sameN (firstN (lineAt ls (fromAt (ls.getD i Ln.zero) 0)).f) (ls.getD i Ln.zero).f || (inL [3, 4, 5, 6] lg && sameN (lineAt ls (fromAt (ls.getD i Ln.zero) 0)).f (ls.getD i Ln.zero).f)
    else ((lastN (lineAt ls (fromAt (ls.getD i Ln.zero) 0)).f).op == 10 || ((lastN (lineAt ls (fromAt (ls.getD i Ln.zero) 0)).f).op == 4 && (lastN (bif (lastN (lineAt ls (fromAt (ls.getD i Ln.zero) 0)).f).op == 4 then firstN (lineAt ls (fromAt (ls.getD i Ln.zero) 0)).f else (lineAt ls (fromAt (ls.getD i Ln.zero) 0)).f)).op == 9)) &&
      ((lastN (bif (lastN (lineAt ls (fromAt (ls.getD i Ln.zero) 0)).f).op == 4 then firstN (lineAt ls (fromAt (ls.getD i Ln.zero) 0)).f else (lineAt ls (fromAt (ls.getD i Ln.zero) 0)).f)).i == (boxesR ls S i (S.getD (fromAt (ls.getD i Ln.zero) 0).toNat [])).2 && (inL [5, 6] lg && sameN (lineAt ls (fromAt (ls.getD i Ln.zero) 0)).f (ls.getD i Ln.zero).f)))
  by_cases hm : (ls.getD i Ln.zero).from_.length = 1
  · rw [decide_eq_true hm, cond_true, bne_no hm, Bool.false_or]
    by_cases hj : fromAt (ls.getD i Ln.zero) 0 < 0 ∨ (i : Int) ≤ fromAt (ls.getD i Ln.zero) 0
    · have := dec_or_true hj
      rw [this, cond_true]
      unfold withinL
      rw [if_pos hj]
    · have := dec_or_false hj
      rw [this, cond_false]
      obtain ⟨j, ej⟩ := Int.eq_ofNat_of_zero_le (show 0 ≤ fromAt (ls.getD i Ln.zero) 0 by omega)
      rw [ej] at hj ⊢
      rw [Int.toNat_natCast, h.same j (by omega), boxesR_same (h.same i (Nat.le_refl _)), lineAt_nat]
      have hw : withinL st i (j : Int) = if (st.getD i []).take (st.getD j []).length = st.getD j [] then some ((st.getD i []).drop (st.getD j []).length) else none := by
        unfold withinL
        rw [if_neg hj, Int.toNat_natCast]
      obtain ⟨f1, f2⟩ := h.fo j (by omega)
      rw [hw, f2]
      by_cases hp : (st.getD i []).take (st.getD j []).length = st.getD j []
      · rw [if_pos hp, boxesR_yes hp, boxesGoR_one, boxesGoR_two]
        simp only
        cases hb : boxesL ls ((st.getD i []).drop (st.getD j []).length) with
        | nil => rfl
        | cons o r =>
          cases r with
          | nil =>
            simp only [List.length_singleton, List.map_cons, List.map_nil, List.getLastD_cons, List.getLastD_nil]
            exact imp_same f1 h.me
          | cons o' r' =>
            have : ((0 + ((o :: o' :: r').length : Int)) != 1) = true := by simp; omega
            simp only [this, cond_true]
      · rw [if_neg hp, boxesR_no hp]; rfl
  · rw [decide_eq_false hm, bne_yes hm]; rfl
theorem Fo.pos {N : Nat} {t : Tr} {f : List Nd} (h : Fo N t f) : decide (f.length = 0) = false := by
  have := (check_parts h.ck).1
  exact decide_eq_false (by omega)
theorem r18 (h : AtR ls fs st S i) : knowTL lg ls fs st i (ls.getD i Ln.zero) (canon (treeOf (ls.getD i Ln.zero).f)) = bif (ls.getD i Ln.zero).from_.length != 1 || decide ((lineR ls S i 0).length = 0) then false else inL [2, 4, 6] lg && ((lastN (lineR ls S i 0)).op == 9 && sameN (firstN (lineR ls S i 0)) (ls.getD i Ln.zero).f) := by
  unfold knowTL
  rcases h.one with ⟨hm, ⟨e, e'⟩ | ⟨s, e, f⟩⟩ | ⟨hm, e⟩
  · rw [e, e', bne_no hm]; rfl
  · rw [e, bne_no hm, f.pos]
    simp only [Bool.or_false, cond_false]
    cases inL [2, 4, 6] lg
    · rfl
    · rw [cond_true, Bool.true_and]
      rcases know_same f (f.can (by decide)) (by decide) (by decide) with ⟨q1, q2⟩ | ⟨j, x, ht, _, _, q1, q2, q3, q4, hx, hx', fx⟩
      · rw [partL_no q2, q1]; rfl
      · rw [partL_yes q2, q1, hx, hx', Bool.true_and]
        exact eq_same fx h.me
  · rw [e, bne_yes hm]; rfl
theorem dual_same {s t : Tr} {a b : List Nd} (ha : Fo 40 s a) (hb : Fo 40 t b) : isDualL (canon s) (canon t) = dualR a b := by
  have hsub : subN (canon s) (lastN (canon s)).x = firstN (canon s) := rfl
  unfold isDualL dualR
  rcases poss_same ha (ha.can (by decide)) (by decide) (by decide) with ⟨q1, q2⟩ | ⟨j, x, ht, j0, j1, q1, q2, q3, q4, hx, hx', fx⟩
  · rw [q1, q2]; rfl
  · rw [q1, q2, hsub, q3, q4, hx, hx', cond_true, Bool.true_and]
    obtain ⟨e1, f1⟩ := not_fo fx (by decide)
    rw [e1]
    obtain ⟨e2, f2⟩ := know_fo ⟨j0, j1⟩ f1 (by decide)
    rw [e2]
    obtain ⟨e3, f3⟩ := not_fo f2 (by decide)
    rw [e3]
    refine Bool.eq_iff_iff.2 ?_
    rw [eqN_iff f3.ok hb.ok]
    cases hq : (lastN b).op == 4
    · rw [Bool.false_and]
      refine ⟨fun e => ?_, fun e => by cases e⟩
      have k := hb.top.1
      rw [← e] at k
      rw [k] at hq
      exact absurd hq (show ¬ (((4 : Int) == 4) = false) by decide)
    · obtain ⟨y, hty, hy, fy⟩ := (not_iff hb (by decide)).1 hq
      rw [Bool.true_and, hy]
      cases hq2 : (lastN (canon y)).op == 9
      · rw [Bool.false_and]
        refine ⟨fun e => ?_, fun e => by cases e⟩
        rw [hty] at e
        have e' := one_inj e
        have k := fy.top.1
        rw [← e'] at k hq2
        rw [k] at hq2
        exact absurd hq2 (show ¬ (((9 : Int) == 9) = false) by decide)
      · obtain ⟨z, htz, hz, fz, i0, i1⟩ := (know_iff fy (by decide)).1 hq2
        rw [Bool.true_and, hz, Bool.and_eq_true, beq_iff_eq, negR_iff fz (by decide) fx, hty]
        constructor
        · intro e
          have e' := one_inj e
          rw [htz] at e'
          injection e' with e1 e2
          exact ⟨(knD_inj e1).symm, e2.symm⟩
        · rintro ⟨e1, e2⟩
          rw [htz, e1, e2]
theorem r19 (h : AtR ls fs st S i) : dualL lg ls fs st i (ls.getD i Ln.zero) (canon (treeOf (ls.getD i Ln.zero).f)) = bif (ls.getD i Ln.zero).from_.length != 1 || decide ((lineR ls S i 0).length = 0) then false else dualR (lineR ls S i 0) (ls.getD i Ln.zero).f || dualR (ls.getD i Ln.zero).f (lineR ls S i 0) := by
  unfold dualL
  rcases h.one with ⟨hm, ⟨e, e'⟩ | ⟨s, e, f⟩⟩ | ⟨hm, e⟩
  · rw [e, e', bne_no hm]; rfl
  · rw [e, bne_no hm, f.pos]
    simp only [Bool.or_false, cond_false]
    rw [dual_same f h.me, dual_same h.me f]
  · rw [e, bne_yes hm]; rfl
theorem poD_inj {a b : Int} (h : poD a = poD b) : a = b := congrArg Nd.i h
theorem r20 (h : AtR ls fs st S i) : serialL lg ls fs st i (ls.getD i Ln.zero) (canon (treeOf (ls.getD i Ln.zero).f)) = bif (ls.getD i Ln.zero).from_.length != 1 || decide ((lineR ls S i 0).length = 0) then false else
    inL [1, 5] lg && ((lastN (lineR ls S i 0)).op == 9 && ((lastN (ls.getD i Ln.zero).f).op == 10 && ((lastN (lineR ls S i 0)).i == (lastN (ls.getD i Ln.zero).f).i && sameN (firstN (lineR ls S i 0)) (firstN (ls.getD i Ln.zero).f)))) := by
  unfold serialL
  rcases h.one with ⟨hm, ⟨e, e'⟩ | ⟨s, e, f⟩⟩ | ⟨hm, e⟩
  · rw [e, e', bne_no hm]; rfl
  · rw [e, bne_no hm, f.pos]
    simp only [Bool.or_false, cond_false]
    cases inL [1, 5] lg
    · rfl
    · rw [cond_true, Bool.true_and]
      have hsub : subN (canon s) (lastN (canon s)).x = firstN (canon s) := rfl
      rw [hsub]
      rcases know_same f (f.can (by decide)) (by decide) (by decide) with ⟨q1, q2⟩ | ⟨j, x, ht, j0, j1, q1, q2, q3, q4, hx, hx', fx⟩
      · rw [q1, q2]; rfl
      · rw [q1, q2, q3, q4, hx, hx', Bool.true_and, Bool.true_and]
        obtain ⟨e1, f1⟩ := poss_fo ⟨j0, j1⟩ fx (by decide)
        rw [e1]
        refine Bool.eq_iff_iff.2 ?_
        rw [eqN_iff f1.ok h.me.ok]
        cases hq : (lastN (ls.getD i Ln.zero).f).op == 10
        · rw [Bool.false_and]
          refine ⟨fun e => ?_, fun e => by cases e⟩
          have k := h.me.top.1
          rw [← e] at k
          rw [k] at hq
          exact absurd hq (show ¬ (((10 : Int) == 10) = false) by decide)
        · obtain ⟨y, hty, hy, fy, i0, i1⟩ := (poss_iff h.me (by decide)).1 hq
          rw [Bool.true_and, hy, Bool.and_eq_true, beq_iff_eq, sameN_iff fx fy]
          constructor
          · intro e
            rw [hty] at e
            injection e with e1 e2
            exact ⟨poD_inj e1, e2⟩
          · rintro ⟨e1, e2⟩
            rw [hty, ← e1, e2]
  · rw [e, bne_yes hm]; rfl

theorem propR_other (hr : (ls.getD i Ln.zero).rule ≠ 3 ∧ (ls.getD i Ln.zero).rule ≠ 4 ∧ (ls.getD i Ln.zero).rule ≠ 5 ∧ (ls.getD i Ln.zero).rule ≠ 6 ∧ (ls.getD i Ln.zero).rule ≠ 9 ∧ (ls.getD i Ln.zero).rule ≠ 11 ∧ (ls.getD i Ln.zero).rule ≠ 13 ∧ (ls.getD i Ln.zero).rule ≠ 14 ∧ (ls.getD i Ln.zero).rule ≠ 15) : propR ls S i = false := by
  obtain ⟨a, b, c, d, e, f, g, h, j⟩ := hr
  unfold propR
  simp only [show ((ls.getD i Ln.zero).rule == 3) = false by simpa using a, show ((ls.getD i Ln.zero).rule == 4) = false by simpa using b, show ((ls.getD i Ln.zero).rule == 5) = false by simpa using c, show ((ls.getD i Ln.zero).rule == 6) = false by simpa using d, show ((ls.getD i Ln.zero).rule == 9) = false by simpa using e,
    show ((ls.getD i Ln.zero).rule == 11) = false by simpa using f, show ((ls.getD i Ln.zero).rule == 13) = false by simpa using g, show ((ls.getD i Ln.zero).rule == 14) = false by simpa using h, show ((ls.getD i Ln.zero).rule == 15) = false by simpa using j, cond_false]
theorem closR_other (hr : (ls.getD i Ln.zero).rule ≠ 7 ∧ (ls.getD i Ln.zero).rule ≠ 8 ∧ (ls.getD i Ln.zero).rule ≠ 10 ∧ (ls.getD i Ln.zero).rule ≠ 12 ∧ (ls.getD i Ln.zero).rule ≠ 16) : closR ls S i = false := by
  obtain ⟨a, b, c, d, e⟩ := hr
  unfold closR
  simp only [show ((ls.getD i Ln.zero).rule == 7) = false by simpa using a, show ((ls.getD i Ln.zero).rule == 8) = false by simpa using b, show ((ls.getD i Ln.zero).rule == 10) = false by simpa using c, show ((ls.getD i Ln.zero).rule == 12) = false by simpa using d, show ((ls.getD i Ln.zero).rule == 16) = false by simpa using e, cond_false]
theorem modalR_other (hr : (ls.getD i Ln.zero).rule ≠ 18 ∧ (ls.getD i Ln.zero).rule ≠ 19 ∧ (ls.getD i Ln.zero).rule ≠ 20) : modalR lg ls S i = false := by
  obtain ⟨a, b, c⟩ := hr
  unfold modalR
  simp only [show ((ls.getD i Ln.zero).rule == 18) = false by simpa using a, show ((ls.getD i Ln.zero).rule == 19) = false by simpa using b, show ((ls.getD i Ln.zero).rule == 20) = false by simpa using c, cond_false]
  cases ((ls.getD i Ln.zero).from_.length != 1 || decide ((lineR ls S i 0).length = 0)) <;> rfl
/-- A rule by its number, at both. -/
theorem rule_same (h : AtR ls fs st S i) (k : Nat) (hk : k < 18) (hr : (ls.getD i Ln.zero).rule = (k : Int) + 3) :
    ruleL k lg ls fs st i (ls.getD i Ln.zero) (canon (treeOf (ls.getD i Ln.zero).f)) = bif (ls.getD i Ln.zero).rule == 17 then importR lg ls S i else propR ls S i || (closR ls S i || modalR lg ls S i) := by
  have hp : k ∉ [0, 1, 2, 3, 6, 8, 10, 11, 12] → propR ls S i = false := fun hn => propR_other (by simp at hn; omega)
  have hc : k ∉ [4, 5, 7, 9, 13] → closR ls S i = false := fun hn => closR_other (by simp at hn; omega)
  have hm : k ∉ [15, 16, 17] → modalR lg ls S i = false := fun hn => modalR_other (by simp at hn; omega)
  have h17 : k ≠ 14 → ((ls.getD i Ln.zero).rule == 17) = false := fun hn => by rw [hr]; simp; omega
  have : k = 0 ∨ k = 1 ∨ k = 2 ∨ k = 3 ∨ k = 4 ∨ k = 5 ∨ k = 6 ∨ k = 7 ∨ k = 8 ∨ k = 9 ∨ k = 10 ∨ k = 11 ∨ k = 12 ∨ k = 13 ∨ k = 14 ∨ k = 15 ∨ k = 16 ∨ k = 17 := by omega
  rcases this with rfl | rfl | rfl | rfl | rfl | rfl | rfl | rfl | rfl | rfl | rfl | rfl | rfl | rfl | rfl | rfl | rfl | rfl
  · rw [h17 (by decide), hc (by decide), hm (by decide), cond_false, Bool.or_false, Bool.or_false]
    refine (r3 (lg := lg) h).trans ?_
    unfold propR
    simp only [hr]; rfl
  · rw [h17 (by decide), hc (by decide), hm (by decide), cond_false, Bool.or_false, Bool.or_false]
    refine (r4 (lg := lg) h).trans ?_
    unfold propR
    simp only [hr]; rfl
  · rw [h17 (by decide), hc (by decide), hm (by decide), cond_false, Bool.or_false, Bool.or_false]
    refine (r5 (lg := lg) h).trans ?_
    unfold propR
    simp only [hr]; rfl
  · rw [h17 (by decide), hc (by decide), hm (by decide), cond_false, Bool.or_false, Bool.or_false]
    refine (r6 (lg := lg) h).trans ?_
    unfold propR
    simp only [hr]; rfl
  · rw [h17 (by decide), hp (by decide), hm (by decide), cond_false, Bool.or_false, Bool.false_or]
    refine (r7 (lg := lg) h).trans ?_
    unfold closR
    simp only [hr]; rfl
  · rw [h17 (by decide), hp (by decide), hm (by decide), cond_false, Bool.or_false, Bool.false_or]
    refine (r8 (lg := lg) h).trans ?_
    unfold closR
    simp only [hr]; rfl
  · rw [h17 (by decide), hc (by decide), hm (by decide), cond_false, Bool.or_false, Bool.or_false]
    refine (r9 (lg := lg) h).trans ?_
    unfold propR
    simp only [hr]; rfl
  · rw [h17 (by decide), hp (by decide), hm (by decide), cond_false, Bool.or_false, Bool.false_or]
    refine (r10 (lg := lg) h).trans ?_
    unfold closR
    simp only [hr]; rfl
  · rw [h17 (by decide), hc (by decide), hm (by decide), cond_false, Bool.or_false, Bool.or_false]
    refine (r11 (lg := lg) h).trans ?_
    unfold propR
    simp only [hr]; rfl
  · rw [h17 (by decide), hp (by decide), hm (by decide), cond_false, Bool.or_false, Bool.false_or]
    refine (r12 (lg := lg) h).trans ?_
    unfold closR
    simp only [hr]; rfl
  · rw [h17 (by decide), hc (by decide), hm (by decide), cond_false, Bool.or_false, Bool.or_false]
    refine (r13 (lg := lg) h).trans ?_
    unfold propR
    simp only [hr]; rfl
  · rw [h17 (by decide), hc (by decide), hm (by decide), cond_false, Bool.or_false, Bool.or_false]
    refine (r14 (lg := lg) h).trans ?_
    unfold propR
    simp only [hr]; rfl
  · rw [h17 (by decide), hc (by decide), hm (by decide), cond_false, Bool.or_false, Bool.or_false]
    refine (r15 (lg := lg) h).trans ?_
    unfold propR
    simp only [hr]; rfl
  · rw [h17 (by decide), hp (by decide), hm (by decide), cond_false, Bool.or_false, Bool.false_or]
    refine (r16 (lg := lg) h).trans ?_
    unfold closR
    simp only [hr]; rfl
  · rw [show ((ls.getD i Ln.zero).rule == 17) = true by rw [hr]; rfl, cond_true]
    exact r17 (lg := lg) h
  · rw [h17 (by decide), hp (by decide), hc (by decide), cond_false, Bool.false_or, Bool.false_or]
    refine (r18 (lg := lg) h).trans ?_
    unfold modalR
    simp only [hr]; rfl
  · rw [h17 (by decide), hp (by decide), hc (by decide), cond_false, Bool.false_or, Bool.false_or]
    refine (r19 (lg := lg) h).trans ?_
    unfold modalR
    simp only [hr]; rfl
  · rw [h17 (by decide), hp (by decide), hc (by decide), cond_false, Bool.false_or, Bool.false_or]
    refine (r20 (lg := lg) h).trans ?_
    unfold modalR
    simp only [hr]; rfl
theorem follow_same (h : AtR ls fs st S i) : followsR lg ls S i = followsL lg ls fs st i (ls.getD i Ln.zero) (canon (treeOf (ls.getD i Ln.zero).f)) := by
  unfold followsR followsL
  simp only
  by_cases h2 : (ls.getD i Ln.zero).rule = 2
  · rw [show ((ls.getD i Ln.zero).rule != 2) = false by rw [h2]; rfl, show ((ls.getD i Ln.zero).rule == 2) = true by rw [h2]; rfl, show ((ls.getD i Ln.zero).rule == 1) = false by rw [h2]; rfl, Bool.false_and, cond_false, cond_false, cond_true, cond_true, eq_true h.me (by decide)]
  · rw [show ((ls.getD i Ln.zero).rule != 2) = true by simpa using h2, show ((ls.getD i Ln.zero).rule == 2) = false by simpa using h2, Bool.true_and, cond_false, cond_false]
    cases (ls.getD i Ln.zero).agent != 0
    · rw [cond_false, cond_false]
      cases h1 : (ls.getD i Ln.zero).rule == 1
      · rw [cond_false, cond_false]
        by_cases hk : ∃ k : Nat, k < 18 ∧ (ls.getD i Ln.zero).rule = (k : Int) + 3
        · obtain ⟨k, hk, hr⟩ := hk
          rw [folTab_at hr hk, rule_same h k hk hr]
        · have hno : ∀ k : Nat, k < 18 → (ls.getD i Ln.zero).rule ≠ (k : Int) + 3 := fun k h1 h2 => hk ⟨k, h1, h2⟩
          have a := hno 0 (by decide); have b := hno 1 (by decide); have c := hno 2 (by decide); have d := hno 3 (by decide); have e := hno 4 (by decide); have f := hno 5 (by decide)
          have a' := hno 6 (by decide); have b' := hno 7 (by decide); have c' := hno 8 (by decide); have d' := hno 9 (by decide); have e' := hno 10 (by decide); have f' := hno 11 (by decide)
          have a2 := hno 12 (by decide); have b2 := hno 13 (by decide); have c2 := hno 14 (by decide); have d2 := hno 15 (by decide); have e2 := hno 16 (by decide); have f2 := hno 17 (by decide)
          rw [folTab_none hno, propR_other (by omega), closR_other (by omega), modalR_other (by omega), show ((ls.getD i Ln.zero).rule == 17) = false from beq_eq_false_iff_ne.2 (by omega)]
          rfl
      · rfl
    · rfl
end
/-- From a line on, both say the same. -/
theorem chk_same {lg : Int} {ls : List Ln} (hfew : ∀ (k : Nat) (n : Ln), ls[k]? = some n → n.f.length ≤ 40) : ∀ (r : List Ln) (fs : List (List Nd)) (st : List (List Int)) (i : Nat), ls.drop i = r → st.length = i → Sk st →
    (∀ j : Nat, j < i → opensL (ls.getD j Ln.zero) = true → (j : Int) ∈ st.getD j []) →
    (∀ j, j < i → Fo 40 (treeOf (ls.getD j Ln.zero).f) (ls.getD j Ln.zero).f ∧ fs.getD j [] = canon (treeOf (ls.getD j Ln.zero).f)) → fs.length = i →
    (∀ j, j < i → 0 ≤ (ls.getD j Ln.zero).agent ∧ (ls.getD j Ln.zero).agent < 4) →
    chkR lg ls (stacksR r (lastSt st) st st.length).1 (stacksR r (lastSt st) st st.length).2 r i = chkGo lg ls r fs st i
  | [], fs, st, i, _, _, _, _, _, _, _ => rfl
  | n :: r, fs, st, i, hd, hsl, hsk, hop, hfo, hfl, hag => by
    have hi : ls[i]? = some n := by
      have := congrArg (fun l => l[0]?) hd
      simpa using this
    have hg : ls.getD i Ln.zero = n := by rw [List.getD_eq_getElem?_getD, hi]; rfl
    have hil : i < ls.length := (List.getElem?_eq_some_iff.1 hi).1
    have hdr : ls.drop (i + 1) = r := by
      have := congrArg (List.drop 1) hd
      simpa using this
    unfold chkR chkGo
    cases hc : check n.f != 0
    · rw [cond_false, cond_false]
      cases hf : decide (2 ≤ fragsN n.f)
      · rw [cond_false, cond_false]
        have hc0 : check n.f = 0 := by simpa using hc
        have hfo' : Fo 40 (treeOf n.f) n.f := fo_of hc0 (hfew i n hi) (by simpa using hf)
        cases hp : pushL st n with
        | none =>
          rw [stacksR_none hp, hsl]
          simp
        | some s =>
          rw [stacksR_some hp]
          simp only
          obtain ⟨p1, p2⟩ := stacksR_pre r (lastSt (st ++ [s])) (st ++ [s]) (st ++ [s]).length
          have hlt : decide ((stacksR r (lastSt (st ++ [s])) (st ++ [s]) (st ++ [s]).length).2 ≤ i) = false := by
            simp at p2 ⊢; omega
          rw [hlt, Bool.false_or]
          cases ha : decide (n.agent < 0) || decide (4 ≤ n.agent)
          · rw [cond_false, cond_false]
            have ha' : 0 ≤ n.agent ∧ n.agent < 4 := by simp at ha; omega
            have hsk' := hsk.push hp
            have hlt' : ∀ j, j ≤ i → j ≠ i → j < i := fun j h1 h2 => by omega
            have hop' : ∀ j : Nat, j ≤ i → opensL (ls.getD j Ln.zero) = true → (j : Int) ∈ (st ++ [s]).getD j [] := fun j hj ho => by
              by_cases e : j = i
              · subst e
                rw [hg] at ho
                rw [← hsl, getD_snoc_eq]
                rcases pushL_cases hp with ⟨_, d, rfl⟩ | ⟨ho', _⟩
                · simp
                · rw [ho] at ho'; cases ho'
              · rw [getD_snoc_lt (by omega)]
                exact hop j (hlt' j hj e) ho
            have hfo2 : ∀ j, j ≤ i → Fo 40 (treeOf (ls.getD j Ln.zero).f) (ls.getD j Ln.zero).f ∧ (fs ++ [compactN n.f]).getD j [] = canon (treeOf (ls.getD j Ln.zero).f) := fun j hj => by
              by_cases e : j = i
              · subst e
                rw [hg]
                refine ⟨hfo', ?_⟩
                rw [List.getD_eq_getElem?_getD, List.getElem?_append_right (by omega), hfo'.comp, hfl]
                simp
              · obtain ⟨a, b⟩ := hfo j (hlt' j hj e)
                refine ⟨a, ?_⟩
                rw [List.getD_eq_getElem?_getD, List.getElem?_append_left (by omega), ← List.getD_eq_getElem?_getD]
                exact b
            have hag' : ∀ j, j ≤ i → 0 ≤ (ls.getD j Ln.zero).agent ∧ (ls.getD j Ln.zero).agent < 4 := fun j hj => by
              by_cases e : j = i
              · subst e; rw [hg]; exact ha'
              · exact hag j (hlt' j hj e)
            have hat : AtR ls (fs ++ [compactN n.f]) (st ++ [s]) (stacksR r (lastSt (st ++ [s])) (st ++ [s]) (st ++ [s]).length).1 i :=
              ⟨hil, by simp [hsl], fun j hj => by
                obtain ⟨t, ht⟩ := p1
                rw [← ht, List.getD_eq_getElem?_getD, List.getElem?_append_left (by simp; omega), ← List.getD_eq_getElem?_getD], hsk', hop', hfo2, hag'⟩
            have hfs := follow_same (lg := lg) hat
            rw [hg] at hfs
            rw [hfs, hfo'.comp]
            cases followsL lg ls (fs ++ [canon (treeOf n.f)]) (st ++ [s]) i n (canon (treeOf n.f))
            · rfl
            · rw [cond_true, cond_true, ← hfo'.comp]
              exact chk_same hfew r (fs ++ [compactN n.f]) (st ++ [s]) (i + 1) hdr (by simp [hsl]) hsk' (fun j hj => hop' j (by omega)) (fun j hj => hfo2 j (by omega)) (by simp [hfl]) (fun j hj => hag' j (by omega))
          · rfl
      · rfl
    · rfl
theorem few_len {ls : List Ln} (h : fewL ls = true) : ∀ (k : Nat) (n : Ln), ls[k]? = some n → n.f.length ≤ 40 := by
  intro k n hk
  unfold fewL at h
  generalize ((decide (60 < ls.length) && decide (ls.length ≤ 400)) || decide (500 < ls.length)) = b at h
  cases b
  · have := List.all_eq_true.1 h n (List.mem_of_getElem? hk)
    unfold fewLine at this
    simp at this
    omega
  · cases h
theorem check_same {lg : Int} {ls : List Ln} (h : fewL ls = true) : checkR lg ls = natCheck lg ls := by
  unfold checkR natCheck
  cases decide (lg < 0) || decide (6 < lg)
  · rw [cond_false, cond_false]
    cases hl : decide (400 < ls.length)
    · rw [cond_false, cond_false]
      cases decide (ls.length = 0)
      · rw [cond_false, cond_false]
        exact chk_same (few_len h) ls [] [] 0 rfl rfl sk_nil (fun j hj => absurd hj (Nat.not_lt_zero _)) (fun j hj => absurd hj (Nat.not_lt_zero _)) rfl (fun j hj => absurd hj (Nat.not_lt_zero _))
      · rfl
    · rfl
  · rfl
end Go.Proofs.YtipnbfbakohcaaaDoor
