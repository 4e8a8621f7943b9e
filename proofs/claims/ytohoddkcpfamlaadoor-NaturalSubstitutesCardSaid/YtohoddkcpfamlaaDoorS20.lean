/- A proof by natural deduction behind a replacement of its facts: each rule. Plain. -/
import Derived.Test.YtohoddkcpfamlaaDoorS19
import Derived.Test.YtohoddkcpfamlaaDoorS15
import Derived.Test.YtohoddkcpfamlaaDoorS17
import Derived.Test.YtohoddkcpfamlaaDoorS06

namespace Go.Proofs.YtohoddkcpfamlaaDoor
open Go.RowKit

def ORel {α β : Type} (R : α → β → Prop) : Option α → Option β → Prop
  | none, none => True
  | some a, some b => R a b
  | _, _ => False
theorem orel_some {α β : Type} {R : α → β → Prop} {x : Option α} {y : Option β} (h : ORel R x y) {a : α} (e : x = some a) : ∃ b, y = some b ∧ R a b := by
  subst e
  cases y with
  | none => exact h.elim
  | some b => exact ⟨b, rfl, h⟩
theorem orel_none {α β : Type} {R : α → β → Prop} {x : Option α} {y : Option β} (h : ORel R x y) (e : x = none) : y = none := by
  subst e
  cases y with
  | none => rfl
  | some b => exact h.elim
structure SimL (ls ls' : List Ln) : Prop where
  len : ls'.length = ls.length
  rule : ∀ k : Int, (lineAt ls' k).rule = (lineAt ls k).rule
  agent : ∀ k : Int, (lineAt ls' k).agent = (lineAt ls k).agent
structure SubCtx (σ : Int → Option Tr) (ls ls' : List Ln) (FS FS' : List (List Nd)) (i : Nat) : Prop where
  good : GoodS σ
  sim : SimL ls ls'
  rel : ∀ k, k < i + 1 → RelS σ (FS.getD k []) (FS'.getD k [])
  ag : ∀ k : Nat, k < i + 1 → 0 ≤ (lineAt ls k).agent ∧ (lineAt ls k).agent < 4
theorem box_sim {ls ls' : List Ln} (h : SimL ls ls') : isBox ls' = isBox ls := by
  funext o
  unfold isBox
  rw [h.rule]
theorem boxes_sim {ls ls' : List Ln} (h : SimL ls ls') (l : List Int) : boxesL ls' l = boxesL ls l := by
  unfold boxesL
  rw [box_sim h]
theorem within_lt {st : List (List Int)} {i : Nat} {j : Int} {r : List Int} (h : withinL st i j = some r) : 0 ≤ j ∧ j < i := by
  unfold withinL at h
  by_cases hj : j < 0 ∨ (i : Int) ≤ j
  · rw [if_pos hj] at h; cases h
  · omega
theorem lastF_lt (st : List (List Int)) (o : Int) (i : Nat) : ∀ k l : Nat, l < i → lastF st o i k l < i
  | 0, l, h => h
  | k + 1, l, h => by
    unfold lastF
    cases hc : (decide (l + 1 < i) && decide (o ∈ st.getD (l + 1) []))
    · rw [cond_false]; exact h
    · rw [cond_true]
      rw [Bool.and_eq_true] at hc
      exact lastF_lt st o i k (l + 1) (of_decide_eq_true hc.1)
section
variable {σ : Int → Option Tr} {ls ls' : List Ln} {FS FS' : List (List Nd)} {ST : List (List Int)} {i : Nat} (c : SubCtx σ ls ls' FS FS' i)
include c
theorem line_rel (j : Int) : ORel (RelS σ) (lineL ls FS ST i j) (lineL ls' FS' ST i j) := by
  unfold lineL
  cases hw : withinL ST i j with
  | none => exact trivial
  | some r =>
    simp only
    rw [boxes_sim c.sim]
    cases (boxesL ls r).isEmpty
    · exact trivial
    · have := within_lt hw
      exact c.rel j.toNat (by omega)
theorem one_rel {n n' : Ln} (hn : n'.from_ = n.from_) : ORel (RelS σ) (oneL ls FS ST i n) (oneL ls' FS' ST i n') := by
  unfold oneL
  rw [hn]
  cases decide (n.from_.length = 1)
  · exact trivial
  · exact line_rel c _
theorem two_rel {n n' : Ln} (hn : n'.from_ = n.from_) : ORel (fun r r' : List Nd × List Nd => RelS σ r.1 r'.1 ∧ RelS σ r.2 r'.2) (twoL ls FS ST i n) (twoL ls' FS' ST i n') := by
  unfold twoL
  rw [hn]
  cases decide (n.from_.length = 2)
  · exact trivial
  · simp only [cond_true]
    have h1 := line_rel c (ST := ST) (n.from_.getD 0 0)
    have h2 := line_rel c (ST := ST) (n.from_.getD 1 0)
    cases e1 : lineL ls FS ST i (n.from_.getD 0 0) with
    | none => rw [orel_none h1 e1]; exact trivial
    | some x =>
      obtain ⟨x', e1', r1⟩ := orel_some h1 e1
      rw [e1']
      cases e2 : lineL ls FS ST i (n.from_.getD 1 0) with
      | none => rw [orel_none h2 e2]; exact trivial
      | some y =>
        obtain ⟨y', e2', r2⟩ := orel_some h2 e2
        rw [e2']
        exact ⟨r1, r2⟩
theorem sub_rel (o : Int) : ORel (fun r r' : Int × List Nd => r'.1 = r.1 ∧ r.1 = o ∧ 0 ≤ o ∧ o < i ∧ RelS σ r.2 r'.2) (subprL ls FS ST i o) (subprL ls' FS' ST i o) := by
  unfold subprL
  by_cases ho : o < 0 ∨ (i : Int) ≤ o
  · rw [if_pos ho, if_pos ho]; exact trivial
  · rw [if_neg ho, if_neg ho]
    have e1 : opensL (lineAt ls' o) = opensL (lineAt ls o) := by unfold opensL; rw [c.sim.rule]
    have e2 : subOk ls' ST i o.toNat = subOk ls ST i o.toNat := by unfold subOk; rw [boxes_sim c.sim]
    rw [e1, e2]
    cases opensL (lineAt ls o) && subOk ls ST i o.toNat
    · exact trivial
    · have hl : lastL ST o.toNat i < i := lastF_lt _ _ _ _ _ (by omega)
      exact ⟨rfl, rfl, by omega, by omega, c.rel _ (by omega)⟩
theorem assumed_rel (o : Int) : ORel (fun r r' : List Nd × List Nd => RelS σ r.1 r'.1 ∧ RelS σ r.2 r'.2) (assumedL ls FS ST i o) (assumedL ls' FS' ST i o) := by
  unfold assumedL
  have h := sub_rel c (ST := ST) o
  cases e : subprL ls FS ST i o with
  | none => rw [orel_none h e]; exact trivial
  | some r =>
    obtain ⟨r', e', h1, h2, h3, h4, h5⟩ := orel_some h e
    rw [e']
    simp only
    rw [h1, c.sim.rule]
    cases (lineAt ls r.1).rule == 1
    · exact trivial
    · exact ⟨c.rel _ (by omega), h5⟩
theorem asm_rel {n n' : Ln} (hn : n'.from_ = n.from_) : ORel (fun r r' : List Nd × List Nd => RelS σ r.1 r'.1 ∧ RelS σ r.2 r'.2) (asmL ls FS ST i n) (asmL ls' FS' ST i n') := by
  unfold asmL fromAt
  rw [hn]
  cases decide (n.from_.length = 1)
  · exact trivial
  · exact assumed_rel c _
theorem ref_rel {n n' : Ln} (hn : n'.from_ = n.from_) {x : List Nd} (h : refutesL ls FS ST i n = some x) : ∃ x', refutesL ls' FS' ST i n' = some x' ∧ RelS σ x x' := by
  unfold refutesL at h ⊢
  cases e : asmL ls FS ST i n with
  | none => rw [e] at h; cases h
  | some r =>
    obtain ⟨r', e', h1, h2⟩ := orel_some (asm_rel c hn) e
    rw [e] at h
    rw [e']
    simp only at h ⊢
    cases he : eqN r.2 falseN
    · rw [he] at h; cases h
    · rw [he] at h
      injection h with h
      rw [rel_eqN h2 rel_false he, ← h]
      exact ⟨_, rfl, h1⟩
variable {fi fi' : List Nd} (hf : RelS σ fi fi') {n n' : Ln} (hn : n'.from_ = n.from_) {lg : Int}
omit c in
theorem part_rel (hσ : GoodS σ) {f f' : List Nd} {op : Int} (ho : op = 5 ∨ op = 6 ∨ op = 7 ∨ op = 8) (r : RelS σ f f') {s : List Nd × List Nd} (h : partL f op = some s) : ∃ s', partL f' op = some s' ∧ RelS σ s.1 s'.1 ∧ RelS σ s.2 s'.2 := by
  unfold partL at h ⊢
  cases e : (lastN f).op == op
  · rw [e] at h; cases h
  · rw [e] at h
    injection h with h
    obtain ⟨h1, h2, h3⟩ := rel_part hσ ho r (by simpa using e)
    rw [h1, beq_self_eq_true, ← h]
    exact ⟨_, rfl, h2, h3⟩
omit c in
theorem dual_rel (hσ : GoodS σ) {f f' g g' : List Nd} (r : RelS σ f f') (q : RelS σ g g') (h : isDualL f g = true) : isDualL f' g' = true := by
  unfold isDualL at h ⊢
  cases e : (lastN f).op == 10
  · rw [e] at h; cases h
  · rw [e, cond_true] at h
    obtain ⟨h1, h2, h3, h4⟩ := rel_one hσ (.inr (.inr rfl)) r (by simpa using e)
    rw [h1, h2, beq_self_eq_true, cond_true]
    have ha := h4 (by decide)
    -- the middle terms are formulas of their trees
    obtain ⟨t, a1, a2, a3, a4⟩ := h3
    obtain ⟨u, b1, b2, b3, b4⟩ := q
    have e1 := eqb_eq h
    have p4 : Pn (opD 4) := pn_op (by omega)
    have p9 : Pn ⟨9, (lastN f).i, 0, 0, 0, 0⟩ := pn_ag (.inl rfl) ha
    -- each builder is not empty, as the outermost one is not
    have chain : ∀ {v : Tr} {m : List Nd}, Fo 200 v m → ∀ {nd : Nd}, hasX nd.op = true → hasY nd.op = false → Pn nd → nd.head = nd → buildN nd [m] = shortT (.one nd v) := fun hm nd x1 x2 x3 x4 => by
      rw [build_oneS hm.ck x1 x2 x3.1, hm.tree, x4]
    have fo1 : ∀ {v : Tr} {nd : Nd}, v.ok → v.all Pn → hasX nd.op = true → hasY nd.op = false → Pn nd → nd.head = nd → (canon (.one nd v)).length ≤ 200 → Fo 200 (.one nd v) (canon (.one nd v)) := fun ho hl x1 x2 x3 x4 hle => fo_canon ⟨x1, x2, x4, ho⟩ ⟨x3, hl⟩ hle (Nat.le_refl _)
    have kN : ∀ m, knowN (lastN f).i m = buildN ⟨9, (lastN f).i, 0, 0, 0, 0⟩ [m] := fun _ => rfl
    have nN : ∀ m, notN m = buildN (opD 4) [m] := fun _ => rfl
    have T1 : u = .one (opD 4) (.one ⟨9, (lastN f).i, 0, 0, 0, 0⟩ (.one (opD 4) t)) := by
      rw [nN, nN, kN, b2] at e1
      rw [chain a1 rfl rfl p4 rfl] at e1
      have hup := canon_pos b1.ok
      have nil1 : ∀ nd, buildN nd [[]] = [] := fun nd => build_bad1 (by decide)
      by_cases l1 : (canon (.one (opD 4) t)).length ≤ 200
      · rw [short_fit l1, chain (fo1 a1.ok a1.all rfl rfl p4 rfl l1) rfl rfl p9 rfl] at e1
        by_cases l2 : (canon (.one ⟨9, (lastN f).i, 0, 0, 0, 0⟩ (.one (opD 4) t))).length ≤ 200
        · have f2 := fo1 (v := .one (opD 4) t) (nd := ⟨9, (lastN f).i, 0, 0, 0, 0⟩) ⟨rfl, rfl, rfl, a1.ok⟩ ⟨p4, a1.all⟩ rfl rfl p9 rfl l2
          rw [short_fit l2, chain f2 rfl rfl p4 rfl] at e1
          exact (short_can (t := .one (opD 4) (.one ⟨9, (lastN f).i, 0, 0, 0, 0⟩ (.one (opD 4) t))) b1.ok ⟨rfl, rfl, rfl, f2.ok⟩ e1).symm
        · rw [short_long (by omega), nil1] at e1
          rw [← e1] at hup; simp at hup
      · rw [short_long (by omega), nil1, nil1] at e1
        rw [← e1] at hup; simp at hup
    have hl3 : (canon (Tr.one (opD 4) (.one ⟨9, (lastN f).i, 0, 0, 0, 0⟩ (.one (opD 4) (subT σ t))))).length ≤ 200 := by
      have := b3.len
      rw [b4, T1] at this
      exact this
    have o3 : (Tr.one (opD 4) (.one ⟨9, (lastN f).i, 0, 0, 0, 0⟩ (.one (opD 4) (subT σ t)))).ok := ⟨rfl, rfl, rfl, rfl, rfl, rfl, rfl, rfl, rfl, a3.ok⟩
    have hl2 := Nat.le_trans (one_len o3) hl3
    have hl1 := Nat.le_trans (one_len o3.2.2.2) hl2
    have f1 := fo1 (nd := opD 4) a3.ok a3.all rfl rfl p4 rfl hl1
    have f2 := fo1 (nd := ⟨9, (lastN f).i, 0, 0, 0, 0⟩) f1.ok f1.all rfl rfl p9 rfl hl2
    have g3 : u = .one (opD 4) (.one ⟨9, (lastN f).i, 0, 0, 0, 0⟩ (.one (opD 4) t)) := T1
    have k1 := chain a3 (nd := opD 4) rfl rfl p4 rfl
    have k2 := chain f1 (nd := ⟨9, (lastN f).i, 0, 0, 0, 0⟩) rfl rfl p9 rfl
    have k3 := chain f2 (nd := opD 4) rfl rfl p4 rfl
    rw [short_fit hl1] at k1
    rw [short_fit hl2] at k2
    rw [short_fit hl3] at k3
    rw [nN, nN, kN, k1, k2, k3, b4, g3]
    exact eqN_self o3
include hf hn
theorem rule_rel (k : Nat) (hr : ruleL k lg ls FS ST i n fi = true) : ruleL k lg ls' FS' ST i n' fi' = true := by
  have one := one_rel c (ST := ST) hn
  have two := two_rel c (ST := ST) hn
  have asm := asm_rel c (ST := ST) hn
  have hfr : ∀ k, fromAt n' k = fromAt n k := fun k => by unfold fromAt; rw [hn]
  match k, hr with
  | 0, hr =>
    replace hr : copiedL lg ls FS ST i n fi = true := hr
    show copiedL lg ls' FS' ST i n' fi' = true
    unfold copiedL at hr ⊢
    split at hr
    · cases hr
    · rename_i x hx
      obtain ⟨x', e, r⟩ := orel_some one hx
      rw [e]
      exact rel_eqN r hf hr
  | 1, hr =>
    replace hr : andInL lg ls FS ST i n fi = true := hr
    show andInL lg ls' FS' ST i n' fi' = true
    unfold andInL at hr ⊢
    split at hr
    · cases hr
    · rename_i x hx
      obtain ⟨x', e, r1, r2⟩ := orel_some two hx
      rw [e]
      exact rel_and r1 r2 hf hr
  | 2, hr =>
    replace hr : andOutL lg ls FS ST i n fi = true := hr
    show andOutL lg ls' FS' ST i n' fi' = true
    unfold andOutL at hr ⊢
    split at hr
    · cases hr
    · rename_i x hx
      obtain ⟨x', e, r⟩ := orel_some one hx
      rw [e]
      simp only
      split at hr
      · cases hr
      · rename_i s hp
        obtain ⟨s', e2, r1, r2⟩ := part_rel c.good (.inl rfl) r hp
        rw [e2]
        simp only [Bool.or_eq_true] at hr ⊢
        exact hr.imp (rel_eqN r1 hf) (rel_eqN r2 hf)
  | 3, hr =>
    replace hr : orInL lg ls FS ST i n fi = true := hr
    show orInL lg ls' FS' ST i n' fi' = true
    unfold orInL at hr ⊢
    split at hr
    · cases hr
    · rename_i x hx
      obtain ⟨x', e, r⟩ := orel_some one hx
      rw [e]
      simp only
      split at hr
      · cases hr
      · rename_i s hp
        obtain ⟨s', e2, r1, r2⟩ := part_rel c.good (.inr (.inl rfl)) hf hp
        rw [e2]
        simp only [Bool.or_eq_true] at hr ⊢
        exact hr.imp (rel_eqN r1 r) (rel_eqN r2 r)
  | 4, hr =>
    replace hr : orOutL lg ls FS ST i n fi = true := hr
    show orOutL lg ls' FS' ST i n' fi' = true
    unfold orOutL at hr ⊢
    rw [hn, hfr, hfr, hfr]
    cases hd : decide (n.from_.length = 3)
    · rw [hd] at hr; cases hr
    · rw [hd, cond_true] at hr
      rw [cond_true]
      split at hr
      · cases hr
      · rename_i x hx
        obtain ⟨x', e, r⟩ := orel_some (line_rel c _) hx
        rw [e]
        simp only
        split at hr
        · rename_i s a b hp ha hb
          obtain ⟨s', e2, r1, r2⟩ := part_rel c.good (.inr (.inl rfl)) r hp
          obtain ⟨a', e3, q1, q2⟩ := orel_some (assumed_rel c _) ha
          obtain ⟨b', e4, t1, t2⟩ := orel_some (assumed_rel c _) hb
          rw [e2, e3, e4]
          simp only [Bool.and_eq_true] at hr ⊢
          exact ⟨rel_eqN q1 r1 hr.1, rel_eqN t1 r2 hr.2.1, rel_eqN q2 hf hr.2.2.1, rel_eqN t2 hf hr.2.2.2⟩
        · cases hr
  | 5, hr =>
    replace hr : impInL lg ls FS ST i n fi = true := hr
    show impInL lg ls' FS' ST i n' fi' = true
    unfold impInL at hr ⊢
    split at hr
    · cases hr
    · rename_i x hx
      obtain ⟨x', e, r1, r2⟩ := orel_some asm hx
      rw [e]
      exact rel_imp r1 r2 hf hr
  | 6, hr =>
    replace hr : impOutL lg ls FS ST i n fi = true := hr
    show impOutL lg ls' FS' ST i n' fi' = true
    unfold impOutL at hr ⊢
    split at hr
    · cases hr
    · rename_i x hx
      obtain ⟨x', e, r1, r2⟩ := orel_some two hx
      rw [e]
      exact rel_imp r1 hf r2 hr
  | 7, hr =>
    replace hr : notInL lg ls FS ST i n fi = true := hr
    show notInL lg ls' FS' ST i n' fi' = true
    unfold notInL at hr ⊢
    split at hr
    · cases hr
    · rename_i x hx
      obtain ⟨x', e, r1⟩ := ref_rel c hn hx
      rw [e]
      exact rel_not r1 hf hr
  | 8, hr =>
    replace hr : notOutL lg ls FS ST i n fi = true := hr
    show notOutL lg ls' FS' ST i n' fi' = true
    unfold notOutL at hr ⊢
    split at hr
    · cases hr
    · rename_i x hx
      obtain ⟨x', e, r1, r2⟩ := orel_some two hx
      rw [e]
      simp only [Bool.and_eq_true] at hr ⊢
      exact ⟨rel_not r1 r2 hr.1, rel_eqN hf rel_false hr.2⟩
  | 9, hr =>
    replace hr : absurdL lg ls FS ST i n fi = true := hr
    show absurdL lg ls' FS' ST i n' fi' = true
    unfold absurdL at hr ⊢
    split at hr
    · cases hr
    · rename_i x hx
      obtain ⟨x', e, r1⟩ := ref_rel c hn hx
      rw [e]
      exact rel_not hf r1 hr
  | 10, hr =>
    replace hr : fromFalseL lg ls FS ST i n fi = true := hr
    show fromFalseL lg ls' FS' ST i n' fi' = true
    unfold fromFalseL at hr ⊢
    split at hr
    · cases hr
    · rename_i x hx
      obtain ⟨x', e, r⟩ := orel_some one hx
      rw [e]
      exact rel_eqN r rel_false hr
  | 11, hr =>
    replace hr : isTrueL lg ls FS ST i n fi = true := hr
    show isTrueL lg ls' FS' ST i n' fi' = true
    unfold isTrueL at hr ⊢
    rw [hn]
    simp only [Bool.and_eq_true] at hr ⊢
    exact ⟨hr.1, rel_eqN hf rel_true hr.2⟩
  | 12, hr =>
    replace hr : iffL lg ls FS ST i n fi = true := hr
    show iffL lg ls' FS' ST i n' fi' = true
    unfold iffL at hr ⊢
    split at hr
    · rename_i x hx
      obtain ⟨x', e, r1, r2⟩ := orel_some two hx
      rw [e]
      simp only
      split at hr
      · cases hr
      · rename_i s hp
        obtain ⟨s', e2, q1, q2⟩ := part_rel c.good (.inr (.inr (.inr rfl))) hf hp
        rw [e2]
        simp only [Bool.and_eq_true] at hr ⊢
        exact ⟨rel_imp q1 q2 r1 hr.1, rel_imp q2 q1 r2 hr.2⟩
    · rename_i hx
      rw [orel_none two hx]
      simp only
      split at hr
      · cases hr
      · rename_i x hx
        obtain ⟨x', e, r⟩ := orel_some one hx
        rw [e]
        simp only
        split at hr
        · cases hr
        · rename_i s hp
          obtain ⟨s', e2, q1, q2⟩ := part_rel c.good (.inr (.inr (.inr rfl))) r hp
          rw [e2]
          simp only [Bool.or_eq_true] at hr ⊢
          exact hr.imp (rel_imp q1 q2 hf) (rel_imp q2 q1 hf)
  | 13, hr =>
    replace hr : knowInL lg ls FS ST i n fi = true := hr
    show knowInL lg ls' FS' ST i n' fi' = true
    unfold knowInL at hr ⊢
    rw [hn, hfr]
    cases hd : decide (n.from_.length = 1)
    · rw [hd] at hr; cases hr
    · rw [hd, cond_true] at hr
      rw [cond_true]
      split at hr
      · cases hr
      · rename_i x hx
        obtain ⟨x', e, h1, h2, h3, h4, h5⟩ := orel_some (sub_rel c _) hx
        rw [e]
        simp only
        rw [h1, c.sim.rule, c.sim.agent]
        simp only [Bool.and_eq_true] at hr ⊢
        refine ⟨hr.1, rel_know ?_ h5 hf hr.2⟩
        obtain ⟨q, hq⟩ := Int.eq_ofNat_of_zero_le h3
        rw [h2, hq]
        exact c.ag q (by omega)
  | 14, hr =>
    replace hr : importedL lg ls FS ST i n fi = true := hr
    show importedL lg ls' FS' ST i n' fi' = true
    unfold importedL at hr ⊢
    rw [hn, hfr]
    cases hd : decide (n.from_.length = 1)
    · rw [hd] at hr; cases hr
    · rw [hd, cond_true] at hr
      rw [cond_true]
      cases hx : withinL ST i (fromAt n 0) with
      | none => rw [hx] at hr; cases hr
      | some r =>
        rw [hx] at hr
        simp only at hr ⊢
        rw [boxes_sim c.sim]
        split at hr
        · rename_i o hb
          rw [c.sim.agent]
          have hw := within_lt hx
          have q := c.rel (fromAt n 0).toNat (by omega)
          generalize FS.getD (fromAt n 0).toNat [] = f at hr q
          generalize FS'.getD (fromAt n 0).toNat [] = f' at q
          generalize (lineAt ls o).agent = a at hr
          unfold impAt at hr ⊢
          cases h9 : (lastN f).op == 9 && (lastN f).i == a
          · rw [h9, cond_false] at hr
            cases h10 : ((lastN f).op == 10 && (lastN f).i == a) || ((lastN f).op == 4 && ((innerN f).op == 9 && (innerN f).i == a))
            · rw [h10] at hr; cases hr
            · rw [h10, cond_true, Bool.and_eq_true] at hr
              have e9 : ((lastN f').op == 9 && (lastN f').i == a) = false ∧ (((lastN f').op == 10 && (lastN f').i == a) || ((lastN f').op == 4 && ((innerN f').op == 9 && (innerN f').i == a))) = true := by
                rw [Bool.or_eq_true] at h10
                rcases h10 with h10 | h4
                · simp only [Bool.and_eq_true, beq_iff_eq] at h10
                  obtain ⟨g1, g2, _⟩ := rel_one c.good (.inr (.inr rfl)) q h10.1
                  rw [g1, g2, h10.2]
                  simp
                · simp only [Bool.and_eq_true, beq_iff_eq] at h4
                  obtain ⟨h4, h5, h6⟩ := h4
                  obtain ⟨g1, _⟩ := rel_one c.good (.inl rfl) q h4
                  obtain ⟨g2, g3⟩ := rel_inner c.good q h4 h5
                  rw [g1, g2, g3, h6]
                  simp
              rw [e9.1, e9.2, cond_false, cond_true, Bool.and_eq_true]
              exact ⟨hr.1, rel_eqN q hf hr.2⟩
          · rw [h9, cond_true, Bool.or_eq_true] at hr
            simp only [Bool.and_eq_true, beq_iff_eq] at h9
            obtain ⟨g1, g2, g3, _⟩ := rel_one c.good (.inr (.inl rfl)) q h9.1
            rw [g1, g2, h9.2, beq_self_eq_true, beq_self_eq_true]
            show (_ || _) = true
            rw [Bool.or_eq_true]
            refine hr.imp (rel_eqN g3 hf) fun h => ?_
            rw [Bool.and_eq_true] at h ⊢
            exact ⟨h.1, rel_eqN q hf h.2⟩
        · cases hr
  | 15, hr =>
    replace hr : knowTL lg ls FS ST i n fi = true := hr
    show knowTL lg ls' FS' ST i n' fi' = true
    unfold knowTL at hr ⊢
    split at hr
    · cases hr
    · rename_i x hx
      obtain ⟨x', e, r⟩ := orel_some one hx
      rw [e]
      simp only
      cases hl : inL [2, 4, 6] lg
      · rw [hl] at hr; cases hr
      · rw [hl, cond_true] at hr
        rw [cond_true]
        split at hr
        · cases hr
        · rename_i s hp
          unfold partL at hp ⊢
          cases e9 : (lastN x).op == 9
          · rw [e9] at hp; cases hp
          · rw [e9] at hp
            injection hp with hp
            obtain ⟨g1, g2, g3, _⟩ := rel_one c.good (.inr (.inl rfl)) r (by simpa using e9)
            rw [g1]
            subst hp
            exact rel_eqN g3 hf hr
  | 16, hr =>
    replace hr : dualL lg ls FS ST i n fi = true := hr
    show dualL lg ls' FS' ST i n' fi' = true
    unfold dualL at hr ⊢
    split at hr
    · cases hr
    · rename_i x hx
      obtain ⟨x', e, r⟩ := orel_some one hx
      rw [e]
      simp only [Bool.or_eq_true] at hr ⊢
      exact hr.imp (dual_rel c.good r hf) (dual_rel c.good hf r)
  | 17, hr =>
    replace hr : serialL lg ls FS ST i n fi = true := hr
    show serialL lg ls' FS' ST i n' fi' = true
    unfold serialL at hr ⊢
    split at hr
    · cases hr
    · rename_i x hx
      obtain ⟨x', e, r⟩ := orel_some one hx
      rw [e]
      simp only
      cases hl : inL [1, 5] lg
      · rw [hl] at hr; cases hr
      · rw [hl, cond_true, Bool.and_eq_true, beq_iff_eq] at hr
        obtain ⟨g1, g2, g3, g4⟩ := rel_one c.good (.inr (.inl rfl)) r hr.1
        rw [cond_true, g1, g2, Bool.and_eq_true]
        exact ⟨rfl, rel_poss (g4 (by decide)) g3 hf hr.2⟩
  | k + 18, hr => cases (show false = true from hr)
end
end Go.Proofs.YtohoddkcpfamlaaDoor

/- A proof by natural deduction behind a replacement of its facts: the whole proof. Plain. -/

namespace Go.Proofs.YtohoddkcpfamlaaDoor
open Go.RowKit

theorem follows_rel {σ : Int → Option Tr} {ls ls' : List Ln} {FS FS' : List (List Nd)} {ST : List (List Int)} {i : Nat} (c : SubCtx σ ls ls' FS FS' i) {fi fi' : List Nd} (hf : RelS σ fi fi') {n n' : Ln} (hn : n'.from_ = n.from_) (hr : n'.rule = n.rule) (ha : n'.agent = n.agent) {lg : Int}
    (h : followsL lg ls FS ST i n fi = true) : followsL lg ls' FS' ST i n' fi' = true := by
  unfold followsL at h ⊢
  rw [hn, hr, ha]
  cases h2 : n.rule == 2
  · rw [h2, cond_false] at h
    rw [cond_false]
    cases h0 : n.agent != 0
    · rw [h0, cond_false] at h
      rw [cond_false]
      cases h1 : n.rule == 1
      · rw [h1, cond_false] at h
        rw [cond_false]
        unfold folTab at h ⊢
        rw [hr]
        cases e : decide (3 ≤ n.rule) && decide (n.rule ≤ 20)
        · rw [e] at h; cases h
        · rw [e] at h
          exact rule_rel c hf hn _ h
      · rw [h1] at h; exact h
    · rw [h0] at h; cases h
  · rw [h2, cond_true] at h
    rw [cond_true]
    rw [Bool.and_eq_true] at h ⊢
    exact ⟨h.1, rel_eqN hf rel_true h.2⟩
/-- A line and what comes of it. -/
structure SubLn (σ : Int → Option Tr) (n n' : Ln) : Prop where
  depth : n'.depth = n.depth
  rule : n'.rule = n.rule
  agent : n'.agent = n.agent
  from_ : n'.from_ = n.from_
  f : RelS σ (compactN n.f) n'.f
theorem rel_comp {σ : Int → Option Tr} {f g : List Nd} (h : RelS σ f g) : check g = 0 ∧ decide (2 ≤ fragsN g) = false ∧ compactN g = g := by
  obtain ⟨t, _, _, a3, a4⟩ := h
  exact ⟨a3.ck, a3.frags, by rw [a3.comp, ← a4]⟩
theorem sub_at {σ : Int → Option Tr} {ls ls' : List Ln} (hl : ls'.length = ls.length) (h : ∀ (k : Nat) (n n' : Ln), ls[k]? = some n → ls'[k]? = some n' → SubLn σ n n') : SimL ls ls' := by
  have key : ∀ k : Int, (lineAt ls' k).rule = (lineAt ls k).rule ∧ (lineAt ls' k).agent = (lineAt ls k).agent := fun k => by
    unfold lineAt
    rw [List.getD_eq_getElem?_getD, List.getD_eq_getElem?_getD]
    by_cases hk : k.toNat < ls.length
    · have e1 : ls[k.toNat]? = some ls[k.toNat] := List.getElem?_eq_getElem hk
      have e2 : ls'[k.toNat]? = some (ls'[k.toNat]'(by omega)) := List.getElem?_eq_getElem (by omega)
      have := h _ _ _ e1 e2
      rw [e1, e2]
      exact ⟨this.rule, this.agent⟩
    · rw [List.getElem?_eq_none (by omega), List.getElem?_eq_none (by omega)]
      exact ⟨rfl, rfl⟩
  exact ⟨hl, fun k => (key k).1, fun k => (key k).2⟩
structure SInv (σ : Int → Option Tr) (ls : List Ln) (fs fs' : List (List Nd)) (st : List (List Int)) (i : Nat) : Prop where
  fl : fs.length = i
  fl' : fs'.length = i
  sl : st.length = i
  rel : ∀ k, k < i → RelS σ (fs.getD k []) (fs'.getD k [])
  ag : ∀ k : Nat, k < i → 0 ≤ (lineAt ls k).agent ∧ (lineAt ls k).agent < 4
theorem getD_appL' {α : Type} {l t : List α} {k : Nat} {d : α} (h : k < l.length) : (l ++ t).getD k d = l.getD k d := by
  rw [List.getD_eq_getElem?_getD, List.getD_eq_getElem?_getD, List.getElem?_append_left h]
theorem getD_appR' {α : Type} {l : List α} {x d : α} {k : Nat} (h : l.length = k) : (l ++ [x]).getD k d = x := by
  subst h
  rw [List.getD_eq_getElem?_getD, List.getElem?_append_right (Nat.le_refl _), Nat.sub_self]; rfl
theorem go_sub {σ : Int → Option Tr} (hσ : GoodS σ) {lg : Int} {ls ls' : List Ln} (hl : ls'.length = ls.length) (h : ∀ (k : Nat) (n n' : Ln), ls[k]? = some n → ls'[k]? = some n' → check n.f = 0 → fragsN n.f < 2 → SubLn σ n n')
    (hs : SimL ls ls') : ∀ (k i : Nat) (fs fs' : List (List Nd)) (st : List (List Int)), i + k = ls.length → SInv σ ls fs fs' st i → (chkGo lg ls (ls.drop i) fs st i).2 = 0 → (chkGo lg ls' (ls'.drop i) fs' st i).2 = 0
  | 0, i, fs, fs', st, hk, hI, _ => by
    rw [List.drop_of_length_le (by omega)]; rfl
  | k + 1, i, fs, fs', st, hk, hI, hg => by
    have hil : i < ls.length := by omega
    have hil' : i < ls'.length := by omega
    obtain ⟨n, hn⟩ : ∃ n, ls[i]? = some n := ⟨_, List.getElem?_eq_getElem hil⟩
    obtain ⟨n', hn'⟩ : ∃ n, ls'[i]? = some n := ⟨_, List.getElem?_eq_getElem hil'⟩
    rw [chkGo_step hn] at hg
    rw [chkGo_step hn']
    unfold chkGo at hg ⊢
    cases e1 : check n.f != 0
    · rw [e1, cond_false] at hg
      cases e2 : decide (2 ≤ fragsN n.f)
      · rw [e2, cond_false] at hg
        have q := h i n n' hn hn' (by simpa using e1) (by have := of_decide_eq_false e2; omega)
        obtain ⟨c1, c2, c3⟩ := rel_comp q.f
        rw [c1, c2, c3, show ((0 : Int) != 0) = false from rfl, cond_false, cond_false]
        have hp' : pushL st n' = pushL st n := by unfold pushL opensL; rw [q.depth, q.rule]
        rw [hp']
        cases hp : pushL st n with
        | none => rw [hp] at hg; cases hg
        | some s =>
          rw [hp] at hg
          simp only at hg ⊢
          rw [q.agent]
          cases e3 : decide (n.agent < 0) || decide (4 ≤ n.agent)
          · rw [e3, cond_false] at hg
            rw [cond_false]
            have hla : lineAt ls i = n := by unfold lineAt; rw [Int.toNat_natCast, List.getD_eq_getElem?_getD, hn]; rfl
            have ha : 0 ≤ n.agent ∧ n.agent < 4 := by
              rw [Bool.or_eq_false_iff] at e3
              have a1 := of_decide_eq_false e3.1
              have a2 := of_decide_eq_false e3.2
              omega
            have hrel : ∀ j, j < i + 1 → RelS σ ((fs ++ [compactN n.f]).getD j []) ((fs' ++ [n'.f]).getD j []) := fun j hj => by
              by_cases e : j < i
              · rw [getD_appL' (by have := hI.fl; omega), getD_appL' (by have := hI.fl'; omega)]; exact hI.rel j e
              · obtain rfl : j = i := by omega
                rw [getD_appR' hI.fl, getD_appR' hI.fl']; exact q.f
            have hag : ∀ j : Nat, j < i + 1 → 0 ≤ (lineAt ls j).agent ∧ (lineAt ls j).agent < 4 := fun j hj => by
              by_cases e : j < i
              · exact hI.ag j e
              · obtain rfl : j = i := by omega
                rw [hla]; exact ha
            have ctx : SubCtx σ ls ls' (fs ++ [compactN n.f]) (fs' ++ [n'.f]) i := ⟨hσ, hs, hrel, hag⟩
            cases e4 : followsL lg ls (fs ++ [compactN n.f]) (st ++ [s]) i n (compactN n.f)
            · rw [e4] at hg; cases hg
            · rw [e4, cond_true] at hg
              rw [follows_rel ctx q.f q.from_ q.rule q.agent e4, cond_true]
              exact go_sub hσ hl h hs k (i + 1) _ _ _ (by omega) ⟨by rw [List.length_append, hI.fl]; rfl, by rw [List.length_append, hI.fl']; rfl, by rw [List.length_append, hI.sl]; rfl, hrel, hag⟩ hg
          · rw [e3] at hg; cases hg
      · rw [e2] at hg; cases hg
    · rw [e1, cond_true] at hg
      rw [show check n.f = 0 from hg] at e1; cases e1
/-- The lines of an accepted proof are formulas of the fragment. -/
theorem go_frag {lg : Int} {ls : List Ln} : ∀ (k i : Nat) (fs : List (List Nd)) (st : List (List Int)), i + k = ls.length → (chkGo lg ls (ls.drop i) fs st i).2 = 0 → ∀ (j : Nat) (n : Ln), i ≤ j → ls[j]? = some n → check n.f = 0 ∧ fragsN n.f < 2
  | 0, i, fs, st, hk, _, j, n, hij, hn => by
    have := (List.getElem?_eq_some_iff.1 hn).1
    omega
  | k + 1, i, fs, st, hk, hg, j, m, hij, hm => by
    have hil : i < ls.length := by omega
    obtain ⟨n, hn⟩ : ∃ n, ls[i]? = some n := ⟨_, List.getElem?_eq_getElem hil⟩
    rw [chkGo_step hn] at hg
    unfold chkGo at hg
    cases e1 : check n.f != 0
    · rw [e1, cond_false] at hg
      cases e2 : decide (2 ≤ fragsN n.f)
      · rw [e2, cond_false] at hg
        cases hp : pushL st n with
        | none => rw [hp] at hg; cases hg
        | some s =>
          rw [hp] at hg
          simp only at hg
          cases e3 : decide (n.agent < 0) || decide (4 ≤ n.agent)
          · rw [e3, cond_false] at hg
            cases e4 : followsL lg ls (fs ++ [compactN n.f]) (st ++ [s]) i n (compactN n.f)
            · rw [e4] at hg; cases hg
            · rw [e4, cond_true] at hg
              by_cases e : j = i
              · subst e
                rw [hn] at hm
                injection hm with hm
                subst hm
                exact ⟨by simpa using e1, by have := of_decide_eq_false e2; omega⟩
              · exact go_frag k (i + 1) _ _ (by omega) hg j m (by omega) hm
          · rw [e3] at hg; cases hg
      · rw [e2] at hg; cases hg
    · rw [e1, cond_true] at hg
      rw [show check n.f = 0 from hg] at e1; cases e1
theorem thm_parts {lg : Int} {ls : List Ln} (h : (natTheorem lg ls).2 = 0) : (natCheck lg ls).2 = 0 ∧ (lastLn ls).depth = 0 ∧ (natTheorem lg ls).1 = compactN (lastLn ls).f ∧ (0 ≤ lg ∧ lg ≤ 6) ∧ (0 < ls.length ∧ ls.length ≤ 400) ∧ (chkGo lg ls ls [] [] 0).2 = 0 := by
  unfold natTheorem at h ⊢
  cases e1 : (natCheck lg ls).2 != 0
  · rw [e1, cond_false] at h
    cases e2 : (lastLn ls).depth != 0
    · have hck : (natCheck lg ls).2 = 0 := by simpa using e1
      have hck2 := hck
      unfold natCheck at hck
      cases b1 : (decide (lg < 0) || decide (6 < lg))
      · rw [b1, cond_false] at hck
        cases b2 : decide (400 < ls.length)
        · rw [b2, cond_false] at hck
          cases b3 : decide (ls.length = 0)
          · rw [b3, cond_false] at hck
            rw [Bool.or_eq_false_iff] at b1
            have c1 := of_decide_eq_false b1.1
            have c2 := of_decide_eq_false b1.2
            have c3 := of_decide_eq_false b2
            have c4 := of_decide_eq_false b3
            exact ⟨hck2, by simpa using e2, rfl, ⟨by omega, by omega⟩, ⟨by omega, by omega⟩, hck⟩
          · rw [b3] at hck; cases hck
        · rw [b2] at hck; cases hck
      · rw [b1] at hck; cases hck
    · rw [e2] at h; cases h
  · rw [e1, cond_true] at h
    rw [h] at e1; cases e1
theorem thm_frag {lg : Int} {ls : List Ln} (h : (natTheorem lg ls).2 = 0) {k : Nat} {n : Ln} (hn : ls[k]? = some n) : check n.f = 0 ∧ fragsN n.f < 2 :=
  go_frag (lg := lg) (ls := ls) ls.length 0 [] [] (Nat.zero_add _) (by rw [List.drop_zero]; exact (thm_parts h).2.2.2.2.2) k n (Nat.zero_le _) hn
/-- What comes of an accepted proof is an accepted proof of what comes of its formula. -/
theorem thm_sub {σ : Int → Option Tr} (hσ : GoodS σ) {lg : Int} {ls ls' : List Ln} (hl : ls'.length = ls.length) (h : ∀ (k : Nat) (n n' : Ln), ls[k]? = some n → ls'[k]? = some n' → SubLn σ n n') (ht : (natTheorem lg ls).2 = 0) :
    ∀ g, RelS σ (natTheorem lg ls).1 g → provesL lg ls' g = true := by
  intro g hg
  obtain ⟨h1, h2, h3, h4, h5, h6⟩ := thm_parts ht
  have hgo := go_sub hσ (lg := lg) hl (fun k n n' a b _ _ => h k n n' a b) (sub_at hl h) ls.length 0 [] [] [] (Nat.zero_add _) ⟨rfl, rfl, rfl, fun k hk => absurd hk (Nat.not_lt_zero _), fun k hk => absurd hk (Nat.not_lt_zero _)⟩ (by rw [List.drop_zero]; exact h6)
  rw [List.drop_zero] at hgo
  have e1 := lastLn_get h5.1
  have e2 := lastLn_get (ls := ls') (by omega)
  rw [hl] at e2
  have q := h _ _ _ e1 e2
  have hck : (natCheck lg ls').2 = 0 := by
    unfold natCheck
    rw [show (decide (lg < 0) || decide (6 < lg)) = false by simp; omega, cond_false, decide_eq_false (by omega), cond_false, decide_eq_false (by omega), cond_false]
    exact hgo
  have hth : natTheorem lg ls' = ((lastLn ls').f, 0) := by
    unfold natTheorem
    rw [hck, q.depth, h2, (rel_comp q.f).2.2]
    rfl
  rw [h3] at hg
  have e := rel_inj hg q.f
  unfold provesL
  rw [hth, e]
  simp only [beq_self_eq_true, Bool.true_and]
  unfold sameN
  rw [(rel_comp q.f).1]
  simp
end Go.Proofs.YtohoddkcpfamlaaDoor

/- Canonical lists: what the constructors come to at leaves; a node with other operands. -/

namespace Go.Proofs.YtohoddkcpfamlaaDoor

/-- Nothing, or the list of a tree. -/
def Can (l : List Nd) : Prop := l = [] ∨ ∃ t : Tr, t.ok ∧ l = canon t
theorem canon_leaf (n : Nd) : canon (.leaf n) = [n] := by simp [canon, ins, addN]
theorem build_zero {n : Nd} (h1 : hasX n.op = false) (h2 : hasY n.op = false) (hh : headOk n) : nodeErr n 0 = 0 ∧ buildN n [] = [n] := by
  have herr : nodeErr n 0 = 0 := hh.err (a := 0) (fun h => by rw [h1] at h; cases h) (fun h => by rw [h2] at h; cases h)
  refine ⟨herr, ?_⟩
  have hw : Wf ([] ++ [n]) := wf_snoc wf_nil (fun h => by rw [h1] at h; cases h) (fun h => by rw [h2] at h; cases h)
  have hfin : (finN ([] ++ [n]) ([] : List Nd).length []).1 = [n] := by
    rw [finN_ins hw _ _ (by simp), tr_eq hw (n := n) (by simp)]
    unfold mkTr
    rw [h1, h2]
    exact canon_leaf n
  unfold buildN
  show joinN [] n = [n]
  unfold joinN
  have e : nodeErr n (([] : List Nd).length : Int) = 0 := herr
  simp only [hfin, e]
  rfl
/-- A node with its operands in other lists. -/
def rebuildN (x : Nd) (a b : List Nd) : List Nd :=
  bif hasY x.op then buildN { x with x := 0, y := 0 } [a, b] else bif hasX x.op then buildN { x with x := 0, y := 0 } [a] else [{ x with x := 0, y := 0 }]
end Go.Proofs.YtohoddkcpfamlaaDoor

/- rewrite.Subst as a Lean function of lists, and its trees. Plain. -/

namespace Go.Proofs.YtohoddkcpfamlaaDoor
open Go.RowKit

/-- rewrite.build at the operators of the fragment. -/
def bldN (n : Nd) (a b : List Nd) : List Nd :=
  bif n.op == 1 then trueN else bif n.op == 2 then falseN else bif n.op == 3 then factN n.i else bif n.op == 4 then notN a else bif n.op == 5 then andN a b else bif n.op == 6 then orN a b
  else bif n.op == 7 then impN a b else bif n.op == 8 then iffN a b else bif n.op == 9 then knowN n.i a else possN n.i a
def ruleS (tl : List (List Nd)) (n : Nd) (a b : List Nd) : List Nd := bif n.op == 3 && decide (n.i < tl.length) then compactN (tl.getD n.i.toNat []) else bldN n a b
def argX (D : List (List Nd)) (n : Nd) : List Nd := bif decide (4 ≤ n.op) then D.getD n.x.toNat [] else []
def argY (D : List (List Nd)) (n : Nd) : List Nd := bif hasY n.op then D.getD n.y.toNat [] else []
def upGo (tl : List (List Nd)) : List Nd → List (List Nd) → Option (List (List Nd))
  | [], D => some D
  | n :: r, D => bif decide ((ruleS tl n (argX D n) (argY D n)).length = 0) then none else upGo tl r (D ++ [ruleS tl n (argX D n) (argY D n)])
def substN (tl : List (List Nd)) (f : List Nd) : List Nd × Int :=
  match upGo tl (compactN f) [] with
  | none => ([], 8)
  | some D => (D.getD ((compactN f).length - 1) [], 0)
/-- The trees for the facts. -/
def sigT (tl : List (List Nd)) (i : Int) : Option Tr := bif decide (0 ≤ i) && decide (i < tl.length) then some (treeOf (tl.getD i.toNat [])) else none
def ToOk (tl : List (List Nd)) : Prop := ∀ g ∈ tl, check g = 0 ∧ fragsN g < 2
theorem getD_mem' {tl : List (List Nd)} {k : Nat} (h : k < tl.length) : tl.getD k [] ∈ tl := by
  rw [List.getD_eq_getElem?_getD, List.getElem?_eq_getElem h]
  exact List.getElem_mem _
theorem sig_good {tl : List (List Nd)} (h : ToOk tl) : GoodS (sigT tl) := by
  intro i t e
  unfold sigT at e
  cases hb : decide (0 ≤ i) && decide (i < tl.length)
  · rw [hb] at e; cases e
  · rw [hb] at e
    injection e with e
    rw [Bool.and_eq_true] at hb
    have h1 := of_decide_eq_true hb.1
    have h2 := of_decide_eq_true hb.2
    obtain ⟨hc, hf⟩ := h _ (getD_mem' (tl := tl) (k := i.toNat) (by omega))
    have fo := fo_of (N := 200) hc (by have := (check_parts hc).2.1; omega) hf
    rw [← e]
    exact ⟨fo.ok, fo.all⟩
theorem pn_ten {n : Nd} (h : Pn n) : n.op = 1 ∨ n.op = 2 ∨ n.op = 3 ∨ n.op = 4 ∨ n.op = 5 ∨ n.op = 6 ∨ n.op = 7 ∨ n.op = 8 ∨ n.op = 9 ∨ n.op = 10 := op_ten h.1.1 h.2
theorem pn_head {n : Nd} (h : Pn n) : n.head = ⟨n.op, n.i, 0, 0, 0, 0⟩ ∧ (n.op ≠ 3 → n.op ≠ 9 → n.op ≠ 10 → n.i = 0) ∧ (n.op = 3 → 0 ≤ n.i) := by
  obtain ⟨_, h2, h3, h4, h5⟩ := h.1
  have ht := pn_ten h
  obtain ⟨o, i, e, g, x, y⟩ := n
  simp only at ht h2 h3 h4 h5 ⊢
  rcases ht with rfl | rfl | rfl | rfl | rfl | rfl | rfl | rfl | rfl | rfl <;>
    simp [formBad, rangeBad, outsideB, hasFact, hasAgent, hasEvent, hasGroup, hasX, hasY, Nd.head, Nd.with_] at h2 h3 h4 h5 ⊢ <;> omega
theorem leaf_head {n : Nd} (h1 : hasX n.op = false) (h2 : hasY n.op = false) : n.head = n := by
  unfold Nd.head
  exact with_leaf h1 h2 0 0
theorem bld_can {n : Nd} (hp : Pn n) {a b : List Nd} {ta tb : Tr} (ha : hasX n.op = true → Fo 200 ta a) (hb : hasY n.op = true → Fo 200 tb b) : bldN n a b = shortT (mkTr n ta tb) := by
  obtain ⟨e1, e2, _⟩ := pn_head hp
  have two : ∀ op : Int, n.op = op → hasX op = true → hasY op = true → op ≠ 3 → op ≠ 9 → op ≠ 10 → buildN ⟨op, 0, 0, 0, 0, 0⟩ [a, b] = shortT (mkTr n ta tb) := fun op ho h1 h2 h3 h9 h10 => by
    have hi := e2 (by omega) (by omega) (by omega)
    have hA := ha (by rw [ho]; exact h1)
    have hB := hb (by rw [ho]; exact h2)
    have hh : headOk n.head := hp.1.with_ 0 0
    have e : n.head = ⟨op, 0, 0, 0, 0, 0⟩ := by rw [e1, hi, ho]
    rw [e] at hh
    have eh : (⟨op, 0, 0, 0, 0, 0⟩ : Nd).head = ⟨op, 0, 0, 0, 0, 0⟩ := by rw [← e, head_head]
    rw [build_twoS hA.ck hB.ck h1 h2 hh, hA.tree, hB.tree, eh]
    unfold mkTr
    rw [ho, h2, e]; rfl
  have one : ∀ (op i : Int), n.op = op → n.i = i → hasX op = true → hasY op = false → buildN ⟨op, i, 0, 0, 0, 0⟩ [a] = shortT (mkTr n ta tb) := fun op i ho hi h1 h2 => by
    have hA := ha (by rw [ho]; exact h1)
    have hh : headOk n.head := hp.1.with_ 0 0
    have e : n.head = ⟨op, i, 0, 0, 0, 0⟩ := by rw [e1, hi, ho]
    rw [e] at hh
    have eh : (⟨op, i, 0, 0, 0, 0⟩ : Nd).head = ⟨op, i, 0, 0, 0, 0⟩ := by rw [← e, head_head]
    rw [build_oneS hA.ck h1 h2 hh, hA.tree, eh]
    unfold mkTr
    rw [ho, h2, h1, e]; rfl
  have zero : ∀ (op i : Int), n.op = op → n.i = i → hasX op = false → hasY op = false → buildN ⟨op, i, 0, 0, 0, 0⟩ [] = shortT (mkTr n ta tb) := fun op i ho hi h1 h2 => by
    have e : n = ⟨op, i, 0, 0, 0, 0⟩ := by rw [← leaf_head (n := n) (by rw [ho]; exact h1) (by rw [ho]; exact h2), e1, hi, ho]
    have hh := hp.1
    rw [← e, (build_zero (n := n) (by rw [ho]; exact h1) (by rw [ho]; exact h2) hh).2]
    unfold mkTr
    rw [ho, h2, h1]
    rw [short_fit (by rw [cond_false, cond_false, canon_leaf]; simp), cond_false, cond_false, canon_leaf]
  unfold bldN
  rcases pn_ten hp with h | h | h | h | h | h | h | h | h | h
  · rw [h]; exact zero 1 0 h (e2 (by omega) (by omega) (by omega)) rfl rfl
  · rw [h]; exact zero 2 0 h (e2 (by omega) (by omega) (by omega)) rfl rfl
  · rw [h]; exact zero 3 n.i h rfl rfl rfl
  · rw [h]; exact one 4 0 h (e2 (by omega) (by omega) (by omega)) rfl rfl
  · rw [h]; exact two 5 h rfl rfl (by decide) (by decide) (by decide)
  · rw [h]; exact two 6 h rfl rfl (by decide) (by decide) (by decide)
  · rw [h]; exact two 7 h rfl rfl (by decide) (by decide) (by decide)
  · rw [h]; exact two 8 h rfl rfl (by decide) (by decide) (by decide)
  · rw [h]; exact one 9 n.i h rfl rfl rfl
  · rw [h]; exact one 10 n.i h rfl rfl rfl
structure DInv (σ : Int → Option Tr) (c : List Nd) (D : List (List Nd)) (k : Nat) : Prop where
  len : D.length = k
  at_ : ∀ j, j < k → Fo 200 (subT σ (tr c j)) (D.getD j []) ∧ D.getD j [] = canon (subT σ (tr c j))
theorem fo_compact {g : List Nd} (hc : check g = 0) (hf : fragsN g < 2) : Fo 200 (treeOf g) (compactN g) ∧ compactN g = canon (treeOf g) := by
  have fo := fo_of (N := 200) hc (by have := (check_parts hc).2.1; omega) hf
  refine ⟨?_, compactN_tree hc⟩
  rw [compactN_tree hc]
  exact fo_canon fo.ok fo.all fo.clen (Nat.le_refl _)
theorem rule_is {tl : List (List Nd)} (hto : ToOk tl) {c : List Nd} (hw : Wf c) (hp : ∀ n ∈ c, Pn n) {k : Nat} {n : Nd} (hn : c[k]? = some n) {D : List (List Nd)} (hD : DInv (sigT tl) c D k) (hne : ¬ (ruleS tl n (argX D n) (argY D n)).length = 0) :
    Fo 200 (subT (sigT tl) (tr c k)) (ruleS tl n (argX D n) (argY D n)) ∧ ruleS tl n (argX D n) (argY D n) = canon (subT (sigT tl) (tr c k)) := by
  have hkl := (List.getElem?_eq_some_iff.1 hn).1
  have hpn := hp n (List.mem_of_getElem? hn)
  obtain ⟨_, _, e3⟩ := pn_head hpn
  obtain ⟨wx, wy⟩ := hw k n hn
  have ok := tr_ok hw k hkl
  have al := tr_all Pn.with_ hw hp k hkl
  have hσ := sig_good hto
  have ok' := subT_ok hσ _ ok
  have al' := subT_all hσ _ al
  rw [tr_eq hw hn] at ok' al' ⊢
  unfold ruleS at hne ⊢
  cases hb : n.op == 3 && decide (n.i < tl.length)
  · rw [hb, cond_false] at hne
    rw [cond_false]
    have et : subT (sigT tl) (mkTr n (tr c n.x.toNat) (tr c n.y.toNat)) = mkTr n (subT (sigT tl) (tr c n.x.toNat)) (subT (sigT tl) (tr c n.y.toNat)) := by
      unfold mkTr
      cases hasY n.op
      · cases hasX n.op
        · rw [cond_false, cond_false, cond_false, cond_false]
          unfold subT
          cases e : n.op == 3
          · rfl
          · rw [e, Bool.true_and] at hb
            rw [cond_true]
            unfold sigT
            rw [hb, Bool.and_false]; rfl
        · rfl
      · rfl
    have eX : hasX n.op = true → Fo 200 (subT (sigT tl) (tr c n.x.toNat)) (argX D n) := fun h => by
      obtain ⟨h0, h1⟩ := wx h
      have h4 : decide (4 ≤ n.op) = true := by
        rcases pn_ten hpn with e | e | e | e | e | e | e | e | e | e <;> rw [e] at h ⊢ <;> first | rfl | exact absurd h (by decide)
      unfold argX
      rw [h4, cond_true]
      exact (hD.at_ _ (by omega)).1
    have eY : hasY n.op = true → Fo 200 (subT (sigT tl) (tr c n.y.toNat)) (argY D n) := fun h => by
      obtain ⟨h0, h1⟩ := wy h
      unfold argY
      rw [h, cond_true]
      exact (hD.at_ _ (by omega)).1
    have eb := bld_can hpn eX eY
    rw [et] at ok' al' ⊢
    rw [eb] at hne ⊢
    have hl : (canon (mkTr n (subT (sigT tl) (tr c n.x.toNat)) (subT (sigT tl) (tr c n.y.toNat)))).length ≤ 200 := by
      refine Classical.byContradiction fun hh => hne ?_
      rw [short_long (by omega)]; rfl
    rw [short_fit hl]
    exact ⟨fo_canon ok' al' hl (Nat.le_refl _), rfl⟩
  · rw [cond_true]
    rw [Bool.and_eq_true, beq_iff_eq] at hb
    have h2 := of_decide_eq_true hb.2
    have h0 := e3 hb.1
    obtain ⟨hc, hf⟩ := hto _ (getD_mem' (tl := tl) (k := n.i.toNat) (by omega))
    have et : subT (sigT tl) (mkTr n (tr c n.x.toNat) (tr c n.y.toNat)) = treeOf (tl.getD n.i.toNat []) := by
      unfold mkTr
      rw [hb.1]
      show subT (sigT tl) (.leaf n) = _
      unfold subT
      rw [hb.1]
      unfold sigT
      rw [decide_eq_true h0, hb.2]; rfl
    rw [et]
    exact fo_compact hc hf
theorem up_is {tl : List (List Nd)} (hto : ToOk tl) {c : List Nd} (hw : Wf c) (hp : ∀ n ∈ c, Pn n) : ∀ (m k : Nat) (D E : List (List Nd)), k + m = c.length → DInv (sigT tl) c D k → upGo tl (c.drop k) D = some E → DInv (sigT tl) c E c.length
  | 0, k, D, E, hk, hD, he => by
    rw [List.drop_of_length_le (by omega)] at he
    injection he with he
    rw [← he, ← hk]; exact hD
  | m + 1, k, D, E, hk, hD, he => by
    have hkl : k < c.length := by omega
    have hn : c[k]? = some c[k] := List.getElem?_eq_getElem hkl
    rw [List.drop_eq_getElem_cons hkl] at he
    unfold upGo at he
    cases hz : decide ((ruleS tl c[k] (argX D c[k]) (argY D c[k])).length = 0)
    · rw [hz, cond_false] at he
      have r := rule_is hto hw hp hn hD (of_decide_eq_false hz)
      refine up_is hto hw hp m (k + 1) _ E (by omega) ⟨by rw [List.length_append, hD.len]; rfl, fun j hj => ?_⟩ he
      by_cases e : j < k
      · rw [List.getD_eq_getElem?_getD, List.getElem?_append_left (by rw [hD.len]; exact e), ← List.getD_eq_getElem?_getD]
        exact hD.at_ j e
      · obtain rfl : j = k := by omega
        rw [List.getD_eq_getElem?_getD, List.getElem?_append_right (by rw [hD.len]; exact Nat.le_refl _), hD.len, Nat.sub_self]
        exact r
    · rw [hz] at he; cases he
/-- What Subst returns: what comes of the formula, or the error of a long one. -/
theorem subst_rel {tl : List (List Nd)} (hto : ToOk tl) {f : List Nd} (hc : check f = 0) (hf : fragsN f < 2) : ((substN tl f).2 = 0 ∧ RelS (sigT tl) (compactN f) (substN tl f).1) ∨ substN tl f = ([], 8) := by
  obtain ⟨fo, ec⟩ := fo_compact hc hf
  have hcw := check_wf fo.ck
  have hpn : ∀ n ∈ compactN f, Pn n := by
    intro n hn
    rw [ec] at hn
    exact ins_all Pn.with_ _ [] fo.all (fun n hn => by cases hn) n hn
  unfold substN
  cases he : upGo tl (compactN f) [] with
  | none => exact .inr rfl
  | some E =>
    refine .inl ⟨rfl, ?_⟩
    have hD := up_is hto hcw hpn (compactN f).length 0 [] E (Nat.zero_add _) ⟨rfl, fun j hj => absurd hj (Nat.not_lt_zero _)⟩ (by rw [List.drop_zero]; exact he)
    have hl := (check_parts fo.ck).1
    obtain ⟨a1, a2⟩ := hD.at_ ((compactN f).length - 1) (by omega)
    have et : tr (compactN f) ((compactN f).length - 1) = treeOf f := fo.tree
    rw [et] at a1 a2
    exact ⟨treeOf f, fo, ec, a1, a2⟩
end Go.Proofs.YtohoddkcpfamlaaDoor

/- The proof that NaturalSubstitutes makes, in memory; and what the law needs of lists. -/

namespace Go.Proofs.YtohoddkcpfamlaaDoor
open Go.RowKit

/-- A value's block is neither the proof's block nor its row. -/
def Ap (w : World) (b : Nat) (vq u : Value) : Prop := ∀ g, u.ownBlock = some g → g < w.heap.size ∧ g ≠ b ∧ vq.ownBlock ≠ some g
theorem Ap.ext {w w' : World} {b : Nat} {vq u : Value} (h : Ap w b vq u) (he : Ext w w') : Ap w' b vq u := fun g hg => by
  obtain ⟨a, c, d⟩ := h g hg
  exact ⟨Nat.lt_of_lt_of_le a he.size, c, d⟩
/-- A line in the cells of a row. -/
def LnC (w : World) (b : Nat) (vq : Value) (cs : List Value) (k : Nat) (n : Ln) : Prop :=
  ∃ uf ur, cs[k * 5]? = some (.int .i64 n.depth) ∧ cs[k * 5 + 1]? = some (.int .i64 n.rule) ∧ cs[k * 5 + 2]? = some uf ∧ cs[k * 5 + 3]? = some (.int .i64 n.agent) ∧ cs[k * 5 + 4]? = some ur ∧
    Fml w uf n.f ∧ Ints w ur n.from_ ∧ (n.f = [] ∨ Ap w b vq uf) ∧ (n.from_ = [] ∨ Ap w b vq ur)
theorem LnC.ext {w w' : World} {b : Nat} {vq : Value} {cs : List Value} {k : Nat} {n : Ln} (h : LnC w b vq cs k n) (he : Ext w w') : LnC w' b vq cs k n := by
  obtain ⟨uf, ur, q0, q1, q2, q3, q4, q5, q6, q7, q8⟩ := h
  exact ⟨uf, ur, q0, q1, q2, q3, q4, q5.ext he, q6.ext he, q7.imp id (fun h => h.ext he), q8.imp id (fun h => h.ext he)⟩
theorem fml_keep0 {w w' : World} {b : Nat} {vq u : Value} {f : List Nd} (h : Fml w u f) (h0 : f = [] ∨ Ap w b vq u) (hk : ∀ g, g < w.heap.size → g ≠ b → vq.ownBlock ≠ some g → w'.heap[g]? = w.heap[g]?) (hs : w.heap.size ≤ w'.heap.size) : Fml w' u f := by
  rcases h0 with h0 | h0
  · subst h0
    obtain ⟨⟨A, c, e, h1, h2, _⟩, h4⟩ := h
    exact ⟨⟨A, c, e, h1, h2, fun hn => absurd rfl hn⟩, h4⟩
  · exact h.keep (fun g hg _ => hk g (h0 g hg).1 (h0 g hg).2.1 (h0 g hg).2.2) hs
theorem ints_keep0 {w w' : World} {b : Nat} {vq u : Value} {f : List Int} (h : Ints w u f) (h0 : f = [] ∨ Ap w b vq u) (hk : ∀ g, g < w.heap.size → g ≠ b → vq.ownBlock ≠ some g → w'.heap[g]? = w.heap[g]?) (hs : w.heap.size ≤ w'.heap.size) : Ints w' u f := by
  rcases h0 with h0 | h0
  · subst h0
    obtain ⟨A, c, e, h1, h2, _⟩ := h
    exact ⟨A, c, e, h1, h2, fun hn => absurd rfl hn⟩
  · exact h.keep (fun g hg _ => hk g (h0 g hg).1 (h0 g hg).2.1 (h0 g hg).2.2) hs
structure QSt (w0 w : World) (b : Nat) (lg : Int) (vq : Value) (ls : List Ln) : Prop where
  ext : Ext w0 w
  lo : w0.heap.size ≤ b
  blk : w.heap[b]? = some (.cells #[.int .i64 lg, vq] 24 (0, 0))
  row : ∃ cs, w.ownsRow w0.heap.size 34 5 vq ls.length cs ∧ ∀ (k : Nat) (n : Ln), ls[k]? = some n → LnC w b vq cs k n
  ne : vq.ownBlock ≠ some b
section
variable {w0 w w' W : World} {b : Nat} {lg : Int} {vq : Value} {ls : List Ln}
theorem QSt.first (hx : Ext w0 W) (hb : w0.heap.size ≤ b) (h : W.heap[b]? = some (.cells #[.int .i64 lg, .slice none 0 0] 24 (0, 0))) : QSt w0 W b lg (.slice none 0 0) [] :=
  ⟨hx, hb, h, ⟨[], World.ownsRow_nil _ _ _ _, fun k n hk => by simp at hk⟩, fun e => by cases e⟩
theorem QSt.ext_ (h : QSt w0 w b lg vq ls) (he : Ext w w') : QSt w0 w' b lg vq ls := by
  obtain ⟨cs, hr, hc⟩ := h.row
  refine ⟨h.ext.trans he, h.lo, (he.block (lt_heap h.blk)).trans h.blk, ⟨cs, row_ext hr he, fun k n hk => (hc k n hk).ext he⟩, h.ne⟩
theorem getE_append {α : Type} {l t : List α} {m k j : Nat} {z : α} (hl : l.length = m * 5) (hk : k < m) (h : l[k * 5 + j]? = some z) (hj : j < 5) : (l ++ t)[k * 5 + j]? = some z := by
  rw [List.getElem?_append_left (by omega)]
  exact h
/-- A line noted. -/
theorem QSt.push (h : QSt w0 W b lg vq ls) {w4 : World} {v' uf ur : Value} {n : Ln} {cs : List Value} (hr : W.ownsRow w0.heap.size 34 5 vq ls.length cs) (hc : ∀ (k : Nat) (n : Ln), ls[k]? = some n → LnC W b vq cs k n)
    (hrow : w4.ownsRow w0.heap.size 34 5 v' (ls.length + 1) (cs ++ [.int .i64 n.depth, .int .i64 n.rule, uf, .int .i64 n.agent, ur])) (hg : W.grownBy w4 vq.ownBlock) (hat : v'.ownBlock = vq.ownBlock ∨ v'.ownBlock = some W.heap.size)
    (hf : Fml W uf n.f) (hi : Ints W ur n.from_) (hff : n.f = [] ∨ Ap W b vq uf) (hif : n.from_ = [] ∨ Ap W b vq ur) : QSt w0 (w4.setCell ⟨b, 1, none⟩ v') b lg v' (ls ++ [n]) := by
  have hlen : cs.length = ls.length * 5 := hr.1
  have hbw : b < W.heap.size := lt_heap h.blk
  have hS : W.heap.size ≤ (w4.setCell ⟨b, 1, none⟩ v').heap.size := by rw [size_set]; exact hg.size
  have hvne : v'.ownBlock ≠ some b := fun e => by
    rcases hat with e1 | e1
    · exact h.ne (e1.symm.trans e)
    · rw [e1] at e; injection e with e; omega
  have hkeep : ∀ g, g < W.heap.size → g ≠ b → vq.ownBlock ≠ some g → (w4.setCell ⟨b, 1, none⟩ v').heap[g]? = W.heap[g]? := fun g h1 h2 h3 => kept_of rfl hg h1 h2 h3
  have hap : ∀ u, Ap W b vq u → Ap (w4.setCell ⟨b, 1, none⟩ v') b v' u := fun u hu g hgu => by
    obtain ⟨a, c, d⟩ := hu g hgu
    refine ⟨Nat.lt_of_lt_of_le a hS, c, fun e => ?_⟩
    rcases hat with e1 | e1
    · exact d (e1.symm.trans e)
    · rw [e1] at e; injection e with e; omega
  have hfm : ∀ u f, Fml W u f → (f = [] ∨ Ap W b vq u) → Fml (w4.setCell ⟨b, 1, none⟩ v') u f := fun u f h1 h2 => fml_keep0 h1 h2 hkeep hS
  have him : ∀ u l, Ints W u l → (l = [] ∨ Ap W b vq u) → Ints (w4.setCell ⟨b, 1, none⟩ v') u l := fun u l h1 h2 => ints_keep0 h1 h2 hkeep hS
  refine ⟨ext_set (v := vq) rfl h.ext h.lo hg (fun g hg' => (hr.lt g hg').1), h.lo, ?_, ⟨cs ++ [.int .i64 n.depth, .int .i64 n.rule, uf, .int .i64 n.agent, ur], ?_, fun k m hk => ?_⟩, hvne⟩
  · exact set_second ((hg.block b hbw (fun e => h.ne e.symm)).trans h.blk) v'
  · have e : (ls ++ [n]).length = ls.length + 1 := by simp
    rw [e]
    exact ownsRow_setCell_other hrow hvne _
  · by_cases hk' : k < ls.length
    · rw [List.getElem?_append_left hk'] at hk
      obtain ⟨xf, xr, q0, q1, q2, q3, q4, q5, q6, q7, q8⟩ := hc k m hk
      exact ⟨xf, xr, getE_append (j := 0) hlen hk' q0 (by omega), getE_append hlen hk' q1 (by omega), getE_append hlen hk' q2 (by omega), getE_append hlen hk' q3 (by omega), getE_append hlen hk' q4 (by omega), hfm _ _ q5 q7, him _ _ q6 q8, q7.imp id (hap _), q8.imp id (hap _)⟩
    · rw [List.getElem?_append_right (by omega)] at hk
      have hk0 : k = ls.length := by
        by_cases e : k - ls.length = 0
        · omega
        · rw [List.getElem?_eq_none (by simp; omega)] at hk; cases hk
      subst hk0
      simp at hk
      subst hk
      have hat : ∀ j, j < 5 → (cs ++ [.int .i64 n.depth, .int .i64 n.rule, uf, .int .i64 n.agent, ur])[ls.length * 5 + j]? = [Value.int .i64 n.depth, .int .i64 n.rule, uf, .int .i64 n.agent, ur][j]? := fun j hj => by
        rw [List.getElem?_append_right (by omega), hlen, Nat.add_sub_cancel_left]
      exact ⟨uf, ur, hat 0 (by omega), hat 1 (by omega), hat 2 (by omega), hat 3 (by omega), hat 4 (by omega), hfm _ _ hf hff, him _ _ hi hif, hff.imp id (hap _), hif.imp id (hap _)⟩
theorem QSt.lns (h : QSt w0 w b lg vq ls) : Lns w vq ls := by
  obtain ⟨cs, hr, hc⟩ := h.row
  rcases hr.2 with ⟨e, h0⟩ | ⟨g, cap, cur, e, _, hg, hnc, hm, hs, ht⟩
  · have e0 : ls = [] := List.length_eq_zero_iff.1 h0
    subst e0
    exact ⟨none, 0, e, Nat.le_refl _, by unfold maxLen; omega, fun hn => absurd rfl hn⟩
  · refine ⟨_, cap, e, hnc, hm, fun _ => ⟨_, rfl, lt_heap hg, fun k n hk => ?_⟩⟩
    obtain ⟨uf, ur, q0, q1, q2, q3, q4, q5, q6, _, _⟩ := hc k n hk
    have hcell : ∀ j z, cs[j]? = some z → w.cell? ⟨g, j, none⟩ = some z := fun j z h1 => by
      rw [← ht, List.getElem?_take] at h1
      split at h1
      · have h2 : cur[j]? = some z := by simpa using h1
        simp [World.cell?, hg, h2]
      · cases h1
    rw [addr_zero]
    exact ⟨uf, ur, hcell _ _ q0, hcell _ _ q1, hcell _ _ q2, hcell _ _ q3, hcell _ _ q4, q5, q6⟩
end

theorem ap_old {w w5 wr W : World} {b m : Nat} {vq ur : Value} {l : List Int} {T : TypeId} {cs : List Value} (h : Ints w ur l) (hx : w.heap.size ≤ w5.heap.size) (hb : w5.heap.size ≤ b) (hr : wr.ownsRow w5.heap.size T 5 vq m cs) (hs : w5.heap.size ≤ W.heap.size) : l = [] ∨ Ap W b vq ur := by
  by_cases e : l = []
  · exact .inl e
  · obtain ⟨A, c, rfl, _, _, h3⟩ := h
    obtain ⟨ad, rfl, hlt, _⟩ := h3 e
    refine .inr fun g hg => ?_
    have e1 : ad.block = g := by simpa [Value.ownBlock] using hg
    exact ⟨by omega, by omega, fun e2 => by have := (hr.lt g e2).1; omega⟩
theorem ap_new {wr w6 W : World} {b m base : Nat} {vq u : Value} {f : List Nd} {T : TypeId} {cs : List Value} (h : Fml w6 u f) (h0 : 0 < f.length) (hn : ∀ g, u.ownBlock = some g → wr.heap.size < g) (hb : b < wr.heap.size) (hr : wr.ownsRow base T 5 vq m cs) (hs : w6.heap.size ≤ W.heap.size) : Ap W b vq u := by
  obtain ⟨⟨A, c, rfl, _, _, h3⟩, _⟩ := h
  obtain ⟨ad, rfl, hlt, _⟩ := h3 (by intro e; rw [e] at h0; simp at h0)
  intro g hg
  have e1 : ad.block = g := by simpa [Value.ownBlock] using hg
  have h1 := hn g hg
  exact ⟨by omega, by omega, fun e2 => by have := (hr.lt g e2).2; omega⟩
theorem fml_past {wr w6 : World} {u v : Value} {f : List Nd} (h : Fml w6 u f) (hn : ∀ g, u.ownBlock = some g → wr.heap.size < g) (C : Obj) (j : Nat) : Fml ((w6.setCell ⟨wr.heap.size, j, none⟩ v).alloc C) u f :=
  h.keep (fun g hg hl => (((Ext.refl _).alloc C).block (by rw [size_set]; exact hl)).trans (Below.heap_setCell _ _ _ _ (by have := hn g hg; show g ≠ wr.heap.size; omega))) (by simp [World.setCell])

/-- A line replaced. -/
def subLn (tl : List (List Nd)) (n : Ln) : Ln := { n with f := (substN tl n.f).1 }
theorem few_of_frag {f : List Nd} (hc : check f = 0) (hf : fragsN f < 2) : Few10 (compactN f) := by
  intro n hn
  obtain ⟨fo, ec⟩ := fo_compact hc hf
  rw [ec] at hn
  have := pn_ten (ins_all Pn.with_ _ [] fo.all (fun n hn => by cases hn) n hn)
  omega
theorem subst_compact {tl : List (List Nd)} {f : List Nd} (hc : check f = 0) (hf : fragsN f < 2) : substN tl (compactN f) = substN tl f ∧ check (compactN f) = 0 ∧ Few10 (compactN (compactN f)) := by
  obtain ⟨fo, ec⟩ := fo_compact hc hf
  have e : compactN (compactN f) = compactN f := by rw [fo.comp, ← ec]
  refine ⟨by unfold substN; rw [e], fo.ck, by rw [e]; exact few_of_frag hc hf⟩
/-- Where each line could be replaced, the replaced lines prove the replaced formula. -/
theorem subs_prove {tl : List (List Nd)} (hto : ToOk tl) {lg : Int} {ls : List Ln} (ht : (natTheorem lg ls).2 = 0) (h : ∀ (k : Nat) (n : Ln), ls[k]? = some n → (substN tl n.f).2 = 0) :
    (substN tl (natTheorem lg ls).1).2 = 0 ∧ provesL lg (ls.map (subLn tl)) (substN tl (natTheorem lg ls).1).1 = true := by
  obtain ⟨_, _, h3, _, h5, _⟩ := thm_parts ht
  have hl := lastLn_get h5.1
  obtain ⟨c1, c2⟩ := thm_frag ht hl
  obtain ⟨e1, e2, e3⟩ := subst_compact (tl := tl) c1 c2
  have rel : ∀ (k : Nat) (n : Ln), ls[k]? = some n → RelS (sigT tl) (compactN n.f) (substN tl n.f).1 := fun k n hk => by
    obtain ⟨d1, d2⟩ := thm_frag ht hk
    rcases subst_rel hto d1 d2 with ⟨_, r⟩ | r
    · exact r
    · have := h k n hk
      rw [r] at this; cases this
  rw [h3, e1]
  refine ⟨h _ _ hl, thm_sub (sig_good hto) (by simp) (fun k n n' hk hk' => ?_) ht _ (by rw [h3]; exact rel _ _ hl)⟩
  rw [List.getElem?_map, hk] at hk'
  injection hk' with hk'
  subst hk'
  exact ⟨rfl, rfl, rfl, rfl, rel k n hk⟩
theorem subst_pos {tl : List (List Nd)} (hto : ToOk tl) {f : List Nd} (hc : check f = 0) (hf : fragsN f < 2) (h : (substN tl f).2 = 0) : 0 < (substN tl f).1.length := by
  rcases subst_rel hto hc hf with ⟨_, t, _, _, r, _⟩ | r
  · exact (check_parts r.ck).1
  · rw [r] at h; cases h
theorem subst_two {tl : List (List Nd)} (hto : ToOk tl) {f : List Nd} (hc : check f = 0) (hf : fragsN f < 2) : (substN tl f).2 = 0 ∨ (substN tl f).2 = 8 := by
  rcases subst_rel hto hc hf with ⟨h, _⟩ | h
  · exact .inl h
  · exact .inr (by rw [h])
end Go.Proofs.YtohoddkcpfamlaaDoor
