/- The expansion of a formula is that of its tree. -/
import Derived.Test.YtbfeodammikajaaGreatG10
import Derived.Test.YtbfeodammikajaaGreatG08
import Derived.Deep.MidRow
import Derived.Test.YtbfeodammikajaaGreatG09

namespace Go.Proofs.YtbfeodammikajaaGreat

theorem take_snoc' {α : Type} {l : List α} {k : Nat} {a : α} (h : l[k]? = some a) : l.take (k + 1) = l.take k ++ [a] := by
  obtain ⟨hk, e⟩ := List.getElem?_eq_some_iff.1 h
  rw [List.take_succ_eq_append_getElem hk, e]
theorem expGo_step {l : List Nd} {k : Nat} {n : Nd} (hn : l[k]? = some n) {d d' : List (List Nd)} (h : expGo (l.take k) d = some d') :
    expGo (l.take (k + 1)) d = bif decide ((expS n (d'.getD n.x.toNat []) (d'.getD n.y.toNat [])).length = 0) then none else some (d' ++ [expS n (d'.getD n.x.toNat []) (d'.getD n.y.toNat [])]) := by
  have key : ∀ (a b : List Nd) (d d' : List (List Nd)), expGo a d = some d' → expGo (a ++ b) d = expGo b d' := by
    intro a
    induction a with
    | nil => intro b d d' h; injection h with h; subst h; rfl
    | cons x r ih =>
      intro b d d' h
      simp only [expGo, List.cons_append] at h ⊢
      cases hz : decide ((expS x (d.getD x.x.toNat []) (d.getD x.y.toNat [])).length = 0)
      · rw [hz] at h; exact ih b _ _ h
      · rw [hz] at h; cases h
  rw [take_snoc' hn, key _ _ _ _ h]
  simp only [expGo]
theorem expGo_none {l : List Nd} {k : Nat} {d : List (List Nd)} (h : expGo (l.take k) d = none) : expGo l d = none := by
  have key : ∀ (a b : List Nd) (d : List (List Nd)), expGo a d = none → expGo (a ++ b) d = none := by
    intro a
    induction a with
    | nil => intro b d h; cases h
    | cons x r ih =>
      intro b d h
      simp only [expGo, List.cons_append] at h ⊢
      cases hz : decide ((expS x (d.getD x.x.toNat []) (d.getD x.y.toNat [])).length = 0)
      · rw [hz] at h; exact ih b _ h
      · rfl
  have := key _ (l.drop k) d h
  rwa [List.take_append_drop] at this

theorem expS_congr {n : Nd} {a a' b b' : List Nd} (hx : hasX n.op = true → a = a') (hy : hasY n.op = true → b = b') (ho : tyOp n.op) : expS n a b = expS n a' b' := by
  have hop : n.op = 1 ∨ n.op = 2 ∨ n.op = 3 ∨ n.op = 4 ∨ n.op = 5 ∨ n.op = 6 ∨ n.op = 7 ∨ n.op = 8 ∨ n.op = 9 ∨ n.op = 10 ∨ n.op = 11 ∨ n.op = 13 := by unfold tyOp at ho; omega
  unfold expS
  rcases hop with h | h | h | h | h | h | h | h | h | h | h | h
  · simp [h]
  · simp [h]
  · simp [h]
  · rw [hx (by rw [h]; rfl)]; simp [h]
  · rw [hx (by rw [h]; rfl), hy (by rw [h]; rfl)]
  · rw [hx (by rw [h]; rfl), hy (by rw [h]; rfl)]
  · rw [hx (by rw [h]; rfl), hy (by rw [h]; rfl)]
  · rw [hx (by rw [h]; rfl), hy (by rw [h]; rfl)]
  · rw [hx (by rw [h]; rfl)]; simp [h]
  · rw [hx (by rw [h]; rfl)]; simp [h]
  · rw [hx (by rw [h]; rfl)]; simp [h]
  · rw [hx (by rw [h]; rfl), hy (by rw [h]; rfl)]
theorem ands_ex : ∀ (r : List Tr) (t : Tr), t.all exOp → (∀ u ∈ r, u.all exOp) → (andsT t r).all exOp
  | [], _, ht, _ => ht
  | u :: r, t, ht, hr => ands_ex r _ ⟨.inl ⟨by decide, by decide⟩, ht, hr u (List.mem_cons_self ..)⟩ (fun v hv => hr v (List.mem_cons_of_mem _ hv))
theorem all_ex : ∀ (l : List Tr), (∀ u ∈ l, u.all exOp) → (allT l).all exOp
  | [], _ => .inl ⟨by decide, by decide⟩
  | t :: r, h => ands_ex r t (h t (List.mem_cons_self ..)) (fun v hv => h v (List.mem_cons_of_mem _ hv))
theorem expM_ex {n : Nd} {a b : Tr} (ho : tyOp n.op) (ha : hasX n.op = true → a.all exOp) (hb : hasY n.op = true → b.all exOp) : (expM n a b).all exOp := by
  unfold expM
  by_cases h10 : n.op = 10
  · rw [if_pos h10]
    have h := ha (by rw [h10]; rfl)
    exact ⟨.inl ⟨by decide, by decide⟩, .inl ⟨show (1 : Int) ≤ 9 by decide, show (9 : Int) ≤ 9 by decide⟩, .inl ⟨by decide, by decide⟩, h⟩
  · rw [if_neg h10]
    by_cases h11 : n.op = 11
    · rw [if_pos h11]
      have h := ha (by rw [h11]; rfl)
      refine all_ex _ fun u hu => ?_
      obtain ⟨i, _, rfl⟩ := List.mem_map.1 hu
      exact ⟨.inl ⟨show (1 : Int) ≤ 9 by decide, show (9 : Int) ≤ 9 by decide⟩, h⟩
    · rw [if_neg h11]
      have hn : exOp n := by unfold tyOp at ho; unfold exOp; omega
      unfold mkTr
      cases h2 : hasY n.op
      · cases h1 : hasX n.op
        · exact hn
        · exact ⟨hn, ha h1⟩
      · exact ⟨hn, ha (hasX_of_hasY h2), hb h2⟩
theorem getD_range {α : Type} (g : Nat → α) (d : α) {k j : Nat} (h : j < k) : ((List.range k).map g).getD j d = g j := by
  rw [List.getD_eq_getElem?_getD, List.getElem?_map, List.getElem?_range h]
  rfl
/-- What the expansions of a list's nodes come to. -/
theorem expGo_trees {c : List Nd} (hw : Wf c) (hh : ∀ n ∈ c, headOk n) (hl : ∀ n ∈ c, tyOp n.op) : ∀ (k : Nat) (d : List (List Nd)), k ≤ c.length → expGo (c.take k) [] = some d →
    d = (List.range k).map (fun j => canon (expT (tr c j))) ∧ ∀ j, j < k → Xf (expT (tr c j))
  | 0, d, _, h => by
    injection h with h
    exact ⟨h.symm, fun j hj => absurd hj (by omega)⟩
  | k + 1, d, hk, h => by
    obtain ⟨n, hn⟩ : ∃ n, c[k]? = some n := ⟨_, List.getElem?_eq_getElem (by omega)⟩
    cases hd : expGo (c.take k) [] with
    | none =>
      have hp : c.take k = (c.take (k + 1)).take k := by rw [List.take_take]; congr 1; omega
      rw [hp] at hd
      rw [expGo_none hd] at h
      cases h
    | some d' =>
      obtain ⟨e1, e2⟩ := expGo_trees hw hh hl k d' (by omega) hd
      rw [expGo_step hn hd] at h
      have hm := List.mem_of_getElem? hn
      obtain ⟨hx, hy⟩ := hw k n hn
      have gx : hasX n.op = true → d'.getD n.x.toNat [] = shortT (expT (tr c n.x.toNat)) := fun h1 => by
        have := hx h1
        rw [e1, getD_range (fun j => canon (expT (tr c j))) [] (by omega), (e2 _ (by omega)).short]
      have gy : hasY n.op = true → d'.getD n.y.toNat [] = shortT (expT (tr c n.y.toNat)) := fun h1 => by
        have := hy h1
        rw [e1, getD_range (fun j => canon (expT (tr c j))) [] (by omega), (e2 _ (by omega)).short]
      have hE := expS_short (a := expT (tr c n.x.toNat)) (b := expT (tr c n.y.toNat)) (hh n hm) (hl n hm) (fun h1 => by have := hx h1; exact (e2 _ (by omega)).xp.1) (fun h1 => by have := hy h1; exact (e2 _ (by omega)).xp.1)
      have hX := expM_ex (a := expT (tr c n.x.toNat)) (b := expT (tr c n.y.toNat)) (hl n hm) (fun h1 => by have := hx h1; exact (e2 _ (by omega)).xp.2) (fun h1 => by have := hy h1; exact (e2 _ (by omega)).xp.2)
      have ht : expM n (expT (tr c n.x.toNat)) (expT (tr c n.y.toNat)) = expT (tr c k) := by rw [tr_eq hw hn, expT_mk]
      rw [expS_congr gx gy (hl n hm), hE.1, ht] at h
      rw [ht] at hE hX
      cases hz : decide ((shortT (expT (tr c k))).length = 0)
      · rw [hz] at h
        injection h with h
        have hlen : (canon (expT (tr c k))).length ≤ 200 := by
          by_cases e : (canon (expT (tr c k))).length ≤ 200
          · exact e
          · have := of_decide_eq_false hz
            rw [short_long (by omega)] at this
            exact absurd rfl this
        rw [short_fit hlen, e1] at h
        refine ⟨?_, fun j hj => ?_⟩
        · rw [← h, List.range_succ, List.map_append]
          rfl
        · by_cases e : j < k
          · exact e2 j e
          · have : j = k := by omega
            subst this
            exact ⟨⟨hE.2, hX⟩, hlen⟩
      · rw [hz] at h; cases h
theorem mask_bits {l : List Nd} (h : fragMask l &&& 500 = 0) : ∀ n ∈ l, (fragOf n.op).toNat &&& 500 = 0 := by
  have key : ∀ (l : List Nd) (m : Nat), (l.foldl (fun m n => m ||| (fragOf n.op).toNat) m) &&& 500 = 0 → m &&& 500 = 0 ∧ ∀ n ∈ l, (fragOf n.op).toNat &&& 500 = 0 := by
    intro l
    induction l with
    | nil => intro m h; exact ⟨h, fun n hn => by cases hn⟩
    | cons a r ih =>
      intro m h
      obtain ⟨h1, h2⟩ := ih _ h
      rw [Nat.and_or_distrib_right] at h1
      have l1 : m &&& 500 ≤ m &&& 500 ||| (fragOf a.op).toNat &&& 500 := Nat.left_le_or
      have l2 : (fragOf a.op).toNat &&& 500 ≤ m &&& 500 ||| (fragOf a.op).toNat &&& 500 := Nat.right_le_or
      refine ⟨by omega, fun n hn => ?_⟩
      rcases List.mem_cons.1 hn with rfl | hn
      · omega
      · exact h2 n hn
  exact (key l 0 h).2
theorem lang_ops {f : List Nd} (hc : check f = 0) (hl : langBad f = false) : ∀ n ∈ compactN f, tyOp n.op := by
  intro n hn
  unfold langBad fragsN at hl
  have hb := mask_bits (by simpa using hl) n hn
  have ho := (isOp_iff n.op).1 ((compactN_props hc).2.2.2 n hn).1
  have : n.op = 1 ∨ n.op = 2 ∨ n.op = 3 ∨ n.op = 4 ∨ n.op = 5 ∨ n.op = 6 ∨ n.op = 7 ∨ n.op = 8 ∨ n.op = 9 ∨ n.op = 10 ∨ n.op = 11 ∨ n.op = 12 ∨ n.op = 13 ∨ n.op = 14 ∨ n.op = 15 ∨ n.op = 16 ∨ n.op = 17 ∨ n.op = 18 ∨ n.op = 19 ∨ n.op = 20 ∨ n.op = 21 := by omega
  unfold tyOp
  rcases this with h | h | h | h | h | h | h | h | h | h | h | h | h | h | h | h | h | h | h | h | h <;> first | omega | (rw [h] at hb; exact absurd hb (by decide))
/-- The expansion of a formula. -/
theorem expand_tree {f : List Nd} (hc : check f = 0) (hl : langBad f = false) (hne : (expandN f).length ≠ 0) : Xf (expT (treeOf f)) ∧ expandN f = canon (expT (treeOf f)) := by
  obtain ⟨hw, _, hp, hh⟩ := compactN_props hc
  unfold expandN at hne ⊢
  cases hd : expGo (compactN f) [] with
  | none => rw [hd] at hne; exact absurd rfl hne
  | some d =>
    have h := expGo_trees hw hh (lang_ops hc hl) (compactN f).length d (Nat.le_refl _) (by rw [List.take_of_length_le (Nat.le_refl _)]; exact hd)
    obtain ⟨e1, e2⟩ := h
    have et : tr (compactN f) ((compactN f).length - 1) = treeOf f := treeOf_compact hc
    have hx := e2 ((compactN f).length - 1) (by omega)
    rw [et] at hx
    refine ⟨hx, ?_⟩
    show d.getLastD [] = _
    obtain ⟨m, hm⟩ : ∃ m, (compactN f).length = m + 1 := ⟨(compactN f).length - 1, by omega⟩
    rw [e1, hm, List.range_succ, List.map_append]
    rw [hm] at et
    simp only [List.map_cons, List.map_nil, List.getLastD_concat]
    rw [← et]
    rfl
end Go.Proofs.YtbfeodammikajaaGreat

/- The elimination of types tells the truth. -/

namespace Go.Proofs.YtbfeodammikajaaGreat

theorem find_neg {lg : Int} {ks : List Kn} {al : List Bool} {a : Int} {t : Nat} {wt : Nat → Bool} : nextN lg ks al a t wt < 0 ↔ ∀ u, u < al.length → nextP lg ks al a t wt u = false := by
  unfold nextN
  cases h : (List.range al.length).find? (nextP lg ks al a t wt) with
  | none =>
    rw [List.find?_eq_none] at h
    refine ⟨fun _ u hu => ?_, fun _ => by decide⟩
    have := h u (List.mem_range.2 hu)
    simpa using this
  | some k =>
    obtain ⟨h1, h2, _⟩ := List.find?_range_eq_some.1 h
    refine ⟨fun hn => ?_, fun hn => ?_⟩
    · simp only at hn; omega
    · rw [hn k (List.mem_range.1 h2)] at h1; cases h1
theorem getD_lt {al : List Bool} {t : Nat} (h : al.getD t false = true) : t < al.length := by
  by_cases e : t < al.length
  · exact e
  · rw [List.getD_eq_getElem?_getD, List.getElem?_eq_none (by omega)] at h; cases h
theorem path_iff {lg : Int} {ks : List Kn} {al : List Bool} {c : Cm} {t : Nat} : pathN lg ks al c t = true ↔ ∃ u, Rch (fun a b => stepB lg ks al c a b = true) t u ∧ c.y.getD u false = false := by
  simp [pathN]
/-- The types of a model's worlds. -/
theorem ev_num {l : List (List Nd)} {M : KM} {w : M.W} {t : Nat} (h : ∀ s ∈ l.map treeOf, th l t s = thW M w s) {f : Tr} (hc : cov (l.map treeOf) f) (hl : lang f) : ev (th l t) f = ev (thW M w) f := by
  rw [Bool.eq_iff_iff, evW w hc hl]
  exact ev_sat (fun s hs => by rw [h s hs]; exact thW_iff) f hc hl
/-- A number whose bits are told. -/
theorem num_of (p : Nat → Bool) : ∀ n : Nat, ∃ t, t < 2 ^ n ∧ ∀ i, i < n → t.testBit i = p i
  | 0 => ⟨0, by simp, fun i h => absurd h (by omega)⟩
  | n + 1 => by
    obtain ⟨t, h1, h2⟩ := num_of p n
    cases hp : p n
    · refine ⟨t, by rw [Nat.pow_succ]; omega, fun i hi => ?_⟩
      by_cases e : i < n
      · exact h2 i e
      · have : i = n := by omega
        subst this
        rw [hp, Nat.testBit_lt_two_pow h1]
    · refine ⟨t ||| 2 ^ n, Nat.or_lt_two_pow (by rw [Nat.pow_succ]; omega) (by rw [Nat.pow_succ]; have := Nat.two_pow_pos n; omega), fun i hi => ?_⟩
      rw [Nat.testBit_or, Nat.testBit_two_pow]
      by_cases e : i < n
      · rw [h2 i e]
        have : ¬ n = i := by omega
        simp [this]
      · have : i = n := by omega
        subst this
        simp [hp]
section
variable {l : List (List Nd)} {t0 : Tr} (hB : BaseOk l t0) {lg : Int}
include hB
theorem kn_find {i : Nat} {n : Nd} {a : Tr} (hm : .one n a ∈ l.map treeOf) (hg : l[i]? = some (canon (.one n a))) : (knowsN l).find? (fun k => (k.place : Int) == (i : Int)) = some ⟨n.i, i, tabN l (canon a)⟩ := by
  cases h : (knowsN l).find? (fun k => (k.place : Int) == (i : Int)) with
  | none =>
    rw [List.find?_eq_none] at h
    have := h _ ((knows_mem hB).2 ⟨i, n, a, hm, hg, rfl⟩)
    simp at this
  | some k =>
    obtain ⟨j, n', a', hm', hg', rfl⟩ := (knows_mem hB).1 (List.mem_of_find?_eq_some h)
    have hp := List.find?_some h
    have hij : j = i := by
      have h0 : (j : Int) = (i : Int) := by simpa using hp
      omega
    subst hij
    rw [hg] at hg'
    injection hg' with hg'
    have := ((mem_trees hB.can).1 hm).1.inj ((mem_trees hB.can).1 hm').1 hg'
    injection this with e1 e2
    rw [e1, e2]
theorem kn_none {i : Nat} {n : Nd} {a b : Tr} (hm : .two n a b ∈ l.map treeOf) (hg : l[i]? = some (canon (.two n a b))) : (knowsN l).find? (fun k => (k.place : Int) == (i : Int)) = none := by
  rw [List.find?_eq_none]
  intro k hk
  obtain ⟨j, n', a', hm', hg', rfl⟩ := (knows_mem hB).1 hk
  intro hp
  have hij : j = i := by
    have h0 : (j : Int) = (i : Int) := by simpa using hp
    omega
  subst hij
  rw [hg] at hg'
  injection hg' with hg'
  have := ((mem_trees hB.can).1 hm).1.inj ((mem_trees hB.can).1 hm').1 hg'
  cases this
theorem cm_find {i : Nat} {n : Nd} {a b : Tr} (hm : .two n a b ∈ l.map treeOf) (hg : l[i]? = some (canon (.two n a b))) : (commsN l).find? (fun k => (k.place : Int) == (i : Int)) = some ⟨i, n.g, tabN l (canon a), tabN l (canon b), partsN l (canon (.two n a b))⟩ := by
  cases h : (commsN l).find? (fun k => (k.place : Int) == (i : Int)) with
  | none =>
    rw [List.find?_eq_none] at h
    have := h _ ((comms_mem hB).2 ⟨i, n, a, b, hm, hg, rfl⟩)
    simp at this
  | some k =>
    obtain ⟨j, n', a', b', hm', hg', rfl⟩ := (comms_mem hB).1 (List.mem_of_find?_eq_some h)
    have hp := List.find?_some h
    have hij : j = i := by
      have h0 : (j : Int) = (i : Int) := by simpa using hp
      omega
    subst hij
    rw [hg] at hg'
    injection hg' with hg'
    have := ((mem_trees hB.can).1 hm).1.inj ((mem_trees hB.can).1 hm').1 hg'
    injection this with e1 e2 e3
    rw [e1, e2, e3]
theorem step_iff {al : List Bool} (hl : al.length = 2 ^ l.length) {i : Nat} {n : Nd} {a b : Tr} (hm : .two n a b ∈ l.map treeOf) (t u : Nat) :
    stepB lg (knowsN l) al ⟨i, n.g, tabN l (canon a), tabN l (canon b), partsN l (canon (.two n a b))⟩ t u = true ↔ stepT lg (l.map treeOf) (fun t => al.getD t false = true) (th l) n.g a t u := by
  unfold stepB stepT
  simp only [Bool.and_eq_true, List.any_eq_true, List.mem_range]
  constructor
  · rintro ⟨h1, h2, i, h3, h4, h5⟩
    have hu : u < 2 ^ l.length := hl ▸ getD_lt h1
    exact ⟨h1, by rw [← (com_ev hB hm hu).1]; exact h2, i, h3, h4, (poss_iff hB hu).1 h5⟩
  · rintro ⟨h1, h2, i, h3, h4, h5⟩
    have hu : u < 2 ^ l.length := hl ▸ getD_lt h1
    exact ⟨h1, by rw [(com_ev hB hm hu).1]; exact h2, i, h3, h4, (poss_iff hB hu).2 h5⟩
/-- Types that lack nothing. -/
theorem full_of {al : List Bool} (hl : al.length = 2 ^ l.length) (hc : ∀ t, al.getD t false = true → coherentN lg (knowsN l) (commsN l) t = true)
    (hw : ∀ t, al.getD t false = true → ∀ i : Int, -4 ≤ i → i < l.length → lacksN lg (knowsN l) (commsN l) al t i = false) : Full lg (l.map treeOf) (fun t => al.getD t false = true) (th l) where
  coh t ht := (coh_iff hB (hl ▸ getD_lt ht)).1 (hc t ht)
  ser hs t ht i ho := by
    obtain ⟨n, a, hm, hi⟩ := ho
    obtain ⟨j, hg, _, _⟩ := th_at hB hm
    obtain ⟨_, _, _, h0, h4⟩ := hB.closed.know n a hm
    have h := hw t ht (-1 - i) (by omega) (by omega)
    unfold lacksN at h
    rw [decide_eq_true (show -1 - i < 0 by omega), cond_true] at h
    have hlg : (lg == 1 || lg == 5) = true := by rcases hs with e | e <;> rw [e] <;> rfl
    have hany : (knowsN l).any (fun k => k.agent == -1 - (-1 - i)) = true := by
      rw [List.any_eq_true]
      exact ⟨_, (knows_mem hB).2 ⟨j, n, a, hm, hg, rfl⟩, by simp; omega⟩
    rw [hlg, hany, Bool.true_and, Bool.true_and, decide_eq_false_iff_not, find_neg] at h
    obtain ⟨u, hu⟩ := Classical.not_forall.1 h
    obtain ⟨hul, hp⟩ := Classical.not_imp.1 hu
    have hp : nextP lg (knowsN l) al (-1 - (-1 - i)) t (fun _ => true) u = true := by simpa using hp
    unfold nextP at hp
    rw [Bool.and_eq_true, Bool.true_and, show -1 - (-1 - i) = i by omega] at hp
    exact ⟨u, hp.1, (poss_iff hB (by omega)).1 hp.2⟩
  know t ht n a hm hf := by
    obtain ⟨j, hg, hj, hth⟩ := th_at hB hm
    have h := hw t ht (j : Int) (by omega) (by omega)
    unfold lacksN at h
    rw [decide_eq_false (show ¬ (j : Int) < 0 by omega), cond_false, kn_find hB hm hg] at h
    simp only [Int.toNat_natCast] at h
    rw [← hth, hf, Bool.not_false, Bool.true_and, decide_eq_false_iff_not, find_neg] at h
    obtain ⟨u, hu⟩ := Classical.not_forall.1 h
    obtain ⟨hul, hp⟩ := Classical.not_imp.1 hu
    have hp : nextP lg (knowsN l) al n.i t (fun u => !(tabN l (canon a)).getD u false) u = true := by simpa using hp
    unfold nextP at hp
    rw [Bool.and_eq_true, Bool.and_eq_true] at hp
    have hp2 : (!(tabN l (canon a)).getD u false) = true := hp.2.1
    rw [hold_ev hB hm (by omega)] at hp2
    exact ⟨u, hp.1, by simpa using hp2, (poss_iff hB (by omega)).1 hp.2.2⟩
  com t ht n a b hm hf := by
    obtain ⟨j, hg, hj, hth⟩ := th_at hB hm
    have h := hw t ht (j : Int) (by omega) (by omega)
    unfold lacksN at h
    rw [decide_eq_false (show ¬ (j : Int) < 0 by omega), cond_false, kn_none hB hm hg, cm_find hB hm hg] at h
    simp only [Int.toNat_natCast] at h
    rw [← hth, hf, Bool.not_false, Bool.true_and] at h
    have h : pathN lg (knowsN l) al ⟨j, n.g, tabN l (canon a), tabN l (canon b), partsN l (canon (.two n a b))⟩ t = true := by simpa using h
    rw [path_iff] at h
    obtain ⟨u, hr, hy⟩ := h
    have hr' := hr.mono (fun x y hxy => (step_iff hB hl hm x y).1 hxy)
    have hul : al.getD u false = true := by
      have key : ∀ x y, Rch (stepT lg (l.map treeOf) (fun t => al.getD t false = true) (th l) n.g a) x y → al.getD y false = true := by
        intro x y hxy
        induction hxy with
        | one h => exact h.1
        | cons _ _ ih => exact ih
      exact key t u hr'
    exact ⟨u, hr', by rw [← (com_ev hB hm (hl ▸ getD_lt hul)).2]; exact hy⟩
theorem poss_num {M : KM} {w v : M.W} {t u : Nat} (ht : ∀ s ∈ l.map treeOf, th l t s = thW M w s) (hu : ∀ s ∈ l.map treeOf, th l u s = thW M v s) {i : Int} (h : Poss lg (l.map treeOf) i (thW M w) (thW M v)) : Poss lg (l.map treeOf) i (th l t) (th l u) := by
  intro n a hm hi
  obtain ⟨_, hc, hla, _, _⟩ := hB.closed.know n a hm
  rw [ht _ hm, hu _ hm, ev_num hu hc hla]
  exact h n a hm hi
theorem num_ex {M : KM} (w : M.W) : ∃ t, t < 2 ^ l.length ∧ ∀ s ∈ l.map treeOf, th l t s = thW M w s := by
  obtain ⟨t, h1, h2⟩ := num_of (fun i => thW M w (treeOf (l.getD i []))) l.length
  refine ⟨t, h1, fun s hs => ?_⟩
  obtain ⟨i, hg, hi, hth⟩ := th_at hB hs
  rw [hth, h2 i hi, List.getD_eq_getElem?_getD, hg, Option.getD_some, ((mem_trees hB.can).1 hs).1.tree]
/-- A set that holds the types of all worlds. -/
def Holds (l : List (List Nd)) (M : KM) (al : List Bool) : Prop := ∀ (t : Nat) (w : M.W), t < 2 ^ l.length → (∀ s ∈ l.map treeOf, th l t s = thW M w s) → al.getD t false = true
theorem world_keeps {M : KM} (hM : M.In lg) (hlg : lg ≤ 6) {al : List Bool} (hl : al.length = 2 ^ l.length) (hS : Holds l M al) {t : Nat} {w : M.W} (ht : t < 2 ^ l.length) (hw : ∀ s ∈ l.map treeOf, th l t s = thW M w s) (i : Int) : lacksN lg (knowsN l) (commsN l) al t i = false := by
  have hF := world_full hB.closed hM hlg
  unfold lacksN
  by_cases hi : i < 0
  · rw [decide_eq_true hi, cond_true]
    cases hlg2 : (lg == 1 || lg == 5)
    · rfl
    · rw [Bool.true_and]
      have hs : lg = 1 ∨ lg = 5 := by simpa using hlg2
      cases hany : (knowsN l).any (fun k => k.agent == -1 - i)
      · rfl
      · rw [Bool.true_and, decide_eq_false_iff_not, find_neg]
        intro hno
        rw [List.any_eq_true] at hany
        obtain ⟨k, hk, he⟩ := hany
        obtain ⟨j, n, a, hm, hg, rfl⟩ := (knows_mem hB).1 hk
        have he : n.i = -1 - i := by simpa using he
        obtain ⟨v, _, hp⟩ := hF.ser hs w trivial (-1 - i) ⟨n, a, hm, he⟩
        obtain ⟨u, hu, huv⟩ := num_ex hB v
        have := hno u (by omega)
        unfold nextP at this
        rw [hS u v hu huv, (poss_iff hB hu).2 (poss_num hB hw huv hp)] at this
        cases this
  · rw [decide_eq_false hi, cond_false]
    obtain ⟨j, rfl⟩ := Int.eq_ofNat_of_zero_le (show 0 ≤ i by omega)
    cases hf : (knowsN l).find? (fun k => (k.place : Int) == (j : Int)) with
    | some k =>
      obtain ⟨j', n, a, hm, hg, rfl⟩ := (knows_mem hB).1 (List.mem_of_find?_eq_some hf)
      have hij : j' = j := by
        have h0 : (j' : Int) = (j : Int) := by simpa using List.find?_some hf
        omega
      subst hij
      obtain ⟨j2, hg2, _, hth⟩ := th_at hB hm
      have hij : j2 = j' := by
        have e1 := place_at hB.nodup hg
        have e2 := place_at hB.nodup hg2
        omega
      subst hij
      simp only [Int.toNat_natCast]
      rw [← hth]
      cases hv : th l t (.one n a)
      · rw [Bool.not_false, Bool.true_and, decide_eq_false_iff_not, find_neg]
        intro hno
        obtain ⟨v, _, he, hp⟩ := hF.know w trivial n a hm (by rw [← hw _ hm]; exact hv)
        obtain ⟨u, hu, huv⟩ := num_ex hB v
        have := hno u (by omega)
        obtain ⟨_, hc, hla, _, _⟩ := hB.closed.know n a hm
        unfold nextP at this
        simp only at this
        rw [hS u v hu huv, (poss_iff hB hu).2 (poss_num hB hw huv hp), hold_ev hB hm hu, ev_num huv hc hla, he] at this
        cases this
      · rfl
    | none =>
      simp only
      cases hf2 : (commsN l).find? (fun c => (c.place : Int) == (j : Int)) with
      | none => rfl
      | some k =>
        obtain ⟨j', n, a, b, hm, hg, rfl⟩ := (comms_mem hB).1 (List.mem_of_find?_eq_some hf2)
        have hij : j' = j := by
          have h0 : (j' : Int) = (j : Int) := by simpa using List.find?_some hf2
          omega
        subst hij
        obtain ⟨j2, hg2, _, hth⟩ := th_at hB hm
        have hij : j2 = j' := by
          have e1 := place_at hB.nodup hg
          have e2 := place_at hB.nodup hg2
          omega
        subst hij
        simp only [Int.toNat_natCast]
        rw [← hth]
        cases hv : th l t (.two n a b)
        · rw [Bool.not_false, Bool.true_and, Bool.not_eq_false']
          rw [path_iff]
          obtain ⟨v, hr, he⟩ := hF.com w trivial n a b hm (by rw [← hw _ hm]; exact hv)
          obtain ⟨_, hca, hcb, hla, hlb, _⟩ := hB.closed.com n a b hm
          have lift : ∀ (x y : M.W), Rch (stepT lg (l.map treeOf) (fun _ => True) (thW M) n.g a) x y → ∀ t, t < 2 ^ l.length → (∀ s ∈ l.map treeOf, th l t s = thW M x s) →
              ∃ u, u < 2 ^ l.length ∧ (∀ s ∈ l.map treeOf, th l u s = thW M y s) ∧ Rch (stepT lg (l.map treeOf) (fun t => al.getD t false = true) (th l) n.g a) t u := by
            intro x y hxy
            induction hxy with
            | @one x y h =>
              intro t ht htx
              obtain ⟨u, hu, huy⟩ := num_ex hB y
              obtain ⟨_, hx, i, hi, hg, hp⟩ := h
              exact ⟨u, hu, huy, .one ⟨hS u y hu huy, by rw [ev_num huy hca hla]; exact hx, i, hi, hg, poss_num hB htx huy hp⟩⟩
            | @cons x y z h _ ih =>
              intro t ht htx
              obtain ⟨u, hu, huy⟩ := num_ex hB y
              obtain ⟨_, hx, i, hi, hg, hp⟩ := h
              obtain ⟨u2, h1, h2, h3⟩ := ih u hu huy
              exact ⟨u2, h1, h2, .cons ⟨hS u y hu huy, by rw [ev_num huy hca hla]; exact hx, i, hi, hg, poss_num hB htx huy hp⟩ h3⟩
          obtain ⟨u, hu, huv, hru⟩ := lift w v hr t ht hw
          exact ⟨u, hru.mono (fun x y hxy => (step_iff hB hl hm x y).2 hxy), by rw [(com_ev hB hm hu).2, ev_num huv hcb hlb]; exact he⟩
        · rfl
end
end Go.Proofs.YtbfeodammikajaaGreat

/- A formula is satisfiable, as types say it, exactly if a model of the logic makes it true. -/

namespace Go.Proofs.YtbfeodammikajaaGreat

theorem whyN_some {lg : Int} {ks : List Kn} {cs : List Cm} {m : Nat} {al : List Bool} {t : Nat} {i : Int} (h : whyN lg ks cs m al t = some i) : lacksN lg ks cs al t i = true := by
  unfold whyN at h
  exact List.find?_some h
theorem whyN_none {lg : Int} {ks : List Kn} {cs : List Cm} {m : Nat} {al : List Bool} {t : Nat} (h : whyN lg ks cs m al t = none) (i : Int) (h0 : -4 ≤ i) (h1 : i < m) : lacksN lg ks cs al t i = false := by
  unfold whyN at h
  rw [List.find?_eq_none] at h
  have := h i (List.mem_map.2 ⟨(i + 4).toNat, List.mem_range.2 (by omega), by omega⟩)
  simpa using this
/-- What stays of a set of types is among them. -/
theorem elim_sub (why : List Bool → Nat → Option Int) : ∀ (k : Nat) (s : List Bool × List (Nat × Int)), Sub2 s.1 (elimG why k s).1 := fun k s =>
  elim_keep (S := fun al => Sub2 s.1 al) (fun al t _i h _ _ u hu => h u (set_sub al t u hu)) k s (fun _ h => h)
theorem tab_get' {α : Type} (g : Nat → α) (d : α) {n k : Nat} (h : k < n) : ((List.range n).map g).getD k d = g k := by
  rw [List.getD_eq_getElem?_getD, List.getElem?_map, List.getElem?_range h]
  rfl
/-- A formula whose engine can be made. -/
structure EngOk (lg : Int) (f : List Nd) : Prop where
  l0 : 0 ≤ lg
  l6 : lg ≤ 6
  ck : check f = 0
  x : Xf (expT (treeOf f))
  e : expandN f = canon (expT (treeOf f))
  b : BaseOk (baseN f).1 (expT (treeOf f))
theorem base_parts {f : List Nd} (h : (baseN f).2 = 0) : check f = 0 ∧ langBad f = false ∧ (expandN f).length ≠ 0 ∧ baseN f = baseOfN (expandN f) := by
  unfold baseN at h ⊢
  cases hc : check f != 0
  · rw [hc] at h
    cases hl : langBad f
    · rw [hl] at h
      cases hz : decide ((expandN f).length = 0)
      · exact ⟨by simpa using hc, rfl, of_decide_eq_false hz, rfl⟩
      · rw [hz] at h; cases h
    · rw [hl] at h; cases h
  · rw [hc] at h
    exact absurd h (by simpa using hc)
theorem eng_ok {lg : Int} {f : List Nd} (h : engErr lg f = 0) : EngOk lg f := by
  unfold engErr at h
  cases ha : decide (lg < 0) || decide (6 < lg)
  · rw [ha] at h
    rw [Bool.or_eq_false_iff, decide_eq_false_iff_not, decide_eq_false_iff_not] at ha
    obtain ⟨h1, h2, h3, h4⟩ := base_parts h
    obtain ⟨hx, he⟩ := expand_tree h1 h2 h3
    have h5 : (baseOfN (canon (expT (treeOf f)))).2 = 0 := by rw [← he, ← h4]; exact h
    have hb := base_ok hx h5
    rw [← he, ← h4] at hb
    exact ⟨by omega, by omega, h1, hx, he, hb⟩
  · rw [ha] at h; cases h
section
variable {lg : Int} {f : List Nd}
theorem alive_len (lg : Int) (l : List (List Nd)) : (aliveN lg l).length = 2 ^ l.length := by simp [aliveN]
theorem alive_get {l : List (List Nd)} {t : Nat} (ht : t < 2 ^ l.length) : (aliveN lg l).getD t false = coherentN lg (knowsN l) (commsN l) t := tab_get' _ _ ht
theorem end_len : (endN lg f).1.length = 2 ^ (baseN f).1.length := by
  unfold endN elimN
  rw [elim_len]
  exact alive_len _ _
theorem root_get (h : EngOk lg f) {t : Nat} (ht : t < 2 ^ (baseN f).1.length) : (rootN f).getD t false = ev (th (baseN f).1 t) (expT (treeOf f)) := by
  unfold rootN
  rw [h.e, tab_get h.x.check ht, h.x.tree]
theorem left_iff (h : EngOk lg f) : leftN lg f = true ↔ ∃ t, (endN lg f).1.getD t false = true ∧ ev (th (baseN f).1 t) (expT (treeOf f)) = true := by
  unfold leftN satisfiedN
  rw [List.any_eq_true]
  constructor
  · rintro ⟨t, ht, h2⟩
    rw [Bool.and_eq_true] at h2
    have ht := List.mem_range.1 ht
    rw [end_len] at ht
    exact ⟨t, h2.1, by rw [← root_get h ht]; exact h2.2⟩
  · rintro ⟨t, h1, h2⟩
    have ht := getD_lt h1
    refine ⟨t, List.mem_range.2 ht, ?_⟩
    rw [end_len] at ht
    rw [Bool.and_eq_true, root_get h ht]
    exact ⟨h1, h2⟩
/-- At the end nothing lacks anything. -/
theorem end_full (h : EngOk lg f) : Full lg ((baseN f).1.map treeOf) (fun t => (endN lg f).1.getD t false = true) (th (baseN f).1) := by
  refine full_of h.b end_len (fun t ht => ?_) (fun t ht i h0 h1 => ?_)
  · have hs := elim_sub (whyN lg (knowsN (baseN f).1) (commsN (baseN f).1) (baseN f).1.length) _ (aliveN lg (baseN f).1, []) t ht
    have hl := getD_lt hs
    rw [alive_len] at hl
    rw [← alive_get hl]
    exact hs
  · have := elim_end (why := whyN lg (knowsN (baseN f).1) (commsN (baseN f).1) (baseN f).1.length) ((aliveN lg (baseN f).1).length + 1) (aliveN lg (baseN f).1, []) (by have := cnt_le (aliveN lg (baseN f).1); show cnt (aliveN lg (baseN f).1) < _; omega) t ht
    exact whyN_none this i h0 h1
/-- The types of a model's worlds are never taken away. -/
theorem start_holds (h : EngOk lg f) {M : KM} (hM : M.In lg) : Holds (baseN f).1 M (aliveN lg (baseN f).1) := fun t w ht hw => by
  rw [alive_get ht, coh_iff h.b ht]
  have hc := world_coh h.b.closed hM w
  refine ⟨fun n a b hm => ?_, fun hr n a hm hth => ?_⟩
  · rw [hw _ hm, hc.com n a b hm]
    constructor
    · intro k i hi hg
      rw [hw _ ((h.b.closed.com n a b hm).2.2.2.2.2 i hi hg)]
      exact k i hi hg
    · intro k i hi hg
      rw [← hw _ ((h.b.closed.com n a b hm).2.2.2.2.2 i hi hg)]
      exact k i hi hg
  · obtain ⟨_, hca, hla, _, _⟩ := h.b.closed.know n a hm
    rw [ev_num hw hca hla]
    exact hc.know hr n a hm (by rw [← hw _ hm]; exact hth)
theorem holds_set (h : EngOk lg f) {M : KM} (hM : M.In lg) (al : List Bool) (t : Nat) (i : Int) (hl : al.length = 2 ^ (baseN f).1.length) (hS : Holds (baseN f).1 M al) (hk : lacksN lg (knowsN (baseN f).1) (commsN (baseN f).1) al t i = true) : Holds (baseN f).1 M (al.set t false) := fun u w hu hw => by
  rw [set_getD]
  cases e : u == t
  · exact hS u w hu hw
  · have : u = t := by simpa using e
    subst this
    rw [world_keeps h.b hM h.l6 hl hS hu hw i] at hk
    cases hk
theorem end_holds (h : EngOk lg f) {M : KM} (hM : M.In lg) : Holds (baseN f).1 M (endN lg f).1 := by
  have := elim_keep (why := whyN lg (knowsN (baseN f).1) (commsN (baseN f).1) (baseN f).1.length) (S := fun al => al.length = 2 ^ (baseN f).1.length ∧ Holds (baseN f).1 M al)
    (fun al t i hS _ hw => ⟨by rw [List.length_set]; exact hS.1, holds_set h hM al t i hS.1 hS.2 (whyN_some hw)⟩) ((aliveN lg (baseN f).1).length + 1) (aliveN lg (baseN f).1, []) ⟨alive_len _ _, start_holds h hM⟩
  exact this.2
/-- Satisfiable tells the truth. -/
theorem sat_truth (h : EngOk lg f) : leftN lg f = true ↔ ∃ M : KM, M.In lg ∧ ∃ w, M.sat (treeOf f) w := by
  rw [left_iff h]
  constructor
  · rintro ⟨t, h1, h2⟩
    have hF := end_full h
    refine ⟨modT lg ((baseN f).1.map treeOf) (fun t => (endN lg f).1.getD t false = true) (th (baseN f).1), modT_in hF h.l6, ⟨t, h1⟩, ?_⟩
    exact (sat_exp (M := modT lg ((baseN f).1.map treeOf) (fun t => (endN lg f).1.getD t false = true) (th (baseN f).1)) (treeOf f) ⟨t, h1⟩).1 ((truth h.b.closed hF _ h.b.cov h.x.xp.lang h.x.xp.fact ⟨t, h1⟩).1 h2)
  · rintro ⟨M, hM, w, hw⟩
    obtain ⟨t, ht, htw⟩ := num_ex h.b w
    refine ⟨t, end_holds h hM t w ht htw, ?_⟩
    rw [ev_num htw h.b.cov h.x.xp.lang, evW w h.b.cov h.x.xp.lang, sat_exp]
    exact hw
/-- What elimination gives is accepted. -/
theorem check_end (h0 : engErr lg f = 0) (hs : leftN lg f = false) : checkT lg f ((endN lg f).2.map Prod.fst) ((endN lg f).2.map Prod.snd) = 0 := by
  unfold checkT
  have he : (engErr lg f != 0) = false := by simpa using h0
  have hl : (((endN lg f).2.map Prod.fst).length != ((endN lg f).2.map Prod.snd).length) = false := by simp
  rw [he, hl]
  simp only [cond_false]
  have hr : Replays (lacksN lg (knowsN (baseN f).1) (commsN (baseN f).1)) (aliveN lg (baseN f).1) (endN lg f) := by
    have h0 : Replays (lacksN lg (knowsN (baseN f).1) (commsN (baseN f).1)) (aliveN lg (baseN f).1) (aliveN lg (baseN f).1, []) := by
      unfold Replays
      simp only [List.map_nil, checkG]
    have := elim_replays (why := whyN lg (knowsN (baseN f).1) (commsN (baseN f).1) (baseN f).1.length) (fun al t i hw => whyN_some hw) ((aliveN lg (baseN f).1).length + 1) (aliveN lg (baseN f).1, []) h0
    unfold endN elimN
    exact this
  unfold Replays at hr
  rw [hr]
  show (bif satisfiedN (endN lg f).1 (rootN f) then (13 : Int) else 0) = 0
  unfold leftN at hs
  rw [hs]
  rfl
end
end Go.Proofs.YtbfeodammikajaaGreat

/- The parts of a tree; what a base's error depends on: the parts of the expansion. -/

namespace Go.Proofs.YtbfeodammikajaaGreat

def Part (s : Tr) : Tr → Prop
  | .leaf n => s = .leaf n
  | .one n a => s = .one n a ∨ Part s a
  | .two n a b => s = .two n a b ∨ Part s a ∨ Part s b
end Go.Proofs.YtbfeodammikajaaGreat

/- The plain law of TypesLogics: what is satisfiable in a logic is satisfiable in the logics with less conditions. -/

namespace Go.Proofs.YtbfeodammikajaaGreat

def lessL : List (Int × Int) := [(6, 5), (6, 4), (4, 2), (4, 3), (5, 3), (5, 1), (2, 1), (1, 0), (3, 0)]
theorem sat_err {lg : Int} {f : List Nd} (h : engErr lg f ≠ 0) : satN lg f = (false, engErr lg f) := by
  unfold satN
  rw [show (engErr lg f != 0) = true by simpa using h]
  rfl
theorem sat_ok {lg : Int} {f : List Nd} (h : engErr lg f = 0) : satN lg f = (leftN lg f, 0) := by
  unfold satN
  rw [show (engErr lg f != 0) = false by simpa using h]
  rfl
end Go.Proofs.YtbfeodammikajaaGreat

/- The errors of a formula, told by its tree; the plain law of TypesDual. -/

namespace Go.Proofs.YtbfeodammikajaaGreat

theorem bits_mask : ∀ (l : List Nd), (∀ n ∈ l, (fragOf n.op).toNat &&& 500 = 0) → fragMask l &&& 500 = 0 := by
  have key : ∀ (l : List Nd) (m : Nat), m &&& 500 = 0 → (∀ n ∈ l, (fragOf n.op).toNat &&& 500 = 0) → (l.foldl (fun m n => m ||| (fragOf n.op).toNat) m) &&& 500 = 0 := by
    intro l
    induction l with
    | nil => intro m h _; exact h
    | cons a r ih =>
      intro m h hl
      refine ih _ ?_ (fun n hn => hl n (List.mem_cons_of_mem _ hn))
      rw [Nat.and_or_distrib_right, h, hl a (List.mem_cons_self ..)]
      rfl
  intro l h
  exact key l 0 (by decide) h
theorem lang_of {f : List Nd} (hl : ∀ n ∈ compactN f, tyOp n.op) : langBad f = false := by
  unfold langBad fragsN
  have := bits_mask (compactN f) fun n hn => by
    have ho := hl n hn
    have : n.op = 1 ∨ n.op = 2 ∨ n.op = 3 ∨ n.op = 4 ∨ n.op = 5 ∨ n.op = 6 ∨ n.op = 7 ∨ n.op = 8 ∨ n.op = 9 ∨ n.op = 10 ∨ n.op = 11 ∨ n.op = 13 := by unfold tyOp at ho; omega
    rcases this with h | h | h | h | h | h | h | h | h | h | h | h <;> (rw [h]; decide)
  rw [this]
  rfl
theorem baseOf_err (g : List Nd) : (baseOfN g).2 = 0 ∨ (baseOfN g).2 = 8 := by
  unfold baseOfN
  cases ((base0 g).flatMap unfsN).any (fun u => decide (u.length = 0)) || decide (12 < (((base0 g).flatMap unfsN).foldl addF (base0 g)).length)
  · exact .inl rfl
  · exact .inr rfl
end Go.Proofs.YtbfeodammikajaaGreat

/- The plain law of TypesDual. -/

namespace Go.Proofs.YtbfeodammikajaaGreat

/-- A connective of two formulas. -/
def tw (k : Int) (s t : Tr) : Tr := .two ⟨k, 0, 0, 0, 0, 0⟩ s t
def ng (s : Tr) : Tr := .one ⟨4, 0, 0, 0, 0, 0⟩ s
section
variable {k j : Int} {s t : Tr}
structure Dual2 (f g : List Nd) : Prop where
  cA : check (andN f g) = 0
  tA : treeOf (andN f g) = tw 5 (treeOf f) (treeOf g)
  cO : check (orN f g) = 0
  tO : treeOf (orN f g) = tw 6 (treeOf f) (treeOf g)
  cN : check (notN f) = 0
  tN : treeOf (notN f) = ng (treeOf f)
  eF : (baseN f).2 = 0
  eG : (baseN g).2 = 0
  eN : (baseN (notN f)).2 = 0
end
/-- A model with one world. -/
def unitM : KM := ⟨Unit, fun _ _ _ => True, fun _ _ => False⟩
end Go.Proofs.YtbfeodammikajaaGreat

/- The plain law of TypesCommon. -/

namespace Go.Proofs.YtbfeodammikajaaGreat

def everyN (g : Int) (f : List Nd) : List Nd := buildN ⟨11, 0, 0, g, 0, 0⟩ [f]
theorem head_78 (k : Int) (hk : k = 7 ∨ k = 8) : headOk ⟨k, 0, 0, 0, 0, 0⟩ := by rcases hk with rfl | rfl <;> exact ⟨rfl, rfl, rfl, fun _ => rfl, fun _ => rfl⟩
theorem head_g (k : Int) (hk : k = 11 ∨ k = 13) {g : Int} (h0 : 1 ≤ g) (h1 : g ≤ 3) : headOk ⟨k, 0, 0, g, 0, 0⟩ := by
  have hg : g = 1 ∨ g = 2 ∨ g = 3 := by omega
  rcases hk with rfl | rfl <;> rcases hg with rfl | rfl | rfl <;> exact ⟨rfl, rfl, rfl, fun _ => rfl, fun _ => rfl⟩
def fact0 : List Nd := factN 0
def comF (g : Int) (x : List Nd) : List Nd := commonN g x fact0
def stepF (g : Int) (x : List Nd) : List Nd := everyN g (impN x (andN fact0 (comF g x)))
def com1 (g : Int) (x : List Nd) : List Nd := iffN (comF g x) (stepF g x)
def com2 (g : Int) (x : List Nd) : List Nd := impN (comF g x) (everyN g (impN x fact0))
section
variable {g : Int} {x : List Nd} {M : KM} {w : M.W}
end
end Go.Proofs.YtbfeodammikajaaGreat

/- Formulas in a row of the call's own. -/

namespace Go.Proofs.YtbfeodammikajaaGreat
open Go.RowKit

/-- A value's block is not the row's, and lies from m on. -/
def Away (m : Nat) (w : World) (vo u : Value) : Prop := ∀ g, u.ownBlock = some g → g < w.heap.size ∧ vo.ownBlock ≠ some g ∧ m ≤ g
theorem Away.ext {m : Nat} {w w' : World} {vo u : Value} (h : Away m w vo u) (he : Ext w w') : Away m w' vo u := fun g hg => ⟨Nat.lt_of_lt_of_le (h g hg).1 he.size, (h g hg).2⟩
theorem tInfoF2 : (Tryz.prog.info? 22).map (fun i => (i.zero, i.size, i.bytes)) = some (some (.slice none 0 0), 1, 24) := by kernel_rfl
theorem Nds.keepF {w w' : World} {v : Value} {l : List Nd} (h : Nds w v l) (hb : ∀ g, v.ownBlock = some g → g < w.heap.size → w'.heap[g]? = w.heap[g]?) (hs : w.heap.size ≤ w'.heap.size) : Nds w' v l := by
  obtain ⟨A, c, rfl, h1, h2, h3⟩ := h
  refine ⟨A, c, rfl, h1, h2, fun hn => ?_⟩
  obtain ⟨ad, rfl, hlt, hc⟩ := h3 hn
  refine ⟨ad, rfl, Nat.lt_of_lt_of_le hlt hs, fun k n hk => (hc k n hk).keep fun p hp => World.cell?_of_block ?_⟩
  rw [hp, block_of_add]
  exact hb ad.block rfl hlt
/-- Formulas in a row of the call's own. -/
structure FRow (w0 w : World) (vo : Value) (out : List (List Nd)) : Prop where
  ext : Ext w0 w
  row : ∃ us, w.ownsRow w0.heap.size 22 1 vo out.length us ∧ ∀ (k : Nat) (s : List Nd), out[k]? = some s → ∃ u, us[k]? = some u ∧ Fml w u s ∧ Away w0.heap.size w vo u
theorem FRow.ext_ {w0 w w' : World} {vo : Value} {out : List (List Nd)} (h : FRow w0 w vo out) (he : Ext w w') : FRow w0 w' vo out := by
  obtain ⟨us, hr, hu⟩ := h.row
  refine ⟨h.ext.trans he, us, row_ext hr he, fun k s hk => ?_⟩
  obtain ⟨u, a, b, c⟩ := hu k s hk
  exact ⟨u, a, b.ext he, c.ext he⟩
theorem FRow.nil (w : World) : FRow w w (.slice none 0 0) [] := ⟨Ext.refl _, [], World.ownsRow_nil _ _ _ _, fun k s h => by simp at h⟩
theorem row1_cellsF {w : World} {base n : Nat} {t : TypeId} {v : Value} {us : List Value} (h : w.ownsRow base t 1 v n us) (hn : 0 < n) :
    ∃ g cap, v = .slice (some ⟨g, 0, none⟩) n cap ∧ g < w.heap.size ∧ n ≤ cap ∧ cap ≤ maxLen ∧ ∀ i z, us[i]? = some z → w.cell? ⟨g, i, none⟩ = some z := by
  rcases h.2 with ⟨_, h0⟩ | ⟨g, cap, cur, rfl, _, hg, hnc, hm, hs, ht⟩
  · omega
  · refine ⟨g, cap, rfl, lt_heap hg, hnc, hm, fun i z h1 => ?_⟩
    rw [← ht, List.getElem?_take] at h1
    split at h1
    · have h2 : cur[i]? = some z := by simpa using h1
      simp [World.cell?, hg, h2]
    · cases h1
/-- What lies in the row lies in blocks of the call's own: so it stays where these blocks stay. -/
theorem FRow.keep {w0 w w' : World} {vo : Value} {out : List (List Nd)} (h : FRow w0 w vo out) (hb : ∀ g, w0.heap.size ≤ g → g < w.heap.size → w'.heap[g]? = w.heap[g]?) (hs : w.heap.size ≤ w'.heap.size) (he : Ext w0 w') : FRow w0 w' vo out := by
  obtain ⟨us, hr, hu⟩ := h.row
  refine ⟨he, us, ⟨hr.1, ?_⟩, fun k s hk => ?_⟩
  · rcases hr.2 with h0 | ⟨g, cap, cur, e, h1, h2, h3, h4, h5, h6⟩
    · exact .inl h0
    · exact .inr ⟨g, cap, cur, e, h1, (hb g h1 (lt_heap h2)).trans h2, h3, h4, h5, h6⟩
  · obtain ⟨u, a, b, c⟩ := hu k s hk
    exact ⟨u, a, ⟨b.1.keepF (fun g hg _ => hb g (c g hg).2.2 (c g hg).1) hs, b.2⟩, fun g hg => ⟨Nat.lt_of_lt_of_le (c g hg).1 hs, (c g hg).2⟩⟩
theorem FRow.fmls {w0 w : World} {vo : Value} {out : List (List Nd)} (h : FRow w0 w vo out) : Fmls w vo out := by
  obtain ⟨ss, hs, hv⟩ := h.row
  by_cases h0 : 0 < out.length
  · obtain ⟨g, cap, rfl, hg, h1, h2, hc⟩ := row1_cellsF hs h0
    refine ⟨_, cap, rfl, h1, h2, fun _ => ⟨_, rfl, hg, fun k f hk => ?_⟩⟩
    obtain ⟨u, a, b, _⟩ := hv k f hk
    exact ⟨u, by rw [addr_zero]; exact hc k u a, b⟩
  · have e : out = [] := List.length_eq_zero_iff.1 (by omega)
    subst e
    obtain ⟨A, c, rfl⟩ := slice_of_row hs
    rcases hs.2 with ⟨e, _⟩ | ⟨g, cap, cur, e, _, _, hn, hm, _⟩
    · injection e with e1 _ e2
      subst e1 e2
      exact ⟨_, _, rfl, Nat.le_refl _, by unfold maxLen; omega, fun h => absurd rfl h⟩
    · injection e with e1 _ e2
      subst e1 e2
      exact ⟨_, _, rfl, Nat.zero_le _, hm, fun h => absurd rfl h⟩
theorem FRow.push {w0 W w4 : World} {vo v' x : Value} {out : List (List Nd)} {s : List Nd} {ss : List Value} (he : Ext w0 W) (hs : W.ownsRow w0.heap.size 22 1 vo out.length ss) (hv : ∀ (k : Nat) (s : List Nd), out[k]? = some s → ∃ u, ss[k]? = some u ∧ Fml W u s ∧ Away w0.heap.size W vo u)
    (hrow : w4.ownsRow w0.heap.size 22 1 v' (out.length + 1) (ss ++ [x])) (hg : W.grownBy w4 vo.ownBlock) (hat : v'.ownBlock = vo.ownBlock ∨ v'.ownBlock = some W.heap.size) (hx : Fml W x s) (hxf : Away w0.heap.size W vo x) :
    FRow w0 w4 v' (out ++ [s]) := by
  have hlen : ss.length = out.length := by simpa using hs.1
  have hkeep : ∀ g, g < W.heap.size → vo.ownBlock ≠ some g → w4.heap[g]? = W.heap[g]? := fun g h1 h2 => hg.block g h1 (fun e => h2 e.symm)
  have haway : ∀ u, Away w0.heap.size W vo u → Away w0.heap.size w4 v' u := fun u hu g hgu => by
    obtain ⟨a, b, hm⟩ := hu g hgu
    refine ⟨Nat.lt_of_lt_of_le a hg.size, fun e => ?_, hm⟩
    rcases hat with e1 | e1
    · exact b (e1.symm.trans e)
    · rw [e1] at e; injection e with e; omega
  have hfml : ∀ u s, Away w0.heap.size W vo u → Fml W u s → Fml w4 u s := fun u s ha hi => ⟨hi.1.keepF (fun g hg' _ => hkeep g (ha g hg').1 (ha g hg').2.1) hg.size, hi.2⟩
  refine ⟨he.grown hg (fun g hg' => (hs.lt g hg').1), ss ++ [x], by rw [List.length_append]; exact hrow, fun k s' hk => ?_⟩
  by_cases hk' : k < out.length
  · rw [List.getElem?_append_left hk'] at hk
    obtain ⟨u, a, b, c⟩ := hv k s' hk
    exact ⟨u, by rw [List.getElem?_append_left (by omega)]; exact a, hfml u s' c b, haway u c⟩
  · rw [List.getElem?_append_right (by omega)] at hk
    have hk0 : k = out.length := by
      by_cases e : k - out.length = 0
      · omega
      · rw [List.getElem?_eq_none (by simp; omega)] at hk; cases hk
    subst hk0
    simp at hk
    subst hk
    exact ⟨x, by rw [List.getElem?_append_right (by omega), hlen]; simp, hfml x _ hxf hx, haway x hxf⟩
theorem made_away {w W : World} {vo x : Value} {B n k : Nat} {us zs : List Value} {e : TypeId} {sz m : Nat} (hB : w.heap.size ≤ B) (hx : W.ownsRow B e sz x n zs) (hs : w.ownsRow m 22 1 vo k us) (hm : m ≤ w.heap.size) : Away m W vo x := fun g hg => by
  obtain ⟨h1, h2⟩ := hx.lt g hg
  exact ⟨h2, fun e => by have := (hs.lt g e).2; omega, by omega⟩
end Go.Proofs.YtbfeodammikajaaGreat

/- slices.IndexFunc at lists of nodes with a test of any function. -/

namespace Go.Proofs.YtbfeodammikajaaGreat
open Go.RowKit

/-- The first place at which a test holds, or -1. -/
def findN (p : List Nd → Bool) (l : List (List Nd)) : Int := match l.findIdx? p with | none => -1 | some j => j
theorem findIdx_hit (p : List Nd → Bool) : ∀ (l : List (List Nd)) (k : Nat) (s : List Nd), l[k]? = some s → p s = true → (∀ t ∈ l.take k, p t = false) → l.findIdx? p = some k
  | [], k, s, h, _, _ => by simp at h
  | a :: r, 0, s, h, hp, _ => by
    simp only [List.getElem?_cons_zero, Option.some.injEq] at h
    subst h
    rw [List.findIdx?_cons, hp]
    rfl
  | a :: r, k + 1, s, h, hp, hn => by
    have ha : p a = false := hn a (by simp)
    rw [List.findIdx?_cons, ha, findIdx_hit p r k s (by simpa using h) hp (fun t ht => hn t (by simp [ht]))]
    rfl
theorem findIdx_miss (p : List Nd → Bool) : ∀ (l : List (List Nd)), (∀ t ∈ l, p t = false) → l.findIdx? p = none
  | [], _ => by simp
  | a :: r, hn => by
    rw [List.findIdx?_cons, hn a (by simp), findIdx_miss p r (fun t ht => hn t (by simp [ht]))]
    rfl
set_option maxRecDepth 100000 in
set_option maxHeartbeats 4000000 in
theorem indexF_any (g : Nat) (lb : Array Value) (eg : ∀ args w, (callFunc g args).run Tryz.prog w = .ok (.enter g args) w) (p : List Nd → Bool) (v : Value) (l : List (List Nd)) (w : World) (h : Fmls w v l)
    (hp : ∀ (W : World) (u : Value) (s : List Nd), Ext w W → Fml W u s → Calls Tryz.prog g (#[u] ++ lb) W fun e w' => e = .returned (.bool (p s)) ∧ Ext W w') :
    Calls Tryz.prog 129 #[v, .func (.func g) #[] lb] w fun e w' => e = .returned (.int .i64 (findN p l)) ∧ Ext w w' := by
  obtain ⟨A, c, rfl, hcap, hmax, hr⟩ := h
  unfold maxLen at hmax
  have HR := Lib.hid hr
  have HP := Lib.hid hp
  clear hr hp
  go_enter Tryz.func129, Tryz.ntmps129
  go_wp2_with fail
  go_loopw [5, 8] (fun _ i wr => ∃ k : Nat, k ≤ l.length ∧ i = .int .i64 (k : Int) ∧ Hid (∀ t ∈ l.take k, p t = false) ∧ Hid (Ext w wr)) (fun _ i _ => l.length - (intOf i).toNat)
  case atStart => exact ⟨0, Nat.zero_le _, rfl, Lib.hid (by simp), Lib.hid (Ext.refl _)⟩
  case round =>
    obtain ⟨k, hk, rfl, HNI, HX⟩ := hrel
    by_cases hlt2 : k < l.length
    · obtain ⟨s, hs⟩ : ∃ s, l[k]? = some s := ⟨_, List.getElem?_eq_getElem hlt2⟩
      obtain ⟨ad, rfl, hb1, hc1⟩ := HR.out (by intro e; rw [e] at hlt2; simp at hlt2)
      obtain ⟨u, hu, hf⟩ := hc1 k s hs
      have a0 := (HX.out.cell (p := ad.add k) (by rw [block_of_add]; exact hb1)).trans hu
      have HF := Lib.hid (hf.ext HX.out)
      have HA := Lib.hid hs
      have hk1 : (k : Int) < (l.length : Int) := by omega
      clear hs hc1 hf hu
      cases hps : p s
      · have HT : Hid (∀ t ∈ l.take (k + 1), p t = false) := Lib.hid (by
          rw [take_succ_eq HA.out]
          intro t ht
          rcases List.mem_append.1 ht with ht | ht
          · exact HNI.out t ht
          · rw [List.mem_singleton.1 ht]; exact hps)
        go_wp2_with (refine (HP.out _ u s (by exact HX.out.trans (by repeat (first | exact Ext.refl _ | assumption | apply Ext.alloc | apply Ext.drew))) (by exact HF.out.ext (by repeat (first | exact Ext.refl _ | assumption | apply Ext.alloc | apply Ext.drew)))).mono ?_; rintro e w1 ⟨rfl, hx⟩; rw [hps])
        go_roundw
        case rel => exact ⟨k + 1, by omega, by go_num, HT, Lib.hid (HX.out.trans (by first | exact hx | exact Ext.trans (by repeat (first | exact Ext.refl _ | assumption | apply Ext.alloc | apply Ext.drew)) hx))⟩
        case measure => simp [intOf]; omega
      · have HE := Lib.hid (show findN p l = (k : Int) by unfold findN; rw [findIdx_hit p l k s HA.out hps HNI.out])
        go_wp2_with (refine (HP.out _ u s (by exact HX.out.trans (by repeat (first | exact Ext.refl _ | assumption | apply Ext.alloc | apply Ext.drew))) (by exact HF.out.ext (by repeat (first | exact Ext.refl _ | assumption | apply Ext.alloc | apply Ext.drew)))).mono ?_; rintro e w1 ⟨rfl, hx⟩; rw [hps])
        go_ret
        exact ⟨by rw [HE.out] <;> rfl, HX.out.trans (by first | exact hx | exact Ext.trans (by repeat (first | exact Ext.refl _ | assumption | apply Ext.alloc | apply Ext.drew)) hx)⟩
    · obtain rfl : l.length = k := by omega
      have HE := Lib.hid (show findN p l = -1 by
        unfold findN
        rw [findIdx_miss p l (fun t ht => HNI.out t (by rw [List.take_of_length_le (Nat.le_refl _)]; exact ht))])
      go_wp2_with fail
      go_ret
      exact ⟨by rw [HE.out] <;> rfl, HX.out⟩
end Go.Proofs.YtbfeodammikajaaGreat

/- formula.join, All, Subs; types' top, unfolded, index: the walks. -/

namespace Go.Proofs.YtbfeodammikajaaGreat
open Go.RowKit

theorem fold_step {l : List (List Nd)} {k : Nat} {s : List Nd} (h : l[k]? = some s) (a : List Nd) : (l.take (k + 1)).foldl andN a = andN ((l.take k).foldl andN a) s := by
  rw [take_succ_eq h, List.foldl_append]
  rfl
theorem add_succ' (ad : Addr) (k : Nat) : ad.add (k + 1) = ⟨ad.block, ad.off + 1 + k, none⟩ := by
  unfold Addr.add
  simp
  omega
theorem drop_get {α : Type} {x : α} {r : List α} {k : Nat} {s : α} (h : r[k]? = some s) : (x :: r)[k + 1]? = some s := by simpa using h
set_option maxRecDepth 100000 in
set_option maxHeartbeats 4000000 in
theorem joinA_any (v1 v2 : Value) (l : List (List Nd)) (e0 : List Nd) (wb w : World) (h1 : Fmls w v1 l) (hm2 : Made wb w v2 e0) :
    Calls Tryz.prog 156 #[v1, v2, .func (Fn.func 119) #[] #[]] w fun e w' => ∃ u, e = .returned u ∧ Made wb w' u (conjN e0 l) := by
  have H1 := Lib.hid h1
  have H2 := Lib.hid hm2
  have h2 := hm2.fml
  obtain ⟨A, c, rfl, hcap, hmax, hr⟩ := h1
  obtain ⟨A2, c2, rfl, _⟩ := fml_slice h2
  unfold maxLen at hmax
  have HR := Lib.hid hr
  clear hr h2 hm2
  cases l with
  | nil =>
    go_enter Tryz.func156, Tryz.ntmps156
    go_wp2_with fail
    go_ret
    exact ⟨_, rfl, H2.out⟩
  | cons f r =>
    obtain ⟨ad, rfl, hb1, hc1⟩ := HR.out (by simp)
    obtain ⟨u0, hu0, hf0⟩ := hc1 0 f rfl
    have HC := Lib.hid hc1
    have HF0 := Lib.hid hf0
    have hu0' : w.cell? ad = some u0 := by rw [← hu0]; congr 1
    clear hc1 hf0 HR H1 hu0
    obtain ⟨m, hm⟩ : ∃ m, m = r.length := ⟨_, rfl⟩
    rw [show (f :: r).length = m + 1 by simp [hm]] at hcap ⊢
    have HM := Lib.hid hm
    have hl1 : (((m + 1 : Nat) : Int) == 0) = false := by rw [beq_eq_false_iff_ne]; omega
    have hl4 : (((m : Nat) : Int) + 1 == 0) = false := by rw [beq_eq_false_iff_ne]; omega
    have hl2 : (0 : Int) < ((m + 1 : Nat) : Int) := by omega
    clear hm
    by_cases hcc : c = 1
    · subst hcc
      obtain rfl : 0 = m := by omega
      go_enter Tryz.func156, Tryz.ntmps156
      go_wp2_with fail
      refine (compactF_any _ f _ HF0.out).mono ?_
      rintro e w1 ⟨u, rfl, hm⟩
      have HM1 := Lib.hid hm
      clear hm
      go_wp2_with fail
      have HR0 := Lib.hid (List.length_eq_zero_iff.1 HM.out.symm)
      go_loopw [7, 21] (fun vf vi wr => vi = .int .i64 0 ∧ vf = u ∧ Hid (Ext w1 wr)) (fun _ i _ => 0)
      case atStart => exact ⟨rfl, rfl, Lib.hid (Ext.refl _)⟩
      case round =>
        obtain ⟨rfl, rfl, HX⟩ := hrel
        go_wp2_with fail
        go_ret
        exact ⟨_, rfl, by rw [HR0.out]; exact (HM1.out.before H2.out.ext).after HX.out⟩
    · have hcc2 : 1 < c := by omega
      go_enter Tryz.func156, Tryz.ntmps156
      go_wp2_with fail
      refine (compactF_any _ f _ HF0.out).mono ?_
      rintro e w1 ⟨u, rfl, hm⟩
      have HM1 := Lib.hid hm
      clear hm
      go_wp2_with fail
      go_loopw [7, 21] (fun vf vi wr => ∃ k : Nat, k ≤ m ∧ vi = .int .i64 (k : Int) ∧ Hid (Made w wr vf ((r.take k).foldl andN (compactN f)))) (fun _ i _ => m - (intOf i).toNat)
      case atStart => exact ⟨0, Nat.zero_le _, rfl, HM1⟩
      case round =>
        obtain ⟨k, hk, rfl, HREL⟩ := hrel
        have HX := Lib.hid HREL.out.ext
        have HF := Lib.hid HREL.out.fml
        obtain ⟨Af, cf, rfl, _⟩ := fml_slice HREL.out.fml
        by_cases hlt2 : k < m
        · obtain ⟨s, hs⟩ : ∃ s, r[k]? = some s := ⟨_, List.getElem?_eq_getElem (by rw [← HM.out]; exact hlt2)⟩
          obtain ⟨us, hus, hfs⟩ := HC.out (k + 1) s (drop_get hs)
          rw [add_succ'] at hus
          have a0 := (HX.out.cell (p := ⟨ad.block, ad.off + 1 + k, none⟩) hb1).trans hus
          have HFS := Lib.hid (hfs.ext HX.out)
          have HS := Lib.hid hs
          obtain ⟨As, cs, rfl, _⟩ := fml_slice hfs
          clear hs hfs hus
          go_wp2_with fail
          refine (and_any _ _ _ _ _ HF.out HFS.out).mono ?_
          rintro e w2 ⟨u2, rfl, hm2⟩
          have HM2 := Lib.hid hm2
          clear hm2
          go_wp2_with fail
          go_roundw
          case rel => exact ⟨k + 1, by omega, by go_num, Lib.hid (by rw [fold_step HS.out]; exact HM2.out.before HX.out)⟩
          case measure => simp [intOf]; omega
        · obtain rfl : m = k := by omega
          have HE := Lib.hid (show r.take m = r by rw [HM.out]; exact List.take_of_length_le (Nat.le_refl _))
          go_wp2_with fail
          go_ret
          refine ⟨.slice Af ((r.take m).foldl andN (compactN f)).length cf, rfl, ?_⟩
          have := HREL.out
          rw [HE.out] at this ⊢
          exact this.before H2.out.ext
set_option maxRecDepth 100000 in
set_option maxHeartbeats 2000000 in
theorem all_any (v : Value) (l : List (List Nd)) (w : World) (h : Fmls w v l) :
    Calls Tryz.prog 118 #[v] w fun e w' => ∃ u, e = .returned u ∧ Made w w' u (allN l) := by
  have H := Lib.hid h
  obtain ⟨A, c, rfl, hcap, hmax, hr⟩ := h
  clear hcap hmax hr
  go_enter Tryz.func118, Tryz.ntmps118
  go_wp2_with fail
  refine (true_any _).mono ?_
  rintro e w1 ⟨u, rfl, hm⟩
  have HM := Lib.hid hm
  clear hm
  go_wp2_with fail
  refine (joinA_any _ _ l _ _ _ (H.out.ext HM.out.ext) HM.out).mono ?_
  rintro e w2 ⟨u2, rfl, hm2⟩
  have HM2 := Lib.hid hm2
  clear hm2
  go_wp2_with fail
  go_ret
  exact ⟨_, rfl, HM2.out⟩
/-- A store of what is there. -/
theorem setCell_id {w : World} {b j : Nat} {cs : Array Value} {t : TypeId} {fr : Nat × Nat} {v : Value} (h : w.heap[b]? = some (.cells cs t fr)) (hv : cs[j]? = some v) : w.setCell ⟨b, j, none⟩ v = w := by
  have e : (w.setCell ⟨b, j, none⟩ v).heap = w.heap := by
    refine Array.ext_getElem? fun i => ?_
    simp only [World.setCell, Array.getElem?_modify]
    by_cases hb : b = i
    · subst hb
      rw [h]
      simp only [if_true, Option.map_some, Option.some.injEq, Obj.cells.injEq, and_true, Option.isSome_none]
      show cs.setIfInBounds j v = cs
      refine Array.ext_getElem? fun k => ?_
      rw [Array.getElem?_setIfInBounds]
      by_cases hk : j = k
      · subst hk
        rw [if_pos rfl]
        split
        · exact hv.symm
        · rename_i hn
          rw [Array.getElem?_eq_none (by omega)]
      · rw [if_neg hk]
    · rw [if_neg hb]
  unfold World.setCell at e ⊢
  simp only at e ⊢
  rw [e]
theorem results_ctt {P : Program} {fn : Func} {t u v : Tmp} {ty : TypeId} (h : fn.results = #[.cell t ty, .tmp u, .tmp v]) (tmps : Array Value) (w : World) {b o : Nat} (ht : tmps.getD t undef = .pointer (some ⟨b, o, none⟩)) {cs : List Value} {d : TypeDesc} (hc : w.rangeAt b o cs)
    (hu : P.underlying ty = some d) (hd : d.isRow = true) (hi : (P.info? ty).map (·.size) = some cs.length) : (results fn tmps).run P w = .ok (.tuple #[.agg cs.toArray, tmps.getD u undef, tmps.getD v undef]) w := by
  have ht' : tmps[t]?.getD undef = .pointer (some ⟨b, o, none⟩) := by rw [← Array.getD_eq_getD_getElem?]; exact ht
  simp [results, h, ht', asAddr, run_loadVar_mid w b o ty cs d hc hu hd hi]
theorem range_of {w : World} {b : Nat} {cs : Array Value} {t : TypeId} (h : w.heap[b]? = some (.cells cs t (0, 0))) : w.rangeAt b 0 cs.toList := fun j v hj => by
  have : cs[j]? = some v := by simpa using hj
  simp [World.cell?, h, this]
/-- The first part and the second part of the last node, as types' top gives them. -/
def topA (f : List Nd) : List Nd := bif decide (4 ≤ (lastN f).op) then subN f (lastN f).x else []
def topB (f : List Nd) : List Nd := bif (lastN f).op == 13 then subN f (lastN f).y else []
theorem fml_none (w : World) : Fml w (.slice none 0 0) [] := ⟨⟨none, 0, rfl, Nat.le_refl _, by unfold maxLen; omega, fun h => absurd rfl h⟩, by simp⟩
set_option maxRecDepth 100000 in
set_option maxHeartbeats 4000000 in
theorem top_any (v : Value) (f : List Nd) (w : World) (h : Fml w v f) (h0 : 0 < f.length) :
    Calls Tryz.prog 49 #[v] w fun e w' => ∃ u1 u2, e = .returned (.tuple #[(lastN f).val, u1, u2]) ∧ Ext w w' ∧ Fml w' u1 (topA f) ∧ Fml w' u2 (topB f) := by
  have H := Lib.hid h
  obtain ⟨⟨A, c, rfl, hcap, hmax, hread⟩, hok⟩ := h
  unfold maxLen at hmax
  obtain ⟨ad, rfl, hlt, hcells⟩ := hread (by intro e; rw [e] at h0; simp at h0)
  have hlast := lastN_get h0
  obtain ⟨c0, c1, c2, c3, c4, c5⟩ := hcells _ _ hlast
  have hi1 : ((f.length : Int) - 1) < (f.length : Int) := by omega
  have hi0 : (0 : Int) ≤ (f.length : Int) - 1 := by omega
  have e1 : ((f.length : Int) - 1).toNat = f.length - 1 := by omega
  have hblk : (ad.add ((f.length - 1) * 6)).block < w.heap.size := by rw [block_of_add]; exact hlt
  clear hread hok hcells hlast
  obtain ⟨nn, hnn⟩ : ∃ nn, nn = lastN f := ⟨_, rfl⟩
  rw [← hnn] at c0 c1 c2 c3 c4 c5
  have HA := Lib.hid (show topA f = bif decide (4 ≤ nn.op) then subN f nn.x else [] by rw [hnn]; rfl)
  have HB := Lib.hid (show topB f = bif nn.op == 13 then subN f nn.y else [] by rw [hnn]; rfl)
  have HN := Lib.hid hnn
  clear hnn
  have HX0 := Lib.hid (show Ext w (w.alloc (.cells #[.int .i64 nn.op, .int .i64 nn.i, .int .i64 nn.e, .int .i64 nn.g, .int .i64 nn.x, .int .i64 nn.y] 93)) from (Ext.refl _).alloc _)
  have HW0 := Lib.hid (show (w.alloc (.cells #[.int .i64 nn.op, .int .i64 nn.i, .int .i64 nn.e, .int .i64 nn.g, .int .i64 nn.x, .int .i64 nn.y] 93)).heap[w.heap.size]? = some (.cells #[.int .i64 nn.op, .int .i64 nn.i, .int .i64 nn.e, .int .i64 nn.g, .int .i64 nn.x, .int .i64 nn.y] 93 (0, 0)) from heap_alloc_new _ _)
  have hval : nn.val = .agg [.int .i64 nn.op, .int .i64 nn.i, .int .i64 nn.e, .int .i64 nn.g, .int .i64 nn.x, .int .i64 nn.y].toArray := rfl
  have HV := Lib.hid hval
  clear hval
  by_cases h4 : 4 ≤ nn.op
  · by_cases h13 : nn.op = 13
    · have HR1 := Lib.hid (show topA f = subN f nn.x by rw [HA.out, decide_eq_true h4]; rfl)
      have HR2 := Lib.hid (show topB f = subN f nn.y by rw [HB.out, show (nn.op == 13) = true by rw [h13]; rfl]; rfl)
      have hd : (nn.op == 13) = true := by rw [h13]; rfl
      clear h13
      go_enter Tryz.func49, Tryz.ntmps49
      go_wp2_with fail
      refine (sub_any _ f nn.x _ (H.out.ext HX0.out)).mono ?_
      rintro e w1 ⟨u1, rfl, hm1⟩
      have HM1 := Lib.hid hm1
      obtain ⟨⟨k0, k1, k2, k3, k4, k5⟩, _, kb⟩ := cells6 ((hm1.ext.block (by simp)).trans HW0.out)
      clear hm1
      go_wp2_with fail
      refine (sub_any _ f nn.y _ (H.out.ext (HX0.out.trans HM1.out.ext))).mono ?_
      rintro e w2 ⟨u2, rfl, hm2⟩
      have HM2 := Lib.hid hm2
      have HZ := Lib.hid (show w2.heap[w.heap.size]? = some (.cells #[.int .i64 nn.op, .int .i64 nn.i, .int .i64 nn.e, .int .i64 nn.g, .int .i64 nn.x, .int .i64 nn.y] 93 (0, 0)) from (hm2.ext.block (by omega)).trans ((HM1.out.ext.block (by simp)).trans HW0.out))
      obtain ⟨⟨q0, q1, q2, q3, q4, q5⟩, qf, qb⟩ := cells6 HZ.out
      clear hm2
      go_wp2_with fail
      (try simp only [Exit.inBlock, Exit.then])
      rw [show (w2).setCell ⟨w.heap.size, 0, none⟩ (.int .i64 nn.op) = w2 from setCell_id HZ.out rfl, show (w2).setCell ⟨w.heap.size, 1, none⟩ (.int .i64 nn.i) = w2 from setCell_id HZ.out rfl, show (w2).setCell ⟨w.heap.size, 2, none⟩ (.int .i64 nn.e) = w2 from setCell_id HZ.out rfl, show (w2).setCell ⟨w.heap.size, 3, none⟩ (.int .i64 nn.g) = w2 from setCell_id HZ.out rfl, show (w2).setCell ⟨w.heap.size, 4, none⟩ (.int .i64 nn.x) = w2 from setCell_id HZ.out rfl, show (w2).setCell ⟨w.heap.size, 5, none⟩ (.int .i64 nn.y) = w2 from setCell_id HZ.out rfl]
      refine bodyPost_ret (results_ctt Tryz.results49 _ _ rfl (range_of HZ.out) Tryz.underlying93 rfl (by kernel_rfl)) rfl ?_
      exact ⟨u1, u2, by rw [← HN.out, HV.out] <;> rfl, HX0.out.trans (HM1.out.ext.trans HM2.out.ext), by rw [HR1.out]; exact HM1.out.fml.ext HM2.out.ext, by rw [HR2.out]; exact HM2.out.fml⟩
    · have hd : (nn.op == 13) = false := by simpa using h13
      have HR1 := Lib.hid (show topA f = subN f nn.x by rw [HA.out, decide_eq_true h4]; rfl)
      have HR2 := Lib.hid (show topB f = [] by rw [HB.out, hd]; rfl)
      clear h13
      go_enter Tryz.func49, Tryz.ntmps49
      go_wp2_with fail
      refine (sub_any _ f nn.x _ (H.out.ext HX0.out)).mono ?_
      rintro e w2 ⟨u1, rfl, hm1⟩
      have HM1 := Lib.hid hm1
      have HZ := Lib.hid (show w2.heap[w.heap.size]? = some (.cells #[.int .i64 nn.op, .int .i64 nn.i, .int .i64 nn.e, .int .i64 nn.g, .int .i64 nn.x, .int .i64 nn.y] 93 (0, 0)) from (hm1.ext.block (by simp)).trans HW0.out)
      obtain ⟨⟨q0, q1, q2, q3, q4, q5⟩, qf, kb⟩ := cells6 HZ.out
      clear hm1
      go_wp2_with fail
      (try simp only [Exit.inBlock, Exit.then])
      rw [show (w2).setCell ⟨w.heap.size, 0, none⟩ (.int .i64 nn.op) = w2 from setCell_id HZ.out rfl, show (w2).setCell ⟨w.heap.size, 1, none⟩ (.int .i64 nn.i) = w2 from setCell_id HZ.out rfl, show (w2).setCell ⟨w.heap.size, 2, none⟩ (.int .i64 nn.e) = w2 from setCell_id HZ.out rfl, show (w2).setCell ⟨w.heap.size, 3, none⟩ (.int .i64 nn.g) = w2 from setCell_id HZ.out rfl, show (w2).setCell ⟨w.heap.size, 4, none⟩ (.int .i64 nn.x) = w2 from setCell_id HZ.out rfl, show (w2).setCell ⟨w.heap.size, 5, none⟩ (.int .i64 nn.y) = w2 from setCell_id HZ.out rfl]
      refine bodyPost_ret (results_ctt Tryz.results49 _ _ rfl (range_of HZ.out) Tryz.underlying93 rfl (by kernel_rfl)) rfl ?_
      exact ⟨u1, _, by rw [← HN.out, HV.out] <;> rfl, HX0.out.trans HM1.out.ext, by rw [HR1.out]; exact HM1.out.fml, by rw [HR2.out]; exact fml_none _⟩
  · have hd : (nn.op == 13) = false := by rw [beq_eq_false_iff_ne]; omega
    have HR1 := Lib.hid (show topA f = [] by rw [HA.out, decide_eq_false h4]; rfl)
    have HR2 := Lib.hid (show topB f = [] by rw [HB.out, hd]; rfl)
    go_enter Tryz.func49, Tryz.ntmps49
    go_wp2_with fail
    (try simp only [Exit.inBlock, Exit.then])
    refine bodyPost_ret (results_ctt Tryz.results49 _ _ rfl (range_of HW0.out) Tryz.underlying93 rfl (by kernel_rfl)) rfl ?_
    exact ⟨_, _, by rw [← HN.out, HV.out] <;> rfl, HX0.out, by rw [HR1.out]; exact fml_none _, by rw [HR2.out]; exact fml_none _⟩
end Go.Proofs.YtbfeodammikajaaGreat

/- types' unfolded, index: the walks. -/

namespace Go.Proofs.YtbfeodammikajaaGreat
open Go.RowKit

/-- What is unfolded, as types' unfolded makes it. -/
def unfS (a : Int) (f : List Nd) : List Nd := knowN a (impN (topA f) (andN (topB f) f))
set_option maxRecDepth 100000 in
set_option maxHeartbeats 4000000 in
theorem unfolded_any (a : Int) (ha : i64ok a) (v : Value) (f : List Nd) (w : World) (h : Fml w v f) (h0 : 0 < f.length) :
    Calls Tryz.prog 73 #[.int .i64 a, v] w fun e w' => ∃ u, e = .returned u ∧ Made w w' u (unfS a f) := by
  have H := Lib.hid h
  obtain ⟨A, c, rfl, _⟩ := fml_slice h
  obtain ⟨nn, hnn⟩ : ∃ nn, nn = lastN f := ⟨_, rfl⟩
  have HN := Lib.hid hnn
  clear h hnn
  go_enter Tryz.func73, Tryz.ntmps73
  go_wp2_with fail
  refine (top_any _ f _ H.out h0).mono ?_
  rintro e w1 ⟨u1, u2, rfl, hx1, hf1, hf2⟩
  have HX1 := Lib.hid hx1
  have HF1 := Lib.hid hf1
  have HF2 := Lib.hid hf2
  rw [← HN.out]
  unfold Nd.val
  obtain ⟨A1, c1, rfl, _⟩ := fml_slice hf1
  obtain ⟨A2, c2, rfl, _⟩ := fml_slice hf2
  clear hx1 hf1 hf2
  go_wp2_with fail
  refine (and_any _ _ _ _ _ (HF2.out.ext ((Ext.refl _).alloc _)) (H.out.ext (HX1.out.alloc _))).mono ?_
  rintro e w2 ⟨u3, rfl, hm3⟩
  have HM3 := Lib.hid hm3
  clear hm3
  go_wp2_with fail
  refine (imp_any _ _ _ _ _ (HF1.out.ext (((Ext.refl _).alloc _).trans HM3.out.ext)) HM3.out.fml).mono ?_
  rintro e w3 ⟨u4, rfl, hm4⟩
  have HM4 := Lib.hid hm4
  clear hm4
  go_wp2_with fail
  refine (know_any a ha _ _ _ HM4.out.fml).mono ?_
  rintro e w4 ⟨u5, rfl, hm5⟩
  have HM5 := Lib.hid hm5
  clear hm5
  go_wp2_with fail
  go_ret
  exact ⟨_, rfl, HM5.out.before ((HX1.out.alloc _).trans (HM3.out.ext.trans HM4.out.ext))⟩
set_option maxRecDepth 100000 in
set_option maxHeartbeats 2000000 in
theorem index1_any (B : Nat) (u gv : Value) (s g : List Nd) (w : World) (hs : Nds w u s) (hB : w.cell? ⟨B, 0, none⟩ = some gv) (hg : Nds w gv g) :
    Calls Tryz.prog 130 (#[u] ++ #[.pointer (some ⟨B, 0, none⟩)]) w fun e w' => e = .returned (.bool (decide (s = g))) ∧ Ext w w' := by
  have HS := Lib.hid hs
  have HG := Lib.hid hg
  obtain ⟨A, c, rfl, _⟩ := hs
  obtain ⟨A2, c2, rfl, _⟩ := hg
  have HE := Lib.hid (show decide (s = g) = decide (g = s) by rw [decide_eq_decide]; exact eq_comm)
  show Calls Tryz.prog 130 #[.slice A s.length c, .pointer (some ⟨B, 0, none⟩)] w _
  go_enter Tryz.func130, Tryz.ntmps130
  go_wp2_with (go_at_call 131; refine (equalN_any _ _ g s _ (by exact HG.out.ext (by repeat (first | exact Ext.refl _ | assumption | apply Ext.alloc | apply Ext.drew))) (by exact HS.out.ext (by repeat (first | exact Ext.refl _ | assumption | apply Ext.alloc | apply Ext.drew)))).mono ?_; rintro e w1 ⟨rfl, hx⟩)
  go_ret
  exact ⟨by rw [HE.out] <;> rfl, by first | exact hx | exact Ext.trans (by repeat (first | exact Ext.refl _ | assumption | apply Ext.alloc | apply Ext.drew)) hx⟩
set_option maxRecDepth 100000 in
set_option maxHeartbeats 2000000 in
theorem index_any (v gv : Value) (l : List (List Nd)) (g : List Nd) (w : World) (hl : Fmls w v l) (hg : Fml w gv g) :
    Calls Tryz.prog 72 #[v, gv] w fun e w' => e = .returned (.int .i64 (placeN l g)) ∧ Ext w w' := by
  have HL := Lib.hid hl
  have HG := Lib.hid hg
  obtain ⟨A, c, rfl, _⟩ := hl
  obtain ⟨A2, c2, rfl, _⟩ := fml_slice hg
  clear hg
  go_enter Tryz.func72, Tryz.ntmps72
  go_wp2_with fail
  refine (indexF_any 130 _ (fun _ _ => rfl) (fun s => decide (s = g)) _ l _ (HL.out.ext (by repeat (first | exact Ext.refl _ | assumption | apply Ext.alloc | apply Ext.drew))) (fun W u s hx hs => index1_any w.heap.size u _ s g W hs.1 ((hx.cell (p := ⟨w.heap.size, 0, none⟩) (by simp)).trans (by simp)) (HG.out.1.ext (((Ext.refl _).alloc _).trans hx)))).mono ?_
  rintro e w1 ⟨rfl, hx⟩
  have HX := Lib.hid hx
  clear hx
  go_wp2_with fail
  go_ret
  exact ⟨rfl, ((Ext.refl _).alloc _).trans HX.out⟩
end Go.Proofs.YtbfeodammikajaaGreat
