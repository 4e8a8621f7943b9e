/- The elimination of types tells the truth. -/
import Derived.Test.YtjonmmgpnfgomaaG11
import Derived.Test.YtjonmmgpnfgomaaG08

namespace Go.Proofs.Ytjonmmgpnfgomaa

theorem find_neg {lg : Int} {ks : List Kn} {al : List Bool} {a : Int} {t : Nat} {wt : Nat → Bool} : nextN lg ks al a t wt < 0 ↔ ∀ u, u < al.length → nextP lg ks al a t wt u = false := by
  unfold nextN
  cases h : (List.range al.length).find? (nextP lg ks al a t wt) with
  | none =>
    rw [List.find?_eq_none] at h
    refine ⟨fun _ u hu => ?_, fun _ => by decide⟩
    have := h u (List.mem_range.2 hu)
    simpa using this
  | some k =>
    obtain ⟨h1, h2, _⟩ := List.find?_range_eq_some.1 h
    refine ⟨fun hn => ?_, fun hn => ?_⟩
    · simp only at hn; omega
    · rw [hn k (List.mem_range.1 h2)] at h1; cases h1
theorem getD_lt {al : List Bool} {t : Nat} (h : al.getD t false = true) : t < al.length := by
  by_cases e : t < al.length
  · exact e
  · rw [List.getD_eq_getElem?_getD, List.getElem?_eq_none (by omega)] at h; cases h
theorem path_iff {lg : Int} {ks : List Kn} {al : List Bool} {c : Cm} {t : Nat} : pathN lg ks al c t = true ↔ ∃ u, Rch (fun a b => stepB lg ks al c a b = true) t u ∧ c.y.getD u false = false := by
  simp [pathN]
/-- The types of a model's worlds. -/
theorem ev_num {l : List (List Nd)} {M : KM} {w : M.W} {t : Nat} (h : ∀ s ∈ l.map treeOf, th l t s = thW M w s) {f : Tr} (hc : cov (l.map treeOf) f) (hl : lang f) : ev (th l t) f = ev (thW M w) f := by
  rw [Bool.eq_iff_iff, evW w hc hl]
  exact ev_sat (fun s hs => by rw [h s hs]; exact thW_iff) f hc hl
/-- A number whose bits are told. -/
theorem num_of (p : Nat → Bool) : ∀ n : Nat, ∃ t, t < 2 ^ n ∧ ∀ i, i < n → t.testBit i = p i
  | 0 => ⟨0, by simp, fun i h => absurd h (by omega)⟩
  | n + 1 => by
    obtain ⟨t, h1, h2⟩ := num_of p n
    cases hp : p n
    · refine ⟨t, by rw [Nat.pow_succ]; omega, fun i hi => ?_⟩
      by_cases e : i < n
      · exact h2 i e
      · have : i = n := by omega
        subst this
        rw [hp, Nat.testBit_lt_two_pow h1]
    · refine ⟨t ||| 2 ^ n, Nat.or_lt_two_pow (by rw [Nat.pow_succ]; omega) (by rw [Nat.pow_succ]; have := Nat.two_pow_pos n; omega), fun i hi => ?_⟩
      rw [Nat.testBit_or, Nat.testBit_two_pow]
      by_cases e : i < n
      · rw [h2 i e]
        have : ¬ n = i := by omega
        simp [this]
      · have : i = n := by omega
        subst this
        simp [hp]
section
variable {l : List (List Nd)} {t0 : Tr} (hB : BaseOk l t0) {lg : Int}
include hB
theorem kn_find {i : Nat} {n : Nd} {a : Tr} (hm : .one n a ∈ l.map treeOf) (hg : l[i]? = some (canon (.one n a))) : (knowsN l).find? (fun k => (k.place : Int) == (i : Int)) = some ⟨n.i, i, tabN l (canon a)⟩ := by
  cases h : (knowsN l).find? (fun k => (k.place : Int) == (i : Int)) with
  | none =>
    rw [List.find?_eq_none] at h
    have := h _ ((knows_mem hB).2 ⟨i, n, a, hm, hg, rfl⟩)
    simp at this
  | some k =>
    obtain ⟨j, n', a', hm', hg', rfl⟩ := (knows_mem hB).1 (List.mem_of_find?_eq_some h)
    have hp := List.find?_some h
    have hij : j = i := by
      have h0 : (j : Int) = (i : Int) := by simpa using hp
      omega
    subst hij
    rw [hg] at hg'
    injection hg' with hg'
    have := ((mem_trees hB.can).1 hm).1.inj ((mem_trees hB.can).1 hm').1 hg'
    injection this with e1 e2
    rw [e1, e2]
theorem kn_none {i : Nat} {n : Nd} {a b : Tr} (hm : .two n a b ∈ l.map treeOf) (hg : l[i]? = some (canon (.two n a b))) : (knowsN l).find? (fun k => (k.place : Int) == (i : Int)) = none := by
  rw [List.find?_eq_none]
  intro k hk
  obtain ⟨j, n', a', hm', hg', rfl⟩ := (knows_mem hB).1 hk
  intro hp
  have hij : j = i := by
    have h0 : (j : Int) = (i : Int) := by simpa using hp
    omega
  subst hij
  rw [hg] at hg'
  injection hg' with hg'
  have := ((mem_trees hB.can).1 hm).1.inj ((mem_trees hB.can).1 hm').1 hg'
  cases this
theorem cm_find {i : Nat} {n : Nd} {a b : Tr} (hm : .two n a b ∈ l.map treeOf) (hg : l[i]? = some (canon (.two n a b))) : (commsN l).find? (fun k => (k.place : Int) == (i : Int)) = some ⟨i, n.g, tabN l (canon a), tabN l (canon b), partsN l (canon (.two n a b))⟩ := by
  cases h : (commsN l).find? (fun k => (k.place : Int) == (i : Int)) with
  | none =>
    rw [List.find?_eq_none] at h
    have := h _ ((comms_mem hB).2 ⟨i, n, a, b, hm, hg, rfl⟩)
    simp at this
  | some k =>
    obtain ⟨j, n', a', b', hm', hg', rfl⟩ := (comms_mem hB).1 (List.mem_of_find?_eq_some h)
    have hp := List.find?_some h
    have hij : j = i := by
      have h0 : (j : Int) = (i : Int) := by simpa using hp
      omega
    subst hij
    rw [hg] at hg'
    injection hg' with hg'
    have := ((mem_trees hB.can).1 hm).1.inj ((mem_trees hB.can).1 hm').1 hg'
    injection this with e1 e2 e3
    rw [e1, e2, e3]
theorem step_iff {al : List Bool} (hl : al.length = 2 ^ l.length) {i : Nat} {n : Nd} {a b : Tr} (hm : .two n a b ∈ l.map treeOf) (t u : Nat) :
    stepB lg (knowsN l) al ⟨i, n.g, tabN l (canon a), tabN l (canon b), partsN l (canon (.two n a b))⟩ t u = true ↔ stepT lg (l.map treeOf) (fun t => al.getD t false = true) (th l) n.g a t u := by
  unfold stepB stepT
  simp only [Bool.and_eq_true, List.any_eq_true, List.mem_range]
  constructor
  · rintro ⟨h1, h2, i, h3, h4, h5⟩
    have hu : u < 2 ^ l.length := hl ▸ getD_lt h1
    exact ⟨h1, by rw [← (com_ev hB hm hu).1]; exact h2, i, h3, h4, (poss_iff hB hu).1 h5⟩
  · rintro ⟨h1, h2, i, h3, h4, h5⟩
    have hu : u < 2 ^ l.length := hl ▸ getD_lt h1
    exact ⟨h1, by rw [(com_ev hB hm hu).1]; exact h2, i, h3, h4, (poss_iff hB hu).2 h5⟩
/-- Types that lack nothing. -/
theorem full_of {al : List Bool} (hl : al.length = 2 ^ l.length) (hc : ∀ t, al.getD t false = true → coherentN lg (knowsN l) (commsN l) t = true)
    (hw : ∀ t, al.getD t false = true → ∀ i : Int, -4 ≤ i → i < l.length → lacksN lg (knowsN l) (commsN l) al t i = false) : Full lg (l.map treeOf) (fun t => al.getD t false = true) (th l) where
  coh t ht := (coh_iff hB (hl ▸ getD_lt ht)).1 (hc t ht)
  ser hs t ht i ho := by
    obtain ⟨n, a, hm, hi⟩ := ho
    obtain ⟨j, hg, _, _⟩ := th_at hB hm
    obtain ⟨_, _, _, h0, h4⟩ := hB.closed.know n a hm
    have h := hw t ht (-1 - i) (by omega) (by omega)
    unfold lacksN at h
    rw [decide_eq_true (show -1 - i < 0 by omega), cond_true] at h
    have hlg : (lg == 1 || lg == 5) = true := by rcases hs with e | e <;> rw [e] <;> rfl
    have hany : (knowsN l).any (fun k => k.agent == -1 - (-1 - i)) = true := by
      rw [List.any_eq_true]
      exact ⟨_, (knows_mem hB).2 ⟨j, n, a, hm, hg, rfl⟩, by simp; omega⟩
    rw [hlg, hany, Bool.true_and, Bool.true_and, decide_eq_false_iff_not, find_neg] at h
    obtain ⟨u, hu⟩ := Classical.not_forall.1 h
    obtain ⟨hul, hp⟩ := Classical.not_imp.1 hu
    have hp : nextP lg (knowsN l) al (-1 - (-1 - i)) t (fun _ => true) u = true := by simpa using hp
    unfold nextP at hp
    rw [Bool.and_eq_true, Bool.true_and, show -1 - (-1 - i) = i by omega] at hp
    exact ⟨u, hp.1, (poss_iff hB (by omega)).1 hp.2⟩
  know t ht n a hm hf := by
    obtain ⟨j, hg, hj, hth⟩ := th_at hB hm
    have h := hw t ht (j : Int) (by omega) (by omega)
    unfold lacksN at h
    rw [decide_eq_false (show ¬ (j : Int) < 0 by omega), cond_false, kn_find hB hm hg] at h
    simp only [Int.toNat_natCast] at h
    rw [← hth, hf, Bool.not_false, Bool.true_and, decide_eq_false_iff_not, find_neg] at h
    obtain ⟨u, hu⟩ := Classical.not_forall.1 h
    obtain ⟨hul, hp⟩ := Classical.not_imp.1 hu
    have hp : nextP lg (knowsN l) al n.i t (fun u => !(tabN l (canon a)).getD u false) u = true := by simpa using hp
    unfold nextP at hp
    rw [Bool.and_eq_true, Bool.and_eq_true] at hp
    have hp2 : (!(tabN l (canon a)).getD u false) = true := hp.2.1
    rw [hold_ev hB hm (by omega)] at hp2
    exact ⟨u, hp.1, by simpa using hp2, (poss_iff hB (by omega)).1 hp.2.2⟩
  com t ht n a b hm hf := by
    obtain ⟨j, hg, hj, hth⟩ := th_at hB hm
    have h := hw t ht (j : Int) (by omega) (by omega)
    unfold lacksN at h
    rw [decide_eq_false (show ¬ (j : Int) < 0 by omega), cond_false, kn_none hB hm hg, cm_find hB hm hg] at h
    simp only [Int.toNat_natCast] at h
    rw [← hth, hf, Bool.not_false, Bool.true_and] at h
    have h : pathN lg (knowsN l) al ⟨j, n.g, tabN l (canon a), tabN l (canon b), partsN l (canon (.two n a b))⟩ t = true := by simpa using h
    rw [path_iff] at h
    obtain ⟨u, hr, hy⟩ := h
    have hr' := hr.mono (fun x y hxy => (step_iff hB hl hm x y).1 hxy)
    have hul : al.getD u false = true := by
      have key : ∀ x y, Rch (stepT lg (l.map treeOf) (fun t => al.getD t false = true) (th l) n.g a) x y → al.getD y false = true := by
        intro x y hxy
        induction hxy with
        | one h => exact h.1
        | cons _ _ ih => exact ih
      exact key t u hr'
    exact ⟨u, hr', by rw [← (com_ev hB hm (hl ▸ getD_lt hul)).2]; exact hy⟩
theorem poss_num {M : KM} {w v : M.W} {t u : Nat} (ht : ∀ s ∈ l.map treeOf, th l t s = thW M w s) (hu : ∀ s ∈ l.map treeOf, th l u s = thW M v s) {i : Int} (h : Poss lg (l.map treeOf) i (thW M w) (thW M v)) : Poss lg (l.map treeOf) i (th l t) (th l u) := by
  intro n a hm hi
  obtain ⟨_, hc, hla, _, _⟩ := hB.closed.know n a hm
  rw [ht _ hm, hu _ hm, ev_num hu hc hla]
  exact h n a hm hi
theorem num_ex {M : KM} (w : M.W) : ∃ t, t < 2 ^ l.length ∧ ∀ s ∈ l.map treeOf, th l t s = thW M w s := by
  obtain ⟨t, h1, h2⟩ := num_of (fun i => thW M w (treeOf (l.getD i []))) l.length
  refine ⟨t, h1, fun s hs => ?_⟩
  obtain ⟨i, hg, hi, hth⟩ := th_at hB hs
  rw [hth, h2 i hi, List.getD_eq_getElem?_getD, hg, Option.getD_some, ((mem_trees hB.can).1 hs).1.tree]
/-- A set that holds the types of all worlds. -/
def Holds (l : List (List Nd)) (M : KM) (al : List Bool) : Prop := ∀ (t : Nat) (w : M.W), t < 2 ^ l.length → (∀ s ∈ l.map treeOf, th l t s = thW M w s) → al.getD t false = true
theorem world_keeps {M : KM} (hM : M.In lg) (hlg : lg ≤ 6) {al : List Bool} (hl : al.length = 2 ^ l.length) (hS : Holds l M al) {t : Nat} {w : M.W} (ht : t < 2 ^ l.length) (hw : ∀ s ∈ l.map treeOf, th l t s = thW M w s) (i : Int) : lacksN lg (knowsN l) (commsN l) al t i = false := by
  have hF := world_full hB.closed hM hlg
  unfold lacksN
  by_cases hi : i < 0
  · rw [decide_eq_true hi, cond_true]
    cases hlg2 : (lg == 1 || lg == 5)
    · rfl
    · rw [Bool.true_and]
      have hs : lg = 1 ∨ lg = 5 := by simpa using hlg2
      cases hany : (knowsN l).any (fun k => k.agent == -1 - i)
      · rfl
      · rw [Bool.true_and, decide_eq_false_iff_not, find_neg]
        intro hno
        rw [List.any_eq_true] at hany
        obtain ⟨k, hk, he⟩ := hany
        obtain ⟨j, n, a, hm, hg, rfl⟩ := (knows_mem hB).1 hk
        have he : n.i = -1 - i := by simpa using he
        obtain ⟨v, _, hp⟩ := hF.ser hs w trivial (-1 - i) ⟨n, a, hm, he⟩
        obtain ⟨u, hu, huv⟩ := num_ex hB v
        have := hno u (by omega)
        unfold nextP at this
        rw [hS u v hu huv, (poss_iff hB hu).2 (poss_num hB hw huv hp)] at this
        cases this
  · rw [decide_eq_false hi, cond_false]
    obtain ⟨j, rfl⟩ := Int.eq_ofNat_of_zero_le (show 0 ≤ i by omega)
    cases hf : (knowsN l).find? (fun k => (k.place : Int) == (j : Int)) with
    | some k =>
      obtain ⟨j', n, a, hm, hg, rfl⟩ := (knows_mem hB).1 (List.mem_of_find?_eq_some hf)
      have hij : j' = j := by
        have h0 : (j' : Int) = (j : Int) := by simpa using List.find?_some hf
        omega
      subst hij
      obtain ⟨j2, hg2, _, hth⟩ := th_at hB hm
      have hij : j2 = j' := by
        have e1 := place_at hB.nodup hg
        have e2 := place_at hB.nodup hg2
        omega
      subst hij
      simp only [Int.toNat_natCast]
      rw [← hth]
      cases hv : th l t (.one n a)
      · rw [Bool.not_false, Bool.true_and, decide_eq_false_iff_not, find_neg]
        intro hno
        obtain ⟨v, _, he, hp⟩ := hF.know w trivial n a hm (by rw [← hw _ hm]; exact hv)
        obtain ⟨u, hu, huv⟩ := num_ex hB v
        have := hno u (by omega)
        obtain ⟨_, hc, hla, _, _⟩ := hB.closed.know n a hm
        unfold nextP at this
        simp only at this
        rw [hS u v hu huv, (poss_iff hB hu).2 (poss_num hB hw huv hp), hold_ev hB hm hu, ev_num huv hc hla, he] at this
        cases this
      · rfl
    | none =>
      simp only
      cases hf2 : (commsN l).find? (fun c => (c.place : Int) == (j : Int)) with
      | none => rfl
      | some k =>
        obtain ⟨j', n, a, b, hm, hg, rfl⟩ := (comms_mem hB).1 (List.mem_of_find?_eq_some hf2)
        have hij : j' = j := by
          have h0 : (j' : Int) = (j : Int) := by simpa using List.find?_some hf2
          omega
        subst hij
        obtain ⟨j2, hg2, _, hth⟩ := th_at hB hm
        have hij : j2 = j' := by
          have e1 := place_at hB.nodup hg
          have e2 := place_at hB.nodup hg2
          omega
        subst hij
        simp only [Int.toNat_natCast]
        rw [← hth]
        cases hv : th l t (.two n a b)
        · rw [Bool.not_false, Bool.true_and, Bool.not_eq_false']
          rw [path_iff]
          obtain ⟨v, hr, he⟩ := hF.com w trivial n a b hm (by rw [← hw _ hm]; exact hv)
          obtain ⟨_, hca, hcb, hla, hlb, _⟩ := hB.closed.com n a b hm
          have lift : ∀ (x y : M.W), Rch (stepT lg (l.map treeOf) (fun _ => True) (thW M) n.g a) x y → ∀ t, t < 2 ^ l.length → (∀ s ∈ l.map treeOf, th l t s = thW M x s) →
              ∃ u, u < 2 ^ l.length ∧ (∀ s ∈ l.map treeOf, th l u s = thW M y s) ∧ Rch (stepT lg (l.map treeOf) (fun t => al.getD t false = true) (th l) n.g a) t u := by
            intro x y hxy
            induction hxy with
            | @one x y h =>
              intro t ht htx
              obtain ⟨u, hu, huy⟩ := num_ex hB y
              obtain ⟨_, hx, i, hi, hg, hp⟩ := h
              exact ⟨u, hu, huy, .one ⟨hS u y hu huy, by rw [ev_num huy hca hla]; exact hx, i, hi, hg, poss_num hB htx huy hp⟩⟩
            | @cons x y z h _ ih =>
              intro t ht htx
              obtain ⟨u, hu, huy⟩ := num_ex hB y
              obtain ⟨_, hx, i, hi, hg, hp⟩ := h
              obtain ⟨u2, h1, h2, h3⟩ := ih u hu huy
              exact ⟨u2, h1, h2, .cons ⟨hS u y hu huy, by rw [ev_num huy hca hla]; exact hx, i, hi, hg, poss_num hB htx huy hp⟩ h3⟩
          obtain ⟨u, hu, huv, hru⟩ := lift w v hr t ht hw
          exact ⟨u, hru.mono (fun x y hxy => (step_iff hB hl hm x y).2 hxy), by rw [(com_ev hB hm hu).2, ev_num huv hcb hlb]; exact he⟩
        · rfl
end
end Go.Proofs.Ytjonmmgpnfgomaa

/- A formula is satisfiable, as types say it, exactly if a model of the logic makes it true. -/

namespace Go.Proofs.Ytjonmmgpnfgomaa

theorem whyN_some {lg : Int} {ks : List Kn} {cs : List Cm} {m : Nat} {al : List Bool} {t : Nat} {i : Int} (h : whyN lg ks cs m al t = some i) : lacksN lg ks cs al t i = true := by
  unfold whyN at h
  exact List.find?_some h
theorem whyN_none {lg : Int} {ks : List Kn} {cs : List Cm} {m : Nat} {al : List Bool} {t : Nat} (h : whyN lg ks cs m al t = none) (i : Int) (h0 : -4 ≤ i) (h1 : i < m) : lacksN lg ks cs al t i = false := by
  unfold whyN at h
  rw [List.find?_eq_none] at h
  have := h i (List.mem_map.2 ⟨(i + 4).toNat, List.mem_range.2 (by omega), by omega⟩)
  simpa using this
/-- What stays of a set of types is among them. -/
theorem elim_sub (why : List Bool → Nat → Option Int) : ∀ (k : Nat) (s : List Bool × List (Nat × Int)), Sub2 s.1 (elimG why k s).1 := fun k s =>
  elim_keep (S := fun al => Sub2 s.1 al) (fun al t _i h _ _ u hu => h u (set_sub al t u hu)) k s (fun _ h => h)
theorem tab_get' {α : Type} (g : Nat → α) (d : α) {n k : Nat} (h : k < n) : ((List.range n).map g).getD k d = g k := by
  rw [List.getD_eq_getElem?_getD, List.getElem?_map, List.getElem?_range h]
  rfl
/-- A formula whose engine can be made. -/
structure EngOk (lg : Int) (f : List Nd) : Prop where
  l0 : 0 ≤ lg
  l6 : lg ≤ 6
  ck : check f = 0
  x : Xf (expT (treeOf f))
  e : expandN f = canon (expT (treeOf f))
  b : BaseOk (baseN f).1 (expT (treeOf f))
theorem base_parts {f : List Nd} (h : (baseN f).2 = 0) : check f = 0 ∧ langBad f = false ∧ (expandN f).length ≠ 0 ∧ baseN f = baseOfN (expandN f) := by
  unfold baseN at h ⊢
  cases hc : check f != 0
  · rw [hc] at h
    cases hl : langBad f
    · rw [hl] at h
      cases hz : decide ((expandN f).length = 0)
      · exact ⟨by simpa using hc, rfl, of_decide_eq_false hz, rfl⟩
      · rw [hz] at h; cases h
    · rw [hl] at h; cases h
  · rw [hc] at h
    exact absurd h (by simpa using hc)
theorem eng_ok {lg : Int} {f : List Nd} (h : engErr lg f = 0) : EngOk lg f := by
  unfold engErr at h
  cases ha : decide (lg < 0) || decide (6 < lg)
  · rw [ha] at h
    rw [Bool.or_eq_false_iff, decide_eq_false_iff_not, decide_eq_false_iff_not] at ha
    obtain ⟨h1, h2, h3, h4⟩ := base_parts h
    obtain ⟨hx, he⟩ := expand_tree h1 h2 h3
    have h5 : (baseOfN (canon (expT (treeOf f)))).2 = 0 := by rw [← he, ← h4]; exact h
    have hb := base_ok hx h5
    rw [← he, ← h4] at hb
    exact ⟨by omega, by omega, h1, hx, he, hb⟩
  · rw [ha] at h; cases h
section
variable {lg : Int} {f : List Nd}
theorem alive_len (lg : Int) (l : List (List Nd)) : (aliveN lg l).length = 2 ^ l.length := by simp [aliveN]
theorem alive_get {l : List (List Nd)} {t : Nat} (ht : t < 2 ^ l.length) : (aliveN lg l).getD t false = coherentN lg (knowsN l) (commsN l) t := tab_get' _ _ ht
theorem end_len : (endN lg f).1.length = 2 ^ (baseN f).1.length := by
  unfold endN elimN
  rw [elim_len]
  exact alive_len _ _
theorem root_get (h : EngOk lg f) {t : Nat} (ht : t < 2 ^ (baseN f).1.length) : (rootN f).getD t false = ev (th (baseN f).1 t) (expT (treeOf f)) := by
  unfold rootN
  rw [h.e, tab_get h.x.check ht, h.x.tree]
theorem left_iff (h : EngOk lg f) : leftN lg f = true ↔ ∃ t, (endN lg f).1.getD t false = true ∧ ev (th (baseN f).1 t) (expT (treeOf f)) = true := by
  unfold leftN satisfiedN
  rw [List.any_eq_true]
  constructor
  · rintro ⟨t, ht, h2⟩
    rw [Bool.and_eq_true] at h2
    have ht := List.mem_range.1 ht
    rw [end_len] at ht
    exact ⟨t, h2.1, by rw [← root_get h ht]; exact h2.2⟩
  · rintro ⟨t, h1, h2⟩
    have ht := getD_lt h1
    refine ⟨t, List.mem_range.2 ht, ?_⟩
    rw [end_len] at ht
    rw [Bool.and_eq_true, root_get h ht]
    exact ⟨h1, h2⟩
/-- At the end nothing lacks anything. -/
theorem end_full (h : EngOk lg f) : Full lg ((baseN f).1.map treeOf) (fun t => (endN lg f).1.getD t false = true) (th (baseN f).1) := by
  refine full_of h.b end_len (fun t ht => ?_) (fun t ht i h0 h1 => ?_)
  · have hs := elim_sub (whyN lg (knowsN (baseN f).1) (commsN (baseN f).1) (baseN f).1.length) _ (aliveN lg (baseN f).1, []) t ht
    have hl := getD_lt hs
    rw [alive_len] at hl
    rw [← alive_get hl]
    exact hs
  · have := elim_end (why := whyN lg (knowsN (baseN f).1) (commsN (baseN f).1) (baseN f).1.length) ((aliveN lg (baseN f).1).length + 1) (aliveN lg (baseN f).1, []) (by have := cnt_le (aliveN lg (baseN f).1); show cnt (aliveN lg (baseN f).1) < _; omega) t ht
    exact whyN_none this i h0 h1
/-- The types of a model's worlds are never taken away. -/
theorem start_holds (h : EngOk lg f) {M : KM} (hM : M.In lg) : Holds (baseN f).1 M (aliveN lg (baseN f).1) := fun t w ht hw => by
  rw [alive_get ht, coh_iff h.b ht]
  have hc := world_coh h.b.closed hM w
  refine ⟨fun n a b hm => ?_, fun hr n a hm hth => ?_⟩
  · rw [hw _ hm, hc.com n a b hm]
    constructor
    · intro k i hi hg
      rw [hw _ ((h.b.closed.com n a b hm).2.2.2.2.2 i hi hg)]
      exact k i hi hg
    · intro k i hi hg
      rw [← hw _ ((h.b.closed.com n a b hm).2.2.2.2.2 i hi hg)]
      exact k i hi hg
  · obtain ⟨_, hca, hla, _, _⟩ := h.b.closed.know n a hm
    rw [ev_num hw hca hla]
    exact hc.know hr n a hm (by rw [← hw _ hm]; exact hth)
theorem holds_set (h : EngOk lg f) {M : KM} (hM : M.In lg) (al : List Bool) (t : Nat) (i : Int) (hl : al.length = 2 ^ (baseN f).1.length) (hS : Holds (baseN f).1 M al) (hk : lacksN lg (knowsN (baseN f).1) (commsN (baseN f).1) al t i = true) : Holds (baseN f).1 M (al.set t false) := fun u w hu hw => by
  rw [set_getD]
  cases e : u == t
  · exact hS u w hu hw
  · have : u = t := by simpa using e
    subst this
    rw [world_keeps h.b hM h.l6 hl hS hu hw i] at hk
    cases hk
theorem end_holds (h : EngOk lg f) {M : KM} (hM : M.In lg) : Holds (baseN f).1 M (endN lg f).1 := by
  have := elim_keep (why := whyN lg (knowsN (baseN f).1) (commsN (baseN f).1) (baseN f).1.length) (S := fun al => al.length = 2 ^ (baseN f).1.length ∧ Holds (baseN f).1 M al)
    (fun al t i hS _ hw => ⟨by rw [List.length_set]; exact hS.1, holds_set h hM al t i hS.1 hS.2 (whyN_some hw)⟩) ((aliveN lg (baseN f).1).length + 1) (aliveN lg (baseN f).1, []) ⟨alive_len _ _, start_holds h hM⟩
  exact this.2
/-- Satisfiable tells the truth. -/
theorem sat_truth (h : EngOk lg f) : leftN lg f = true ↔ ∃ M : KM, M.In lg ∧ ∃ w, M.sat (treeOf f) w := by
  rw [left_iff h]
  constructor
  · rintro ⟨t, h1, h2⟩
    have hF := end_full h
    refine ⟨modT lg ((baseN f).1.map treeOf) (fun t => (endN lg f).1.getD t false = true) (th (baseN f).1), modT_in hF h.l6, ⟨t, h1⟩, ?_⟩
    exact (sat_exp (M := modT lg ((baseN f).1.map treeOf) (fun t => (endN lg f).1.getD t false = true) (th (baseN f).1)) (treeOf f) ⟨t, h1⟩).1 ((truth h.b.closed hF _ h.b.cov h.x.xp.lang h.x.xp.fact ⟨t, h1⟩).1 h2)
  · rintro ⟨M, hM, w, hw⟩
    obtain ⟨t, ht, htw⟩ := num_ex h.b w
    refine ⟨t, end_holds h hM t w ht htw, ?_⟩
    rw [ev_num htw h.b.cov h.x.xp.lang, evW w h.b.cov h.x.xp.lang, sat_exp]
    exact hw
/-- No elimination refutes what a model makes true. -/
theorem check_sound (h : EngOk lg f) {ts : List Nat} {ws : List Int} (hc : checkT lg f ts ws = 0) {M : KM} (hM : M.In lg) (w : M.W) : ¬ M.sat (treeOf f) w := by
  intro hw
  unfold checkT at hc
  cases he : engErr lg f != 0
  · rw [he] at hc
    cases hl : ts.length != ws.length
    · rw [hl] at hc
      simp only [cond_false] at hc
      cases hg : checkG (lacksN lg (knowsN (baseN f).1) (commsN (baseN f).1)) ts ws (aliveN lg (baseN f).1) with
      | none => rw [hg] at hc; cases hc
      | some al =>
        rw [hg] at hc
        have hk := check_keep (lk := lacksN lg (knowsN (baseN f).1) (commsN (baseN f).1)) (S := fun al => al.length = 2 ^ (baseN f).1.length ∧ Holds (baseN f).1 M al)
          (fun al t i hS _ hw => ⟨by rw [List.length_set]; exact hS.1, holds_set h hM al t i hS.1 hS.2 hw⟩) ts ws _ al ⟨alive_len _ _, start_holds h hM⟩ hg
        obtain ⟨t, ht, htw⟩ := num_ex h.b w
        have h1 := hk.2 t w ht htw
        have hs : satisfiedN al (rootN f) = true := by
          unfold satisfiedN
          rw [List.any_eq_true]
          refine ⟨t, List.mem_range.2 (getD_lt h1), ?_⟩
          rw [h1, root_get h ht, ev_num htw h.b.cov h.x.xp.lang, Bool.true_and, evW w h.b.cov h.x.xp.lang, sat_exp]
          exact hw
        simp only [hs, cond_true] at hc
        cases hc
    · rw [hl] at hc; cases hc
  · rw [he] at hc
    exact absurd hc (by simpa using he)
/-- What elimination gives is accepted. -/
theorem check_end (h0 : engErr lg f = 0) (hs : leftN lg f = false) : checkT lg f ((endN lg f).2.map Prod.fst) ((endN lg f).2.map Prod.snd) = 0 := by
  unfold checkT
  have he : (engErr lg f != 0) = false := by simpa using h0
  have hl : (((endN lg f).2.map Prod.fst).length != ((endN lg f).2.map Prod.snd).length) = false := by simp
  rw [he, hl]
  simp only [cond_false]
  have hr : Replays (lacksN lg (knowsN (baseN f).1) (commsN (baseN f).1)) (aliveN lg (baseN f).1) (endN lg f) := by
    have h0 : Replays (lacksN lg (knowsN (baseN f).1) (commsN (baseN f).1)) (aliveN lg (baseN f).1) (aliveN lg (baseN f).1, []) := by
      unfold Replays
      simp only [List.map_nil, checkG]
    have := elim_replays (why := whyN lg (knowsN (baseN f).1) (commsN (baseN f).1) (baseN f).1.length) (fun al t i hw => whyN_some hw) ((aliveN lg (baseN f).1).length + 1) (aliveN lg (baseN f).1, []) h0
    unfold endN elimN
    exact this
  unfold Replays at hr
  rw [hr]
  show (bif satisfiedN (endN lg f).1 (rootN f) then (13 : Int) else 0) = 0
  unfold leftN at hs
  rw [hs]
  rfl
end
end Go.Proofs.Ytjonmmgpnfgomaa

/- The parts of a tree; what a base's error depends on: the parts of the expansion. -/

namespace Go.Proofs.Ytjonmmgpnfgomaa

def Part (s : Tr) : Tr → Prop
  | .leaf n => s = .leaf n
  | .one n a => s = .one n a ∨ Part s a
  | .two n a b => s = .two n a b ∨ Part s a ∨ Part s b
theorem Part.self : ∀ t : Tr, Part t t
  | .leaf _ => rfl
  | .one _ _ => .inl rfl
  | .two _ _ _ => .inl rfl
theorem all_addN {P : Tr → Prop} {o : List Nd} {m : Nd} (ho : Wf o) (hw : Wf (addN o m)) (h : ∀ k, k < o.length → P (tr o k)) (hm : P (tr (addN o m) (o.idxOf m))) : ∀ k, k < (addN o m).length → P (tr (addN o m) k) := by
  intro k hk
  by_cases hko : k < o.length
  · rw [tr_prefix ho hw (addN_prefix _ _) _ hko]
    exact h k hko
  · have hne : m ∉ o := fun hm' => by
      unfold addN at hk
      rw [if_pos hm'] at hk
      exact hko hk
    have : k = o.idxOf m := by
      rw [List.idxOf_eq_length hne]
      unfold addN at hk
      rw [if_neg hne] at hk
      simp at hk
      omega
    rw [this]
    exact hm
theorem ins_parts {P : Tr → Prop} : ∀ (t : Tr) (o : List Nd), t.ok → Wf o → (∀ k, k < o.length → P (tr o k)) → (∀ s, Part s t → P s) → ∀ k, k < (ins t o).1.length → P (tr (ins t o).1 k)
  | .leaf n, o, ht, ho, hb, hs => by
    have I := ins_ok (.leaf n) o ht ho
    exact all_addN ho I.wf hb (by have := I.tree; exact this ▸ hs _ (Part.self _))
  | .one n a, o, ht, ho, hb, hs => by
    have I := ins_ok (.one n a) o ht ho
    have A := ins_ok a o ht.2.2.2 ho
    exact all_addN A.wf I.wf (ins_parts a o ht.2.2.2 ho hb (fun s h => hs s (.inr h))) (by have := I.tree; exact this ▸ hs _ (Part.self _))
  | .two n a b, o, ht, ho, hb, hs => by
    have I := ins_ok (.two n a b) o ht ho
    have A := ins_ok a o ht.2.2.2.1 ho
    have B := ins_ok b _ ht.2.2.2.2 A.wf
    exact all_addN B.wf I.wf (ins_parts b _ ht.2.2.2.2 A.wf (ins_parts a o ht.2.2.2.1 ho hb (fun s h => hs s (.inr (.inl h)))) (fun s h => hs s (.inr (.inr h)))) (by have := I.tree; exact this ▸ hs _ (Part.self _))
theorem wf_parts {f : List Nd} (hf : Wf f) : ∀ (i : Nat), i < f.length → ∀ s, Part s (tr f i) → ∃ j, j ≤ i ∧ s = tr f j := by
  intro i
  induction i using Nat.strongRecOn with
  | _ i ih =>
    intro hi s hs
    obtain ⟨n, hn⟩ : ∃ n, f[i]? = some n := ⟨_, List.getElem?_eq_getElem hi⟩
    obtain ⟨hx, hy⟩ := hf i n hn
    have e := tr_eq hf hn
    by_cases hse : s = tr f i
    · exact ⟨i, Nat.le_refl _, hse⟩
    · rw [e] at hs hse
      unfold mkTr at hs hse
      cases h2 : hasY n.op
      · cases h1 : hasX n.op
        · rw [h1, h2] at hs hse; exact absurd hs hse
        · rw [h1, h2] at hs hse
          have := hx h1
          obtain ⟨j, hj, e2⟩ := ih n.x.toNat (by omega) (by omega) s (hs.resolve_left hse)
          exact ⟨j, by omega, e2⟩
      · rw [h2] at hs hse
        have := hx (hasX_of_hasY h2)
        have := hy h2
        rcases hs.resolve_left hse with hs | hs
        · obtain ⟨j, hj, e2⟩ := ih n.x.toNat (by omega) (by omega) s hs
          exact ⟨j, by omega, e2⟩
        · obtain ⟨j, hj, e2⟩ := ih n.y.toNat (by omega) (by omega) s hs
          exact ⟨j, by omega, e2⟩
theorem part_iff {t : Tr} (ht : t.ok) {s : Tr} : Part s t ↔ ∃ i, i < (canon t).length ∧ s = tr (canon t) i := by
  constructor
  · intro h
    have hp := canon_pos ht
    have e : tr (canon t) ((canon t).length - 1) = t := treeOf_canon ht
    obtain ⟨j, hj, e2⟩ := wf_parts (canon_wf ht) ((canon t).length - 1) (by omega) s (by rw [e]; exact h)
    exact ⟨j, by omega, e2⟩
  · rintro ⟨i, hi, rfl⟩
    exact ins_parts (P := fun s => Part s t) t [] ht wf_nil (fun k hk => absurd hk (by simp)) (fun s h => h) i hi
theorem Xf.mem_part {t : Tr} (h : Xf t) {c : List Nd} : c ∈ base0 (canon t) ↔ ∃ s, Part s t ∧ c = canon s ∧ isBase s.top = true := by
  rw [h.mem_base0]
  constructor
  · rintro ⟨i, hi, e, hb⟩
    exact ⟨_, (part_iff h.xp.1.1).2 ⟨i, hi, rfl⟩, e, hb⟩
  · rintro ⟨s, hs, e, hb⟩
    obtain ⟨i, hi, rfl⟩ := (part_iff h.xp.1.1).1 hs
    exact ⟨i, hi, e, hb⟩
theorem nodup_le {α : Type} [BEq α] [LawfulBEq α] : ∀ {l m : List α}, l.Nodup → (∀ a ∈ l, a ∈ m) → l.length ≤ m.length
  | [], _, _, _ => Nat.zero_le _
  | a :: r, m, hn, hs => by
    have ha := hs a (List.mem_cons_self ..)
    have hr : r.length ≤ (m.erase a).length := nodup_le (List.nodup_cons.1 hn).2 fun b hb => by
      have hne : b ≠ a := fun e => (List.nodup_cons.1 hn).1 (e ▸ hb)
      exact (List.mem_erase_of_ne hne).2 (hs b (List.mem_cons_of_mem _ hb))
    rw [List.length_erase_of_mem ha] at hr
    have := List.length_pos_of_mem ha
    simp only [List.length_cons]
    omega
/-- A base with less to begin with is made where one with more is. -/
theorem base_err {s t : Tr} (hs : Xf s) (hm : ∀ c ∈ base0 (canon s), c ∈ base0 (canon t)) (he : (baseOfN (canon t)).2 = 0) : (baseOfN (canon s)).2 = 0 := by
  unfold baseOfN at he
  cases hb : ((base0 (canon t)).flatMap unfsN).any (fun u => decide (u.length = 0)) || decide (12 < (((base0 (canon t)).flatMap unfsN).foldl addF (base0 (canon t))).length)
  · rw [Bool.or_eq_false_iff, List.any_eq_false, decide_eq_false_iff_not] at hb
    obtain ⟨h1, h2⟩ := hb
    have hf : ∀ u ∈ (base0 (canon s)).flatMap unfsN, u ∈ (base0 (canon t)).flatMap unfsN := fun u hu => by
      obtain ⟨c, hc, hu⟩ := List.mem_flatMap.1 hu
      exact List.mem_flatMap.2 ⟨c, hm c hc, hu⟩
    have hl : (((base0 (canon s)).flatMap unfsN).foldl addF (base0 (canon s))).length ≤ (((base0 (canon t)).flatMap unfsN).foldl addF (base0 (canon t))).length :=
      nodup_le (fold_nodup _ _ hs.base0_nodup) fun c hc => by
        rw [fold_mem] at hc ⊢
        exact hc.imp (hm c) (hf c)
    rw [baseOf_good (fun u hu => by have := h1 u (hf u hu); simpa using this) (by omega)]
  · rw [hb] at he; cases he
end Go.Proofs.Ytjonmmgpnfgomaa

/- The plain law of TypesLogics: what is satisfiable in a logic is satisfiable in the logics with less conditions. -/

namespace Go.Proofs.Ytjonmmgpnfgomaa

def lessL : List (Int × Int) := [(6, 5), (6, 4), (4, 2), (4, 3), (5, 3), (5, 1), (2, 1), (1, 0), (3, 0)]
theorem less_cases {p q : Int} (h : (p, q) ∈ lessL) : (p = 6 ∧ q = 5) ∨ (p = 6 ∧ q = 4) ∨ (p = 4 ∧ q = 2) ∨ (p = 4 ∧ q = 3) ∨ (p = 5 ∧ q = 3) ∨ (p = 5 ∧ q = 1) ∨ (p = 2 ∧ q = 1) ∨ (p = 1 ∧ q = 0) ∨ (p = 3 ∧ q = 0) := by
  simpa [lessL] using h
theorem frm_less {W : Type} {R : W → W → Prop} {p q : Int} (hp : (p, q) ∈ lessL) (h : Frm p R) : Frm q R := by
  have hc := less_cases hp
  refine ⟨fun hq w => ?_, fun hq => h.refl (by omega), fun hq => h.trans (by omega), fun hq => h.eucl (by omega)⟩
  by_cases hr : p = 2 ∨ p = 4 ∨ p = 6
  · exact ⟨w, h.refl hr w⟩
  · exact h.ser (by omega) w
theorem engErr_in {lg : Int} (f : List Nd) (h : 0 ≤ lg ∧ lg ≤ 6) : engErr lg f = (baseN f).2 := by
  unfold engErr
  rw [decide_eq_false (by omega), decide_eq_false (by omega)]
  rfl
theorem sat_err {lg : Int} {f : List Nd} (h : engErr lg f ≠ 0) : satN lg f = (false, engErr lg f) := by
  unfold satN
  rw [show (engErr lg f != 0) = true by simpa using h]
  rfl
theorem sat_ok {lg : Int} {f : List Nd} (h : engErr lg f = 0) : satN lg f = (leftN lg f, 0) := by
  unfold satN
  rw [show (engErr lg f != 0) = false by simpa using h]
  rfl
/-- The law. -/
theorem sat_less {p q : Int} (hp : (p, q) ∈ lessL) (f : List Nd) : (satN p f).2 = (satN q f).2 ∧ ((satN p f).1 = true → (satN q f).1 = true) := by
  have hc := less_cases hp
  have e : engErr p f = engErr q f := by rw [engErr_in f (by omega), engErr_in f (by omega)]
  by_cases h0 : engErr p f = 0
  · have h1 : engErr q f = 0 := by rw [← e]; exact h0
    rw [sat_ok h0, sat_ok h1]
    refine ⟨rfl, fun h => ?_⟩
    obtain ⟨M, hM, w, hw⟩ := (sat_truth (eng_ok h0)).1 h
    exact (sat_truth (eng_ok h1)).2 ⟨M, fun i => frm_less hp (hM i), w, hw⟩
  · have h1 : engErr q f ≠ 0 := by rw [← e]; exact h0
    rw [sat_err h0, sat_err h1]
    exact ⟨e, fun h => by cases h⟩
end Go.Proofs.Ytjonmmgpnfgomaa

/- The errors of a formula, told by its tree; the plain law of TypesDual. -/

namespace Go.Proofs.Ytjonmmgpnfgomaa

theorem bits_mask : ∀ (l : List Nd), (∀ n ∈ l, (fragOf n.op).toNat &&& 500 = 0) → fragMask l &&& 500 = 0 := by
  have key : ∀ (l : List Nd) (m : Nat), m &&& 500 = 0 → (∀ n ∈ l, (fragOf n.op).toNat &&& 500 = 0) → (l.foldl (fun m n => m ||| (fragOf n.op).toNat) m) &&& 500 = 0 := by
    intro l
    induction l with
    | nil => intro m h _; exact h
    | cons a r ih =>
      intro m h hl
      refine ih _ ?_ (fun n hn => hl n (List.mem_cons_of_mem _ hn))
      rw [Nat.and_or_distrib_right, h, hl a (List.mem_cons_self ..)]
      rfl
  intro l h
  exact key l 0 (by decide) h
theorem lang_of {f : List Nd} (hl : ∀ n ∈ compactN f, tyOp n.op) : langBad f = false := by
  unfold langBad fragsN
  have := bits_mask (compactN f) fun n hn => by
    have ho := hl n hn
    have : n.op = 1 ∨ n.op = 2 ∨ n.op = 3 ∨ n.op = 4 ∨ n.op = 5 ∨ n.op = 6 ∨ n.op = 7 ∨ n.op = 8 ∨ n.op = 9 ∨ n.op = 10 ∨ n.op = 11 ∨ n.op = 13 := by unfold tyOp at ho; omega
    rcases this with h | h | h | h | h | h | h | h | h | h | h | h <;> (rw [h]; decide)
  rw [this]
  rfl
/-- The language, told by the tree. -/
theorem lang_tree {f : List Nd} (hc : check f = 0) : langBad f = false ↔ (treeOf f).all (fun n => tyOp n.op) := by
  obtain ⟨hw, _, hp, hh⟩ := compactN_props hc
  constructor
  · intro h
    have := tr_all (P := fun n => tyOp n.op) (fun n k1 k2 h => h) hw (lang_ops hc h) ((compactN f).length - 1) (by omega)
    rw [show tr (compactN f) ((compactN f).length - 1) = treeOf f from treeOf_compact hc] at this
    exact this
  · intro h
    refine lang_of fun n hn => ?_
    rw [compactN_tree hc] at hn
    exact ins_all (P := fun n => tyOp n.op) (fun n k1 k2 h => h) (treeOf f) [] h (fun n hn => by cases hn) n hn
/-- The expansion is made exactly if that of each part is. -/
theorem exp_iff {f : List Nd} (hc : check f = 0) (hl : langBad f = false) : (expandN f).length ≠ 0 ↔ ∀ p, Part p (treeOf f) → (canon (expT p)).length ≤ 200 := by
  obtain ⟨hw, _, hp, hh⟩ := compactN_props hc
  have hops := lang_ops hc hl
  have hok := treeOf_ok hc
  have hce := compactN_tree hc
  constructor
  · intro hne p hpp
    unfold expandN at hne
    cases hd : expGo (compactN f) [] with
    | none => rw [hd] at hne; exact absurd rfl hne
    | some d =>
      obtain ⟨_, e2⟩ := expGo_trees hw hh hops (compactN f).length d (Nat.le_refl _) (by rw [List.take_of_length_le (Nat.le_refl _)]; exact hd)
      obtain ⟨i, hi, rfl⟩ := (part_iff hok).1 hpp
      rw [← hce] at hi ⊢
      exact (e2 i hi).len
  · intro hall
    have hsome : ∀ k, k ≤ (compactN f).length → ∃ d, expGo ((compactN f).take k) [] = some d := by
      intro k
      induction k with
      | zero => intro _; exact ⟨[], rfl⟩
      | succ k ih =>
        intro hk
        obtain ⟨d', hd⟩ := ih (by omega)
        obtain ⟨n, hn⟩ : ∃ n, (compactN f)[k]? = some n := ⟨_, List.getElem?_eq_getElem (by omega)⟩
        obtain ⟨e1, e2⟩ := expGo_trees hw hh hops k d' (by omega) hd
        have hm := List.mem_of_getElem? hn
        obtain ⟨hx, hy⟩ := hw k n hn
        have gx : hasX n.op = true → d'.getD n.x.toNat [] = shortT (expT (tr (compactN f) n.x.toNat)) := fun h1 => by
          have := hx h1
          rw [e1, getD_range (fun j => canon (expT (tr (compactN f) j))) [] (by omega), (e2 _ (by omega)).short]
        have gy : hasY n.op = true → d'.getD n.y.toNat [] = shortT (expT (tr (compactN f) n.y.toNat)) := fun h1 => by
          have := hy h1
          rw [e1, getD_range (fun j => canon (expT (tr (compactN f) j))) [] (by omega), (e2 _ (by omega)).short]
        have hE := expS_short (a := expT (tr (compactN f) n.x.toNat)) (b := expT (tr (compactN f) n.y.toNat)) (hh n hm) (hops n hm) (fun h1 => by have := hx h1; exact (e2 _ (by omega)).xp.1) (fun h1 => by have := hy h1; exact (e2 _ (by omega)).xp.1)
        have ht : expM n (expT (tr (compactN f) n.x.toNat)) (expT (tr (compactN f) n.y.toNat)) = expT (tr (compactN f) k) := by rw [tr_eq hw hn, expT_mk]
        have hlen : (canon (expT (tr (compactN f) k))).length ≤ 200 := hall _ ((part_iff hok).2 ⟨k, by rw [← hce]; omega, by rw [hce]⟩)
        have hpos : 0 < (canon (expT (tr (compactN f) k))).length := canon_pos (by rw [← ht]; exact hE.2.1)
        rw [expGo_step hn hd, expS_congr gx gy (hops n hm), hE.1, ht, short_fit hlen, decide_eq_false (by omega)]
        exact ⟨_, rfl⟩
    obtain ⟨d, hd⟩ := hsome (compactN f).length (Nat.le_refl _)
    obtain ⟨e1, e2⟩ := expGo_trees hw hh hops (compactN f).length d (Nat.le_refl _) hd
    rw [List.take_of_length_le (Nat.le_refl _)] at hd
    unfold expandN
    rw [hd]
    show (d.getLastD []).length ≠ 0
    obtain ⟨m, hm⟩ : ∃ m, (compactN f).length = m + 1 := ⟨(compactN f).length - 1, by omega⟩
    rw [e1, hm, List.range_succ, List.map_append]
    simp only [List.map_cons, List.map_nil, List.getLastD_concat]
    have := canon_pos (e2 m (by omega)).xp.1.1
    omega
/-- What a formula's base error is told by. -/
theorem err_iff {f : List Nd} (hc : check f = 0) : (baseN f).2 = 0 ↔ (treeOf f).all (fun n => tyOp n.op) ∧ (∀ p, Part p (treeOf f) → (canon (expT p)).length ≤ 200) ∧ (baseOfN (canon (expT (treeOf f)))).2 = 0 := by
  constructor
  · intro h
    obtain ⟨_, h2, h3, h4⟩ := base_parts h
    obtain ⟨_, he⟩ := expand_tree hc h2 h3
    exact ⟨(lang_tree hc).1 h2, (exp_iff hc h2).1 h3, by rw [← he, ← h4]; exact h⟩
  · rintro ⟨h1, h2, h3⟩
    have hl := (lang_tree hc).2 h1
    have he := (exp_iff hc hl).2 h2
    obtain ⟨_, he2⟩ := expand_tree hc hl he
    unfold baseN
    rw [show (check f != 0) = false by simpa using hc, hl, decide_eq_false he, he2]
    exact h3
theorem err_cases {f : List Nd} (hc : check f = 0) : (baseN f).2 = (bif langBad f then 10 else bif decide ((expandN f).length = 0) then 8 else (baseOfN (expandN f)).2) := by
  unfold baseN
  rw [show (check f != 0) = false by simpa using hc]
  cases langBad f
  · cases decide ((expandN f).length = 0) <;> rfl
  · rfl
theorem baseOf_err (g : List Nd) : (baseOfN g).2 = 0 ∨ (baseOfN g).2 = 8 := by
  unfold baseOfN
  cases ((base0 g).flatMap unfsN).any (fun u => decide (u.length = 0)) || decide (12 < (((base0 g).flatMap unfsN).foldl addF (base0 g)).length)
  · exact .inl rfl
  · exact .inr rfl
/-- The same error for formulas of the same language of which the one is made where the other is. -/
theorem err_same {f g : List Nd} (hf : check f = 0) (hg : check g = 0) (hl : langBad f = langBad g) (h : langBad f = false → ((baseN f).2 = 0 ↔ (baseN g).2 = 0)) : (baseN f).2 = (baseN g).2 := by
  cases hb : langBad f
  · have h := h hb
    have key : ∀ f : List Nd, check f = 0 → langBad f = false → (baseN f).2 = 0 ∨ (baseN f).2 = 8 := fun f hf hb => by
      rw [err_cases hf, hb, cond_false]
      cases decide ((expandN f).length = 0)
      · exact baseOf_err _
      · exact .inr rfl
    rcases key f hf hb with h1 | h1 <;> rcases key g hg (by rw [← hl]; exact hb) with h2 | h2
    · rw [h1, h2]
    · rw [h.1 h1] at h2; cases h2
    · rw [h.2 h2] at h1; cases h1
    · rw [h1, h2]
  · rw [err_cases hf, err_cases hg, ← hl, hb]
    rfl
theorem len_two {n : Nd} {s t : Tr} (h : (Tr.two n s t).ok) : (canon (.two n s t)).length = (ins t (canon s)).1.length + 1 := by
  have hI := ins_last (.two n s t) h
  have A := ins_ok s [] h.2.2.2.1 wf_nil
  have B := ins_ok t _ h.2.2.2.2 A.wf
  show (addN (ins t (ins s []).1).1 (n.with_ (ins s []).2 (ins t (ins s []).1).2)).length = (ins t (ins s []).1).1.length + 1
  have hI' : (ins t (ins s []).1).1.idxOf (n.with_ (ins s []).2 (ins t (ins s []).1).2) + 1 = (addN (ins t (ins s []).1).1 (n.with_ (ins s []).2 (ins t (ins s []).1).2)).length := hI
  unfold addN at hI' ⊢
  by_cases hm : n.with_ (ins s []).2 (ins t (ins s []).1).2 ∈ (ins t (ins s []).1).1
  · exfalso
    have hb := ins_below t _ (Tr.two n s t).size h.2.2.2.2 A.wf (ins_below s [] (Tr.two n s t).size h.2.2.2.1 wf_nil (below_nil _) (by simp only [Tr.size]; omega)) (by simp only [Tr.size]; omega)
    have hlt := List.idxOf_lt_length_of_mem hm
    have h1 := hb _ hlt
    have I := (ins_ok (.two n s t) [] h wf_nil).tree
    have e1 : (ins (.two n s t) []).1 = (ins t (ins s []).1).1 := by
      show addN _ _ = _
      unfold addN
      rw [if_pos hm]
    rw [e1] at I
    have e2 : (ins (.two n s t) []).2 = (ins t (ins s []).1).1.idxOf (n.with_ (ins s []).2 (ins t (ins s []).1).2) := rfl
    rw [e2] at I
    rw [I] at h1
    omega
  · rw [if_neg hm, List.length_append]
    rfl
theorem len_one {n : Nd} {s : Tr} : (canon (.one n s)).length ≤ (canon s).length + 1 := addN_len _ _
theorem len_left {n : Nd} {s t : Tr} (h : (Tr.two n s t).ok) : (canon s).length + 1 ≤ (canon (.two n s t)).length := by
  rw [len_two h]
  have A := ins_ok s [] h.2.2.2.1 wf_nil
  have B := ins_ok t _ h.2.2.2.2 A.wf
  have := B.pre.length_le
  have : (canon s).length ≤ (ins t (canon s)).1.length := this
  omega
end Go.Proofs.Ytjonmmgpnfgomaa

/- The plain law of TypesDual. -/

namespace Go.Proofs.Ytjonmmgpnfgomaa

theorem hd_tree {f : List Nd} (h : check f = 0) : Hd (treeOf f) :=
  ⟨treeOf_ok h, tr_all (P := headOk) (fun n k1 k2 h => h.with_ k1 k2) (check_wf h) (heads_of h) _ (by have := (check_parts h).1; omega)⟩
/-- A connective of two formulas. -/
def tw (k : Int) (s t : Tr) : Tr := .two ⟨k, 0, 0, 0, 0, 0⟩ s t
def ng (s : Tr) : Tr := .one ⟨4, 0, 0, 0, 0, 0⟩ s
section
variable {k j : Int} {s t : Tr}
theorem hd_tw (hk : k = 5 ∨ k = 6) (hs : Hd s) (ht : Hd t) : Hd (tw k s t) := by
  rcases hk with rfl | rfl
  · exact hs.two rfl rfl (head0 5 (by omega)) rfl ht
  · exact hs.two rfl rfl (head0 6 (by omega)) rfl ht
theorem ok_tw (hk : k = 5 ∨ k = 6) (hs : s.ok) (ht : t.ok) : (tw k s t).ok := by
  rcases hk with rfl | rfl <;> exact ⟨rfl, rfl, rfl, hs, ht⟩
theorem len_tw (hk : k = 5 ∨ k = 6) (hs : s.ok) (ht : t.ok) : (canon (tw k s t)).length = (ins t (canon s)).1.length + 1 := len_two (ok_tw hk hs ht)
theorem xf_tw (hk : k = 5 ∨ k = 6) (hs : Xf s) (ht : Xf t) (hl : (canon (tw k s t)).length ≤ 200) : Xf (tw k s t) :=
  ⟨⟨hd_tw hk hs.xp.1 ht.xp.1, by rcases hk with rfl | rfl <;> exact ⟨.inl ⟨by decide, by decide⟩, hs.xp.2, ht.xp.2⟩⟩, hl⟩
theorem exp_tw : expT (tw k s t) = tw k (expT s) (expT t) := rfl
theorem part_tw {p : Tr} : Part p (tw k s t) ↔ p = tw k s t ∨ Part p s ∨ Part p t := Iff.rfl
theorem base_tw (hk : k = 5 ∨ k = 6) {p : Tr} (hp : Part p (tw k s t)) (hb : isBase p.top = true) : Part p s ∨ Part p t := by
  rcases hp with rfl | hp
  · rcases hk with rfl | rfl <;> cases hb
  · exact hp
theorem xf_of {f : List Nd} (hc : check f = 0) (h : (baseN f).2 = 0) : Xf (expT (treeOf f)) := by
  obtain ⟨_, h2, h3, _⟩ := base_parts h
  exact (expand_tree hc h2 h3).1
theorem err_half (hk : k = 5 ∨ k = 6) (hj : j = 5 ∨ j = 6) {A O : List Nd} (hA : check A = 0) (hO : check O = 0) (tA : treeOf A = tw k s t) (tO : treeOf O = tw j s t) (h : (baseN A).2 = 0) : (baseN O).2 = 0 := by
  have hX := xf_of hA h
  rw [tA, exp_tw] at hX
  obtain ⟨h1, h2, h3⟩ := (err_iff hA).1 h
  rw [tA] at h1 h2 h3
  rw [exp_tw] at h3
  obtain ⟨hS, hT⟩ := hX.of_two
  have hl : (canon (tw j (expT s) (expT t))).length = (canon (tw k (expT s) (expT t))).length := by rw [len_tw hj hS.xp.1.1 hT.xp.1.1, len_tw hk hS.xp.1.1 hT.xp.1.1]
  have hXj := xf_tw hj hS hT (by rw [hl]; exact hX.len)
  refine (err_iff hO).2 ?_
  rw [tO, exp_tw]
  refine ⟨⟨by rcases hj with rfl | rfl <;> exact .inl ⟨by decide, by decide⟩, h1.2⟩, fun p hp => ?_, base_err hXj (fun c hc => ?_) h3⟩
  · rcases part_tw.1 hp with rfl | hp
    · rw [exp_tw, hl]; exact hX.len
    · exact h2 p (part_tw.2 (.inr hp))
  · rw [hXj.mem_part] at hc
    rw [hX.mem_part]
    obtain ⟨p, hp, e, hb⟩ := hc
    exact ⟨p, .inr (base_tw hj hp hb), e, hb⟩
theorem lang_tw (hk : k = 5 ∨ k = 6) {A : List Nd} (hA : check A = 0) (tA : treeOf A = tw k s t) : langBad A = false ↔ s.all (fun n => tyOp n.op) ∧ t.all (fun n => tyOp n.op) := by
  rw [lang_tree hA, tA]
  constructor
  · intro h; exact h.2
  · intro h; exact ⟨by rcases hk with rfl | rfl <;> exact .inl ⟨by decide, by decide⟩, h⟩
/-- And and Or have the same error. -/
theorem err_dual {f g : List Nd} (hf : check f = 0) (hg : check g = 0) : (baseN (andN f g)).2 = (baseN (orN f g)).2 := by
  have eA : andN f g = shortT (tw 5 (treeOf f) (treeOf g)) := build_twoS hf hg rfl rfl (head0 5 (by omega))
  have eO : orN f g = shortT (tw 6 (treeOf f) (treeOf g)) := build_twoS hf hg rfl rfl (head0 6 (by omega))
  have hF := hd_tree hf
  have hG := hd_tree hg
  have hl : (canon (tw 6 (treeOf f) (treeOf g))).length = (canon (tw 5 (treeOf f) (treeOf g))).length := by rw [len_tw (.inr rfl) hF.1 hG.1, len_tw (.inl rfl) hF.1 hG.1]
  by_cases h200 : (canon (tw 5 (treeOf f) (treeOf g))).length ≤ 200
  · have h200' : (canon (tw 6 (treeOf f) (treeOf g))).length ≤ 200 := by omega
    rw [short_fit h200] at eA
    rw [short_fit h200'] at eO
    rw [eA, eO]
    have cA := (hd_tw (.inl rfl) hF hG).check h200
    have cO := (hd_tw (.inr rfl) hF hG).check h200'
    have tA := treeOf_canon (hd_tw (.inl rfl) hF hG).1
    have tO := treeOf_canon (hd_tw (.inr rfl) hF hG).1
    refine err_same cA cO ?_ (fun _ => ⟨err_half (.inl rfl) (.inr rfl) cA cO tA tO, err_half (.inr rfl) (.inl rfl) cO cA tO tA⟩)
    have h1 := lang_tw (.inl rfl) cA tA
    have h2 := lang_tw (.inr rfl) cO tO
    cases ha : langBad (canon (tw 5 (treeOf f) (treeOf g)))
    · exact (h2.2 (h1.1 ha)).symm
    · cases hb : langBad (canon (tw 6 (treeOf f) (treeOf g)))
      · rw [h1.2 (h2.1 hb)] at ha; cases ha
      · rfl
  · rw [eA, eO, short_long (by omega), short_long (by omega)]
theorem check_of_base {f : List Nd} (h : (baseN f).2 = 0) : check f = 0 := (base_parts h).1
structure Dual2 (f g : List Nd) : Prop where
  cA : check (andN f g) = 0
  tA : treeOf (andN f g) = tw 5 (treeOf f) (treeOf g)
  cO : check (orN f g) = 0
  tO : treeOf (orN f g) = tw 6 (treeOf f) (treeOf g)
  cN : check (notN f) = 0
  tN : treeOf (notN f) = ng (treeOf f)
  eF : (baseN f).2 = 0
  eG : (baseN g).2 = 0
  eN : (baseN (notN f)).2 = 0
theorem dual_parts {f g : List Nd} (hf : check f = 0) (hg : check g = 0) (h : (baseN (andN f g)).2 = 0) : Dual2 f g := by
  have hA := check_of_base h
  have hO := check_of_base (by rw [← err_dual hf hg]; exact h : (baseN (orN f g)).2 = 0)
  have hF := hd_tree hf
  have hG := hd_tree hg
  have eA : andN f g = shortT (tw 5 (treeOf f) (treeOf g)) := build_twoS hf hg rfl rfl (head0 5 (by omega))
  have eO : orN f g = shortT (tw 6 (treeOf f) (treeOf g)) := build_twoS hf hg rfl rfl (head0 6 (by omega))
  have h200 : (canon (tw 5 (treeOf f) (treeOf g))).length ≤ 200 := by
    by_cases e : (canon (tw 5 (treeOf f) (treeOf g))).length ≤ 200
    · exact e
    · rw [eA, short_long (by omega)] at hA
      exact absurd hA check_nil'
  have hl : (canon (tw 6 (treeOf f) (treeOf g))).length = (canon (tw 5 (treeOf f) (treeOf g))).length := by rw [len_tw (.inr rfl) hF.1 hG.1, len_tw (.inl rfl) hF.1 hG.1]
  have tA : treeOf (andN f g) = tw 5 (treeOf f) (treeOf g) := by rw [eA, short_fit h200]; exact treeOf_canon (hd_tw (.inl rfl) hF hG).1
  have tO : treeOf (orN f g) = tw 6 (treeOf f) (treeOf g) := by rw [eO, short_fit (by omega)]; exact treeOf_canon (hd_tw (.inr rfl) hF hG).1
  have eN : notN f = shortT (ng (treeOf f)) := build_oneS hf rfl rfl (head0 4 (by omega))
  have hN : Hd (ng (treeOf f)) := hd_not hF
  have l1 : (canon (treeOf f)).length + 1 ≤ (canon (tw 5 (treeOf f) (treeOf g))).length := len_left (hd_tw (.inl rfl) hF hG).1
  have l2 : (canon (ng (treeOf f))).length ≤ (canon (treeOf f)).length + 1 := len_one
  have hn200 : (canon (ng (treeOf f))).length ≤ 200 := by omega
  rw [short_fit hn200] at eN
  have cN : check (notN f) = 0 := by rw [eN]; exact hN.check hn200
  have tN : treeOf (notN f) = ng (treeOf f) := by rw [eN]; exact treeOf_canon hN.1
  have hX := xf_of hA h
  obtain ⟨h1, h2, h3⟩ := (err_iff hA).1 h
  rw [tA] at h1 h2 h3 hX
  rw [exp_tw] at h3 hX
  obtain ⟨hS, hT⟩ := hX.of_two
  have l3 := len_left hX.xp.1.1
  have l4 : (canon (ng (expT (treeOf f)))).length ≤ (canon (expT (treeOf f))).length + 1 := len_one
  have hx200 := hX.len
  have l5 : (canon (ng (expT (treeOf f)))).length ≤ 200 := by
    have l3' : (canon (expT (treeOf f))).length + 1 ≤ (canon (tw 5 (expT (treeOf f)) (expT (treeOf g)))).length := l3
    omega
  have hXN : Xf (ng (expT (treeOf f))) := ⟨hS.xp.not, l5⟩
  have enN : expT (ng (treeOf f)) = ng (expT (treeOf f)) := rfl
  have key : ∀ {S : Tr}, Xf S → (∀ p, Part p S → isBase p.top = true → Part p (expT (treeOf f)) ∨ Part p (expT (treeOf g))) → (baseOfN (canon S)).2 = 0 := fun {S} hS hp => base_err hS (fun c hc => by
    rw [hS.mem_part] at hc
    rw [hX.mem_part]
    obtain ⟨p, hq, e, hb⟩ := hc
    exact ⟨p, .inr (hp p hq hb), e, hb⟩) h3
  refine ⟨hA, tA, hO, tO, cN, tN, (err_iff hf).2 ⟨h1.2.1, fun p hp => h2 p (.inr (.inl hp)), key hS fun p hp _ => .inl hp⟩, (err_iff hg).2 ⟨h1.2.2, fun p hp => h2 p (.inr (.inr hp)), key hT fun p hp _ => .inr hp⟩, ?_⟩
  refine (err_iff cN).2 ?_
  rw [tN, enN]
  refine ⟨⟨.inl ⟨by decide, by decide⟩, h1.2.1⟩, fun p hp => ?_, key hXN fun p hp hb => ?_⟩
  · rcases hp with rfl | hp
    · exact l5
    · exact h2 p (.inr (.inl hp))
  · rcases hp with rfl | hp
    · cases hb
    · exact .inl hp
end
/-- A model with one world. -/
def unitM : KM := ⟨Unit, fun _ _ _ => True, fun _ _ => False⟩
theorem unit_in (lg : Int) : unitM.In lg := fun _ => ⟨fun _ _ => ⟨(), trivial⟩, fun _ _ => trivial, fun _ _ _ _ _ _ => trivial, fun _ _ _ _ _ _ => trivial⟩
/-- The law. -/
theorem dual_law {lg : Int} (hlg : 0 ≤ lg ∧ lg ≤ 6) {f g : List Nd} (hf : check f = 0) (hg : check g = 0) :
    engErr lg (andN f g) = engErr lg (orN f g) ∧ (engErr lg (andN f g) = 0 → engErr lg f = 0 ∧ engErr lg g = 0 ∧ engErr lg (notN f) = 0 ∧ (leftN lg f || leftN lg (notN f)) = true ∧ leftN lg (orN f g) = (leftN lg f || leftN lg g) ∧ (leftN lg (andN f g) = true → leftN lg f = true ∧ leftN lg g = true)) := by
  have eE : engErr lg (andN f g) = engErr lg (orN f g) := by rw [engErr_in _ hlg, engErr_in _ hlg, err_dual hf hg]
  refine ⟨eE, fun h => ?_⟩
  have hb : (baseN (andN f g)).2 = 0 := by rw [← engErr_in _ hlg]; exact h
  have D := dual_parts hf hg hb
  have eF : engErr lg f = 0 := by rw [engErr_in _ hlg]; exact D.eF
  have eG : engErr lg g = 0 := by rw [engErr_in _ hlg]; exact D.eG
  have eN : engErr lg (notN f) = 0 := by rw [engErr_in _ hlg]; exact D.eN
  have eO : engErr lg (orN f g) = 0 := by rw [← eE]; exact h
  have sF := sat_truth (eng_ok eF)
  have sG := sat_truth (eng_ok eG)
  have sN := sat_truth (eng_ok eN)
  have sA := sat_truth (eng_ok h)
  have sO := sat_truth (eng_ok eO)
  rw [D.tA] at sA
  rw [D.tO] at sO
  rw [D.tN] at sN
  have hand : ∀ (M : KM) (w : M.W), M.sat (tw 5 (treeOf f) (treeOf g)) w ↔ M.sat (treeOf f) w ∧ M.sat (treeOf g) w := fun M w => by simp [tw, KM.sat]
  have hor : ∀ (M : KM) (w : M.W), M.sat (tw 6 (treeOf f) (treeOf g)) w ↔ M.sat (treeOf f) w ∨ M.sat (treeOf g) w := fun M w => by simp [tw, KM.sat]
  have hnot : ∀ (M : KM) (w : M.W), M.sat (ng (treeOf f)) w ↔ ¬ M.sat (treeOf f) w := fun M w => by simp [ng, KM.sat]
  refine ⟨eF, eG, eN, ?_, ?_, fun hA => ?_⟩
  · rw [Bool.or_eq_true]
    by_cases hu : unitM.sat (treeOf f) ()
    · exact .inl (sF.2 ⟨unitM, unit_in lg, (), hu⟩)
    · exact .inr (sN.2 ⟨unitM, unit_in lg, (), (hnot unitM ()).2 hu⟩)
  · rw [Bool.eq_iff_iff, Bool.or_eq_true, sO, sF, sG]
    constructor
    · rintro ⟨M, hM, w, hw⟩
      rcases (hor M w).1 hw with hw | hw
      · exact .inl ⟨M, hM, w, hw⟩
      · exact .inr ⟨M, hM, w, hw⟩
    · rintro (⟨M, hM, w, hw⟩ | ⟨M, hM, w, hw⟩)
      · exact ⟨M, hM, w, (hor M w).2 (.inl hw)⟩
      · exact ⟨M, hM, w, (hor M w).2 (.inr hw)⟩
  · obtain ⟨M, hM, w, hw⟩ := sA.1 hA
    have := (hand M w).1 hw
    exact ⟨sF.2 ⟨M, hM, w, this.1⟩, sG.2 ⟨M, hM, w, this.2⟩⟩
end Go.Proofs.Ytjonmmgpnfgomaa

/- The plain law of TypesCommon. -/

namespace Go.Proofs.Ytjonmmgpnfgomaa

def everyN (g : Int) (f : List Nd) : List Nd := buildN ⟨11, 0, 0, g, 0, 0⟩ [f]
theorem un_tree {n : Nd} {f : List Nd} (h1 : hasX n.op = true) (h2 : hasY n.op = false) (hh : headOk n) (hn : n.head = n) (h : check (buildN n [f]) = 0) : check f = 0 ∧ treeOf (buildN n [f]) = .one n (treeOf f) := by
  by_cases hf : check f = 0
  · refine ⟨hf, ?_⟩
    have e := build_oneS hf h1 h2 hh
    rw [hn] at e
    have hd : Hd (.one n (treeOf f)) := (hd_tree hf).one h1 h2 hh hn
    by_cases hl : (canon (.one n (treeOf f))).length ≤ 200
    · rw [e, short_fit hl]; exact treeOf_canon hd.1
    · rw [e, short_long (by omega)] at h; exact absurd h check_nil'
  · rw [build_bad1 hf] at h; exact absurd h check_nil'
theorem bin_tree {n : Nd} {f g : List Nd} (h1 : hasX n.op = true) (h2 : hasY n.op = true) (hh : headOk n) (hn : n.head = n) (h : check (buildN n [f, g]) = 0) : check f = 0 ∧ check g = 0 ∧ treeOf (buildN n [f, g]) = .two n (treeOf f) (treeOf g) := by
  by_cases hf : check f = 0
  · by_cases hg : check g = 0
    · refine ⟨hf, hg, ?_⟩
      have e := build_twoS hf hg h1 h2 hh
      rw [hn] at e
      have hd : Hd (.two n (treeOf f) (treeOf g)) := (hd_tree hf).two h1 h2 hh hn (hd_tree hg)
      by_cases hl : (canon (.two n (treeOf f) (treeOf g))).length ≤ 200
      · rw [e, short_fit hl]; exact treeOf_canon hd.1
      · rw [e, short_long (by omega)] at h; exact absurd h check_nil'
    · rw [build_bad2 (.inr hg)] at h; exact absurd h check_nil'
  · rw [build_bad2 (.inl hf)] at h; exact absurd h check_nil'
theorem head_78 (k : Int) (hk : k = 7 ∨ k = 8) : headOk ⟨k, 0, 0, 0, 0, 0⟩ := by rcases hk with rfl | rfl <;> exact ⟨rfl, rfl, rfl, fun _ => rfl, fun _ => rfl⟩
theorem head_g (k : Int) (hk : k = 11 ∨ k = 13) {g : Int} (h0 : 1 ≤ g) (h1 : g ≤ 3) : headOk ⟨k, 0, 0, g, 0, 0⟩ := by
  have hg : g = 1 ∨ g = 2 ∨ g = 3 := by omega
  rcases hk with rfl | rfl <;> rcases hg with rfl | rfl | rfl <;> exact ⟨rfl, rfl, rfl, fun _ => rfl, fun _ => rfl⟩
def fact0 : List Nd := factN 0
def comF (g : Int) (x : List Nd) : List Nd := commonN g x fact0
def stepF (g : Int) (x : List Nd) : List Nd := everyN g (impN x (andN fact0 (comF g x)))
def com1 (g : Int) (x : List Nd) : List Nd := iffN (comF g x) (stepF g x)
def com2 (g : Int) (x : List Nd) : List Nd := impN (comF g x) (everyN g (impN x fact0))
section
variable {g : Int} {x : List Nd} {M : KM} {w : M.W}
theorem sat_ev {a : Tr} : M.sat (.one ⟨11, 0, 0, g, 0, 0⟩ a) w ↔ ∀ i : Nat, i < 4 → gbit g i = true → ∀ v, M.R (i : Int) w v → M.sat a v := by simp [KM.sat]
theorem sat_iff {a b : Tr} : M.sat (.two ⟨8, 0, 0, 0, 0, 0⟩ a b) w ↔ (M.sat a w ↔ M.sat b w) := by simp [KM.sat]
theorem com_all (h0 : 1 ≤ g) (h1 : g ≤ 3) {f : List Nd} (hF : f = com1 g x ∨ f = com2 g x) (hc : check (notN f) = 0) : ∃ t, treeOf (notN f) = .one ⟨4, 0, 0, 0, 0, 0⟩ t ∧ ∀ (M : KM) (w : M.W), M.sat t w := by
  obtain ⟨hf, e⟩ := un_tree rfl rfl (head0 4 (by omega)) rfl hc
  refine ⟨_, e, fun M w => ?_⟩
  rcases hF with rfl | rfl
  · obtain ⟨c1, c2, e1⟩ := bin_tree rfl rfl (head_78 8 (.inr rfl)) rfl hf
    obtain ⟨c3, c4, e3⟩ := bin_tree rfl rfl (head_g 13 (.inr rfl) h0 h1) rfl c1
    obtain ⟨c5, e5⟩ := un_tree rfl rfl (head_g 11 (.inl rfl) h0 h1) rfl c2
    obtain ⟨c6, c7, e7⟩ := bin_tree rfl rfl (head_78 7 (.inl rfl)) rfl c5
    obtain ⟨_, _, e8⟩ := bin_tree rfl rfl (head0 5 (by omega)) rfl c7
    show M.sat (treeOf (com1 g x)) w
    rw [show treeOf (com1 g x) = _ from e1]
    rw [show treeOf (stepF g x) = _ from e5, show treeOf (impN x (andN fact0 (comF g x))) = _ from e7, show treeOf (andN fact0 (comF g x)) = _ from e8]
    have key : ∀ w, M.sat (treeOf (comF g x)) w ↔ M.sat (.one ⟨11, 0, 0, g, 0, 0⟩ (.two ⟨7, 0, 0, 0, 0, 0⟩ (treeOf x) (.two ⟨5, 0, 0, 0, 0, 0⟩ (treeOf fact0) (treeOf (comF g x))))) w := fun w => by
      rw [show treeOf (comF g x) = _ from e3, com_unf rfl, sat_ev]
      constructor
      · intro h i hi hg v hv
        rw [sat_imp, sat_and]
        exact sat_unf.1 (h i hi hg) v hv
      · intro h i hi hg
        rw [sat_unf]
        intro v hv
        have := h i hi hg v hv
        rw [sat_imp, sat_and] at this
        exact this
    rw [sat_iff]
    exact key w
  · obtain ⟨c1, c2, e1⟩ := bin_tree rfl rfl (head_78 7 (.inl rfl)) rfl hf
    obtain ⟨c3, c4, e3⟩ := bin_tree rfl rfl (head_g 13 (.inr rfl) h0 h1) rfl c1
    obtain ⟨c5, e5⟩ := un_tree rfl rfl (head_g 11 (.inl rfl) h0 h1) rfl c2
    obtain ⟨c6, c7, e7⟩ := bin_tree rfl rfl (head_78 7 (.inl rfl)) rfl c5
    rw [show treeOf (com2 g x) = _ from e1]
    rw [show treeOf (comF g x) = _ from e3, show treeOf (everyN g (impN x fact0)) = _ from e5, show treeOf (impN x fact0) = _ from e7, sat_imp, com_unf rfl, sat_ev]
    intro h i hi hg v hv
    rw [sat_imp]
    exact fun hx => (sat_unf.1 (h i hi hg) v hv hx).1
end
/-- The law. -/
theorem common_law {lg g : Int} {x f : List Nd} (h0 : 1 ≤ g) (h1 : g ≤ 3) (hF : f = com1 g x ∨ f = com2 g x) (h : engErr lg (notN f) = 0) : leftN lg (notN f) = false := by
  have hE := eng_ok h
  obtain ⟨t, e, ht⟩ := com_all h0 h1 hF hE.ck
  cases hl : leftN lg (notN f)
  · rfl
  · obtain ⟨M, _, w, hw⟩ := (sat_truth hE).1 hl
    rw [e, sat_not] at hw
    exact absurd (ht M w) hw
end Go.Proofs.Ytjonmmgpnfgomaa

/- Formulas in a row of the call's own. -/

namespace Go.Proofs.Ytjonmmgpnfgomaa
open Go.RowKit

/-- A value's block is not the row's, and lies from m on. -/
def Away (m : Nat) (w : World) (vo u : Value) : Prop := ∀ g, u.ownBlock = some g → g < w.heap.size ∧ vo.ownBlock ≠ some g ∧ m ≤ g
theorem Away.ext {m : Nat} {w w' : World} {vo u : Value} (h : Away m w vo u) (he : Ext w w') : Away m w' vo u := fun g hg => ⟨Nat.lt_of_lt_of_le (h g hg).1 he.size, (h g hg).2⟩
theorem tInfoF2 : (Try.prog.info? 22).map (fun i => (i.zero, i.size, i.bytes)) = some (some (.slice none 0 0), 1, 24) := by kernel_rfl
theorem Nds.keepF {w w' : World} {v : Value} {l : List Nd} (h : Nds w v l) (hb : ∀ g, v.ownBlock = some g → g < w.heap.size → w'.heap[g]? = w.heap[g]?) (hs : w.heap.size ≤ w'.heap.size) : Nds w' v l := by
  obtain ⟨A, c, rfl, h1, h2, h3⟩ := h
  refine ⟨A, c, rfl, h1, h2, fun hn => ?_⟩
  obtain ⟨ad, rfl, hlt, hc⟩ := h3 hn
  refine ⟨ad, rfl, Nat.lt_of_lt_of_le hlt hs, fun k n hk => (hc k n hk).keep fun p hp => World.cell?_of_block ?_⟩
  rw [hp, block_of_add]
  exact hb ad.block rfl hlt
/-- Formulas in a row of the call's own. -/
structure FRow (w0 w : World) (vo : Value) (out : List (List Nd)) : Prop where
  ext : Ext w0 w
  row : ∃ us, w.ownsRow w0.heap.size 22 1 vo out.length us ∧ ∀ (k : Nat) (s : List Nd), out[k]? = some s → ∃ u, us[k]? = some u ∧ Fml w u s ∧ Away w0.heap.size w vo u
theorem FRow.ext_ {w0 w w' : World} {vo : Value} {out : List (List Nd)} (h : FRow w0 w vo out) (he : Ext w w') : FRow w0 w' vo out := by
  obtain ⟨us, hr, hu⟩ := h.row
  refine ⟨h.ext.trans he, us, row_ext hr he, fun k s hk => ?_⟩
  obtain ⟨u, a, b, c⟩ := hu k s hk
  exact ⟨u, a, b.ext he, c.ext he⟩
theorem FRow.nil (w : World) : FRow w w (.slice none 0 0) [] := ⟨Ext.refl _, [], World.ownsRow_nil _ _ _ _, fun k s h => by simp at h⟩
theorem row1_cellsF {w : World} {base n : Nat} {t : TypeId} {v : Value} {us : List Value} (h : w.ownsRow base t 1 v n us) (hn : 0 < n) :
    ∃ g cap, v = .slice (some ⟨g, 0, none⟩) n cap ∧ g < w.heap.size ∧ n ≤ cap ∧ cap ≤ maxLen ∧ ∀ i z, us[i]? = some z → w.cell? ⟨g, i, none⟩ = some z := by
  rcases h.2 with ⟨_, h0⟩ | ⟨g, cap, cur, rfl, _, hg, hnc, hm, hs, ht⟩
  · omega
  · refine ⟨g, cap, rfl, lt_heap hg, hnc, hm, fun i z h1 => ?_⟩
    rw [← ht, List.getElem?_take] at h1
    split at h1
    · have h2 : cur[i]? = some z := by simpa using h1
      simp [World.cell?, hg, h2]
    · cases h1
/-- What lies in the row lies in blocks of the call's own: so it stays where these blocks stay. -/
theorem FRow.keep {w0 w w' : World} {vo : Value} {out : List (List Nd)} (h : FRow w0 w vo out) (hb : ∀ g, w0.heap.size ≤ g → g < w.heap.size → w'.heap[g]? = w.heap[g]?) (hs : w.heap.size ≤ w'.heap.size) (he : Ext w0 w') : FRow w0 w' vo out := by
  obtain ⟨us, hr, hu⟩ := h.row
  refine ⟨he, us, ⟨hr.1, ?_⟩, fun k s hk => ?_⟩
  · rcases hr.2 with h0 | ⟨g, cap, cur, e, h1, h2, h3, h4, h5, h6⟩
    · exact .inl h0
    · exact .inr ⟨g, cap, cur, e, h1, (hb g h1 (lt_heap h2)).trans h2, h3, h4, h5, h6⟩
  · obtain ⟨u, a, b, c⟩ := hu k s hk
    exact ⟨u, a, ⟨b.1.keepF (fun g hg _ => hb g (c g hg).2.2 (c g hg).1) hs, b.2⟩, fun g hg => ⟨Nat.lt_of_lt_of_le (c g hg).1 hs, (c g hg).2⟩⟩
theorem FRow.fmls {w0 w : World} {vo : Value} {out : List (List Nd)} (h : FRow w0 w vo out) : Fmls w vo out := by
  obtain ⟨ss, hs, hv⟩ := h.row
  by_cases h0 : 0 < out.length
  · obtain ⟨g, cap, rfl, hg, h1, h2, hc⟩ := row1_cellsF hs h0
    refine ⟨_, cap, rfl, h1, h2, fun _ => ⟨_, rfl, hg, fun k f hk => ?_⟩⟩
    obtain ⟨u, a, b, _⟩ := hv k f hk
    exact ⟨u, by rw [addr_zero]; exact hc k u a, b⟩
  · have e : out = [] := List.length_eq_zero_iff.1 (by omega)
    subst e
    obtain ⟨A, c, rfl⟩ := slice_of_row hs
    rcases hs.2 with ⟨e, _⟩ | ⟨g, cap, cur, e, _, _, hn, hm, _⟩
    · injection e with e1 _ e2
      subst e1 e2
      exact ⟨_, _, rfl, Nat.le_refl _, by unfold maxLen; omega, fun h => absurd rfl h⟩
    · injection e with e1 _ e2
      subst e1 e2
      exact ⟨_, _, rfl, Nat.zero_le _, hm, fun h => absurd rfl h⟩
theorem FRow.push {w0 W w4 : World} {vo v' x : Value} {out : List (List Nd)} {s : List Nd} {ss : List Value} (he : Ext w0 W) (hs : W.ownsRow w0.heap.size 22 1 vo out.length ss) (hv : ∀ (k : Nat) (s : List Nd), out[k]? = some s → ∃ u, ss[k]? = some u ∧ Fml W u s ∧ Away w0.heap.size W vo u)
    (hrow : w4.ownsRow w0.heap.size 22 1 v' (out.length + 1) (ss ++ [x])) (hg : W.grownBy w4 vo.ownBlock) (hat : v'.ownBlock = vo.ownBlock ∨ v'.ownBlock = some W.heap.size) (hx : Fml W x s) (hxf : Away w0.heap.size W vo x) :
    FRow w0 w4 v' (out ++ [s]) := by
  have hlen : ss.length = out.length := by simpa using hs.1
  have hkeep : ∀ g, g < W.heap.size → vo.ownBlock ≠ some g → w4.heap[g]? = W.heap[g]? := fun g h1 h2 => hg.block g h1 (fun e => h2 e.symm)
  have haway : ∀ u, Away w0.heap.size W vo u → Away w0.heap.size w4 v' u := fun u hu g hgu => by
    obtain ⟨a, b, hm⟩ := hu g hgu
    refine ⟨Nat.lt_of_lt_of_le a hg.size, fun e => ?_, hm⟩
    rcases hat with e1 | e1
    · exact b (e1.symm.trans e)
    · rw [e1] at e; injection e with e; omega
  have hfml : ∀ u s, Away w0.heap.size W vo u → Fml W u s → Fml w4 u s := fun u s ha hi => ⟨hi.1.keepF (fun g hg' _ => hkeep g (ha g hg').1 (ha g hg').2.1) hg.size, hi.2⟩
  refine ⟨he.grown hg (fun g hg' => (hs.lt g hg').1), ss ++ [x], by rw [List.length_append]; exact hrow, fun k s' hk => ?_⟩
  by_cases hk' : k < out.length
  · rw [List.getElem?_append_left hk'] at hk
    obtain ⟨u, a, b, c⟩ := hv k s' hk
    exact ⟨u, by rw [List.getElem?_append_left (by omega)]; exact a, hfml u s' c b, haway u c⟩
  · rw [List.getElem?_append_right (by omega)] at hk
    have hk0 : k = out.length := by
      by_cases e : k - out.length = 0
      · omega
      · rw [List.getElem?_eq_none (by simp; omega)] at hk; cases hk
    subst hk0
    simp at hk
    subst hk
    exact ⟨x, by rw [List.getElem?_append_right (by omega), hlen]; simp, hfml x _ hxf hx, haway x hxf⟩
theorem made_away {w W : World} {vo x : Value} {B n k : Nat} {us zs : List Value} {e : TypeId} {sz m : Nat} (hB : w.heap.size ≤ B) (hx : W.ownsRow B e sz x n zs) (hs : w.ownsRow m 22 1 vo k us) (hm : m ≤ w.heap.size) : Away m W vo x := fun g hg => by
  obtain ⟨h1, h2⟩ := hx.lt g hg
  exact ⟨h2, fun e => by have := (hs.lt g e).2; omega, by omega⟩
end Go.Proofs.Ytjonmmgpnfgomaa

/- slices.IndexFunc at lists of nodes with a test of any function. -/

namespace Go.Proofs.Ytjonmmgpnfgomaa
open Go.RowKit

/-- The first place at which a test holds, or -1. -/
def findN (p : List Nd → Bool) (l : List (List Nd)) : Int := match l.findIdx? p with | none => -1 | some j => j
theorem findIdx_hit (p : List Nd → Bool) : ∀ (l : List (List Nd)) (k : Nat) (s : List Nd), l[k]? = some s → p s = true → (∀ t ∈ l.take k, p t = false) → l.findIdx? p = some k
  | [], k, s, h, _, _ => by simp at h
  | a :: r, 0, s, h, hp, _ => by
    simp only [List.getElem?_cons_zero, Option.some.injEq] at h
    subst h
    rw [List.findIdx?_cons, hp]
    rfl
  | a :: r, k + 1, s, h, hp, hn => by
    have ha : p a = false := hn a (by simp)
    rw [List.findIdx?_cons, ha, findIdx_hit p r k s (by simpa using h) hp (fun t ht => hn t (by simp [ht]))]
    rfl
theorem findIdx_miss (p : List Nd → Bool) : ∀ (l : List (List Nd)), (∀ t ∈ l, p t = false) → l.findIdx? p = none
  | [], _ => by simp
  | a :: r, hn => by
    rw [List.findIdx?_cons, hn a (by simp), findIdx_miss p r (fun t ht => hn t (by simp [ht]))]
    rfl
set_option maxRecDepth 100000 in
set_option maxHeartbeats 4000000 in
theorem indexF_any (g : Nat) (lb : Array Value) (eg : ∀ args w, (callFunc g args).run Try.prog w = .ok (.enter g args) w) (p : List Nd → Bool) (v : Value) (l : List (List Nd)) (w : World) (h : Fmls w v l)
    (hp : ∀ (W : World) (u : Value) (s : List Nd), Ext w W → Fml W u s → Calls Try.prog g (#[u] ++ lb) W fun e w' => e = .returned (.bool (p s)) ∧ Ext W w') :
    Calls Try.prog 90 #[v, .func (.func g) #[] lb] w fun e w' => e = .returned (.int .i64 (findN p l)) ∧ Ext w w' := by
  obtain ⟨A, c, rfl, hcap, hmax, hr⟩ := h
  unfold maxLen at hmax
  have HR := Lib.hid hr
  have HP := Lib.hid hp
  clear hr hp
  go_enter Try.func90, Try.ntmps90
  go_wp2_with fail
  go_loopw [5, 8] (fun _ i wr => ∃ k : Nat, k ≤ l.length ∧ i = .int .i64 (k : Int) ∧ Hid (∀ t ∈ l.take k, p t = false) ∧ Hid (Ext w wr)) (fun _ i _ => l.length - (intOf i).toNat)
  case atStart => exact ⟨0, Nat.zero_le _, rfl, Lib.hid (by simp), Lib.hid (Ext.refl _)⟩
  case round =>
    obtain ⟨k, hk, rfl, HNI, HX⟩ := hrel
    by_cases hlt2 : k < l.length
    · obtain ⟨s, hs⟩ : ∃ s, l[k]? = some s := ⟨_, List.getElem?_eq_getElem hlt2⟩
      obtain ⟨ad, rfl, hb1, hc1⟩ := HR.out (by intro e; rw [e] at hlt2; simp at hlt2)
      obtain ⟨u, hu, hf⟩ := hc1 k s hs
      have a0 := (HX.out.cell (p := ad.add k) (by rw [block_of_add]; exact hb1)).trans hu
      have HF := Lib.hid (hf.ext HX.out)
      have HA := Lib.hid hs
      have hk1 : (k : Int) < (l.length : Int) := by omega
      clear hs hc1 hf hu
      cases hps : p s
      · have HT : Hid (∀ t ∈ l.take (k + 1), p t = false) := Lib.hid (by
          rw [take_succ_eq HA.out]
          intro t ht
          rcases List.mem_append.1 ht with ht | ht
          · exact HNI.out t ht
          · rw [List.mem_singleton.1 ht]; exact hps)
        go_wp2_with (refine (HP.out _ u s (by exact HX.out.trans (by repeat (first | exact Ext.refl _ | assumption | apply Ext.alloc | apply Ext.drew))) (by exact HF.out.ext (by repeat (first | exact Ext.refl _ | assumption | apply Ext.alloc | apply Ext.drew)))).mono ?_; rintro e w1 ⟨rfl, hx⟩; rw [hps])
        go_roundw
        case rel => exact ⟨k + 1, by omega, by go_num, HT, Lib.hid (HX.out.trans (by first | exact hx | exact Ext.trans (by repeat (first | exact Ext.refl _ | assumption | apply Ext.alloc | apply Ext.drew)) hx))⟩
        case measure => simp [intOf]; omega
      · have HE := Lib.hid (show findN p l = (k : Int) by unfold findN; rw [findIdx_hit p l k s HA.out hps HNI.out])
        go_wp2_with (refine (HP.out _ u s (by exact HX.out.trans (by repeat (first | exact Ext.refl _ | assumption | apply Ext.alloc | apply Ext.drew))) (by exact HF.out.ext (by repeat (first | exact Ext.refl _ | assumption | apply Ext.alloc | apply Ext.drew)))).mono ?_; rintro e w1 ⟨rfl, hx⟩; rw [hps])
        go_ret
        exact ⟨by rw [HE.out] <;> rfl, HX.out.trans (by first | exact hx | exact Ext.trans (by repeat (first | exact Ext.refl _ | assumption | apply Ext.alloc | apply Ext.drew)) hx)⟩
    · obtain rfl : l.length = k := by omega
      have HE := Lib.hid (show findN p l = -1 by
        unfold findN
        rw [findIdx_miss p l (fun t ht => HNI.out t (by rw [List.take_of_length_le (Nat.le_refl _)]; exact ht))])
      go_wp2_with fail
      go_ret
      exact ⟨by rw [HE.out] <;> rfl, HX.out⟩
end Go.Proofs.Ytjonmmgpnfgomaa
