/- Canonical lists: the walk from a node, without a memory of what is done; it is monotone and may be repeated. -/
import Derived.Test.YtipnbfbakohcaaaDoorSpecForm
namespace Go.Proofs.YtipnbfbakohcaaaDoor

def Nd.zero : Nd := ⟨0, 0, 0, 0, 0, 0⟩
/-- The operands of the nodes of a list stand before them. -/
def Wf (f : List Nd) : Prop := ∀ (i : Nat) (n : Nd), f[i]? = some n → (hasX n.op = true → 0 ≤ n.x ∧ n.x < i) ∧ (hasY n.op = true → 0 ≤ n.y ∧ n.y < i)
/-- A node with the numbers of its operands. -/
def Nd.with_ (n : Nd) (kx ky : Nat) : Nd := { n with x := bif hasX n.op then (kx : Int) else n.x, y := bif hasY n.op then (ky : Int) else n.y }
def addN (o : List Nd) (m : Nd) : List Nd := if m ∈ o then o else o ++ [m]
def fin (f : List Nd) : Nat → Nat → List Nd → List Nd × Nat
  | 0, _, o => (o, 0)
  | fuel + 1, i, o =>
    let n : Nd := f.getD i Nd.zero
    let r1 := if hasX n.op then fin f fuel n.x.toNat o else (o, 0)
    let r2 := if hasY n.op then fin f fuel n.y.toNat r1.1 else (r1.1, 0)
    (addN r2.1 (n.with_ r1.2 r2.2), r2.1.idxOf (n.with_ r1.2 r2.2))
def finN (f : List Nd) (i : Nat) (o : List Nd) : List Nd × Nat := fin f (i + 1) i o

theorem getD_of {f : List Nd} {i : Nat} {n : Nd} (h : f[i]? = some n) : f.getD i Nd.zero = n := by simp [List.getD, h]

theorem fin_fuel {f : List Nd} (hf : Wf f) : ∀ (fuel i : Nat) (o : List Nd), i < fuel → i < f.length → fin f fuel i o = finN f i o := by
  intro fuel
  induction fuel using Nat.strongRecOn with
  | _ fuel ih =>
    intro i o h hi
    cases fuel with
    | zero => omega
    | succ fuel =>
      obtain ⟨n, hn⟩ : ∃ n, f[i]? = some n := ⟨_, List.getElem?_eq_getElem hi⟩
      obtain ⟨hx, hy⟩ := hf i n hn
      have e : ∀ (b : Nat) (k : Nat), b < i → i ≤ k → k ≤ fuel → ∀ o, fin f k b o = finN f b o := fun b k hb hk hkf o => ih k (by omega) b o (by omega) (by omega)
      unfold finN
      simp only [fin, getD_of hn]
      have e1 : ∀ o : List Nd, (if hasX n.op = true then fin f fuel n.x.toNat o else (o, 0)) = (if hasX n.op = true then fin f i n.x.toNat o else (o, 0)) := by
        intro o
        split
        · rename_i h1
          have := hx h1
          rw [e n.x.toNat fuel (by omega) (by omega) (by omega), e n.x.toNat i (by omega) (by omega) (by omega)]
        · rfl
      have e2 : ∀ o : List Nd, (if hasY n.op = true then fin f fuel n.y.toNat o else (o, 0)) = (if hasY n.op = true then fin f i n.y.toNat o else (o, 0)) := by
        intro o
        split
        · rename_i h1
          have := hy h1
          rw [e n.y.toNat fuel (by omega) (by omega) (by omega), e n.y.toNat i (by omega) (by omega) (by omega)]
        · rfl
      simp only [e1, e2]

/-- What a node's operands come to, and the node with their numbers. -/
def opX (f : List Nd) (n : Nd) (o : List Nd) : List Nd × Nat := if hasX n.op then finN f n.x.toNat o else (o, 0)
def opY (f : List Nd) (n : Nd) (o : List Nd) : List Nd × Nat := if hasY n.op then finN f n.y.toNat o else (o, 0)
theorem finN_eq {f : List Nd} (hf : Wf f) {i : Nat} {n : Nd} (hn : f[i]? = some n) (o : List Nd) :
    finN f i o = (addN (opY f n (opX f n o).1).1 (n.with_ (opX f n o).2 (opY f n (opX f n o).1).2), (opY f n (opX f n o).1).1.idxOf (n.with_ (opX f n o).2 (opY f n (opX f n o).1).2)) := by
  have hi : i < f.length := (List.getElem?_eq_some_iff.1 hn).1
  obtain ⟨hx, hy⟩ := hf i n hn
  have e1 : ∀ o : List Nd, (if hasX n.op = true then fin f i n.x.toNat o else (o, 0)) = opX f n o := by
    intro o
    unfold opX
    split
    · rename_i h1
      have := hx h1
      exact fin_fuel hf _ _ _ (by omega) (by omega)
    · rfl
  have e2 : ∀ o : List Nd, (if hasY n.op = true then fin f i n.y.toNat o else (o, 0)) = opY f n o := by
    intro o
    unfold opY
    split
    · rename_i h1
      have := hy h1
      exact fin_fuel hf _ _ _ (by omega) (by omega)
    · rfl
  conv => lhs; unfold finN fin
  simp only [getD_of hn, e1, e2]

theorem addN_prefix (o : List Nd) (m : Nd) : o <+: addN o m := by
  unfold addN
  split
  · exact List.prefix_refl _
  · exact List.prefix_append _ _
theorem mem_addN (o : List Nd) (m : Nd) : m ∈ addN o m := by
  unfold addN
  split
  · assumption
  · simp
theorem idxOf_prefix {o o' : List Nd} {m : Nd} (h : o <+: o') (hm : m ∈ o) : o'.idxOf m = o.idxOf m := by
  obtain ⟨t, rfl⟩ := h
  rw [List.idxOf_append, if_pos hm]
theorem idxOf_addN (o : List Nd) (m : Nd) : (addN o m).idxOf m = o.idxOf m := by
  unfold addN
  split
  · rfl
  · rename_i h
    rw [List.idxOf_append, if_neg h, List.idxOf_eq_length h]
    simp
theorem idxOf_lt_addN (o : List Nd) (m : Nd) : o.idxOf m < (addN o m).length := by
  rw [← idxOf_addN]
  exact List.idxOf_lt_length_of_mem (mem_addN o m)

section
variable {f : List Nd} (hf : Wf f)
include hf
theorem finN_prefix : ∀ (i : Nat) (o : List Nd), i < f.length → o <+: (finN f i o).1 := by
  intro i
  induction i using Nat.strongRecOn with
  | _ i ih =>
    intro o hi
    obtain ⟨n, hn⟩ : ∃ n, f[i]? = some n := ⟨_, List.getElem?_eq_getElem hi⟩
    obtain ⟨hx, hy⟩ := hf i n hn
    have p1 : o <+: (opX f n o).1 := by
      unfold opX
      split
      · rename_i h1
        have := hx h1
        exact ih _ (by omega) _ (by omega)
      · exact List.prefix_refl _
    have p2 : ∀ o, o <+: (opY f n o).1 := by
      intro o
      unfold opY
      split
      · rename_i h1
        have := hy h1
        exact ih _ (by omega) _ (by omega)
      · exact List.prefix_refl _
    rw [finN_eq hf hn]
    exact (p1.trans (p2 _)).trans (addN_prefix _ _)

theorem opX_prefix {i : Nat} {n : Nd} (hn : f[i]? = some n) (o : List Nd) : o <+: (opX f n o).1 := by
  have hi : i < f.length := (List.getElem?_eq_some_iff.1 hn).1
  unfold opX
  split
  · rename_i h1
    have := (hf i n hn).1 h1
    exact finN_prefix hf _ _ (by omega)
  · exact List.prefix_refl _
theorem opY_prefix {i : Nat} {n : Nd} (hn : f[i]? = some n) (o : List Nd) : o <+: (opY f n o).1 := by
  have hi : i < f.length := (List.getElem?_eq_some_iff.1 hn).1
  unfold opY
  split
  · rename_i h1
    have := (hf i n hn).2 h1
    exact finN_prefix hf _ _ (by omega)
  · exact List.prefix_refl _

/-- What was walked once comes to the same number again, and adds nothing. -/
theorem finN_again : ∀ (i : Nat) (o o' : List Nd), i < f.length → (finN f i o).1 <+: o' → finN f i o' = (o', (finN f i o).2) := by
  intro i
  induction i using Nat.strongRecOn with
  | _ i ih =>
    intro o o' hi hp
    obtain ⟨n, hn⟩ : ∃ n, f[i]? = some n := ⟨_, List.getElem?_eq_getElem hi⟩
    obtain ⟨hx, hy⟩ := hf i n hn
    have hm := mem_addN (opY f n (opX f n o).1).1 (n.with_ (opX f n o).2 (opY f n (opX f n o).1).2)
    have hix := idxOf_addN (opY f n (opX f n o).1).1 (n.with_ (opX f n o).2 (opY f n (opX f n o).1).2)
    have hap := addN_prefix (opY f n (opX f n o).1).1 (n.with_ (opX f n o).2 (opY f n (opX f n o).1).2)
    have pY : (opY f n (opX f n o).1).1 <+: o' := by
      rw [finN_eq hf hn] at hp
      exact hap.trans hp
    have pX : (opX f n o).1 <+: o' := (opY_prefix hf hn _).trans pY
    have eX : opX f n o' = (o', (opX f n o).2) := by
      unfold opX at pX ⊢
      split
      · rename_i h1
        rw [if_pos h1] at pX
        have := hx h1
        exact ih _ (by omega) _ _ (by omega) pX
      · rfl
    have eY : opY f n o' = (o', (opY f n (opX f n o).1).2) := by
      unfold opY at pY ⊢
      split
      · rename_i h1
        rw [if_pos h1] at pY
        have := hy h1
        exact ih _ (by omega) _ _ (by omega) pY
      · rfl
    rw [finN_eq hf hn] at hp
    rw [finN_eq hf hn o', finN_eq hf hn o, eX]
    simp only [eY]
    have hm' : n.with_ (opX f n o).2 (opY f n (opX f n o).1).2 ∈ o' := hp.subset hm
    rw [show addN o' (n.with_ (opX f n o).2 (opY f n (opX f n o).1).2) = o' from by unfold addN; rw [if_pos hm']]
    rw [idxOf_prefix hp hm, hix]

theorem finN_lt (i : Nat) (o : List Nd) (hi : i < f.length) : (finN f i o).2 < (finN f i o).1.length := by
  obtain ⟨n, hn⟩ : ∃ n, f[i]? = some n := ⟨_, List.getElem?_eq_getElem hi⟩
  rw [finN_eq hf hn]
  exact idxOf_lt_addN _ _
end

/-- How many nodes a list has, and how many nodes of the formula would still add to it. -/
def pot (f o : List Nd) : Nat := o.length + (List.range f.length).countP fun j => (finN f j o).1.length != o.length

theorem countP_lt {α : Type} {p q : α → Bool} : ∀ {l : List α}, (∀ x ∈ l, p x = true → q x = true) → (∃ x ∈ l, p x = false ∧ q x = true) → l.countP p < l.countP q
  | [], _, h => by obtain ⟨x, hx, _⟩ := h; cases hx
  | a :: l, hpq, h => by
    have ih : (∃ x ∈ l, p x = false ∧ q x = true) → l.countP p < l.countP q := fun h => countP_lt (fun x hx => hpq x (by simp [hx])) h
    have hle : l.countP p ≤ l.countP q := List.countP_mono_left fun x hx => hpq x (by simp [hx])
    rw [List.countP_cons, List.countP_cons]
    obtain ⟨x, hx, h1, h2⟩ := h
    rcases List.mem_cons.1 hx with rfl | hx
    · simp only [h1, h2]; simp; omega
    · have h3 := ih ⟨x, hx, h1, h2⟩
      have h4 := hpq a (by simp)
      cases hp : p a
      · cases hq : q a <;> simp <;> omega
      · rw [h4 hp]; simp; omega

section
variable {f : List Nd} (hf : Wf f)
include hf
theorem done_mono {j : Nat} {o o' : List Nd} (hj : j < f.length) (hp : o <+: o') (h : (finN f j o).1.length = o.length) : (finN f j o').1.length = o'.length := by
  have hpre := finN_prefix hf j o hj
  have e : (finN f j o).1 = o := (hpre.eq_of_length h.symm).symm
  rw [finN_again hf j o o' hj (by rw [e]; exact hp)]

theorem pot_count {o o' : List Nd} (hp : o <+: o') : (List.range f.length).countP (fun j => (finN f j o').1.length != o'.length) ≤ (List.range f.length).countP fun j => (finN f j o).1.length != o.length := by
  refine List.countP_mono_left fun j hj hne => ?_
  have hj' := List.mem_range.1 hj
  simp only [bne_iff_ne, ne_eq] at hne ⊢
  exact fun h => hne (done_mono hf hj' hp h)

theorem pot_le : ∀ (i : Nat) (o : List Nd), i < f.length → pot f (finN f i o).1 ≤ pot f o := by
  intro i
  induction i using Nat.strongRecOn with
  | _ i ih =>
    intro o hi
    obtain ⟨n, hn⟩ : ∃ n, f[i]? = some n := ⟨_, List.getElem?_eq_getElem hi⟩
    obtain ⟨hx, hy⟩ := hf i n hn
    have p1 : pot f (opX f n o).1 ≤ pot f o := by
      unfold opX
      split
      · rename_i h1
        have := hx h1
        exact ih _ (by omega) _ (by omega)
      · exact Nat.le_refl _
    have p2 : ∀ o, pot f (opY f n o).1 ≤ pot f o := by
      intro o
      unfold opY
      split
      · rename_i h1
        have := hy h1
        exact ih _ (by omega) _ (by omega)
      · exact Nat.le_refl _
    refine Nat.le_trans ?_ (Nat.le_trans (p2 _) p1)
    have hagain := finN_again hf i o (finN f i o).1 hi (List.prefix_refl _)
    rw [finN_eq hf hn o] at hagain ⊢
    -- the operands of node i are done in o2
    have eX : opX f n (opY f n (opX f n o).1).1 = ((opY f n (opX f n o).1).1, (opX f n o).2) := by
      have hp := opY_prefix hf hn (opX f n o).1
      unfold opX at hp ⊢
      split
      · rename_i h1
        rw [if_pos h1] at hp
        have := hx h1
        exact finN_again hf _ _ _ (by omega) hp
      · rfl
    have eY : opY f n (opY f n (opX f n o).1).1 = ((opY f n (opX f n o).1).1, (opY f n (opX f n o).1).2) := by
      unfold opY
      split
      · rename_i h1
        have := hy h1
        exact finN_again hf _ _ _ (by omega) (List.prefix_refl _)
      · rfl
    have hfin := finN_eq hf hn (opY f n (opX f n o).1).1
    rw [eX] at hfin
    simp only [eY] at hfin
    generalize (opY f n (opX f n o).1).1 = o2 at hfin hagain ⊢
    generalize n.with_ (opX f n o).2 (opY f n (opX f n o).1).2 = m at hfin hagain ⊢
    by_cases hm : m ∈ o2
    · have : addN o2 m = o2 := by unfold addN; rw [if_pos hm]
      rw [this]
      exact Nat.le_refl _
    · have ha : addN o2 m = o2 ++ [m] := by unfold addN; rw [if_neg hm]
      have hc := countP_lt (l := List.range f.length) (p := fun j => (finN f j (addN o2 m)).1.length != (addN o2 m).length) (q := fun j => (finN f j o2).1.length != o2.length)
        (fun j hj hne => by
          have hj' := List.mem_range.1 hj
          simp only [bne_iff_ne, ne_eq] at hne ⊢
          exact fun h => hne (done_mono hf hj' (addN_prefix _ _) h))
        ⟨i, List.mem_range.2 hi, by simp only [bne_eq_false_iff_eq]; rw [hagain], by simp only [bne_iff_ne, ne_eq]; rw [hfin, ha]; simp⟩
      have hl : (addN o2 m).length = o2.length + 1 := by rw [ha]; simp
      show pot f (addN o2 m) ≤ pot f o2
      unfold pot
      omega
end
theorem pot_nil (f : List Nd) : pot f [] ≤ f.length := by
  unfold pot
  have := List.countP_le_length (p := fun j => (finN f j []).1.length != ([] : List Nd).length) (l := List.range f.length)
  simp only [List.length_range, List.length_nil] at this ⊢
  omega
theorem length_le_pot (f o : List Nd) : o.length ≤ pot f o := Nat.le_add_right _ _
end Go.Proofs.YtipnbfbakohcaaaDoor
