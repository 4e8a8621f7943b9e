/- Trees: all nodes, lengths of the lists of parts. -/
import Derived.Test.YtbfeodammikajaaGreatS09
import Derived.Deep.MidRow
import Derived.Test.YtbfeodammikajaaGreatS01

namespace Go.Proofs.YtbfeodammikajaaGreat

/-- All nodes of a tree. -/
def Tr.all (P : Nd → Prop) : Tr → Prop
  | .leaf n => P n
  | .one n a => P n ∧ a.all P
  | .two n a b => P n ∧ a.all P ∧ b.all P
theorem ins_all {P : Nd → Prop} (hP : ∀ n k1 k2, P n → P (n.with_ k1 k2)) : ∀ (t : Tr) (o : List Nd), t.all P → (∀ n ∈ o, P n) → ∀ n ∈ (ins t o).1, P n
  | .leaf n, o, ht, ho, m, hm => by
    change m ∈ addN o n at hm
    unfold addN at hm
    split at hm
    · exact ho m hm
    · rcases List.mem_append.1 hm with h | h
      · exact ho m h
      · simp at h; subst h; exact ht
  | .one n a, o, ht, ho, m, hm => by
    change m ∈ addN (ins a o).1 _ at hm
    have ha := ins_all hP a o ht.2 ho
    unfold addN at hm
    split at hm
    · exact ha m hm
    · rcases List.mem_append.1 hm with h | h
      · exact ha m h
      · simp at h; subst h; exact hP _ _ _ ht.1
  | .two n a b, o, ht, ho, m, hm => by
    change m ∈ addN (ins b (ins a o).1).1 _ at hm
    have ha := ins_all hP b _ ht.2.2 (ins_all hP a o ht.2.1 ho)
    unfold addN at hm
    split at hm
    · exact ha m hm
    · rcases List.mem_append.1 hm with h | h
      · exact ha m h
      · simp at h; subst h; exact hP _ _ _ ht.1
theorem tr_all {P : Nd → Prop} (hP : ∀ n k1 k2, P n → P (n.with_ k1 k2)) {f : List Nd} (hf : Wf f) (hn : ∀ n ∈ f, P n) : ∀ i, i < f.length → (tr f i).all P := by
  intro i
  induction i using Nat.strongRecOn with
  | _ i ih =>
    intro hi
    obtain ⟨n, hi'⟩ : ∃ n, f[i]? = some n := ⟨_, List.getElem?_eq_getElem hi⟩
    obtain ⟨hx, hy⟩ := hf i n hi'
    have hp := hn n (List.mem_of_getElem? hi')
    rw [tr_eq hf hi']
    unfold mkTr
    cases h2 : hasY n.op
    · cases h1 : hasX n.op
      · exact hp
      · have := hx h1
        exact ⟨hP _ _ _ hp, ih _ (by omega) (by omega)⟩
    · have h1 := hasX_of_hasY h2
      have := hx h1
      have := hy h2
      exact ⟨hP _ _ _ hp, ih _ (by omega) (by omega), ih _ (by omega) (by omega)⟩
theorem ins_len {b : Tr} (hb : b.ok) (o : List Nd) : (ins b o).1.length ≤ o.length + (canon b).length := by
  have hw := canon_wf hb
  have hp := canon_pos hb
  have e : tr (canon b) ((canon b).length - 1) = b := treeOf_canon hb
  have h := finN_ins hw ((canon b).length - 1) o (by omega)
  rw [e] at h
  rw [← h]
  have h1 := length_le_pot (canon b) (finN (canon b) ((canon b).length - 1) o).1
  have h2 := pot_le hw ((canon b).length - 1) o (by omega)
  have h3 : pot (canon b) o ≤ o.length + (canon b).length := by
    unfold pot
    have := List.countP_le_length (p := fun j => (finN (canon b) j o).1.length != o.length) (l := List.range (canon b).length)
    rw [List.length_range] at this
    omega
  omega
/-- The list of a part of a formula is no longer than the formula's. -/
theorem part_len {t : Tr} (ht : t.ok) {k : Nat} (hk : k < (canon t).length) : (canon (tr (canon t) k)).length ≤ (canon t).length := by
  have hw := canon_wf ht
  have e := finN_ins hw k [] hk
  have h1 := length_le_pot (canon t) (finN (canon t) k []).1
  have h2 := pot_le hw k [] hk
  have h3 := pot_nil (canon t)
  have : canon (tr (canon t) k) = (finN (canon t) k []).1 := by rw [e]; rfl
  rw [this]
  omega
theorem last_node {t : Tr} (ht : t.ok) : ∃ n, (canon t)[(canon t).length - 1]? = some n ∧ t = mkTr n (tr (canon t) n.x.toNat) (tr (canon t) n.y.toNat) ∧ (hasX n.op = true → 0 ≤ n.x ∧ n.x < ((canon t).length - 1 : Nat)) ∧ (hasY n.op = true → 0 ≤ n.y ∧ n.y < ((canon t).length - 1 : Nat)) := by
  have hw := canon_wf ht
  have hp := canon_pos ht
  obtain ⟨n, hn⟩ : ∃ n, (canon t)[(canon t).length - 1]? = some n := ⟨_, List.getElem?_eq_getElem (by omega)⟩
  have h1 := tr_eq hw hn
  have h2 : tr (canon t) ((canon t).length - 1) = t := treeOf_canon ht
  rw [h2] at h1
  exact ⟨n, hn, h1, hw _ n hn⟩
theorem one_len {n : Nd} {a : Tr} (ht : (Tr.one n a).ok) : (canon a).length ≤ (canon (.one n a)).length := by
  obtain ⟨m, _, h1, hx, _⟩ := last_node ht
  have hp := canon_pos ht
  unfold mkTr at h1
  cases h2 : hasY m.op
  · cases h3 : hasX m.op
    · rw [h2, h3] at h1; cases h1
    · rw [h2, h3] at h1
      injection h1 with _ h1
      have := hx h3
      have e := part_len ht (k := m.x.toNat) (by omega)
      rw [← h1] at e
      exact e
  · rw [h2] at h1; cases h1
theorem two_len {n : Nd} {a b : Tr} (ht : (Tr.two n a b).ok) : (canon a).length ≤ (canon (.two n a b)).length ∧ (canon b).length ≤ (canon (.two n a b)).length := by
  obtain ⟨m, _, h1, hx, hy⟩ := last_node ht
  have hp := canon_pos ht
  unfold mkTr at h1
  cases h2 : hasY m.op
  · cases h3 : hasX m.op
    · rw [h2, h3] at h1; cases h1
    · rw [h2, h3] at h1; cases h1
  · rw [h2] at h1
    injection h1 with _ h1 h3
    have := hx (hasX_of_hasY h2)
    have := hy h2
    refine ⟨?_, ?_⟩
    · have e := part_len ht (k := m.x.toNat) (by omega)
      rw [← h1] at e
      exact e
    · have e := part_len ht (k := m.y.toNat) (by omega)
      rw [← h3] at e
      exact e
/-- The last node of a formula and what stands below it. -/
theorem last_tree {f : List Nd} (h : check f = 0) : treeOf f = mkTr (lastN f) (tr f (lastN f).x.toNat) (tr f (lastN f).y.toNat) :=
  tr_eq (check_wf h) (lastN_get (check_parts h).1)
theorem mk_one {m n : Nd} {a b c : Tr} (h : mkTr m a b = .one n c) : hasX m.op = true ∧ m.op = n.op ∧ m.i = n.i ∧ a = c := by
  unfold mkTr at h
  cases h2 : hasY m.op
  · cases h1 : hasX m.op
    · rw [h2, h1] at h; cases h
    · rw [h2, h1] at h
      simp only [cond_false, cond_true, Tr.one.injEq] at h
      exact ⟨rfl, by rw [← h.1]; rfl, by rw [← h.1]; rfl, h.2⟩
  · rw [h2] at h; cases h
theorem last_one {f : List Nd} {n : Nd} {c : Tr} (h : check f = 0) (ht : treeOf f = .one n c) :
    (lastN f).op = n.op ∧ (lastN f).i = n.i ∧ tr f (lastN f).x.toNat = c ∧ subN f (lastN f).x = canon c ∧ (lastN f).x.toNat < f.length := by
  have e := last_tree h
  rw [ht] at e
  obtain ⟨h1, h2, h3, h4⟩ := mk_one e.symm
  have hw := (check_wf h _ _ (lastN_get (check_parts h).1)).1 h1
  have hx : (lastN f).x.toNat < f.length := by omega
  refine ⟨h2, h3, h4, ?_, hx⟩
  have e2 := subN_tree h hx
  rw [show (((lastN f).x.toNat : Nat) : Int) = (lastN f).x by omega] at e2
  rw [e2, h4]
theorem mk_two {m n : Nd} {a b c d : Tr} (h : mkTr m a b = .two n c d) : hasY m.op = true ∧ m.head = n ∧ a = c ∧ b = d := by
  unfold mkTr at h
  cases h2 : hasY m.op
  · cases h1 : hasX m.op
    · rw [h2, h1] at h; cases h
    · rw [h2, h1] at h; cases h
  · rw [h2] at h
    simp only [cond_true, Tr.two.injEq] at h
    exact ⟨rfl, h⟩
theorem last_two {f : List Nd} {n : Nd} {c d : Tr} (h : check f = 0) (ht : treeOf f = .two n c d) :
    (lastN f).op = n.op ∧ (lastN f).g = n.g ∧ subN f (lastN f).x = canon c ∧ subN f (lastN f).y = canon d := by
  have e := last_tree h
  rw [ht] at e
  obtain ⟨h2, h3, h4, h5⟩ := mk_two e.symm
  obtain ⟨hx, hy⟩ := check_wf h _ _ (lastN_get (check_parts h).1)
  have hx := hx (hasX_of_hasY h2)
  have hy := hy h2
  have e1 := subN_tree h (show (lastN f).x.toNat < f.length by omega)
  have e2 := subN_tree h (show (lastN f).y.toNat < f.length by omega)
  rw [show (((lastN f).x.toNat : Nat) : Int) = (lastN f).x by omega, h4] at e1
  rw [show (((lastN f).y.toNat : Nat) : Int) = (lastN f).y by omega, h5] at e2
  exact ⟨by rw [← h3]; rfl, by rw [← h3]; rfl, e1, e2⟩
theorem last_op {f : List Nd} (h : check f = 0) : (lastN f).op = (treeOf f).top.op := by
  rw [last_tree h]
  unfold mkTr
  cases hasY (lastN f).op
  · cases hasX (lastN f).op <;> rfl
  · rfl
/-- The trees at the places of a list are different ones. -/
def Dst (o : List Nd) : Prop := ∀ i j, i < o.length → j < o.length → tr o i = tr o j → i = j
theorem mk_inj {m n : Nd} {a b c d : Tr} (h : mkTr m a b = mkTr n c d) : m.head = n.head ∧ (hasX m.op = true → a = c) ∧ (hasY m.op = true → b = d) := by
  unfold mkTr at h
  cases h2 : hasY m.op
  · cases h1 : hasX m.op
    · cases k2 : hasY n.op
      · cases k1 : hasX n.op
        · rw [h1, h2, k1, k2] at h
          injection h with h
          exact ⟨by rw [h], (fun e => by cases e), (fun e => by cases e)⟩
        · rw [h1, h2, k1, k2] at h; cases h
      · rw [h1, h2, k2] at h; cases h
    · cases k2 : hasY n.op
      · cases k1 : hasX n.op
        · rw [h1, h2, k1, k2] at h; cases h
        · rw [h1, h2, k1, k2] at h
          injection h with e1 e2
          exact ⟨e1, (fun _ => e2), (fun e => by cases e)⟩
      · rw [h1, h2, k2] at h; cases h
  · cases k2 : hasY n.op
    · cases k1 : hasX n.op
      · rw [h2, k1, k2] at h; cases h
      · rw [h2, k1, k2] at h; cases h
    · rw [h2, k2] at h
      injection h with e1 e2 e3
      exact ⟨e1, fun _ => e2, fun _ => e3⟩
theorem with_self {n : Nd} (hx : hasX n.op = true → 0 ≤ n.x) (hy : hasY n.op = true → 0 ≤ n.y) : n.head.with_ n.x.toNat n.y.toNat = n := by
  rw [head_with]
  obtain ⟨op, i, e, g, x, y⟩ := n
  unfold Nd.with_
  simp only at hx hy ⊢
  congr 1
  · cases h : hasX op
    · rfl
    · have := hx h; simp only [cond_true]; omega
  · cases h : hasY op
    · rfl
    · have := hy h; simp only [cond_true]; omega
theorem dst_addN {o : List Nd} {m : Nd} (ho : Wf o) (hw : Wf (addN o m)) (h : Dst o) : Dst (addN o m) := by
  by_cases hm : m ∈ o
  · have e : addN o m = o := by unfold addN; rw [if_pos hm]
    rw [e]; exact h
  · have e : addN o m = o ++ [m] := by unfold addN; rw [if_neg hm]
    rw [e] at hw ⊢
    have hp : ∀ k, k < o.length → tr (o ++ [m]) k = tr o k := fun k hk => tr_prefix ho hw (List.prefix_append _ _) k hk
    have hl : (o ++ [m])[o.length]? = some m := by simp
    have hmx := hw _ _ hl
    have key : ∀ j, j < o.length → tr (o ++ [m]) o.length ≠ tr o j := fun j hj he => by
      obtain ⟨n, hn⟩ : ∃ n, o[j]? = some n := ⟨_, List.getElem?_eq_getElem hj⟩
      have hnx := ho j n hn
      rw [tr_eq hw hl, tr_eq ho hn] at he
      obtain ⟨e1, e2, e3⟩ := mk_inj he
      have eo : m.op = n.op := by have := congrArg Nd.op e1; exact this
      have ex : hasX m.op = true → m.x.toNat = n.x.toNat := fun hx => by
        have a1 := hmx.1 hx
        have a2 := hnx.1 (eo ▸ hx)
        have := e2 hx
        rw [hp _ (by omega)] at this
        exact h _ _ (by omega) (by omega) this
      have ey : hasY m.op = true → m.y.toNat = n.y.toNat := fun hy => by
        have a1 := hmx.2 hy
        have a2 := hnx.2 (eo ▸ hy)
        have := e3 hy
        rw [hp _ (by omega)] at this
        exact h _ _ (by omega) (by omega) this
      have em := with_self (n := m) (fun hx => (hmx.1 hx).1) (fun hy => (hmx.2 hy).1)
      have en := with_self (n := n) (fun hx => (hnx.1 hx).1) (fun hy => (hnx.2 hy).1)
      have : m = n := by
        rw [← em, ← en, e1]
        unfold Nd.with_
        congr 1
        · cases hx : hasX n.head.op
          · rfl
          · rw [ex (by rw [eo]; exact hx)]
        · cases hy : hasY n.head.op
          · rfl
          · rw [ey (by rw [eo]; exact hy)]
      exact hm (this ▸ List.mem_of_getElem? hn)
    intro i j hi hj hij
    rw [List.length_append, List.length_singleton] at hi hj
    by_cases hio : i < o.length
    · by_cases hjo : j < o.length
      · rw [hp i hio, hp j hjo] at hij
        exact h i j hio hjo hij
      · have : j = o.length := by omega
        subst this
        rw [hp i hio] at hij
        exact absurd hij.symm (key i hio)
    · have : i = o.length := by omega
      subst this
      by_cases hjo : j < o.length
      · rw [hp j hjo] at hij
        exact absurd hij (key j hjo)
      · omega
theorem ins_dst : ∀ (t : Tr) (o : List Nd), t.ok → Wf o → Dst o → Dst (ins t o).1
  | .leaf n, o, ht, ho, h => dst_addN ho (ins_ok (.leaf n) o ht ho).wf h
  | .one n a, o, ht, ho, h => dst_addN (ins_ok a o ht.2.2.2 ho).wf (ins_ok (.one n a) o ht ho).wf (ins_dst a o ht.2.2.2 ho h)
  | .two n a b, o, ht, ho, h => by
    have A := ins_ok a o ht.2.2.2.1 ho
    exact dst_addN (ins_ok b _ ht.2.2.2.2 A.wf).wf (ins_ok (.two n a b) o ht ho).wf (ins_dst b _ ht.2.2.2.2 A.wf (ins_dst a o ht.2.2.2.1 ho h))
theorem canon_dst {t : Tr} (ht : t.ok) : Dst (canon t) := ins_dst t [] ht wf_nil (fun i _ hi => absurd hi (by simp))
end Go.Proofs.YtbfeodammikajaaGreat

/- The tables of the elimination of types, by trees. -/

namespace Go.Proofs.YtbfeodammikajaaGreat

/-- What a type says of a tree of the base. -/
def th (base : List (List Nd)) (t : Nat) (f : Tr) : Bool := bif decide (0 ≤ placeN base (canon f)) then t.testBit (placeN base (canon f)).toNat else false
theorem base_cases (n : Nd) : (n.op = 3 ∨ n.op = 9 ∨ n.op = 13) ∨ ((n.op == 3) = false ∧ (n.op == 9) = false ∧ (n.op == 13) = false) := by
  by_cases h3 : n.op = 3
  · exact .inl (.inl h3)
  · by_cases h9 : n.op = 9
    · exact .inl (.inr (.inl h9))
    · by_cases h13 : n.op = 13
      · exact .inl (.inr (.inr h13))
      · exact .inr ⟨by simpa using h3, by simpa using h9, by simpa using h13⟩
theorem places_get {base : List (List Nd)} {f : List Nd} {i : Nat} {n : Nd} (hi : f[i]? = some n) : (placesN base f)[i]? = some (bif isBase n then placeN base (subN f (i : Int)) else -1) := by
  unfold placesN
  rw [List.getElem?_map, List.getElem?_range (List.getElem?_eq_some_iff.1 hi).1]
  simp only [Option.map_some, getD_of hi]
theorem places_len (base : List (List Nd)) (f : List Nd) : (placesN base f).length = f.length := by simp [placesN]
section
variable {base : List (List Nd)} {f : List Nd} {t i : Nat} {n : Nd}
theorem at_step (hc : check f = 0) (hi : f[i]? = some n) (v : List Bool) (hv : v = (List.range i).map fun j => ev (th base t) (tr f j)) :
    atStep n (bif isBase n then placeN base (subN f (i : Int)) else -1) t v = ev (th base t) (tr f i) := by
  have hw := check_wf hc
  have hil := (List.getElem?_eq_some_iff.1 hi).1
  have hs : subN f (i : Int) = canon (tr f i) := subN_tree hc hil
  have ht := tr_eq hw hi
  obtain ⟨hx, hy⟩ := hw i n hi
  have gx : hasX n.op = true → v.getD n.x.toNat false = ev (th base t) (tr f n.x.toNat) := fun h => by
    have := hx h
    rw [hv, List.getD_eq_getElem?_getD, List.getElem?_map, List.getElem?_range (by omega)]
    rfl
  have gy : hasY n.op = true → v.getD n.y.toNat false = ev (th base t) (tr f n.y.toNat) := fun h => by
    have := hy h
    rw [hv, List.getD_eq_getElem?_getD, List.getElem?_map, List.getElem?_range (by omega)]
    rfl
  have hop := (isOp_iff n.op).1 (heads_of hc n (List.mem_of_getElem? hi)).1
  rw [hs]
  by_cases hb : isBase n = true
  · have hk : ∀ s : Tr, tr f i = s → ev (th base t) s = th base t s → atStep n (bif isBase n then placeN base (canon (tr f i)) else -1) t v = ev (th base t) (tr f i) := fun s e1 e2 => by
      rw [hb, cond_true, e1, e2]
      unfold atStep th
      cases hd : decide (0 ≤ placeN base (canon s))
      · simp only [cond_false]
        have ho : n.op = 3 ∨ n.op = 9 ∨ n.op = 13 := by simpa [isBase] using hb
        rcases ho with ho | ho | ho <;> simp [ho]
      · simp only [cond_true]
    have ho : n.op = 3 ∨ n.op = 9 ∨ n.op = 13 := by simpa [isBase] using hb
    rcases ho with ho | ho | ho
    · exact hk (.leaf n) (by rw [ht]; simp [mkTr, ho, hasX, hasY]) (by simp [ev, ho])
    · exact hk (.one n.head (tr f n.x.toNat)) (by rw [ht]; simp [mkTr, ho, hasX, hasY]) (by simp [ev, head_op, ho])
    · exact hk (.two n.head (tr f n.x.toNat) (tr f n.y.toNat)) (by rw [ht]; simp [mkTr, ho, hasX, hasY]) (by simp [ev, head_op, ho])
  · have hb' : isBase n = false := by simpa using hb
    rw [hb', cond_false]
    have h3 : n.op ≠ 3 ∧ n.op ≠ 9 ∧ n.op ≠ 13 := by simpa [isBase] using hb'
    have hneg : decide ((0 : Int) ≤ -1) = false := by decide
    unfold atStep
    rw [hneg, cond_false, ht]
    by_cases h4 : n.op = 4
    · rw [gx (by rw [h4]; rfl)]
      simp [mkTr, h4, hasX, hasY, ev, head_op]
    by_cases h5 : n.op = 5
    · rw [gx (by rw [h5]; rfl), gy (by rw [h5]; rfl)]
      simp [mkTr, h5, hasX, hasY, ev, head_op]
    by_cases h6 : n.op = 6
    · rw [gx (by rw [h6]; rfl), gy (by rw [h6]; rfl)]
      simp [mkTr, h6, hasX, hasY, ev, head_op]
    by_cases h7 : n.op = 7
    · rw [gx (by rw [h7]; rfl), gy (by rw [h7]; rfl)]
      simp [mkTr, h7, hasX, hasY, ev, head_op]
    by_cases h8 : n.op = 8
    · rw [gx (by rw [h8]; rfl), gy (by rw [h8]; rfl)]
      simp [mkTr, h8, hasX, hasY, ev, head_op]
    · have b4 : (n.op == 4) = false := by simpa using h4
      have b5 : (n.op == 5) = false := by simpa using h5
      have b6 : (n.op == 6) = false := by simpa using h6
      have b7 : (n.op == 7) = false := by simpa using h7
      have b8 : (n.op == 8) = false := by simpa using h8
      rw [b4, b5, b6, b7, b8]
      simp only [cond_false]
      unfold mkTr
      cases hY : hasY n.op
      · cases hX : hasX n.op
        · simp only [cond_false, ev, h3.1, if_false]
          cases n.op == 1 <;> rfl
        · have h1 : n.op ≠ 1 := fun e => by rw [e] at hX; cases hX
          have b1 : (n.op == 1) = false := by simpa using h1
          rw [b1]
          simp [ev, head_op, h4, h3.2.1]
      · have h1 : n.op ≠ 1 := fun e => by rw [e] at hY; cases hY
        have b1 : (n.op == 1) = false := by simpa using h1
        rw [b1]
        simp [ev, head_op, h5, h6, h7, h8, h3.2.2]
theorem at_go (hc : check f = 0) : ∀ (k i : Nat), i + k = f.length → atGo t (f.drop i) ((placesN base f).drop i) ((List.range i).map fun j => ev (th base t) (tr f j)) = (List.range f.length).map fun j => ev (th base t) (tr f j)
  | 0, i, h => by
    have e : i = f.length := by omega
    subst e
    rw [List.drop_length]
    rfl
  | k + 1, i, h => by
    have hi : f[i]? = some f[i] := List.getElem?_eq_getElem (by omega)
    have hp := places_get (base := base) hi
    obtain ⟨hpl, hpe⟩ := List.getElem?_eq_some_iff.1 hp
    rw [List.drop_eq_getElem_cons (show i < f.length by omega), List.drop_eq_getElem_cons hpl, hpe]
    show atGo t _ _ (_ ++ [_]) = _
    rw [at_step hc hi _ rfl]
    have e : (List.range i).map (fun j => ev (th base t) (tr f j)) ++ [ev (th base t) (tr f i)] = (List.range (i + 1)).map fun j => ev (th base t) (tr f j) := by
      rw [List.range_succ, List.map_append]
      rfl
    rw [e]
    exact at_go hc k (i + 1) (by omega)
/-- The truth of a formula at a type is that of its tree. -/
theorem at_ev (hc : check f = 0) : atN f (placesN base f) t = ev (th base t) (treeOf f) := by
  unfold atN
  have h := at_go (base := base) (t := t) hc f.length 0 (by omega)
  simp only [List.drop_zero, List.range_zero, List.map_nil] at h
  rw [h]
  have hp := (check_parts hc).1
  obtain ⟨k, hk⟩ : ∃ k, f.length = k + 1 := ⟨f.length - 1, by omega⟩
  rw [hk, List.range_succ, List.map_append, List.map_cons, List.map_nil]
  unfold treeOf
  rw [hk]
  simp
end
theorem tab_len (base : List (List Nd)) (f : List Nd) : (tabN base f).length = 2 ^ base.length := by simp [tabN]
theorem tab_get {base : List (List Nd)} {f : List Nd} (hc : check f = 0) {t : Nat} (ht : t < 2 ^ base.length) : (tabN base f).getD t false = ev (th base t) (treeOf f) := by
  unfold tabN
  rw [List.getD_eq_getElem?_getD, List.getElem?_map, List.getElem?_range ht]
  exact at_ev hc
end Go.Proofs.YtbfeodammikajaaGreat

/- formula.join, All, Subs; types' top, unfolded, index: the walks. -/

namespace Go.Proofs.YtbfeodammikajaaGreat
open Go.RowKit

theorem fold_step {l : List (List Nd)} {k : Nat} {s : List Nd} (h : l[k]? = some s) (a : List Nd) : (l.take (k + 1)).foldl andN a = andN ((l.take k).foldl andN a) s := by
  rw [take_succ_eq h, List.foldl_append]
  rfl
theorem add_succ' (ad : Addr) (k : Nat) : ad.add (k + 1) = ⟨ad.block, ad.off + 1 + k, none⟩ := by
  unfold Addr.add
  simp
  omega
theorem drop_get {α : Type} {x : α} {r : List α} {k : Nat} {s : α} (h : r[k]? = some s) : (x :: r)[k + 1]? = some s := by simpa using h
set_option maxRecDepth 100000 in
set_option maxHeartbeats 4000000 in
theorem joinA_any (v1 v2 : Value) (l : List (List Nd)) (e0 : List Nd) (wb w : World) (h1 : Fmls w v1 l) (hm2 : Made wb w v2 e0) :
    Calls Tryz.prog 156 #[v1, v2, .func (Fn.func 119) #[] #[]] w fun e w' => ∃ u, e = .returned u ∧ Made wb w' u (conjN e0 l) := by
  have H1 := Lib.hid h1
  have H2 := Lib.hid hm2
  have h2 := hm2.fml
  obtain ⟨A, c, rfl, hcap, hmax, hr⟩ := h1
  obtain ⟨A2, c2, rfl, _⟩ := fml_slice h2
  unfold maxLen at hmax
  have HR := Lib.hid hr
  clear hr h2 hm2
  cases l with
  | nil =>
    go_enter Tryz.func156, Tryz.ntmps156
    go_wp2_with fail
    go_ret
    exact ⟨_, rfl, H2.out⟩
  | cons f r =>
    obtain ⟨ad, rfl, hb1, hc1⟩ := HR.out (by simp)
    obtain ⟨u0, hu0, hf0⟩ := hc1 0 f rfl
    have HC := Lib.hid hc1
    have HF0 := Lib.hid hf0
    have hu0' : w.cell? ad = some u0 := by rw [← hu0]; congr 1
    clear hc1 hf0 HR H1 hu0
    obtain ⟨m, hm⟩ : ∃ m, m = r.length := ⟨_, rfl⟩
    rw [show (f :: r).length = m + 1 by simp [hm]] at hcap ⊢
    have HM := Lib.hid hm
    have hl1 : (((m + 1 : Nat) : Int) == 0) = false := by rw [beq_eq_false_iff_ne]; omega
    have hl4 : (((m : Nat) : Int) + 1 == 0) = false := by rw [beq_eq_false_iff_ne]; omega
    have hl2 : (0 : Int) < ((m + 1 : Nat) : Int) := by omega
    clear hm
    by_cases hcc : c = 1
    · subst hcc
      obtain rfl : 0 = m := by omega
      go_enter Tryz.func156, Tryz.ntmps156
      go_wp2_with fail
      refine (compactF_any _ f _ HF0.out).mono ?_
      rintro e w1 ⟨u, rfl, hm⟩
      have HM1 := Lib.hid hm
      clear hm
      go_wp2_with fail
      have HR0 := Lib.hid (List.length_eq_zero_iff.1 HM.out.symm)
      go_loopw [7, 21] (fun vf vi wr => vi = .int .i64 0 ∧ vf = u ∧ Hid (Ext w1 wr)) (fun _ i _ => 0)
      case atStart => exact ⟨rfl, rfl, Lib.hid (Ext.refl _)⟩
      case round =>
        obtain ⟨rfl, rfl, HX⟩ := hrel
        go_wp2_with fail
        go_ret
        exact ⟨_, rfl, by rw [HR0.out]; exact (HM1.out.before H2.out.ext).after HX.out⟩
    · have hcc2 : 1 < c := by omega
      go_enter Tryz.func156, Tryz.ntmps156
      go_wp2_with fail
      refine (compactF_any _ f _ HF0.out).mono ?_
      rintro e w1 ⟨u, rfl, hm⟩
      have HM1 := Lib.hid hm
      clear hm
      go_wp2_with fail
      go_loopw [7, 21] (fun vf vi wr => ∃ k : Nat, k ≤ m ∧ vi = .int .i64 (k : Int) ∧ Hid (Made w wr vf ((r.take k).foldl andN (compactN f)))) (fun _ i _ => m - (intOf i).toNat)
      case atStart => exact ⟨0, Nat.zero_le _, rfl, HM1⟩
      case round =>
        obtain ⟨k, hk, rfl, HREL⟩ := hrel
        have HX := Lib.hid HREL.out.ext
        have HF := Lib.hid HREL.out.fml
        obtain ⟨Af, cf, rfl, _⟩ := fml_slice HREL.out.fml
        by_cases hlt2 : k < m
        · obtain ⟨s, hs⟩ : ∃ s, r[k]? = some s := ⟨_, List.getElem?_eq_getElem (by rw [← HM.out]; exact hlt2)⟩
          obtain ⟨us, hus, hfs⟩ := HC.out (k + 1) s (drop_get hs)
          rw [add_succ'] at hus
          have a0 := (HX.out.cell (p := ⟨ad.block, ad.off + 1 + k, none⟩) hb1).trans hus
          have HFS := Lib.hid (hfs.ext HX.out)
          have HS := Lib.hid hs
          obtain ⟨As, cs, rfl, _⟩ := fml_slice hfs
          clear hs hfs hus
          go_wp2_with fail
          refine (and_any _ _ _ _ _ HF.out HFS.out).mono ?_
          rintro e w2 ⟨u2, rfl, hm2⟩
          have HM2 := Lib.hid hm2
          clear hm2
          go_wp2_with fail
          go_roundw
          case rel => exact ⟨k + 1, by omega, by go_num, Lib.hid (by rw [fold_step HS.out]; exact HM2.out.before HX.out)⟩
          case measure => simp [intOf]; omega
        · obtain rfl : m = k := by omega
          have HE := Lib.hid (show r.take m = r by rw [HM.out]; exact List.take_of_length_le (Nat.le_refl _))
          go_wp2_with fail
          go_ret
          refine ⟨.slice Af ((r.take m).foldl andN (compactN f)).length cf, rfl, ?_⟩
          have := HREL.out
          rw [HE.out] at this ⊢
          exact this.before H2.out.ext
set_option maxRecDepth 100000 in
set_option maxHeartbeats 2000000 in
theorem all_any (v : Value) (l : List (List Nd)) (w : World) (h : Fmls w v l) :
    Calls Tryz.prog 118 #[v] w fun e w' => ∃ u, e = .returned u ∧ Made w w' u (allN l) := by
  have H := Lib.hid h
  obtain ⟨A, c, rfl, hcap, hmax, hr⟩ := h
  clear hcap hmax hr
  go_enter Tryz.func118, Tryz.ntmps118
  go_wp2_with fail
  refine (true_any _).mono ?_
  rintro e w1 ⟨u, rfl, hm⟩
  have HM := Lib.hid hm
  clear hm
  go_wp2_with fail
  refine (joinA_any _ _ l _ _ _ (H.out.ext HM.out.ext) HM.out).mono ?_
  rintro e w2 ⟨u2, rfl, hm2⟩
  have HM2 := Lib.hid hm2
  clear hm2
  go_wp2_with fail
  go_ret
  exact ⟨_, rfl, HM2.out⟩
/-- A store of what is there. -/
theorem setCell_id {w : World} {b j : Nat} {cs : Array Value} {t : TypeId} {fr : Nat × Nat} {v : Value} (h : w.heap[b]? = some (.cells cs t fr)) (hv : cs[j]? = some v) : w.setCell ⟨b, j, none⟩ v = w := by
  have e : (w.setCell ⟨b, j, none⟩ v).heap = w.heap := by
    refine Array.ext_getElem? fun i => ?_
    simp only [World.setCell, Array.getElem?_modify]
    by_cases hb : b = i
    · subst hb
      rw [h]
      simp only [if_true, Option.map_some, Option.some.injEq, Obj.cells.injEq, and_true, Option.isSome_none]
      show cs.setIfInBounds j v = cs
      refine Array.ext_getElem? fun k => ?_
      rw [Array.getElem?_setIfInBounds]
      by_cases hk : j = k
      · subst hk
        rw [if_pos rfl]
        split
        · exact hv.symm
        · rename_i hn
          rw [Array.getElem?_eq_none (by omega)]
      · rw [if_neg hk]
    · rw [if_neg hb]
  unfold World.setCell at e ⊢
  simp only at e ⊢
  rw [e]
theorem results_ctt {P : Program} {fn : Func} {t u v : Tmp} {ty : TypeId} (h : fn.results = #[.cell t ty, .tmp u, .tmp v]) (tmps : Array Value) (w : World) {b o : Nat} (ht : tmps.getD t undef = .pointer (some ⟨b, o, none⟩)) {cs : List Value} {d : TypeDesc} (hc : w.rangeAt b o cs)
    (hu : P.underlying ty = some d) (hd : d.isRow = true) (hi : (P.info? ty).map (·.size) = some cs.length) : (results fn tmps).run P w = .ok (.tuple #[.agg cs.toArray, tmps.getD u undef, tmps.getD v undef]) w := by
  have ht' : tmps[t]?.getD undef = .pointer (some ⟨b, o, none⟩) := by rw [← Array.getD_eq_getD_getElem?]; exact ht
  simp [results, h, ht', asAddr, run_loadVar_mid w b o ty cs d hc hu hd hi]
theorem range_of {w : World} {b : Nat} {cs : Array Value} {t : TypeId} (h : w.heap[b]? = some (.cells cs t (0, 0))) : w.rangeAt b 0 cs.toList := fun j v hj => by
  have : cs[j]? = some v := by simpa using hj
  simp [World.cell?, h, this]
/-- The first part and the second part of the last node, as types' top gives them. -/
def topA (f : List Nd) : List Nd := bif decide (4 ≤ (lastN f).op) then subN f (lastN f).x else []
def topB (f : List Nd) : List Nd := bif (lastN f).op == 13 then subN f (lastN f).y else []
theorem fml_none (w : World) : Fml w (.slice none 0 0) [] := ⟨⟨none, 0, rfl, Nat.le_refl _, by unfold maxLen; omega, fun h => absurd rfl h⟩, by simp⟩
set_option maxRecDepth 100000 in
set_option maxHeartbeats 4000000 in
theorem top_any (v : Value) (f : List Nd) (w : World) (h : Fml w v f) (h0 : 0 < f.length) :
    Calls Tryz.prog 49 #[v] w fun e w' => ∃ u1 u2, e = .returned (.tuple #[(lastN f).val, u1, u2]) ∧ Ext w w' ∧ Fml w' u1 (topA f) ∧ Fml w' u2 (topB f) := by
  have H := Lib.hid h
  obtain ⟨⟨A, c, rfl, hcap, hmax, hread⟩, hok⟩ := h
  unfold maxLen at hmax
  obtain ⟨ad, rfl, hlt, hcells⟩ := hread (by intro e; rw [e] at h0; simp at h0)
  have hlast := lastN_get h0
  obtain ⟨c0, c1, c2, c3, c4, c5⟩ := hcells _ _ hlast
  have hi1 : ((f.length : Int) - 1) < (f.length : Int) := by omega
  have hi0 : (0 : Int) ≤ (f.length : Int) - 1 := by omega
  have e1 : ((f.length : Int) - 1).toNat = f.length - 1 := by omega
  have hblk : (ad.add ((f.length - 1) * 6)).block < w.heap.size := by rw [block_of_add]; exact hlt
  clear hread hok hcells hlast
  obtain ⟨nn, hnn⟩ : ∃ nn, nn = lastN f := ⟨_, rfl⟩
  rw [← hnn] at c0 c1 c2 c3 c4 c5
  have HA := Lib.hid (show topA f = bif decide (4 ≤ nn.op) then subN f nn.x else [] by rw [hnn]; rfl)
  have HB := Lib.hid (show topB f = bif nn.op == 13 then subN f nn.y else [] by rw [hnn]; rfl)
  have HN := Lib.hid hnn
  clear hnn
  have HX0 := Lib.hid (show Ext w (w.alloc (.cells #[.int .i64 nn.op, .int .i64 nn.i, .int .i64 nn.e, .int .i64 nn.g, .int .i64 nn.x, .int .i64 nn.y] 93)) from (Ext.refl _).alloc _)
  have HW0 := Lib.hid (show (w.alloc (.cells #[.int .i64 nn.op, .int .i64 nn.i, .int .i64 nn.e, .int .i64 nn.g, .int .i64 nn.x, .int .i64 nn.y] 93)).heap[w.heap.size]? = some (.cells #[.int .i64 nn.op, .int .i64 nn.i, .int .i64 nn.e, .int .i64 nn.g, .int .i64 nn.x, .int .i64 nn.y] 93 (0, 0)) from heap_alloc_new _ _)
  have hval : nn.val = .agg [.int .i64 nn.op, .int .i64 nn.i, .int .i64 nn.e, .int .i64 nn.g, .int .i64 nn.x, .int .i64 nn.y].toArray := rfl
  have HV := Lib.hid hval
  clear hval
  by_cases h4 : 4 ≤ nn.op
  · by_cases h13 : nn.op = 13
    · have HR1 := Lib.hid (show topA f = subN f nn.x by rw [HA.out, decide_eq_true h4]; rfl)
      have HR2 := Lib.hid (show topB f = subN f nn.y by rw [HB.out, show (nn.op == 13) = true by rw [h13]; rfl]; rfl)
      have hd : (nn.op == 13) = true := by rw [h13]; rfl
      clear h13
      go_enter Tryz.func49, Tryz.ntmps49
      go_wp2_with fail
      refine (sub_any _ f nn.x _ (H.out.ext HX0.out)).mono ?_
      rintro e w1 ⟨u1, rfl, hm1⟩
      have HM1 := Lib.hid hm1
      obtain ⟨⟨k0, k1, k2, k3, k4, k5⟩, _, kb⟩ := cells6 ((hm1.ext.block (by simp)).trans HW0.out)
      clear hm1
      go_wp2_with fail
      refine (sub_any _ f nn.y _ (H.out.ext (HX0.out.trans HM1.out.ext))).mono ?_
      rintro e w2 ⟨u2, rfl, hm2⟩
      have HM2 := Lib.hid hm2
      have HZ := Lib.hid (show w2.heap[w.heap.size]? = some (.cells #[.int .i64 nn.op, .int .i64 nn.i, .int .i64 nn.e, .int .i64 nn.g, .int .i64 nn.x, .int .i64 nn.y] 93 (0, 0)) from (hm2.ext.block (by omega)).trans ((HM1.out.ext.block (by simp)).trans HW0.out))
      obtain ⟨⟨q0, q1, q2, q3, q4, q5⟩, qf, qb⟩ := cells6 HZ.out
      clear hm2
      go_wp2_with fail
      (try simp only [Exit.inBlock, Exit.then])
      rw [show (w2).setCell ⟨w.heap.size, 0, none⟩ (.int .i64 nn.op) = w2 from setCell_id HZ.out rfl, show (w2).setCell ⟨w.heap.size, 1, none⟩ (.int .i64 nn.i) = w2 from setCell_id HZ.out rfl, show (w2).setCell ⟨w.heap.size, 2, none⟩ (.int .i64 nn.e) = w2 from setCell_id HZ.out rfl, show (w2).setCell ⟨w.heap.size, 3, none⟩ (.int .i64 nn.g) = w2 from setCell_id HZ.out rfl, show (w2).setCell ⟨w.heap.size, 4, none⟩ (.int .i64 nn.x) = w2 from setCell_id HZ.out rfl, show (w2).setCell ⟨w.heap.size, 5, none⟩ (.int .i64 nn.y) = w2 from setCell_id HZ.out rfl]
      refine bodyPost_ret (results_ctt Tryz.results49 _ _ rfl (range_of HZ.out) Tryz.underlying93 rfl (by kernel_rfl)) rfl ?_
      exact ⟨u1, u2, by rw [← HN.out, HV.out] <;> rfl, HX0.out.trans (HM1.out.ext.trans HM2.out.ext), by rw [HR1.out]; exact HM1.out.fml.ext HM2.out.ext, by rw [HR2.out]; exact HM2.out.fml⟩
    · have hd : (nn.op == 13) = false := by simpa using h13
      have HR1 := Lib.hid (show topA f = subN f nn.x by rw [HA.out, decide_eq_true h4]; rfl)
      have HR2 := Lib.hid (show topB f = [] by rw [HB.out, hd]; rfl)
      clear h13
      go_enter Tryz.func49, Tryz.ntmps49
      go_wp2_with fail
      refine (sub_any _ f nn.x _ (H.out.ext HX0.out)).mono ?_
      rintro e w2 ⟨u1, rfl, hm1⟩
      have HM1 := Lib.hid hm1
      have HZ := Lib.hid (show w2.heap[w.heap.size]? = some (.cells #[.int .i64 nn.op, .int .i64 nn.i, .int .i64 nn.e, .int .i64 nn.g, .int .i64 nn.x, .int .i64 nn.y] 93 (0, 0)) from (hm1.ext.block (by simp)).trans HW0.out)
      obtain ⟨⟨q0, q1, q2, q3, q4, q5⟩, qf, kb⟩ := cells6 HZ.out
      clear hm1
      go_wp2_with fail
      (try simp only [Exit.inBlock, Exit.then])
      rw [show (w2).setCell ⟨w.heap.size, 0, none⟩ (.int .i64 nn.op) = w2 from setCell_id HZ.out rfl, show (w2).setCell ⟨w.heap.size, 1, none⟩ (.int .i64 nn.i) = w2 from setCell_id HZ.out rfl, show (w2).setCell ⟨w.heap.size, 2, none⟩ (.int .i64 nn.e) = w2 from setCell_id HZ.out rfl, show (w2).setCell ⟨w.heap.size, 3, none⟩ (.int .i64 nn.g) = w2 from setCell_id HZ.out rfl, show (w2).setCell ⟨w.heap.size, 4, none⟩ (.int .i64 nn.x) = w2 from setCell_id HZ.out rfl, show (w2).setCell ⟨w.heap.size, 5, none⟩ (.int .i64 nn.y) = w2 from setCell_id HZ.out rfl]
      refine bodyPost_ret (results_ctt Tryz.results49 _ _ rfl (range_of HZ.out) Tryz.underlying93 rfl (by kernel_rfl)) rfl ?_
      exact ⟨u1, _, by rw [← HN.out, HV.out] <;> rfl, HX0.out.trans HM1.out.ext, by rw [HR1.out]; exact HM1.out.fml, by rw [HR2.out]; exact fml_none _⟩
  · have hd : (nn.op == 13) = false := by rw [beq_eq_false_iff_ne]; omega
    have HR1 := Lib.hid (show topA f = [] by rw [HA.out, decide_eq_false h4]; rfl)
    have HR2 := Lib.hid (show topB f = [] by rw [HB.out, hd]; rfl)
    go_enter Tryz.func49, Tryz.ntmps49
    go_wp2_with fail
    (try simp only [Exit.inBlock, Exit.then])
    refine bodyPost_ret (results_ctt Tryz.results49 _ _ rfl (range_of HW0.out) Tryz.underlying93 rfl (by kernel_rfl)) rfl ?_
    exact ⟨_, _, by rw [← HN.out, HV.out] <;> rfl, HX0.out, by rw [HR1.out]; exact fml_none _, by rw [HR2.out]; exact fml_none _⟩
end Go.Proofs.YtbfeodammikajaaGreat

/- types' unfolded, index: the walks. -/

namespace Go.Proofs.YtbfeodammikajaaGreat
open Go.RowKit

/-- What is unfolded, as types' unfolded makes it. -/
def unfS (a : Int) (f : List Nd) : List Nd := knowN a (impN (topA f) (andN (topB f) f))
set_option maxRecDepth 100000 in
set_option maxHeartbeats 4000000 in
theorem unfolded_any (a : Int) (ha : i64ok a) (v : Value) (f : List Nd) (w : World) (h : Fml w v f) (h0 : 0 < f.length) :
    Calls Tryz.prog 73 #[.int .i64 a, v] w fun e w' => ∃ u, e = .returned u ∧ Made w w' u (unfS a f) := by
  have H := Lib.hid h
  obtain ⟨A, c, rfl, _⟩ := fml_slice h
  obtain ⟨nn, hnn⟩ : ∃ nn, nn = lastN f := ⟨_, rfl⟩
  have HN := Lib.hid hnn
  clear h hnn
  go_enter Tryz.func73, Tryz.ntmps73
  go_wp2_with fail
  refine (top_any _ f _ H.out h0).mono ?_
  rintro e w1 ⟨u1, u2, rfl, hx1, hf1, hf2⟩
  have HX1 := Lib.hid hx1
  have HF1 := Lib.hid hf1
  have HF2 := Lib.hid hf2
  rw [← HN.out]
  unfold Nd.val
  obtain ⟨A1, c1, rfl, _⟩ := fml_slice hf1
  obtain ⟨A2, c2, rfl, _⟩ := fml_slice hf2
  clear hx1 hf1 hf2
  go_wp2_with fail
  refine (and_any _ _ _ _ _ (HF2.out.ext ((Ext.refl _).alloc _)) (H.out.ext (HX1.out.alloc _))).mono ?_
  rintro e w2 ⟨u3, rfl, hm3⟩
  have HM3 := Lib.hid hm3
  clear hm3
  go_wp2_with fail
  refine (imp_any _ _ _ _ _ (HF1.out.ext (((Ext.refl _).alloc _).trans HM3.out.ext)) HM3.out.fml).mono ?_
  rintro e w3 ⟨u4, rfl, hm4⟩
  have HM4 := Lib.hid hm4
  clear hm4
  go_wp2_with fail
  refine (know_any a ha _ _ _ HM4.out.fml).mono ?_
  rintro e w4 ⟨u5, rfl, hm5⟩
  have HM5 := Lib.hid hm5
  clear hm5
  go_wp2_with fail
  go_ret
  exact ⟨_, rfl, HM5.out.before ((HX1.out.alloc _).trans (HM3.out.ext.trans HM4.out.ext))⟩
set_option maxRecDepth 100000 in
set_option maxHeartbeats 2000000 in
theorem index1_any (B : Nat) (u gv : Value) (s g : List Nd) (w : World) (hs : Nds w u s) (hB : w.cell? ⟨B, 0, none⟩ = some gv) (hg : Nds w gv g) :
    Calls Tryz.prog 130 (#[u] ++ #[.pointer (some ⟨B, 0, none⟩)]) w fun e w' => e = .returned (.bool (decide (s = g))) ∧ Ext w w' := by
  have HS := Lib.hid hs
  have HG := Lib.hid hg
  obtain ⟨A, c, rfl, _⟩ := hs
  obtain ⟨A2, c2, rfl, _⟩ := hg
  have HE := Lib.hid (show decide (s = g) = decide (g = s) by rw [decide_eq_decide]; exact eq_comm)
  show Calls Tryz.prog 130 #[.slice A s.length c, .pointer (some ⟨B, 0, none⟩)] w _
  go_enter Tryz.func130, Tryz.ntmps130
  go_wp2_with (go_at_call 131; refine (equalN_any _ _ g s _ (by exact HG.out.ext (by repeat (first | exact Ext.refl _ | assumption | apply Ext.alloc | apply Ext.drew))) (by exact HS.out.ext (by repeat (first | exact Ext.refl _ | assumption | apply Ext.alloc | apply Ext.drew)))).mono ?_; rintro e w1 ⟨rfl, hx⟩)
  go_ret
  exact ⟨by rw [HE.out] <;> rfl, by first | exact hx | exact Ext.trans (by repeat (first | exact Ext.refl _ | assumption | apply Ext.alloc | apply Ext.drew)) hx⟩
set_option maxRecDepth 100000 in
set_option maxHeartbeats 2000000 in
theorem index_any (v gv : Value) (l : List (List Nd)) (g : List Nd) (w : World) (hl : Fmls w v l) (hg : Fml w gv g) :
    Calls Tryz.prog 72 #[v, gv] w fun e w' => e = .returned (.int .i64 (placeN l g)) ∧ Ext w w' := by
  have HL := Lib.hid hl
  have HG := Lib.hid hg
  obtain ⟨A, c, rfl, _⟩ := hl
  obtain ⟨A2, c2, rfl, _⟩ := fml_slice hg
  clear hg
  go_enter Tryz.func72, Tryz.ntmps72
  go_wp2_with fail
  refine (indexF_any 130 _ (fun _ _ => rfl) (fun s => decide (s = g)) _ l _ (HL.out.ext (by repeat (first | exact Ext.refl _ | assumption | apply Ext.alloc | apply Ext.drew))) (fun W u s hx hs => index1_any w.heap.size u _ s g W hs.1 ((hx.cell (p := ⟨w.heap.size, 0, none⟩) (by simp)).trans (by simp)) (HG.out.1.ext (((Ext.refl _).alloc _).trans hx)))).mono ?_
  rintro e w1 ⟨rfl, hx⟩
  have HX := Lib.hid hx
  clear hx
  go_wp2_with fail
  go_ret
  exact ⟨rfl, ((Ext.refl _).alloc _).trans HX.out⟩
end Go.Proofs.YtbfeodammikajaaGreat

/- formula.Subs: the walk. -/

namespace Go.Proofs.YtbfeodammikajaaGreat
open Go.RowKit

theorem FRow.before {w0 w w' : World} {vo : Value} {out : List (List Nd)} (h : FRow w w' vo out) (he : Ext w0 w) : FRow w0 w' vo out := by
  obtain ⟨us, hr, hu⟩ := h.row
  refine ⟨he.trans h.ext, us, row_base hr he.size, fun k s hk => ?_⟩
  obtain ⟨u, a, b, c⟩ := hu k s hk
  exact ⟨u, a, b, fun g hg => ⟨(c g hg).1, (c g hg).2.1, Nat.le_trans he.size (c g hg).2.2⟩⟩
/-- A formula of a row, at its cell. -/
theorem FRow.get {w0 w : World} {g cap : Nat} {out : List (List Nd)} (h : FRow w0 w (.slice (some ⟨g, 0, none⟩) out.length cap) out) {k : Nat} {s : List Nd} (hk : out[k]? = some s) : ∃ u, w.cell? ⟨g, k, none⟩ = some u ∧ Fml w u s ∧ g < w.heap.size := by
  obtain ⟨us, hr, hu⟩ := h.row
  have h0 : 0 < out.length := Nat.lt_of_le_of_lt (Nat.zero_le k) (List.getElem?_eq_some_iff.1 hk).1
  obtain ⟨g', cap', e, hg, _, _, hc⟩ := row1_cellsF hr h0
  injection e with e1 _ _
  injection e1 with e1
  injection e1 with e1
  subst e1
  obtain ⟨u, a, b, _⟩ := hu k s hk
  exact ⟨u, hc k u a, b, hg⟩
theorem FRow.slice {w0 w : World} {v : Value} {out : List (List Nd)} (h : FRow w0 w v out) (h0 : 0 < out.length) : ∃ g cap, v = .slice (some ⟨g, 0, none⟩) out.length cap ∧ out.length ≤ cap ∧ cap ≤ maxLen := by
  obtain ⟨us, hr, hu⟩ := h.row
  obtain ⟨g', cap', e, hg, h1, h2, hc⟩ := row1_cellsF hr h0
  exact ⟨g', cap', e, h1, h2⟩
theorem group_of {n : Nd} (h : headOk n) (hk : n.op = 11 ∨ n.op = 13) : 0 ≤ n.g ∧ n.g < 16 := by
  obtain ⟨_, _, h3, _, _⟩ := h
  unfold rangeBad at h3
  rcases hk with ho | ho <;> (rw [ho] at h3; simp [outsideB, hasFact, hasAgent, hasEvent, hasGroup] at h3; omega)
theorem range_step' (base : List Nd) (k : Nat) : (List.range (k + 1)).map (fun (i : Nat) => subN base i) = (List.range k).map (fun (i : Nat) => subN base i) ++ [subN base k] := by
  rw [List.range_succ, List.map_append]
  rfl
set_option maxRecDepth 100000 in
set_option maxHeartbeats 8000000 in
theorem subs_any (v : Value) (f : List Nd) (w : World) (h : Fml w v f) (hc : check f = 0) :
    Calls Tryz.prog 124 #[v] w fun e w' => ∃ u, e = .returned u ∧ FRow w w' u (subsN f) := by
  have H := Lib.hid h
  obtain ⟨iI, hiI, hzI0, hzI1, hzI2⟩ := info_parts tInfoF2
  obtain ⟨A, c, rfl, _⟩ := fml_slice h
  have hp := compactN_props hc
  obtain ⟨base, hbase⟩ : ∃ b, b = compactN f := ⟨_, rfl⟩
  have hcb : check base = 0 := hbase ▸ compactN_check hc
  have hlen : base.length ≤ 200 := hbase ▸ Nat.le_trans hp.2.1 (check_parts hc).2.1
  have HB := Lib.hid (show subsN f = formulasN base by rw [hbase]; rfl)
  have HBB := Lib.hid hbase
  have HCB := Lib.hid hcb
  clear h hp hbase hcb hc
  go_enter Tryz.func124, Tryz.ntmps124
  go_wp2_with fail
  refine (compactF_any _ f _ H.out).mono ?_
  rintro e w0 ⟨uc, rfl, hm0⟩
  rw [← HBB.out] at hm0
  have HM0 := Lib.hid hm0
  obtain ⟨Ac, cc, rfl, hat⟩ := fml_slice hm0.fml
  have HAT := Lib.hid hat
  clear hm0 hat
  go_wp2_with fail
  go_loopw [3, 10] (fun vo vi wr => ∃ k : Nat, vi = .int .i64 (k : Int) ∧ k ≤ base.length ∧ Hid (∃ out, out = (List.range k).map (fun (i : Nat) => subN base i) ∧ FRow w0 wr vo out)) (fun _ v _ => base.length - (intOf v).toNat)
  case atStart => exact ⟨0, rfl, Nat.zero_le _, Lib.hid ⟨[], rfl, FRow.nil _⟩⟩
  case round =>
    obtain ⟨k, rfl, hk, HREL⟩ := hrel
    obtain ⟨out, ho, hfr⟩ := HREL.out
    obtain ⟨us, hrow, hus⟩ := hfr.row
    obtain ⟨Ao, co, rfl⟩ := slice_of_row hrow
    have HO := Lib.hid ho
    have HFR := Lib.hid hfr
    have HROW := Lib.hid hrow
    have HUS := Lib.hid hus
    have hol : out.length ≤ 1000 := by rw [ho]; simp; omega
    clear HREL ho hfr hrow hus
    by_cases hlt2 : k < base.length
    · have hk1 : (k : Int) < (base.length : Int) := by omega
      have hc3 : out.length + 1 ≤ maxLen := by unfold maxLen; omega
      have hc4 : (out.length + 1) * 24 ≤ 140737488355328 := by omega
      have HSB := Lib.hid (show subN base (k : Int) = (finN base k []).1 by
        unfold subN
        rw [HCB.out, show (decide ((k : Int) < 0) || decide ((base.length : Int) ≤ (k : Int))) = false by simp; omega]
        rfl)
      go_wp2_with fail
      refine (compact_any base _ _ k _ (check_wf HCB.out) HM0.out.2.1 (by omega) hlt2 (HAT.out.ext HFR.out.ext)).mono ?_
      rintro e w1 ⟨u, rfl, hrowc, hoks, hext⟩
      have hm : Made wr w1 u (subN base (k : Int)) := by rw [HSB.out]; exact ⟨hrowc, hoks, hext⟩
      have X1 := Lib.hid (HFR.out.ext.trans hm.2.2)
      have Y1 := Lib.hid hm.2.2
      have HM := Lib.hid hm
      obtain ⟨Au, cu, rfl, _⟩ := fml_slice hm.fml
      clear hm hrowc hoks hext
      go_wp2_with (at_builtin; refine wpList_append_own_at _ rfl _ _ 49 rfl w0.heap.size 22 iI (.slice none 0 0) 1 24 Tryz.underlying49 hiI hzI0 hzI1 hzI2 rfl (by decide) _ out.length us rfl (row_ext HROW.out (Y1.out.alloc _)) ⟨_, 0, none⟩ 1 1 [.slice Au (subN base (k : Int)).length cu] rfl rfl (row_new_at _ _ _ (by simp)) (fun u hu => by rw [List.mem_singleton.1 hu]; rfl) hc3 hc4 (Nat.le_trans HFR.out.ext.size (Y1.out.alloc _).size) ?_)
      intro v7 w7 hown7 hgrow7 _ hat7
      have HPS := Lib.hid (FRow.push (s := subN base (k : Int)) (X1.out.alloc _) (row_ext HROW.out (Y1.out.alloc _)) (fun k s hk => by
        obtain ⟨u, a, b, c⟩ := HUS.out k s hk
        exact ⟨u, a, b.ext (Y1.out.alloc _), c.ext (Y1.out.alloc _)⟩) hown7 hgrow7 (hat7.imp id (fun e => e.trans (by simp))) (HM.out.fml.ext ((Ext.refl _).alloc _)) (made_away (Nat.le_refl _) (row_ext HM.out.1 ((Ext.refl _).alloc _)) HROW.out HFR.out.ext.size))
      obtain ⟨A7, c7, rfl⟩ := slice_of_row hown7
      clear hown7 hgrow7 hat7
      go_wp2_with fail
      go_roundw
      case rel => exact ⟨k + 1, by go_num, by omega, Lib.hid ⟨_, by rw [range_step', ← HO.out], HPS.out⟩⟩
      case measure => simp [intOf]; omega
    · obtain rfl : base.length = k := by omega
      go_wp2_with fail
      go_ret
      exact ⟨_, rfl, by rw [HB.out, show formulasN base = out from HO.out.symm]; exact HFR.out.before HM0.out.ext⟩
end Go.Proofs.YtbfeodammikajaaGreat

/- A result that is a variable of the call's own. -/

namespace Go.Proofs.YtbfeodammikajaaGreat
open Go.RowKit

theorem results_cell {P : Program} {fn : Func} {t : Tmp} {ty : TypeId} (h : fn.results = #[.cell t ty]) (tmps : Array Value) (w : World) {b o : Nat} (ht : tmps.getD t undef = .pointer (some ⟨b, o, none⟩)) {cs : List Value} {d : TypeDesc} (hc : w.rangeAt b o cs)
    (hu : P.underlying ty = some d) (hd : d.isRow = true) (hi : (P.info? ty).map (·.size) = some cs.length) : (results fn tmps).run P w = .ok (.agg cs.toArray) w := by
  have ht' : tmps[t]?.getD undef = .pointer (some ⟨b, o, none⟩) := by rw [← Array.getD_eq_getD_getElem?]; exact ht
  simp [results, h, ht', asAddr, run_loadVar_mid w b o ty cs d hc hu hd hi]
end Go.Proofs.YtbfeodammikajaaGreat
