/- models of Kripke: the plain part of the walks of checkers (split off by splitpl.py): masks, relations, groups, what is checked, what fits, what holds. -/
import Derived.Test.YtdpblciohodgcaaDoorS30
import Derived.Test.YtdpblciohodgcaaDoorS32
import Derived.Test.YtdpblciohodgcaaDoorS10

namespace Go.Proofs.YtdpblciohodgcaaDoor
open Go.RowKit
def reflK (l : List Nat) (k : Nat) : List Nat := (List.range l.length).map fun i => if i < k then l.getD i 0 ||| 2 ^ i else l.getD i 0
/-- Every world sees itself. -/
def reflP (l : List Nat) : Prop := ∀ i, i < l.length → (l.getD i 0).testBit i = true
def checkM (md : Md) : Int :=
  if md.n < 1 ∨ 64 < md.n then 2 else if 4 < md.rel.length ∨ 8 < md.val.length then 8
  else if md.rel.any (fun r => !decide ((r.length : Int) = md.n)) then 3
  else if beyondN md.val md.n.toNat then 2 else if md.rel.any (fun r => beyondN r md.n.toNat) then 2 else 0
theorem any_hitR {P : List Nat → Bool} {l : List (List Nat)} {k : Nat} (hk : k < l.length) (h : P (l.getD k []) = true) : l.any P = true := by
  rw [List.any_eq_true]
  exact ⟨l[k], List.getElem_mem hk, by rw [List.getD_eq_getElem?_getD, List.getElem?_eq_getElem hk] at h; exact h⟩
theorem any_missR {P : List Nat → Bool} {l : List (List Nat)} (h : ∀ k, k < l.length → P (l.getD k []) = false) : l.any P = false := by
  rw [List.any_eq_false]
  intro s hs
  obtain ⟨k, hk, e⟩ := List.getElem_of_mem hs
  have := h k hk
  rw [List.getD_eq_getElem?_getD, List.getElem?_eq_getElem hk] at this
  have h2 : P l[k] = false := this
  rw [e] at h2
  rw [h2]
  simp
def propP (q : Int) (l : List Nat) : Prop :=
  if q = 1 then ∀ i, i < l.length → l.getD i 0 ≠ 0 else if q = 2 then reflP l else if q = 4 then closedG false l else closedG true l
def propsL (lg : Int) : List Int := if lg = 0 then [] else if lg = 1 then [1] else if lg = 2 then [2] else if lg = 3 then [4] else if lg = 4 then [2, 4] else if lg = 5 then [1, 4, 5] else [2, 4, 5]
/-- The error of a logic. -/
def p15 (lg : Int) : Int := if 0 ≤ lg ∧ lg ≤ 6 then 0 else 1
theorem props_mem {lg q : Int} (h : q ∈ propsL lg) : q = 1 ∨ q = 2 ∨ q = 4 ∨ q = 5 := by
  unfold propsL at h
  repeat' split at h
  all_goals (simp at h; try omega)
def goodR (lg : Int) (l : List Nat) : Prop := ∀ q ∈ propsL lg, propP q l
/-- A model of a logic. -/
structure GoodM (md : Md) (lg : Int) : Prop where
  lgr : 0 ≤ lg ∧ lg ≤ 6
  ck : checkM md = 0
  rel : ∀ r ∈ md.rel, goodR lg r
theorem checkM_zero {md : Md} (h : checkM md = 0) : 1 ≤ md.n ∧ md.n ≤ 64 ∧ md.rel.length ≤ 4 ∧ md.val.length ≤ 8 ∧ (∀ r ∈ md.rel, (r.length : Int) = md.n) ∧ beyondN md.val md.n.toNat = false ∧ ∀ r ∈ md.rel, beyondN r md.n.toNat = false := by
  unfold checkM at h
  by_cases h1 : md.n < 1 ∨ 64 < md.n
  · rw [if_pos h1] at h; cases h
  rw [if_neg h1] at h
  by_cases h2 : 4 < md.rel.length ∨ 8 < md.val.length
  · rw [if_pos h2] at h; cases h
  rw [if_neg h2] at h
  cases h3 : md.rel.any (fun r => !decide ((r.length : Int) = md.n))
  · rw [h3] at h
    cases h4 : beyondN md.val md.n.toNat
    · rw [h4] at h
      cases h5 : md.rel.any (fun r => beyondN r md.n.toNat)
      · rw [List.any_eq_false] at h3 h5
        exact ⟨by omega, by omega, by omega, by omega, fun r hr => by simpa using h3 r hr, rfl, fun r hr => by simpa using h5 r hr⟩
      · rw [h5] at h; cases h
    · rw [h4] at h; cases h
  · rw [h3] at h; cases h
theorem rel_valid {md : Md} (h : checkM md = 0) {r : List Nat} (hr : r ∈ md.rel) : valid02 r = true ∧ 0 < r.length := by
  obtain ⟨h1, h2, _, _, h3, _, h4⟩ := checkM_zero h
  have h5 := h3 r hr
  have h6 := h4 r hr
  have e : md.n.toNat = r.length := by omega
  rw [e] at h6
  exact ⟨valid_iff.2 ⟨by omega, h6⟩, by omega⟩
theorem two_word {k : Nat} (h : k < 64) : word (2 ^ k) := by
  show 2 ^ k < 18446744073709551616
  rw [show (18446744073709551616 : Nat) = 2 ^ 64 from rfl]
  exact Nat.pow_lt_pow_right (by decide) h
theorem or_two {s k : Nat} (hs : word s) (hk : k < 64) : bits .or .u64 (s : Int) (IntKind.u64.wrap ((2 : Int) ^ k)) = ((s ||| 2 ^ k : Nat) : Int) := by
  rw [wrap_two hk]
  exact bits_or hs (two_word hk)
theorem dif_eq_zero {a b : Nat} (ha : word a) (hb : word b) : (bits .andNot .u64 (a : Int) (b : Int) == 0) = subS a b := by
  rw [bits_andNot ha hb, ← dif_zero, Bool.eq_iff_iff, beq_iff_eq, beq_iff_eq]
  omega
def boolN (op : Int) (x y al : Nat) : Nat :=
  if op = 1 then al else if op = 4 then difN al x else if op = 5 then x &&& y else if op = 6 then x ||| y else if op = 7 then difN al x ||| y else if op = 8 then difN al (x ^^^ y) else 0
theorem and_word {a b : Nat} (ha : word a) : word (a &&& b) := Nat.lt_of_le_of_lt Nat.and_le_left ha
theorem or_word {a b : Nat} (ha : word a) (hb : word b) : word (a ||| b) := Nat.or_lt_two_pow (n := 64) ha hb
theorem xor_word {a b : Nat} (ha : word a) (hb : word b) : word (a ^^^ b) := Nat.xor_lt_two_pow (n := 64) ha hb
/-- The worlds all of whose successors are in a set. -/
def boxN (r : List Nat) (n s : Nat) : Nat := maskN n fun i => subS (r.getD i 0) s
/-- The worlds that can be reached through a condition, as the reference computes them. -/
def stepP (r : List Nat) (c s v : Nat) : Nat := if s.testBit v then s ||| (r.getD v 0 &&& c) else s
def passP (r : List Nat) (c n s : Nat) : Nat := (List.range n).foldl (stepP r c) s
def pathsN (r : List Nat) (c n a : Nat) : Nat := (List.range n).foldl (fun s _ => passP r c n s) (r.getD a 0 &&& c)
theorem fold_snoc {f : Nat → Nat → Nat} (k s : Nat) : (List.range (k + 1)).foldl f s = f ((List.range k).foldl f s) k := by
  rw [List.range_succ, List.foldl_append]
  rfl
theorem fold_word {f : Nat → Nat → Nat} (hf : ∀ s v, word s → word (f s v)) (k s : Nat) (hs : word s) : word ((List.range k).foldl f s) := by
  induction k with
  | zero => exact hs
  | succ k ih => rw [fold_snoc]; exact hf _ _ ih
/-- The worlds from which all paths through a condition lead to a set. -/
def commonM (r : List Nat) (n c s : Nat) : Nat := maskN n fun i => subS (pathsN r c n i) s
def grpS (rl : List (List Nat)) (gn : Nat) (meet : Bool) (i s a : Nat) : Nat := if gn.testBit a then (if meet then s &&& (rl.getD a []).getD i 0 else s ||| (rl.getD a []).getD i 0) else s
def grpN (rl : List (List Nat)) (gn : Nat) (meet : Bool) (n i : Nat) : Nat := (List.range rl.length).foldl (grpS rl gn meet i) (if meet then allW n else 0)
theorem grpS_word {rl : List (List Nat)} (hw : ∀ r ∈ rl, ∀ s ∈ r, word s) {gn i s a : Nat} {meet : Bool} (hs : word s) : word (grpS rl gn meet i s a) := by
  unfold grpS
  have h1 : word ((rl.getD a []).getD i 0) := getD_word (getD_words hw a) i
  split
  · split
    · exact and_word hs
    · exact or_word hs h1
  · exact hs
theorem shl_le {k gn : Nat} (hk : k ≤ 4) (hg : gn < 2 ^ k) : ¬ wrap64 ((2 : Int) ^ k) ≤ (gn : Int) := by
  have hc : k = 0 ∨ k = 1 ∨ k = 2 ∨ k = 3 ∨ k = 4 := by omega
  rcases hc with rfl | rfl | rfl | rfl | rfl <;> (unfold wrap64; simp at hg ⊢; omega)
theorem head_agent {n : Nd} (h : headOk n) (ho : hasAgent n.op = true) : 0 ≤ n.i ∧ n.i < 4 := by
  obtain ⟨_, _, h3, _, _⟩ := h
  unfold rangeBad at h3
  simp only [outsideB, ho, Bool.or_eq_false_iff] at h3
  simp at h3
  omega
theorem head_fact {n : Nd} (h : headOk n) (ho : n.op = 3) : 0 ≤ n.i ∧ n.i < 8 := by
  obtain ⟨_, _, h3, _, _⟩ := h
  unfold rangeBad at h3
  rw [ho] at h3
  simp [outsideB, hasFact, hasAgent, hasEvent, hasGroup] at h3
  omega
theorem head_group {n : Nd} (h : headOk n) : 0 ≤ n.g ∧ n.g < 16 := by
  obtain ⟨_, h2, h3, _, _⟩ := h
  cases hg : hasGroup n.op
  · unfold formBad at h2
    simp only [hg, Bool.or_eq_false_iff] at h2
    simp at h2
    omega
  · unfold rangeBad at h3
    simp only [outsideB, hg, Bool.or_eq_false_iff] at h3
    simp at h3
    omega
def agS (s : Nat) (n : Nd) : Nat := (s ||| (if hasAgent n.op then 2 ^ n.i.toNat else 0)) ||| n.g.toNat
def faS (s : Nat) (n : Nd) : Nat := if n.op = 3 then s ||| 2 ^ n.i.toNat else s
def agentsM (l : List Nd) : Nat := l.foldl agS 0
def factsM (l : List Nd) : Nat := l.foldl faS 0
theorem agS_lt {s : Nat} {n : Nd} (h : headOk n) (hs : s < 2 ^ 4) : agS s n < 2 ^ 4 := by
  unfold agS
  have h1 := head_group h
  refine Nat.or_lt_two_pow (Nat.or_lt_two_pow hs ?_) (by omega)
  split
  · rename_i ho
    have := head_agent h ho
    exact Nat.pow_lt_pow_right (by decide) (by omega)
  · decide
theorem faS_lt {s : Nat} {n : Nd} (h : headOk n) (hs : s < 2 ^ 8) : faS s n < 2 ^ 8 := by
  unfold faS
  split
  · rename_i ho
    have := head_fact h ho
    exact Nat.or_lt_two_pow hs (Nat.pow_lt_pow_right (by decide) (by omega))
  · exact hs
theorem agents_lt : ∀ (l : List Nd) (s : Nat), (∀ n ∈ l, headOk n) → s < 2 ^ 4 → l.foldl agS s < 2 ^ 4
  | [], _, _, hs => hs
  | n :: l, _, h, hs => agents_lt l _ (fun n hn => h n (List.mem_cons_of_mem _ hn)) (agS_lt (h n (List.mem_cons_self ..)) hs)
theorem facts_lt : ∀ (l : List Nd) (s : Nat), (∀ n ∈ l, headOk n) → s < 2 ^ 8 → l.foldl faS s < 2 ^ 8
  | [], _, _, hs => hs
  | n :: l, _, h, hs => facts_lt l _ (fun n hn => h n (List.mem_cons_of_mem _ hn)) (faS_lt (h n (List.mem_cons_self ..)) hs)
theorem wrap_small {k : Nat} (hk : k < 8) : wrap64 ((2 : Int) ^ k) = ((2 ^ k : Nat) : Int) := by
  have hc : k = 0 ∨ k = 1 ∨ k = 2 ∨ k = 3 ∨ k = 4 ∨ k = 5 ∨ k = 6 ∨ k = 7 := by omega
  rcases hc with rfl | rfl | rfl | rfl | rfl | rfl | rfl | rfl <;> decide +kernel
def fitA (a : Nat) (m i : Nat) : Bool := !m.testBit i || decide (i < a)
/-- A formula's agents and facts are below two numbers. -/
def fitsN (f : List Nd) (a b : Nat) : Bool := check f == 0 && ((List.range 4).all (fitA a (agentsM (compactN f))) && (List.range 8).all (fitA b (factsM (compactN f))))
theorem static_all : (List.range 512).all (fun m => ((bits .andNot .i64 (m : Int) 15 == 0) == subS m 15) && ((bits .andNot .i64 (m : Int) 15 != 0) == !subS m 15)) = true := by kernel_rfl
theorem static_test (f : List Nd) : (bits .andNot .i64 ((fragsN f : Nat) : Int) 15 == 0) = subS (fragsN f) 15 ∧ (bits .andNot .i64 ((fragsN f : Nat) : Int) 15 != 0) = !subS (fragsN f) 15 := by
  have h := List.all_eq_true.1 static_all (fragsN f) (List.mem_range.2 (fragMask_lt (compactN f)))
  rw [Bool.and_eq_true, beq_iff_eq, beq_iff_eq] at h
  exact h
def fit17 (md : Md) (f : List Nd) (i : Int) : Bool := subS (fragsN (subN f i)) 15 && fitsN (subN f i) md.rel.length md.val.length
def chk17 (md : Md) (f : List Nd) : Int :=
  if checkM md ≠ 0 then checkM md else if check f ≠ 0 then check f else if subS (fragsN f) 15 = false then 10 else if fitsN f md.rel.length md.val.length = false then 2 else 0
/-- A node of the static language that fits a model. -/
structure FitNd (md : Md) (n : Nd) : Prop where
  head : headOk n
  op : n.op ≤ 13
  fact : n.op = 3 → n.i < md.val.length
  agent : n.op = 9 ∨ n.op = 10 → n.i < md.rel.length
  group : 11 ≤ n.op → 1 ≤ n.g ∧ n.g.toNat < 2 ^ md.rel.length
def oneN (md : Md) (n : Nd) (x y : Nat) : Nat :=
  if n.op = 3 then md.val.getD n.i.toNat 0 else if n.op ≤ 8 then boolN n.op x y (allW md.n.toNat)
  else if n.op = 9 then boxN (md.rel.getD n.i.toNat []) md.n.toNat x
  else if n.op = 10 then difN (allW md.n.toNat) (boxN (md.rel.getD n.i.toNat []) md.n.toNat (difN (allW md.n.toNat) x))
  else if n.op = 11 then boxN ((List.range md.n.toNat).map (grpN md.rel n.g.toNat false md.n.toNat)) md.n.toNat x
  else if n.op = 12 then boxN ((List.range md.n.toNat).map (grpN md.rel n.g.toNat true md.n.toNat)) md.n.toNat x
  else commonM ((List.range md.n.toNat).map (grpN md.rel n.g.toNat false md.n.toNat)) md.n.toNat x y
def setS (md : Md) (f : List Nd) (out : List Nat) (k : Nat) : Nat :=
  if fit17 md f (k : Int) then oneN md (f.getD k Nd.zero) (if hasX (f.getD k Nd.zero).op then out.getD (f.getD k Nd.zero).x.toNat 0 else 0) (if hasY (f.getD k Nd.zero).op then out.getD (f.getD k Nd.zero).y.toNat 0 else 0) else 0
def setsK (md : Md) (f : List Nd) : Nat → List Nat
  | 0 => []
  | k + 1 => setsK md f k ++ [setS md f (setsK md f k) k]
theorem chk17_zero {md : Md} {f : List Nd} (h : chk17 md f = 0) : checkM md = 0 ∧ check f = 0 ∧ subS (fragsN f) 15 = true ∧ fitsN f md.rel.length md.val.length = true := by
  unfold chk17 at h
  by_cases h1 : checkM md ≠ 0
  · rw [if_pos h1] at h; exact absurd h h1
  rw [if_neg h1] at h
  by_cases h2 : check f ≠ 0
  · rw [if_pos h2] at h; exact absurd h h2
  rw [if_neg h2] at h
  cases h3 : subS (fragsN f) 15
  · rw [if_pos h3] at h; cases h
  rw [if_neg (by rw [h3]; simp)] at h
  cases h4 : fitsN f md.rel.length md.val.length
  · rw [if_pos h4] at h; cases h
  · exact ⟨Classical.not_not.1 h1, Classical.not_not.1 h2, rfl, rfl⟩
def holdE (md : Md) (f : List Nd) : Int := if chk17 md (compactN f) = 0 then 0 else chk17 md f
def hold17 (md : Md) (f : List Nd) : Nat := if chk17 md (compactN f) = 0 then (setsK md (compactN f) (compactN f).length).getD ((compactN f).length - 1) 0 else 0
def atE (md : Md) (f : List Nd) (i : Int) : Int := if holdE md f = 0 then (if i < 0 ∨ md.n ≤ i then 2 else 0) else holdE md f
def at17 (md : Md) (f : List Nd) (i : Int) : Bool := if holdE md f = 0 then (if i < 0 ∨ md.n ≤ i then false else (hold17 md f).testBit i.toNat) else false
theorem frag_mem : ∀ (l : List Nd) (s : Nat), (∀ i, s.testBit i = true → (l.foldl (fun s n => s ||| (fragOf n.op).toNat) s).testBit i = true) ∧ ∀ n ∈ l, ∀ i, (fragOf n.op).toNat.testBit i = true → (l.foldl (fun s n => s ||| (fragOf n.op).toNat) s).testBit i = true
  | [], _ => ⟨fun _ h => h, fun _ h => by cases h⟩
  | a :: l, s => by
    obtain ⟨h1, h2⟩ := frag_mem l (s ||| (fragOf a.op).toNat)
    refine ⟨fun i hi => h1 i (by rw [Nat.testBit_or, hi]; rfl), fun n hn i hi => ?_⟩
    rcases List.mem_cons.1 hn with rfl | hn
    · exact h1 i (by rw [Nat.testBit_or, hi, Bool.or_true])
    · exact h2 n hn i hi
theorem ag_mem : ∀ (l : List Nd) (s : Nat), (∀ i, s.testBit i = true → (l.foldl agS s).testBit i = true) ∧ ∀ n ∈ l, ∀ i, ((hasAgent n.op = true ∧ i = n.i.toNat) ∨ n.g.toNat.testBit i = true) → (l.foldl agS s).testBit i = true
  | [], _ => ⟨fun _ h => h, fun _ h => by cases h⟩
  | a :: l, s => by
    obtain ⟨h1, h2⟩ := ag_mem l (agS s a)
    refine ⟨fun i hi => h1 i (by unfold agS; rw [Nat.testBit_or, Nat.testBit_or, hi]; rfl), fun n hn i hi => ?_⟩
    rcases List.mem_cons.1 hn with rfl | hn
    · refine h1 i ?_
      unfold agS
      rw [Nat.testBit_or, Nat.testBit_or]
      rcases hi with ⟨ha, rfl⟩ | hg
      · rw [if_pos ha, Nat.testBit_two_pow]; simp
      · rw [hg, Bool.or_true]
    · exact h2 n hn i hi
theorem fa_mem : ∀ (l : List Nd) (s : Nat), (∀ i, s.testBit i = true → (l.foldl faS s).testBit i = true) ∧ ∀ n ∈ l, ∀ i, (n.op = 3 ∧ i = n.i.toNat) → (l.foldl faS s).testBit i = true
  | [], _ => ⟨fun _ h => h, fun _ h => by cases h⟩
  | a :: l, s => by
    obtain ⟨h1, h2⟩ := fa_mem l (faS s a)
    refine ⟨fun i hi => h1 i (by unfold faS; split; · rw [Nat.testBit_or, hi]; rfl
                                 · exact hi), fun n hn i hi => ?_⟩
    rcases List.mem_cons.1 hn with rfl | hn
    · refine h1 i ?_
      obtain ⟨ho, rfl⟩ := hi
      unfold faS
      rw [if_pos ho, Nat.testBit_or, Nat.testBit_two_pow]; simp
    · exact h2 n hn i hi
theorem head_eqs {m n : Nd} (h : m.head = n.head) : m.op = n.op ∧ m.i = n.i ∧ m.g = n.g := by
  have h1 := congrArg Nd.op h
  have h2 := congrArg Nd.i h
  have h3 := congrArg Nd.g h
  exact ⟨h1, h2, h3⟩
theorem low_bits {g k : Nat} (h : ∀ i, g.testBit i = true → i < k) : g < 2 ^ k := by
  rcases Nat.lt_or_ge g (2 ^ k) with h1 | h1
  · exact h1
  · obtain ⟨i, hi1, hi2⟩ := Nat.exists_ge_and_testBit_of_ge_two_pow h1
    have := h i hi2
    omega
/-- A node of a checked formula whose part fits the model. -/
theorem fit_nd {md : Md} {f : List Nd} {k : Nat} {n : Nd} (hc : check f = 0) (hk : f[k]? = some n) (hf : fit17 md f (k : Int) = true) (_hr4 : md.rel.length ≤ 4) : FitNd md n := by
  have hkl := (List.getElem?_eq_some_iff.1 hk).1
  have hh := heads_of hc n (List.mem_of_getElem? hk)
  unfold fit17 at hf
  rw [Bool.and_eq_true] at hf
  obtain ⟨h1, h2⟩ := hf
  have hg := (sub_props hc hkl).2.1
  have ht := subN_tree hc hkl
  have htk : (tr f k).ok := tr_ok (check_wf hc) k hkl
  have hcc : compactN (subN f (k : Int)) = canon (tr f k) := by
    rw [compactN_tree hg, ht, treeOf_canon htk]
  obtain ⟨m, hm, hmt, _⟩ := last_node htk
  have hmm := List.mem_of_getElem? hm
  have hmh := head_eqs (mk_inj ((tr_eq (check_wf hc) hk).symm.trans hmt)).1
  unfold fitsN at h2
  rw [Bool.and_eq_true, Bool.and_eq_true, List.all_eq_true, List.all_eq_true] at h2
  rw [hcc] at h2
  have hag : ∀ i, ((hasAgent n.op = true ∧ i = n.i.toNat) ∨ n.g.toNat.testBit i = true) → i < 4 → i < md.rel.length := fun i hi hi4 => by
    have h3 := (ag_mem (canon (tr f k)) 0).2 m hmm i (by rw [← hmh.1, ← hmh.2.1, ← hmh.2.2]; exact hi)
    have h4 := h2.2.1 i (List.mem_range.2 hi4)
    unfold fitA agentsM at h4
    rw [h3] at h4
    simpa using h4
  refine ⟨hh, ?_, fun ho => ?_, fun ho => ?_, fun ho => ?_⟩
  · have hop21 := (isOp_iff n.op).1 hh.1
    have hfr : subS (fragOf m.op).toNat 15 = true := by
      rw [subS_iff] at h1 ⊢
      intro i hi
      refine h1 i ?_
      unfold fragsN
      rw [hcc]
      exact (frag_mem (canon (tr f k)) 0).2 m hmm i hi
    rw [← hmh.1] at hfr
    rcases op_cases n.op with h | h | h | h | h | h | h | h | h | h | h | h | h | h | h | h | h | h | h | h | h | h | h <;> first | omega | (rw [h] at hfr; exact absurd hfr (by decide))
  · have hb := head_fact hh ho
    have h3 := (fa_mem (canon (tr f k)) 0).2 m hmm n.i.toNat ⟨by rw [← hmh.1]; exact ho, by rw [← hmh.2.1]⟩
    have h4 := h2.2.2 n.i.toNat (List.mem_range.2 (by omega))
    unfold fitA factsM at h4
    rw [h3] at h4
    have : n.i.toNat < md.val.length := by simpa using h4
    omega
  · have ha : hasAgent n.op = true := by rcases ho with h | h <;> (rw [h]; rfl)
    have hb := head_agent hh ha
    have := hag n.i.toNat (.inl ⟨ha, rfl⟩) (by omega)
    omega
  · have hb := head_group hh
    have hop13 : n.op ≤ 21 := ((isOp_iff n.op).1 hh.1).2
    refine ⟨?_, low_bits fun i hi => hag i (.inr hi) (bit_lt (n := 4) (by omega) hi)⟩
    obtain ⟨_, h3, h4, _, _⟩ := hh
    cases hgr : hasGroup n.op
    · exfalso
      have hfr : subS (fragOf m.op).toNat 15 = true := by
        rw [subS_iff] at h1 ⊢
        intro i hi
        refine h1 i ?_
        unfold fragsN
        rw [hcc]
        exact (frag_mem (canon (tr f k)) 0).2 m hmm i hi
      rw [← hmh.1] at hfr
      rcases op_cases n.op with h | h | h | h | h | h | h | h | h | h | h | h | h | h | h | h | h | h | h | h | h | h | h <;> first | omega | (rw [h] at hfr; exact absurd hfr (by decide)) | (rw [h] at hgr; cases hgr)
    · unfold rangeBad at h4
      simp only [outsideB, hgr, Bool.or_eq_false_iff] at h4
      simp at h4
      omega
end Go.Proofs.YtdpblciohodgcaaDoor
