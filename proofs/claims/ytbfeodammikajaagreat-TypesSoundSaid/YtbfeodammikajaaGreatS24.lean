/- Slices of words. -/
import Derived.Test.YtbfeodammikajaaGreatS07
import Derived.Test.YtbfeodammikajaaGreatS18
import Derived.Test.YtbfeodammikajaaGreatS23
import Derived.Test.YtbfeodammikajaaGreatS09
import Derived.Test.YtbfeodammikajaaGreatS08
import Derived.Test.YtbfeodammikajaaGreatS12

namespace Go.Proofs.YtbfeodammikajaaGreat
open Go.RowKit

/-- A slice of words. -/
def U64s (w : World) (v : Value) (l : List Nat) : Prop :=
  ∃ A c, v = .slice A l.length c ∧ l.length ≤ c ∧ c ≤ maxLen ∧ (l ≠ [] → ∃ ad, A = some ad ∧ ad.block < w.heap.size ∧ ∀ (k z : Nat), l[k]? = some z → w.cell? (ad.add k) = some (.int .u64 (z : Int)))
theorem U64s.ext {w w' : World} {v : Value} {l : List Nat} (h : U64s w v l) (he : Ext w w') : U64s w' v l := by
  obtain ⟨A, c, e, h1, h2, h3⟩ := h
  refine ⟨A, c, e, h1, h2, fun hn => ?_⟩
  obtain ⟨ad, e, hlt, hc⟩ := h3 hn
  exact ⟨ad, e, Nat.lt_of_lt_of_le hlt he.size, fun k z hk => (he.cell (by rw [block_of_add]; exact hlt)).trans (hc k z hk)⟩
theorem u64s_nil (w : World) : U64s w (.slice none 0 0) [] := ⟨none, 0, rfl, Nat.le_refl _, by unfold maxLen; omega, fun h => absurd rfl h⟩
theorem u64_at {w : World} {v : Value} {l : List Nat} (h : U64s w v l) : ∃ A c, v = .slice A l.length c ∧ l.length ≤ c ∧ c ≤ maxLen ∧ Hid (∀ i, i < l.length → ∃ ad, A = some ad ∧ ad.block < w.heap.size ∧ w.cell? (ad.add i) = some (.int .u64 ((l.getD i 0 : Nat) : Int))) := by
  obtain ⟨A, c, rfl, h1, h2, h3⟩ := h
  refine ⟨A, c, rfl, h1, h2, Lib.hid fun i hi => ?_⟩
  obtain ⟨ad, e, hl, hc⟩ := h3 (by intro e; rw [e] at hi; simp at hi)
  exact ⟨ad, e, hl, hc i _ (by rw [List.getD_eq_getElem?_getD, List.getElem?_eq_getElem hi]; rfl)⟩
/-- A slice of slices of words. -/
def U64ss (w : World) (v : Value) (l : List (List Nat)) : Prop :=
  ∃ A c, v = .slice A l.length c ∧ l.length ≤ c ∧ c ≤ maxLen ∧ (l ≠ [] → ∃ ad, A = some ad ∧ ad.block < w.heap.size ∧ ∀ (k : Nat) s, l[k]? = some s → ∃ u, w.cell? (ad.add k) = some u ∧ U64s w u s)
theorem U64ss.ext {w w' : World} {v : Value} {l : List (List Nat)} (h : U64ss w v l) (he : Ext w w') : U64ss w' v l := by
  obtain ⟨A, c, e, h1, h2, h3⟩ := h
  refine ⟨A, c, e, h1, h2, fun hn => ?_⟩
  obtain ⟨ad, e, hlt, hc⟩ := h3 hn
  refine ⟨ad, e, Nat.lt_of_lt_of_le hlt he.size, fun k s hk => ?_⟩
  obtain ⟨u, hu, hb⟩ := hc k s hk
  exact ⟨u, (he.cell (by rw [block_of_add]; exact hlt)).trans hu, hb.ext he⟩
theorem u64ss_at {w : World} {v : Value} {l : List (List Nat)} (h : U64ss w v l) : ∃ A c, v = .slice A l.length c ∧ l.length ≤ c ∧ c ≤ maxLen ∧ Hid (∀ i, i < l.length → ∃ ad u, A = some ad ∧ ad.block < w.heap.size ∧ w.cell? (ad.add i) = some u ∧ U64s w u (l.getD i [])) := by
  obtain ⟨A, c, rfl, h1, h2, h3⟩ := h
  refine ⟨A, c, rfl, h1, h2, Lib.hid fun i hi => ?_⟩
  obtain ⟨ad, e, hl, hc⟩ := h3 (by intro e; rw [e] at hi; simp at hi)
  obtain ⟨u, hu, hs⟩ := hc i (l.getD i []) (by rw [List.getD_eq_getElem?_getD, List.getElem?_eq_getElem hi]; rfl)
  exact ⟨ad, u, e, hl, hu, hs⟩
end Go.Proofs.YtbfeodammikajaaGreat

/- Eliminations in memory; what an engine's methods ask, from the formula's base. -/

namespace Go.Proofs.YtbfeodammikajaaGreat
open Go.RowKit

theorem u64s_of_row {w : World} {base : Nat} {v : Value} {l : List Nat} (h : w.ownsRow base 40 1 v l.length (u64V l)) : U64s w v l := by
  have e : u64V l = l.flatMap fun (u : Nat) => [Value.int .u64 (u : Int)] := by unfold u64V; exact List.map_eq_flatMap
  rw [e] at h
  obtain ⟨A, cap, rfl, h1, h2, h3⟩ := row_cells (f := fun (u : Nat) => [Value.int .u64 (u : Int)]) (c := 1) (fun _ => rfl) h
  refine ⟨A, cap, rfl, h1, h2, fun hn => ?_⟩
  obtain ⟨g, rfl, hg, hc⟩ := h3 hn
  refine ⟨_, rfl, hg, fun k z hk => ?_⟩
  have := hc k z hk 0 (by omega) _ rfl
  rw [addr_zero]
  simpa using this
theorem ints_of_vrow {w : World} {base : Nat} {v : Value} {l : List Int} (h : w.ownsRow base 3 1 v l.length (intV l)) : Ints w v l := ints_of_row h
/-- An elimination. -/
def Elm (w : World) (v : Value) (lg : Int) (ts : List Nat) (ws : List Int) : Prop := ∃ vt vw, v = .agg #[.int .i64 lg, vt, vw] ∧ U64s w vt ts ∧ Ints w vw ws
theorem Elm.ext {w w' : World} {v : Value} {lg : Int} {ts : List Nat} {ws : List Int} (h : Elm w v lg ts ws) (he : Ext w w') : Elm w' v lg ts ws := by
  obtain ⟨vt, vw, e, h1, h2⟩ := h
  exact ⟨vt, vw, e, h1.ext he, h2.ext he⟩
theorem elm_nil (w : World) : Elm w (.agg #[.int .i64 0, .slice none 0 0, .slice none 0 0]) 0 [] [] := ⟨_, _, rfl, u64s_nil w, Ints.none_ w⟩
/-- What the methods ask. -/
structure EngAll (lg : Int) (f : List Nd) : Prop where
  lgr : 0 ≤ lg ∧ lg ≤ 6
  len : (baseN f).1.length ≤ 12
  al : (aliveN lg (baseN f).1).length = 2 ^ (baseN f).1.length
  le : (aliveN lg (baseN f).1).length ≤ 4096
  root : (rootN f).length = 2 ^ (baseN f).1.length
  ks : ∀ k ∈ knowsN (baseN f).1, k.place < 64 ∧ k.holds.length = 2 ^ (baseN f).1.length
  cs : ∀ c ∈ commsN (baseN f).1, c.place < 64 ∧ c.x.length = 2 ^ (baseN f).1.length ∧ c.y.length = 2 ^ (baseN f).1.length ∧ 0 ≤ c.group ∧ c.group < 16
theorem eng_all {lg : Int} {f : List Nd} (h : EngOk lg f) : EngAll lg f := by
  have hl := h.b.len
  refine ⟨⟨h.l0, h.l6⟩, hl, alive_len _ _, by rw [alive_len]; exact pow12 hl, tab_len _ _, fun k hk => ?_, fun c hc => ?_⟩
  · have := kn_size hk
    exact ⟨by omega, this.2⟩
  · obtain ⟨i, hi, hk⟩ := List.mem_flatMap.1 hc
    have hi := List.mem_range.1 hi
    unfold cmOf at hk
    cases ho : (lastN ((baseN f).1.getD i [])).op == 13
    · rw [ho] at hk; cases hk
    · rw [ho] at hk
      rw [List.mem_singleton.1 hk]
      have hg : (baseN f).1[i]? = some ((baseN f).1.getD i []) := by rw [List.getD_eq_getElem?_getD, List.getElem?_eq_getElem hi]; rfl
      obtain ⟨t, ht, hc, _⟩ := h.b.can _ (List.mem_of_getElem? hg)
      obtain ⟨gn, e, hlt⟩ := group_top ht (by rw [← hc]; simpa using ho)
      rw [← hc] at e
      exact ⟨by show i < 64; omega, tab_len _ _, tab_len _ _, by show 0 ≤ (lastN _).g ∧ (lastN _).g < 16; rw [e]; omega⟩
theorem results_ct {P : Program} {fn : Func} {t u : Tmp} {ty : TypeId} (h : fn.results = #[.cell t ty, .tmp u]) (tmps : Array Value) (w : World) {b o : Nat} (ht : tmps.getD t undef = .pointer (some ⟨b, o, none⟩)) {cs : List Value} {d : TypeDesc} (hc : w.rangeAt b o cs)
    (hu : P.underlying ty = some d) (hd : d.isRow = true) (hi : (P.info? ty).map (·.size) = some cs.length) : (results fn tmps).run P w = .ok (.tuple #[.agg cs.toArray, tmps.getD u undef]) w := by
  have ht' : tmps[t]?.getD undef = .pointer (some ⟨b, o, none⟩) := by rw [← Array.getD_eq_getD_getElem?]; exact ht
  simp [results, h, ht', asAddr, run_loadVar_mid w b o ty cs d hc hu hd hi]
theorem cells3z {w : World} {b : Nat} {a0 a1 a2 : Value} {t : TypeId} (h : w.heap[b]? = some (.cells #[a0, a1, a2] t (0, 0))) :
    (w.cell? ⟨b, 0, none⟩ = some a0 ∧ w.cell? ⟨b, 1, none⟩ = some a1 ∧ w.cell? ⟨b, 2, none⟩ = some a2) ∧ (w.frozen? ⟨b, 0, none⟩ = false ∧ w.frozen? ⟨b, 1, none⟩ = false ∧ w.frozen? ⟨b, 2, none⟩ = false) ∧ b < w.heap.size :=
  ⟨⟨by simp [World.cell?, h], by simp [World.cell?, h], by simp [World.cell?, h]⟩, ⟨by simp [World.frozen?, h], by simp [World.frozen?, h], by simp [World.frozen?, h]⟩, lt_heap h⟩
theorem set3z {w : World} {b : Nat} {a0 a1 a2 : Value} {t : TypeId} (h : w.heap[b]? = some (.cells #[a0, a1, a2] t (0, 0))) (v0 v1 v2 : Value) :
    (((w.setCell ⟨b, 0, none⟩ v0).setCell ⟨b, 1, none⟩ v1).setCell ⟨b, 2, none⟩ v2).heap[b]? = some (.cells #[v0, v1, v2] t (0, 0)) := by
  simp only [World.setCell, Array.getElem?_modify, h, if_true, Option.map_some]
  simp
theorem ext3z {w w' : World} {b : Nat} (h : Ext w w') (hb : w.heap.size ≤ b) (v0 v1 v2 : Value) : Ext w (((w'.setCell ⟨b, 0, none⟩ v0).setCell ⟨b, 1, none⟩ v1).setCell ⟨b, 2, none⟩ v2) :=
  ((h.setCell (p := ⟨b, 0, none⟩) hb v0).setCell (p := ⟨b, 1, none⟩) hb v1).setCell (p := ⟨b, 2, none⟩) hb v2
theorem other3z {w : World} {b k : Nat} (h : k ≠ b) (v0 v1 v2 : Value) : (((w.setCell ⟨b, 0, none⟩ v0).setCell ⟨b, 1, none⟩ v1).setCell ⟨b, 2, none⟩ v2).heap[k]? = w.heap[k]? := by
  rw [Below.heap_setCell _ _ _ _ h, Below.heap_setCell _ _ _ _ h, Below.heap_setCell _ _ _ _ h]
end Go.Proofs.YtbfeodammikajaaGreat

/- Eliminations read from a call's arguments. -/

namespace Go.Proofs.YtbfeodammikajaaGreat
open Go.ChangeShapes Go.WideShapes Go.ChangeAt Go.RowKit Go.Joins

section
variable {H : Type} {enc : TypeId × Value → H} {w : World} {spare : Nat → Bool} {held : Bool}
theorem ints_ok_of_trod {fuel : Nat} {v : Value} {y : DataW H × List MemPlace} (h : DataW.trod enc Tryz.prog w 0 spare held fuel 28 [v] = some y) : ∃ l, Ints w v l ∧ ∀ i ∈ l, i64ok i := by
  rcases open_ints Tryz.underlying28 Tryz.underlying3 (by kernel_rfl) h with ⟨hc, _⟩ | ⟨a, len, cap, zs, hc, _, hl, hm, hz, _, hcell, hwf⟩
  · injection hc with hc _
    subst hc
    exact ⟨[], Ints.none_ w, fun i hi => by cases hi⟩
  · injection hc with hc _
    subst hc
    have hzl : len ≤ zs.length := by rw [hz]; split <;> omega
    have el : (zs.take len).length = len := by simp; omega
    have hcl : ∀ k z, (zs.take len)[k]? = some z → w.cell? (a.add k) = some (.int .i64 z) := fun k z hk => by
      rw [List.getElem?_take] at hk
      split at hk
      · have hk' := (List.getElem?_eq_some_iff.1 hk).1
        rw [hcell k hk', List.getD_eq_getElem?_getD, hk]; rfl
      · cases hk
    refine ⟨zs.take len, ⟨some a, cap, by rw [el], by rw [el]; exact hl, hm, fun hne => ⟨a, rfl, ?_, hcl⟩⟩, fun i hi => i64_of_wf (hwf i (List.mem_of_mem_take hi))⟩
    obtain ⟨z, hz0⟩ : ∃ z, (zs.take len)[0]? = some z := by
      cases hq : zs.take len with
      | nil => exact absurd hq hne
      | cons x t => exact ⟨x, rfl⟩
    have := World.block_lt_of_cell? w _ (hcl 0 z hz0)
    rwa [block_of_add] at this
theorem u64s_of_trod {fuel : Nat} {v : Value} {y : DataW H × List MemPlace} (h : DataW.trod enc Tryz.prog w 0 spare held fuel 27 [v] = some y) : ∃ l, U64s w v l := by
  rcases open_ints Tryz.underlying27 Tryz.underlying40 (by kernel_rfl) h with ⟨hc, _⟩ | ⟨a, len, cap, zs, hc, _, hl, hm, hz, _, hcell, hwf⟩
  · injection hc with hc _
    subst hc
    exact ⟨[], u64s_nil w⟩
  · injection hc with hc _
    subst hc
    have hzl : len ≤ zs.length := by rw [hz]; split <;> omega
    have el : ((zs.take len).map Int.toNat).length = len := by simp; omega
    have hcl : ∀ (k z : Nat), ((zs.take len).map Int.toNat)[k]? = some z → w.cell? (a.add k) = some (.int .u64 (z : Int)) := fun k z hk => by
      rw [List.getElem?_map, List.getElem?_take] at hk
      split at hk
      · cases hq : zs[k]? with
        | none => rw [hq] at hk; cases hk
        | some q =>
          rw [hq] at hk
          obtain rfl : q.toNat = z := by simpa using hk
          have hk' := (List.getElem?_eq_some_iff.1 hq).1
          have hq0 := (u64_of_wf (hwf q (List.mem_of_getElem? hq))).1
          rw [hcell k hk', List.getD_eq_getElem?_getD, hq, Int.toNat_of_nonneg hq0]; rfl
      · cases hk
    refine ⟨_, some a, cap, by rw [el], by rw [el]; exact hl, hm, fun hne => ⟨a, rfl, ?_, hcl⟩⟩
    obtain ⟨z, hz0⟩ : ∃ z, ((zs.take len).map Int.toNat)[0]? = some z := by
      cases hq : (zs.take len).map Int.toNat with
      | nil => exact absurd hq hne
      | cons x t => exact ⟨x, rfl⟩
    have := World.block_lt_of_cell? w _ (hcl 0 z hz0)
    rwa [block_of_add] at this
set_option maxRecDepth 100000 in
theorem fml_of_arg {v : Value} {d : DataW H} {p : List MemPlace} (h : DataW.Trod enc Tryz.prog w 0 spare held 22 v d p) (hv : ∃ a len cap, v = .slice a len cap) : ∃ l, Fml w v l := by
  obtain ⟨a, len, cap, rfl⟩ := hv
  obtain ⟨fuel, hf⟩ := h
  exact fml_of_trod hf
set_option maxRecDepth 100000 in
theorem elm_of_arg {r : Reach} {b0 : Nat} {v : Value} {d : DataW H} {p : List MemPlace} (hv : Value.okWide Tryz.prog w r b0 30 v) (h : DataW.Trod enc Tryz.prog w 0 spare held 30 v d p) : ∃ lg ts ws, Elm w v lg ts ws ∧ ∀ i ∈ ws, i64ok i := by
  obtain ⟨v0, v1, v2, y0, y1, y2, n, rfl, _, _, t0, t1, t2⟩ := open_agg3 Tryz.underlying30 (by kernel_rfl) (by kernel_rfl) hv h
  obtain ⟨lg, rfl, _⟩ := int_of_trod t0
  obtain ⟨ts, hts⟩ := u64s_of_trod t1
  obtain ⟨ws, hws, hok⟩ := ints_ok_of_trod t2
  exact ⟨lg, ts, ws, ⟨_, _, rfl, hts, hws⟩, hok⟩
end
end Go.Proofs.YtbfeodammikajaaGreat

/- Models in memory, and sets of worlds as words. -/

namespace Go.Proofs.YtbfeodammikajaaGreat
open Go.RowKit

/-- A model's words. -/
structure Md where
  n : Int
  val : List Nat
  rel : List (List Nat)
def word (s : Nat) : Prop := s < 18446744073709551616
structure Md.ok (md : Md) : Prop where
  n : i64ok md.n
  val : ∀ s ∈ md.val, word s
  rel : ∀ r ∈ md.rel, ∀ s ∈ r, word s
def MdV (w : World) (v : Value) (md : Md) : Prop := ∃ vv vr, v = .agg #[.int .i64 md.n, vv, vr] ∧ U64s w vv md.val ∧ U64ss w vr md.rel
theorem MdV.ext {w w' : World} {v : Value} {md : Md} (h : MdV w v md) (he : Ext w w') : MdV w' v md := by
  obtain ⟨vv, vr, e, h1, h2⟩ := h
  exact ⟨vv, vr, e, h1.ext he, h2.ext he⟩
theorem getD_word {l : List Nat} (h : ∀ s ∈ l, word s) (i : Nat) : word (l.getD i 0) := by
  rw [List.getD_eq_getElem?_getD]
  cases e : l[i]? with
  | none => show (0 : Nat) < _; omega
  | some s => exact h s (List.mem_of_getElem? e)
theorem getD_words {l : List (List Nat)} (h : ∀ r ∈ l, ∀ s ∈ r, word s) (i : Nat) : ∀ s ∈ l.getD i [], word s := by
  rw [List.getD_eq_getElem?_getD]
  cases e : l[i]? with
  | none => intro s hs; cases hs
  | some r => exact h r (List.mem_of_getElem? e)
/-- The worlds of a condition, as a word. -/
def maskN (n : Nat) (p : Nat → Bool) : Nat := (List.range n).foldl (fun o i => if p i then o ||| 2 ^ i else o) 0
theorem mask_succ (n : Nat) (p : Nat → Bool) : maskN (n + 1) p = if p n then maskN n p ||| 2 ^ n else maskN n p := by
  unfold maskN
  rw [List.range_succ, List.foldl_append]
  rfl
theorem mask_bit (p : Nat → Bool) : ∀ (n i : Nat), (maskN n p).testBit i = (decide (i < n) && p i)
  | 0, i => by simp [maskN]
  | n + 1, i => by
    rw [mask_succ]
    cases h : p n
    · rw [if_neg (by simp), mask_bit p n i]
      by_cases e : i = n
      · subst e; simp [h]
      · have : decide (i < n + 1) = decide (i < n) := by rw [decide_eq_decide]; omega
        rw [this]
    · rw [if_pos rfl, Nat.testBit_or, mask_bit p n i, Nat.testBit_two_pow]
      by_cases e : i = n
      · subst e; simp [h]
      · have h1 : decide (n = i) = false := decide_eq_false (fun q => e q.symm)
        have h2 : decide (i < n + 1) = decide (i < n) := by rw [decide_eq_decide]; omega
        rw [h1, h2, Bool.or_false]
theorem mask_lt (p : Nat → Bool) : ∀ n : Nat, maskN n p < 2 ^ n
  | 0 => by simp [maskN]
  | n + 1 => by
    rw [mask_succ]
    have h1 := mask_lt p n
    have h2 : 2 ^ n < 2 ^ (n + 1) := Nat.pow_lt_pow_right (by decide) (Nat.lt_succ_self n)
    split
    · exact Nat.or_lt_two_pow (by omega) h2
    · omega
theorem two64 {n : Nat} (h : n ≤ 64) : 2 ^ n ≤ 18446744073709551616 := by
  rw [show (18446744073709551616 : Nat) = 2 ^ 64 from rfl]
  exact Nat.pow_le_pow_right (by decide) h
theorem mask_word {n : Nat} (h : n ≤ 64) (p : Nat → Bool) : word (maskN n p) := Nat.lt_of_lt_of_le (mask_lt p n) (two64 h)
theorem bit_lt {s n i : Nat} (h : s < 2 ^ n) (hi : s.testBit i = true) : i < n := by
  by_cases e : i < n
  · exact e
  · rw [Nat.testBit_lt_two_pow (Nat.lt_of_lt_of_le h (Nat.pow_le_pow_right (by decide) (by omega)))] at hi
    cases hi
/-- a &^ b. -/
def difN (a b : Nat) : Nat := a ^^^ (a &&& b)
theorem dif_bit (a b i : Nat) : (difN a b).testBit i = (a.testBit i && !b.testBit i) := by
  unfold difN
  rw [Nat.testBit_xor, Nat.testBit_and]
  cases a.testBit i <;> cases b.testBit i <;> rfl
theorem dif_word {a b : Nat} (ha : word a) : word (difN a b) := by
  unfold difN word at *
  exact Nat.xor_lt_two_pow (n := 64) ha (Nat.lt_of_le_of_lt Nat.and_le_left ha)
theorem subS_iff {a b : Nat} : subS a b = true ↔ ∀ i, a.testBit i = true → b.testBit i = true := by
  unfold subS
  rw [beq_iff_eq]
  constructor
  · intro h i hi
    rw [← h, Nat.testBit_and] at hi
    exact (Bool.and_eq_true_iff.1 hi).2
  · intro h
    refine Nat.eq_of_testBit_eq fun i => ?_
    rw [Nat.testBit_and]
    cases e : a.testBit i
    · rfl
    · rw [h i e]; rfl
theorem dif_zero {a b : Nat} : (difN a b == 0) = subS a b := by
  rw [Bool.eq_iff_iff, beq_iff_eq, subS_iff]
  constructor
  · intro h i hi
    have h1 := dif_bit a b i
    rw [h, Nat.zero_testBit, hi, Bool.true_and] at h1
    cases e : b.testBit i
    · rw [e] at h1; cases h1
    · rfl
  · intro h
    refine Nat.eq_of_testBit_eq fun i => ?_
    rw [dif_bit, Nat.zero_testBit]
    cases e : a.testBit i
    · rfl
    · rw [h i e]; rfl
section
theorem ofInt_u64 (a : Nat) (ha : word a) : (BitVec.ofInt 64 (a : Int)).toNat = a := by
  rw [BitVec.ofInt_natCast, BitVec.toNat_ofNat]
  exact Nat.mod_eq_of_lt (by unfold word at ha; omega)
theorem bits_andNot {a b : Nat} (ha : word a) (hb : word b) : bits .andNot .u64 (a : Int) (b : Int) = ((difN a b : Nat) : Int) := by
  show IntKind.u64.wrap ((BitVec.ofInt 64 (a : Int) &&& ~~~BitVec.ofInt 64 (b : Int)).toNat : Int) = _
  have e : (BitVec.ofInt 64 (a : Int) &&& ~~~BitVec.ofInt 64 (b : Int)).toNat = difN a b := by
    have e2 : (BitVec.ofInt 64 (a : Int) &&& ~~~BitVec.ofInt 64 (b : Int)) = BitVec.ofInt 64 (a : Int) ^^^ (BitVec.ofInt 64 (a : Int) &&& BitVec.ofInt 64 (b : Int)) := by
      apply BitVec.eq_of_getLsbD_eq
      intro i hi
      simp only [BitVec.getLsbD_and, BitVec.getLsbD_not, BitVec.getLsbD_xor, hi, decide_true, Bool.true_and]
      cases (BitVec.ofInt 64 (a : Int)).getLsbD i <;> cases (BitVec.ofInt 64 (b : Int)).getLsbD i <;> rfl
    rw [e2, BitVec.toNat_xor, BitVec.toNat_and, ofInt_u64 a ha, ofInt_u64 b hb]
    rfl
  rw [e, IntKind.wrap_u64]
  have := dif_word (b := b) ha
  unfold word at this
  omega
theorem bits_or {a b : Nat} (ha : word a) (hb : word b) : bits .or .u64 (a : Int) (b : Int) = ((a ||| b : Nat) : Int) := by
  show IntKind.u64.wrap ((BitVec.ofInt 64 (a : Int) ||| BitVec.ofInt 64 (b : Int)).toNat : Int) = _
  rw [BitVec.toNat_or, ofInt_u64 a ha, ofInt_u64 b hb, IntKind.wrap_u64]
  have : a ||| b < 2 ^ 64 := Nat.or_lt_two_pow ha hb
  omega
theorem bits_xor {a b : Nat} (ha : word a) (hb : word b) : bits .xor .u64 (a : Int) (b : Int) = ((a ^^^ b : Nat) : Int) := by
  show IntKind.u64.wrap ((BitVec.ofInt 64 (a : Int) ^^^ BitVec.ofInt 64 (b : Int)).toNat : Int) = _
  rw [BitVec.toNat_xor, ofInt_u64 a ha, ofInt_u64 b hb, IntKind.wrap_u64]
  have : a ^^^ b < 2 ^ 64 := Nat.xor_lt_two_pow ha hb
  omega
theorem bits_and {a b : Nat} (ha : word a) (hb : word b) : bits .and .u64 (a : Int) (b : Int) = ((a &&& b : Nat) : Int) := bits_and_u64_nat a b ha hb
theorem wrap_two {n : Nat} (h : n < 64) : IntKind.u64.wrap ((2 : Int) ^ n) = ((2 ^ n : Nat) : Int) := by
  have h1 : 2 ^ n < 18446744073709551616 := by
    rw [show (18446744073709551616 : Nat) = 2 ^ 64 from rfl]
    exact Nat.pow_lt_pow_right (by decide) h
  rw [show ((2 : Int) ^ n) = ((2 ^ n : Nat) : Int) by rw [Int.natCast_pow]; rfl, IntKind.wrap_u64]
  generalize 2 ^ n = m at *
  omega
theorem wrap_all {n : Nat} (h : n < 64) : IntKind.u64.wrap (IntKind.u64.wrap ((2 : Int) ^ n) - 1) = ((2 ^ n - 1 : Nat) : Int) := by
  rw [wrap_two h, IntKind.wrap_u64]
  have h1 : 0 < 2 ^ n := Nat.two_pow_pos n
  have h2 : 2 ^ n < 18446744073709551616 := by
    rw [show (18446744073709551616 : Nat) = 2 ^ 64 from rfl]
    exact Nat.pow_lt_pow_right (by decide) h
  generalize 2 ^ n = m at *
  omega
end
theorem all_bit (n i : Nat) : (2 ^ n - 1).testBit i = decide (i < n) := by
  rw [Nat.testBit_two_pow_sub_one]
theorem all_word {n : Nat} (h : n ≤ 64) : word (2 ^ n - 1) := by
  have := two64 h
  unfold word
  have : 0 < 2 ^ n := Nat.two_pow_pos n
  omega
theorem inside_all {s n : Nat} : subS s (2 ^ n - 1) = decide (s < 2 ^ n) := by
  unfold subS
  rw [Nat.and_two_pow_sub_one_eq_mod, Bool.eq_iff_iff, beq_iff_eq, decide_eq_true_iff]
  constructor
  · intro h
    rw [← h]
    exact Nat.mod_lt _ (Nat.two_pow_pos n)
  · exact Nat.mod_eq_of_lt
end Go.Proofs.YtbfeodammikajaaGreat

/- Models read from a call's arguments. -/

namespace Go.Proofs.YtbfeodammikajaaGreat
open Go.ChangeShapes Go.WideShapes Go.ChangeAt Go.RowKit Go.Deep Go.Joins

section
variable {H : Type} {enc : TypeId × Value → H} {w : World} {spare : Nat → Bool} {held : Bool}
theorem u64w_of_trod {fuel : Nat} {v : Value} {y : DataW H × List MemPlace} (h : DataW.trod enc Tryz.prog w 0 spare held fuel 27 [v] = some y) : ∃ l, U64s w v l ∧ ∀ s ∈ l, word s := by
  rcases open_ints Tryz.underlying27 Tryz.underlying40 (by kernel_rfl) h with ⟨hc, _⟩ | ⟨a, len, cap, zs, hc, _, hl, hm, hz, _, hcell, hwf⟩
  · injection hc with hc _
    subst hc
    exact ⟨[], u64s_nil w, fun s hs => by cases hs⟩
  · injection hc with hc _
    subst hc
    have hzl : len ≤ zs.length := by rw [hz]; split <;> omega
    have el : ((zs.take len).map Int.toNat).length = len := by simp; omega
    have hcl : ∀ (k z : Nat), ((zs.take len).map Int.toNat)[k]? = some z → w.cell? (a.add k) = some (.int .u64 (z : Int)) := fun k z hk => by
      rw [List.getElem?_map, List.getElem?_take] at hk
      split at hk
      · cases hq : zs[k]? with
        | none => rw [hq] at hk; cases hk
        | some q =>
          rw [hq] at hk
          obtain rfl : q.toNat = z := by simpa using hk
          have hk' := (List.getElem?_eq_some_iff.1 hq).1
          have hq0 := (u64_of_wf (hwf q (List.mem_of_getElem? hq))).1
          rw [hcell k hk', List.getD_eq_getElem?_getD, hq, Int.toNat_of_nonneg hq0]; rfl
      · cases hk
    refine ⟨_, ⟨some a, cap, by rw [el], by rw [el]; exact hl, hm, fun hne => ⟨a, rfl, ?_, hcl⟩⟩, fun s hs => ?_⟩
    · obtain ⟨z, hz0⟩ : ∃ z, ((zs.take len).map Int.toNat)[0]? = some z := by
        cases hq : (zs.take len).map Int.toNat with
        | nil => exact absurd hq hne
        | cons x t => exact ⟨x, rfl⟩
      have := World.block_lt_of_cell? w _ (hcl 0 z hz0)
      rwa [block_of_add] at this
    · obtain ⟨q, hq, rfl⟩ := List.mem_map.1 hs
      have := u64_of_wf (hwf q (List.mem_of_mem_take hq))
      show q.toNat < 18446744073709551616
      omega
theorem u64ss_of_trod {fuel : Nat} {v : Value} {y : DataW H × List MemPlace} (h : DataW.trod enc Tryz.prog w 0 spare held fuel 36 [v] = some y) : ∃ l, U64ss w v l ∧ ∀ r ∈ l, ∀ s ∈ r, word s := by
  rcases open_slice Tryz.underlying36 h with ⟨hc, _⟩ | ⟨a, len, cap, m, n, D, Pl, hc, _, hl, hm, hmm, _, hi⟩
  · injection hc with hc _
    subst hc
    exact ⟨[], ⟨none, 0, rfl, Nat.le_refl _, by unfold maxLen; omega, fun h => absurd rfl h⟩, fun r hr => by cases hr⟩
  · injection hc with hc _
    subst hc
    have hC : Tryz.prog.cellsOf 27 = 1 := by kernel_rfl
    obtain ⟨l, hlen, hp⟩ := list_of (P := fun i (r : List Nat) => ∃ u, w.cell? (a.add i) = some u ∧ U64s w u r ∧ (∀ s ∈ r, word s) ∧ a.block < w.heap.size) len (fun i hil => by
      obtain ⟨cs', hcs, ht'⟩ := hi i (by rw [hmm]; split <;> omega)
      rw [hC] at hcs
      obtain ⟨_, hcl, hat⟩ := World.cells?_some hcs
      obtain ⟨u, rfl⟩ : ∃ u, cs' = [u] := by
        cases cs' with
        | nil => simp at hcl
        | cons x t => cases t with
          | nil => exact ⟨x, rfl⟩
          | cons z t => simp at hcl
      have h0 := hat 0 (by omega)
      obtain ⟨r, hr, hw⟩ := u64w_of_trod ht'
      have hc0 : w.cell? (a.add i) = some u := by
        have : (a.add (i * 1)).add 0 = a.add i := by rw [Nat.mul_one]; unfold Addr.add; rfl
        rw [this] at h0
        simpa using h0
      refine ⟨r, u, hc0, hr, hw, ?_⟩
      have := World.block_lt_of_cell? w _ hc0
      rwa [block_of_add] at this)
    refine ⟨l, ⟨some a, cap, by rw [hlen], by rw [hlen]; exact hl, hm, fun hne => ⟨a, rfl, ?_, fun k s hk => ?_⟩⟩, fun r hr => ?_⟩
    · obtain ⟨z, hz0⟩ : ∃ z, l[0]? = some z := by
        cases hq : l with
        | nil => exact absurd hq hne
        | cons x t => exact ⟨x, rfl⟩
      obtain ⟨_, _, _, _, hb⟩ := hp 0 z hz0
      exact hb
    · obtain ⟨u, h1, h2, _⟩ := hp k s hk
      exact ⟨u, h1, h2⟩
    · obtain ⟨k, hk⟩ := List.getElem?_of_mem hr
      obtain ⟨_, _, _, hw, _⟩ := hp k r hk
      exact hw
set_option maxRecDepth 100000 in
theorem md_of_arg {r : Reach} {b0 : Nat} {v : Value} {d : DataW H} {p : List MemPlace} (hv : Value.okWide Tryz.prog w r b0 38 v) (h : DataW.Trod enc Tryz.prog w 0 spare held 38 v d p) : ∃ md, MdV w v md ∧ md.ok := by
  obtain ⟨v0, v1, v2, y0, y1, y2, n, rfl, _, _, t0, t1, t2⟩ := open_agg3 Tryz.underlying38 (by kernel_rfl) (by kernel_rfl) hv h
  obtain ⟨z, rfl, hz⟩ := int_of_trod t0
  obtain ⟨vs, hvs, hw1⟩ := u64w_of_trod t1
  obtain ⟨rs, hrs, hw2⟩ := u64ss_of_trod t2
  exact ⟨⟨z, vs, rs⟩, ⟨_, _, rfl, hvs, hrs⟩, ⟨hz, hw1, hw2⟩⟩
end
end Go.Proofs.YtbfeodammikajaaGreat

/- The reference's sets of worlds and relations: All, Has, In, beyond, Check, Few, Valid. -/

namespace Go.Proofs.YtbfeodammikajaaGreat
open Go.RowKit

def allW (n : Nat) : Nat := 2 ^ n - 1
theorem allw_bit (n i : Nat) : (allW n).testBit i = decide (i < n) := all_bit n i
theorem allw_word {n : Nat} (h : n ≤ 64) : word (allW n) := all_word h
theorem out_all {s n : Nat} (hs : word s) (hn : n ≤ 64) : (bits .andNot .u64 (s : Int) ((allW n : Nat) : Int) != 0) = !decide (s < 2 ^ n) := by
  rw [bits_andNot hs (allw_word hn)]
  show (!(((difN s (allW n) : Nat) : Int) == 0)) = _
  rw [show (((difN s (allW n) : Nat) : Int) == 0) = (difN s (allW n) == 0) by rw [Bool.eq_iff_iff, beq_iff_eq, beq_iff_eq]; omega, dif_zero]
  unfold allW
  rw [inside_all]
theorem shr_mod_two_u (s k : Nat) : (((s : Int) / 2 ^ k).tmod 2 == 1) = s.testBit k := by
  rw [shr_nat, testBit_int]
  generalize s / 2 ^ k = r
  rw [show ((r : Nat) : Int).tmod 2 = ((r % 2 : Nat) : Int) from rfl, Bool.eq_iff_iff, beq_iff_eq, beq_iff_eq]
  omega
set_option maxRecDepth 100000 in
set_option maxHeartbeats 4000000 in
theorem rAll13_any (n : Nat) (h : n ≤ 64) (w : World) : Calls Tryz.prog 135 #[.int .i64 (n : Int)] w fun e w' => e = .returned (.int .u64 ((allW n : Nat) : Int)) ∧ w = w' := by
  by_cases h64 : n = 64
  · subst h64
    go_enter Tryz.func135, Tryz.ntmps135
    go_wp2_with fail
    go_ret
    exact ⟨rfl, rfl⟩
  · have hn : n < 64 := by omega
    have hn1 : (n : Int) < 64 := by omega
    have hmin : min n 64 = n := by omega
    have HW := Lib.hid (wrap_all hn)
    clear h64 h
    go_enter Tryz.func135, Tryz.ntmps135
    go_wp2_with fail
    go_ret
    exact ⟨by rw [← show ((2 ^ n - 1 : Nat) : Int) = ((allW n : Nat) : Int) from rfl, ← HW.out] <;> rfl, rfl⟩
set_option maxRecDepth 100000 in
set_option maxHeartbeats 4000000 in
theorem rAll02_any (n : Nat) (h : n ≤ 64) (w : World) : Calls Tryz.prog 157 #[.int .i64 (n : Int)] w fun e w' => e = .returned (.int .u64 ((allW n : Nat) : Int)) ∧ w = w' := by
  by_cases h64 : n = 64
  · subst h64
    go_enter Tryz.func157, Tryz.ntmps157
    go_wp2_with fail
    go_ret
    exact ⟨rfl, rfl⟩
  · have hn : n < 64 := by omega
    have hn1 : (n : Int) < 64 := by omega
    have hmin : min n 64 = n := by omega
    have HW := Lib.hid (wrap_all hn)
    clear h64 h
    go_enter Tryz.func157, Tryz.ntmps157
    go_wp2_with fail
    go_ret
    exact ⟨by rw [← show ((2 ^ n - 1 : Nat) : Int) = ((allW n : Nat) : Int) from rfl, ← HW.out] <;> rfl, rfl⟩
set_option maxRecDepth 100000 in
set_option maxHeartbeats 4000000 in
theorem rHas13_any (s i : Nat) (w : World) (hi : i < 64) : Calls Tryz.prog 53 #[.int .u64 (s : Int), .int .i64 (i : Int)] w fun e w' => e = .returned (.bool (s.testBit i)) ∧ w = w' := by
  have hm : min i 64 = i := by omega
  have hi1 : (i : Int) < 64 := by omega
  have HB := Lib.hid (shr_mod_two_u s i)
  go_enter Tryz.func53, Tryz.ntmps53
  go_wp2_with fail
  go_ret
  exact ⟨by rw [← HB.out] <;> rfl, rfl⟩
set_option maxRecDepth 100000 in
set_option maxHeartbeats 4000000 in
theorem rIn02_any (s i : Nat) (w : World) (hi : i < 64) (hs : word s) : Calls Tryz.prog 165 #[.int .u64 (s : Int), .int .i64 (i : Int)] w fun e w' => e = .returned (.bool (s.testBit i)) ∧ w = w' := by
  have hm : min i 64 = i := by omega
  have hi1 : (i : Int) < 64 := by omega
  have HB := Lib.hid (shr_and_one s i hs)
  clear hs
  go_enter Tryz.func165, Tryz.ntmps165
  go_wp2_with fail
  go_ret
  exact ⟨by rw [← HB.out] <;> rfl, rfl⟩
def beyondN (l : List Nat) (n : Nat) : Bool := l.any fun s => !decide (s < 2 ^ n)
theorem beyond_hit {l : List Nat} {n k : Nat} (hk : k < l.length) (h : decide (l.getD k 0 < 2 ^ n) = false) : beyondN l n = true := by
  unfold beyondN
  rw [List.any_eq_true]
  exact ⟨l[k], List.getElem_mem hk, by rw [List.getD_eq_getElem?_getD, List.getElem?_eq_getElem hk] at h; simpa using h⟩
theorem beyond_miss {l : List Nat} {n : Nat} (h : ∀ k, k < l.length → decide (l.getD k 0 < 2 ^ n) = true) : beyondN l n = false := by
  unfold beyondN
  rw [List.any_eq_false]
  intro s hs
  obtain ⟨k, hk, e⟩ := List.getElem_of_mem hs
  have := h k hk
  rw [List.getD_eq_getElem?_getD, List.getElem?_eq_getElem hk, e] at this
  simpa using this
theorem upto2 {P : Nat → Prop} {k : Nat} (h : ∀ j, j < k → P j) (hk : P k) : ∀ j, j < k + 1 → P j := fun j hj => by
  by_cases e : j < k
  · exact h j e
  · have : j = k := by omega
    rw [this]; exact hk
set_option maxRecDepth 100000 in
set_option maxHeartbeats 8000000 in
theorem beyond_any (v : Value) (l : List Nat) (n : Nat) (w : World) (h : U64s w v l) (hw : ∀ s ∈ l, word s) (hn : n ≤ 64) :
    Calls Tryz.prog 85 #[v, .int .i64 (n : Int)] w fun e w' => e = .returned (.bool (beyondN l n)) ∧ Ext w w' := by
  obtain ⟨A, c, rfl, hlc, hcm, HL⟩ := u64_at h
  have HWD := Lib.hid hw
  unfold maxLen at hcm
  clear h hw
  go_enter Tryz.func85, Tryz.ntmps85
  go_wp2_with fail
  go_loopw [5] (fun v wr => ∃ k : Nat, v = .int .i64 (k : Int) ∧ k ≤ l.length ∧ Hid (Ext w wr ∧ ∀ j, j < k → decide (l.getD j 0 < 2 ^ n) = true)) (fun v _ => l.length - (intOf v).toNat)
  case atStart => exact ⟨0, rfl, Nat.zero_le _, Lib.hid ⟨Ext.refl _, fun j hj => absurd hj (by omega)⟩⟩
  case round =>
    obtain ⟨k, rfl, hk, HREL⟩ := hrel
    have HX := Lib.hid HREL.out.1
    have HJ := Lib.hid HREL.out.2
    clear HREL
    by_cases hlt2 : k < l.length
    · have hk1 : (k : Int) < (l.length : Int) := by omega
      obtain ⟨ad, rfl, hadl, hc⟩ := HL.out k (by omega)
      have a0 := (HX.out.cell (p := ad.add k) (by rw [block_of_add]; exact hadl)).trans hc
      have al : (ad.add k).block < wr.heap.size := by rw [block_of_add]; exact Nat.lt_of_lt_of_le hadl HX.out.size
      have HNX := Lib.hid (show decide (l.getD k 0 < 2 ^ n) = true → ∀ j, j < k + 1 → decide (l.getD j 0 < 2 ^ n) = true from fun h => upto2 (P := fun j => decide (l.getD j 0 < 2 ^ n) = true) HJ.out h)
      have HHT := Lib.hid (show decide (l.getD k 0 < 2 ^ n) = false → beyondN l n = true from beyond_hit (by omega))
      have hout := out_all (n := n) (getD_word HWD.out k) hn
      obtain ⟨sx, hsx⟩ : ∃ s, s = l.getD k 0 := ⟨_, rfl⟩
      rw [← hsx] at a0 hout HNX HHT
      clear hc hsx
      go_upto_region 4 with (fail)
      cases hd : decide (sx < 2 ^ n)
      · rw [hd] at hout
        have HD := Lib.hid hd
        clear hd
        refine wp_region_held_drew (S := fun w' => w'.cell? (ad.add k) = some (.int .u64 (sx : Int))) (by kernel_rfl) (xc al a0) (fun hHeld => ?_)
        refine tk 0 hHeld ?_
        refine tk 1 hHeld ?_
        refine tk 2 hHeld ?_
        refine tk 3 hHeld ?_
        refine tk 4 hHeld ?_
        refine wpAnyH_ready (rs := [5]) (by kernel_rfl) (by simp) ?_
        refine AllReadyH.cons rfl (fun K hK => ?_) AllReadyH.nil
        go_simp
        refine (rAll13_any n hn _).mono ?_
        rintro e w3 ⟨rfl, rfl⟩
        go_wp2_with fail
        refine hK.out _ _ (xc al a0) (fun hHeld => ?_)
        clear hK K
        try simp only [Act.put, List.setIfInBounds_toArray, List.set_cons_zero, List.set_cons_succ, List.getElem_toArray, List.getElem_cons_succ, List.getElem_cons_zero]
        refine tk 6 hHeld ?_
        refine tk 7 hHeld ?_
        refine wpAnyH_done (by kernel_rfl) ?_ _
        have HE := Lib.hid (HHT.out HD.out)
        go_wp2_with fail
        go_ret
        exact ⟨by rw [HE.out] <;> rfl, HX.out.trans (Ext.refl _).drew⟩
      · rw [hd] at hout
        have HD := Lib.hid hd
        clear hd
        refine wp_region_held_drew (S := fun w' => w'.cell? (ad.add k) = some (.int .u64 (sx : Int))) (by kernel_rfl) (xc al a0) (fun hHeld => ?_)
        refine tk 0 hHeld ?_
        refine tk 1 hHeld ?_
        refine tk 2 hHeld ?_
        refine tk 3 hHeld ?_
        refine tk 4 hHeld ?_
        refine wpAnyH_ready (rs := [5]) (by kernel_rfl) (by simp) ?_
        refine AllReadyH.cons rfl (fun K hK => ?_) AllReadyH.nil
        go_simp
        refine (rAll13_any n hn _).mono ?_
        rintro e w3 ⟨rfl, rfl⟩
        go_wp2_with fail
        refine hK.out _ _ (xc al a0) (fun hHeld => ?_)
        clear hK K
        try simp only [Act.put, List.setIfInBounds_toArray, List.set_cons_zero, List.set_cons_succ, List.getElem_toArray, List.getElem_cons_succ, List.getElem_cons_zero]
        refine tk 6 hHeld ?_
        refine tk 7 hHeld ?_
        refine wpAnyH_done (by kernel_rfl) ?_ _
        have HP := Lib.hid (HNX.out HD.out)
        go_wp2_with fail
        go_roundw
        case rel => exact ⟨k + 1, by go_num, by omega, Lib.hid ⟨HX.out.trans (Ext.refl _).drew, HP.out⟩⟩
        case measure => simp [intOf]; omega
    · obtain rfl : l.length = k := by omega
      have HE := Lib.hid (beyond_miss HJ.out)
      go_wp2_with fail
      go_ret
      exact ⟨by rw [HE.out] <;> rfl, HX.out⟩
def check02 (n : Int) (l : List Nat) : Int := if n < 0 ∨ 64 < n then 2 else if (l.length : Int) ≠ n then 3 else if beyondN l n.toNat then 1 else 0
set_option maxRecDepth 100000 in
set_option maxHeartbeats 8000000 in
theorem check02_any (v : Value) (l : List Nat) (w : World) (h : U64s w v l) (hw : ∀ s ∈ l, word s) :
    Calls Tryz.prog 136 #[.int .i64 (l.length : Int), v] w fun e w' => e = .returned (.int .i64 (check02 l.length l)) ∧ Ext w w' := by
  obtain ⟨A, c, rfl, hlc, hcm, HL⟩ := u64_at h
  have HWD := Lib.hid hw
  unfold maxLen at hcm
  clear h hw
  by_cases hn : l.length ≤ 64
  · have hn1 : ¬ (64 : Int) < (l.length : Int) := by omega
    have HC := Lib.hid (show check02 l.length l = if beyondN l l.length then 1 else 0 by unfold check02; rw [if_neg (by omega), if_neg (by simp)]; rfl)
    obtain ⟨n, hne⟩ : ∃ n, n = l.length := ⟨_, rfl⟩
    have HN := Lib.hid hne
    rw [← hne] at HC hn
    rw [← hne]
    have hn2 : ¬ (64 : Int) < (n : Int) := by omega
    have hne2 : ((n : Int) != (n : Int)) = false := by simp
    have hlen : l.length = n := hne.symm
    clear hne hn1
    go_enter Tryz.func136, Tryz.ntmps136
    go_wp2_with fail
    go_loopw [5] (fun v wr => ∃ k : Nat, v = .int .i64 (k : Int) ∧ k ≤ n ∧ Hid (Ext w wr ∧ ∀ j, j < k → decide (l.getD j 0 < 2 ^ n) = true)) (fun v _ => n - (intOf v).toNat)
    case atStart => exact ⟨0, rfl, Nat.zero_le _, Lib.hid ⟨Ext.refl _, fun j hj => absurd hj (by omega)⟩⟩
    case round =>
      obtain ⟨k, rfl, hk, HREL⟩ := hrel
      have HX := Lib.hid HREL.out.1
      have HJ := Lib.hid HREL.out.2
      clear HREL
      by_cases hlt2 : k < n
      · have hk1 : (k : Int) < (n : Int) := by omega
        obtain ⟨ad, rfl, hadl, hc⟩ := HL.out k (by omega)
        have a0 := (HX.out.cell (p := ad.add k) (by rw [block_of_add]; exact hadl)).trans hc
        have al : (ad.add k).block < wr.heap.size := by rw [block_of_add]; exact Nat.lt_of_lt_of_le hadl HX.out.size
        have HNX := Lib.hid (show decide (l.getD k 0 < 2 ^ n) = true → ∀ j, j < k + 1 → decide (l.getD j 0 < 2 ^ n) = true from fun h => upto2 (P := fun j => decide (l.getD j 0 < 2 ^ n) = true) HJ.out h)
        have HHT := Lib.hid (show decide (l.getD k 0 < 2 ^ n) = false → beyondN l n = true from beyond_hit (by omega))
        have hout := out_all (n := n) (getD_word HWD.out k) hn
        obtain ⟨sx, hsx⟩ : ∃ s, s = l.getD k 0 := ⟨_, rfl⟩
        rw [← hsx] at a0 hout HNX HHT
        clear hc hsx
        go_upto_region 8 with (fail)
        cases hd : decide (sx < 2 ^ n)
        · rw [hd] at hout
          have HD := Lib.hid hd
          clear hd
          refine wp_region_held_drew (S := fun w' => w'.cell? (ad.add k) = some (.int .u64 (sx : Int))) (by kernel_rfl) (xc al a0) (fun hHeld => ?_)
          refine tk 0 hHeld ?_
          refine tk 1 hHeld ?_
          refine tk 2 hHeld ?_
          refine tk 3 hHeld ?_
          refine tk 4 hHeld ?_
          refine wpAnyH_ready (rs := [5]) (by kernel_rfl) (by simp) ?_
          refine AllReadyH.cons rfl (fun K hK => ?_) AllReadyH.nil
          go_simp
          refine (rAll02_any n hn _).mono ?_
          rintro e w3 ⟨rfl, rfl⟩
          go_wp2_with fail
          refine hK.out _ _ (xc al a0) (fun hHeld => ?_)
          clear hK K
          try simp only [Act.put, List.setIfInBounds_toArray, List.set_cons_zero, List.set_cons_succ, List.getElem_toArray, List.getElem_cons_succ, List.getElem_cons_zero]
          refine tk 6 hHeld ?_
          refine tk 7 hHeld ?_
          refine wpAnyH_done (by kernel_rfl) ?_ _
          have HE := Lib.hid (HHT.out HD.out)
          go_wp2_with fail
          go_ret
          exact ⟨by rw [HC.out, HE.out] <;> rfl, HX.out.trans (Ext.refl _).drew⟩
        · rw [hd] at hout
          have HD := Lib.hid hd
          clear hd
          refine wp_region_held_drew (S := fun w' => w'.cell? (ad.add k) = some (.int .u64 (sx : Int))) (by kernel_rfl) (xc al a0) (fun hHeld => ?_)
          refine tk 0 hHeld ?_
          refine tk 1 hHeld ?_
          refine tk 2 hHeld ?_
          refine tk 3 hHeld ?_
          refine tk 4 hHeld ?_
          refine wpAnyH_ready (rs := [5]) (by kernel_rfl) (by simp) ?_
          refine AllReadyH.cons rfl (fun K hK => ?_) AllReadyH.nil
          go_simp
          refine (rAll02_any n hn _).mono ?_
          rintro e w3 ⟨rfl, rfl⟩
          go_wp2_with fail
          refine hK.out _ _ (xc al a0) (fun hHeld => ?_)
          clear hK K
          try simp only [Act.put, List.setIfInBounds_toArray, List.set_cons_zero, List.set_cons_succ, List.getElem_toArray, List.getElem_cons_succ, List.getElem_cons_zero]
          refine tk 6 hHeld ?_
          refine tk 7 hHeld ?_
          refine wpAnyH_done (by kernel_rfl) ?_ _
          have HP := Lib.hid (HNX.out HD.out)
          go_wp2_with fail
          go_roundw
          case rel => exact ⟨k + 1, by go_num, by omega, Lib.hid ⟨HX.out.trans (Ext.refl _).drew, HP.out⟩⟩
          case measure => simp [intOf]; omega
      · obtain rfl : n = k := by omega
        have HE := Lib.hid (show beyondN l n = false from beyond_miss (by rw [hlen]; exact HJ.out))
        go_wp2_with fail
        go_ret
        exact ⟨by rw [HC.out, HE.out] <;> rfl, HX.out⟩
  · have hn1 : (64 : Int) < (l.length : Int) := by omega
    have HC := Lib.hid (show check02 l.length l = 2 by unfold check02; rw [if_pos (by omega)])
    go_enter Tryz.func136, Tryz.ntmps136
    go_wp2_with fail
    go_ret
    exact ⟨by rw [HC.out] <;> rfl, Ext.refl _⟩
def valid02 (l : List Nat) : Bool := check02 l.length l == 0
theorem valid_iff {l : List Nat} : valid02 l = true ↔ l.length ≤ 64 ∧ beyondN l l.length = false := by
  unfold valid02 check02
  by_cases h : l.length ≤ 64
  · rw [if_neg (by omega), if_neg (by simp)]
    show ((if beyondN l l.length then (1 : Int) else 0) == 0) = true ↔ _
    cases beyondN l l.length <;> simp [h]
  · rw [if_pos (by omega)]
    simp
    omega
set_option maxRecDepth 100000 in
set_option maxHeartbeats 4000000 in
theorem valid02_any (v : Value) (l : List Nat) (w : World) (h : U64s w v l) (hw : ∀ s ∈ l, word s) :
    Calls Tryz.prog 86 #[v] w fun e w' => e = .returned (.bool (valid02 l)) ∧ Ext w w' := by
  have H := Lib.hid h
  have HW := Lib.hid hw
  obtain ⟨A, c, rfl, _⟩ := h
  clear hw
  go_enter Tryz.func86, Tryz.ntmps86
  go_wp2_with fail
  refine (check02_any _ l _ H.out HW.out).mono ?_
  rintro e w2 ⟨rfl, hx⟩
  have HX := Lib.hid hx
  clear hx
  go_wp2_with fail
  go_ret
  exact ⟨rfl, HX.out⟩
end Go.Proofs.YtbfeodammikajaaGreat

/- The reference's operators on sets of worlds. -/

namespace Go.Proofs.YtbfeodammikajaaGreat
open Go.RowKit

theorem two_word {k : Nat} (h : k < 64) : word (2 ^ k) := by
  show 2 ^ k < 18446744073709551616
  rw [show (18446744073709551616 : Nat) = 2 ^ 64 from rfl]
  exact Nat.pow_lt_pow_right (by decide) h
theorem or_two {s k : Nat} (hs : word s) (hk : k < 64) : bits .or .u64 (s : Int) (IntKind.u64.wrap ((2 : Int) ^ k)) = ((s ||| 2 ^ k : Nat) : Int) := by
  rw [wrap_two hk]
  exact bits_or hs (two_word hk)
theorem dif_eq_zero {a b : Nat} (ha : word a) (hb : word b) : (bits .andNot .u64 (a : Int) (b : Int) == 0) = subS a b := by
  rw [bits_andNot ha hb, ← dif_zero, Bool.eq_iff_iff, beq_iff_eq, beq_iff_eq]
  omega
def boolN (op : Int) (x y al : Nat) : Nat :=
  if op = 1 then al else if op = 4 then difN al x else if op = 5 then x &&& y else if op = 6 then x ||| y else if op = 7 then difN al x ||| y else if op = 8 then difN al (x ^^^ y) else 0
theorem and_word {a b : Nat} (ha : word a) : word (a &&& b) := Nat.lt_of_le_of_lt Nat.and_le_left ha
theorem or_word {a b : Nat} (ha : word a) (hb : word b) : word (a ||| b) := Nat.or_lt_two_pow (n := 64) ha hb
theorem xor_word {a b : Nat} (ha : word a) (hb : word b) : word (a ^^^ b) := Nat.xor_lt_two_pow (n := 64) ha hb
theorem bool_word {op : Int} {x y al : Nat} (hx : word x) (hy : word y) (ha : word al) : word (boolN op x y al) := by
  unfold boolN
  split
  · exact ha
  split
  · exact dif_word ha
  split
  · exact and_word hx
  split
  · exact or_word hx hy
  split
  · exact or_word (dif_word ha) hy
  split
  · exact dif_word ha
  · show (0 : Nat) < _; omega
set_option maxRecDepth 100000 in
set_option maxHeartbeats 8000000 in
theorem boolean_any (op : Int) (x y al : Nat) (w : World) (hx : word x) (hy : word y) (ha : word al) :
    Calls Tryz.prog 142 #[.int .i64 op, .int .u64 (x : Int), .int .u64 (y : Int), .int .u64 (al : Int)] w fun e w' => e = .returned (.int .u64 ((boolN op x y al : Nat) : Int)) ∧ w = w' := by
  have b1 := bits_andNot (b := x) ha hx
  have b2 := bits_and hx hy
  have b3 := bits_or hx hy
  have b4 := bits_or (dif_word (b := x) ha) hy
  have b5 := bits_xor hx hy
  have b6 := bits_andNot ha (xor_word hx hy)
  by_cases h1 : op = 1
  · subst h1
    go_enter Tryz.func142, Tryz.ntmps142
    go_wp2_with fail
    go_ret
    exact ⟨rfl, rfl⟩
  by_cases h4 : op = 4
  · subst h4
    have HE := Lib.hid b1
    clear b1 b2 b3 b4 b5 b6
    go_enter Tryz.func142, Tryz.ntmps142
    go_wp2_with fail
    go_ret
    exact ⟨by rw [show boolN 4 x y al = difN al x from rfl, ← HE.out] <;> rfl, rfl⟩
  by_cases h5 : op = 5
  · subst h5
    have HE := Lib.hid b2
    clear b1 b2 b3 b4 b5 b6
    go_enter Tryz.func142, Tryz.ntmps142
    go_wp2_with fail
    go_ret
    exact ⟨by rw [show boolN 5 x y al = x &&& y from rfl, ← HE.out] <;> rfl, rfl⟩
  by_cases h6 : op = 6
  · subst h6
    have HE := Lib.hid b3
    clear b1 b2 b3 b4 b5 b6
    go_enter Tryz.func142, Tryz.ntmps142
    go_wp2_with fail
    go_ret
    exact ⟨by rw [show boolN 6 x y al = x ||| y from rfl, ← HE.out] <;> rfl, rfl⟩
  by_cases h7 : op = 7
  · subst h7
    have HE := Lib.hid b4
    have HE1 := Lib.hid b1
    clear b1 b2 b3 b4 b5 b6
    go_enter Tryz.func142, Tryz.ntmps142
    go_wp2_with fail
    go_ret
    exact ⟨by rw [show boolN 7 x y al = difN al x ||| y from rfl, ← HE.out, ← HE1.out] <;> rfl, rfl⟩
  by_cases h8 : op = 8
  · subst h8
    have HE := Lib.hid b6
    have HE1 := Lib.hid b5
    clear b1 b2 b3 b4 b5 b6
    go_enter Tryz.func142, Tryz.ntmps142
    go_wp2_with fail
    go_ret
    exact ⟨by rw [show boolN 8 x y al = difN al (x ^^^ y) from rfl, ← HE.out, ← HE1.out] <;> rfl, rfl⟩
  · have HE := Lib.hid (show boolN op x y al = 0 by unfold boolN; rw [if_neg h1, if_neg h4, if_neg h5, if_neg h6, if_neg h7, if_neg h8])
    have t1 : (op == 1) = false := by simpa using h1
    have t4 : (op == 4) = false := by simpa using h4
    have t5 : (op == 5) = false := by simpa using h5
    have t6 : (op == 6) = false := by simpa using h6
    have t7 : (op == 7) = false := by simpa using h7
    have t8 : (op == 8) = false := by simpa using h8
    clear b1 b2 b3 b4 b5 b6 h1 h4 h5 h6 h7 h8
    go_enter Tryz.func142, Tryz.ntmps142
    go_wp2_with fail
    go_ret
    exact ⟨by rw [HE.out] <;> rfl, rfl⟩
/-- The worlds all of whose successors are in a set. -/
def boxN (r : List Nat) (n s : Nat) : Nat := maskN n fun i => subS (r.getD i 0) s
set_option maxRecDepth 100000 in
set_option maxHeartbeats 8000000 in
theorem box_any (v : Value) (r : List Nat) (n s : Nat) (w : World) (h : U64s w v r) (hw : ∀ s ∈ r, word s) (hn : n ≤ 64) (hl : n ≤ r.length) (hs : word s) :
    Calls Tryz.prog 143 #[v, .int .i64 (n : Int), .int .u64 (s : Int)] w fun e w' => e = .returned (.int .u64 ((boxN r n s : Nat) : Int)) ∧ Ext w w' := by
  obtain ⟨A, c, rfl, _, _, HL⟩ := u64_at h
  have HWD := Lib.hid hw
  have HS := Lib.hid hs
  have hll : (n : Int) ≤ (r.length : Int) := by omega
  clear h hw hs
  go_enter Tryz.func143, Tryz.ntmps143
  go_wp2_with fail
  go_loopw [7, 8] (fun vo vi wr => ∃ k : Nat, vi = .int .i64 (k : Int) ∧ k ≤ n ∧ vo = .int .u64 ((maskN k (fun i => subS (r.getD i 0) s) : Nat) : Int) ∧ Hid (Ext w wr)) (fun _ v _ => n - (intOf v).toNat)
  case atStart => exact ⟨0, rfl, Nat.zero_le _, rfl, Lib.hid (Ext.refl _)⟩
  case round =>
    obtain ⟨k, rfl, hk, rfl, HX⟩ := hrel
    obtain ⟨m, hm⟩ : ∃ m, m = maskN k (fun i => subS (r.getD i 0) s) := ⟨_, rfl⟩
    have HM := Lib.hid hm
    rw [← hm]
    clear hm
    by_cases hlt2 : k < n
    · have hk1 : (k : Int) < (n : Int) := by omega
      have hk2 : (k : Int) < (r.length : Int) := by omega
      have hk64 : k < 64 := by omega
      have hmin : min k 64 = k := by omega
      obtain ⟨ad, rfl, hadl, hc⟩ := HL.out k (by omega)
      have a0 := (HX.out.cell (p := ad.add k) (by rw [block_of_add]; exact hadl)).trans hc
      have al : (ad.add k).block < wr.heap.size := by rw [block_of_add]; exact Nat.lt_of_lt_of_le hadl HX.out.size
      have hz := dif_eq_zero (getD_word HWD.out k) HS.out
      have HSU := Lib.hid (mask_succ k (fun i => subS (r.getD i 0) s))
      have HOR := Lib.hid (or_two (s := m) (k := k) (by rw [HM.out]; exact mask_word (by omega) _) hk64)
      obtain ⟨x, hx⟩ : ∃ x, x = r.getD k 0 := ⟨_, rfl⟩
      rw [← hx] at a0 hz
      have HXE := Lib.hid hx
      clear hc hx
      cases hd : subS x s
      · rw [hd] at hz
        have HP := Lib.hid (show maskN (k + 1) (fun i => subS (r.getD i 0) s) = m by rw [HSU.out, ← HXE.out, hd, HM.out]; rfl)
        clear hd
        go_wp2_with fail
        go_roundw
        case rel => exact ⟨k + 1, by go_num, by omega, by rw [HP.out], HX⟩
        case measure => simp [intOf]; omega
      · rw [hd] at hz
        have HP := Lib.hid (show maskN (k + 1) (fun i => subS (r.getD i 0) s) = m ||| 2 ^ k by rw [HSU.out, ← HXE.out, hd, HM.out]; rfl)
        have hor := HOR.out
        clear hd
        obtain ⟨m2, hm2⟩ : ∃ m2, m2 = m ||| 2 ^ k := ⟨_, rfl⟩
        rw [← hm2] at HP hor
        clear hm2
        go_wp2_with fail
        go_roundw
        case rel => exact ⟨k + 1, by go_num, by omega, by rw [HP.out], HX⟩
        case measure => simp [intOf]; omega
    · obtain rfl : n = k := by omega
      go_wp2_with fail
      go_ret
      exact ⟨by rw [show boxN r n s = m from HM.out.symm] <;> rfl, HX.out⟩
/-- The worlds that can be reached through a condition, as the reference computes them. -/
def stepP (r : List Nat) (c s v : Nat) : Nat := if s.testBit v then s ||| (r.getD v 0 &&& c) else s
def passP (r : List Nat) (c n s : Nat) : Nat := (List.range n).foldl (stepP r c) s
def pathsN (r : List Nat) (c n a : Nat) : Nat := (List.range n).foldl (fun s _ => passP r c n s) (r.getD a 0 &&& c)
theorem step_word {r : List Nat} (hw : ∀ s ∈ r, word s) {c s v : Nat} (hs : word s) : word (stepP r c s v) := by
  unfold stepP
  split
  · exact or_word hs (and_word (getD_word hw v))
  · exact hs
theorem fold_snoc {f : Nat → Nat → Nat} (k s : Nat) : (List.range (k + 1)).foldl f s = f ((List.range k).foldl f s) k := by
  rw [List.range_succ, List.foldl_append]
  rfl
theorem fold_word {f : Nat → Nat → Nat} (hf : ∀ s v, word s → word (f s v)) (k s : Nat) (hs : word s) : word ((List.range k).foldl f s) := by
  induction k with
  | zero => exact hs
  | succ k ih => rw [fold_snoc]; exact hf _ _ ih
theorem paths_word {r : List Nat} (hw : ∀ s ∈ r, word s) (c n a : Nat) : word (pathsN r c n a) :=
  fold_word (fun s _ hs => fold_word (fun _ _ h => step_word hw h) n s hs) n _ (and_word (getD_word hw a))
set_option maxRecDepth 100000 in
set_option maxHeartbeats 16000000 in
theorem paths_any (v : Value) (r : List Nat) (n a c : Nat) (w : World) (h : U64s w v r) (hw : ∀ s ∈ r, word s) (hn : n ≤ 64) (hl : n ≤ r.length) (ha : a < n) (hc : word c) :
    Calls Tryz.prog 162 #[v, .int .i64 (n : Int), .int .i64 (a : Int), .int .u64 (c : Int)] w fun e w' => e = .returned (.int .u64 ((pathsN r c n a : Nat) : Int)) ∧ Ext w w' := by
  obtain ⟨A, cp, rfl, _, _, HL⟩ := u64_at h
  have HWD := Lib.hid hw
  have HC := Lib.hid hc
  have hll : (n : Int) ≤ (r.length : Int) := by omega
  have ha1 : (a : Int) < (r.length : Int) := by omega
  obtain ⟨ad, rfl, hadl, hcl⟩ := HL.out a (by omega)
  have al0 : (ad.add a).block < w.heap.size := by rw [block_of_add]; exact hadl
  have hand := bits_and (getD_word hw a) hc
  obtain ⟨s0, hs0⟩ : ∃ s, s = r.getD a 0 &&& c := ⟨_, rfl⟩
  have HS0 := Lib.hid hs0
  have HS0W := Lib.hid (show word s0 by rw [hs0]; exact and_word (getD_word hw a))
  rw [← hs0] at hand
  obtain ⟨x, hx⟩ : ∃ x, x = r.getD a 0 := ⟨_, rfl⟩
  rw [← hx] at hcl hand
  clear h hw hc hs0 hx
  go_enter Tryz.func162, Tryz.ntmps162
  go_wp2_with fail
  clear hcl hand
  go_loopw [9, 10] (fun vs vi wr => ∃ k : Nat, vi = .int .i64 (k : Int) ∧ k ≤ n ∧ ∃ s : Nat, vs = .int .u64 (s : Int) ∧ Hid (s = (List.range k).foldl (fun s _ => passP r c n s) s0 ∧ Ext w wr)) (fun _ v _ => n - (intOf v).toNat)
  case atStart => exact ⟨0, rfl, Nat.zero_le _, s0, rfl, Lib.hid ⟨rfl, Ext.refl _⟩⟩
  case round =>
    obtain ⟨k, rfl, hk, s, rfl, HREL⟩ := hrel
    have HSE := Lib.hid HREL.out.1
    have HX := Lib.hid HREL.out.2
    have HSW := Lib.hid (show word s by rw [HSE.out]; exact fold_word (fun s _ hs => fold_word (fun _ _ h => step_word HWD.out h) n s hs) k _ HS0W.out)
    clear HREL
    by_cases hlt2 : k < n
    · have hk1 : (k : Int) < (n : Int) := by omega
      go_wp2_with fail
      go_loopw [9, 11] (fun vs vi wr => ∃ q : Nat, vi = .int .i64 (q : Int) ∧ q ≤ n ∧ ∃ s2 : Nat, vs = .int .u64 (s2 : Int) ∧ Hid (s2 = (List.range q).foldl (stepP r c) s ∧ Ext w wr)) (fun _ v _ => n - (intOf v).toNat)
      case atStart => exact ⟨0, rfl, Nat.zero_le _, s, rfl, Lib.hid ⟨rfl, HX.out⟩⟩
      case round =>
        clear HX
        obtain ⟨q, rfl, hq, s2, rfl, HREL⟩ := hrel
        have HSE2 := Lib.hid HREL.out.1
        have HX := Lib.hid HREL.out.2
        have HSW2 := Lib.hid (show word s2 by rw [HSE2.out]; exact fold_word (fun _ _ h => step_word HWD.out h) q _ HSW.out)
        clear HREL
        by_cases hlt3 : q < n
        · have hq1 : (q : Int) < (n : Int) := by omega
          have hq2 : (q : Int) < (r.length : Int) := by omega
          have hq64 : q < 64 := by omega
          obtain ⟨ad2, e2, hadl2, hc2⟩ := HL.out q (by omega)
          injection e2 with e2
          subst e2
          have a0 := (HX.out.cell (p := ad.add q) (by rw [block_of_add]; exact hadl2)).trans hc2
          have al : (ad.add q).block < wr.heap.size := by rw [block_of_add]; exact Nat.lt_of_lt_of_le hadl2 HX.out.size
          have hand := bits_and (getD_word HWD.out q) HC.out
          have hor := bits_or HSW2.out (and_word (b := c) (getD_word HWD.out q))
          have HST := Lib.hid (show (List.range (q + 1)).foldl (stepP r c) s = if s2.testBit q then s2 ||| (r.getD q 0 &&& c) else s2 by rw [fold_snoc, ← HSE2.out]; rfl)
          obtain ⟨y, hy⟩ : ∃ y, y = r.getD q 0 := ⟨_, rfl⟩
          rw [← hy] at a0 hand hor HST
          obtain ⟨z, hz⟩ : ∃ z, z = y &&& c := ⟨_, rfl⟩
          rw [← hz] at hand hor HST
          obtain ⟨u, hu⟩ : ∃ u, u = s2 ||| z := ⟨_, rfl⟩
          rw [← hu] at hor HST
          clear hc2 hadl2 hy hz hu
          obtain ⟨tb, htb⟩ : ∃ t, t = s2.testBit q := ⟨_, rfl⟩
          have HTB := Lib.hid htb
          rw [← htb] at HST
          clear htb
          go_wp2_with fail
          refine (rHas13_any s2 q _ hq64).mono ?_
          rintro e w4 ⟨rfl, rfl⟩
          rw [← HTB.out]
          cases tb
          · go_wp2_with fail
            go_roundw
            case rel => exact ⟨q + 1, by go_num, by omega, s2, rfl, Lib.hid ⟨by rw [HST.out]; rfl, HX.out⟩⟩
            case measure => simp [intOf]; omega
          · go_wp2_with fail
            go_roundw
            case rel => exact ⟨q + 1, by go_num, by omega, u, rfl, Lib.hid ⟨by rw [HST.out]; rfl, HX.out⟩⟩
            case measure => simp [intOf]; omega
        · obtain rfl : n = q := by omega
          have HST := Lib.hid (show (List.range (k + 1)).foldl (fun s _ => passP r c n s) s0 = s2 by rw [fold_snoc (f := fun s _ => passP r c n s), ← HSE.out, HSE2.out]; rfl)
          go_wp2_with fail
          go_roundw
          case rel => exact ⟨k + 1, by go_num, by omega, s2, rfl, Lib.hid ⟨HST.out.symm, HX.out⟩⟩
          case measure => simp [intOf]; omega
    · obtain rfl : n = k := by omega
      have HE := Lib.hid (show pathsN r c n a = s by rw [HSE.out, HS0.out]; rfl)
      go_wp2_with fail
      go_ret
      exact ⟨by rw [HE.out] <;> rfl, HX.out⟩
/-- The worlds from which all paths through a condition lead to a set. -/
def commonM (r : List Nat) (n c s : Nat) : Nat := maskN n fun i => subS (pathsN r c n i) s
set_option maxRecDepth 100000 in
set_option maxHeartbeats 8000000 in
theorem common17_any (v : Value) (r : List Nat) (n c s : Nat) (w : World) (h : U64s w v r) (hw : ∀ s ∈ r, word s) (hn : n ≤ 64) (hl : n ≤ r.length) (hc : word c) (hs : word s) :
    Calls Tryz.prog 146 #[v, .int .i64 (n : Int), .int .u64 (c : Int), .int .u64 (s : Int)] w fun e w' => e = .returned (.int .u64 ((commonM r n c s : Nat) : Int)) ∧ Ext w w' := by
  have H := Lib.hid h
  have HWD := Lib.hid hw
  have HS := Lib.hid hs
  have HC := Lib.hid hc
  obtain ⟨A, cp, rfl, _⟩ := h
  clear hw hs hc
  go_enter Tryz.func146, Tryz.ntmps146
  go_wp2_with fail
  go_loopw [9, 10] (fun vo vi wr => ∃ k : Nat, vi = .int .i64 (k : Int) ∧ k ≤ n ∧ vo = .int .u64 ((maskN k (fun i => subS (pathsN r c n i) s) : Nat) : Int) ∧ Hid (Ext w wr)) (fun _ v _ => n - (intOf v).toNat)
  case atStart => exact ⟨0, rfl, Nat.zero_le _, rfl, Lib.hid (Ext.refl _)⟩
  case round =>
    obtain ⟨k, rfl, hk, rfl, HX⟩ := hrel
    obtain ⟨m, hm⟩ : ∃ m, m = maskN k (fun i => subS (pathsN r c n i) s) := ⟨_, rfl⟩
    have HM := Lib.hid hm
    rw [← hm]
    clear hm
    by_cases hlt2 : k < n
    · have hk1 : (k : Int) < (n : Int) := by omega
      have hk64 : k < 64 := by omega
      have hmin : min k 64 = k := by omega
      have hz := dif_eq_zero (paths_word HWD.out c n k) HS.out
      have HSU := Lib.hid (mask_succ k (fun i => subS (pathsN r c n i) s))
      have HOR := Lib.hid (or_two (s := m) (k := k) (by rw [HM.out]; exact mask_word (by omega) _) hk64)
      obtain ⟨x, hx⟩ : ∃ x, x = pathsN r c n k := ⟨_, rfl⟩
      rw [← hx] at hz
      have HXE := Lib.hid hx
      clear hx
      go_wp2_with fail
      refine (paths_any _ r n k c _ (H.out.ext HX.out) HWD.out hn hl hlt2 HC.out).mono ?_
      rintro e w4 ⟨rfl, hx4⟩
      rw [← HXE.out]
      have HX4 := Lib.hid (HX.out.trans hx4)
      clear hx4
      cases hd : subS x s
      · rw [hd] at hz
        have HP := Lib.hid (show maskN (k + 1) (fun i => subS (pathsN r c n i) s) = m by rw [HSU.out, ← HXE.out, hd, HM.out]; rfl)
        clear hd
        go_wp2_with fail
        go_roundw
        case rel => exact ⟨k + 1, by go_num, by omega, by rw [HP.out], HX4⟩
        case measure => simp [intOf]; omega
      · rw [hd] at hz
        have HP := Lib.hid (show maskN (k + 1) (fun i => subS (pathsN r c n i) s) = m ||| 2 ^ k by rw [HSU.out, ← HXE.out, hd, HM.out]; rfl)
        have hor := HOR.out
        clear hd
        obtain ⟨m2, hm2⟩ : ∃ m2, m2 = m ||| 2 ^ k := ⟨_, rfl⟩
        rw [← hm2] at HP hor
        clear hm2
        go_wp2_with fail
        go_roundw
        case rel => exact ⟨k + 1, by go_num, by omega, by rw [HP.out], HX4⟩
        case measure => simp [intOf]; omega
    · obtain rfl : n = k := by omega
      go_wp2_with fail
      go_ret
      exact ⟨by rw [show commonM r n c s = m from HM.out.symm] <;> rfl, HX.out⟩
end Go.Proofs.YtbfeodammikajaaGreat

/- Rows of words that a call has made. -/

namespace Go.Proofs.YtbfeodammikajaaGreat
open Go.RowKit

theorem addr_nil (g k : Nat) : (⟨g, 0, none⟩ : Addr).add k = ⟨g, k, none⟩ := by unfold Addr.add; cases k <;> simp
def uV (l : List Nat) : List Value := l.map fun (u : Nat) => Value.int .u64 (u : Int)
theorem tInfoU8 : (Tryz.prog.info? 40).map (fun i => (i.zero, i.size, i.bytes)) = some (some (.int .u64 0), 1, 8) := by kernel_rfl
def MadeU (base : Nat) (w : World) (v : Value) (l : List Nat) : Prop := w.ownsRow base 40 1 v l.length (uV l)
section
variable {base : Nat} {w w' : World} {v : Value} {l : List Nat} {g n cap k : Nat}
theorem MadeU.ext (h : MadeU base w v l) (he : Ext w w') : MadeU base w' v l := row_ext h he
theorem MadeU.nil (base : Nat) (w : World) : MadeU base w (.slice none 0 0) [] := World.ownsRow_nil _ _ _ _
theorem MadeU.slice (h : MadeU base w v l) (h0 : 0 < l.length) : ∃ g cap, v = .slice (some ⟨g, 0, none⟩) l.length cap ∧ g < w.heap.size ∧ base ≤ g ∧ l.length ≤ cap ∧ cap ≤ maxLen ∧ (∀ i, i < l.length → w.cell? ⟨g, i, none⟩ = some (.int .u64 ((l.getD i 0 : Nat) : Int))) ∧ ∀ i, w.frozen? ⟨g, i, none⟩ = false := by
  rcases h.2 with ⟨_, e0⟩ | ⟨g, cap, cur, rfl, hb, hg, hnc, hm, hs, ht⟩
  · omega
  · refine ⟨g, cap, rfl, lt_heap hg, hb, hnc, hm, fun i hi => ?_, fun i => by simp [World.frozen?, hg]⟩
    have h1 : (uV l)[i]? = some (.int .u64 ((l.getD i 0 : Nat) : Int)) := by
      unfold uV
      rw [List.getElem?_map, List.getD_eq_getElem?_getD, List.getElem?_eq_getElem hi]; rfl
    rw [← ht, List.getElem?_take] at h1
    split at h1
    · have h2 : cur[i]? = some (.int .u64 ((l.getD i 0 : Nat) : Int)) := by simpa using h1
      simp [World.cell?, hg, h2]
    · cases h1
theorem MadeU.at_ (h : MadeU base w (.slice (some ⟨g, 0, none⟩) n cap) l) (h0 : 0 < l.length) : n = l.length ∧ g < w.heap.size ∧ base ≤ g ∧ n ≤ cap ∧ cap ≤ maxLen ∧ (∀ i, i < l.length → w.cell? ⟨g, i, none⟩ = some (.int .u64 ((l.getD i 0 : Nat) : Int))) ∧ ∀ i, w.frozen? ⟨g, i, none⟩ = false := by
  obtain ⟨g', cap', e, h1, h2, h3, h4, h5, h6⟩ := h.slice h0
  injection e with e1 e2 e3
  injection e1 with e1
  injection e1 with e1
  subst e1 e2 e3
  exact ⟨rfl, h1, h2, h3, h4, h5, h6⟩
theorem MadeU.u64s (h : MadeU base w v l) : U64s w v l := by
  rcases Nat.eq_zero_or_pos l.length with h0 | h0
  · have : l = [] := List.length_eq_zero_iff.1 h0
    subst this
    rcases h.2 with ⟨e, _⟩ | ⟨g, cap, cur, rfl, hb, hg, hnc, hm, hs, ht⟩
    · subst e
      exact u64s_nil w
    · exact ⟨_, cap, rfl, hnc, hm, fun h => absurd rfl h⟩
  · obtain ⟨g, cap, rfl, h1, _, h3, h4, h5, _⟩ := h.slice h0
    refine ⟨_, cap, rfl, h3, h4, fun _ => ⟨_, rfl, h1, fun k z hk => ?_⟩⟩
    have hk' := (List.getElem?_eq_some_iff.1 hk).1
    have := h5 k hk'
    rw [addr_nil, this, List.getD_eq_getElem?_getD, hk]
    rfl
theorem MadeU.set (h : MadeU base w (.slice (some ⟨g, 0, none⟩) n cap) l) (hn : l.length = n) (j s : Nat) : MadeU base (w.setCell ⟨g, j, none⟩ (.int .u64 (s : Int))) (.slice (some ⟨g, 0, none⟩) n cap) (l.set j s) := by
  subst hn
  have h1 := (World.ownsRow.stored h j (.int .u64 (s : Int))).1
  unfold MadeU uV
  rw [List.length_set, List.map_set]
  exact h1
theorem row_empty (w : World) (t : TypeId) : (w.alloc (.cells #[] t)).ownsRow w.heap.size t 1 (.slice (some ⟨w.heap.size, 0, none⟩) 0 0) 0 [] :=
  ⟨rfl, .inr ⟨w.heap.size, 0, #[], rfl, Nat.le_refl _, heap_alloc_new _ _, Nat.le_refl _, by unfold maxLen; omega, rfl, rfl⟩⟩
theorem row_of_u64 {ad : Addr} (h : ∀ i, i < l.length → w.cell? (ad.add i) = some (.int .u64 ((l.getD i 0 : Nat) : Int))) : ∀ (j : Nat) u, (uV l)[j]? = some u → w.cell? (ad.add j) = some u := fun j u hj => by
  unfold uV at hj
  rw [List.getElem?_map] at hj
  cases e : l[j]? with
  | none => rw [e] at hj; cases hj
  | some x =>
    rw [e] at hj
    have hk := (List.getElem?_eq_some_iff.1 e).1
    rw [h j hk, List.getD_eq_getElem?_getD, e]
    exact hj
theorem uv_one (l : List Nat) : ∀ u ∈ uV l, u.oneCell' = true := fun u hu => by
  obtain ⟨x, _, rfl⟩ := List.mem_map.1 hu
  rfl
theorem uv_len (l : List Nat) : (uV l).length = l.length := by simp [uV]
end
end Go.Proofs.YtbfeodammikajaaGreat

/- Transitive and euclidean relations as words: what the reference's grow stands on. -/

namespace Go.Proofs.YtbfeodammikajaaGreat
open Go.RowKit

/-- What a pair of worlds asks: the place that must hold what is added. -/
def atG (eu : Bool) (w u : Nat) : Nat := bif eu then u else w
def addG (eu : Bool) (out : List Nat) (w u : Nat) : Nat := bif eu then out.getD w 0 else out.getD u 0
def condG (eu : Bool) (out : List Nat) (w u : Nat) : Prop := (out.getD w 0).testBit u = true → subS (addG eu out w u) (out.getD (atG eu w u) 0) = true
def closedG (eu : Bool) (out : List Nat) : Prop := ∀ w u, w < out.length → u < out.length → condG eu out w u
def zerosG (n : Nat) (out : List Nat) : Nat := (List.range (n * n)).countP fun k => !(out.getD (k / n) 0).testBit (k % n)
/-- The words stay below 2 ^ n and grow. -/
structure GrwI (eu : Bool) (r out : List Nat) (n : Nat) : Prop where
  len : out.length = n
  lt : ∀ i, i < n → out.getD i 0 < 2 ^ n
  same : closedG eu r → out = r
theorem or_sub {a b : Nat} : (a ||| b) = a ↔ subS b a = true := by
  rw [subS_iff]
  constructor
  · intro h i hi
    rw [← h, Nat.testBit_or, hi, Bool.or_true]
  · intro h
    refine Nat.eq_of_testBit_eq fun i => ?_
    rw [Nat.testBit_or]
    cases e : b.testBit i
    · rw [Bool.or_false]
    · rw [h i e]; rfl
theorem countP_ltG {α : Type} {p q : α → Bool} : ∀ {l : List α}, (∀ x ∈ l, q x = true → p x = true) → (∃ x ∈ l, p x = true ∧ q x = false) → l.countP q < l.countP p
  | [], _, h => by obtain ⟨x, hx, _⟩ := h; cases hx
  | a :: l, h, hx => by
    have hle : l.countP q ≤ l.countP p := List.countP_mono_left fun x hx => h x (List.mem_cons_of_mem _ hx)
    rw [List.countP_cons, List.countP_cons]
    obtain ⟨x, hm, h1, h2⟩ := hx
    rcases List.mem_cons.1 hm with rfl | hm
    · rw [h1, h2]
      simp
      omega
    · have ih := countP_ltG (l := l) (fun x hx => h x (List.mem_cons_of_mem _ hx)) ⟨x, hm, h1, h2⟩
      have h3 := h a (List.mem_cons_self ..)
      cases e : q a
      · cases p a <;> simp <;> omega
      · rw [h3 e]; simp; omega
section
variable {eu : Bool} {r out : List Nat} {n : Nat}
theorem getD_set {l : List Nat} {i j x : Nat} (hi : i < l.length) : (l.set i x).getD j 0 = if i = j then x else l.getD j 0 := by
  rw [List.getD_eq_getElem?_getD, List.getElem?_set]
  by_cases e : i = j
  · subst e; simp [hi]
  · rw [if_neg e, if_neg e, ← List.getD_eq_getElem?_getD]
theorem GrwI.start (hl : r.length = n) (hb : beyondN r n = false) : GrwI eu r r n := by
  refine ⟨hl, fun i hi => ?_, fun _ => rfl⟩
  unfold beyondN at hb
  rw [List.any_eq_false] at hb
  have h1 := hb (r.getD i 0) (by rw [List.getD_eq_getElem?_getD, List.getElem?_eq_getElem (by omega)]; exact List.getElem_mem _)
  simpa using h1
theorem GrwI.at_lt (_h : GrwI eu r out n) {w u : Nat} (hw : w < n) (hu : u < n) : atG eu w u < n := by
  unfold atG; cases eu
  · exact hw
  · exact hu
theorem GrwI.add_lt (h : GrwI eu r out n) {w u : Nat} (hw : w < n) (hu : u < n) : addG eu out w u < 2 ^ n := by
  unfold addG; cases eu
  · exact h.lt u hu
  · exact h.lt w hw
/-- Something is added. -/
theorem GrwI.step (h : GrwI eu r out n) {w u : Nat} (hw : w < n) (hu : u < n) (hb : (out.getD w 0).testBit u = true) (hne : (out.getD (atG eu w u) 0 ||| addG eu out w u) ≠ out.getD (atG eu w u) 0) :
    GrwI eu r (out.set (atG eu w u) (out.getD (atG eu w u) 0 ||| addG eu out w u)) n ∧ zerosG n (out.set (atG eu w u) (out.getD (atG eu w u) 0 ||| addG eu out w u)) < zerosG n out := by
  have ha := h.at_lt hw hu
  have hal : atG eu w u < out.length := by rw [h.len]; exact ha
  refine ⟨⟨by rw [List.length_set]; exact h.len, fun i hi => ?_, fun hc => ?_⟩, ?_⟩
  · rw [getD_set hal]
    split
    · exact Nat.or_lt_two_pow (h.lt _ ha) (h.add_lt hw hu)
    · exact h.lt i hi
  · exfalso
    have e := h.same hc
    subst e
    exact hne (or_sub.2 (hc w u (by rw [h.len]; exact hw) (by rw [h.len]; exact hu) hb))
  · have hnn : 0 < n := by omega
    obtain ⟨j, hj1, hj2⟩ : ∃ j, (addG eu out w u).testBit j = true ∧ (out.getD (atG eu w u) 0).testBit j = false := by
      apply Classical.byContradiction
      intro hno
      refine hne (or_sub.2 (subS_iff.2 fun i hi => ?_))
      cases e : (out.getD (atG eu w u) 0).testBit i
      · exact absurd ⟨i, hi, e⟩ hno
      · rfl
    have hjn := bit_lt (h.add_lt hw hu) hj1
    unfold zerosG
    refine countP_ltG (fun k hk hq => ?_) ⟨atG eu w u * n + j, ?_, ?_, ?_⟩
    · rw [getD_set hal] at hq
      split at hq
      · rename_i e
        rw [← e]
        rw [Nat.testBit_or] at hq
        revert hq
        cases (out.getD (atG eu w u) 0).testBit (k % n) <;> simp
      · exact hq
    · rw [List.mem_range]
      calc atG eu w u * n + j < atG eu w u * n + n := by omega
        _ = (atG eu w u + 1) * n := by rw [Nat.succ_mul]
        _ ≤ n * n := Nat.mul_le_mul_right n ha
    · rw [Nat.mul_comm, Nat.mul_add_div hnn, Nat.div_eq_of_lt hjn, Nat.add_zero, Nat.mul_add_mod, Nat.mod_eq_of_lt hjn, hj2]
      rfl
    · rw [Nat.mul_comm, Nat.mul_add_div hnn, Nat.div_eq_of_lt hjn, Nat.add_zero, Nat.mul_add_mod, Nat.mod_eq_of_lt hjn, getD_set hal, if_pos rfl, Nat.testBit_or, hj1, Bool.or_true]
      rfl
/-- Nothing is added. -/
theorem cond_keep {w u : Nat} (h : (out.getD (atG eu w u) 0 ||| addG eu out w u) = out.getD (atG eu w u) 0) : condG eu out w u := fun _ => or_sub.1 h
theorem cond_no {w u : Nat} (h : (out.getD w 0).testBit u = false) : condG eu out w u := fun e => by rw [h] at e; cases e
/-- At the end: the relation is left as it was exactly if it has the property. -/
theorem GrwI.done (h : GrwI eu r out n) (hl : r.length = n) (hc : ∀ w, w < n → ∀ u, u < n → condG eu out w u) : out = r ↔ closedG eu r := by
  constructor
  · rintro rfl w u hw hu
    rw [hl] at hw hu
    exact hc w hw u hu
  · exact h.same
end
end Go.Proofs.YtbfeodammikajaaGreat

/- The reference's Same, Reflexive, Transitive and Euclidean of relations. -/

namespace Go.Proofs.YtbfeodammikajaaGreat
open Go.RowKit

theorem same_list {a b : List Nat} (hl : a.length = b.length) (h : ∀ k, k < a.length → a.getD k 0 = b.getD k 0) : a = b := by
  refine List.ext_getElem hl fun i h1 h2 => ?_
  have := h i h1
  rw [List.getD_eq_getElem?_getD, List.getD_eq_getElem?_getD, List.getElem?_eq_getElem h1, List.getElem?_eq_getElem h2] at this
  exact this
set_option maxRecDepth 100000 in
set_option maxHeartbeats 8000000 in
theorem same02_any (va vb : Value) (a b : List Nat) (w : World) (ha : U64s w va a) (hb : U64s w vb b) :
    Calls Tryz.prog 141 #[va, vb] w fun e w' => e = .returned (.bool (decide (a = b))) ∧ Ext w w' := by
  obtain ⟨Aa, ca, rfl, hca1, hca2, HA⟩ := u64_at ha
  unfold maxLen at hca2
  obtain ⟨Ab, cb, rfl, _, _, HB⟩ := u64_at hb
  clear ha hb
  by_cases hl : a.length = b.length
  · have HL := Lib.hid hl
    obtain ⟨n, hn⟩ : ∃ n, n = a.length := ⟨_, rfl⟩
    have HNA := Lib.hid hn
    rw [← hn] at hl HA hca1 ⊢
    rw [← hl] at HB ⊢
    have hnn : ((n : Int) != (n : Int)) = false := by simp
    clear hn hl
    go_enter Tryz.func141, Tryz.ntmps141
    go_wp2_with fail
    go_loopw [5] (fun v wr => ∃ k : Nat, v = .int .i64 (k : Int) ∧ k ≤ n ∧ Hid (Ext w wr ∧ ∀ j, j < k → a.getD j 0 = b.getD j 0)) (fun v _ => n - (intOf v).toNat)
    case atStart => exact ⟨0, rfl, Nat.zero_le _, Lib.hid ⟨Ext.refl _, fun j hj => absurd hj (by omega)⟩⟩
    case round =>
      obtain ⟨k, rfl, hk, HREL⟩ := hrel
      have HX := Lib.hid HREL.out.1
      have HJ := Lib.hid HREL.out.2
      clear HREL
      by_cases hlt2 : k < n
      · have hk1 : (k : Int) < (n : Int) := by omega
        obtain ⟨ad, rfl, hadl, hc⟩ := HA.out k hlt2
        obtain ⟨bd, rfl, hbdl, hd⟩ := HB.out k hlt2
        have a0 := (HX.out.cell (p := ad.add k) (by rw [block_of_add]; exact hadl)).trans hc
        have al : (ad.add k).block < wr.heap.size := by rw [block_of_add]; exact Nat.lt_of_lt_of_le hadl HX.out.size
        have b0 := (HX.out.cell (p := bd.add k) (by rw [block_of_add]; exact hbdl)).trans hd
        have bl : (bd.add k).block < wr.heap.size := by rw [block_of_add]; exact Nat.lt_of_lt_of_le hbdl HX.out.size
        have HNX := Lib.hid (show a.getD k 0 = b.getD k 0 → ∀ j, j < k + 1 → a.getD j 0 = b.getD j 0 from fun h => upto2 (P := fun j => a.getD j 0 = b.getD j 0) HJ.out h)
        have HHT := Lib.hid (show a.getD k 0 ≠ b.getD k 0 → decide (a = b) = false from fun h => decide_eq_false fun e => h (by rw [e]))
        obtain ⟨x, hx⟩ : ∃ x, x = a.getD k 0 := ⟨_, rfl⟩
        obtain ⟨y, hy⟩ : ∃ y, y = b.getD k 0 := ⟨_, rfl⟩
        rw [← hx] at a0 HNX HHT
        rw [← hy] at b0 HNX HHT
        clear hc hd hx hy
        go_upto_region 6 with (fail)
        by_cases hq : x = y
        · have HP := Lib.hid (HNX.out hq)
          have hne : ((x : Int) != (y : Int)) = false := by rw [hq]; simp
          clear hq
          refine wp_region_held_drew (S := fun w' => w'.cell? (ad.add k) = some (.int .u64 (x : Int)) ∧ w'.cell? (bd.add k) = some (.int .u64 (y : Int))) (by kernel_rfl) ⟨xc al a0, xc bl b0⟩ (fun hHeld => ?_)
          refine tk 0 hHeld ?_
          refine tk 1 hHeld ?_
          refine tk 2 hHeld ?_
          refine tk 3 hHeld ?_
          refine tk 4 hHeld ?_
          refine tk 5 hHeld ?_
          refine tk 6 hHeld ?_
          refine tk 7 hHeld ?_
          refine tk 8 hHeld ?_
          refine wpAnyH_done (by kernel_rfl) ?_ _
          go_wp2_with fail
          go_roundw
          case rel => exact ⟨k + 1, by go_num, by omega, Lib.hid ⟨HX.out.trans (Ext.refl _).drew, HP.out⟩⟩
          case measure => simp [intOf]; omega
        · have HE := Lib.hid (HHT.out hq)
          have hne : ((x : Int) != (y : Int)) = true := by simp; omega
          clear hq
          refine wp_region_held_drew (S := fun w' => w'.cell? (ad.add k) = some (.int .u64 (x : Int)) ∧ w'.cell? (bd.add k) = some (.int .u64 (y : Int))) (by kernel_rfl) ⟨xc al a0, xc bl b0⟩ (fun hHeld => ?_)
          refine tk 0 hHeld ?_
          refine tk 1 hHeld ?_
          refine tk 2 hHeld ?_
          refine tk 3 hHeld ?_
          refine tk 4 hHeld ?_
          refine tk 5 hHeld ?_
          refine tk 6 hHeld ?_
          refine tk 7 hHeld ?_
          refine tk 8 hHeld ?_
          refine wpAnyH_done (by kernel_rfl) ?_ _
          go_wp2_with fail
          go_ret
          exact ⟨by rw [HE.out] <;> rfl, HX.out.trans (Ext.refl _).drew⟩
      · obtain rfl : n = k := by omega
        have HE := Lib.hid (show decide (a = b) = true from decide_eq_true (same_list HL.out (by rw [← HNA.out]; exact HJ.out)))
        go_wp2_with fail
        go_ret
        exact ⟨by rw [HE.out] <;> rfl, HX.out⟩
  · have hne : ((a.length : Int) != (b.length : Int)) = true := by simp; omega
    have HE := Lib.hid (show decide (a = b) = false from decide_eq_false fun e => hl (by rw [e]))
    go_enter Tryz.func141, Tryz.ntmps141
    go_wp2_with fail
    go_ret
    exact ⟨by rw [HE.out] <;> rfl, Ext.refl _⟩
def reflK (l : List Nat) (k : Nat) : List Nat := (List.range l.length).map fun i => if i < k then l.getD i 0 ||| 2 ^ i else l.getD i 0
theorem reflK_zero (l : List Nat) : reflK l 0 = l := by
  refine List.ext_getElem (by simp [reflK]) fun i h1 h2 => ?_
  simp [reflK, h2]
theorem reflK_len (l : List Nat) (k : Nat) : (reflK l k).length = l.length := by simp [reflK]
theorem reflK_get {l : List Nat} {k i : Nat} (hi : i < l.length) : (reflK l k).getD i 0 = if i < k then l.getD i 0 ||| 2 ^ i else l.getD i 0 := by
  unfold reflK
  rw [List.getD_eq_getElem?_getD, List.getElem?_map, List.getElem?_range hi]
  rfl
theorem reflK_step {l : List Nat} {k : Nat} (hk : k < l.length) : (reflK l k).set k (l.getD k 0 ||| 2 ^ k) = reflK l (k + 1) := by
  refine same_list (by rw [List.length_set, reflK_len, reflK_len]) fun i hi => ?_
  rw [List.length_set, reflK_len] at hi
  rw [getD_set (by rw [reflK_len]; exact hk), reflK_get hi, reflK_get hi]
  by_cases e : k = i
  · subst e
    rw [if_pos rfl, if_pos (Nat.lt_succ_self _)]
  · rw [if_neg e]
    by_cases h : i < k
    · rw [if_pos h, if_pos (show i < k + 1 by omega)]
    · rw [if_neg h, if_neg (show ¬ i < k + 1 by omega)]
/-- Every world sees itself. -/
def reflP (l : List Nat) : Prop := ∀ i, i < l.length → (l.getD i 0).testBit i = true
theorem refl_same {l : List Nat} : reflK l l.length = l ↔ reflP l := by
  constructor
  · intro h i hi
    have h1 := reflK_get (k := l.length) hi
    rw [h, if_pos hi] at h1
    have := (or_sub.1 h1.symm)
    rw [subS_iff] at this
    exact this i (by rw [Nat.testBit_two_pow]; simp)
  · intro h
    refine same_list (reflK_len _ _) fun i hi => ?_
    rw [reflK_len] at hi
    rw [reflK_get hi, if_pos hi, or_sub, subS_iff]
    intro j hj
    rw [Nat.testBit_two_pow] at hj
    have : i = j := by simpa using hj
    rw [← this]
    exact h i hi
set_option maxRecDepth 100000 in
set_option maxHeartbeats 8000000 in
theorem reflexive02_any (v : Value) (l : List Nat) (w : World) (h : U64s w v l) (hw : ∀ s ∈ l, word s) (hv : valid02 l = true) (h0 : 0 < l.length) :
    Calls Tryz.prog 137 #[v] w fun e w' => ∃ u, e = .returned (.tuple #[u, .int .i64 0]) ∧ Ext w w' ∧ MadeU w.heap.size w' u (reflK l l.length) := by
  have H := Lib.hid h
  have HW := Lib.hid hw
  have hl64 := (valid_iff.1 hv).1
  have HV := Lib.hid (show check02 l.length l = 0 by unfold valid02 at hv; simpa using hv)
  obtain ⟨A, c, rfl, _, _, HL⟩ := u64_at h
  obtain ⟨iU, hiU, hzU0, hzU1, hzU2⟩ := info_parts tInfoU8
  clear h hw hv
  go_enter Tryz.func137, Tryz.ntmps137
  go_wp2_with fail
  refine (check02_any _ l _ H.out HW.out).mono ?_
  rintro e w2 ⟨rfl, hx2⟩
  rw [HV.out]
  have HX2 := Lib.hid hx2
  clear hx2
  obtain ⟨ad, rfl, hadl, _⟩ := HL.out 0 h0
  have HNEW := Lib.hid (show ∀ (j : Nat) u, (uV l)[j]? = some u → (w2.alloc (.cells #[] 40)).cell? (ad.add j) = some u from row_of_u64 fun i hi => by
    obtain ⟨ad2, e, _, hc⟩ := HL.out i hi
    injection e with e
    subst e
    exact ((HX2.out.alloc _).cell (p := ad.add i) (by rw [block_of_add]; exact hadl)).trans hc)
  have HRE := Lib.hid (row_empty w2 40)
  obtain ⟨n, hn⟩ : ∃ n, n = l.length := ⟨_, rfl⟩
  have HN := Lib.hid hn
  rw [← hn] at hl64 h0 ⊢
  have hm1 : 0 + n ≤ maxLen := by unfold maxLen; omega
  have hm2 : (0 + n) * 8 ≤ 140737488355328 := by omega
  clear hn
  go_wp2_with (at_builtin; refine wpList_append_own_at _ rfl _ _ 27 rfl w2.heap.size 40 iU (.int .u64 0) 1 8 Tryz.underlying27 hiU hzU0 hzU1 hzU2 rfl (by decide) _ 0 [] rfl HRE.out ad n c (uV l) rfl (by rw [uv_len, Nat.mul_one]; exact HN.out.symm) HNEW.out (uv_one l) hm1 hm2 (by simp) ?_)
  intro v3 w3 hown3 hgrow3 _ _
  have HX3 := Lib.hid (show Ext w w3 from (HX2.out.alloc _).grown hgrow3 (fun k hk => by have h1 := HX2.out.size; have h2 : w2.heap.size = k := Option.some.inj hk; omega))
  have HM := Lib.hid (show MadeU w.heap.size w3 v3 l by
    unfold MadeU
    rw [← HN.out]
    exact row_base hown3 HX2.out.size)
  clear hown3 hgrow3
  obtain ⟨g, cap, rfl, hgl, hgb, _, hcm, _, _⟩ := HM.out.slice (by rw [← HN.out]; exact h0)
  rw [← HN.out] at HM ⊢
  clear hgl
  go_wp2_with fail
  go_loopw [6] (fun v wr => ∃ k : Nat, v = .int .i64 (k : Int) ∧ k ≤ n ∧ Hid (Ext w wr ∧ MadeU w.heap.size wr (.slice (some ⟨g, 0, none⟩) n cap) (reflK l k))) (fun v _ => n - (intOf v).toNat)
  case atStart => exact ⟨0, rfl, Nat.zero_le _, Lib.hid ⟨HX3.out, by rw [reflK_zero]; exact HM.out⟩⟩
  case round =>
    obtain ⟨k, rfl, hk, HREL⟩ := hrel
    have HX := Lib.hid HREL.out.1
    have HR := Lib.hid HREL.out.2
    clear HREL
    by_cases hlt2 : k < n
    · have hk1 : (k : Int) < (n : Int) := by omega
      have hk64 : k < 64 := by omega
      have hmin : min k 64 = k := by omega
      obtain ⟨_, gl, _, _, _, hcell, hfr⟩ := HR.out.at_ (by rw [reflK_len, ← HN.out]; exact h0)
      have gc := hcell k (by rw [reflK_len, ← HN.out]; exact hlt2)
      have gf := hfr k
      rw [reflK_get (by rw [← HN.out]; exact hlt2), if_neg (Nat.lt_irrefl _)] at gc
      obtain ⟨y, hy⟩ : ∃ y, y = l.getD k 0 ||| 2 ^ k := ⟨_, rfl⟩
      have hor : bits .or .u64 ((l.getD k 0 : Nat) : Int) (IntKind.u64.wrap ((2 : Int) ^ k)) = (y : Int) := by
        rw [wrap_two hk64, hy]
        exact bits_or (getD_word HW.out k) (Nat.lt_of_lt_of_le (Nat.pow_lt_pow_right (by decide) (Nat.lt_succ_self k)) (two64 (show k + 1 ≤ 64 by omega)))
      have HST := Lib.hid (show MadeU w.heap.size (wr.setCell ⟨g, k, none⟩ (.int .u64 (y : Int))) (.slice (some ⟨g, 0, none⟩) n cap) (reflK l (k + 1)) by
        rw [← reflK_step (by rw [← HN.out]; exact hlt2), ← hy]
        exact HR.out.set (by rw [reflK_len]; exact HN.out.symm) k y)
      obtain ⟨x, hx⟩ : ∃ x, x = l.getD k 0 := ⟨_, rfl⟩
      rw [← hx] at gc hor
      clear hcell hfr hx hy
      go_wp2_with fail
      go_roundw
      case rel => exact ⟨k + 1, by go_num, by omega, Lib.hid ⟨HX.out.setCell (p := ⟨g, k, none⟩) hgb _, HST.out⟩⟩
      case measure => simp [intOf]; omega
    · obtain rfl : n = k := by omega
      go_wp2_with fail
      go_ret2
      exact ⟨_, rfl, HX.out, by rw [← HN.out]; exact HR.out⟩
end Go.Proofs.YtbfeodammikajaaGreat

/- The reference's Transitive and Euclidean of relations. -/

namespace Go.Proofs.YtbfeodammikajaaGreat
open Go.RowKit

def zerosW (w : World) (g n : Nat) : Nat := (List.range (n * n)).countP fun k => match w.cell? ⟨g, k / n, none⟩ with | some (.int _ z) => !z.toNat.testBit (k % n) | _ => true
def flagB (v : Value) : Nat := match v with | .bool true => 1 | _ => 0
theorem zerosW_row {bs g n cap : Nat} {w : World} {l : List Nat} (h : MadeU bs w (.slice (some ⟨g, 0, none⟩) n cap) l) (h0 : 0 < l.length) : zerosW w g n = zerosG n l := by
  obtain ⟨hn, _, _, _, _, hc, _⟩ := h.at_ h0
  unfold zerosW zerosG
  refine List.countP_congr fun k hk => ?_
  have hk2 : k / n < l.length := by
    rw [← hn]
    have := List.mem_range.1 hk
    exact Nat.div_lt_of_lt_mul this
  rw [hc _ hk2]
  show (!((l.getD (k / n) 0 : Nat) : Int).toNat.testBit (k % n)) = true ↔ _
  rw [Int.toNat_natCast]
/-- The state of a pass. -/
structure GwS (eu : Bool) (w wr : World) (g cap n : Nat) (r out : List Nat) : Prop where
  ext : Ext w wr
  row : MadeU w.heap.size wr (.slice (some ⟨g, 0, none⟩) n cap) out
  grw : GrwI eu r out n
set_option maxRecDepth 100000 in
set_option maxHeartbeats 32000000 in
theorem grow_any (eu : Bool) (v : Value) (r : List Nat) (w : World) (h : U64s w v r) (hl64 : r.length ≤ 64) (hb : beyondN r r.length = false) (h0 : 0 < r.length) :
    Calls Tryz.prog 160 #[v, .bool eu] w fun e w' => ∃ u, e = .returned u ∧ Ext w w' ∧ ∃ out, MadeU w.heap.size w' u out ∧ (out = r ↔ closedG eu r) := by
  obtain ⟨A, c, rfl, _, _, HL⟩ := u64_at h
  obtain ⟨iU, hiU, hzU0, hzU1, hzU2⟩ := info_parts tInfoU8
  clear h
  obtain ⟨ad, rfl, hadl, _⟩ := HL.out 0 h0
  have HNEW := Lib.hid (show ∀ (j : Nat) u, (uV r)[j]? = some u → (w.alloc (.cells #[] 40)).cell? (ad.add j) = some u from row_of_u64 fun i hi => by
    obtain ⟨ad2, e, _, hc⟩ := HL.out i hi
    injection e with e
    subst e
    exact (((Ext.refl w).alloc _).cell (p := ad.add i) (by rw [block_of_add]; exact hadl)).trans hc)
  have HRE := Lib.hid (row_empty w 40)
  have HG0 := Lib.hid (GrwI.start (eu := eu) (r := r) rfl hb)
  obtain ⟨n, hn⟩ : ∃ n, n = r.length := ⟨_, rfl⟩
  have HN := Lib.hid hn
  rw [← hn] at hl64 h0 HG0 ⊢
  have hm1 : 0 + n ≤ maxLen := by unfold maxLen; omega
  have hm2 : (0 + n) * 8 ≤ 140737488355328 := by omega
  clear hn hb
  go_enter Tryz.func160, Tryz.ntmps160
  go_wp2_with (at_builtin; refine wpList_append_own_at _ rfl _ _ 27 rfl w.heap.size 40 iU (.int .u64 0) 1 8 Tryz.underlying27 hiU hzU0 hzU1 hzU2 rfl (by decide) _ 0 [] rfl HRE.out ad n c (uV r) rfl (by rw [uv_len, Nat.mul_one]; exact HN.out.symm) HNEW.out (uv_one r) hm1 hm2 (by simp) ?_)
  intro v3 w3 hown3 hgrow3 _ _
  have HX3 := Lib.hid (show Ext w w3 from ((Ext.refl w).alloc _).grown hgrow3 (fun k hk => by have h2 : w.heap.size = k := Option.some.inj hk; omega))
  have HM := Lib.hid (show MadeU w.heap.size w3 v3 r by
    unfold MadeU
    rw [← HN.out]
    exact hown3)
  clear hown3 hgrow3
  obtain ⟨g, cap, rfl, hgl, hgb, _, hcm, _, _⟩ := HM.out.slice (by rw [← HN.out]; exact h0)
  rw [← HN.out] at HM ⊢
  have HS0 := Lib.hid (show GwS eu w w3 g cap n r r from ⟨HX3.out, HM.out, HG0.out⟩)
  have hn62 : n ≤ 64 := hl64
  clear hgl HM HX3 HG0
  go_wp2_with fail
  go_loopw [6] (fun vc wr => ∃ fl : Bool, vc = .bool fl ∧ Hid (∃ out, GwS eu w wr g cap n r out ∧ (fl = false → ∀ a, a < n → ∀ b, b < n → condG eu out a b))) (fun vc wr => 2 * zerosW wr g n + flagB vc)
  case atStart => exact ⟨true, rfl, Lib.hid ⟨r, HS0.out, fun e => by cases e⟩⟩
  case round =>
    clear HS0
    obtain ⟨fl, rfl, HREL⟩ := hrel
    obtain ⟨out0, hs0, hc0⟩ := HREL.out
    have HS0 := Lib.hid hs0
    have HC0 := Lib.hid hc0
    clear HREL hs0 hc0
    cases fl
    · have HD := Lib.hid (HS0.out.grw.done HN.out.symm (HC0.out (by trivial)))
      go_wp2_with fail
      go_ret
      first
      | exact ⟨_, rfl, HS0.out.ext, out0, HS0.out.row, HD.out⟩
      | exact ⟨HS0.out.ext, out0, HS0.out.row, HD.out⟩
    · have HZ0 := Lib.hid (zerosW_row HS0.out.row (by rw [HS0.out.grw.len]; exact h0))
      obtain ⟨wp, hwp⟩ : ∃ v, v = wr := ⟨_, rfl⟩
      subst hwp
      go_wp2_with fail
      go_loopw [6, 7] (fun vc vi wr => ∃ a : Nat, vi = .int .i64 (a : Int) ∧ a ≤ n ∧ ∃ fl : Bool, vc = .bool fl ∧ Hid (∃ out, GwS eu w wr g cap n r out ∧ (fl = false → ∀ a', a' < a → ∀ b, b < n → condG eu out a' b) ∧ zerosG n out ≤ zerosG n out0 ∧ (fl = true → zerosG n out < zerosG n out0))) (fun _ vi _ => n - (intOf vi).toNat)
      case atStart => exact ⟨0, rfl, Nat.zero_le _, false, rfl, Lib.hid ⟨out0, HS0.out, (fun _ a' ha' => absurd ha' (by omega)), Nat.le_refl _, fun e => by cases e⟩⟩
      case round =>
        obtain ⟨a, rfl, ha, fl, rfl, HREL⟩ := hrel
        by_cases hlt2 : a < n
        · have hk1 : (a : Int) < (n : Int) := by omega
          obtain ⟨wq, hwq⟩ : ∃ v, v = wr := ⟨_, rfl⟩
          subst hwq
          go_wp2_with fail
          go_loopw [6, 8] (fun vc vi wr => ∃ b : Nat, vi = .int .i64 (b : Int) ∧ b ≤ n ∧ ∃ fl : Bool, vc = .bool fl ∧ Hid (∃ out, GwS eu w wr g cap n r out ∧ (fl = false → (∀ a', a' < a → ∀ b, b < n → condG eu out a' b) ∧ ∀ b', b' < b → condG eu out a b') ∧ zerosG n out ≤ zerosG n out0 ∧ (fl = true → zerosG n out < zerosG n out0))) (fun _ vi _ => n - (intOf vi).toNat)
          case atStart =>
            obtain ⟨out, h1, h2, h3, h4⟩ := HREL.out
            exact ⟨0, rfl, Nat.zero_le _, fl, rfl, Lib.hid ⟨out, h1, fun e => ⟨h2 e, fun b' hb' => absurd hb' (by omega)⟩, h3, h4⟩⟩
          case round =>
            clear HREL
            obtain ⟨b, rfl, hb, fl, rfl, HREL⟩ := hrel
            obtain ⟨out, hs, hcd, hz1, hz2⟩ := HREL.out
            have HS := Lib.hid hs
            have HCD := Lib.hid hcd
            have HZ1 := Lib.hid hz1
            have HZ2 := Lib.hid hz2
            clear HREL hs hcd hz1 hz2
            by_cases hlt3 : b < n
            · have hk2 : (b : Int) < (n : Int) := by omega
              have hb64 : b < 64 := by omega
              obtain ⟨-, gl, -, -, -, hcell, hfr⟩ := HS.out.row.at_ (by rw [HS.out.grw.len]; exact h0)
              have ca := hcell a (by rw [HS.out.grw.len]; exact hlt2)
              have cb := hcell b (by rw [HS.out.grw.len]; exact hlt3)
              have HFR := Lib.hid hfr
              have HWA := Lib.hid (show word (out.getD a 0) from Nat.lt_of_lt_of_le (HS.out.grw.lt a hlt2) (two64 hn62))
              have HWB := Lib.hid (show word (out.getD b 0) from Nat.lt_of_lt_of_le (HS.out.grw.lt b hlt3) (two64 hn62))
              have HNX := Lib.hid (show condG eu out a b → ∀ fl : Bool, (fl = false → (∀ a', a' < a → ∀ b, b < n → condG eu out a' b) ∧ ∀ b', b' < b → condG eu out a b') → (fl = false → (∀ a', a' < a → ∀ b, b < n → condG eu out a' b) ∧ ∀ b', b' < b + 1 → condG eu out a b') from fun h fl h1 e => ⟨(h1 e).1, upto2 (P := fun b' => condG eu out a b') (h1 e).2 h⟩)
              obtain ⟨x, hx⟩ : ∃ x, x = out.getD a 0 := ⟨_, rfl⟩
              obtain ⟨y, hy⟩ : ∃ y, y = out.getD b 0 := ⟨_, rfl⟩
              have HXE := Lib.hid hx
              have HYE := Lib.hid hy
              rw [← hx] at ca HWA
              rw [← hy] at cb HWB
              clear hcell hfr hx hy
              obtain ⟨tb, htb⟩ : ∃ t, t = x.testBit b := ⟨_, rfl⟩
              have HTB := Lib.hid htb
              clear htb
              go_wp2_with fail
              refine (rIn02_any x b _ hb64 HWA.out).mono ?_
              rintro e w4 ⟨rfl, rfl⟩
              rw [← HTB.out]
              cases tb
              · have HP := Lib.hid (HNX.out (cond_no (by rw [← HXE.out]; exact HTB.out.symm)) fl HCD.out)
                go_wp2_with fail
                go_roundw
                case rel => exact ⟨b + 1, by go_num, by omega, fl, rfl, Lib.hid ⟨out, HS.out, HP.out, HZ1.out, HZ2.out⟩⟩
                case measure => simp [intOf]; omega
              · cases eu
                · skip
                  obtain ⟨z, hz⟩ : ∃ z, z = x ||| y := ⟨_, rfl⟩
                  have hor : bits .or .u64 (x : Int) (y : Int) = (z : Int) := by rw [hz]; exact bits_or HWA.out HWB.out
                  have HZE := Lib.hid (show z = out.getD (atG false a b) 0 ||| addG false out a b by rw [hz, HXE.out, HYE.out]; rfl)
                  have HATE := Lib.hid (show x = out.getD (atG false a b) 0 from HXE.out)
                  have gf := HFR.out a
                  clear hz
                  go_upto_region 12 with (fail)
                  refine wp_region_held_drew (S := fun w' => w'.cell? (⟨g, a, none⟩) = some (.int .u64 (x : Int)) ∧ w'.cell? (⟨g, b, none⟩) = some (.int .u64 (y : Int))) (by kernel_rfl) ⟨xc gl ca, xc gl cb⟩ (fun hHeld => ?_)
                  refine tk 0 hHeld ?_
                  refine tk 1 hHeld ?_
                  refine tk 2 hHeld ?_
                  refine tk 3 hHeld ?_
                  refine tk 4 hHeld ?_
                  refine tk 5 hHeld ?_
                  refine tk 6 hHeld ?_
                  refine wpAnyH_done (by kernel_rfl) ?_ _
                  obtain ⟨W1, hW1⟩ : ∃ v, v = wr.drew := ⟨_, rfl⟩
                  have HXW1 := Lib.hid (show Ext wr W1 by rw [hW1]; exact (Ext.refl _).drew)
                  rw [← hW1]
                  clear hW1
                  have ca := (HXW1.out.cell (p := ⟨g, a, none⟩) gl).trans ca
                  have cb := (HXW1.out.cell (p := ⟨g, b, none⟩) gl).trans cb
                  have gf := (HXW1.out.frozen (p := ⟨g, a, none⟩) gl).trans gf
                  have gl := Nat.lt_of_lt_of_le gl HXW1.out.size
                  go_upto_region 15 with (fail)
                  by_cases hzx : z = x
                  · have hne : ((z : Int) != (x : Int)) = false := by rw [hzx]; simp
                    have HP := Lib.hid (HNX.out (cond_keep (by rw [← HZE.out, ← HATE.out]; exact hzx)) fl HCD.out)
                    clear hzx
                    refine wp_region_held_drew (S := fun w' => w'.cell? (⟨g, a, none⟩) = some (.int .u64 (x : Int)) ∧ w'.cell? (⟨g, b, none⟩) = some (.int .u64 (y : Int))) (by kernel_rfl) ⟨xc gl ca, xc gl cb⟩ (fun hHeld => ?_)
                    refine tk 0 hHeld ?_
                    refine tk 1 hHeld ?_
                    refine tk 2 hHeld ?_
                    refine tk 3 hHeld ?_
                    refine tk 4 hHeld ?_
                    refine tk 5 hHeld ?_
                    refine tk 6 hHeld ?_
                    refine tk 7 hHeld ?_
                    refine tk 8 hHeld ?_
                    refine tk 9 hHeld ?_
                    refine tk 10 hHeld ?_
                    refine wpAnyH_done (by kernel_rfl) ?_ _
                    go_wp2_with fail
                    go_roundw
                    case rel => exact ⟨b + 1, by go_num, by omega, fl, rfl, Lib.hid ⟨out, ⟨HS.out.ext.trans (HXW1.out.trans (Ext.refl _).drew), HS.out.row.ext (HXW1.out.trans (Ext.refl _).drew), HS.out.grw⟩, HP.out, HZ1.out, HZ2.out⟩⟩
                    case measure => simp [intOf]; omega
                  · have hne : ((z : Int) != (x : Int)) = true := by simp; omega
                    have HST := Lib.hid (HS.out.grw.step hlt2 hlt3 (by rw [← HXE.out]; exact HTB.out.symm) (by rw [← HZE.out, ← HATE.out]; exact hzx))
                    rw [← HZE.out] at HST
                    clear hzx
                    refine wp_region_held_drew (S := fun w' => w'.cell? (⟨g, a, none⟩) = some (.int .u64 (x : Int)) ∧ w'.cell? (⟨g, b, none⟩) = some (.int .u64 (y : Int))) (by kernel_rfl) ⟨xc gl ca, xc gl cb⟩ (fun hHeld => ?_)
                    refine tk 0 hHeld ?_
                    refine tk 1 hHeld ?_
                    refine tk 2 hHeld ?_
                    refine tk 3 hHeld ?_
                    refine tk 4 hHeld ?_
                    refine tk 5 hHeld ?_
                    refine tk 6 hHeld ?_
                    refine tk 7 hHeld ?_
                    refine tk 8 hHeld ?_
                    refine tk 9 hHeld ?_
                    refine tk 10 hHeld ?_
                    refine wpAnyH_done (by kernel_rfl) ?_ _
                    have HXD := Lib.hid (HXW1.out.trans (Ext.refl _).drew)
                    have HRW := Lib.hid (((HS.out.row.ext HXD.out)).set HS.out.grw.len a z)
                    go_wp2_with fail
                    go_roundw
                    case rel => exact ⟨b + 1, by go_num, by omega, true, rfl, Lib.hid ⟨_, ⟨(HS.out.ext.trans HXD.out).setCell (p := ⟨g, a, none⟩) hgb _, HRW.out, HST.out.1⟩, (fun e => by cases e), Nat.le_of_lt (Nat.lt_of_lt_of_le HST.out.2 HZ1.out), fun _ => Nat.lt_of_lt_of_le HST.out.2 HZ1.out⟩⟩
                    case measure => simp [intOf]; omega
                · skip
                  obtain ⟨z, hz⟩ : ∃ z, z = y ||| x := ⟨_, rfl⟩
                  have hor : bits .or .u64 (y : Int) (x : Int) = (z : Int) := by rw [hz]; exact bits_or HWB.out HWA.out
                  have HZE := Lib.hid (show z = out.getD (atG true a b) 0 ||| addG true out a b by rw [hz, HXE.out, HYE.out]; rfl)
                  have HATE := Lib.hid (show y = out.getD (atG true a b) 0 from HYE.out)
                  have gf := HFR.out b
                  clear hz
                  go_upto_region 12 with (fail)
                  refine wp_region_held_drew (S := fun w' => w'.cell? (⟨g, a, none⟩) = some (.int .u64 (x : Int)) ∧ w'.cell? (⟨g, b, none⟩) = some (.int .u64 (y : Int))) (by kernel_rfl) ⟨xc gl ca, xc gl cb⟩ (fun hHeld => ?_)
                  refine tk 0 hHeld ?_
                  refine tk 1 hHeld ?_
                  refine tk 2 hHeld ?_
                  refine tk 3 hHeld ?_
                  refine tk 4 hHeld ?_
                  refine tk 5 hHeld ?_
                  refine tk 6 hHeld ?_
                  refine wpAnyH_done (by kernel_rfl) ?_ _
                  obtain ⟨W1, hW1⟩ : ∃ v, v = wr.drew := ⟨_, rfl⟩
                  have HXW1 := Lib.hid (show Ext wr W1 by rw [hW1]; exact (Ext.refl _).drew)
                  rw [← hW1]
                  clear hW1
                  have ca := (HXW1.out.cell (p := ⟨g, a, none⟩) gl).trans ca
                  have cb := (HXW1.out.cell (p := ⟨g, b, none⟩) gl).trans cb
                  have gf := (HXW1.out.frozen (p := ⟨g, b, none⟩) gl).trans gf
                  have gl := Nat.lt_of_lt_of_le gl HXW1.out.size
                  go_upto_region 14 with (fail)
                  refine wp_region_held_drew (S := fun w' => w'.cell? (⟨g, a, none⟩) = some (.int .u64 (x : Int)) ∧ w'.cell? (⟨g, b, none⟩) = some (.int .u64 (y : Int))) (by kernel_rfl) ⟨xc gl ca, xc gl cb⟩ (fun hHeld => ?_)
                  refine tk 0 hHeld ?_
                  refine tk 1 hHeld ?_
                  refine tk 2 hHeld ?_
                  refine tk 3 hHeld ?_
                  refine tk 4 hHeld ?_
                  refine tk 5 hHeld ?_
                  refine tk 6 hHeld ?_
                  refine wpAnyH_done (by kernel_rfl) ?_ _
                  obtain ⟨W2, hW2⟩ : ∃ v, v = W1.drew := ⟨_, rfl⟩
                  have HXW2 := Lib.hid (show Ext W1 W2 by rw [hW2]; exact (Ext.refl _).drew)
                  rw [← hW2]
                  clear hW2
                  have ca := (HXW2.out.cell (p := ⟨g, a, none⟩) gl).trans ca
                  have cb := (HXW2.out.cell (p := ⟨g, b, none⟩) gl).trans cb
                  have gf := (HXW2.out.frozen (p := ⟨g, b, none⟩) gl).trans gf
                  have gl := Nat.lt_of_lt_of_le gl HXW2.out.size
                  go_upto_region 15 with (fail)
                  by_cases hzx : z = y
                  · have hne : ((z : Int) != (y : Int)) = false := by rw [hzx]; simp
                    have HP := Lib.hid (HNX.out (cond_keep (by rw [← HZE.out, ← HATE.out]; exact hzx)) fl HCD.out)
                    clear hzx
                    refine wp_region_held_drew (S := fun w' => w'.cell? (⟨g, a, none⟩) = some (.int .u64 (x : Int)) ∧ w'.cell? (⟨g, b, none⟩) = some (.int .u64 (y : Int))) (by kernel_rfl) ⟨xc gl ca, xc gl cb⟩ (fun hHeld => ?_)
                    refine tk 0 hHeld ?_
                    refine tk 1 hHeld ?_
                    refine tk 2 hHeld ?_
                    refine tk 3 hHeld ?_
                    refine tk 4 hHeld ?_
                    refine tk 5 hHeld ?_
                    refine tk 6 hHeld ?_
                    refine tk 7 hHeld ?_
                    refine tk 8 hHeld ?_
                    refine tk 9 hHeld ?_
                    refine tk 10 hHeld ?_
                    refine wpAnyH_done (by kernel_rfl) ?_ _
                    go_wp2_with fail
                    go_roundw
                    case rel => exact ⟨b + 1, by go_num, by omega, fl, rfl, Lib.hid ⟨out, ⟨HS.out.ext.trans ((HXW1.out.trans HXW2.out).trans (Ext.refl _).drew), HS.out.row.ext ((HXW1.out.trans HXW2.out).trans (Ext.refl _).drew), HS.out.grw⟩, HP.out, HZ1.out, HZ2.out⟩⟩
                    case measure => simp [intOf]; omega
                  · have hne : ((z : Int) != (y : Int)) = true := by simp; omega
                    have HST := Lib.hid (HS.out.grw.step hlt2 hlt3 (by rw [← HXE.out]; exact HTB.out.symm) (by rw [← HZE.out, ← HATE.out]; exact hzx))
                    rw [← HZE.out] at HST
                    clear hzx
                    refine wp_region_held_drew (S := fun w' => w'.cell? (⟨g, a, none⟩) = some (.int .u64 (x : Int)) ∧ w'.cell? (⟨g, b, none⟩) = some (.int .u64 (y : Int))) (by kernel_rfl) ⟨xc gl ca, xc gl cb⟩ (fun hHeld => ?_)
                    refine tk 0 hHeld ?_
                    refine tk 1 hHeld ?_
                    refine tk 2 hHeld ?_
                    refine tk 3 hHeld ?_
                    refine tk 4 hHeld ?_
                    refine tk 5 hHeld ?_
                    refine tk 6 hHeld ?_
                    refine tk 7 hHeld ?_
                    refine tk 8 hHeld ?_
                    refine tk 9 hHeld ?_
                    refine tk 10 hHeld ?_
                    refine wpAnyH_done (by kernel_rfl) ?_ _
                    have HXD := Lib.hid ((HXW1.out.trans HXW2.out).trans (Ext.refl _).drew)
                    have HRW := Lib.hid (((HS.out.row.ext HXD.out)).set HS.out.grw.len b z)
                    go_wp2_with fail
                    go_roundw
                    case rel => exact ⟨b + 1, by go_num, by omega, true, rfl, Lib.hid ⟨_, ⟨(HS.out.ext.trans HXD.out).setCell (p := ⟨g, b, none⟩) hgb _, HRW.out, HST.out.1⟩, (fun e => by cases e), Nat.le_of_lt (Nat.lt_of_lt_of_le HST.out.2 HZ1.out), fun _ => Nat.lt_of_lt_of_le HST.out.2 HZ1.out⟩⟩
                    case measure => simp [intOf]; omega
            · obtain rfl : n = b := by omega
              go_wp2_with fail
              go_roundw
              case rel => exact ⟨a + 1, by go_num, by omega, fl, rfl, Lib.hid ⟨out, HS.out, (fun e => upto2 (P := fun a' => ∀ b, b < n → condG eu out a' b) (HCD.out e).1 (HCD.out e).2), HZ1.out, HZ2.out⟩⟩
              case measure => simp [intOf]; omega
        · obtain rfl : n = a := by omega
          obtain ⟨out, hs, hcd, hz1, hz2⟩ := HREL.out
          have HS := Lib.hid hs
          have HCD := Lib.hid hcd
          have HZ1 := Lib.hid hz1
          have HZ2 := Lib.hid hz2
          have HZW := Lib.hid (zerosW_row hs.row (by rw [hs.grw.len]; exact h0))
          clear HREL hs hcd hz1 hz2
          go_wp2_with fail
          go_roundw
          case rel => exact ⟨fl, rfl, Lib.hid ⟨out, HS.out, HCD.out⟩⟩
          case measure =>
            have h1 := HZ0.out
            have h2 := HZW.out
            have h3 := HZ1.out
            cases fl
            · show 2 * zerosW wr g n + 0 < 2 * zerosW wp g n + 1
              omega
            · show 2 * zerosW wr g n + 1 < 2 * zerosW wp g n + 1
              have := HZ2.out rfl
              omega
set_option maxRecDepth 100000 in
set_option maxHeartbeats 8000000 in
theorem transitive02_any (v : Value) (l : List Nat) (w : World) (h : U64s w v l) (hw : ∀ s ∈ l, word s) (hv : valid02 l = true) (h0 : 0 < l.length) :
    Calls Tryz.prog 139 #[v] w fun e w' => ∃ u, e = .returned (.tuple #[u, .int .i64 0]) ∧ Ext w w' ∧ ∃ out, MadeU w.heap.size w' u out ∧ (out = l ↔ closedG false l) := by
  have H := Lib.hid h
  have HW := Lib.hid hw
  obtain ⟨hl64, hby⟩ := valid_iff.1 hv
  have HV := Lib.hid (show check02 l.length l = 0 by unfold valid02 at hv; simpa using hv)
  obtain ⟨A, c, rfl, _⟩ := h
  clear hw hv
  go_enter Tryz.func139, Tryz.ntmps139
  go_wp2_with fail
  refine (check02_any _ l _ H.out HW.out).mono ?_
  rintro e w2 ⟨rfl, hx2⟩
  rw [HV.out]
  have HX2 := Lib.hid hx2
  clear hx2
  go_wp2_with fail
  refine (grow_any false _ l _ (H.out.ext HX2.out) hl64 hby h0).mono ?_
  rintro e w3 ⟨u, rfl, hx3, out, hm, hiff⟩
  have HX3 := Lib.hid (HX2.out.trans hx3)
  have HM := Lib.hid (show MadeU w.heap.size w3 u out from row_base hm HX2.out.size)
  have HI := Lib.hid hiff
  clear hx3 hm hiff
  go_wp2_with fail
  go_ret2
  exact ⟨u, rfl, HX3.out, out, HM.out, HI.out⟩
set_option maxRecDepth 100000 in
set_option maxHeartbeats 8000000 in
theorem euclidean02_any (v : Value) (l : List Nat) (w : World) (h : U64s w v l) (hw : ∀ s ∈ l, word s) (hv : valid02 l = true) (h0 : 0 < l.length) :
    Calls Tryz.prog 140 #[v] w fun e w' => ∃ u, e = .returned (.tuple #[u, .int .i64 0]) ∧ Ext w w' ∧ ∃ out, MadeU w.heap.size w' u out ∧ (out = l ↔ closedG true l) := by
  have H := Lib.hid h
  have HW := Lib.hid hw
  obtain ⟨hl64, hby⟩ := valid_iff.1 hv
  have HV := Lib.hid (show check02 l.length l = 0 by unfold valid02 at hv; simpa using hv)
  obtain ⟨A, c, rfl, _⟩ := h
  clear hw hv
  go_enter Tryz.func140, Tryz.ntmps140
  go_wp2_with fail
  refine (check02_any _ l _ H.out HW.out).mono ?_
  rintro e w2 ⟨rfl, hx2⟩
  rw [HV.out]
  have HX2 := Lib.hid hx2
  clear hx2
  go_wp2_with fail
  refine (grow_any true _ l _ (H.out.ext HX2.out) hl64 hby h0).mono ?_
  rintro e w3 ⟨u, rfl, hx3, out, hm, hiff⟩
  have HX3 := Lib.hid (HX2.out.trans hx3)
  have HM := Lib.hid (show MadeU w.heap.size w3 u out from row_base hm HX2.out.size)
  have HI := Lib.hid hiff
  clear hx3 hm hiff
  go_wp2_with fail
  go_ret2
  exact ⟨u, rfl, HX3.out, out, HM.out, HI.out⟩
end Go.Proofs.YtbfeodammikajaaGreat
