/- slices.Equal, Index, Contains at integers. -/
import Derived.Test.YtohoddkcpfamlaaDoorS04
import Derived.Test.YtohoddkcpfamlaaDoorS03
import Derived.Deep.DeepCutAuto

namespace Go.Proofs.YtohoddkcpfamlaaDoor
open Go.RowKit

theorem drewN_more {w wr : World} (h : ∃ m, wr = w.drewN m) (n : Nat) : ∃ m, wr.drewN n = w.drewN m := by
  obtain ⟨m, e⟩ := h
  exact ⟨m + n, by rw [e, World.drewN_drewN]⟩
set_option maxRecDepth 100000 in
set_option maxHeartbeats 1000000 in
theorem equalI_q (v1 v2 : Value) (l1 l2 : List Int) (w : World) (h1 : Ints w v1 l1) (h2 : Ints w v2 l2) :
    Calls Tryd.prog 104 #[v1, v2] w fun e w' => e = .returned (.bool (decide (l1 = l2))) ∧ ∃ m, w' = w.drewN m := by
  obtain ⟨A1, c1, rfl, hcap1, hmax1, hr1⟩ := h1
  obtain ⟨A2, c2, rfl, hcap2, hmax2, hr2⟩ := h2
  unfold maxLen at hmax1 hmax2
  by_cases hl : l1.length = l2.length
  · have HR1 := Lib.hid hr1
    have HR2 := Lib.hid hr2
    have HL := Lib.hid hl
    have eb : ((l1.length : Int) != (l2.length : Int)) = false := by simp [hl]
    clear hr1 hr2 hl
    go_enter Tryd.func104, Tryd.ntmps104
    go_wp2_with fail
    go_loopw [13] (fun i wr => ∃ k : Nat, k ≤ l1.length ∧ i = .int .i64 k ∧ Hid (l1.take k = l2.take k) ∧ Hid (∃ m, wr = w.drewN m)) (fun i _ => l1.length - (intOf i).toNat)
    case atStart => exact ⟨0, Nat.zero_le _, rfl, Lib.hid rfl, Lib.hid ⟨0, rfl⟩⟩
    case round =>
      obtain ⟨k, hk, rfl, htk, HQ⟩ := hrel
      have hext : Ext w wr := (by obtain ⟨m, e⟩ := HQ.out; rw [e]; exact (Ext.refl _).drewN _)
      by_cases hlt2 : k < l1.length
      · have hlt3 : k < l2.length := by have := HL.out; omega
        obtain ⟨a, ha⟩ : ∃ a, l1[k]? = some a := ⟨_, List.getElem?_eq_getElem hlt2⟩
        obtain ⟨b, hb⟩ : ∃ b, l2[k]? = some b := ⟨_, List.getElem?_eq_getElem hlt3⟩
        obtain ⟨ad1, rfl, hb1, hc1⟩ := HR1.out (by intro e; rw [e] at hlt2; simp at hlt2)
        obtain ⟨ad2, rfl, hb2, hc2⟩ := HR2.out (by intro e; rw [e] at hlt3; simp at hlt3)
        have a0 := (hext.cell (p := ad1.add k) (by rw [block_of_add]; exact hb1)).trans (hc1 k a ha)
        have b0 := (hext.cell (p := ad2.add k) (by rw [block_of_add]; exact hb2)).trans (hc2 k b hb)
        have hi0 : (0 : Int) ≤ (k : Int) := by omega
        have hi1 : (k : Int) < (l1.length : Int) := by omega
        have hi2 : (k : Int) < (l2.length : Int) := by omega
        have HA := Lib.hid ha
        have HB := Lib.hid hb
        clear ha hb hc1 hc2
        by_cases hab : a = b
        · have hd : (a != b) = false := by simpa using hab
          have HT : Hid (l1.take (k + 1) = l2.take (k + 1)) := Lib.hid (by rw [take_succ_eq HA.out, take_succ_eq HB.out, htk.out, hab])
          clear hab
          go_wp2_with fail
          go_quiet (fail)
          go_wp2_with fail
          go_roundw
          case rel => exact ⟨k + 1, by omega, by go_num, HT, Lib.hid (drewN_more HQ.out _)⟩
          case measure => simp [intOf]; omega
        · have hd : (a != b) = true := by simpa using hab
          have HR : Hid (decide (l1 = l2) = false) := Lib.hid (decide_eq_false (lists_differ HA.out HB.out hab))
          clear hab
          go_wp2_with fail
          go_quiet (fail)
          go_wp2_with fail
          go_ret
          exact ⟨by rw [HR.out]; rfl, drewN_more HQ.out _⟩
      · obtain rfl : l1.length = k := by omega
        have HR : Hid (decide (l1 = l2) = true) := Lib.hid (decide_eq_true (by
          have h := htk.out
          rw [List.take_of_length_le (Nat.le_refl _), HL.out, List.take_of_length_le (Nat.le_refl _)] at h
          exact h))
        go_wp2_with fail
        go_ret
        exact ⟨by rw [HR.out]; rfl, HQ.out⟩
  · have eb : ((l1.length : Int) != (l2.length : Int)) = true := by simp; omega
    have HR : Hid (decide (l1 = l2) = false) := Lib.hid (decide_eq_false fun e => hl (by rw [e]))
    clear hl hr1 hr2
    go_enter Tryd.func104, Tryd.ntmps104
    go_wp2_with fail
    go_ret
    exact ⟨by rw [HR.out]; rfl, 0, rfl⟩

theorem equalI_any (v1 v2 : Value) (l1 l2 : List Int) (w : World) (h1 : Ints w v1 l1) (h2 : Ints w v2 l2) :
    Calls Tryd.prog 104 #[v1, v2] w fun e w' => e = .returned (.bool (decide (l1 = l2))) ∧ Ext w w' :=
  (equalI_q v1 v2 l1 l2 w h1 h2).mono fun _ _ ⟨he, m, hm⟩ => ⟨he, by rw [hm]; exact (Ext.refl _).drewN _⟩

/-- The first place of a number, or -1. -/
def indexI (l : List Int) (x : Int) : Int := bif decide (x ∈ l) then (l.idxOf x : Nat) else -1
theorem idxOf_firstI : ∀ {o : List Int} {k : Nat} {a x : Int}, o[k]? = some a → a = x → x ∉ o.take k → o.idxOf x = k
  | [], k, a, x, h, _, _ => by simp at h
  | b :: r, 0, a, x, h, hab, _ => by
    simp only [List.getElem?_cons_zero, Option.some.injEq] at h
    subst h hab
    simp
  | b :: r, k + 1, a, x, h, hab, hn => by
    simp only [List.take_succ_cons, List.mem_cons, not_or] at hn
    have ih := idxOf_firstI (o := r) (k := k) (a := a) (x := x) (by simpa using h) hab hn.2
    have hb : (b == x) = false := by rw [beq_eq_false_iff_ne]; exact fun e => hn.1 e.symm
    rw [List.idxOf_cons, hb, ih]
    rfl

set_option maxRecDepth 100000 in
set_option maxHeartbeats 1000000 in
theorem indexI_any (v : Value) (l : List Int) (x : Int) (w : World) (h : Ints w v l) :
    Calls Tryd.prog 106 #[v, .int .i64 x] w fun e w' => e = .returned (.int .i64 (indexI l x)) ∧ Ext w w' := by
  obtain ⟨A, c, rfl, hcap, hmax, hr⟩ := h
  unfold maxLen at hmax
  have HR := Lib.hid hr
  clear hr
  go_enter Tryd.func106, Tryd.ntmps106
  go_wp2_with fail
  go_loopw [8] (fun i wr => ∃ k : Nat, k ≤ l.length ∧ i = .int .i64 k ∧ Hid (x ∉ l.take k) ∧ Ext w wr) (fun i _ => l.length - (intOf i).toNat)
  case atStart => exact ⟨0, Nat.zero_le _, rfl, Lib.hid (by simp), Ext.refl _⟩
  case round =>
    obtain ⟨k, hk, rfl, HNI, hext⟩ := hrel
    by_cases hlt2 : k < l.length
    · obtain ⟨a, ha⟩ : ∃ a, l[k]? = some a := ⟨_, List.getElem?_eq_getElem hlt2⟩
      obtain ⟨ad, rfl, hb1, hc1⟩ := HR.out (by intro e; rw [e] at hlt2; simp at hlt2)
      have a0 := (hext.cell (p := ad.add k) (by rw [block_of_add]; exact hb1)).trans (hc1 k a ha)
      have HA := Lib.hid ha
      clear ha hc1
      by_cases hab : x = a
      · have hd : (x == a) = true := by simpa using hab
        have HIX : Hid (indexI l x = k) := Lib.hid (by
          have hm : x ∈ l := by rw [hab]; exact List.mem_of_getElem? HA.out
          simp [indexI, hm, idxOf_firstI HA.out hab.symm HNI.out])
        clear hab
        go_wp2_with fail
        go_ret
        exact ⟨ret_int (by rw [HIX.out]), hext⟩
      · have hd : (x == a) = false := by simpa using hab
        have HT : Hid (x ∉ l.take (k + 1)) := Lib.hid (by rw [take_succ_eq HA.out]; simp [HNI.out, hab])
        clear hab
        go_wp2_with fail
        go_roundw
        case rel => exact ⟨k + 1, by omega, by go_num, HT, hext⟩
        case measure => simp [intOf]; omega
    · obtain rfl : l.length = k := by omega
      have HIX : Hid (indexI l x = -1) := Lib.hid (by
        have hm := HNI.out
        rw [List.take_of_length_le (Nat.le_refl _)] at hm
        simp [indexI, hm])
      go_wp2_with fail
      go_ret
      exact ⟨ret_int (by rw [HIX.out]), hext⟩

set_option maxHeartbeats 400000 in
theorem containsI_any (v : Value) (l : List Int) (x : Int) (w : World) (h : Ints w v l) :
    Calls Tryd.prog 105 #[v, .int .i64 x] w fun e w' => e = .returned (.bool (decide (x ∈ l))) ∧ Ext w w' := by
  have H := Lib.hid h
  clear h
  have HX : Hid (decide (0 ≤ indexI l x) = decide (x ∈ l)) := Lib.hid (by
    by_cases hm : x ∈ l
    · simp [indexI, hm]
    · simp [indexI, hm])
  go_enter Tryd.func105, Tryd.ntmps105
  go_wp2_with (go_at_call 106; refine (indexI_any _ l x _ H.out).mono ?_; rintro e w3 ⟨rfl, hb3⟩)
  go_ret
  exact ⟨same_of HX.out, hb3⟩
end Go.Proofs.YtohoddkcpfamlaaDoor

/- Proofs by natural deduction in memory: lines, lists of lists, the checker behind a pointer. -/

namespace Go.Proofs.YtohoddkcpfamlaaDoor
open Go.RowKit

/-- A line of a proof. -/
structure Ln where
  depth : Int
  rule : Int
  f : List Nd
  agent : Int
  from_ : List Int
def LnAt (w : World) (a : Addr) (n : Ln) : Prop :=
  ∃ uf ur, w.cell? a = some (.int .i64 n.depth) ∧ w.cell? ⟨a.block, a.off + 1, none⟩ = some (.int .i64 n.rule) ∧ w.cell? ⟨a.block, a.off + 2, none⟩ = some uf ∧ w.cell? ⟨a.block, a.off + 3, none⟩ = some (.int .i64 n.agent) ∧
    w.cell? ⟨a.block, a.off + 4, none⟩ = some ur ∧ Fml w uf n.f ∧ Ints w ur n.from_
def LnsAt (w : World) (A : Option Addr) (c : Nat) (l : List Ln) : Prop :=
  l.length ≤ c ∧ c ≤ maxLen ∧ (l ≠ [] → ∃ ad, A = some ad ∧ ad.block < w.heap.size ∧ ∀ k n, l[k]? = some n → LnAt w (ad.add (k * 5)) n)
def Lns (w : World) (v : Value) (l : List Ln) : Prop := ∃ A c, v = .slice A l.length c ∧ LnsAt w A c l
def IntsLAt (w : World) (A : Option Addr) (c : Nat) (ls : List (List Int)) : Prop :=
  ls.length ≤ c ∧ c ≤ maxLen ∧ (ls ≠ [] → ∃ ad, A = some ad ∧ ad.block < w.heap.size ∧ ∀ k l, ls[k]? = some l → ∃ u, w.cell? (ad.add k) = some u ∧ Ints w u l)
def IntsL (w : World) (v : Value) (ls : List (List Int)) : Prop := ∃ A c, v = .slice A ls.length c ∧ IntsLAt w A c ls
section
variable {w w' : World} {a : Addr} {n : Ln} {v : Value}
theorem LnAt.ext (h : LnAt w a n) (he : Ext w w') (ha : a.block < w.heap.size) : LnAt w' a n := by
  obtain ⟨uf, ur, h0, h1, h2, h3, h4, h5, h6⟩ := h
  have hk : ∀ o s, w'.cell? ⟨a.block, o, s⟩ = w.cell? ⟨a.block, o, s⟩ := fun o s => he.cell (p := ⟨a.block, o, s⟩) ha
  exact ⟨uf, ur, (hk _ _).trans h0, (hk _ _).trans h1, (hk _ _).trans h2, (hk _ _).trans h3, (hk _ _).trans h4, h5.ext he, h6.ext he⟩
theorem LnsAt.ext {A : Option Addr} {c : Nat} {l : List Ln} (h : LnsAt w A c l) (he : Ext w w') : LnsAt w' A c l :=
  ⟨h.1, h.2.1, fun hn => by
    obtain ⟨ad, e, hlt, hc⟩ := h.2.2 hn
    exact ⟨ad, e, Nat.lt_of_lt_of_le hlt he.size, fun k n hk => (hc k n hk).ext he (by rw [block_of_add]; exact hlt)⟩⟩
theorem Lns.ext {l : List Ln} (h : Lns w v l) (he : Ext w w') : Lns w' v l := by
  obtain ⟨A, c, e, h⟩ := h
  exact ⟨A, c, e, h.ext he⟩
theorem IntsLAt.ext {A : Option Addr} {c : Nat} {ls : List (List Int)} (h : IntsLAt w A c ls) (he : Ext w w') : IntsLAt w' A c ls :=
  ⟨h.1, h.2.1, fun hn => by
    obtain ⟨ad, e, hlt, hc⟩ := h.2.2 hn
    refine ⟨ad, e, Nat.lt_of_lt_of_le hlt he.size, fun k l hk => ?_⟩
    obtain ⟨u, hu, hf⟩ := hc k l hk
    exact ⟨u, (he.cell (by rw [block_of_add]; exact hlt)).trans hu, hf.ext he⟩⟩
theorem IntsL.ext {ls : List (List Int)} (h : IntsL w v ls) (he : Ext w w') : IntsL w' v ls := by
  obtain ⟨A, c, e, h⟩ := h
  exact ⟨A, c, e, h.ext he⟩
end

/-- The checker behind a pointer. -/
structure Chk (w : World) (b : Nat) (lg : Int) (ls : List Ln) (fs : List (List Nd)) (st : List (List Int)) : Prop where
  all : ∃ vl vf vs, w.heap[b]? = some (.cells #[.int .i64 lg, vl, vf, vs] 60 (0, 0)) ∧ Lns w vl ls ∧ Fmls w vf fs ∧ IntsL w vs st
theorem Chk.ext {w w' : World} {b : Nat} {lg : Int} {ls : List Ln} {fs : List (List Nd)} {st : List (List Int)} (h : Chk w b lg ls fs st) (he : Ext w w') : Chk w' b lg ls fs st := by
  obtain ⟨vl, vf, vs, hb, h1, h2, h3⟩ := h.all
  exact ⟨vl, vf, vs, (he.block (lt_heap hb)).trans hb, h1.ext he, h2.ext he, h3.ext he⟩
theorem cells4 {w : World} {b : Nat} {a0 a1 a2 a3 : Value} {t : TypeId} (h : w.heap[b]? = some (.cells #[a0, a1, a2, a3] t (0, 0))) :
    w.cell? ⟨b, 0, none⟩ = some a0 ∧ w.cell? ⟨b, 1, none⟩ = some a1 ∧ w.cell? ⟨b, 2, none⟩ = some a2 ∧ w.cell? ⟨b, 3, none⟩ = some a3 ∧ (∀ j, w.frozen? ⟨b, j, none⟩ = false) ∧ b < w.heap.size :=
  ⟨by simp [World.cell?, h], by simp [World.cell?, h], by simp [World.cell?, h], by simp [World.cell?, h], fun j => by simp [World.frozen?, h], lt_heap h⟩

/-- The checker's cells and a line's: what a walk reads. -/
theorem Chk.line {w : World} {b : Nat} {lg : Int} {ls : List Ln} {fs : List (List Nd)} {st : List (List Int)} (h : Chk w b lg ls fs st) {i : Nat} {n : Ln} (hi : ls[i]? = some n) :
    ∃ (ad : Addr) (c : Nat) (vf vs uf ur : Value), ls.length ≤ c ∧ c ≤ 9223372036854775807 ∧ ad.block < w.heap.size ∧ w.cell? ⟨b, 0, none⟩ = some (.int .i64 lg) ∧ w.cell? ⟨b, 1, none⟩ = some (.slice (some ad) ls.length c) ∧ w.cell? ⟨b, 2, none⟩ = some vf ∧ w.cell? ⟨b, 3, none⟩ = some vs ∧
      w.cell? (ad.add (i * 5)) = some (.int .i64 n.depth) ∧ w.cell? ⟨(ad.add (i * 5)).block, (ad.add (i * 5)).off + 1, none⟩ = some (.int .i64 n.rule) ∧ w.cell? ⟨(ad.add (i * 5)).block, (ad.add (i * 5)).off + 2, none⟩ = some uf ∧
      w.cell? ⟨(ad.add (i * 5)).block, (ad.add (i * 5)).off + 3, none⟩ = some (.int .i64 n.agent) ∧ w.cell? ⟨(ad.add (i * 5)).block, (ad.add (i * 5)).off + 4, none⟩ = some ur ∧ Fml w uf n.f ∧ Ints w ur n.from_ := by
  obtain ⟨vl, vf, vs, hb, ⟨A, c, rfl, h1, h2, h3⟩, _, _⟩ := h.all
  obtain ⟨d0, d1, d2, d3, _, _⟩ := cells4 hb
  obtain ⟨ad, rfl, hlt, hc⟩ := h3 (by intro e; rw [e] at hi; simp at hi)
  obtain ⟨uf, ur, q0, q1, q2, q3, q4, q5, q6⟩ := hc i n hi
  unfold maxLen at h2
  exact ⟨ad, c, vf, vs, uf, ur, h1, by omega, hlt, d0, d1, d2, d3, q0, q1, q2, q3, q4, q5, q6⟩

def opensL (n : Ln) : Bool := n.rule == 1 || n.rule == 2
set_option maxRecDepth 100000 in
set_option maxHeartbeats 1000000 in
theorem opens_any {w : World} {b : Nat} {lg : Int} {ls : List Ln} {fs : List (List Nd)} {st : List (List Int)} (h : Chk w b lg ls fs st) (i : Nat) (n : Ln) (hi : ls[i]? = some n) :
    Calls Tryd.prog 54 #[.pointer (some ⟨b, 0, none⟩), .int .i64 i] w fun e w' => e = .returned (.bool (opensL n)) ∧ Ext w w' := by
  obtain ⟨ad, c, vf, vs, uf, ur, hc1, hc2, hlt, d0, d1, d2, d3, q0, q1, q2, q3, q4, _, _⟩ := h.line hi
  have hil : i < ls.length := (List.getElem?_eq_some_iff.1 hi).1
  clear h hi
  by_cases h1 : n.rule = 1
  · have e1 : (n.rule == 1) = true := by simp [h1]
    clear h1
    go_enter Tryd.func54, Tryd.ntmps54
    go_wp2_with fail
    go_ret
    exact ⟨same_of (by simp [opensL, e1]), Ext.refl _⟩
  · have e1 : (n.rule == 1) = false := by simpa using h1
    clear h1
    go_enter Tryd.func54, Tryd.ntmps54
    go_wp2_with fail
    go_ret
    exact ⟨same_of (by simp [opensL, e1]), Ext.refl _⟩
end Go.Proofs.YtohoddkcpfamlaaDoor

/- natural's checker: boxes, within, line. -/

namespace Go.Proofs.YtohoddkcpfamlaaDoor
open Go.RowKit

def Ln.zero : Ln := ⟨0, 0, [], 0, []⟩
def lineAt (ls : List Ln) (o : Int) : Ln := ls.getD o.toNat Ln.zero
theorem lineAt_of {ls : List Ln} {o : Int} (h0 : 0 ≤ o) (h1 : o < ls.length) : ls[o.toNat]? = some (lineAt ls o) := by
  unfold lineAt
  rw [List.getD_eq_getElem?_getD, List.getElem?_eq_getElem (by omega)]
  simp
def isBox (ls : List Ln) (o : Int) : Bool := (lineAt ls o).rule == 2
def boxesL (ls : List Ln) (l : List Int) : List Int := l.filter (isBox ls)
theorem boxesL_snoc (ls : List Ln) (l : List Int) (o : Int) : boxesL ls (l ++ [o]) = boxesL ls l ++ (if isBox ls o then [o] else []) := by
  unfold boxesL
  rw [List.filter_append]
  cases h : isBox ls o <;> simp [h]

set_option maxRecDepth 100000 in
set_option maxHeartbeats 1000000 in
theorem boxes_any {w : World} {b : Nat} {lg : Int} {ls : List Ln} {fs : List (List Nd)} {st : List (List Int)} (h : Chk w b lg ls fs st) (v : Value) (l : List Int) (hv : Ints w v l) (hl : ∀ o ∈ l, 0 ≤ o ∧ o < ls.length) (hlen : l.length ≤ 1000) :
    Calls Tryd.prog 101 #[.pointer (some ⟨b, 0, none⟩), v] w fun e w' => ∃ u, e = .returned u ∧ MadeInts w w' u (boxesL ls l) := by
  obtain ⟨A, c, rfl, hcap, hmax, hr⟩ := hv
  unfold maxLen at hmax
  have HR := Lib.hid hr
  have H := Lib.hid h
  have HL := Lib.hid hl
  obtain ⟨i3, hi3, hz30, hz31, hz32⟩ := info_parts tInfo3
  clear hr h hl
  go_enter Tryd.func101, Tryd.ntmps101
  go_wp2_with fail
  go_loopw [5, 10] (fun v5 i wr => ∃ k : Nat, k ≤ l.length ∧ i = .int .i64 k ∧ Hid (wr.ownsRow w.heap.size 3 1 v5 (boxesL ls (l.take k)).length ((boxesL ls (l.take k)).map (Value.int .i64))) ∧ Ext w wr) (fun _ i _ => l.length - (intOf i).toNat)
  case atStart => exact ⟨0, Nat.zero_le _, rfl, Lib.hid (World.ownsRow_nil _ _ _ _), Ext.refl _⟩
  case round =>
    obtain ⟨k, hk, rfl, HROW, hext⟩ := hrel
    obtain ⟨A5, c5, rfl⟩ := slice_of_row HROW.out
    by_cases hlt2 : k < l.length
    · obtain ⟨o, ho⟩ : ∃ o, l[k]? = some o := ⟨_, List.getElem?_eq_getElem hlt2⟩
      obtain ⟨ad, rfl, hb1, hc1⟩ := HR.out (by intro e; rw [e] at hlt2; simp at hlt2)
      have a0 := (hext.cell (p := ad.add k) (by rw [block_of_add]; exact hb1)).trans (hc1 k o ho)
      obtain ⟨ho0, ho1⟩ := HL.out o (List.mem_of_getElem? ho)
      obtain ⟨on, rfl⟩ := Int.eq_ofNat_of_zero_le ho0
      have hline := lineAt_of ho0 ho1
      rw [Int.toNat_natCast] at hline
      have HS : Hid (boxesL ls (l.take (k + 1)) = boxesL ls (l.take k) ++ (if isBox ls (on : Int) then [(on : Int)] else [])) := Lib.hid (by rw [take_succ_eq ho, boxesL_snoc])
      obtain ⟨adl, cl, vf, vs, uf, ur, hcl1, hcl2, hltl, d0, d1, d2, d3, q0, q1, q2, q3, q4, _, _⟩ := (H.out.ext hext).line hline
      have hbl : (boxesL ls (l.take k)).length ≤ 1000 := Nat.le_trans (List.length_filter_le _ _) (Nat.le_trans (List.length_take_le' _ _) hlen)
      clear ho hc1 hline
      by_cases hbx : (lineAt ls (on : Int)).rule = 2
      · have e1 : ((lineAt ls (on : Int)).rule == 2) = true := by simp [hbx]
        have HN : Hid (boxesL ls (l.take (k + 1)) = boxesL ls (l.take k) ++ [(on : Int)]) := Lib.hid (by rw [HS.out]; simp [isBox, e1])
        clear hbx
        generalize boxesL ls (l.take k) = bs at HROW HN hbl
        obtain ⟨xs, hxs⟩ : ∃ xs, xs = bs.map (Value.int .i64) := ⟨_, rfl⟩
        rw [← hxs] at HROW
        have HXS := Lib.hid hxs
        have hc3 : bs.length + 1 ≤ maxLen := by unfold maxLen; omega
        have hc4 : (bs.length + 1) * 8 ≤ 140737488355328 := by omega
        have hc5 : ∀ X, w.heap.size ≤ (wr.alloc X).heap.size := fun X => Nat.le_trans hext.size (by simp)
        clear hxs
        go_wp2_with (at_builtin; refine wpList_append_own_at _ rfl _ _ 32 rfl w.heap.size 3 i3 (.int .i64 0) 1 8 Tryd.underlying32 hi3 hz30 hz31 hz32 rfl (by decide) _ _ _ rfl (row_ext HROW.out ((Ext.refl _).alloc _)) _ 1 1 [.int .i64 (on : Int)] rfl rfl (row_new_at _ _ _ (by simp)) (fun u hu => by rw [List.mem_singleton.1 hu]; rfl) hc3 hc4 (hc5 _) ?_)
        intro v' w4 hown4 hgrow4 _ hat4
        obtain ⟨A4, c4, rfl⟩ := slice_of_row hown4
        have HROW4 := Lib.hid hown4
        have HX4 := Lib.hid ((Ext.alloc hext _).grown hgrow4 (fun g hg => (HROW.out.lt g hg).1))
        clear hown4 hgrow4 hat4
        go_wp2_with fail
        go_roundw
        case rel => exact ⟨k + 1, by omega, by go_num, Lib.hid (by have h4 := HROW4.out; rw [HXS.out] at h4; rw [HN.out]; simpa using h4), HX4.out⟩
        case measure => simp [intOf]; omega
      · have e1 : ((lineAt ls (on : Int)).rule == 2) = false := by simpa using hbx
        have HN : Hid (boxesL ls (l.take (k + 1)) = boxesL ls (l.take k)) := Lib.hid (by rw [HS.out]; simp [isBox, e1])
        clear hbx
        go_wp2_with fail
        go_roundw
        case rel => exact ⟨k + 1, by omega, by go_num, Lib.hid (by rw [HN.out]; exact HROW.out), hext⟩
        case measure => simp [intOf]; omega
    · obtain rfl : l.length = k := by omega
      have HN : Hid (boxesL ls l = boxesL ls (l.take l.length)) := Lib.hid (by rw [List.take_of_length_le (Nat.le_refl _)])
      go_wp2_with fail
      go_ret
      exact ⟨_, rfl, by rw [HN.out]; exact ⟨HROW.out, hext⟩⟩
end Go.Proofs.YtohoddkcpfamlaaDoor

/- natural's checker: within. -/

namespace Go.Proofs.YtohoddkcpfamlaaDoor
open Go.RowKit

theorem Ints.take_ {w : World} {A : Option Addr} {c n : Nat} {l : List Int} (h : IntsAt w A c l) (hn : n ≤ l.length) : Ints w (.slice A n c) (l.take n) := by
  have e : (l.take n).length = n := by simp; omega
  refine ⟨A, c, by rw [e], by rw [e]; exact Nat.le_trans hn h.1, h.2.1, fun hne => ?_⟩
  obtain ⟨ad, ea, hb, hc⟩ := h.2.2 (by intro e; rw [e] at hne; simp at hne)
  refine ⟨ad, ea, hb, fun k z hk => hc k z ?_⟩
  rw [List.getElem?_take] at hk
  split at hk
  · exact hk
  · cases hk
theorem Ints.drop_ {w : World} {A : Option Addr} {c n : Nat} {l : List Int} (h : IntsAt w A c l) (hn : n ≤ l.length) : Ints w (.slice (if c = n then A else A.map (·.add n)) (l.length - n) (c - n)) (l.drop n) := by
  have e : (l.drop n).length = l.length - n := by simp
  refine ⟨_, c - n, by rw [e], by rw [e]; have := h.1; omega, by have := h.2.1; omega, fun hne => ?_⟩
  have hlt : n < l.length := by
    by_cases h0 : n < l.length
    · exact h0
    · exact absurd (List.drop_eq_nil_of_le (by omega)) hne
  obtain ⟨ad, rfl, hb, hc⟩ := h.2.2 (by intro e; rw [e] at hlt; simp at hlt)
  rw [if_neg (by have := h.1; omega)]
  refine ⟨_, rfl, by rw [block_of_add]; exact hb, fun k z hk => ?_⟩
  rw [add_of_add]
  exact hc _ z (by rw [← hk, List.getElem?_drop])

/-- The subproofs that line i is in and line j is not. -/
def withinL (st : List (List Int)) (i : Nat) (j : Int) : Option (List Int) :=
  if j < 0 ∨ (i : Int) ≤ j then none else if (st.getD i []).take (st.getD j.toNat []).length = st.getD j.toNat [] then some ((st.getD i []).drop (st.getD j.toNat []).length) else none

theorem Chk.stack {w : World} {b : Nat} {lg : Int} {ls : List Ln} {fs : List (List Nd)} {st : List (List Int)} (h : Chk w b lg ls fs st) {i j : Nat} {si sj : List Int} (hi : st[i]? = some si) (hj : st[j]? = some sj) :
    ∃ (ad : Addr) (c : Nat) (vl vf : Value) (Ai Aj : Option Addr) (ci cj : Nat), st.length ≤ c ∧ c ≤ 9223372036854775807 ∧ ad.block < w.heap.size ∧ w.cell? ⟨b, 0, none⟩ = some (.int .i64 lg) ∧ w.cell? ⟨b, 1, none⟩ = some vl ∧ w.cell? ⟨b, 2, none⟩ = some vf ∧ w.cell? ⟨b, 3, none⟩ = some (.slice (some ad) st.length c) ∧
      w.cell? (ad.add i) = some (.slice Ai si.length ci) ∧ w.cell? (ad.add j) = some (.slice Aj sj.length cj) ∧ IntsAt w Ai ci si ∧ IntsAt w Aj cj sj := by
  obtain ⟨vl, vf, vs, hb, _, _, ⟨A, c, rfl, h1, h2, h3⟩⟩ := h.all
  obtain ⟨d0, d1, d2, d3, _, _⟩ := cells4 hb
  obtain ⟨ad, rfl, hlt, hc⟩ := h3 (by intro e; rw [e] at hi; simp at hi)
  obtain ⟨ui, hui, Ai, ci, rfl, hIi⟩ := hc i si hi
  obtain ⟨uj, huj, Aj, cj, rfl, hIj⟩ := hc j sj hj
  unfold maxLen at h2
  exact ⟨ad, c, vl, vf, Ai, Aj, ci, cj, h1, by omega, hlt, d0, d1, d2, d3, hui, huj, hIi, hIj⟩

set_option maxRecDepth 100000 in
set_option maxHeartbeats 2000000 in
theorem within_out {w : World} {b : Nat} (i : Nat) (j : Int) (hj : j < 0 ∨ (i : Int) ≤ j) :
    Calls Tryd.prog 100 #[.pointer (some ⟨b, 0, none⟩), .int .i64 i, .int .i64 j] w fun e w' => e = .returned (.tuple #[.slice none 0 0, .bool false]) ∧ Ext w w' := by
  by_cases h0 : j < 0
  · clear hj
    go_enter Tryd.func100, Tryd.ntmps100
    go_wp2_with fail
    go_ret2
    exact ⟨rfl, Ext.refl _⟩
  · have h1 : (i : Int) ≤ j := by omega
    clear hj
    go_enter Tryd.func100, Tryd.ntmps100
    go_wp2_with fail
    go_ret2
    exact ⟨rfl, Ext.refl _⟩

set_option maxRecDepth 100000 in
set_option maxHeartbeats 2000000 in
theorem within_in {w : World} {b : Nat} {lg : Int} {ls : List Ln} {fs : List (List Nd)} {st : List (List Int)} (h : Chk w b lg ls fs st) (i j : Nat) (si sj : List Int) (hi : st[i]? = some si) (hj : st[j]? = some sj) (hji : j < i) :
    Calls Tryd.prog 100 #[.pointer (some ⟨b, 0, none⟩), .int .i64 i, .int .i64 (j : Int)] w fun e w' => ∃ u, e = .returned (.tuple #[u, .bool (decide (si.take sj.length = sj))]) ∧ Ext w w' ∧ (si.take sj.length = sj → Ints w' u (si.drop sj.length)) := by
  obtain ⟨ad, c, vl, vf, Ai, Aj, ci, cj, hc1, hc2, hlt, d0, d1, d2, d3, hui, huj, hIi, hIj⟩ := h.stack hi hj
  have hil : i < st.length := (List.getElem?_eq_some_iff.1 hi).1
  have hjl : j < st.length := (List.getElem?_eq_some_iff.1 hj).1
  have HI := Lib.hid hIi
  have HJ := Lib.hid hIj
  have hci := hIi.1
  have hcim := hIi.2.1
  have hcjm := hIj.2.1
  have hcj := hIj.1
  unfold maxLen at hcim hcjm
  have hn0 : ¬ (j : Int) < 0 := by omega
  clear h hi hj hIi hIj
  by_cases hle : sj.length ≤ si.length
  · have hEQ := Lib.hid (fun (nq : Nat) => equalI_q (.slice Ai sj.length ci) (.slice Aj sj.length cj) (si.take sj.length) sj (w.drewN nq) ((Ints.take_ HI.out hle).ext ((Ext.refl _).drewN nq)) ⟨_, _, rfl, HJ.out.ext ((Ext.refl _).drewN nq)⟩)
    have hg : decide (si.length < sj.length) = false := by simp; omega
    have hsl : (sj.length : Int) ≤ (ci : Int) := by omega
    by_cases heq : si.take sj.length = sj
    · have hd : decide (si.take sj.length = sj) = true := by simpa using heq
      have HQ := Lib.hid heq
      rw [hd] at hEQ ⊢
      clear heq hd
      by_cases hcn : ci = sj.length
      · have HD := Lib.hid (Ints.drop_ HI.out hle)
        rw [if_pos hcn, hcn, Nat.sub_self] at HD
        subst hcn
        go_enter Tryd.func100, Tryd.ntmps100
        go_wp2_with fail
        go_quiet ((go_at_call 104; exact Calls.quiet_of (hEQ.out _)))
        go_wp2_with fail
        go_ret2
        refine ⟨.slice Ai (si.length - sj.length) 0, ?_, (Ext.refl _).drewN _, fun _ => HD.out.ext ((Ext.refl _).drewN _)⟩
        simp
        omega
      · have HD := Lib.hid (Ints.drop_ HI.out hle)
        rw [if_neg hcn] at HD
        go_enter Tryd.func100, Tryd.ntmps100
        go_wp2_with fail
        go_quiet ((go_at_call 104; exact Calls.quiet_of (hEQ.out _)))
        go_wp2_with fail
        go_ret2
        exact ⟨_, rfl, (Ext.refl _).drewN _, fun _ => HD.out.ext ((Ext.refl _).drewN _)⟩
    · have hd : decide (si.take sj.length = sj) = false := by simpa using heq
      have HQ := Lib.hid heq
      rw [hd] at hEQ ⊢
      clear heq hd
      go_enter Tryd.func100, Tryd.ntmps100
      go_wp2_with fail
      go_quiet ((go_at_call 104; exact Calls.quiet_of (hEQ.out _)))
      go_wp2_with fail
      go_ret2
      exact ⟨_, rfl, (Ext.refl _).drewN _, fun e => absurd e HQ.out⟩
  · have hg : decide (si.length < sj.length) = true := by simp; omega
    have HQ := Lib.hid (show ¬ si.take sj.length = sj from fun e => by
      have := congrArg List.length e
      simp at this
      omega)
    have hd : decide (si.take sj.length = sj) = false := by simpa using HQ.out
    rw [hd]
    clear hd
    go_enter Tryd.func100, Tryd.ntmps100
    go_wp2_with fail
    go_quiet (fail)
    go_wp2_with fail
    go_ret2
    exact ⟨_, rfl, (Ext.refl _).drewN _, fun e => absurd e HQ.out⟩

theorem within_any {w : World} {b : Nat} {lg : Int} {ls : List Ln} {fs : List (List Nd)} {st : List (List Int)} (h : Chk w b lg ls fs st) (i : Nat) (j : Int) (hi : i < st.length) :
    Calls Tryd.prog 100 #[.pointer (some ⟨b, 0, none⟩), .int .i64 i, .int .i64 j] w fun e w' => ∃ u, e = .returned (.tuple #[u, .bool (withinL st i j).isSome]) ∧ Ext w w' ∧ ∀ r, withinL st i j = some r → Ints w' u r := by
  by_cases hj : j < 0 ∨ (i : Int) ≤ j
  · refine (within_out (b := b) i j hj).mono ?_
    rintro e w' ⟨rfl, hx⟩
    have hw : withinL st i j = none := by unfold withinL; rw [if_pos hj]
    exact ⟨_, by rw [hw]; rfl, hx, fun r hr => by rw [hw] at hr; cases hr⟩
  · obtain ⟨jn, rfl⟩ := Int.eq_ofNat_of_zero_le (show 0 ≤ j by omega)
    have hji : jn < i := by omega
    have e1 : st[i]? = some (st.getD i []) := by rw [List.getD_eq_getElem?_getD, List.getElem?_eq_getElem hi]; rfl
    have e2 : st[jn]? = some (st.getD jn []) := by rw [List.getD_eq_getElem?_getD, List.getElem?_eq_getElem (show jn < st.length by omega)]; rfl
    refine (within_in h i jn _ _ e1 e2 hji).mono ?_
    rintro e w' ⟨u, rfl, hx, hr⟩
    have hw : withinL st i (jn : Int) = if (st.getD i []).take (st.getD jn []).length = st.getD jn [] then some ((st.getD i []).drop (st.getD jn []).length) else none := by
      unfold withinL
      rw [if_neg hj, Int.toNat_natCast]
    by_cases hq : (st.getD i []).take (st.getD jn []).length = st.getD jn []
    · rw [if_pos hq] at hw
      refine ⟨u, by rw [hw, decide_eq_true hq]; rfl, hx, fun r hr' => ?_⟩
      rw [hw] at hr'
      injection hr' with hr'
      subst hr'
      exact hr hq
    · rw [if_neg hq] at hw
      exact ⟨u, by rw [hw, decide_eq_false hq]; rfl, hx, fun r hr' => by rw [hw] at hr'; cases hr'⟩
end Go.Proofs.YtohoddkcpfamlaaDoor

/- natural's checker: line, one, two, named. -/

namespace Go.Proofs.YtohoddkcpfamlaaDoor
open Go.RowKit

/-- The stacks of the lines so far: the places of lines that open subproofs. -/
def StOk (ls : List Ln) (st : List (List Int)) : Prop := ∀ s ∈ st, s.length ≤ 1000 ∧ ∀ o ∈ s, 0 ≤ o ∧ o < ls.length
theorem withinL_ok {ls : List Ln} {st : List (List Int)} (h : StOk ls st) {i : Nat} {j : Int} {r : List Int} (hr : withinL st i j = some r) (hi : i < st.length) : r.length ≤ 1000 ∧ ∀ o ∈ r, 0 ≤ o ∧ o < ls.length := by
  unfold withinL at hr
  split at hr
  · cases hr
  · split at hr
    · injection hr with hr
      subst hr
      have hm : st.getD i [] ∈ st := by
        rw [List.getD_eq_getElem?_getD, List.getElem?_eq_getElem hi]
        exact List.getElem_mem hi
      obtain ⟨h1, h2⟩ := h _ hm
      exact ⟨by rw [List.length_drop]; omega, fun o ho => h2 o (List.mem_of_mem_drop ho)⟩
    · cases hr
/-- The formula of the k-th line that line i names, if it is in reach. -/
def lineL (ls : List Ln) (fs : List (List Nd)) (st : List (List Int)) (i : Nat) (j : Int) : Option (List Nd) :=
  match withinL st i j with
  | none => none
  | some r => bif (boxesL ls r).isEmpty then some (fs.getD j.toNat []) else none

theorem Chk.form {w : World} {b : Nat} {lg : Int} {ls : List Ln} {fs : List (List Nd)} {st : List (List Int)} (h : Chk w b lg ls fs st) {i : Nat} {f : List Nd} (hi : fs[i]? = some f) :
    ∃ (ad : Addr) (c : Nat) (vl vs : Value) (Ai : Option Addr) (ci : Nat), fs.length ≤ c ∧ c ≤ 9223372036854775807 ∧ ad.block < w.heap.size ∧ w.cell? ⟨b, 0, none⟩ = some (.int .i64 lg) ∧ w.cell? ⟨b, 1, none⟩ = some vl ∧ w.cell? ⟨b, 2, none⟩ = some (.slice (some ad) fs.length c) ∧ w.cell? ⟨b, 3, none⟩ = some vs ∧
      w.cell? (ad.add i) = some (.slice Ai f.length ci) ∧ Fml w (.slice Ai f.length ci) f := by
  obtain ⟨vl, vf, vs, hb, _, ⟨A, c, rfl, h1, h2, h3⟩, _⟩ := h.all
  obtain ⟨d0, d1, d2, d3, _, _⟩ := cells4 hb
  obtain ⟨ad, rfl, hlt, hc⟩ := h3 (by intro e; rw [e] at hi; simp at hi)
  obtain ⟨ui, hui, hf⟩ := hc i f hi
  obtain ⟨Ai, ci, rfl, _⟩ := fml_slice hf
  unfold maxLen at h2
  exact ⟨ad, c, vl, vs, Ai, ci, h1, by omega, hlt, d0, d1, d2, d3, hui, hf⟩

set_option maxRecDepth 100000 in
set_option maxHeartbeats 2000000 in
theorem line_any {w : World} {b : Nat} {lg : Int} {ls : List Ln} {fs : List (List Nd)} {st : List (List Int)} (h : Chk w b lg ls fs st) (hst : StOk ls st) (i k : Nat) (n : Ln) (j : Int) (hi : ls[i]? = some n) (hk : n.from_[k]? = some j) (his : i < st.length) (hif : i ≤ fs.length) :
    Calls Tryd.prog 93 #[.pointer (some ⟨b, 0, none⟩), .int .i64 i, .int .i64 (k : Int)] w fun e w' => ∃ u, e = .returned (.tuple #[u, .bool (lineL ls fs st i j).isSome]) ∧ Ext w w' ∧ ∀ f, lineL ls fs st i j = some f → Fml w' u f := by
  obtain ⟨ad, c, vf, vs, uf, ur, hc1, hc2, hlt, d0, d1, d2, d3, q0, q1, q2, q3, q4, _, ⟨Ar, cr, rfl, hir⟩⟩ := h.line hi
  obtain ⟨adr, rfl, hbr, hcr⟩ := hir.2.2 (by intro e; rw [e] at hk; simp at hk)
  have r0 := hcr k j hk
  have hkl : k < n.from_.length := (List.getElem?_eq_some_iff.1 hk).1
  have hrc := hir.1
  have hrm := hir.2.1
  unfold maxLen at hrm
  have hil : i < ls.length := (List.getElem?_eq_some_iff.1 hi).1
  have H := Lib.hid h
  have HST := Lib.hid hst
  clear h hi hk hir hcr hst
  go_enter Tryd.func93, Tryd.ntmps93
  go_wp2_with fail
  refine (within_any H.out i j his).mono ?_
  rintro e w1 ⟨u, rfl, hx1, hr1⟩
  have HX1 := Lib.hid hx1
  have HR1 := Lib.hid hr1
  clear hx1 hr1
  cases hw : withinL st i j with
  | none =>
    have HL : Hid (lineL ls fs st i j = none) := Lib.hid (by unfold lineL; rw [hw])
    clear HR1 hw
    go_wp2_with fail
    go_ret2
    exact ⟨_, by rw [HL.out]; rfl, HX1.out, fun f hf => by rw [HL.out] at hf; cases hf⟩
  | some r =>
    have HI := Lib.hid (HR1.out r hw)
    obtain ⟨hr1, hr2⟩ := withinL_ok HST.out hw his
    have HR2 := Lib.hid hr2
    have HW := Lib.hid hw
    clear HR1 hw hr2
    go_wp2_with fail
    refine (boxes_any (H.out.ext HX1.out) u r HI.out HR2.out hr1).mono ?_
    rintro e w2 ⟨ub, rfl, hmb⟩
    obtain ⟨Ab, cb, rfl, _⟩ := hmb.ints
    have HX2 := Lib.hid (HX1.out.trans hmb.2)
    clear hmb
    by_cases hbx : (boxesL ls r).length = 0
    · have hemp : boxesL ls r = [] := List.length_eq_zero_iff.1 hbx
      have hj : ¬ (j < 0 ∨ (i : Int) ≤ j) := fun e => by
        have := HW.out
        unfold withinL at this
        rw [if_pos e] at this
        cases this
      obtain ⟨jn, rfl⟩ := Int.eq_ofNat_of_zero_le (show 0 ≤ j by omega)
      have hjf : jn < fs.length := by omega
      have HL : Hid (lineL ls fs st i (jn : Int) = some (fs.getD jn [])) := Lib.hid (by unfold lineL; rw [HW.out]; simp [hemp])
      have ef : fs[jn]? = some (fs.getD jn []) := by rw [List.getD_eq_getElem?_getD, List.getElem?_eq_getElem hjf]; rfl
      obtain ⟨ad2, c2, vl2, vs2, Ai, ci, g1, g2, g3, g4, g5, g6, g7, g8, g9⟩ := (H.out.ext HX2.out).form ef
      have HF := Lib.hid g9
      rw [hbx]
      clear hemp hj ef g9 hbx
      generalize fs.getD jn [] = fj at HL HF g8
      go_wp2_with fail
      go_ret2
      exact ⟨_, by rw [HL.out]; rfl, HX2.out, fun f hf => by rw [HL.out] at hf; injection hf with hf; subst hf; exact HF.out⟩
    · have hpos0 : 0 < (boxesL ls r).length := by omega
      have HL : Hid (lineL ls fs st i j = none) := Lib.hid (by
        unfold lineL
        rw [HW.out]
        cases e : boxesL ls r with
        | nil => rw [e] at hbx; simp at hbx
        | cons a t => simp [e])
      clear hbx
      go_wp2_with fail
      go_ret2
      exact ⟨_, by rw [HL.out]; rfl, HX2.out, fun f hf => by rw [HL.out] at hf; cases hf⟩
end Go.Proofs.YtohoddkcpfamlaaDoor

/- natural's checker: named, one, two, equal, part. -/

namespace Go.Proofs.YtohoddkcpfamlaaDoor
open Go.RowKit

set_option maxRecDepth 100000 in
set_option maxHeartbeats 1000000 in
theorem named_any {w : World} {b : Nat} {lg : Int} {ls : List Ln} {fs : List (List Nd)} {st : List (List Int)} (h : Chk w b lg ls fs st) (i : Nat) (n : Ln) (m : Nat) (hi : ls[i]? = some n) :
    Calls Tryd.prog 92 #[.pointer (some ⟨b, 0, none⟩), .int .i64 i, .int .i64 (m : Int)] w fun e w' => e = .returned (.bool (decide (n.from_.length = m))) ∧ Ext w w' := by
  obtain ⟨ad, c, vf, vs, uf, ur, hc1, hc2, hlt, d0, d1, d2, d3, q0, q1, q2, q3, q4, _, ⟨Ar, cr, rfl, hir⟩⟩ := h.line hi
  have hil : i < ls.length := (List.getElem?_eq_some_iff.1 hi).1
  have hr1 := hir.1
  have hr2 := hir.2.1
  unfold maxLen at hr2
  have HB := Lib.hid (show ((n.from_.length : Int) == (m : Int)) = decide (n.from_.length = m) by
    by_cases e : n.from_.length = m
    · simp [e]
    · rw [decide_eq_false e, beq_eq_false_iff_ne]; omega)
  clear h hi hir
  go_enter Tryd.func92, Tryd.ntmps92
  go_wp2_with fail
  go_ret
  exact ⟨same_of HB.out, Ext.refl _⟩

def eqN (a b : List Nd) : Bool := decide (0 < a.length) && decide (a = b)
set_option maxRecDepth 100000 in
set_option maxHeartbeats 1000000 in
theorem equal_any (v1 v2 : Value) (l1 l2 : List Nd) (w : World) (h1 : Nds w v1 l1) (h2 : Nds w v2 l2) :
    Calls Tryd.prog 56 #[v1, v2] w fun e w' => e = .returned (.bool (eqN l1 l2)) ∧ Ext w w' := by
  have H1 := Lib.hid h1
  have H2 := Lib.hid h2
  obtain ⟨A1, c1, rfl, hcap1, hmax1, _⟩ := h1
  unfold maxLen at hmax1
  clear h2
  by_cases h0 : l1.length = 0
  · have HE := Lib.hid (show eqN l1 l2 = false by simp [eqN, h0])
    rw [h0]
    rw [h0] at H1
    clear h0
    go_enter Tryd.func56, Tryd.ntmps56
    go_wp2_with fail
    go_ret
    exact ⟨same_of HE.out.symm, Ext.refl _⟩
  · have hp : 0 < l1.length := by omega
    have HE := Lib.hid (show eqN l1 l2 = decide (l1 = l2) by simp [eqN, hp])
    clear h0
    go_enter Tryd.func56, Tryd.ntmps56
    go_wp2_with (go_at_call 52; refine (equalN_any _ _ l1 l2 _ H1.out H2.out).mono ?_; rintro e w3 ⟨rfl, hb3⟩)
    go_ret
    exact ⟨same_of HE.out.symm, hb3⟩

def partL (f : List Nd) (op : Int) : Option (List Nd × List Nd) := bif (lastN f).op == op then some (subN f (lastN f).x, subN f (lastN f).y) else none
set_option maxRecDepth 100000 in
set_option maxHeartbeats 2000000 in
theorem part_any (v : Value) (f : List Nd) (op : Int) (w : World) (h : Fml w v f) (h0 : 0 < f.length) :
    Calls Tryd.prog 96 #[v, .int .i64 op] w fun e w' => ∃ u1 u2, e = .returned (.tuple #[u1, u2, .bool (partL f op).isSome]) ∧ Ext w w' ∧ ∀ r, partL f op = some r → Fml w' u1 r.1 ∧ Fml w' u2 r.2 := by
  have H := Lib.hid h
  obtain ⟨⟨A, c, rfl, hcap, hmax, hread⟩, hok⟩ := h
  unfold maxLen at hmax
  obtain ⟨ad, rfl, hlt, hcells⟩ := hread (by intro e; rw [e] at h0; simp at h0)
  have hlast := lastN_get h0
  obtain ⟨c0, c1, c2, c3, c4, c5⟩ := hcells _ _ hlast
  have hi1 : ((f.length : Int) - 1) < (f.length : Int) := by omega
  have hi0 : (0 : Int) ≤ (f.length : Int) - 1 := by omega
  have e1 : ((f.length : Int) - 1).toNat = f.length - 1 := by omega
  clear hread hok hcells hlast
  obtain ⟨nn, hnn⟩ : ∃ nn, nn = lastN f := ⟨_, rfl⟩
  rw [← hnn] at c0 c1 c2 c3 c4 c5
  have HNN := Lib.hid hnn
  clear hnn
  by_cases hop : nn.op = op
  · have eb : (nn.op != op) = false := by simp [hop]
    have HP := Lib.hid (show partL f op = some (subN f nn.x, subN f nn.y) by unfold partL; rw [← HNN.out]; simp [hop])
    clear hop
    go_enter Tryd.func96, Tryd.ntmps96
    go_wp2_with fail
    go_region_with (first | (go_at_call_of 33 (Value.int IntKind.i64 nn.x); refine (sub_any _ f nn.x _ (by exact H.out.ext (by repeat (first | exact Ext.refl _ | assumption | apply Ext.alloc | apply Ext.drew)))).mono ?_; rintro e wa ⟨ua, rfl, hma⟩; have MA := Lib.hid hma; have hxa : Ext w wa := Ext.trans (by repeat (first | exact Ext.refl _ | assumption | apply Ext.alloc | apply Ext.drew)) hma.2.2; obtain ⟨hca, _, hza0⟩ := hma.2.2.facts; have hza : w.heap.size < wa.heap.size := (by first | omega | (simp at hza0; omega)); clear hma hza0) | (go_at_call_of 33 (Value.int IntKind.i64 nn.y); refine (sub_any _ f nn.y _ (by exact H.out.ext (by repeat (first | exact Ext.refl _ | assumption | apply Ext.alloc | apply Ext.drew)))).mono ?_; rintro e wb ⟨ub, rfl, hmb⟩; have MB := Lib.hid hmb; have hxb : Ext w wb := Ext.trans (by repeat (first | exact Ext.refl _ | assumption | apply Ext.alloc | apply Ext.drew)) hmb.2.2; obtain ⟨hcb, _, hzb0⟩ := hmb.2.2.facts; have hzb : w.heap.size < wb.heap.size := (by first | omega | (simp at hzb0; omega)); clear hmb hzb0))
    all_goals
      go_wp2_with fail
      go_ret3
      refine ⟨_, _, by rw [HP.out]; rfl, by assumption, fun r hr => ?_⟩
      rw [HP.out] at hr
      injection hr with hr
      subst hr
      first | exact ⟨(MA.out.after MB.out.2.2).fml, MB.out.fml⟩ | exact ⟨MA.out.fml, (MB.out.after MA.out.2.2).fml⟩
  · have eb : (nn.op != op) = true := by simpa using hop
    have eb2 : (nn.op == op) = false := by simpa using hop
    have HP := Lib.hid (show partL f op = none by unfold partL; rw [← HNN.out, eb2]; rfl)
    clear hop
    go_enter Tryd.func96, Tryd.ntmps96
    go_wp2_with fail
    go_ret3
    exact ⟨_, _, by rw [HP.out]; rfl, (Ext.refl _).alloc _, fun r hr => by rw [HP.out] at hr; cases hr⟩
end Go.Proofs.YtohoddkcpfamlaaDoor

/- natural's checker: one, two. -/

namespace Go.Proofs.YtohoddkcpfamlaaDoor
open Go.RowKit

def oneL (ls : List Ln) (fs : List (List Nd)) (st : List (List Int)) (i : Nat) (n : Ln) : Option (List Nd) :=
  bif decide (n.from_.length = 1) then lineL ls fs st i (n.from_.getD 0 0) else none
def twoL (ls : List Ln) (fs : List (List Nd)) (st : List (List Int)) (i : Nat) (n : Ln) : Option (List Nd × List Nd) :=
  bif decide (n.from_.length = 2) then
    match lineL ls fs st i (n.from_.getD 0 0), lineL ls fs st i (n.from_.getD 1 0) with
    | some x, some y => some (x, y)
    | _, _ => none
  else none
theorem from_get {n : Ln} {k : Nat} (h : k < n.from_.length) : n.from_[k]? = some (n.from_.getD k 0) := by
  rw [List.getD_eq_getElem?_getD, List.getElem?_eq_getElem h]; rfl

set_option maxRecDepth 100000 in
set_option maxHeartbeats 1000000 in
theorem one_any {w : World} {b : Nat} {lg : Int} {ls : List Ln} {fs : List (List Nd)} {st : List (List Int)} (h : Chk w b lg ls fs st) (hst : StOk ls st) (i : Nat) (n : Ln) (hi : ls[i]? = some n) (his : i < st.length) (hif : i ≤ fs.length) :
    Calls Tryd.prog 95 #[.pointer (some ⟨b, 0, none⟩), .int .i64 i] w fun e w' => ∃ u, e = .returned (.tuple #[u, .bool (oneL ls fs st i n).isSome]) ∧ Ext w w' ∧ ∀ f, oneL ls fs st i n = some f → Fml w' u f := by
  have H := Lib.hid h
  have HST := Lib.hid hst
  have HI := Lib.hid hi
  clear h hst hi
  have HN := Lib.hid (fun w (h : Chk w b lg ls fs st) => named_any h i n 1 HI.out)
  cases hd : decide (n.from_.length = 1)
  · have HO := Lib.hid (show oneL ls fs st i n = none by unfold oneL; rw [hd]; rfl)
    have HD := Lib.hid hd
    clear hd
    go_enter Tryd.func95, Tryd.ntmps95
    go_wp2_with fail
    refine (HN.out _ H.out).mono ?_
    rintro e w1 ⟨rfl, hx⟩
    rw [HD.out]
    go_wp2_with fail
    go_ret2
    exact ⟨_, by rw [HO.out]; rfl, hx, fun f hf => by rw [HO.out] at hf; cases hf⟩
  · obtain ⟨j, hj, ho⟩ : ∃ j, n.from_[0]? = some j ∧ oneL ls fs st i n = lineL ls fs st i j := ⟨_, from_get (n := n) (k := 0) (by have := of_decide_eq_true hd; omega), by unfold oneL; rw [hd]; rfl⟩
    have HO := Lib.hid ho
    have HK := Lib.hid hj
    clear ho hj
    have HD := Lib.hid hd
    clear hd
    go_enter Tryd.func95, Tryd.ntmps95
    go_wp2_with fail
    refine (HN.out _ H.out).mono ?_
    rintro e w1 ⟨rfl, hx⟩
    rw [HD.out]
    have HX := Lib.hid hx
    clear hx
    go_wp2_with fail
    refine (line_any (H.out.ext HX.out) HST.out i 0 n _ HI.out HK.out his hif).mono ?_
    rintro e w2 ⟨u, rfl, hx2, hf2⟩
    have HX2 := Lib.hid (HX.out.trans hx2)
    have HF2 := Lib.hid hf2
    clear hx2 hf2
    go_wp2_with fail
    go_ret2
    exact ⟨u, by rw [HO.out]; rfl, HX2.out, fun f hf => HF2.out f (by rw [← HO.out]; exact hf)⟩
/-- What a walk of a rule stands on: the checker's lists at line i. -/
structure CkOk (ls : List Ln) (fs : List (List Nd)) (st : List (List Int)) (i : Nat) (n : Ln) (fi : List Nd) : Prop where
  st_ok : StOk ls st
  n_at : ls[i]? = some n
  f_at : fs[i]? = some fi
  st_lt : i < st.length
  fs_ok : ∀ f ∈ fs, 0 < f.length ∧ Wf f
  ag : ∀ (k : Nat) (m : Ln), k < fs.length → ls[k]? = some m → i64ok m.agent
  op : ∀ (k : Nat) (m : Ln) (s : List Int), ls[k]? = some m → st[k]? = some s → opensL m = true → 0 < s.length
theorem CkOk.fs_le {ls : List Ln} {fs : List (List Nd)} {st : List (List Int)} {i : Nat} {n : Ln} {fi : List Nd} (h : CkOk ls fs st i n fi) : i ≤ fs.length := Nat.le_of_lt (List.getElem?_eq_some_iff.1 h.f_at).1

set_option maxRecDepth 100000 in
set_option maxHeartbeats 1000000 in
theorem two_any {w : World} {b : Nat} {lg : Int} {ls : List Ln} {fs : List (List Nd)} {st : List (List Int)} {i : Nat} {n : Ln} {fi : List Nd} (h : Chk w b lg ls fs st) (ok : CkOk ls fs st i n fi) :
    Calls Tryd.prog 94 #[.pointer (some ⟨b, 0, none⟩), .int .i64 i] w fun e w' => ∃ u1 u2, e = .returned (.tuple #[u1, u2, .bool (twoL ls fs st i n).isSome]) ∧ Ext w w' ∧ ∀ r, twoL ls fs st i n = some r → Fml w' u1 r.1 ∧ Fml w' u2 r.2 := by
  have H := Lib.hid h
  have OK := Lib.hid ok
  clear h ok
  cases hd : decide (n.from_.length = 2)
  · have HO := Lib.hid (show twoL ls fs st i n = none by unfold twoL; rw [hd]; rfl)
    have HD := Lib.hid hd
    clear hd
    go_enter Tryd.func94, Tryd.ntmps94
    go_wp2_with fail
    refine (named_any H.out i n 2 OK.out.n_at).mono ?_
    rintro e w1 ⟨rfl, hx⟩
    rw [HD.out]
    go_wp2_with fail
    go_ret3
    exact ⟨.slice none 0 0, .slice none 0 0, by rw [HO.out]; rfl, hx, fun f hf => by rw [HO.out] at hf; cases hf⟩
  · obtain ⟨j1, j2, hj1, hj2, ho⟩ : ∃ j1 j2, n.from_[0]? = some j1 ∧ n.from_[1]? = some j2 ∧ twoL ls fs st i n = (match lineL ls fs st i j1, lineL ls fs st i j2 with
        | some x, some y => some (x, y)
        | _, _ => none) := ⟨_, _, from_get (n := n) (k := 0) (by have := of_decide_eq_true hd; omega), from_get (n := n) (k := 1) (by have := of_decide_eq_true hd; omega), by unfold twoL; rw [hd]; rfl⟩
    have HO := Lib.hid ho
    have HK1 := Lib.hid hj1
    have HK2 := Lib.hid hj2
    have HD := Lib.hid hd
    clear ho hj1 hj2 hd
    go_enter Tryd.func94, Tryd.ntmps94
    go_wp2_with fail
    refine (named_any H.out i n 2 OK.out.n_at).mono ?_
    rintro e w1 ⟨rfl, hx⟩
    rw [HD.out]
    have HX := Lib.hid hx
    clear hx
    go_wp2_with fail
    refine (line_any (H.out.ext HX.out) OK.out.st_ok i 0 n _ OK.out.n_at HK1.out OK.out.st_lt OK.out.fs_le).mono ?_
    rintro e w2 ⟨u1, rfl, hx2, hf2⟩
    have HX2 := Lib.hid (HX.out.trans hx2)
    have HF2 := Lib.hid hf2
    clear hx2 hf2
    go_wp2_with fail
    refine (line_any (H.out.ext HX2.out) OK.out.st_ok i 1 n _ OK.out.n_at HK2.out OK.out.st_lt OK.out.fs_le).mono ?_
    rintro e w3 ⟨u2, rfl, hx3, hf3⟩
    have HX3 := Lib.hid (HX2.out.trans hx3)
    have HX23 := Lib.hid hx3
    have HF3 := Lib.hid hf3
    clear hx3 hf3
    cases e1 : lineL ls fs st i j1 with
    | none =>
      have HN : Hid (twoL ls fs st i n = none) := Lib.hid (by rw [HO.out, e1])
      clear HF2
      clear e1
      go_wp2_with fail
      go_ret3
      exact ⟨u1, u2, by rw [HN.out]; rfl, HX3.out, fun f hf => by rw [HN.out] at hf; cases hf⟩
    | some x =>
      have HFx := Lib.hid (HF2.out x e1)
      cases e2 : lineL ls fs st i j2 with
      | none =>
        have HN : Hid (twoL ls fs st i n = none) := Lib.hid (by rw [HO.out, e1, e2])
        clear HF2 HF3 e1 e2
        go_wp2_with fail
        go_ret3
        exact ⟨u1, u2, by rw [HN.out]; rfl, HX3.out, fun f hf => by rw [HN.out] at hf; cases hf⟩
      | some y =>
        have HFy := Lib.hid (HF3.out y e2)
        have HN : Hid (twoL ls fs st i n = some (x, y)) := Lib.hid (by rw [HO.out, e1, e2])
        clear HF2 HF3 e1 e2
        go_wp2_with fail
        go_ret3
        exact ⟨u1, u2, by rw [HN.out]; rfl, HX3.out, fun f hf => by rw [HN.out] at hf; injection hf with hf; subst hf; exact ⟨HFx.out.ext HX23.out, HFy.out⟩⟩
end Go.Proofs.YtohoddkcpfamlaaDoor

/- The rules of natural deduction as Lean functions of the checker's lists. -/

namespace Go.Proofs.YtohoddkcpfamlaaDoor
open Go.RowKit

/-- The last of the lines behind l that are in the subproof of o. -/
def lastF (st : List (List Int)) (o : Int) (i : Nat) : Nat → Nat → Nat
  | 0, l => l
  | k + 1, l => bif decide (l + 1 < i) && decide (o ∈ st.getD (l + 1) []) then lastF st o i k (l + 1) else l
def lastL (st : List (List Int)) (o : Nat) (i : Nat) : Nat := lastF st o i i o
/-- A closed subproof in reach. -/
def subOk (ls : List Ln) (st : List (List Int)) (i o : Nat) : Bool :=
  decide ((st.getD i []).take ((st.getD o []).length - 1) = (st.getD o []).take ((st.getD o []).length - 1)) && (!decide ((o : Int) ∈ st.getD i []) && ((boxesL ls ((st.getD i []).drop ((st.getD o []).length - 1))).isEmpty &&
    decide ((st.getD (lastL st o i) []).length = (st.getD o []).length)))
def subprL (ls : List Ln) (fs : List (List Nd)) (st : List (List Int)) (i : Nat) (o : Int) : Option (Int × List Nd) :=
  if o < 0 ∨ (i : Int) ≤ o then none else bif opensL (lineAt ls o) && subOk ls st i o.toNat then some (o, fs.getD (lastL st o.toNat i) []) else none

def assumedL (ls : List Ln) (fs : List (List Nd)) (st : List (List Int)) (i : Nat) (o : Int) : Option (List Nd × List Nd) :=
  match subprL ls fs st i o with
  | none => none
  | some r => bif (lineAt ls r.1).rule == 1 then some (fs.getD r.1.toNat [], r.2) else none
def fromAt (n : Ln) (k : Nat) : Int := n.from_.getD k 0
def asmL (ls : List Ln) (fs : List (List Nd)) (st : List (List Int)) (i : Nat) (n : Ln) : Option (List Nd × List Nd) := bif decide (n.from_.length = 1) then assumedL ls fs st i (fromAt n 0) else none
def refutesL (ls : List Ln) (fs : List (List Nd)) (st : List (List Int)) (i : Nat) (n : Ln) : Option (List Nd) :=
  match asmL ls fs st i n with
  | none => none
  | some r => bif eqN r.2 falseN then some r.1 else none
def inL (l : List Int) (lg : Int) : Bool := decide (lg ∈ l)
def copiedL (_lg : Int) (ls : List Ln) (fs : List (List Nd)) (st : List (List Int)) (i : Nat) (n : Ln) (fi : List Nd) : Bool :=
  match oneL ls fs st i n with | none => false | some x => eqN x fi
def andInL (_lg : Int) (ls : List Ln) (fs : List (List Nd)) (st : List (List Int)) (i : Nat) (n : Ln) (fi : List Nd) : Bool :=
  match twoL ls fs st i n with | none => false | some r => eqN (andN r.1 r.2) fi
def andOutL (_lg : Int) (ls : List Ln) (fs : List (List Nd)) (st : List (List Int)) (i : Nat) (n : Ln) (fi : List Nd) : Bool :=
  match oneL ls fs st i n with | none => false | some f => (match partL f 5 with | none => false | some r => eqN r.1 fi || eqN r.2 fi)
def orInL (_lg : Int) (ls : List Ln) (fs : List (List Nd)) (st : List (List Int)) (i : Nat) (n : Ln) (fi : List Nd) : Bool :=
  match oneL ls fs st i n with | none => false | some f => (match partL fi 6 with | none => false | some r => eqN r.1 f || eqN r.2 f)
def orOutL (_lg : Int) (ls : List Ln) (fs : List (List Nd)) (st : List (List Int)) (i : Nat) (n : Ln) (fi : List Nd) : Bool :=
  bif decide (n.from_.length = 3) then
    match lineL ls fs st i (fromAt n 0) with
    | none => false
    | some f => match partL f 6, assumedL ls fs st i (fromAt n 1), assumedL ls fs st i (fromAt n 2) with
      | some r, some a, some b => eqN a.1 r.1 && (eqN b.1 r.2 && (eqN a.2 fi && eqN b.2 fi))
      | _, _, _ => false
  else false
def impInL (_lg : Int) (ls : List Ln) (fs : List (List Nd)) (st : List (List Int)) (i : Nat) (n : Ln) (fi : List Nd) : Bool :=
  match asmL ls fs st i n with | none => false | some r => eqN (impN r.1 r.2) fi
def impOutL (_lg : Int) (ls : List Ln) (fs : List (List Nd)) (st : List (List Int)) (i : Nat) (n : Ln) (fi : List Nd) : Bool :=
  match twoL ls fs st i n with | none => false | some r => eqN (impN r.1 fi) r.2
def notInL (_lg : Int) (ls : List Ln) (fs : List (List Nd)) (st : List (List Int)) (i : Nat) (n : Ln) (fi : List Nd) : Bool :=
  match refutesL ls fs st i n with | none => false | some x => eqN (notN x) fi
def notOutL (_lg : Int) (ls : List Ln) (fs : List (List Nd)) (st : List (List Int)) (i : Nat) (n : Ln) (fi : List Nd) : Bool :=
  match twoL ls fs st i n with | none => false | some r => eqN (notN r.1) r.2 && eqN fi falseN
def absurdL (_lg : Int) (ls : List Ln) (fs : List (List Nd)) (st : List (List Int)) (i : Nat) (n : Ln) (fi : List Nd) : Bool :=
  match refutesL ls fs st i n with | none => false | some x => eqN (notN fi) x
def fromFalseL (_lg : Int) (ls : List Ln) (fs : List (List Nd)) (st : List (List Int)) (i : Nat) (n : Ln) (_fi : List Nd) : Bool :=
  match oneL ls fs st i n with | none => false | some x => eqN x falseN
def isTrueL (_lg : Int) (_ls : List Ln) (_fs : List (List Nd)) (_st : List (List Int)) (_i : Nat) (n : Ln) (fi : List Nd) : Bool :=
  decide (n.from_.length = 0) && eqN fi trueN
def iffL (_lg : Int) (ls : List Ln) (fs : List (List Nd)) (st : List (List Int)) (i : Nat) (n : Ln) (fi : List Nd) : Bool :=
  match twoL ls fs st i n with
  | some r => (match partL fi 8 with | none => false | some s => eqN (impN s.1 s.2) r.1 && eqN (impN s.2 s.1) r.2)
  | none => match oneL ls fs st i n with
    | none => false
    | some f => match partL f 8 with | none => false | some s => eqN (impN s.1 s.2) fi || eqN (impN s.2 s.1) fi
def knowInL (_lg : Int) (ls : List Ln) (fs : List (List Nd)) (st : List (List Int)) (i : Nat) (n : Ln) (fi : List Nd) : Bool :=
  bif decide (n.from_.length = 1) then
    match subprL ls fs st i (fromAt n 0) with
    | none => false
    | some r => (lineAt ls r.1).rule == 2 && eqN (knowN (lineAt ls r.1).agent r.2) fi
  else false
def innerN (f : List Nd) : Nd := bif (lastN f).op == 4 then f.getD (lastN f).x.toNat Nd.zero else lastN f
def impAt (lg : Int) (f : List Nd) (a : Int) (fi : List Nd) : Bool :=
  bif (lastN f).op == 9 && (lastN f).i == a then eqN (subN f (lastN f).x) fi || (inL [3, 4, 5, 6] lg && eqN f fi)
  else bif ((lastN f).op == 10 && (lastN f).i == a) || ((lastN f).op == 4 && ((innerN f).op == 9 && (innerN f).i == a)) then inL [5, 6] lg && eqN f fi else false
def importedL (lg : Int) (ls : List Ln) (fs : List (List Nd)) (st : List (List Int)) (i : Nat) (n : Ln) (fi : List Nd) : Bool :=
  bif decide (n.from_.length = 1) then
    match withinL st i (fromAt n 0) with
    | none => false
    | some r => match boxesL ls r with
      | [o] => impAt lg (fs.getD (fromAt n 0).toNat []) (lineAt ls o).agent fi
      | _ => false
  else false
def knowTL (lg : Int) (ls : List Ln) (fs : List (List Nd)) (st : List (List Int)) (i : Nat) (n : Ln) (fi : List Nd) : Bool :=
  match oneL ls fs st i n with | none => false | some f => bif inL [2, 4, 6] lg then (match partL f 9 with | none => false | some r => eqN r.1 fi) else false
def isDualL (f g : List Nd) : Bool := bif (lastN f).op == 10 then eqN (notN (knowN (lastN f).i (notN (subN f (lastN f).x)))) g else false
def dualL (_lg : Int) (ls : List Ln) (fs : List (List Nd)) (st : List (List Int)) (i : Nat) (n : Ln) (fi : List Nd) : Bool :=
  match oneL ls fs st i n with | none => false | some f => isDualL f fi || isDualL fi f
def serialL (lg : Int) (ls : List Ln) (fs : List (List Nd)) (st : List (List Int)) (i : Nat) (n : Ln) (fi : List Nd) : Bool :=
  match oneL ls fs st i n with | none => false | some f => bif inL [1, 5] lg then (lastN f).op == 9 && eqN (possN (lastN f).i (subN f (lastN f).x)) fi else false
theorem Chk.blt {w : World} {b : Nat} {lg : Int} {ls : List Ln} {fs : List (List Nd)} {st : List (List Int)} (h : Chk w b lg ls fs st) : b < w.heap.size := by
  obtain ⟨_, _, _, hb, _⟩ := h.all
  exact lt_heap hb
theorem oneL_no {ls : List Ln} {fs : List (List Nd)} {st : List (List Int)} {i : Nat} {n : Ln} (h : decide (n.from_.length = 1) = false) : oneL ls fs st i n = none := by unfold oneL; rw [h]; rfl
theorem oneL_yes {ls : List Ln} {fs : List (List Nd)} {st : List (List Int)} {i : Nat} {n : Ln} (h : decide (n.from_.length = 1) = true) : n.from_[0]? = some (fromAt n 0) ∧ oneL ls fs st i n = lineL ls fs st i (fromAt n 0) :=
  ⟨from_get (by have := of_decide_eq_true h; omega), by unfold oneL fromAt; rw [h]; rfl⟩
theorem asmL_no {ls : List Ln} {fs : List (List Nd)} {st : List (List Int)} {i : Nat} {n : Ln} (h : decide (n.from_.length = 1) = false) : asmL ls fs st i n = none := by unfold asmL; rw [h]; rfl
theorem asmL_yes {ls : List Ln} {fs : List (List Nd)} {st : List (List Int)} {i : Nat} {n : Ln} (h : decide (n.from_.length = 1) = true) : n.from_[0]? = some (fromAt n 0) ∧ asmL ls fs st i n = assumedL ls fs st i (fromAt n 0) :=
  ⟨from_get (by have := of_decide_eq_true h; omega), by unfold asmL; rw [h]; rfl⟩
theorem from_at {n : Ln} {k m : Nat} (h : decide (n.from_.length = m) = true) (hk : k < m) : n.from_[k]? = some (fromAt n k) := from_get (by have := of_decide_eq_true h; omega)
theorem lineL_mem {ls : List Ln} {fs : List (List Nd)} {st : List (List Int)} {i : Nat} {j : Int} {f : List Nd} (h : lineL ls fs st i j = some f) (hif : i ≤ fs.length) : f ∈ fs := by
  unfold lineL at h
  split at h
  · cases h
  · rename_i r hr
    have hj : ¬ (j < 0 ∨ (i : Int) ≤ j) := fun e => by unfold withinL at hr; rw [if_pos e] at hr; cases hr
    cases hb : (boxesL ls r).isEmpty
    · rw [hb] at h; cases h
    · rw [hb] at h
      injection h with h
      subst h
      rw [List.getD_eq_getElem?_getD, List.getElem?_eq_getElem (show j.toNat < fs.length by omega)]
      exact List.getElem_mem _
theorem oneL_mem {ls : List Ln} {fs : List (List Nd)} {st : List (List Int)} {i : Nat} {n : Ln} {f : List Nd} (h : oneL ls fs st i n = some f) (hif : i ≤ fs.length) : f ∈ fs := by
  unfold oneL at h
  cases hd : decide (n.from_.length = 1)
  · rw [hd] at h; cases h
  · rw [hd] at h
    exact lineL_mem h hif
end Go.Proofs.YtohoddkcpfamlaaDoor
