/- Slices of integers; slices.Equal, Index, Contains at integers. -/
import Derived.Test.YtipnbfbakohcaaaDoorRefSame
namespace Go.Proofs.YtipnbfbakohcaaaDoor
open Go.RowKit

def IntsAt (w : World) (A : Option Addr) (c : Nat) (l : List Int) : Prop :=
  l.length ≤ c ∧ c ≤ maxLen ∧ (l ≠ [] → ∃ ad, A = some ad ∧ ad.block < w.heap.size ∧ ∀ k z, l[k]? = some z → w.cell? (ad.add k) = some (.int .i64 z))
def Ints (w : World) (v : Value) (l : List Int) : Prop := ∃ A c, v = .slice A l.length c ∧ IntsAt w A c l
theorem IntsAt.ext {w w' : World} {A : Option Addr} {c : Nat} {l : List Int} (h : IntsAt w A c l) (he : Ext w w') : IntsAt w' A c l :=
  ⟨h.1, h.2.1, fun hn => by
    obtain ⟨ad, e, hlt, hc⟩ := h.2.2 hn
    exact ⟨ad, e, Nat.lt_of_lt_of_le hlt he.size, fun k z hk => (he.cell (by rw [block_of_add]; exact hlt)).trans (hc k z hk)⟩⟩
theorem Ints.ext {w w' : World} {v : Value} {l : List Int} (h : Ints w v l) (he : Ext w w') : Ints w' v l := by
  obtain ⟨A, c, e, h⟩ := h
  exact ⟨A, c, e, h.ext he⟩
theorem Ints.none_ (w : World) : Ints w (.slice none 0 0) [] := ⟨none, 0, rfl, Nat.le_refl _, by unfold maxLen; omega, fun h => absurd rfl h⟩
theorem ints_of_row {w : World} {base : Nat} {v : Value} {l : List Int} (h : w.ownsRow base 3 1 v l.length (l.map (Value.int .i64))) : Ints w v l := by
  by_cases h0 : 0 < l.length
  · obtain ⟨g, cap, rfl, hg, hc, hm, hcell⟩ := done_cells h h0
    exact ⟨_, _, rfl, hc, hm, fun _ => ⟨_, rfl, hg, fun k z hk => by rw [addr_zero]; exact (hcell k z hk).1⟩⟩
  · have e : l = [] := List.length_eq_zero_iff.1 (by omega)
    subst e
    rcases h.2 with ⟨rfl, _⟩ | ⟨g, cap, cur, rfl, _, _, hn, hm, _⟩
    · exact Ints.none_ w
    · exact ⟨_, cap, rfl, Nat.zero_le _, hm, fun h => absurd rfl h⟩

def MadeInts (w w' : World) (v : Value) (l : List Int) : Prop := w'.ownsRow w.heap.size 3 1 v l.length (l.map (Value.int .i64)) ∧ Ext w w'
theorem MadeInts.ints {w w' : World} {v : Value} {l : List Int} (h : MadeInts w w' v l) : Ints w' v l := ints_of_row h.1

theorem drewN_more {w wr : World} (h : ∃ m, wr = w.drewN m) (n : Nat) : ∃ m, wr.drewN n = w.drewN m := by
  obtain ⟨m, e⟩ := h
  exact ⟨m + n, by rw [e, World.drewN_drewN]⟩
set_option maxRecDepth 100000 in
set_option maxHeartbeats 1000000 in
theorem equalI_q (v1 v2 : Value) (l1 l2 : List Int) (w : World) (h1 : Ints w v1 l1) (h2 : Ints w v2 l2) :
    Calls Tryd.prog 129 #[v1, v2] w fun e w' => e = .returned (.bool (decide (l1 = l2))) ∧ ∃ m, w' = w.drewN m := by
  obtain ⟨A1, c1, rfl, hcap1, hmax1, hr1⟩ := h1
  obtain ⟨A2, c2, rfl, hcap2, hmax2, hr2⟩ := h2
  unfold maxLen at hmax1 hmax2
  by_cases hl : l1.length = l2.length
  · have HR1 := Lib.hid hr1
    have HR2 := Lib.hid hr2
    have HL := Lib.hid hl
    have eb : ((l1.length : Int) != (l2.length : Int)) = false := by simp [hl]
    clear hr1 hr2 hl
    go_enter Tryd.func129, Tryd.ntmps129
    go_wp2_with fail
    go_loopw [13] (fun i wr => ∃ k : Nat, k ≤ l1.length ∧ i = .int .i64 k ∧ Hid (l1.take k = l2.take k) ∧ Hid (∃ m, wr = w.drewN m)) (fun i _ => l1.length - (intOf i).toNat)
    case atStart => exact ⟨0, Nat.zero_le _, rfl, Lib.hid rfl, Lib.hid ⟨0, rfl⟩⟩
    case round =>
      obtain ⟨k, hk, rfl, htk, HQ⟩ := hrel
      have hext : Ext w wr := (by obtain ⟨m, e⟩ := HQ.out; rw [e]; exact (Ext.refl _).drewN _)
      by_cases hlt2 : k < l1.length
      · have hlt3 : k < l2.length := by have := HL.out; omega
        obtain ⟨a, ha⟩ : ∃ a, l1[k]? = some a := ⟨_, List.getElem?_eq_getElem hlt2⟩
        obtain ⟨b, hb⟩ : ∃ b, l2[k]? = some b := ⟨_, List.getElem?_eq_getElem hlt3⟩
        obtain ⟨ad1, rfl, hb1, hc1⟩ := HR1.out (by intro e; rw [e] at hlt2; simp at hlt2)
        obtain ⟨ad2, rfl, hb2, hc2⟩ := HR2.out (by intro e; rw [e] at hlt3; simp at hlt3)
        have a0 := (hext.cell (p := ad1.add k) (by rw [block_of_add]; exact hb1)).trans (hc1 k a ha)
        have b0 := (hext.cell (p := ad2.add k) (by rw [block_of_add]; exact hb2)).trans (hc2 k b hb)
        have hi0 : (0 : Int) ≤ (k : Int) := by omega
        have hi1 : (k : Int) < (l1.length : Int) := by omega
        have hi2 : (k : Int) < (l2.length : Int) := by omega
        have HA := Lib.hid ha
        have HB := Lib.hid hb
        clear ha hb hc1 hc2
        by_cases hab : a = b
        · have hd : (a != b) = false := by simpa using hab
          have HT : Hid (l1.take (k + 1) = l2.take (k + 1)) := Lib.hid (by rw [take_succ_eq HA.out, take_succ_eq HB.out, htk.out, hab])
          clear hab
          go_wp2_with fail
          go_quiet (fail)
          go_wp2_with fail
          go_roundw
          case rel => exact ⟨k + 1, by omega, by go_num, HT, Lib.hid (drewN_more HQ.out _)⟩
          case measure => simp [intOf]; omega
        · have hd : (a != b) = true := by simpa using hab
          have HR : Hid (decide (l1 = l2) = false) := Lib.hid (decide_eq_false (lists_differ HA.out HB.out hab))
          clear hab
          go_wp2_with fail
          go_quiet (fail)
          go_wp2_with fail
          go_ret
          exact ⟨by rw [HR.out]; rfl, drewN_more HQ.out _⟩
      · obtain rfl : l1.length = k := by omega
        have HR : Hid (decide (l1 = l2) = true) := Lib.hid (decide_eq_true (by
          have h := htk.out
          rw [List.take_of_length_le (Nat.le_refl _), HL.out, List.take_of_length_le (Nat.le_refl _)] at h
          exact h))
        go_wp2_with fail
        go_ret
        exact ⟨by rw [HR.out]; rfl, HQ.out⟩
  · have eb : ((l1.length : Int) != (l2.length : Int)) = true := by simp; omega
    have HR : Hid (decide (l1 = l2) = false) := Lib.hid (decide_eq_false fun e => hl (by rw [e]))
    clear hl hr1 hr2
    go_enter Tryd.func129, Tryd.ntmps129
    go_wp2_with fail
    go_ret
    exact ⟨by rw [HR.out]; rfl, 0, rfl⟩

theorem equalI_any (v1 v2 : Value) (l1 l2 : List Int) (w : World) (h1 : Ints w v1 l1) (h2 : Ints w v2 l2) :
    Calls Tryd.prog 129 #[v1, v2] w fun e w' => e = .returned (.bool (decide (l1 = l2))) ∧ Ext w w' :=
  (equalI_q v1 v2 l1 l2 w h1 h2).mono fun _ _ ⟨he, m, hm⟩ => ⟨he, by rw [hm]; exact (Ext.refl _).drewN _⟩

/-- The first place of a number, or -1. -/
def indexI (l : List Int) (x : Int) : Int := bif decide (x ∈ l) then (l.idxOf x : Nat) else -1
theorem idxOf_firstI : ∀ {o : List Int} {k : Nat} {a x : Int}, o[k]? = some a → a = x → x ∉ o.take k → o.idxOf x = k
  | [], k, a, x, h, _, _ => by simp at h
  | b :: r, 0, a, x, h, hab, _ => by
    simp only [List.getElem?_cons_zero, Option.some.injEq] at h
    subst h hab
    simp
  | b :: r, k + 1, a, x, h, hab, hn => by
    simp only [List.take_succ_cons, List.mem_cons, not_or] at hn
    have ih := idxOf_firstI (o := r) (k := k) (a := a) (x := x) (by simpa using h) hab hn.2
    have hb : (b == x) = false := by rw [beq_eq_false_iff_ne]; exact fun e => hn.1 e.symm
    rw [List.idxOf_cons, hb, ih]
    rfl

set_option maxRecDepth 100000 in
set_option maxHeartbeats 1000000 in
theorem indexI_any (v : Value) (l : List Int) (x : Int) (w : World) (h : Ints w v l) :
    Calls Tryd.prog 131 #[v, .int .i64 x] w fun e w' => e = .returned (.int .i64 (indexI l x)) ∧ Ext w w' := by
  obtain ⟨A, c, rfl, hcap, hmax, hr⟩ := h
  unfold maxLen at hmax
  have HR := Lib.hid hr
  clear hr
  go_enter Tryd.func131, Tryd.ntmps131
  go_wp2_with fail
  go_loopw [8] (fun i wr => ∃ k : Nat, k ≤ l.length ∧ i = .int .i64 k ∧ Hid (x ∉ l.take k) ∧ Ext w wr) (fun i _ => l.length - (intOf i).toNat)
  case atStart => exact ⟨0, Nat.zero_le _, rfl, Lib.hid (by simp), Ext.refl _⟩
  case round =>
    obtain ⟨k, hk, rfl, HNI, hext⟩ := hrel
    by_cases hlt2 : k < l.length
    · obtain ⟨a, ha⟩ : ∃ a, l[k]? = some a := ⟨_, List.getElem?_eq_getElem hlt2⟩
      obtain ⟨ad, rfl, hb1, hc1⟩ := HR.out (by intro e; rw [e] at hlt2; simp at hlt2)
      have a0 := (hext.cell (p := ad.add k) (by rw [block_of_add]; exact hb1)).trans (hc1 k a ha)
      have HA := Lib.hid ha
      clear ha hc1
      by_cases hab : x = a
      · have hd : (x == a) = true := by simpa using hab
        have HIX : Hid (indexI l x = k) := Lib.hid (by
          have hm : x ∈ l := by rw [hab]; exact List.mem_of_getElem? HA.out
          simp [indexI, hm, idxOf_firstI HA.out hab.symm HNI.out])
        clear hab
        go_wp2_with fail
        go_ret
        exact ⟨ret_int (by rw [HIX.out]), hext⟩
      · have hd : (x == a) = false := by simpa using hab
        have HT : Hid (x ∉ l.take (k + 1)) := Lib.hid (by rw [take_succ_eq HA.out]; simp [HNI.out, hab])
        clear hab
        go_wp2_with fail
        go_roundw
        case rel => exact ⟨k + 1, by omega, by go_num, HT, hext⟩
        case measure => simp [intOf]; omega
    · obtain rfl : l.length = k := by omega
      have HIX : Hid (indexI l x = -1) := Lib.hid (by
        have hm := HNI.out
        rw [List.take_of_length_le (Nat.le_refl _)] at hm
        simp [indexI, hm])
      go_wp2_with fail
      go_ret
      exact ⟨ret_int (by rw [HIX.out]), hext⟩

set_option maxHeartbeats 400000 in
theorem containsI_any (v : Value) (l : List Int) (x : Int) (w : World) (h : Ints w v l) :
    Calls Tryd.prog 130 #[v, .int .i64 x] w fun e w' => e = .returned (.bool (decide (x ∈ l))) ∧ Ext w w' := by
  have H := Lib.hid h
  clear h
  have HX : Hid (decide (0 ≤ indexI l x) = decide (x ∈ l)) := Lib.hid (by
    by_cases hm : x ∈ l
    · simp [indexI, hm]
    · simp [indexI, hm])
  go_enter Tryd.func130, Tryd.ntmps130
  go_wp2_with (go_at_call 131; refine (indexI_any _ l x _ H.out).mono ?_; rintro e w3 ⟨rfl, hb3⟩)
  go_ret
  exact ⟨same_of HX.out, hb3⟩
end Go.Proofs.YtipnbfbakohcaaaDoor
