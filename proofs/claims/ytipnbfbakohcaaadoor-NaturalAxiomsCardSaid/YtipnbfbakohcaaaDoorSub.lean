/- formula.Sub and formula.Compact. -/
import Derived.Test.YtipnbfbakohcaaaDoorCompact3
import Derived.Test.YtipnbfbakohcaaaDoorSpecSub
namespace Go.Proofs.YtipnbfbakohcaaaDoor
open Go.RowKit

/-- A formula's value: it reads as a list of nodes whose fields are integers of Go's. -/
def Fml (w : World) (v : Value) (l : List Nd) : Prop := Nds w v l ∧ ∀ n ∈ l, n.ok
/-- A list of nodes that a call has made. -/
def Made (w w' : World) (v : Value) (l : List Nd) : Prop := w'.ownsRow w.heap.size 60 6 v l.length (l.flatMap Nd.cells) ∧ (∀ n ∈ l, n.ok) ∧ Ext w w'
theorem Fml.ext {w w' : World} {v : Value} {l : List Nd} (h : Fml w v l) (he : Ext w w') : Fml w' v l := ⟨h.1.ext he, h.2⟩

theorem flat_get : ∀ (l : List Nd) (k : Nat) (n : Nd) (j : Nat), l[k]? = some n → j < 6 → (l.flatMap Nd.cells)[k * 6 + j]? = n.cells[j]?
  | [], k, n, j, h, _ => by simp at h
  | m :: r, 0, n, j, h, hj => by
    simp only [List.getElem?_cons_zero, Option.some.injEq] at h
    subst h
    rw [List.flatMap_cons, List.getElem?_append_left (by simp [Nd.cells]; omega)]
    simp
  | m :: r, k + 1, n, j, h, hj => by
    rw [List.flatMap_cons, List.getElem?_append_right (by simp [Nd.cells]; omega)]
    have e : (k + 1) * 6 + j - m.cells.length = k * 6 + j := by simp [Nd.cells]; omega
    rw [e]
    exact flat_get r k n j (by simpa using h) hj

theorem nds_of_row {w : World} {base : Nat} {v : Value} {l : List Nd} (h : w.ownsRow base 60 6 v l.length (l.flatMap Nd.cells)) : Nds w v l := by
  have hc0 := h
  obtain ⟨_, h2⟩ := h
  rcases h2 with ⟨rfl, h0⟩ | ⟨g, cap, cur, rfl, hb, hg, hn, hcap, hsz, htk⟩
  · have : l = [] := List.length_eq_zero_iff.1 h0
    subst this
    exact ⟨none, 0, rfl, Nat.le_refl _, by unfold maxLen; omega, fun h => absurd rfl h⟩
  · refine ⟨some ⟨g, 0, none⟩, cap, rfl, hn, hcap, fun hne => ⟨_, rfl, lt_heap hg, fun k n hk => ?_⟩⟩
    have hkl : k < l.length := (List.getElem?_eq_some_iff.1 hk).1
    have cell : ∀ j, j < 6 → ∀ u, n.cells[j]? = some u → w.cell? ⟨g, k * 6 + j, none⟩ = some u := by
      intro j hj u hu
      have h1 := flat_get l k n j hk hj
      rw [← htk, hu] at h1
      have h2 : cur[k * 6 + j]? = some u := by
        rw [List.getElem?_take] at h1
        split at h1
        · simpa using h1
        · cases h1
      simp [World.cell?, hg, h2]
    have e0 : ((⟨g, 0, none⟩ : Addr).add (k * 6)) = ⟨g, k * 6, none⟩ := by
      unfold Addr.add
      split
      · rename_i h; rw [h]
      · simp
    rw [e0]
    exact ⟨cell 0 (by omega) _ rfl, cell 1 (by omega) _ rfl, cell 2 (by omega) _ rfl, cell 3 (by omega) _ rfl, cell 4 (by omega) _ rfl, cell 5 (by omega) _ rfl⟩
theorem Made.fml {w w' : World} {v : Value} {l : List Nd} (h : Made w w' v l) : Fml w' v l := ⟨nds_of_row h.1, h.2.1⟩
theorem Made.ext {w w' : World} {v : Value} {l : List Nd} (h : Made w w' v l) : Ext w w' := h.2.2
theorem Made.none_ (w : World) : Made w w (.slice none 0 0) [] := ⟨World.ownsRow_nil _ _ _ _, by simp, Ext.refl _⟩
theorem row_base {w : World} {b b' : Nat} {e : TypeId} {size n : Nat} {v : Value} {xs : List Value} (h : w.ownsRow b e size v n xs) (hb : b' ≤ b) : w.ownsRow b' e size v n xs := by
  obtain ⟨h1, h2⟩ := h
  refine ⟨h1, ?_⟩
  rcases h2 with h2 | ⟨g, cap, cur, e, h3, h4⟩
  · exact .inl h2
  · exact .inr ⟨g, cap, cur, e, Nat.le_trans hb h3, h4⟩
theorem Made.before {w0 w w' : World} {v : Value} {l : List Nd} (h : Made w w' v l) (he : Ext w0 w) : Made w0 w' v l := ⟨row_base h.1 he.size, h.2.1, he.trans h.2.2⟩
theorem Made.after {w w' w2 : World} {v : Value} {l : List Nd} (h : Made w w' v l) (he : Ext w' w2) : Made w w2 v l :=
  ⟨row_keep h.1 fun g hg => he.block (h.1.lt g hg).2, h.2.1, h.2.2.trans he⟩

set_option maxHeartbeats 400000 in
theorem sub_any (v : Value) (l : List Nd) (z : Int) (w : World) (h : Fml w v l) :
    Calls Tryd.prog 44 #[v, .int .i64 z] w fun e w' => ∃ u, e = .returned u ∧ Made w w' u (subN l z) := by
  have H := Lib.hid h
  obtain ⟨⟨A, c, rfl, hat⟩, hok⟩ := h
  have HAT := Lib.hid hat
  clear hat hok
  by_cases hbad : check l ≠ 0 ∨ z < 0 ∨ (l.length : Int) ≤ z
  · have HR := Lib.hid (show subN l z = [] by
      unfold subN
      rcases hbad with h | h | h
      · have : (check l != 0) = true := by simpa using h
        rw [this]; rfl
      · simp [h]
      · simp [h])
    by_cases hc : check l = 0
    · have hbad' : z < 0 ∨ (l.length : Int) ≤ z := by
        rcases hbad with h | h
        · exact absurd hc h
        · exact h
      have HC := Lib.hid hc
      clear hc hbad
      by_cases hz : z < 0
      · clear hbad'
        go_enter Tryd.func44, Tryd.ntmps44
        go_wp2_with (go_at_call 16; refine (check_any _ l _ H.out.1).mono ?_; rintro e w1 ⟨rfl, hb⟩; rw [HC.out])
        go_ret
        exact ⟨_, rfl, by rw [HR.out]; exact (Made.none_ _).after hb⟩
      · have hl : (l.length : Int) ≤ z := by omega
        clear hbad'
        go_enter Tryd.func44, Tryd.ntmps44
        go_wp2_with (go_at_call 16; refine (check_any _ l _ H.out.1).mono ?_; rintro e w1 ⟨rfl, hb⟩; rw [HC.out])
        go_ret
        exact ⟨_, rfl, by rw [HR.out]; exact (Made.none_ _).after hb⟩
    · have hb1 : (check l != 0) = true := by simpa using hc
      clear hbad hc
      go_enter Tryd.func44, Tryd.ntmps44
      go_wp2_with (go_at_call 16; refine (check_any _ l _ H.out.1).mono ?_; rintro e w1 ⟨rfl, hb⟩)
      go_ret
      exact ⟨_, rfl, by rw [HR.out]; exact (Made.none_ _).after hb⟩
  · have hc : check l = 0 := by
      by_cases e : check l = 0
      · exact e
      · exact absurd (.inl e) hbad
    have hz0 : 0 ≤ z := by
      by_cases e : z < 0
      · exact absurd (.inr (.inl e)) hbad
      · omega
    have hz1 : z < l.length := by
      by_cases e : (l.length : Int) ≤ z
      · exact absurd (.inr (.inr e)) hbad
      · omega
    clear hbad
    obtain ⟨r, rfl⟩ := Int.eq_ofNat_of_zero_le hz0
    have hr : r < l.length := by omega
    have HR := Lib.hid (show subN l r = (finN l r []).1 by
      unfold subN
      rw [hc]
      have h1 : decide ((r : Int) < 0) = false := by simp
      have h2 : decide ((l.length : Int) ≤ (r : Int)) = false := by simp; omega
      rw [h1, h2]
      rfl)
    have HC := Lib.hid hc
    have HL := (check_parts hc).2.1
    clear hc
    go_enter Tryd.func44, Tryd.ntmps44
    go_wp2_with (go_at_call 16; refine (check_any _ l _ H.out.1).mono ?_; rintro e w1 ⟨rfl, hb⟩; rw [HC.out])
    have HB := Lib.hid hb
    clear hb
    refine (compact_any l A c r _ (check_wf HC.out) H.out.2 (by omega) hr (HAT.out.ext HB.out)).mono ?_
    rintro e w2 ⟨u, rfl, hrow, hoks, hext⟩
    have HM := Lib.hid (show Made w w2 u (subN l r) by rw [HR.out]; exact Made.before ⟨hrow, hoks, hext⟩ HB.out)
    clear hrow hoks hext
    go_wp2_with fail
    go_ret
    exact ⟨_, rfl, HM.out⟩

set_option maxHeartbeats 400000 in
theorem compactF_any (v : Value) (l : List Nd) (w : World) (h : Fml w v l) :
    Calls Tryd.prog 28 #[v] w fun e w' => ∃ u, e = .returned u ∧ Made w w' u (compactN l) := by
  have H := Lib.hid h
  obtain ⟨⟨A, c, rfl, hat⟩, hok⟩ := h
  have hl := hat.1
  have hm := hat.2.1
  unfold maxLen at hm
  clear hat hok
  go_enter Tryd.func28, Tryd.ntmps28
  go_wp2_with fail
  refine (sub_any _ l _ _ H.out).mono ?_
  rintro e w2 ⟨u, rfl, hm⟩
  have HM := Lib.hid hm
  clear hm
  go_wp2_with fail
  go_ret
  exact ⟨_, rfl, HM.out⟩
end Go.Proofs.YtipnbfbakohcaaaDoor
