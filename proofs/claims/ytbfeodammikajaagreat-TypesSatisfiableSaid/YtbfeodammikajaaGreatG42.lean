/- Eliminations read from a call's arguments. -/
import Derived.Test.YtbfeodammikajaaGreatG41
import Derived.Test.YtbfeodammikajaaGreatG25

namespace Go.Proofs.YtbfeodammikajaaGreat
open Go.ChangeShapes Go.WideShapes Go.ChangeAt Go.RowKit Go.Joins

section
variable {H : Type} {enc : TypeId × Value → H} {w : World} {spare : Nat → Bool} {held : Bool}
theorem ints_ok_of_trod {fuel : Nat} {v : Value} {y : DataW H × List MemPlace} (h : DataW.trod enc Tryz.prog w 0 spare held fuel 28 [v] = some y) : ∃ l, Ints w v l ∧ ∀ i ∈ l, i64ok i := by
  rcases open_ints Tryz.underlying28 Tryz.underlying3 (by kernel_rfl) h with ⟨hc, _⟩ | ⟨a, len, cap, zs, hc, _, hl, hm, hz, _, hcell, hwf⟩
  · injection hc with hc _
    subst hc
    exact ⟨[], Ints.none_ w, fun i hi => by cases hi⟩
  · injection hc with hc _
    subst hc
    have hzl : len ≤ zs.length := by rw [hz]; split <;> omega
    have el : (zs.take len).length = len := by simp; omega
    have hcl : ∀ k z, (zs.take len)[k]? = some z → w.cell? (a.add k) = some (.int .i64 z) := fun k z hk => by
      rw [List.getElem?_take] at hk
      split at hk
      · have hk' := (List.getElem?_eq_some_iff.1 hk).1
        rw [hcell k hk', List.getD_eq_getElem?_getD, hk]; rfl
      · cases hk
    refine ⟨zs.take len, ⟨some a, cap, by rw [el], by rw [el]; exact hl, hm, fun hne => ⟨a, rfl, ?_, hcl⟩⟩, fun i hi => i64_of_wf (hwf i (List.mem_of_mem_take hi))⟩
    obtain ⟨z, hz0⟩ : ∃ z, (zs.take len)[0]? = some z := by
      cases hq : zs.take len with
      | nil => exact absurd hq hne
      | cons x t => exact ⟨x, rfl⟩
    have := World.block_lt_of_cell? w _ (hcl 0 z hz0)
    rwa [block_of_add] at this
theorem u64s_of_trod {fuel : Nat} {v : Value} {y : DataW H × List MemPlace} (h : DataW.trod enc Tryz.prog w 0 spare held fuel 27 [v] = some y) : ∃ l, U64s w v l := by
  rcases open_ints Tryz.underlying27 Tryz.underlying40 (by kernel_rfl) h with ⟨hc, _⟩ | ⟨a, len, cap, zs, hc, _, hl, hm, hz, _, hcell, hwf⟩
  · injection hc with hc _
    subst hc
    exact ⟨[], u64s_nil w⟩
  · injection hc with hc _
    subst hc
    have hzl : len ≤ zs.length := by rw [hz]; split <;> omega
    have el : ((zs.take len).map Int.toNat).length = len := by simp; omega
    have hcl : ∀ (k z : Nat), ((zs.take len).map Int.toNat)[k]? = some z → w.cell? (a.add k) = some (.int .u64 (z : Int)) := fun k z hk => by
      rw [List.getElem?_map, List.getElem?_take] at hk
      split at hk
      · cases hq : zs[k]? with
        | none => rw [hq] at hk; cases hk
        | some q =>
          rw [hq] at hk
          obtain rfl : q.toNat = z := by simpa using hk
          have hk' := (List.getElem?_eq_some_iff.1 hq).1
          have hq0 := (u64_of_wf (hwf q (List.mem_of_getElem? hq))).1
          rw [hcell k hk', List.getD_eq_getElem?_getD, hq, Int.toNat_of_nonneg hq0]; rfl
      · cases hk
    refine ⟨_, some a, cap, by rw [el], by rw [el]; exact hl, hm, fun hne => ⟨a, rfl, ?_, hcl⟩⟩
    obtain ⟨z, hz0⟩ : ∃ z, ((zs.take len).map Int.toNat)[0]? = some z := by
      cases hq : (zs.take len).map Int.toNat with
      | nil => exact absurd hq hne
      | cons x t => exact ⟨x, rfl⟩
    have := World.block_lt_of_cell? w _ (hcl 0 z hz0)
    rwa [block_of_add] at this
set_option maxRecDepth 100000 in
theorem fml_of_arg {v : Value} {d : DataW H} {p : List MemPlace} (h : DataW.Trod enc Tryz.prog w 0 spare held 22 v d p) (hv : ∃ a len cap, v = .slice a len cap) : ∃ l, Fml w v l := by
  obtain ⟨a, len, cap, rfl⟩ := hv
  obtain ⟨fuel, hf⟩ := h
  exact fml_of_trod hf
set_option maxRecDepth 100000 in
theorem elm_of_arg {r : Reach} {b0 : Nat} {v : Value} {d : DataW H} {p : List MemPlace} (hv : Value.okWide Tryz.prog w r b0 30 v) (h : DataW.Trod enc Tryz.prog w 0 spare held 30 v d p) : ∃ lg ts ws, Elm w v lg ts ws ∧ ∀ i ∈ ws, i64ok i := by
  obtain ⟨v0, v1, v2, y0, y1, y2, n, rfl, _, _, t0, t1, t2⟩ := open_agg3 Tryz.underlying30 (by kernel_rfl) (by kernel_rfl) hv h
  obtain ⟨lg, rfl, _⟩ := int_of_trod t0
  obtain ⟨ts, hts⟩ := u64s_of_trod t1
  obtain ⟨ws, hws, hok⟩ := ints_ok_of_trod t2
  exact ⟨lg, ts, ws, ⟨_, _, rfl, hts, hws⟩, hok⟩
end
end Go.Proofs.YtbfeodammikajaaGreat
