/- Arguments read: formulas, integers, refutations; what a law's call leaves as it was. -/
import Derived.Test.YtfcmdiigfgbgbaaRows
import Derived.Test.YtfcmdiigfgbgbaaGB
import Derived.Deep.Slices
import Derived.Deep.Fields
import Derived.ChangeSame
import Derived.ProofKit
import Derived.OpenShut
import Derived.Lib.SmallJoins
import Derived.SevenTiedAt
import Derived.Stop.Joined
import Derived.Below
import Derived.Test.YtfcmdiigfgbgbaaL9
import Derived.Test.YtfcmdiigfgbgbaaGA

namespace Go.Proofs.Ytfcmdiigfgbgbaa
open Go.ChangeShapes Go.WideShapes Go.ChangeAt Go.RowKit Go.Deep Go.Joins

theorem list_of {α : Type} {P : Nat → α → Prop} : ∀ len : Nat, (∀ i, i < len → ∃ a, P i a) → ∃ l : List α, l.length = len ∧ ∀ k a, l[k]? = some a → P k a
  | 0, _ => ⟨[], rfl, fun k a h => by simp at h⟩
  | len + 1, h => by
    obtain ⟨l, hl, hp⟩ := list_of len (fun i hi => h i (by omega))
    obtain ⟨a, ha⟩ := h len (by omega)
    refine ⟨l ++ [a], by simp [hl], fun k b hk => ?_⟩
    by_cases e : k < l.length
    · rw [List.getElem?_append_left e] at hk
      exact hp k b hk
    · rw [List.getElem?_append_right (by omega)] at hk
      have e0 : k - l.length = 0 := by
        by_cases e2 : k - l.length = 0
        · exact e2
        · rw [List.getElem?_eq_none (by simp; omega)] at hk; cases hk
      rw [e0] at hk
      simp at hk
      subst hk
      have : k = len := by omega
      rw [this]
      exact ha
section
variable {H : Type} {enc : TypeId × Value → H} {P : Program} {w : World} {base : Nat} {spare : Nat → Bool} {held : Bool}
theorem open_slice_fields {t e : TypeId} {fs : Array Field} {fuel : Nat} {cs : List Value} {x : DataW H × List MemPlace} (ht : P.underlying t = some (.slice e)) (he : P.underlying e = some (.struct fs))
    (hone : oneCellFields P fs = true) (hC : P.cellsOf e = fs.size) (h : DataW.trod enc P w base spare held fuel t cs = some x) :
    (cs = [.slice none 0 0] ∧ x = (.nil, [])) ∨
    ∃ (a : Addr) (len cap : Nat), cs = [.slice (some a) len cap] ∧ len ≤ cap ∧ cap ≤ maxLen ∧
      ∀ i, i < len → ∀ (j : Nat) (f : Field), fs[j]? = some f → ∃ (v : Value) (y : DataW H × List MemPlace) (n : Nat), w.cell? (a.add (i * fs.size + j)) = some v ∧ DataW.trod enc P w base spare held n f.type [v] = some y := by
  rcases open_slice ht h with h0 | ⟨a, len, cap, m, n, D, Pl, hcs, hb, hl, hm, hmm, hx, hi⟩
  · exact .inl h0
  · refine .inr ⟨a, len, cap, hcs, hl, hm, fun i hil j f hj => ?_⟩
    have him : i < m := by rw [hmm]; split <;> omega
    obtain ⟨cs', hc, ht'⟩ := hi i him
    rw [hC] at hc
    obtain ⟨ys, n', hn', hy, hlen, hyl, hf⟩ := DataW.trod_struct he ht'
    obtain ⟨_, hcl, hat⟩ := World.cells?_some hc
    obtain ⟨ho, hk⟩ := hone_of hone j f hj
    have hjl : j < fs.size := (Array.getElem?_eq_some_iff.1 hj).1
    have hcell := hat j hjl
    have hv : cs'[j]? = some (cs'[j]'(by omega)) := List.getElem?_eq_getElem (by omega)
    have h1 := hf j f hj
    rw [ho, hk] at h1
    have hone' : (cs'.drop j).take 1 = [cs'[j]'(by omega)] := by
      rw [List.drop_eq_getElem_cons (by omega)]
      rfl
    rw [hone'] at h1
    have hys : ys[j]? = some (ys[j]'(by omega)) := List.getElem?_eq_getElem (by omega)
    refine ⟨_, _, _, ?_, h1.trans hys⟩
    rw [← Go.Deep.add_add, hcell, hv]
end
section
variable {H : Type} {enc : TypeId × Value → H} {w : World} {spare : Nat → Bool} {held : Bool}
theorem cell_field {w : World} {a : Addr} {k j : Nat} {u : Value} (hj : 0 < j) (hc : w.cell? (a.add (k + j)) = some u) : w.cell? ⟨(a.add k).block, (a.add k).off + j, none⟩ = some u := by
  have e : a.add (k + j) = ⟨(a.add k).block, (a.add k).off + j, none⟩ := by
    rw [← add_of_add]
    unfold Addr.add
    rw [if_neg (by omega)]
  rw [← e]
  exact hc
theorem i64_of_wf {z : Int} (h : (Lit.int .i64 z).wf = true) : i64ok z := by
  unfold Lit.wf at h
  rw [Bool.and_eq_true, decide_eq_true_iff, decide_eq_true_iff] at h
  have h1 : IntKind.i64.min = -9223372036854775808 := by decide +kernel
  have h2 : IntKind.i64.max = 9223372036854775807 := by decide +kernel
  rw [h1, h2] at h
  exact h
theorem int_of_trod {fuel : Nat} {v : Value} {y : DataW H × List MemPlace} (h : DataW.trod enc Try.prog w 0 spare held fuel 3 [v] = some y) : ∃ z, v = .int .i64 z ∧ i64ok z := by
  obtain ⟨n, hc, _, hw⟩ := DataW.trod_int Try.underlying3 h
  injection hc with hc _
  exact ⟨n, hc, i64_of_wf hw⟩
theorem fml_of_trod {fuel : Nat} {v : Value} {y : DataW H × List MemPlace} (h : DataW.trod enc Try.prog w 0 spare held fuel 22 [v] = some y) : ∃ l, Fml w v l := by
  rcases open_slice_fields Try.underlying22 Try.underlying48 (by kernel_rfl) (by kernel_rfl) h with ⟨hc, _⟩ | ⟨a, len, cap, hc, hl, hm, hf⟩
  · injection hc with hc _
    subst hc
    exact ⟨[], ⟨none, 0, rfl, Nat.le_refl _, by unfold maxLen; omega, fun h => absurd rfl h⟩, by simp⟩
  · injection hc with hc _
    subst hc
    obtain ⟨l, hlen, hp⟩ := list_of (P := fun i n => NdAt w (a.add (i * 6)) n ∧ n.ok ∧ a.block < w.heap.size) len (fun i hi => by
      obtain ⟨v0, _, _, c0, t0⟩ := hf i hi 0 _ rfl
      obtain ⟨v1, _, _, c1, t1⟩ := hf i hi 1 _ rfl
      obtain ⟨v2, _, _, c2, t2⟩ := hf i hi 2 _ rfl
      obtain ⟨v3, _, _, c3, t3⟩ := hf i hi 3 _ rfl
      obtain ⟨v4, _, _, c4, t4⟩ := hf i hi 4 _ rfl
      obtain ⟨v5, _, _, c5, t5⟩ := hf i hi 5 _ rfl
      obtain ⟨z0, rfl, o0⟩ := int_of_trod t0
      obtain ⟨z1, rfl, o1⟩ := int_of_trod t1
      obtain ⟨z2, rfl, o2⟩ := int_of_trod t2
      obtain ⟨z3, rfl, o3⟩ := int_of_trod t3
      obtain ⟨z4, rfl, o4⟩ := int_of_trod t4
      obtain ⟨z5, rfl, o5⟩ := int_of_trod t5
      have hs : ∀ (j : Nat) u, 0 < j → w.cell? (a.add (i * 6 + j)) = some u → w.cell? ⟨(a.add (i * 6)).block, (a.add (i * 6)).off + j, none⟩ = some u := fun j u hj hc => cell_field hj hc
      exact ⟨⟨z0, z1, z2, z3, z4, z5⟩, ⟨by simpa using c0, hs 1 _ (by omega) c1, hs 2 _ (by omega) c2, hs 3 _ (by omega) c3, hs 4 _ (by omega) c4, hs 5 _ (by omega) c5⟩, ⟨o0, o1, o2, o3, o4, o5⟩, by have := World.block_lt_of_cell? w _ c0; rwa [block_of_add] at this⟩)
    refine ⟨l, ⟨some a, cap, by rw [hlen], by rw [hlen]; exact hl, hm, fun hne => ⟨a, rfl, ?_, fun k n hk => (hp k n hk).1⟩⟩, fun n hn => ?_⟩
    · obtain ⟨n, hn⟩ : ∃ n, l[0]? = some n := by
        cases l with
        | nil => exact absurd rfl hne
        | cons x t => exact ⟨x, rfl⟩
      exact (hp 0 n hn).2.2
    · obtain ⟨k, hk⟩ := List.getElem?_of_mem hn
      exact (hp k n hk).2.1
theorem ints_of_trod {fuel : Nat} {v : Value} {y : DataW H × List MemPlace} (h : DataW.trod enc Try.prog w 0 spare held fuel 29 [v] = some y) : ∃ l, Ints w v l := by
  rcases open_ints Try.underlying29 Try.underlying3 (by kernel_rfl) h with ⟨hc, _⟩ | ⟨a, len, cap, zs, hc, _, hl, hm, hz, _, hcell, _⟩
  · injection hc with hc _
    subst hc
    exact ⟨[], Ints.none_ w⟩
  · injection hc with hc _
    subst hc
    have hzl : len ≤ zs.length := by rw [hz]; split <;> omega
    have el : (zs.take len).length = len := by simp; omega
    have hcl : ∀ k z, (zs.take len)[k]? = some z → w.cell? (a.add k) = some (.int .i64 z) := fun k z hk => by
      rw [List.getElem?_take] at hk
      split at hk
      · have hk' := (List.getElem?_eq_some_iff.1 hk).1
        rw [hcell k hk', List.getD_eq_getElem?_getD, hk]; rfl
      · cases hk
    refine ⟨zs.take len, some a, cap, by rw [el], by rw [el]; exact hl, hm, fun hne => ⟨a, rfl, ?_, hcl⟩⟩
    obtain ⟨z, hz0⟩ : ∃ z, (zs.take len)[0]? = some z := by
      cases hq : zs.take len with
      | nil => exact absurd hq hne
      | cons x t => exact ⟨x, rfl⟩
    have := World.block_lt_of_cell? w _ (hcl 0 z hz0)
    rwa [block_of_add] at this
theorem u64_of_wf {z : Int} (h : (Lit.int .u64 z).wf = true) : 0 ≤ z ∧ z < 18446744073709551616 := by
  unfold Lit.wf at h
  rw [Bool.and_eq_true, decide_eq_true_iff, decide_eq_true_iff] at h
  have h1 : IntKind.u64.min = 0 := by decide +kernel
  have h2 : IntKind.u64.max = 18446744073709551615 := by decide +kernel
  rw [h1, h2] at h
  omega
theorem u64_of_trod {fuel : Nat} {v : Value} {y : DataW H × List MemPlace} (h : DataW.trod enc Try.prog w 0 spare held fuel 31 [v] = some y) : ∃ z : Nat, v = .int .u64 (z : Int) ∧ z < 18446744073709551616 := by
  obtain ⟨n, hc, _, hw⟩ := DataW.trod_int Try.underlying31 h
  injection hc with hc _
  obtain ⟨h0, h1⟩ := u64_of_wf hw
  obtain ⟨k, rfl⟩ := Int.eq_ofNat_of_zero_le h0
  exact ⟨k, hc, by omega⟩
theorem sps_of_trod {fuel : Nat} {v : Value} {y : DataW H × List MemPlace} (h : DataW.trod enc Try.prog w 0 spare held fuel 23 [v] = some y) : ∃ l, Sps w v l := by
  rcases open_slice_fields Try.underlying23 Try.underlying34 (by kernel_rfl) (by kernel_rfl) h with ⟨hc, _⟩ | ⟨a, len, cap, hc, hl, hm, hf⟩
  · injection hc with hc _
    subst hc
    exact ⟨[], none, 0, rfl, Nat.le_refl _, by unfold maxLen; omega, fun h => absurd rfl h⟩
  · injection hc with hc _
    subst hc
    obtain ⟨l, hlen, hp⟩ := list_of (P := fun i n => SpAt w (a.add (i * 5)) n ∧ a.block < w.heap.size) len (fun i hi => by
      obtain ⟨v0, _, _, c0, t0⟩ := hf i hi 0 _ rfl
      obtain ⟨v1, _, _, c1, t1⟩ := hf i hi 1 _ rfl
      obtain ⟨v2, _, _, c2, t2⟩ := hf i hi 2 _ rfl
      obtain ⟨v3, _, _, c3, t3⟩ := hf i hi 3 _ rfl
      obtain ⟨v4, _, _, c4, t4⟩ := hf i hi 4 _ rfl
      obtain ⟨z0, rfl, h0⟩ := u64_of_trod t0
      obtain ⟨z1, rfl, _⟩ := int_of_trod t1
      obtain ⟨z2, rfl, _⟩ := int_of_trod t2
      obtain ⟨z3, rfl, _⟩ := int_of_trod t3
      obtain ⟨r, hr⟩ := ints_of_trod t4
      have hs : ∀ (j : Nat) u, 0 < j → w.cell? (a.add (i * 5 + j)) = some u → w.cell? ⟨(a.add (i * 5)).block, (a.add (i * 5)).off + j, none⟩ = some u := fun j u hj hc => cell_field hj hc
      exact ⟨⟨z0, z1, z2, z3, r⟩, ⟨v4, by simpa using c0, hs 1 _ (by omega) c1, hs 2 _ (by omega) c2, hs 3 _ (by omega) c3, hs 4 _ (by omega) c4, hr, h0⟩, by have := World.block_lt_of_cell? w _ c0; rwa [block_of_add] at this⟩)
    refine ⟨l, some a, cap, by rw [hlen], by rw [hlen]; exact hl, hm, fun hne => ⟨a, rfl, ?_, fun k n hk => (hp k n hk).1⟩⟩
    obtain ⟨n, hn⟩ : ∃ n, l[0]? = some n := by
      cases l with
      | nil => exact absurd rfl hne
      | cons x t => exact ⟨x, rfl⟩
    exact (hp 0 n hn).2
end
section
variable {H : Type} {enc : TypeId × Value → H} {P : Program}
theorem post_of_below {f : Func} {s : ChangeSpec} {apart fresh handsOn again : Bool} {W W' : World} {args : Array Value} {v : Value} {ds gs : List (DataW H)} {before pa pv : List MemPlace}
    (hW : DataW.Whole enc P f.params.toList s.vars apart W args.toList ds gs before)
    (hres : ∀ (b : Nat) (sp : Nat → Bool) (hd : Bool), DataW.TrodAll enc P W' b sp hd f.resultTypes.toList (v.resultList f.resultTypes.size) (s.fn H (ds ++ gs)).results [])
    (hargs : ∀ sp : Nat → Bool, (∀ p ∈ before, sp p.block = true) → DataW.TrodAll enc P W' 0 sp true f.params.toList args.toList (s.fn H (ds ++ gs)).args pa)
    (hvars : ∀ sp : Nat → Bool, (∀ p ∈ before, sp p.block = true) → DataW.TrodVars enc P W' sp s.vars (s.fn H (ds ++ gs)).vars pv)
    (hps : before = pa ++ pv) (hb : Below W.heap.size W W')
    (hok : ∀ (j : Nat) (t : TypeId) (r : Value), f.resultTypes[j]? = some t → (v.resultList f.resultTypes.size)[j]? = some r → Value.okWide P W' .any 0 t r) :
    s.post enc P f apart fresh handsOn again W args v W' := by
  have hlt : ∀ p ∈ before, p.block < W.heap.size := fun p hp => hW.lt p hp
  have hold : ∀ p ∈ before, (fun b => decide (b < W.heap.size)) p.block = true := fun p hp => by simpa using hlt p hp
  refine ⟨ds, gs, before, [], pa, pv, hW, hres _ _ _, hargs _ hold, hvars _ hold, World.keptBut_mono (fun p hp => ⟨hp, ?_⟩) (hb.frame (· ∈ before)), fun _ => ?_⟩
  · rw [hps, List.mem_append] at hp
    exact Or.inr hp
  · obtain ⟨_, _, _, _, _, hz, hn⟩ := hW
    refine ⟨hok, _, _, ([] ++ pa) ++ pv, ⟨[] ++ pa, pv, trodAll_append (hargs _ (fun _ _ => rfl)) (hres _ _ _), hvars _ (fun _ _ => rfl), rfl, ?_, ?_⟩, ?_⟩
    · intro b off hp
      have hin : MemPlace.cell b off ∈ before := by rw [hps]; simpa using hp
      rw [hb.frozen (hlt _ hin)]
      exact hz b off hin
    · intro ha
      have := hn ha
      rw [hps] at this
      simpa using this
    · intro p hp _
      rw [hps]
      simpa using hp
end
end Go.Proofs.Ytfcmdiigfgbgbaa

/- The law SequentStronger. -/

namespace Go.Proofs.Ytfcmdiigfgbgbaa
open Go.RowKit

theorem six (w : World) (o0 o1 o2 o3 o4 o5 : Obj) : ((((((w.alloc o0).alloc o1).alloc o2).alloc o3).alloc o4).alloc o5).heap[w.heap.size]? = some o0 ∧ ((((((w.alloc o0).alloc o1).alloc o2).alloc o3).alloc o4).alloc o5).heap[w.heap.size + 1]? = some o1 ∧
    ((((((w.alloc o0).alloc o1).alloc o2).alloc o3).alloc o4).alloc o5).heap[w.heap.size + 1 + 1]? = some o2 ∧ ((((((w.alloc o0).alloc o1).alloc o2).alloc o3).alloc o4).alloc o5).heap[w.heap.size + 1 + 1 + 1]? = some o3 ∧
    ((((((w.alloc o0).alloc o1).alloc o2).alloc o3).alloc o4).alloc o5).heap[w.heap.size + 1 + 1 + 1 + 1]? = some o4 ∧ ((((((w.alloc o0).alloc o1).alloc o2).alloc o3).alloc o4).alloc o5).heap[w.heap.size + 1 + 1 + 1 + 1 + 1]? = some o5 := by
  refine ⟨?_, ?_, ?_, ?_, ?_, ?_⟩
  · rw [at_lt _ _ _ (by simp <;> omega), at_lt _ _ _ (by simp <;> omega), at_lt _ _ _ (by simp <;> omega), at_lt _ _ _ (by simp <;> omega), at_lt _ _ _ (by simp), at_eq _ _ _ (by simp)]
  · rw [at_lt _ _ _ (by simp <;> omega), at_lt _ _ _ (by simp <;> omega), at_lt _ _ _ (by simp <;> omega), at_lt _ _ _ (by simp), at_eq _ _ _ (by simp)]
  · rw [at_lt _ _ _ (by simp <;> omega), at_lt _ _ _ (by simp <;> omega), at_lt _ _ _ (by simp), at_eq _ _ _ (by simp)]
  · rw [at_lt _ _ _ (by simp <;> omega), at_lt _ _ _ (by simp), at_eq _ _ _ (by simp)]
  · rw [at_lt _ _ _ (by simp), at_eq _ _ _ (by simp)]
  · rw [at_eq _ _ _ (by simp)]
theorem cell_of {w : World} {b : Nat} {cs : Array Value} {t : TypeId} {k : Nat} {v : Value} (h : w.heap[b]? = some (.cells cs t (0, 0))) (hv : cs[k]? = some v) : w.cell? ⟨b, k, none⟩ = some v := by
  simp [World.cell?, h, hv]
theorem strong_rows (w : World) (g : Nat) (hg : g < 7) : ∃ A c, ((((((w.alloc (.cells #[.int .i64 1, .int .i64 2, .int .i64 3, .int .i64 4, .int .i64 5, .int .i64 6] 3)).alloc (.cells #[.int .i64 5] 3)).alloc (.cells #[.int .i64 4, .int .i64 6] 3)).alloc (.cells #[.int .i64 4, .int .i64 5, .int .i64 6] 3)).alloc (.cells #[.int .i64 6] 3)).alloc (.cells #[.slice (some ⟨w.heap.size, 0, none⟩) 6 6, .slice (some ⟨w.heap.size + 1, 0, none⟩) 1 1, .slice (some ⟨w.heap.size + 1 + 1, 0, none⟩) 2 2, .slice (some ⟨w.heap.size + 1 + 1 + 1, 0, none⟩) 3 3, .slice (some ⟨w.heap.size + 1 + 1 + 1 + 1, 0, none⟩) 1 1, .slice none 0 0, .slice none 0 0] 29)).cell? ⟨w.heap.size + 1 + 1 + 1 + 1 + 1, g, none⟩ = some (.slice A (strongerOf (g : Int)).length c) ∧ Ints ((((((w.alloc (.cells #[.int .i64 1, .int .i64 2, .int .i64 3, .int .i64 4, .int .i64 5, .int .i64 6] 3)).alloc (.cells #[.int .i64 5] 3)).alloc (.cells #[.int .i64 4, .int .i64 6] 3)).alloc (.cells #[.int .i64 4, .int .i64 5, .int .i64 6] 3)).alloc (.cells #[.int .i64 6] 3)).alloc (.cells #[.slice (some ⟨w.heap.size, 0, none⟩) 6 6, .slice (some ⟨w.heap.size + 1, 0, none⟩) 1 1, .slice (some ⟨w.heap.size + 1 + 1, 0, none⟩) 2 2, .slice (some ⟨w.heap.size + 1 + 1 + 1, 0, none⟩) 3 3, .slice (some ⟨w.heap.size + 1 + 1 + 1 + 1, 0, none⟩) 1 1, .slice none 0 0, .slice none 0 0] 29)) (.slice A (strongerOf (g : Int)).length c) (strongerOf (g : Int)) := by
  have F := six w (.cells #[.int .i64 1, .int .i64 2, .int .i64 3, .int .i64 4, .int .i64 5, .int .i64 6] 3) (.cells #[.int .i64 5] 3) (.cells #[.int .i64 4, .int .i64 6] 3) (.cells #[.int .i64 4, .int .i64 5, .int .i64 6] 3) (.cells #[.int .i64 6] 3) (.cells #[.slice (some ⟨w.heap.size, 0, none⟩) 6 6, .slice (some ⟨w.heap.size + 1, 0, none⟩) 1 1, .slice (some ⟨w.heap.size + 1 + 1, 0, none⟩) 2 2, .slice (some ⟨w.heap.size + 1 + 1 + 1, 0, none⟩) 3 3, .slice (some ⟨w.heap.size + 1 + 1 + 1 + 1, 0, none⟩) 1 1, .slice none 0 0, .slice none 0 0] 29)
  match g, hg with
  | 0, _ => exact ⟨some ⟨w.heap.size, 0, none⟩, 6, cell_of F.2.2.2.2.2 rfl, ints_at (l := [1, 2, 3, 4, 5, 6]) F.1 (by decide) rfl⟩
  | 1, _ => exact ⟨some ⟨w.heap.size + 1, 0, none⟩, 1, cell_of F.2.2.2.2.2 rfl, ints_at (l := [5]) F.2.1 (by decide) rfl⟩
  | 2, _ => exact ⟨some ⟨w.heap.size + 1 + 1, 0, none⟩, 2, cell_of F.2.2.2.2.2 rfl, ints_at (l := [4, 6]) F.2.2.1 (by decide) rfl⟩
  | 3, _ => exact ⟨some ⟨w.heap.size + 1 + 1 + 1, 0, none⟩, 3, cell_of F.2.2.2.2.2 rfl, ints_at (l := [4, 5, 6]) F.2.2.2.1 (by decide) rfl⟩
  | 4, _ => exact ⟨some ⟨w.heap.size + 1 + 1 + 1 + 1, 0, none⟩, 1, cell_of F.2.2.2.2.2 rfl, ints_at (l := [6]) F.2.2.2.2.1 (by decide) rfl⟩
  | 5, _ => exact ⟨none, 0, cell_of F.2.2.2.2.2 rfl, Ints.none_ _⟩
  | 6, _ => exact ⟨none, 0, cell_of F.2.2.2.2.2 rfl, Ints.none_ _⟩
set_option maxRecDepth 100000 in
set_option maxHeartbeats 16000000 in
theorem stronger_any {w : World} {lg : Int} {vb vs : Value} {base : List Nd} {steps : List Stp} (hb : Fml w vb base) (hs : Sps w vs steps) :
    Calls Try.prog 3 #[.agg #[.int .i64 lg, vb, vs]] w fun e w' => e = .returned (.bool true) ∧ Ext w w' := by
  have H := Lib.hid hb
  have HS := Lib.hid hs
  obtain ⟨Ab, cb, rfl, _⟩ := fml_slice hb
  obtain ⟨As, cs, rfl, hs1, hs2, _⟩ := hs
  unfold maxLen at hs2
  clear hb
  obtain ⟨z0, z1, z2, _, zlt⟩ := cells3 (heap_alloc_new w (.cells #[.int .i64 lg, .slice Ab base.length cb, .slice As steps.length cs] 25))
  have Z := Lib.hid (And.intro z0 (And.intro z1 z2))
  have ZLT := Lib.hid zlt
  have X0 := Lib.hid ((Ext.refl w).alloc (.cells #[.int .i64 lg, .slice Ab base.length cb, .slice As steps.length cs] 25))
  clear z0 z1 z2 zlt
  cases hf : fewS base steps
  · have HFW := Lib.hid hf
    clear hf
    go_enter Try.func3, Try.ntmps3
    go_wp2_with fail
    refine (awake_any _).mono ?_
    rintro e w1 ⟨rfl, hx⟩
    have Y1 := Lib.hid (show Ext (w.alloc (.cells #[.int .i64 lg, .slice Ab base.length cb, .slice As steps.length cs] 25)) w1 from hx)
    have y0 := (Y1.out.cell (p := ⟨w.heap.size, 0, none⟩) ZLT.out).trans Z.out.1
    have y1 := (Y1.out.cell (p := ⟨w.heap.size, 1, none⟩) ZLT.out).trans Z.out.2.1
    have y2 := (Y1.out.cell (p := ⟨w.heap.size, 2, none⟩) ZLT.out).trans Z.out.2.2
    clear hx
    go_wp2_with fail
    refine (fewS_any (lg := lg) (H.out.ext (X0.out.trans Y1.out)) (HS.out.ext (X0.out.trans Y1.out))).mono ?_
    rintro e w2 ⟨rfl, hx⟩
    have Y2 := Lib.hid (Y1.out.trans hx)
    have x0 := (Y2.out.cell (p := ⟨w.heap.size, 0, none⟩) ZLT.out).trans Z.out.1
    have x1 := (Y2.out.cell (p := ⟨w.heap.size, 1, none⟩) ZLT.out).trans Z.out.2.1
    have x2 := (Y2.out.cell (p := ⟨w.heap.size, 2, none⟩) ZLT.out).trans Z.out.2.2
    clear hx y0 y1 y2
    rw [HFW.out]
    go_wp2_with fail
    refine (awake_any _).mono ?_
    rintro e w3 ⟨rfl, hx⟩
    go_wp2_with fail
    go_ret
    exact ⟨rfl, (X0.out.trans Y2.out).trans hx⟩
  · have HFW := Lib.hid hf
    clear hf
    by_cases hc : checkS lg base steps = 0
    · have HCK := Lib.hid hc
      clear hc
      obtain ⟨hk1, hb1, hl1, hl2⟩ := formS_ok.1 (checkS_ok.1 HCK.out).1
      obtain ⟨g, rfl⟩ := Int.eq_ofNat_of_zero_le (show 0 ≤ lg by rcases known_cases hk1 with rfl | rfl | rfl | rfl | rfl | rfl | rfl <;> decide)
      have hg7 : g < 7 := by rcases known_cases hk1 with e | e | e | e | e | e | e <;> omega
      have hg7i : (g : Int) < 7 := by omega
      have hg7n : ¬ (7 : Int) ≤ (g : Int) := by omega
      have hg7d : decide (7 ≤ g) = false := decide_eq_false (by omega)
      have hg0 : (0 : Int) ≤ (g : Int) := by omega
      clear hk1 hb1 hl1 hl2
      go_enter Try.func3, Try.ntmps3
      go_wp2_with fail
      refine (awake_any _).mono ?_
      rintro e w1 ⟨rfl, hx⟩
      have Y1 := Lib.hid (show Ext (w.alloc (.cells #[.int .i64 (g : Int), .slice Ab base.length cb, .slice As steps.length cs] 25)) w1 from hx)
      have y0 := (Y1.out.cell (p := ⟨w.heap.size, 0, none⟩) ZLT.out).trans Z.out.1
      have y1 := (Y1.out.cell (p := ⟨w.heap.size, 1, none⟩) ZLT.out).trans Z.out.2.1
      have y2 := (Y1.out.cell (p := ⟨w.heap.size, 2, none⟩) ZLT.out).trans Z.out.2.2
      clear hx
      go_wp2_with fail
      refine (fewS_any (lg := (g : Int)) (H.out.ext (X0.out.trans Y1.out)) (HS.out.ext (X0.out.trans Y1.out))).mono ?_
      rintro e w2 ⟨rfl, hx⟩
      have Y2 := Lib.hid (Y1.out.trans hx)
      have x0 := (Y2.out.cell (p := ⟨w.heap.size, 0, none⟩) ZLT.out).trans Z.out.1
      have x1 := (Y2.out.cell (p := ⟨w.heap.size, 1, none⟩) ZLT.out).trans Z.out.2.1
      have x2 := (Y2.out.cell (p := ⟨w.heap.size, 2, none⟩) ZLT.out).trans Z.out.2.2
      clear hx y0 y1 y2
      rw [HFW.out]
      go_wp2_with fail
      refine (checkS_any (lg := (g : Int)) (H.out.ext (X0.out.trans Y2.out)) (HS.out.ext (X0.out.trans Y2.out))).mono ?_
      rintro e w3 ⟨rfl, hx⟩
      rw [HCK.out]
      have Y3 := Lib.hid (Y2.out.trans hx)
      have v0 := (Y3.out.cell (p := ⟨w.heap.size, 0, none⟩) ZLT.out).trans Z.out.1
      have v1 := (Y3.out.cell (p := ⟨w.heap.size, 1, none⟩) ZLT.out).trans Z.out.2.1
      have v2 := (Y3.out.cell (p := ⟨w.heap.size, 2, none⟩) ZLT.out).trans Z.out.2.2
      clear hx x0 x1 x2
      have HROW := strong_rows w3 g hg7
      obtain ⟨Ar, cr, hcr, hir⟩ := HROW
      have W3X := Lib.hid (show Ext w3 ((((((w3.alloc (.cells #[.int .i64 1, .int .i64 2, .int .i64 3, .int .i64 4, .int .i64 5, .int .i64 6] 3)).alloc (.cells #[.int .i64 5] 3)).alloc (.cells #[.int .i64 4, .int .i64 6] 3)).alloc (.cells #[.int .i64 4, .int .i64 5, .int .i64 6] 3)).alloc (.cells #[.int .i64 6] 3)).alloc (.cells #[.slice (some ⟨w3.heap.size, 0, none⟩) 6 6, .slice (some ⟨w3.heap.size + 1, 0, none⟩) 1 1, .slice (some ⟨w3.heap.size + 1 + 1, 0, none⟩) 2 2, .slice (some ⟨w3.heap.size + 1 + 1 + 1, 0, none⟩) 3 3, .slice (some ⟨w3.heap.size + 1 + 1 + 1 + 1, 0, none⟩) 1 1, .slice none 0 0, .slice none 0 0] 29)) from (by repeat (first | exact Ext.refl _ | assumption | apply Ext.alloc | apply Ext.drew)))
      have Y4 := Lib.hid (Y3.out.trans W3X.out)
      have u0 := (Y4.out.cell (p := ⟨w.heap.size, 0, none⟩) ZLT.out).trans Z.out.1
      have u1 := (Y4.out.cell (p := ⟨w.heap.size, 1, none⟩) ZLT.out).trans Z.out.2.1
      have u2 := (Y4.out.cell (p := ⟨w.heap.size, 2, none⟩) ZLT.out).trans Z.out.2.2
      obtain ⟨Ai, ci, hie, hic, him, hir2⟩ := hir
      injection hie with hi1 _ hi2
      subst hi1 hi2
      unfold maxLen at him
      go_upto_region 4 with fail
      generalize ((((((w3.alloc (.cells #[.int .i64 1, .int .i64 2, .int .i64 3, .int .i64 4, .int .i64 5, .int .i64 6] 3)).alloc (.cells #[.int .i64 5] 3)).alloc (.cells #[.int .i64 4, .int .i64 6] 3)).alloc (.cells #[.int .i64 4, .int .i64 5, .int .i64 6] 3)).alloc (.cells #[.int .i64 6] 3)).alloc (.cells #[.slice (some ⟨w3.heap.size, 0, none⟩) 6 6, .slice (some ⟨w3.heap.size + 1, 0, none⟩) 1 1, .slice (some ⟨w3.heap.size + 1 + 1, 0, none⟩) 2 2, .slice (some ⟨w3.heap.size + 1 + 1 + 1, 0, none⟩) 3 3, .slice (some ⟨w3.heap.size + 1 + 1 + 1 + 1, 0, none⟩) 1 1, .slice none 0 0, .slice none 0 0] 29)) = W at hcr hir2 W3X Y4 u0 u1 u2 ⊢
      have HIR := Lib.hid hir2
      obtain ⟨l, hl⟩ : ∃ l, l = strongerOf (g : Int) := ⟨_, rfl⟩
      rw [← hl] at hcr HIR hic
      have HL := Lib.hid hl
      have CR := Lib.hid hcr
      have UZ := Lib.hid (And.intro u0 (And.intro u1 u2))
      have ZLT4 := Lib.hid (Nat.lt_of_lt_of_le ZLT.out Y4.out.size)
      clear hir2 hl v0 v1 v2
      go_wp2_with fail
      go_loopw [42] (fun vi wr => ∃ k : Nat, vi = .int .i64 (k : Int) ∧ k ≤ l.length ∧ Hid (Ext W wr)) (fun vi _ => l.length - (intOf vi).toNat)
      case atStart => exact ⟨0, rfl, Nat.zero_le _, Lib.hid (Ext.refl _)⟩
      case round =>
        obtain ⟨k, rfl, hk, HX⟩ := hrel
        by_cases hlt2 : k < l.length
        · obtain ⟨z, hz⟩ : ∃ z, l[k]? = some z := ⟨_, List.getElem?_eq_getElem hlt2⟩
          obtain ⟨ad, rfl, hblk, hcell⟩ := HIR.out (by intro e; rw [e] at hz; simp at hz)
          have a0 := (HX.out.cell (p := ad.add k) (by rw [block_of_add]; exact hblk)).trans (hcell k z hz)
          have b0 := (HX.out.cell (p := ⟨w.heap.size, 0, none⟩) ZLT4.out).trans UZ.out.1
          have b1 := (HX.out.cell (p := ⟨w.heap.size, 1, none⟩) ZLT4.out).trans UZ.out.2.1
          have b2 := (HX.out.cell (p := ⟨w.heap.size, 2, none⟩) ZLT4.out).trans UZ.out.2.2
          have HCZ := Lib.hid (stronger_plain HCK.out (by rw [← HL.out]; exact List.mem_of_getElem? hz))
          have hk0 : (0 : Int) ≤ (k : Int) := by omega
          have hk1 : (k : Int) < (l.length : Int) := by omega
          clear hcell hz
          go_wp2_with fail
          refine (checkS_any (lg := z) (H.out.ext ((X0.out.trans Y4.out).trans (HX.out.trans (by repeat (first | exact Ext.refl _ | assumption | apply Ext.alloc | apply Ext.drew))))) (HS.out.ext ((X0.out.trans Y4.out).trans (HX.out.trans (by repeat (first | exact Ext.refl _ | assumption | apply Ext.alloc | apply Ext.drew)))))).mono ?_
          rintro e w5 ⟨rfl, hx⟩
          rw [HCZ.out]
          have HX5 := Lib.hid (HX.out.trans (Ext.trans (by repeat (first | exact Ext.refl _ | assumption | apply Ext.alloc | apply Ext.drew)) hx))
          clear hx
          go_wp2_with fail
          go_roundw
          case rel => exact ⟨k + 1, by go_num, by omega, HX5⟩
          case measure => simp [intOf]; omega
        · obtain rfl : l.length = k := by omega
          go_wp2_with fail
          go_ret
          exact ⟨rfl, (X0.out.trans Y4.out).trans HX.out⟩
      
    · have hc1 : (checkS lg base steps != 0) = true := by simpa using hc
      have hc2 : (checkS lg base steps == 0) = false := by simpa using hc
      clear hc
      go_enter Try.func3, Try.ntmps3
      go_wp2_with fail
      refine (awake_any _).mono ?_
      rintro e w1 ⟨rfl, hx⟩
      have Y1 := Lib.hid (show Ext (w.alloc (.cells #[.int .i64 lg, .slice Ab base.length cb, .slice As steps.length cs] 25)) w1 from hx)
      have y0 := (Y1.out.cell (p := ⟨w.heap.size, 0, none⟩) ZLT.out).trans Z.out.1
      have y1 := (Y1.out.cell (p := ⟨w.heap.size, 1, none⟩) ZLT.out).trans Z.out.2.1
      have y2 := (Y1.out.cell (p := ⟨w.heap.size, 2, none⟩) ZLT.out).trans Z.out.2.2
      clear hx
      go_wp2_with fail
      refine (fewS_any (lg := lg) (H.out.ext (X0.out.trans Y1.out)) (HS.out.ext (X0.out.trans Y1.out))).mono ?_
      rintro e w2 ⟨rfl, hx⟩
      have Y2 := Lib.hid (Y1.out.trans hx)
      have x0 := (Y2.out.cell (p := ⟨w.heap.size, 0, none⟩) ZLT.out).trans Z.out.1
      have x1 := (Y2.out.cell (p := ⟨w.heap.size, 1, none⟩) ZLT.out).trans Z.out.2.1
      have x2 := (Y2.out.cell (p := ⟨w.heap.size, 2, none⟩) ZLT.out).trans Z.out.2.2
      clear hx y0 y1 y2
      rw [HFW.out]
      go_wp2_with fail
      refine (checkS_any (lg := lg) (H.out.ext (X0.out.trans Y2.out)) (HS.out.ext (X0.out.trans Y2.out))).mono ?_
      rintro e w3 ⟨rfl, hx⟩
      have Y3 := Lib.hid (Y2.out.trans hx)
      clear hx
      go_wp2_with fail
      refine (awake_any _).mono ?_
      rintro e w4 ⟨rfl, hx⟩
      go_wp2_with fail
      go_ret
      exact ⟨rfl, (X0.out.trans Y3.out).trans hx⟩
end Go.Proofs.Ytfcmdiigfgbgbaa

/- SequentStronger: what is accepted in a logic is accepted in the logics with more rules: for every refutation. -/

namespace Go.Proofs.Ytfcmdiigfgbgbaa
open Go.ChangeShapes Go.WideShapes Go.ChangeAt Go.RowKit Go.Joins

theorem laidOutP : laidOutB Try.prog = true := by kernel_rfl
theorem own : ownKnob Try.prog.godebug = none := by kernel_rfl
set_option maxRecDepth 100000 in
theorem sequentStronger_lifted (os : Os) (started : os.Started) (H : Type) (enc : TypeId × Value → H) :
    ReturnsInHanded {} Try.checked os 3 .any (Rows.sequentStrongerSpec.pre6 enc Try.prog Try.f3 Rows.sequentStrongerRow.domain false)
      (Rows.sequentStrongerSpec.post enc Try.prog Try.f3 false true false false) := by
  refine returnsInHanded_of_change (C := Try.checked) own started (by kernel_rfl) Try.func3
    (ChangeSpec.witness6 (enc := enc) (C := Try.checked) false ⟨#[], #[.agg #[.int .i64 0, .slice none 0 0, .slice none 0 0]], []⟩ 8 (by kernel_rfl) (by kernel_rfl) (by kernel_rfl) (by kernel_rfl)) ?_
  intro W base args ds gs before hval0 hW hcnd _
  have hval : ∀ (j : Nat) t v, Try.f3.params[j]? = some t → args[j]? = some v → Value.okWide Try.prog W .any base t v := hval0
  have hW' := hW
  obtain ⟨p, q, hA0, hV, rfl, hfz, hnd⟩ := hW
  have hA : DataW.TrodAll enc Try.prog W 0 (fun _ => true) true Try.f3.params.toList args.toList ds p := hA0
  rw [Try.params3] at hA hval
  obtain ⟨v0, vs0, d0, ds0, p0, q0, hargs, rfl, rfl, h0, r0⟩ := trodAll_cons hA
  obtain ⟨rfl, rfl, rfl⟩ := trodAll_nil r0
  obtain rfl : args = #[v0] := by cases args; simp_all
  obtain ⟨rfl, rfl⟩ := trodVars_none hV
  obtain ⟨v10, v11, v12, y0, y1, y2, n, rfl, hd, hp, t0, t1, t2⟩ := open_agg3 Try.underlying25 (by kernel_rfl) (by kernel_rfl) (hval 0 25 v0 rfl rfl) h0
  obtain ⟨lg, rfl, _⟩ := int_of_trod t0
  obtain ⟨bs, hbs⟩ := fml_of_trod t1
  obtain ⟨ls, hls⟩ := sps_of_trod t2
  simp only [List.append_nil] at hW'
  clear hA0 hval0
  refine (stronger_any (lg := lg) hbs hls).mono ?_
  rintro e W' ⟨rfl, hx⟩
  have hlt : ∀ x ∈ p0, x.block < W.heap.size := fun x hx' => hW'.lt x hx'
  refine ⟨_, rfl, post_of_below (pa := p0) (pv := []) hW' (fun _ _ _ => trodAll_mk1 (shut_bool Try.underlying4 _)) (fun sp hsp => ?_) (fun _ _ => rfl) (by simp) hx (ok_one (by kernel_rfl) rfl (okWide_bool_mk Try.underlying4 _))⟩
  exact trodAll_mk1 (WideElems.Trod_stays laidOutP (by kernel_rfl) (of_decide_eq_true (by kernel_rfl)) h0 (fun x hx' => hx.same (hlt x hx')) (fun x hx' => hsp x hx'))
theorem sequentStronger_said : Rows.SequentStrongerSaid :=
  OpenClaim.holds_of_wide 3 Try.f3 rfl rfl rfl rfl rfl rfl rfl ⟨rfl, rfl, rfl, rfl, rfl⟩ rfl rfl rfl rfl rfl (by kernel_rfl) Try.func3 (by kernel_rfl)
    (of_decide_eq_true (by kernel_rfl)) (by unfold Func.isWrapper; first | (rw [if_pos (by decide +kernel)]; kernel_rfl) | (rw [if_neg (by decide +kernel)]; exact ⟨rfl, rfl⟩))
    (fun os started H enc _ => sequentStronger_lifted os started H enc)
end Go.Proofs.Ytfcmdiigfgbgbaa
