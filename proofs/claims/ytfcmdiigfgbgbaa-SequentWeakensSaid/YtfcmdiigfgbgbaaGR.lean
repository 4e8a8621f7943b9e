/- Arguments read: formulas, integers, refutations; what a law's call leaves as it was. -/
import Derived.Test.YtfcmdiigfgbgbaaRows
import Derived.Test.YtfcmdiigfgbgbaaGB
import Derived.Deep.Slices
import Derived.Deep.Fields
import Derived.ChangeSame
import Derived.ProofKit
import Derived.OpenShut
import Derived.Lib.SmallJoins
import Derived.SevenTiedAt
import Derived.Stop.Joined
import Derived.Below
import Derived.Test.YtfcmdiigfgbgbaaGF1
import Derived.OrdersHeld
import Derived.RegionTactic
import Derived.Deep.MidRow
import Derived.Test.YtfcmdiigfgbgbaaGJ
import Derived.Test.YtfcmdiigfgbgbaaGI
import Derived.Deep.RegionHeld3
import Derived.Maps.AppendAt
import Derived.ArgAppend

namespace Go.Proofs.Ytfcmdiigfgbgbaa
open Go.ChangeShapes Go.WideShapes Go.ChangeAt Go.RowKit Go.Deep Go.Joins

theorem list_of {α : Type} {P : Nat → α → Prop} : ∀ len : Nat, (∀ i, i < len → ∃ a, P i a) → ∃ l : List α, l.length = len ∧ ∀ k a, l[k]? = some a → P k a
  | 0, _ => ⟨[], rfl, fun k a h => by simp at h⟩
  | len + 1, h => by
    obtain ⟨l, hl, hp⟩ := list_of len (fun i hi => h i (by omega))
    obtain ⟨a, ha⟩ := h len (by omega)
    refine ⟨l ++ [a], by simp [hl], fun k b hk => ?_⟩
    by_cases e : k < l.length
    · rw [List.getElem?_append_left e] at hk
      exact hp k b hk
    · rw [List.getElem?_append_right (by omega)] at hk
      have e0 : k - l.length = 0 := by
        by_cases e2 : k - l.length = 0
        · exact e2
        · rw [List.getElem?_eq_none (by simp; omega)] at hk; cases hk
      rw [e0] at hk
      simp at hk
      subst hk
      have : k = len := by omega
      rw [this]
      exact ha
section
variable {H : Type} {enc : TypeId × Value → H} {P : Program} {w : World} {base : Nat} {spare : Nat → Bool} {held : Bool}
theorem open_slice_fields {t e : TypeId} {fs : Array Field} {fuel : Nat} {cs : List Value} {x : DataW H × List MemPlace} (ht : P.underlying t = some (.slice e)) (he : P.underlying e = some (.struct fs))
    (hone : oneCellFields P fs = true) (hC : P.cellsOf e = fs.size) (h : DataW.trod enc P w base spare held fuel t cs = some x) :
    (cs = [.slice none 0 0] ∧ x = (.nil, [])) ∨
    ∃ (a : Addr) (len cap : Nat), cs = [.slice (some a) len cap] ∧ len ≤ cap ∧ cap ≤ maxLen ∧
      ∀ i, i < len → ∀ (j : Nat) (f : Field), fs[j]? = some f → ∃ (v : Value) (y : DataW H × List MemPlace) (n : Nat), w.cell? (a.add (i * fs.size + j)) = some v ∧ DataW.trod enc P w base spare held n f.type [v] = some y := by
  rcases open_slice ht h with h0 | ⟨a, len, cap, m, n, D, Pl, hcs, hb, hl, hm, hmm, hx, hi⟩
  · exact .inl h0
  · refine .inr ⟨a, len, cap, hcs, hl, hm, fun i hil j f hj => ?_⟩
    have him : i < m := by rw [hmm]; split <;> omega
    obtain ⟨cs', hc, ht'⟩ := hi i him
    rw [hC] at hc
    obtain ⟨ys, n', hn', hy, hlen, hyl, hf⟩ := DataW.trod_struct he ht'
    obtain ⟨_, hcl, hat⟩ := World.cells?_some hc
    obtain ⟨ho, hk⟩ := hone_of hone j f hj
    have hjl : j < fs.size := (Array.getElem?_eq_some_iff.1 hj).1
    have hcell := hat j hjl
    have hv : cs'[j]? = some (cs'[j]'(by omega)) := List.getElem?_eq_getElem (by omega)
    have h1 := hf j f hj
    rw [ho, hk] at h1
    have hone' : (cs'.drop j).take 1 = [cs'[j]'(by omega)] := by
      rw [List.drop_eq_getElem_cons (by omega)]
      rfl
    rw [hone'] at h1
    have hys : ys[j]? = some (ys[j]'(by omega)) := List.getElem?_eq_getElem (by omega)
    refine ⟨_, _, _, ?_, h1.trans hys⟩
    rw [← Go.Deep.add_add, hcell, hv]
end
section
variable {H : Type} {enc : TypeId × Value → H} {w : World} {spare : Nat → Bool} {held : Bool}
theorem cell_field {w : World} {a : Addr} {k j : Nat} {u : Value} (hj : 0 < j) (hc : w.cell? (a.add (k + j)) = some u) : w.cell? ⟨(a.add k).block, (a.add k).off + j, none⟩ = some u := by
  have e : a.add (k + j) = ⟨(a.add k).block, (a.add k).off + j, none⟩ := by
    rw [← add_of_add]
    unfold Addr.add
    rw [if_neg (by omega)]
  rw [← e]
  exact hc
theorem i64_of_wf {z : Int} (h : (Lit.int .i64 z).wf = true) : i64ok z := by
  unfold Lit.wf at h
  rw [Bool.and_eq_true, decide_eq_true_iff, decide_eq_true_iff] at h
  have h1 : IntKind.i64.min = -9223372036854775808 := by decide +kernel
  have h2 : IntKind.i64.max = 9223372036854775807 := by decide +kernel
  rw [h1, h2] at h
  exact h
theorem int_of_trod {fuel : Nat} {v : Value} {y : DataW H × List MemPlace} (h : DataW.trod enc Try.prog w 0 spare held fuel 3 [v] = some y) : ∃ z, v = .int .i64 z ∧ i64ok z := by
  obtain ⟨n, hc, _, hw⟩ := DataW.trod_int Try.underlying3 h
  injection hc with hc _
  exact ⟨n, hc, i64_of_wf hw⟩
theorem fml_of_trod {fuel : Nat} {v : Value} {y : DataW H × List MemPlace} (h : DataW.trod enc Try.prog w 0 spare held fuel 22 [v] = some y) : ∃ l, Fml w v l := by
  rcases open_slice_fields Try.underlying22 Try.underlying48 (by kernel_rfl) (by kernel_rfl) h with ⟨hc, _⟩ | ⟨a, len, cap, hc, hl, hm, hf⟩
  · injection hc with hc _
    subst hc
    exact ⟨[], ⟨none, 0, rfl, Nat.le_refl _, by unfold maxLen; omega, fun h => absurd rfl h⟩, by simp⟩
  · injection hc with hc _
    subst hc
    obtain ⟨l, hlen, hp⟩ := list_of (P := fun i n => NdAt w (a.add (i * 6)) n ∧ n.ok ∧ a.block < w.heap.size) len (fun i hi => by
      obtain ⟨v0, _, _, c0, t0⟩ := hf i hi 0 _ rfl
      obtain ⟨v1, _, _, c1, t1⟩ := hf i hi 1 _ rfl
      obtain ⟨v2, _, _, c2, t2⟩ := hf i hi 2 _ rfl
      obtain ⟨v3, _, _, c3, t3⟩ := hf i hi 3 _ rfl
      obtain ⟨v4, _, _, c4, t4⟩ := hf i hi 4 _ rfl
      obtain ⟨v5, _, _, c5, t5⟩ := hf i hi 5 _ rfl
      obtain ⟨z0, rfl, o0⟩ := int_of_trod t0
      obtain ⟨z1, rfl, o1⟩ := int_of_trod t1
      obtain ⟨z2, rfl, o2⟩ := int_of_trod t2
      obtain ⟨z3, rfl, o3⟩ := int_of_trod t3
      obtain ⟨z4, rfl, o4⟩ := int_of_trod t4
      obtain ⟨z5, rfl, o5⟩ := int_of_trod t5
      have hs : ∀ (j : Nat) u, 0 < j → w.cell? (a.add (i * 6 + j)) = some u → w.cell? ⟨(a.add (i * 6)).block, (a.add (i * 6)).off + j, none⟩ = some u := fun j u hj hc => cell_field hj hc
      exact ⟨⟨z0, z1, z2, z3, z4, z5⟩, ⟨by simpa using c0, hs 1 _ (by omega) c1, hs 2 _ (by omega) c2, hs 3 _ (by omega) c3, hs 4 _ (by omega) c4, hs 5 _ (by omega) c5⟩, ⟨o0, o1, o2, o3, o4, o5⟩, by have := World.block_lt_of_cell? w _ c0; rwa [block_of_add] at this⟩)
    refine ⟨l, ⟨some a, cap, by rw [hlen], by rw [hlen]; exact hl, hm, fun hne => ⟨a, rfl, ?_, fun k n hk => (hp k n hk).1⟩⟩, fun n hn => ?_⟩
    · obtain ⟨n, hn⟩ : ∃ n, l[0]? = some n := by
        cases l with
        | nil => exact absurd rfl hne
        | cons x t => exact ⟨x, rfl⟩
      exact (hp 0 n hn).2.2
    · obtain ⟨k, hk⟩ := List.getElem?_of_mem hn
      exact (hp k n hk).2.1
theorem ints_of_trod {fuel : Nat} {v : Value} {y : DataW H × List MemPlace} (h : DataW.trod enc Try.prog w 0 spare held fuel 29 [v] = some y) : ∃ l, Ints w v l := by
  rcases open_ints Try.underlying29 Try.underlying3 (by kernel_rfl) h with ⟨hc, _⟩ | ⟨a, len, cap, zs, hc, _, hl, hm, hz, _, hcell, _⟩
  · injection hc with hc _
    subst hc
    exact ⟨[], Ints.none_ w⟩
  · injection hc with hc _
    subst hc
    have hzl : len ≤ zs.length := by rw [hz]; split <;> omega
    have el : (zs.take len).length = len := by simp; omega
    have hcl : ∀ k z, (zs.take len)[k]? = some z → w.cell? (a.add k) = some (.int .i64 z) := fun k z hk => by
      rw [List.getElem?_take] at hk
      split at hk
      · have hk' := (List.getElem?_eq_some_iff.1 hk).1
        rw [hcell k hk', List.getD_eq_getElem?_getD, hk]; rfl
      · cases hk
    refine ⟨zs.take len, some a, cap, by rw [el], by rw [el]; exact hl, hm, fun hne => ⟨a, rfl, ?_, hcl⟩⟩
    obtain ⟨z, hz0⟩ : ∃ z, (zs.take len)[0]? = some z := by
      cases hq : zs.take len with
      | nil => exact absurd hq hne
      | cons x t => exact ⟨x, rfl⟩
    have := World.block_lt_of_cell? w _ (hcl 0 z hz0)
    rwa [block_of_add] at this
theorem u64_of_wf {z : Int} (h : (Lit.int .u64 z).wf = true) : 0 ≤ z ∧ z < 18446744073709551616 := by
  unfold Lit.wf at h
  rw [Bool.and_eq_true, decide_eq_true_iff, decide_eq_true_iff] at h
  have h1 : IntKind.u64.min = 0 := by decide +kernel
  have h2 : IntKind.u64.max = 18446744073709551615 := by decide +kernel
  rw [h1, h2] at h
  omega
theorem u64_of_trod {fuel : Nat} {v : Value} {y : DataW H × List MemPlace} (h : DataW.trod enc Try.prog w 0 spare held fuel 31 [v] = some y) : ∃ z : Nat, v = .int .u64 (z : Int) ∧ z < 18446744073709551616 := by
  obtain ⟨n, hc, _, hw⟩ := DataW.trod_int Try.underlying31 h
  injection hc with hc _
  obtain ⟨h0, h1⟩ := u64_of_wf hw
  obtain ⟨k, rfl⟩ := Int.eq_ofNat_of_zero_le h0
  exact ⟨k, hc, by omega⟩
theorem sps_of_trod {fuel : Nat} {v : Value} {y : DataW H × List MemPlace} (h : DataW.trod enc Try.prog w 0 spare held fuel 23 [v] = some y) : ∃ l, Sps w v l := by
  rcases open_slice_fields Try.underlying23 Try.underlying34 (by kernel_rfl) (by kernel_rfl) h with ⟨hc, _⟩ | ⟨a, len, cap, hc, hl, hm, hf⟩
  · injection hc with hc _
    subst hc
    exact ⟨[], none, 0, rfl, Nat.le_refl _, by unfold maxLen; omega, fun h => absurd rfl h⟩
  · injection hc with hc _
    subst hc
    obtain ⟨l, hlen, hp⟩ := list_of (P := fun i n => SpAt w (a.add (i * 5)) n ∧ a.block < w.heap.size) len (fun i hi => by
      obtain ⟨v0, _, _, c0, t0⟩ := hf i hi 0 _ rfl
      obtain ⟨v1, _, _, c1, t1⟩ := hf i hi 1 _ rfl
      obtain ⟨v2, _, _, c2, t2⟩ := hf i hi 2 _ rfl
      obtain ⟨v3, _, _, c3, t3⟩ := hf i hi 3 _ rfl
      obtain ⟨v4, _, _, c4, t4⟩ := hf i hi 4 _ rfl
      obtain ⟨z0, rfl, h0⟩ := u64_of_trod t0
      obtain ⟨z1, rfl, _⟩ := int_of_trod t1
      obtain ⟨z2, rfl, _⟩ := int_of_trod t2
      obtain ⟨z3, rfl, _⟩ := int_of_trod t3
      obtain ⟨r, hr⟩ := ints_of_trod t4
      have hs : ∀ (j : Nat) u, 0 < j → w.cell? (a.add (i * 5 + j)) = some u → w.cell? ⟨(a.add (i * 5)).block, (a.add (i * 5)).off + j, none⟩ = some u := fun j u hj hc => cell_field hj hc
      exact ⟨⟨z0, z1, z2, z3, r⟩, ⟨v4, by simpa using c0, hs 1 _ (by omega) c1, hs 2 _ (by omega) c2, hs 3 _ (by omega) c3, hs 4 _ (by omega) c4, hr, h0⟩, by have := World.block_lt_of_cell? w _ c0; rwa [block_of_add] at this⟩)
    refine ⟨l, some a, cap, by rw [hlen], by rw [hlen]; exact hl, hm, fun hne => ⟨a, rfl, ?_, fun k n hk => (hp k n hk).1⟩⟩
    obtain ⟨n, hn⟩ : ∃ n, l[0]? = some n := by
      cases l with
      | nil => exact absurd rfl hne
      | cons x t => exact ⟨x, rfl⟩
    exact (hp 0 n hn).2
end
section
variable {H : Type} {enc : TypeId × Value → H} {P : Program}
theorem post_of_below {f : Func} {s : ChangeSpec} {apart fresh handsOn again : Bool} {W W' : World} {args : Array Value} {v : Value} {ds gs : List (DataW H)} {before pa pv : List MemPlace}
    (hW : DataW.Whole enc P f.params.toList s.vars apart W args.toList ds gs before)
    (hres : ∀ (b : Nat) (sp : Nat → Bool) (hd : Bool), DataW.TrodAll enc P W' b sp hd f.resultTypes.toList (v.resultList f.resultTypes.size) (s.fn H (ds ++ gs)).results [])
    (hargs : ∀ sp : Nat → Bool, (∀ p ∈ before, sp p.block = true) → DataW.TrodAll enc P W' 0 sp true f.params.toList args.toList (s.fn H (ds ++ gs)).args pa)
    (hvars : ∀ sp : Nat → Bool, (∀ p ∈ before, sp p.block = true) → DataW.TrodVars enc P W' sp s.vars (s.fn H (ds ++ gs)).vars pv)
    (hps : before = pa ++ pv) (hb : Below W.heap.size W W')
    (hok : ∀ (j : Nat) (t : TypeId) (r : Value), f.resultTypes[j]? = some t → (v.resultList f.resultTypes.size)[j]? = some r → Value.okWide P W' .any 0 t r) :
    s.post enc P f apart fresh handsOn again W args v W' := by
  have hlt : ∀ p ∈ before, p.block < W.heap.size := fun p hp => hW.lt p hp
  have hold : ∀ p ∈ before, (fun b => decide (b < W.heap.size)) p.block = true := fun p hp => by simpa using hlt p hp
  refine ⟨ds, gs, before, [], pa, pv, hW, hres _ _ _, hargs _ hold, hvars _ hold, World.keptBut_mono (fun p hp => ⟨hp, ?_⟩) (hb.frame (· ∈ before)), fun _ => ?_⟩
  · rw [hps, List.mem_append] at hp
    exact Or.inr hp
  · obtain ⟨_, _, _, _, _, hz, hn⟩ := hW
    refine ⟨hok, _, _, ([] ++ pa) ++ pv, ⟨[] ++ pa, pv, trodAll_append (hargs _ (fun _ _ => rfl)) (hres _ _ _), hvars _ (fun _ _ => rfl), rfl, ?_, ?_⟩, ?_⟩
    · intro b off hp
      have hin : MemPlace.cell b off ∈ before := by rw [hps]; simpa using hp
      rw [hb.frozen (hlt _ hin)]
      exact hz b off hin
    · intro ha
      have := hn ha
      rw [hps] at this
      simpa using this
    · intro p hp _
      rw [hps]
      simpa using hp
end
end Go.Proofs.Ytfcmdiigfgbgbaa

/- A region that draws its order and whose last operation writes what the others read: one condition on the world serves up to that operation. -/

namespace Go.Proofs.Ytfcmdiigfgbgbaa
open Go.RowKit

section
variable {P : Program} {ops : Array Oper} {Q : Exit → Act → World → Prop} {md : Region.Mode} {S : World → Prop} {z : Nat}

/-- Whatever order is picked; S holds behind each operation but number z. -/
def OrdU (P : Program) (md : Region.Mode) (ops : Array Oper) (Q : Exit → Act → World → Prop) (S : World → Prop) (z : Nat) : Nat → Array Bool → Act → World → Prop
  | 0, up, a, w => Region.ready md ops up = [] ∧ Q .normal a w
  | n + 1, up, a, w => (Region.ready md ops up = [] → Q .normal a w) ∧ ∀ i ∈ Region.ready md ops up, wpOp P ops Q i (fun b v => (i ≠ z → S v) ∧ OrdU P md ops Q S z n (up.setIfInBounds i true) b v) a w
theorem OrdU.any : ∀ (n : Nat) (up : Array Bool) (a : Act) (w : World), OrdU P md ops Q S z n up a w → wpAny P md ops Q n up a w
  | 0, _, _, _, h => h
  | n + 1, _, _, _, h => ⟨h.1, fun i hi => wpOp_mono (fun b v g => OrdU.any n _ b v g.2) (h.2 i hi)⟩
/-- Number z waits for number i. -/
def WaitsFor (md : Region.Mode) (ops : Array Oper) (z i : Nat) : Prop := ∀ o, ops[z]? = some o → ∃ e ∈ o.after, Region.binds md e = true ∧ e.on = i
theorem up_both {up : Array Bool} {i : Nat} (h0 : up.getD i true = false) (h1 : up.getD i false = true) : False := by
  rcases Nat.lt_or_ge i up.size with h' | h'
  · simp [h'] at h0 h1; rw [h0] at h1; cases h1
  · simp [Array.getElem?_eq_none h'] at h1
theorem OrdU.first {i : Nat} {oi : Oper} {v : Value} (hi : ops[i]? = some oi) (hsel : ∀ (j : Nat) (o : Oper) cs b, ops[j]? = some o → o.op ≠ .select cs b) (hQ : ∀ c a w, Q (.panic c) (a.put oi.dst v) w → Q (.panic c) a w)
    (hz : WaitsFor md ops z i) : ∀ (n : Nat) (up : Array Bool) (a : Act) (w : World),
      (∀ j oj, ops[j]? = some oj → j ≠ i → up.getD j true = false → (∀ e ∈ oj.after, Region.binds md e = true → e.on ≠ i) → oi.apart ops oj = true) →
      i ∈ Region.ready md ops up → YieldsIf P ops S oi v a → S w → OrdU P md ops Q S z n (up.setIfInBounds i true) (a.put oi.dst v) w → OrdU P md ops Q S z (n + 1) up a w
  | 0, up, a, w, _, hr, hy, hS, H => ⟨fun h => (by rw [h] at hr; cases hr), fun j hj => by
      by_cases e : j = i
      · subst e; exact hy.wpOp hi hS ⟨fun _ => hS, H⟩
      · have h2 := ready_mono hj e
        rw [H.1] at h2
        cases h2⟩
  | n + 1, up, a, w, hfree, hr, hy, hS, H => ⟨fun h => (by rw [h] at hr; cases hr), fun j hj => by
      by_cases e : j = i
      · subst e; exact hy.wpOp hi hS ⟨fun _ => hS, H⟩
      · obtain ⟨hjun, oj, hoj, hall⟩ := mem_ready.1 hj
        have hiun := (mem_ready.1 hr).1
        have hnot : ∀ e ∈ oj.after, Region.binds md e = true → e.on ≠ i := fun d hd hb hq => up_both hiun (by have := hall d hd hb; rwa [hq] at this)
        have hjz : j ≠ z := fun hjz => by
          subst hjz
          obtain ⟨d, hd, hb, hq⟩ := hz oj hoj
          exact hnot d hd hb hq
        have h2 := wpOp_putIf hoj (hfree j oj hoj e hjun hnot) (fun cs b => hsel i oi cs b hi) (fun cs b => hsel j oj cs b hoj) hQ hy (H.2 j (ready_mono hj e))
        refine wpOp_mono (fun b v h3 => ⟨h3.2.1, OrdU.first hi hsel hQ hz n (up.setIfInBounds j true) b v (fun k ok hk hki hun hno => hfree k ok hk hki ?_ hno) (ready_mono hr (Ne.symm e)) h3.1 (h3.2.1 hjz) ?_⟩) h2
        · by_cases hjk : j = k
          · subst hjk; exact hjun
          · rw [getD_set_ne true hjk] at hun; exact hun
        · rw [Array.setIfInBounds_comm _ _ e]
          exact h3.2.2⟩
def waitsB (md : Region.Mode) (ops : Array Oper) (z i : Nat) : Bool := match ops[z]? with | none => true | some o => o.after.any fun e => Region.binds md e && e.on == i
theorem waits_of {i : Nat} (h : waitsB md ops z i = true) : WaitsFor md ops z i := by
  intro o ho
  unfold waitsB at h
  rw [ho] at h
  simp only [Array.any_eq_true'] at h
  obtain ⟨e, he, hb⟩ := h
  rw [Bool.and_eq_true] at hb
  exact ⟨e, he, hb.1, eq_of_beq hb.2⟩
theorem ordU_take {i : Nat} {oi : Oper} {v : Value} {n : Nat} {up : Array Bool} {a : Act} {w : World} (hi : ops[i]? = some oi) (hs : Region.noSelect ops = true) (hf : Region.free md ops up i = true) (hr : (Region.ready md ops up).contains i = true)
    (hz : waitsB md ops z i = true) (hQ : ∀ c a w, Q (.panic c) (a.put oi.dst v) w → Q (.panic c) a w) (hy : YieldsIf P ops S oi v a) (hS : S w)
    (h : OrdU P md ops Q S z n (up.setIfInBounds i true) (a.put oi.dst v) w) : OrdU P md ops Q S z (n + 1) up a w :=
  OrdU.first hi (Region.noSelect_spec hs) hQ (waits_of hz) n up a w (Region.free_spec hi hf) (by simpa using hr) hy hS h
def AllU (P : Program) (md : Region.Mode) (ops : Array Oper) (Q : Exit → Act → World → Prop) (S : World → Prop) (z n : Nat) (up : Array Bool) (a : Act) (w : World) (rs : List Nat) : Prop :=
  ∀ i ∈ rs, wpOp P ops Q i (fun b v => (i ≠ z → S v) ∧ OrdU P md ops Q S z n (up.setIfInBounds i true) b v) a w
theorem ordU_ready {rs : List Nat} {n : Nat} {up : Array Bool} {a : Act} {w : World} (hr : Region.ready md ops up = rs) (hne : rs ≠ []) (h : AllU P md ops Q S z n up a w rs) : OrdU P md ops Q S z (n + 1) up a w :=
  ⟨fun h0 => absurd (hr ▸ h0) hne, hr ▸ h⟩
theorem AllU.nil {n : Nat} {up : Array Bool} {a : Act} {w : World} : AllU P md ops Q S z n up a w [] := fun _ h => by cases h
theorem AllU.cons {n : Nat} {up : Array Bool} {a : Act} {w : World} {i : Nat} {o : Oper} {rs : List Nat} (ho : ops[i]? = some o)
    (h : ∀ K : Act → World → Prop, Hid (∀ a w, S w → (S w → OrdU P md ops Q S z n (up.setIfInBounds i true) a w) → K a w) → if Region.wanted o (yielded ops a.tmps) = true then Oper.wp P o a w K Q else K (a.put o.dst undef) w)
    (hs : AllU P md ops Q S z n up a w rs) : AllU P md ops Q S z n up a w (i :: rs) := fun j hj => by
  rcases List.mem_cons.1 hj with rfl | hj
  · exact wpOp_step ho (fun K hK => h K (Lib.hid (fun a w hS hW => hK a w ⟨fun _ => hS, hW hS⟩)))
  · exact hs j hj
/-- The last operation: behind it nothing is asked of the world. -/
theorem ordU_last {n : Nat} {up : Array Bool} {a : Act} {w : World} {o : Oper} (hr : Region.ready md ops up = [z]) (ho : ops[z]? = some o)
    (h : ∀ K : Act → World → Prop, Hid (∀ a w, OrdU P md ops Q S z n (up.setIfInBounds z true) a w → K a w) → if Region.wanted o (yielded ops a.tmps) = true then Oper.wp P o a w K Q else K (a.put o.dst undef) w) : OrdU P md ops Q S z (n + 1) up a w :=
  ⟨fun h0 => (by rw [hr] at h0; cases h0), fun j hj => by
    rw [hr, List.mem_singleton] at hj
    subst hj
    exact wpOp_step ho (fun K hK => h K (Lib.hid (fun a w hW => hK a w ⟨fun hne => absurd rfl hne, hW⟩)))⟩
theorem ordU_done {up : Array Bool} {a : Act} {w : World} (hr : Region.ready md ops up = []) (h : Q .normal a w) : ∀ n, OrdU P md ops Q S z n up a w
  | 0 => ⟨hr, h⟩
  | _ + 1 => ⟨fun _ => h, by rw [hr]; simp⟩
theorem ordU_region {id : Nat} {a : Act} {w : World} (z : Nat) (S : World → Prop) (hm : P.follows .mixedOrders = true) (hS : S w.drew) (h : S w.drew → OrdU P .any ops Q S z ops.size (Array.replicate ops.size false) a w.drew) : (Code.region id ops true).wp P Q a w :=
  wp_region_any hm (OrdU.any _ _ _ _ (h hS))
end
end Go.Proofs.Ytfcmdiigfgbgbaa

/- A result that is a variable of the call's own. -/

namespace Go.Proofs.Ytfcmdiigfgbgbaa
open Go.RowKit

theorem results_cell {P : Program} {fn : Func} {t : Tmp} {ty : TypeId} (h : fn.results = #[.cell t ty]) (tmps : Array Value) (w : World) {b o : Nat} (ht : tmps.getD t undef = .pointer (some ⟨b, o, none⟩)) {cs : List Value} {d : TypeDesc} (hc : w.rangeAt b o cs)
    (hu : P.underlying ty = some d) (hd : d.isRow = true) (hi : (P.info? ty).map (·.size) = some cs.length) : (results fn tmps).run P w = .ok (.agg cs.toArray) w := by
  have ht' : tmps[t]?.getD undef = .pointer (some ⟨b, o, none⟩) := by rw [← Array.getD_eq_getD_getElem?]; exact ht
  simp [results, h, ht', asAddr, run_loadVar_mid w b o ty cs d hc hu hd hi]
end Go.Proofs.Ytfcmdiigfgbgbaa

/- The state of wittingref46.Copy: the copy in a variable, its rows of the call's own. -/

namespace Go.Proofs.Ytfcmdiigfgbgbaa
open Go.RowKit

def Stp.cells (x : Stp) (u : Value) : List Value := [.int .u64 (x.set : Int), .int .i64 x.rule, .int .i64 x.on, .int .i64 x.e, u]
def stepCells : List Stp → List Value → List Value
  | x :: r, u :: s => x.cells u ++ stepCells r s
  | _, _ => []
theorem stepCells_snoc : ∀ (l : List Stp) (us : List Value) (x : Stp) (u : Value), us.length = l.length → stepCells (l ++ [x]) (us ++ [u]) = stepCells l us ++ x.cells u
  | [], [], x, u, _ => by simp [stepCells]
  | a :: l, v :: us, x, u, h => by
    rw [List.cons_append, List.cons_append, stepCells, stepCells, stepCells_snoc l us x u (by simpa using h), List.append_assoc]
  | [], v :: us, _, _, h => by simp at h
  | a :: l, [], _, _, h => by simp at h
theorem stepCells_get : ∀ (l : List Stp) (us : List Value) (k : Nat) (x : Stp) (u : Value) (j : Nat), l[k]? = some x → us[k]? = some u → j < 5 → (stepCells l us)[k * 5 + j]? = (x.cells u)[j]?
  | [], _, k, x, u, j, h, _, _ => by simp at h
  | _ :: _, [], k, x, u, j, _, h, _ => by simp at h
  | a :: l, v :: us, 0, x, u, j, h, g, hj => by
    simp only [List.getElem?_cons_zero, Option.some.injEq] at h g
    subst h g
    rw [stepCells, List.getElem?_append_left (by simp [Stp.cells]; omega)]
    simp
  | a :: l, v :: us, k + 1, x, u, j, h, g, hj => by
    rw [stepCells, List.getElem?_append_right (by simp [Stp.cells]; omega)]
    have := stepCells_get l us k x u j (by simpa using h) (by simpa using g) hj
    rw [← this]
    congr 1
    simp [Stp.cells]
    omega
/-- The rows of the copy. m: blocks from here on are the call's own. -/
structure Cpy (w wr : World) (m O : Nat) (lg : Int) (vb vs : Value) (ob : List Nd) (os : List Stp) : Prop where
  ext : Ext w wr
  blk : wr.heap[O]? = some (.cells #[.int .i64 lg, vb, vs] 25 (0, 0))
  rowb : wr.ownsRow m 48 6 vb ob.length (ob.flatMap Nd.cells)
  rows : ∃ us : List Value, us.length = os.length ∧ wr.ownsRow m 34 5 vs os.length (stepCells os us) ∧
    ∀ (k : Nat) (x : Stp) (u : Value), os[k]? = some x → us[k]? = some u → Ints wr u x.from_ ∧ ∀ g, u.ownBlock = some g → m ≤ g ∧ g < wr.heap.size ∧ vs.ownBlock ≠ some g
  apart : ∀ g, vb.ownBlock = some g → vs.ownBlock ≠ some g
  bound : ∀ x ∈ os, x.set < 18446744073709551616
section
variable {w wr w' : World} {m O : Nat} {lg : Int} {vb vs : Value} {ob : List Nd} {os : List Stp}
theorem Ints.keep {w w' : World} {v : Value} {l : List Int} (h : Ints w v l) (hb : ∀ g, v.ownBlock = some g → g < w.heap.size → w'.heap[g]? = w.heap[g]?) (hs : w.heap.size ≤ w'.heap.size) : Ints w' v l := by
  obtain ⟨A, c, rfl, h1, h2, h3⟩ := h
  refine ⟨A, c, rfl, h1, h2, fun hn => ?_⟩
  obtain ⟨ad, rfl, hlt, hc⟩ := h3 hn
  refine ⟨ad, rfl, Nat.lt_of_lt_of_le hlt hs, fun k n hk => ?_⟩
  have hq : w'.heap[ad.block]? = w.heap[ad.block]? := hb ad.block rfl hlt
  exact (World.cell?_of_block (by rw [block_of_add]; exact hq)).trans (hc k n hk)
theorem Cpy.next (h : Cpy w wr m O lg vb vs ob os) (he : Ext wr w') : Cpy w w' m O lg vb vs ob os := by
  obtain ⟨us, hl, hr, hu⟩ := h.rows
  exact ⟨h.ext.trans he, (he.block (lt_heap h.blk)).trans h.blk, row_ext h.rowb he, ⟨us, hl, row_ext hr he, fun k x u hx hu' => ⟨(hu k x u hx hu').1.ext he, fun g hg => ⟨((hu k x u hx hu').2 g hg).1, Nat.lt_of_lt_of_le ((hu k x u hx hu').2 g hg).2.1 he.size, ((hu k x u hx hu').2 g hg).2.2⟩⟩⟩, h.apart, h.bound⟩
theorem set_2nd {w : World} {b : Nat} {a0 a1 a2 : Value} {t : TypeId} (h : w.heap[b]? = some (.cells #[a0, a1, a2] t (0, 0))) (u : Value) : (w.setCell ⟨b, 1, none⟩ u).heap[b]? = some (.cells #[a0, u, a2] t (0, 0)) := by
  simp only [World.setCell, Array.getElem?_modify, h, if_true, Option.map_some]
  rfl
theorem set_3rd {w : World} {b : Nat} {a0 a1 a2 : Value} {t : TypeId} (h : w.heap[b]? = some (.cells #[a0, a1, a2] t (0, 0))) (u : Value) : (w.setCell ⟨b, 2, none⟩ u).heap[b]? = some (.cells #[a0, a1, u] t (0, 0)) := by
  simp only [World.setCell, Array.getElem?_modify, h, if_true, Option.map_some]
  rfl
theorem size_setCell (w : World) (p : Addr) (u : Value) : (w.setCell p u).heap.size = w.heap.size := by simp [World.setCell]
/-- A node is appended to the copy's base (no step is in the copy yet). -/
theorem Cpy.node {w7 : World} {v7 : Value} {n : Nd} (h : Cpy w wr m O lg vb (.slice none 0 0) ob []) (hwO : w.heap.size ≤ O) (hOm : O < m)
    (hown : w7.ownsRow m 48 6 v7 (ob.length + 1) (ob.flatMap Nd.cells ++ n.cells)) (hg : wr.grownBy w7 vb.ownBlock) :
    Cpy w (w7.setCell ⟨O, 1, none⟩ v7) m O lg v7 (.slice none 0 0) (ob ++ [n]) [] := by
  have hvb : ∀ g, vb.ownBlock = some g → m ≤ g := fun g hg' => (h.rowb.lt g hg').1
  have hkO : w7.heap[O]? = wr.heap[O]? := hg.block O (lt_heap h.blk) (fun e => by have := hvb O e.symm; omega)
  have hv7 : v7.ownBlock ≠ some O := fun e => by have := (hown.lt O e).1; omega
  refine ⟨(h.ext.grown hg (fun g hg' => by have := hvb g hg'; omega)).setCell hwO _, set_2nd (hkO.trans h.blk) v7, ?_, ⟨[], rfl, World.ownsRow_nil _ _ _ _, fun k x u hx => by simp at hx⟩, fun g _ e => (by cases e), fun x hx => (by cases hx)⟩
  have hr : w7.ownsRow m 48 6 v7 (ob ++ [n]).length ((ob ++ [n]).flatMap Nd.cells) := by
    rw [List.length_append, List.flatMap_append]
    simpa using hown
  exact ownsRow_setCell_other (a := ⟨O, 1, none⟩) hr hv7 _
/-- A step is appended to the copy's steps. -/
theorem Cpy.step {w7 : World} {v7 u : Value} {x : Stp} {us : List Value} (h : Cpy w wr m O lg vb vs ob os) (hwO : w.heap.size ≤ O) (hOm : O < m)
    (hl : us.length = os.length) (hr : wr.ownsRow m 34 5 vs os.length (stepCells os us))
    (hu : ∀ (k : Nat) (x : Stp) (u : Value), os[k]? = some x → us[k]? = some u → Ints wr u x.from_ ∧ ∀ g, u.ownBlock = some g → m ≤ g ∧ g < wr.heap.size ∧ vs.ownBlock ≠ some g)
    (hx : x.set < 18446744073709551616) (hui : Ints wr u x.from_) (hub : ∀ g, u.ownBlock = some g → m ≤ g ∧ g < wr.heap.size ∧ vs.ownBlock ≠ some g)
    (hown : w7.ownsRow m 34 5 v7 (os.length + 1) (stepCells os us ++ x.cells u)) (hg : wr.grownBy w7 vs.ownBlock) (hat : v7.ownBlock = vs.ownBlock ∨ v7.ownBlock = some wr.heap.size) :
    Cpy w (w7.setCell ⟨O, 2, none⟩ v7) m O lg vb v7 ob (os ++ [x]) := by
  have hvs : ∀ g, vs.ownBlock = some g → m ≤ g := fun g hg' => (hr.lt g hg').1
  have hkO : w7.heap[O]? = wr.heap[O]? := hg.block O (lt_heap h.blk) (fun e => by have := hvs O e.symm; omega)
  have hv7 : v7.ownBlock ≠ some O := fun e => by have := (hown.lt O e).1; omega
  have hkeep : ∀ g, m ≤ g → g < wr.heap.size → vs.ownBlock ≠ some g → (w7.setCell ⟨O, 2, none⟩ v7).heap[g]? = wr.heap[g]? := fun g h1 h2 h3 => by
    rw [Below.heap_setCell _ _ _ _ (show g ≠ O by omega)]
    exact hg.block g h2 (fun e => h3 e.symm)
  have hne7 : ∀ g, g < wr.heap.size → vs.ownBlock ≠ some g → v7.ownBlock ≠ some g := fun g h1 h2 e => by
    rcases hat with e1 | e1
    · exact h2 (e1.symm.trans e)
    · rw [e1] at e; injection e with e; omega
  have hsz : (w7.setCell ⟨O, 2, none⟩ v7).heap.size = w7.heap.size := size_setCell _ _ _
  have hmove : ∀ (y : Stp) (v : Value), (Ints wr v y.from_ ∧ ∀ g, v.ownBlock = some g → m ≤ g ∧ g < wr.heap.size ∧ vs.ownBlock ≠ some g) → Ints (w7.setCell ⟨O, 2, none⟩ v7) v y.from_ ∧ ∀ g, v.ownBlock = some g → m ≤ g ∧ g < (w7.setCell ⟨O, 2, none⟩ v7).heap.size ∧ v7.ownBlock ≠ some g := fun y v hv =>
    ⟨hv.1.keep (fun g hg' _ => hkeep g (hv.2 g hg').1 (hv.2 g hg').2.1 (hv.2 g hg').2.2) (by rw [hsz]; exact hg.size), fun g hg' => ⟨(hv.2 g hg').1, by rw [hsz]; exact Nat.lt_of_lt_of_le (hv.2 g hg').2.1 hg.size, hne7 g (hv.2 g hg').2.1 (hv.2 g hg').2.2⟩⟩
  refine ⟨(h.ext.grown hg (fun g hg' => by have := hvs g hg'; omega)).setCell hwO _, set_3rd (hkO.trans h.blk) v7, ?_, ⟨us ++ [u], by simp [hl], ?_, fun k y v hy hv => ?_⟩, fun g hg' => ?_, fun y hy => ?_⟩
  · exact row_keep h.rowb fun g hg' => hkeep g (h.rowb.lt g hg').1 (h.rowb.lt g hg').2 (h.apart g hg')
  · have hr2 : w7.ownsRow m 34 5 v7 (os ++ [x]).length (stepCells (os ++ [x]) (us ++ [u])) := by
      rw [List.length_append, stepCells_snoc _ _ _ _ hl]
      exact hown
    exact ownsRow_setCell_other (a := ⟨O, 2, none⟩) hr2 hv7 _
  · by_cases hk : k < os.length
    · rw [List.getElem?_append_left hk] at hy
      rw [List.getElem?_append_left (by omega)] at hv
      exact hmove y v (hu k y v hy hv)
    · rw [List.getElem?_append_right (by omega)] at hy
      rw [List.getElem?_append_right (by omega)] at hv
      have hk0 : k - os.length = 0 := by
        by_cases e : k - os.length = 0
        · exact e
        · rw [List.getElem?_eq_none (by simp; omega)] at hy; cases hy
      rw [hk0] at hy
      rw [show k - us.length = 0 by omega] at hv
      simp at hy hv
      subst hy hv
      exact hmove x u ⟨hui, hub⟩
  · exact hne7 g (h.rowb.lt g hg').2 (h.apart g hg')
  · rcases List.mem_append.1 hy with hy | hy
    · exact h.bound y hy
    · rw [List.mem_singleton.1 hy]; exact hx
theorem Cpy.sps (h : Cpy w wr m O lg vb vs ob os) : Sps wr vs os := by
  obtain ⟨us, hl, hr, hu⟩ := h.rows
  rcases hr.2 with ⟨e, h0⟩ | ⟨g, cap, cur, e, h1, h2, h3, h4, h5, h6⟩
  · subst e
    have : os = [] := List.length_eq_zero_iff.1 h0
    subst this
    exact ⟨none, 0, rfl, Nat.le_refl _, by unfold maxLen; omega, fun h => absurd rfl h⟩
  · subst e
    refine ⟨_, cap, rfl, h3, h4, fun _ => ⟨_, rfl, lt_heap h2, fun k x hx => ?_⟩⟩
    have hk : k < os.length := (List.getElem?_eq_some_iff.1 hx).1
    obtain ⟨u, hu'⟩ : ∃ u, us[k]? = some u := ⟨_, List.getElem?_eq_getElem (by omega)⟩
    have hcell : ∀ j : Nat, j < 5 → wr.cell? ⟨g, k * 5 + j, none⟩ = (x.cells u)[j]? := fun j hj => by
      have h7 := stepCells_get os us k x u j hx hu' hj
      rw [← h6, List.getElem?_take] at h7
      split at h7
      · rw [← h7]
        simp [World.cell?, h2]
      · simp [Stp.cells] at h7
        omega
    rw [addr_zero]
    exact ⟨u, hcell 0 (by decide), hcell 1 (by decide), hcell 2 (by decide), hcell 3 (by decide), hcell 4 (by decide), (hu k x u hx hu').1, h.bound x (List.mem_of_getElem? hx)⟩
end
end Go.Proofs.Ytfcmdiigfgbgbaa

/- wittingref46.Copy. -/

namespace Go.Proofs.Ytfcmdiigfgbgbaa
open Go.RowKit

theorem tInfoN : (Try.prog.info? 48).map (fun i => (i.zero, i.size, i.bytes)) = some (some Nd.zero.val, 6, 48) := by kernel_rfl
theorem tInfoSt : (Try.prog.info? 34).map (fun i => (i.zero, i.size, i.bytes)) = some (some (.agg #[.int .u64 0, .int .i64 0, .int .i64 0, .int .i64 0, .slice none 0 0]), 5, 56) := by kernel_rfl
theorem tInfoI : (Try.prog.info? 3).map (fun i => (i.zero, i.size, i.bytes)) = some (some (.int .i64 0), 1, 8) := by kernel_rfl
theorem range3 {w : World} {b : Nat} {a0 a1 a2 : Value} {t : TypeId} (h : w.heap[b]? = some (.cells #[a0, a1, a2] t (0, 0))) : w.rangeAt b 0 [a0, a1, a2] := fun j v hj => by
  match j, hj with
  | 0, hj => simp at hj; subst hj; simp [World.cell?, h]
  | 1, hj => simp at hj; subst hj; simp [World.cell?, h]
  | 2, hj => simp at hj; subst hj; simp [World.cell?, h]
theorem ints_ad {w : World} {A : Option Addr} {n c : Nat} {l : List Int} (h : Ints w (.slice A n c) l) (hl : l ≠ []) : ∃ ad, A = some ad ∧ ad.block < w.heap.size ∧ ∀ k z, l[k]? = some z → w.cell? (ad.add k) = some (.int .i64 z) := by
  obtain ⟨_, _, e, _, _, hr⟩ := h
  injection e with e1 _ _
  obtain ⟨ad, hA, h1, h2⟩ := hr hl
  exact ⟨ad, e1.trans hA, h1, h2⟩
theorem cpy_out {w wr w4 w7 : World} {m O : Nat} {lg : Int} {vb vs : Value} {ob : List Nd} {os : List Stp} (h : Cpy w wr m O lg vb vs ob os) (he : Ext wr w4) (hOm : O < m) (hg : w4.grownBy w7 vb.ownBlock) : w7.heap[O]? = some (.cells #[.int .i64 lg, vb, vs] 25 (0, 0)) :=
  (hg.block O (Nat.lt_of_lt_of_le (lt_heap h.blk) he.size) (fun e => by have := (h.rowb.lt O e.symm).1; omega)).trans (h.next he).blk
theorem cpy_outs {w wr w4 w7 : World} {m O : Nat} {lg : Int} {vb vs : Value} {ob : List Nd} {os : List Stp} (h : Cpy w wr m O lg vb vs ob os) (he : Ext wr w4) (hOm : O < m) (hg : w4.grownBy w7 vs.ownBlock) : w7.heap[O]? = some (.cells #[.int .i64 lg, vb, vs] 25 (0, 0)) := by
  obtain ⟨us, _, hr, _⟩ := h.rows
  exact (hg.block O (Nat.lt_of_lt_of_le (lt_heap h.blk) he.size) (fun e => by have := (hr.lt O e.symm).1; omega)).trans (h.next he).blk
theorem set_1st {w : World} {b : Nat} {a0 a1 a2 : Value} {t : TypeId} (h : w.heap[b]? = some (.cells #[a0, a1, a2] t (0, 0))) (u : Value) : (w.setCell ⟨b, 0, none⟩ u).heap[b]? = some (.cells #[u, a1, a2] t (0, 0)) := by
  simp only [World.setCell, Array.getElem?_modify, h, if_true, Option.map_some]
  rfl
theorem set_5th {w : World} {b : Nat} {a0 a1 a2 a3 a4 : Value} {t : TypeId} (h : w.heap[b]? = some (.cells #[a0, a1, a2, a3, a4] t (0, 0))) (u : Value) : (w.setCell ⟨b, 4, none⟩ u).heap[b]? = some (.cells #[a0, a1, a2, a3, u] t (0, 0)) := by
  simp only [World.setCell, Array.getElem?_modify, h, if_true, Option.map_some]
  rfl
theorem stepOne (x : Stp) (A : Option Addr) (n c : Nat) : ∀ u ∈ x.cells (.slice A n c), u.oneCell' = true := by
  intro u hu
  simp only [Stp.cells, List.mem_cons, List.not_mem_nil, or_false] at hu
  rcases hu with rfl | rfl | rfl | rfl | rfl <;> rfl
theorem hm_le {O n : Nat} (h : O < n) : O + 1 ≤ n := h
/-- The rows of a copy. -/
def CpyRows (w : World) (m : Nat) (ub us : Value) (base : List Nd) (steps : List Stp) : Prop := ∃ w0 w1 O lg, Cpy w0 w1 m O lg ub us base steps ∧ (∀ g, m ≤ g → g < w1.heap.size → w.heap[g]? = w1.heap[g]?) ∧ w1.heap.size ≤ w.heap.size
theorem nodeCells (n : Nd) : ∀ u ∈ [Value.int .i64 n.op, .int .i64 n.i, .int .i64 n.e, .int .i64 n.g, .int .i64 n.x, .int .i64 n.y], u.oneCell' = true := by
  intro u hu
  simp only [List.mem_cons, List.not_mem_nil, or_false] at hu
  rcases hu with rfl | rfl | rfl | rfl | rfl | rfl <;> rfl
set_option maxRecDepth 100000 in
set_option maxHeartbeats 16000000 in
theorem copy_any {w : World} {lg : Int} {vb vs : Value} {base : List Nd} {steps : List Stp} (hb : Fml w vb base) (hs : Sps w vs steps) (hf : fewS base steps = true) :
    Calls Try.prog 9 #[.agg #[.int .i64 lg, vb, vs]] w fun e w' => ∃ ub us, e = .returned (.agg #[.int .i64 lg, ub, us]) ∧ Ext w w' ∧ ∃ m, w.heap.size ≤ m ∧ CpyRows w' m ub us base steps := by
  obtain ⟨hl7, hl12, hl5⟩ := fewS_yes hf
  have HL5 := Lib.hid hl5
  have HOK := Lib.hid hb.2
  have HSS := Lib.hid hs
  obtain ⟨⟨Ab, cb, rfl, hb1, hb2, hbr⟩, _⟩ := hb
  obtain ⟨As, cs, rfl, hs1, hs2, hsr⟩ := hs
  unfold maxLen at hb2 hs2
  have HBR := Lib.hid hbr
  have HSR := Lib.hid hsr
  clear hbr hsr hl5
  obtain ⟨i0, hi0, hz00, hz01, hz02⟩ := info_parts tInfoN
  obtain ⟨iS, hiS, hzS0, hzS1, hzS2⟩ := info_parts tInfoSt
  obtain ⟨i3, hi3, hz30, hz31, hz32⟩ := info_parts tInfoI
  obtain ⟨z0, z1, z2, _, zlt⟩ := cells3 (heap_alloc_new w (.cells #[.int .i64 lg, .slice Ab base.length cb, .slice As steps.length cs] 25))
  have X0 := Lib.hid ((Ext.refl w).alloc (.cells #[.int .i64 lg, .slice Ab base.length cb, .slice As steps.length cs] 25))
  have X12 := Lib.hid (show Ext (w.alloc (.cells #[.int .i64 lg, .slice Ab base.length cb, .slice As steps.length cs] 25)) ((w.alloc (.cells #[.int .i64 lg, .slice Ab base.length cb, .slice As steps.length cs] 25)).alloc (.cells #[.int .i64 0, .slice none 0 0, .slice none 0 0] 25)) from (Ext.refl _).alloc _)
  have hZ1 := (X12.out.cell (p := ⟨w.heap.size, 1, none⟩) zlt).trans z1
  have hZ2 := (X12.out.cell (p := ⟨w.heap.size, 2, none⟩) zlt).trans z2
  have hzl2 : w.heap.size < ((w.alloc (.cells #[.int .i64 lg, .slice Ab base.length cb, .slice As steps.length cs] 25)).alloc (.cells #[.int .i64 0, .slice none 0 0, .slice none 0 0] 25)).heap.size := Nat.lt_of_lt_of_le zlt X12.out.size
  have hRES := Lib.hid (show ((w.alloc (.cells #[.int .i64 lg, .slice Ab base.length cb, .slice As steps.length cs] 25)).alloc (.cells #[.int .i64 0, .slice none 0 0, .slice none 0 0] 25)).heap[w.heap.size + 1]? = some (.cells #[.int .i64 0, .slice none 0 0, .slice none 0 0] 25 (0, 0)) from by have := heap_alloc_new (w.alloc (.cells #[.int .i64 lg, .slice Ab base.length cb, .slice As steps.length cs] 25)) (.cells #[.int .i64 0, .slice none 0 0, .slice none 0 0] 25); simpa using this)
  have X02 := Lib.hid (X0.out.trans X12.out)
  have hOle : ((w.alloc (.cells #[.int .i64 lg, .slice Ab base.length cb, .slice As steps.length cs] 25)).alloc (.cells #[.int .i64 0, .slice none 0 0, .slice none 0 0] 25)).heap.size ≤ w.heap.size + 1 + 1 := by simp
  clear z0 z1 z2 zlt X0 X12
  obtain ⟨V2, hv⟩ : ∃ V, V = ((w.alloc (.cells #[.int .i64 lg, .slice Ab base.length cb, .slice As steps.length cs] 25)).alloc (.cells #[.int .i64 0, .slice none 0 0, .slice none 0 0] 25)) := ⟨_, rfl⟩
  have HC0 := Lib.hid (show Cpy V2 (((w.alloc (.cells #[.int .i64 lg, .slice Ab base.length cb, .slice As steps.length cs] 25)).alloc (.cells #[.int .i64 0, .slice none 0 0, .slice none 0 0] 25)).alloc (.cells #[.int .i64 lg, .slice none 0 0, .slice none 0 0] 25)) (w.heap.size + 1 + 1 + 1) (w.heap.size + 1 + 1) lg (.slice none 0 0) (.slice none 0 0) [] [] from by
    rw [hv]
    exact ⟨(Ext.refl _).alloc _, by have := heap_alloc_new ((w.alloc (.cells #[.int .i64 lg, .slice Ab base.length cb, .slice As steps.length cs] 25)).alloc (.cells #[.int .i64 0, .slice none 0 0, .slice none 0 0] 25)) (.cells #[.int .i64 lg, .slice none 0 0, .slice none 0 0] 25); simpa using this, World.ownsRow_nil _ _ _ _, ⟨[], rfl, World.ownsRow_nil _ _ _ _, fun k x u hx => by simp at hx⟩, fun g e => (by cases e), fun x hx => (by cases hx)⟩)
  rw [← hv] at X02 hZ1 hZ2 hzl2 hRES hOle
  clear hv
  go_enter Try.func9, Try.ntmps9
  go_wp2_with fail
  go_loopw [4] (fun vi wr => ∃ k : Nat, vi = .int .i64 (k : Int) ∧ k ≤ base.length ∧ Hid (∃ vbo, Cpy V2 wr (w.heap.size + 1 + 1 + 1) (w.heap.size + 1 + 1) lg vbo (.slice none 0 0) (base.take k) [])) (fun vi _ => base.length - (intOf vi).toNat)
  case atStart => exact ⟨0, rfl, Nat.zero_le _, Lib.hid ⟨_, HC0.out⟩⟩
  case round =>
    obtain ⟨k, rfl, hk, HREL⟩ := hrel
    obtain ⟨vbo, hc⟩ := HREL.out
    obtain ⟨Ao, co, hvo⟩ := slice_of_row hc.rowb
    have hol : (base.take k).length = k := by rw [List.length_take]; omega
    obtain ⟨ob, hob⟩ : ∃ ob, ob = base.take k := ⟨_, rfl⟩
    rw [← hob] at hc hvo hol
    subst hvo
    have HC := Lib.hid hc
    have HOB := Lib.hid hob
    have hxw : Ext V2 wr := hc.ext
    have hZw := (hxw.cell (p := ⟨w.heap.size, 1, none⟩) hzl2).trans hZ1
    clear HREL hc hob
    by_cases hlt2 : k < base.length
    · obtain ⟨n, hn⟩ : ∃ n, base[k]? = some n := ⟨_, List.getElem?_eq_getElem hlt2⟩
      obtain ⟨ad, rfl, hblk, hcells⟩ := HBR.out (by intro e; rw [e] at hlt2; simp at hlt2)
      obtain ⟨q0, q1, q2, q3, q4, q5⟩ := hcells k n hn
      have hqb : (ad.add (k * 6)).block < w.heap.size := by rw [block_of_add]; exact hblk
      have q0 := (X02.out.cell (p := ad.add (k * 6)) hqb).trans q0
      have q1 := (X02.out.cell (p := ⟨(ad.add (k * 6)).block, (ad.add (k * 6)).off + 1, none⟩) hqb).trans q1
      have q2 := (X02.out.cell (p := ⟨(ad.add (k * 6)).block, (ad.add (k * 6)).off + 2, none⟩) hqb).trans q2
      have q3 := (X02.out.cell (p := ⟨(ad.add (k * 6)).block, (ad.add (k * 6)).off + 3, none⟩) hqb).trans q3
      have q4 := (X02.out.cell (p := ⟨(ad.add (k * 6)).block, (ad.add (k * 6)).off + 4, none⟩) hqb).trans q4
      have q5 := (X02.out.cell (p := ⟨(ad.add (k * 6)).block, (ad.add (k * 6)).off + 5, none⟩) hqb).trans q5
      have hqb2 : (ad.add (k * 6)).block < V2.heap.size := Nat.lt_of_lt_of_le hqb X02.out.size
      have hk1 : (k : Int) < (base.length : Int) := by omega
      have hk0 : (0 : Int) ≤ (k : Int) := by omega
      have hc3 : ob.length + 1 ≤ maxLen := by unfold maxLen; omega
      have hc4 : (ob.length + 1) * 48 ≤ 140737488355328 := by omega
      obtain ⟨_, o1, _, ofr, olt⟩ := cells3 HC.out.blk
      have HSTEP := Lib.hid (take_succ_eq hn)
      have HNK := Lib.hid hn
      clear hcells hn hol
      go_wp2_with fail
      refine wp_region_held_drew (S := fun w' => w'.cell? (⟨w.heap.size, 1, none⟩) = some (.slice (some ad) base.length cb) ∧ w'.cell? (ad.add (k * 6)) = some (.int .i64 n.op) ∧ w'.cell? (⟨(ad.add (k * 6)).block, (ad.add (k * 6)).off + 1, none⟩) = some (.int .i64 n.i) ∧ w'.cell? (⟨(ad.add (k * 6)).block, (ad.add (k * 6)).off + 2, none⟩) = some (.int .i64 n.e) ∧ w'.cell? (⟨(ad.add (k * 6)).block, (ad.add (k * 6)).off + 3, none⟩) = some (.int .i64 n.g) ∧ w'.cell? (⟨(ad.add (k * 6)).block, (ad.add (k * 6)).off + 4, none⟩) = some (.int .i64 n.x) ∧ w'.cell? (⟨(ad.add (k * 6)).block, (ad.add (k * 6)).off + 5, none⟩) = some (.int .i64 n.y)) (by kernel_rfl) ⟨(Ext.cell (p := ⟨w.heap.size, 1, none⟩) (by repeat (first | exact Ext.refl _ | assumption | apply Ext.alloc | apply Ext.drew | apply Ext.setCell)) hzl2).trans hZ1, (Ext.cell (p := ad.add (k * 6)) (by repeat (first | exact Ext.refl _ | assumption | apply Ext.alloc | apply Ext.drew | apply Ext.setCell)) hqb2).trans q0, (Ext.cell (p := ⟨(ad.add (k * 6)).block, (ad.add (k * 6)).off + 1, none⟩) (by repeat (first | exact Ext.refl _ | assumption | apply Ext.alloc | apply Ext.drew | apply Ext.setCell)) hqb2).trans q1, (Ext.cell (p := ⟨(ad.add (k * 6)).block, (ad.add (k * 6)).off + 2, none⟩) (by repeat (first | exact Ext.refl _ | assumption | apply Ext.alloc | apply Ext.drew | apply Ext.setCell)) hqb2).trans q2, (Ext.cell (p := ⟨(ad.add (k * 6)).block, (ad.add (k * 6)).off + 3, none⟩) (by repeat (first | exact Ext.refl _ | assumption | apply Ext.alloc | apply Ext.drew | apply Ext.setCell)) hqb2).trans q3, (Ext.cell (p := ⟨(ad.add (k * 6)).block, (ad.add (k * 6)).off + 4, none⟩) (by repeat (first | exact Ext.refl _ | assumption | apply Ext.alloc | apply Ext.drew | apply Ext.setCell)) hqb2).trans q4, (Ext.cell (p := ⟨(ad.add (k * 6)).block, (ad.add (k * 6)).off + 5, none⟩) (by repeat (first | exact Ext.refl _ | assumption | apply Ext.alloc | apply Ext.drew | apply Ext.setCell)) hqb2).trans q5⟩ (fun hHeld => ?_)
      refine' wpAnyH_take (i := 0) (v := _) rfl (by kernel_rfl) (by kernel_rfl) (by kernel_rfl) (fun _ _ _ h => h) (Or.inl ⟨by rfl, ?hybb11⟩) hHeld ?restbb11
      case hybb11 => (intro w' hSw; (try dsimp only at hSw); go_simp; (try with_reducible rfl))
      try simp only [Act.put, List.setIfInBounds_toArray, List.set_cons_zero, List.set_cons_succ, List.getElem_toArray, List.getElem_cons_zero]
      refine' wpAnyH_take (i := 2) (v := _) rfl (by kernel_rfl) (by kernel_rfl) (by kernel_rfl) (fun _ _ _ h => h) (Or.inl ⟨by rfl, ?hybb12⟩) hHeld ?restbb12
      case hybb12 => (intro w' hSw; (try dsimp only at hSw); go_simp; (try with_reducible rfl))
      try simp only [Act.put, List.setIfInBounds_toArray, List.set_cons_zero, List.set_cons_succ, List.getElem_toArray, List.getElem_cons_succ, List.getElem_cons_zero]
      refine' wpAnyH_take (i := 3) (v := _) rfl (by kernel_rfl) (by kernel_rfl) (by kernel_rfl) (fun _ _ _ h => h) (Or.inl ⟨by rfl, ?hybb13⟩) hHeld ?restbb13
      case hybb13 => (intro w' hSw; (try dsimp only at hSw); go_simp; (try with_reducible rfl))
      try simp only [Act.put, List.setIfInBounds_toArray, List.set_cons_zero, List.set_cons_succ, List.getElem_toArray, List.getElem_cons_succ, List.getElem_cons_zero]
      refine' wpAnyH_take (i := 4) (v := _) rfl (by kernel_rfl) (by kernel_rfl) (by kernel_rfl) (fun _ _ _ h => h) (Or.inl ⟨by rfl, ?hybb14⟩) hHeld ?restbb14
      case hybb14 => (intro w' hSw; (try dsimp only at hSw); go_simp; (try with_reducible rfl))
      try simp only [Act.put, List.setIfInBounds_toArray, List.set_cons_zero, List.set_cons_succ, List.getElem_toArray, List.getElem_cons_succ, List.getElem_cons_zero]
      refine' wpAnyH_take (i := 5) (v := _) rfl (by kernel_rfl) (by kernel_rfl) (by kernel_rfl) (fun _ _ _ h => h) (Or.inl ⟨by rfl, ?hybb15⟩) hHeld ?restbb15
      case hybb15 => (intro w' hSw; (try dsimp only at hSw); go_simp; (try with_reducible rfl))
      try simp only [Act.put, List.setIfInBounds_toArray, List.set_cons_zero, List.set_cons_succ, List.getElem_toArray, List.getElem_cons_succ, List.getElem_cons_zero]
      refine' wpAnyH_take (i := 6) (v := _) rfl (by kernel_rfl) (by kernel_rfl) (by kernel_rfl) (fun _ _ _ h => h) (Or.inl ⟨by rfl, ?hybb16⟩) hHeld ?restbb16
      case hybb16 => (intro w' hSw; (try dsimp only at hSw); go_simp; (try with_reducible rfl))
      try simp only [Act.put, List.setIfInBounds_toArray, List.set_cons_zero, List.set_cons_succ, List.getElem_toArray, List.getElem_cons_succ, List.getElem_cons_zero]
      refine wpAnyH_ready (rs := [1, 7]) (by kernel_rfl) (by simp) ?_
      refine AllReadyH.cons rfl (fun K hK => ?_) (AllReadyH.cons rfl (fun K hK => ?_) AllReadyH.nil)
      · skip
        go_simp
        refine hK.out _ _ ⟨(Ext.cell (p := ⟨w.heap.size, 1, none⟩) (by repeat (first | exact Ext.refl _ | assumption | apply Ext.alloc | apply Ext.drew | apply Ext.setCell)) hzl2).trans hZ1, (Ext.cell (p := ad.add (k * 6)) (by repeat (first | exact Ext.refl _ | assumption | apply Ext.alloc | apply Ext.drew | apply Ext.setCell)) hqb2).trans q0, (Ext.cell (p := ⟨(ad.add (k * 6)).block, (ad.add (k * 6)).off + 1, none⟩) (by repeat (first | exact Ext.refl _ | assumption | apply Ext.alloc | apply Ext.drew | apply Ext.setCell)) hqb2).trans q1, (Ext.cell (p := ⟨(ad.add (k * 6)).block, (ad.add (k * 6)).off + 2, none⟩) (by repeat (first | exact Ext.refl _ | assumption | apply Ext.alloc | apply Ext.drew | apply Ext.setCell)) hqb2).trans q2, (Ext.cell (p := ⟨(ad.add (k * 6)).block, (ad.add (k * 6)).off + 3, none⟩) (by repeat (first | exact Ext.refl _ | assumption | apply Ext.alloc | apply Ext.drew | apply Ext.setCell)) hqb2).trans q3, (Ext.cell (p := ⟨(ad.add (k * 6)).block, (ad.add (k * 6)).off + 4, none⟩) (by repeat (first | exact Ext.refl _ | assumption | apply Ext.alloc | apply Ext.drew | apply Ext.setCell)) hqb2).trans q4, (Ext.cell (p := ⟨(ad.add (k * 6)).block, (ad.add (k * 6)).off + 5, none⟩) (by repeat (first | exact Ext.refl _ | assumption | apply Ext.alloc | apply Ext.drew | apply Ext.setCell)) hqb2).trans q5⟩ (fun hHeld => ?_)
        clear hK K
        try simp only [Act.put, List.setIfInBounds_toArray, List.set_cons_zero, List.set_cons_succ, List.getElem_toArray, List.getElem_cons_succ, List.getElem_cons_zero]
        refine wpAnyH_ready (rs := [7]) (by kernel_rfl) (by simp) ?_
        refine AllReadyH.cons rfl (fun K hK => ?_) AllReadyH.nil
        go_simp
        refine hK.out _ _ ⟨(Ext.cell (p := ⟨w.heap.size, 1, none⟩) (by repeat (first | exact Ext.refl _ | assumption | apply Ext.alloc | apply Ext.drew | apply Ext.setCell)) hzl2).trans hZ1, (Ext.cell (p := ad.add (k * 6)) (by repeat (first | exact Ext.refl _ | assumption | apply Ext.alloc | apply Ext.drew | apply Ext.setCell)) hqb2).trans q0, (Ext.cell (p := ⟨(ad.add (k * 6)).block, (ad.add (k * 6)).off + 1, none⟩) (by repeat (first | exact Ext.refl _ | assumption | apply Ext.alloc | apply Ext.drew | apply Ext.setCell)) hqb2).trans q1, (Ext.cell (p := ⟨(ad.add (k * 6)).block, (ad.add (k * 6)).off + 2, none⟩) (by repeat (first | exact Ext.refl _ | assumption | apply Ext.alloc | apply Ext.drew | apply Ext.setCell)) hqb2).trans q2, (Ext.cell (p := ⟨(ad.add (k * 6)).block, (ad.add (k * 6)).off + 3, none⟩) (by repeat (first | exact Ext.refl _ | assumption | apply Ext.alloc | apply Ext.drew | apply Ext.setCell)) hqb2).trans q3, (Ext.cell (p := ⟨(ad.add (k * 6)).block, (ad.add (k * 6)).off + 4, none⟩) (by repeat (first | exact Ext.refl _ | assumption | apply Ext.alloc | apply Ext.drew | apply Ext.setCell)) hqb2).trans q4, (Ext.cell (p := ⟨(ad.add (k * 6)).block, (ad.add (k * 6)).off + 5, none⟩) (by repeat (first | exact Ext.refl _ | assumption | apply Ext.alloc | apply Ext.drew | apply Ext.setCell)) hqb2).trans q5⟩ (fun hHeld => ?_)
        clear hK K
        try simp only [Act.put, List.setIfInBounds_toArray, List.set_cons_zero, List.set_cons_succ, List.getElem_toArray, List.getElem_cons_succ, List.getElem_cons_zero]
        refine wpAnyH_ready (rs := [8]) (by kernel_rfl) (by simp) ?_
        refine AllReadyH.cons rfl (fun K hK => ?_) AllReadyH.nil
        refine step_append_at rfl (.tmp 20) (.tmp 26) 22 rfl (w.heap.size + 1 + 1 + 1) 48 i0 Nd.zero.val 6 48 Try.underlying22 hi0 hz00 hz01 hz02 rfl (by decide) (.slice Ao ob.length co) ob.length (ob.flatMap Nd.cells) (by simp [Act.eval]) (row_ext HC.out.rowb (by repeat (first | exact Ext.refl _ | assumption | apply Ext.alloc | apply Ext.drew | apply Ext.setCell))) ⟨wr.heap.size, 0, none⟩ 1 1 [.int .i64 n.op, .int .i64 n.i, .int .i64 n.e, .int .i64 n.g, .int .i64 n.x, .int .i64 n.y] (by simp [Act.eval]) rfl (row_new_at _ _ _ (by simp)) (nodeCells n) hc3 hc4 (Nat.le_trans (hm_le olt) (Ext.size (a := wr) (by repeat (first | exact Ext.refl _ | assumption | apply Ext.alloc | apply Ext.drew | apply Ext.setCell)))) ?_
        intro v7 w7 hown7 hgrow7 hat7
        have hC7 := Lib.hid (Cpy.node (n := n) (HC.out.next (w' := _) (by repeat (first | exact Ext.refl _ | assumption | apply Ext.alloc | apply Ext.drew | apply Ext.setCell))) hOle (by omega) hown7 hgrow7)
        have hx7 : Ext V2 w7 := Ext.grown (Ext.trans hxw (by repeat (first | exact Ext.refl _ | assumption | apply Ext.alloc | apply Ext.drew | apply Ext.setCell))) hgrow7 (fun g hg => by have := (HC.out.rowb.lt g hg).1; omega)
        obtain ⟨_, p1, _, pfr, plt⟩ := cells3 (cpy_out HC.out (by repeat (first | exact Ext.refl _ | assumption | apply Ext.alloc | apply Ext.drew | apply Ext.setCell)) (by omega) hgrow7)
        obtain ⟨A7, c7, hv7⟩ := slice_of_row hown7
        subst hv7
        clear hown7 hgrow7 hat7
        refine hK.out _ _ ⟨(Ext.cell (p := ⟨w.heap.size, 1, none⟩) (by repeat (first | exact Ext.refl _ | assumption | apply Ext.alloc | apply Ext.drew | apply Ext.setCell)) hzl2).trans hZ1, (Ext.cell (p := ad.add (k * 6)) (by repeat (first | exact Ext.refl _ | assumption | apply Ext.alloc | apply Ext.drew | apply Ext.setCell)) hqb2).trans q0, (Ext.cell (p := ⟨(ad.add (k * 6)).block, (ad.add (k * 6)).off + 1, none⟩) (by repeat (first | exact Ext.refl _ | assumption | apply Ext.alloc | apply Ext.drew | apply Ext.setCell)) hqb2).trans q1, (Ext.cell (p := ⟨(ad.add (k * 6)).block, (ad.add (k * 6)).off + 2, none⟩) (by repeat (first | exact Ext.refl _ | assumption | apply Ext.alloc | apply Ext.drew | apply Ext.setCell)) hqb2).trans q2, (Ext.cell (p := ⟨(ad.add (k * 6)).block, (ad.add (k * 6)).off + 3, none⟩) (by repeat (first | exact Ext.refl _ | assumption | apply Ext.alloc | apply Ext.drew | apply Ext.setCell)) hqb2).trans q3, (Ext.cell (p := ⟨(ad.add (k * 6)).block, (ad.add (k * 6)).off + 4, none⟩) (by repeat (first | exact Ext.refl _ | assumption | apply Ext.alloc | apply Ext.drew | apply Ext.setCell)) hqb2).trans q4, (Ext.cell (p := ⟨(ad.add (k * 6)).block, (ad.add (k * 6)).off + 5, none⟩) (by repeat (first | exact Ext.refl _ | assumption | apply Ext.alloc | apply Ext.drew | apply Ext.setCell)) hqb2).trans q5⟩ (fun hHeld => ?_)
        clear hK K
        try simp only [Act.put, List.setIfInBounds_toArray, List.set_cons_zero, List.set_cons_succ, List.getElem_toArray, List.getElem_cons_succ, List.getElem_cons_zero]
        refine' wpAnyH_take (i := 9) (v := _) rfl (by kernel_rfl) (by kernel_rfl) (by kernel_rfl) (fun _ _ _ h => h) (Or.inl ⟨by rfl, ?hybb17⟩) hHeld ?restbb17
        case hybb17 => (intro w' hSw; (try dsimp only at hSw); go_simp; (try with_reducible rfl))
        try simp only [Act.put, List.setIfInBounds_toArray, List.set_cons_zero, List.set_cons_succ, List.getElem_toArray, List.getElem_cons_succ, List.getElem_cons_zero]
        refine wpAnyH_ready (rs := [10]) (by kernel_rfl) (by simp) ?_
        refine AllReadyH.cons rfl (fun K hK => ?_) AllReadyH.nil
        go_simp
        refine hK.out _ _ ⟨(Ext.cell (p := ⟨w.heap.size, 1, none⟩) (by repeat (first | exact Ext.refl _ | assumption | apply Ext.alloc | apply Ext.drew | apply Ext.setCell)) hzl2).trans hZ1, (Ext.cell (p := ad.add (k * 6)) (by repeat (first | exact Ext.refl _ | assumption | apply Ext.alloc | apply Ext.drew | apply Ext.setCell)) hqb2).trans q0, (Ext.cell (p := ⟨(ad.add (k * 6)).block, (ad.add (k * 6)).off + 1, none⟩) (by repeat (first | exact Ext.refl _ | assumption | apply Ext.alloc | apply Ext.drew | apply Ext.setCell)) hqb2).trans q1, (Ext.cell (p := ⟨(ad.add (k * 6)).block, (ad.add (k * 6)).off + 2, none⟩) (by repeat (first | exact Ext.refl _ | assumption | apply Ext.alloc | apply Ext.drew | apply Ext.setCell)) hqb2).trans q2, (Ext.cell (p := ⟨(ad.add (k * 6)).block, (ad.add (k * 6)).off + 3, none⟩) (by repeat (first | exact Ext.refl _ | assumption | apply Ext.alloc | apply Ext.drew | apply Ext.setCell)) hqb2).trans q3, (Ext.cell (p := ⟨(ad.add (k * 6)).block, (ad.add (k * 6)).off + 4, none⟩) (by repeat (first | exact Ext.refl _ | assumption | apply Ext.alloc | apply Ext.drew | apply Ext.setCell)) hqb2).trans q4, (Ext.cell (p := ⟨(ad.add (k * 6)).block, (ad.add (k * 6)).off + 5, none⟩) (by repeat (first | exact Ext.refl _ | assumption | apply Ext.alloc | apply Ext.drew | apply Ext.setCell)) hqb2).trans q5⟩ (fun hHeld => ?_)
        clear hK K
        try simp only [Act.put, List.setIfInBounds_toArray, List.set_cons_zero, List.set_cons_succ, List.getElem_toArray, List.getElem_cons_succ, List.getElem_cons_zero]
        refine wpAnyH_done (by kernel_rfl) ?_ _
        go_wp2_with fail
        go_roundw
        case rel => exact ⟨k + 1, by go_num, by omega, Lib.hid ⟨_, by rw [HSTEP.out, ← HOB.out]; exact hC7.out⟩⟩
        case measure => simp [intOf]; omega
      · skip
        go_simp
        refine hK.out _ _ ⟨(Ext.cell (p := ⟨w.heap.size, 1, none⟩) (by repeat (first | exact Ext.refl _ | assumption | apply Ext.alloc | apply Ext.drew | apply Ext.setCell)) hzl2).trans hZ1, (Ext.cell (p := ad.add (k * 6)) (by repeat (first | exact Ext.refl _ | assumption | apply Ext.alloc | apply Ext.drew | apply Ext.setCell)) hqb2).trans q0, (Ext.cell (p := ⟨(ad.add (k * 6)).block, (ad.add (k * 6)).off + 1, none⟩) (by repeat (first | exact Ext.refl _ | assumption | apply Ext.alloc | apply Ext.drew | apply Ext.setCell)) hqb2).trans q1, (Ext.cell (p := ⟨(ad.add (k * 6)).block, (ad.add (k * 6)).off + 2, none⟩) (by repeat (first | exact Ext.refl _ | assumption | apply Ext.alloc | apply Ext.drew | apply Ext.setCell)) hqb2).trans q2, (Ext.cell (p := ⟨(ad.add (k * 6)).block, (ad.add (k * 6)).off + 3, none⟩) (by repeat (first | exact Ext.refl _ | assumption | apply Ext.alloc | apply Ext.drew | apply Ext.setCell)) hqb2).trans q3, (Ext.cell (p := ⟨(ad.add (k * 6)).block, (ad.add (k * 6)).off + 4, none⟩) (by repeat (first | exact Ext.refl _ | assumption | apply Ext.alloc | apply Ext.drew | apply Ext.setCell)) hqb2).trans q4, (Ext.cell (p := ⟨(ad.add (k * 6)).block, (ad.add (k * 6)).off + 5, none⟩) (by repeat (first | exact Ext.refl _ | assumption | apply Ext.alloc | apply Ext.drew | apply Ext.setCell)) hqb2).trans q5⟩ (fun hHeld => ?_)
        clear hK K
        try simp only [Act.put, List.setIfInBounds_toArray, List.set_cons_zero, List.set_cons_succ, List.getElem_toArray, List.getElem_cons_succ, List.getElem_cons_zero]
        refine wpAnyH_ready (rs := [1]) (by kernel_rfl) (by simp) ?_
        refine AllReadyH.cons rfl (fun K hK => ?_) AllReadyH.nil
        go_simp
        refine hK.out _ _ ⟨(Ext.cell (p := ⟨w.heap.size, 1, none⟩) (by repeat (first | exact Ext.refl _ | assumption | apply Ext.alloc | apply Ext.drew | apply Ext.setCell)) hzl2).trans hZ1, (Ext.cell (p := ad.add (k * 6)) (by repeat (first | exact Ext.refl _ | assumption | apply Ext.alloc | apply Ext.drew | apply Ext.setCell)) hqb2).trans q0, (Ext.cell (p := ⟨(ad.add (k * 6)).block, (ad.add (k * 6)).off + 1, none⟩) (by repeat (first | exact Ext.refl _ | assumption | apply Ext.alloc | apply Ext.drew | apply Ext.setCell)) hqb2).trans q1, (Ext.cell (p := ⟨(ad.add (k * 6)).block, (ad.add (k * 6)).off + 2, none⟩) (by repeat (first | exact Ext.refl _ | assumption | apply Ext.alloc | apply Ext.drew | apply Ext.setCell)) hqb2).trans q2, (Ext.cell (p := ⟨(ad.add (k * 6)).block, (ad.add (k * 6)).off + 3, none⟩) (by repeat (first | exact Ext.refl _ | assumption | apply Ext.alloc | apply Ext.drew | apply Ext.setCell)) hqb2).trans q3, (Ext.cell (p := ⟨(ad.add (k * 6)).block, (ad.add (k * 6)).off + 4, none⟩) (by repeat (first | exact Ext.refl _ | assumption | apply Ext.alloc | apply Ext.drew | apply Ext.setCell)) hqb2).trans q4, (Ext.cell (p := ⟨(ad.add (k * 6)).block, (ad.add (k * 6)).off + 5, none⟩) (by repeat (first | exact Ext.refl _ | assumption | apply Ext.alloc | apply Ext.drew | apply Ext.setCell)) hqb2).trans q5⟩ (fun hHeld => ?_)
        clear hK K
        try simp only [Act.put, List.setIfInBounds_toArray, List.set_cons_zero, List.set_cons_succ, List.getElem_toArray, List.getElem_cons_succ, List.getElem_cons_zero]
        refine wpAnyH_ready (rs := [8]) (by kernel_rfl) (by simp) ?_
        refine AllReadyH.cons rfl (fun K hK => ?_) AllReadyH.nil
        refine step_append_at rfl (.tmp 20) (.tmp 26) 22 rfl (w.heap.size + 1 + 1 + 1) 48 i0 Nd.zero.val 6 48 Try.underlying22 hi0 hz00 hz01 hz02 rfl (by decide) (.slice Ao ob.length co) ob.length (ob.flatMap Nd.cells) (by simp [Act.eval]) (row_ext HC.out.rowb (by repeat (first | exact Ext.refl _ | assumption | apply Ext.alloc | apply Ext.drew | apply Ext.setCell))) ⟨wr.heap.size, 0, none⟩ 1 1 [.int .i64 n.op, .int .i64 n.i, .int .i64 n.e, .int .i64 n.g, .int .i64 n.x, .int .i64 n.y] (by simp [Act.eval]) rfl (row_new_at _ _ _ (by simp)) (nodeCells n) hc3 hc4 (Nat.le_trans (hm_le olt) (Ext.size (a := wr) (by repeat (first | exact Ext.refl _ | assumption | apply Ext.alloc | apply Ext.drew | apply Ext.setCell)))) ?_
        intro v7 w7 hown7 hgrow7 hat7
        have hC7 := Lib.hid (Cpy.node (n := n) (HC.out.next (w' := _) (by repeat (first | exact Ext.refl _ | assumption | apply Ext.alloc | apply Ext.drew | apply Ext.setCell))) hOle (by omega) hown7 hgrow7)
        have hx7 : Ext V2 w7 := Ext.grown (Ext.trans hxw (by repeat (first | exact Ext.refl _ | assumption | apply Ext.alloc | apply Ext.drew | apply Ext.setCell))) hgrow7 (fun g hg => by have := (HC.out.rowb.lt g hg).1; omega)
        obtain ⟨_, p1, _, pfr, plt⟩ := cells3 (cpy_out HC.out (by repeat (first | exact Ext.refl _ | assumption | apply Ext.alloc | apply Ext.drew | apply Ext.setCell)) (by omega) hgrow7)
        obtain ⟨A7, c7, hv7⟩ := slice_of_row hown7
        subst hv7
        clear hown7 hgrow7 hat7
        refine hK.out _ _ ⟨(Ext.cell (p := ⟨w.heap.size, 1, none⟩) (by repeat (first | exact Ext.refl _ | assumption | apply Ext.alloc | apply Ext.drew | apply Ext.setCell)) hzl2).trans hZ1, (Ext.cell (p := ad.add (k * 6)) (by repeat (first | exact Ext.refl _ | assumption | apply Ext.alloc | apply Ext.drew | apply Ext.setCell)) hqb2).trans q0, (Ext.cell (p := ⟨(ad.add (k * 6)).block, (ad.add (k * 6)).off + 1, none⟩) (by repeat (first | exact Ext.refl _ | assumption | apply Ext.alloc | apply Ext.drew | apply Ext.setCell)) hqb2).trans q1, (Ext.cell (p := ⟨(ad.add (k * 6)).block, (ad.add (k * 6)).off + 2, none⟩) (by repeat (first | exact Ext.refl _ | assumption | apply Ext.alloc | apply Ext.drew | apply Ext.setCell)) hqb2).trans q2, (Ext.cell (p := ⟨(ad.add (k * 6)).block, (ad.add (k * 6)).off + 3, none⟩) (by repeat (first | exact Ext.refl _ | assumption | apply Ext.alloc | apply Ext.drew | apply Ext.setCell)) hqb2).trans q3, (Ext.cell (p := ⟨(ad.add (k * 6)).block, (ad.add (k * 6)).off + 4, none⟩) (by repeat (first | exact Ext.refl _ | assumption | apply Ext.alloc | apply Ext.drew | apply Ext.setCell)) hqb2).trans q4, (Ext.cell (p := ⟨(ad.add (k * 6)).block, (ad.add (k * 6)).off + 5, none⟩) (by repeat (first | exact Ext.refl _ | assumption | apply Ext.alloc | apply Ext.drew | apply Ext.setCell)) hqb2).trans q5⟩ (fun hHeld => ?_)
        clear hK K
        try simp only [Act.put, List.setIfInBounds_toArray, List.set_cons_zero, List.set_cons_succ, List.getElem_toArray, List.getElem_cons_succ, List.getElem_cons_zero]
        refine' wpAnyH_take (i := 9) (v := _) rfl (by kernel_rfl) (by kernel_rfl) (by kernel_rfl) (fun _ _ _ h => h) (Or.inl ⟨by rfl, ?hybb18⟩) hHeld ?restbb18
        case hybb18 => (intro w' hSw; (try dsimp only at hSw); go_simp; (try with_reducible rfl))
        try simp only [Act.put, List.setIfInBounds_toArray, List.set_cons_zero, List.set_cons_succ, List.getElem_toArray, List.getElem_cons_succ, List.getElem_cons_zero]
        refine wpAnyH_ready (rs := [10]) (by kernel_rfl) (by simp) ?_
        refine AllReadyH.cons rfl (fun K hK => ?_) AllReadyH.nil
        go_simp
        refine hK.out _ _ ⟨(Ext.cell (p := ⟨w.heap.size, 1, none⟩) (by repeat (first | exact Ext.refl _ | assumption | apply Ext.alloc | apply Ext.drew | apply Ext.setCell)) hzl2).trans hZ1, (Ext.cell (p := ad.add (k * 6)) (by repeat (first | exact Ext.refl _ | assumption | apply Ext.alloc | apply Ext.drew | apply Ext.setCell)) hqb2).trans q0, (Ext.cell (p := ⟨(ad.add (k * 6)).block, (ad.add (k * 6)).off + 1, none⟩) (by repeat (first | exact Ext.refl _ | assumption | apply Ext.alloc | apply Ext.drew | apply Ext.setCell)) hqb2).trans q1, (Ext.cell (p := ⟨(ad.add (k * 6)).block, (ad.add (k * 6)).off + 2, none⟩) (by repeat (first | exact Ext.refl _ | assumption | apply Ext.alloc | apply Ext.drew | apply Ext.setCell)) hqb2).trans q2, (Ext.cell (p := ⟨(ad.add (k * 6)).block, (ad.add (k * 6)).off + 3, none⟩) (by repeat (first | exact Ext.refl _ | assumption | apply Ext.alloc | apply Ext.drew | apply Ext.setCell)) hqb2).trans q3, (Ext.cell (p := ⟨(ad.add (k * 6)).block, (ad.add (k * 6)).off + 4, none⟩) (by repeat (first | exact Ext.refl _ | assumption | apply Ext.alloc | apply Ext.drew | apply Ext.setCell)) hqb2).trans q4, (Ext.cell (p := ⟨(ad.add (k * 6)).block, (ad.add (k * 6)).off + 5, none⟩) (by repeat (first | exact Ext.refl _ | assumption | apply Ext.alloc | apply Ext.drew | apply Ext.setCell)) hqb2).trans q5⟩ (fun hHeld => ?_)
        clear hK K
        try simp only [Act.put, List.setIfInBounds_toArray, List.set_cons_zero, List.set_cons_succ, List.getElem_toArray, List.getElem_cons_succ, List.getElem_cons_zero]
        refine wpAnyH_done (by kernel_rfl) ?_ _
        go_wp2_with fail
        go_roundw
        case rel => exact ⟨k + 1, by go_num, by omega, Lib.hid ⟨_, by rw [HSTEP.out, ← HOB.out]; exact hC7.out⟩⟩
        case measure => simp [intOf]; omega
    · obtain rfl : base.length = k := by omega
      have hobb : ob = base := by rw [HOB.out, List.take_of_length_le (Nat.le_refl _)]
      subst hobb
      have HCB := Lib.hid HC.out
      clear hlt2 hxw hol HOB HC
      go_wp2_with fail
      go_loopw [5] (fun vi wq => ∃ i : Nat, vi = .int .i64 (i : Int) ∧ i ≤ steps.length ∧ Hid (∃ vso, Cpy V2 wq (w.heap.size + 1 + 1 + 1) (w.heap.size + 1 + 1) lg (.slice Ao ob.length co) vso ob (steps.take i))) (fun vi _ => steps.length - (intOf vi).toNat)
      case atStart => exact ⟨0, rfl, Nat.zero_le _, Lib.hid ⟨_, HCB.out⟩⟩
      case round =>
        obtain ⟨i, rfl, hi, HREL⟩ := hrel
        obtain ⟨vso, hc⟩ := HREL.out
        obtain ⟨os, hos⟩ : ∃ os, os = steps.take i := ⟨_, rfl⟩
        have hosl : os.length = i := by rw [hos, List.length_take]; omega
        rw [← hos] at hc
        obtain ⟨us, hul, hrow, hus⟩ := hc.rows
        obtain ⟨Ao2, co2, hvso⟩ := slice_of_row hrow
        subst hvso
        have HC := Lib.hid hc
        have HOS := Lib.hid hos
        have HUL := Lib.hid hul
        have HROW := Lib.hid hrow
        have HUS := Lib.hid hus
        have hxw : Ext V2 wr := hc.ext
        have hZw := (hxw.cell (p := ⟨w.heap.size, 2, none⟩) hzl2).trans hZ2
        clear HREL hc hos hul hrow hus
        by_cases hlt3 : i < steps.length
        · obtain ⟨x, hx⟩ : ∃ x, steps[i]? = some x := ⟨_, List.getElem?_eq_getElem hlt3⟩
          obtain ⟨ads, rfl, hblks, hcells⟩ := HSR.out (by intro e; rw [e] at hlt3; simp at hlt3)
          obtain ⟨ur, p0, p1, p2, p3, p4, hur, hx64⟩ := hcells i x hx
          have hpb : (ads.add (i * 5)).block < w.heap.size := by rw [block_of_add]; exact hblks
          have p0 := ((X02.out.trans hxw).cell (p := ads.add (i * 5)) hpb).trans p0
          have p1 := ((X02.out.trans hxw).cell (p := ⟨(ads.add (i * 5)).block, (ads.add (i * 5)).off + 1, none⟩) hpb).trans p1
          have p2 := ((X02.out.trans hxw).cell (p := ⟨(ads.add (i * 5)).block, (ads.add (i * 5)).off + 2, none⟩) hpb).trans p2
          have p3 := ((X02.out.trans hxw).cell (p := ⟨(ads.add (i * 5)).block, (ads.add (i * 5)).off + 3, none⟩) hpb).trans p3
          have p4 := ((X02.out.trans hxw).cell (p := ⟨(ads.add (i * 5)).block, (ads.add (i * 5)).off + 4, none⟩) hpb).trans p4
          have HUR := Lib.hid (hur.ext (X02.out.trans hxw))
          obtain ⟨Af, cf, rfl, hf1, hf2, hfr⟩ := hur
          have hfl : x.from_.length ≤ 5 := HL5.out x (List.mem_of_getElem? hx)
          have hi1 : (i : Int) < (steps.length : Int) := by omega
          have hi0 : (0 : Int) ≤ (i : Int) := by omega
          have hc3 : os.length + 1 ≤ maxLen := by unfold maxLen; omega
          have hc4 : (os.length + 1) * 56 ≤ 140737488355328 := by omega
          have HSTEP := Lib.hid (take_succ_eq hx)
          have HX64 := Lib.hid hx64
          have hOw : w.heap.size + 1 + 1 < wr.heap.size := lt_heap HC.out.blk
          obtain ⟨x0, x1, x2, x3, x4, xfr, xlt⟩ := cells5s (heap_alloc_new wr (.cells #[.int .u64 (x.set : Int), .int .i64 x.rule, .int .i64 x.on, .int .i64 x.e, .slice Af x.from_.length cf] 34))
          have XB := Lib.hid (heap_alloc_new wr (.cells #[.int .u64 (x.set : Int), .int .i64 x.rule, .int .i64 x.on, .int .i64 x.e, .slice Af x.from_.length cf] 34))
          have XLT := Lib.hid xlt
          have X4 := Lib.hid x4
          have hfl1 : x.from_.length ≤ cf := hf1
          clear hcells hx hfr hosl x0 x1 x2 x3
          go_wp2_with fail
          obtain ⟨wq, hwq⟩ : ∃ v, v = wr := ⟨_, rfl⟩
          subst hwq
          go_loopw [7, 8] (fun vl vk wz => ∃ q : Nat, vk = .int .i64 (q : Int) ∧ q ≤ x.from_.length ∧ Hid (∃ d, d = x.from_.take q ∧ Ext (wq.alloc (.cells #[.int .u64 (x.set : Int), .int .i64 x.rule, .int .i64 x.on, .int .i64 x.e, .slice Af x.from_.length cf] 34)) wz ∧ wz.ownsRow (wq.heap.size + 1) 3 1 vl d.length (d.map (Value.int .i64)))) (fun _ vk _ => x.from_.length - (intOf vk).toNat)
          case atStart => exact ⟨0, rfl, Nat.zero_le _, Lib.hid ⟨[], rfl, Ext.refl _, World.ownsRow_nil _ _ _ _⟩⟩
          case round =>
            obtain ⟨q, rfl, hq, HRQ⟩ := hrel
            obtain ⟨d, hd, hxz, hrd⟩ := HRQ.out
            obtain ⟨Ad, cd, rfl⟩ := slice_of_row hrd
            have HD := Lib.hid hd
            have HXZ := Lib.hid hxz
            have HRD := Lib.hid hrd
            have hdl : d.length ≤ 5 := by rw [hd, List.length_take]; omega
            have y4 := (hxz.cell (p := ⟨wq.heap.size, 4, none⟩) XLT.out).trans X4.out
            clear HRQ hd hxz hrd
            by_cases hltq : q < x.from_.length
            · obtain ⟨z, hz⟩ : ∃ z, x.from_[q]? = some z := ⟨_, List.getElem?_eq_getElem hltq⟩
              obtain ⟨adf, hAf, hbf, hcf⟩ := ints_ad HUR.out (by intro e; rw [e] at hz; simp at hz)
              subst hAf
              have a0 := (((Ext.refl wq).alloc (.cells #[.int .u64 (x.set : Int), .int .i64 x.rule, .int .i64 x.on, .int .i64 x.e, .slice (some adf) x.from_.length cf] 34)).cell (p := adf.add q) (by rw [block_of_add]; exact hbf)).trans (hcf q z hz)
              have a0 := (HXZ.out.cell (p := adf.add q) (by rw [block_of_add]; exact Nat.lt_of_lt_of_le hbf ((Ext.refl wq).alloc (.cells #[.int .u64 (x.set : Int), .int .i64 x.rule, .int .i64 x.on, .int .i64 x.e, .slice (some adf) x.from_.length cf] 34)).size)).trans a0
              have hq1 : (q : Int) < (x.from_.length : Int) := by omega
              have hq0 : (0 : Int) ≤ (q : Int) := by omega
              have hd3 : d.length + 1 ≤ maxLen := by unfold maxLen; omega
              have hd4 : (d.length + 1) * 8 ≤ 140737488355328 := by omega
              have HST := Lib.hid (take_succ_eq hz)
              clear hcf hz
              go_wp2_with (at_builtin; refine wpList_append_own_at _ rfl _ _ 29 rfl (wq.heap.size + 1) 3 i3 (.int .i64 0) 1 8 Try.underlying29 hi3 hz30 hz31 hz32 rfl (by decide) _ d.length (d.map (Value.int .i64)) rfl (row_ext HRD.out ((Ext.refl _).alloc _)) ⟨_, 0, none⟩ 1 1 [.int .i64 z] rfl rfl (row_new_at _ _ _ (by simp)) (fun u hu => by rw [List.mem_singleton.1 hu]; rfl) hd3 hd4 (by have := HXZ.out.size; have := XLT.out; simp; omega) ?_)
              intro v7 w7 hown7 hgrow7 _ hat7
              have HX7 := Lib.hid ((HXZ.out.alloc _).grown hgrow7 (fun g hg => by have := (HRD.out.lt g hg).1; simp; omega))
              have HR7 := Lib.hid hown7
              obtain ⟨A7, c7, rfl⟩ := slice_of_row hown7
              clear hown7 hgrow7 hat7
              go_wp2_with fail
              go_roundw
              case rel => exact ⟨q + 1, by go_num, by omega, Lib.hid ⟨d ++ [z], by rw [HST.out, ← HD.out], HX7.out, by have h := HR7.out; simpa using h⟩⟩
              case measure => simp [intOf]; omega
            · obtain rfl : x.from_.length = q := by omega
              have hde : d = x.from_ := by rw [HD.out, List.take_of_length_le (Nat.le_refl _)]
              subst hde
              have XBz := (HXZ.out.block XLT.out).trans XB.out
              obtain ⟨_, _, _, _, _, yfr, ylt⟩ := cells5s XBz
              have y4f := yfr 4
              obtain ⟨v0, v1, v2, v3, v4, _, _⟩ := cells5s (set_5th XBz (.slice Ad x.from_.length cd))
              have HXY := Lib.hid (show Ext wq (wr.setCell ⟨wq.heap.size, 4, none⟩ (.slice Ad x.from_.length cd)) from (((Ext.refl wq).alloc (.cells #[.int .u64 (x.set : Int), .int .i64 x.rule, .int .i64 x.on, .int .i64 x.e, .slice Af x.from_.length cf] 34)).trans HXZ.out).setCell (p := ⟨wq.heap.size, 4, none⟩) (Nat.le_refl _) _)
              have HCY := Lib.hid (HC.out.next HXY.out)
              obtain ⟨us2, hul2, hrow2, hus2⟩ := HCY.out.rows
              obtain ⟨_, _, o2, ofr, olt⟩ := cells3 HCY.out.blk
              have HIY := Lib.hid (show Ints (wr.setCell ⟨wq.heap.size, 4, none⟩ (.slice Ad x.from_.length cd)) (.slice Ad x.from_.length cd) x.from_ from ints_of_row (base := wq.heap.size + 1) (ownsRow_setCell_other (a := ⟨wq.heap.size, 4, none⟩) HRD.out (fun e => by have := (HRD.out.lt _ e).1; simp at this; omega) _))
              have HUB := Lib.hid (show ∀ g, (Value.slice Ad x.from_.length cd).ownBlock = some g → w.heap.size + 1 + 1 + 1 ≤ g ∧ g < (wr.setCell ⟨wq.heap.size, 4, none⟩ (.slice Ad x.from_.length cd)).heap.size ∧ (Value.slice Ao2 os.length co2).ownBlock ≠ some g from fun g hg => ⟨by have := (HRD.out.lt g hg).1; omega, by rw [size_setCell]; exact (HRD.out.lt g hg).2, fun e => by have h1 := (HRD.out.lt g hg).1; have h2 := (HROW.out.lt g e).2; omega⟩)
              have HUL2 := Lib.hid hul2
              have HRQ2 := Lib.hid hrow2
              have HUS2 := Lib.hid hus2
              have OFR := Lib.hid ofr
              clear hul2 hrow2 hus2 yfr ofr
              go_wp2_with (at_builtin; refine wpList_append_own_at _ rfl _ _ 23 rfl (w.heap.size + 1 + 1 + 1) 34 iS (.agg #[.int .u64 0, .int .i64 0, .int .i64 0, .int .i64 0, .slice none 0 0]) 5 56 Try.underlying23 hiS hzS0 hzS1 hzS2 rfl (by decide) _ os.length (stepCells os us2) rfl (row_ext HRQ2.out ((Ext.refl _).alloc _)) ⟨_, 0, none⟩ 1 1 (x.cells (.slice Ad x.from_.length cd)) rfl rfl (row_new_at _ _ _ (by simp)) (stepOne x Ad x.from_.length cd) hc3 hc4 (by have := HCY.out.blk; have := lt_heap this; simp; omega) ?_)
              intro v7 w7 hown7 hgrow7 _ hat7
              have hC7 := Lib.hid (Cpy.step (x := x) (u := .slice Ad x.from_.length cd) (HCY.out.next ((Ext.refl _).alloc _)) hOle (by omega) HUL2.out (row_ext HRQ2.out ((Ext.refl _).alloc _)) (fun k x u h1 h2 => ⟨(HUS2.out k x u h1 h2).1.ext ((Ext.refl _).alloc _), fun g hg => ⟨((HUS2.out k x u h1 h2).2 g hg).1, Nat.lt_of_lt_of_le ((HUS2.out k x u h1 h2).2 g hg).2.1 ((Ext.refl _).alloc _).size, ((HUS2.out k x u h1 h2).2 g hg).2.2⟩⟩) HX64.out (HIY.out.ext ((Ext.refl _).alloc _)) (fun g hg => ⟨(HUB.out g hg).1, Nat.lt_of_lt_of_le (HUB.out g hg).2.1 ((Ext.refl _).alloc _).size, (HUB.out g hg).2.2⟩) hown7 hgrow7 (hat7.imp id (fun e => e.trans (by simp))))
              obtain ⟨_, _, r2, rfr, rlt⟩ := cells3 (cpy_outs HCY.out ((Ext.refl _).alloc _) (by omega) hgrow7)
              obtain ⟨A7, c7, rfl⟩ := slice_of_row hown7
              clear hown7 hgrow7 hat7
              go_wp2_with fail
              go_roundw
              case rel => exact ⟨i + 1, by go_num, by omega, Lib.hid ⟨_, by rw [HSTEP.out, ← HOS.out]; exact hC7.out⟩⟩
              case measure => simp [intOf]; omega
        · obtain rfl : steps.length = i := by omega
          have hoss : os = steps := by rw [HOS.out, List.take_of_length_le (Nat.le_refl _)]
          subst hoss
          have HB1 := (hxw.block (lt_heap hRES.out)).trans hRES.out
          obtain ⟨t0, t1, t2, tfr, tlt⟩ := cells3 HB1
          have tf0 := tfr 0
          have tf1 := tfr 1
          have tf2 := tfr 2
          obtain ⟨o0, o1, o2, _, olt⟩ := cells3 HC.out.blk
          have HB4 := Lib.hid (set_3rd (set_2nd (set_1st HB1 (.int .i64 lg)) (.slice Ao ob.length co)) (.slice Ao2 os.length co2))
          have XF := Lib.hid (X02.out.trans hxw)
          clear HB1 tfr
          go_wp2_with fail
          (try simp only [Exit.inBlock, Exit.then])
          refine bodyPost_ret (results_cell Try.results9 _ _ rfl (range3 HB4.out) Try.underlying25 rfl (by kernel_rfl)) rfl ?_
          exact ⟨_, _, rfl, ((XF.out.setCell (p := ⟨w.heap.size + 1, 0, none⟩) (by simp) _).setCell (p := ⟨w.heap.size + 1, 1, none⟩) (by simp) _).setCell (p := ⟨w.heap.size + 1, 2, none⟩) (by simp) _, w.heap.size + 1 + 1 + 1, by omega, _, _, _, _, HC.out, fun g h1 h2 => by rw [Below.heap_setCell _ _ _ _ (by simp; omega), Below.heap_setCell _ _ _ _ (by simp; omega), Below.heap_setCell _ _ _ _ (by simp; omega)], by rw [size_setCell, size_setCell, size_setCell]; exact Nat.le_refl _⟩
end Go.Proofs.Ytfcmdiigfgbgbaa

/- The rows of a copy, in a world that keeps them. -/

namespace Go.Proofs.Ytfcmdiigfgbgbaa
open Go.RowKit

structure CRow (w : World) (m : Nat) (vb vs : Value) (ob : List Nd) (os : List Stp) : Prop where
  rowb : w.ownsRow m 48 6 vb ob.length (ob.flatMap Nd.cells)
  rows : ∃ us : List Value, us.length = os.length ∧ w.ownsRow m 34 5 vs os.length (stepCells os us) ∧
    ∀ (k : Nat) (x : Stp) (u : Value), os[k]? = some x → us[k]? = some u → Ints w u x.from_ ∧ ∀ g, u.ownBlock = some g → m ≤ g ∧ g < w.heap.size ∧ vs.ownBlock ≠ some g
  apart : ∀ g, vb.ownBlock = some g → vs.ownBlock ≠ some g
  bound : ∀ x ∈ os, x.set < 18446744073709551616
theorem CpyRows.crow {w : World} {m : Nat} {vb vs : Value} {ob : List Nd} {os : List Stp} (h : CpyRows w m vb vs ob os) : CRow w m vb vs ob os := by
  obtain ⟨w0, w1, O, lg, hc, hk, hs⟩ := h
  obtain ⟨us, hl, hr, hu⟩ := hc.rows
  refine ⟨row_keep hc.rowb fun g hg => hk g (hc.rowb.lt g hg).1 (hc.rowb.lt g hg).2, ⟨us, hl, row_keep hr fun g hg => hk g (hr.lt g hg).1 (hr.lt g hg).2, fun k x u h1 h2 => ?_⟩, hc.apart, hc.bound⟩
  obtain ⟨h3, h4⟩ := hu k x u h1 h2
  exact ⟨h3.keep (fun g hg _ => hk g (h4 g hg).1 (h4 g hg).2.1) hs, fun g hg => ⟨(h4 g hg).1, Nat.lt_of_lt_of_le (h4 g hg).2.1 hs, (h4 g hg).2.2⟩⟩
section
variable {w w' : World} {m : Nat} {vb vs : Value} {ob : List Nd} {os : List Stp}
theorem CRow.ext (h : CRow w m vb vs ob os) (he : Ext w w') : CRow w' m vb vs ob os := by
  obtain ⟨us, hl, hr, hu⟩ := h.rows
  exact ⟨row_ext h.rowb he, ⟨us, hl, row_ext hr he, fun k x u hx hu' => ⟨(hu k x u hx hu').1.ext he, fun g hg => ⟨((hu k x u hx hu').2 g hg).1, Nat.lt_of_lt_of_le ((hu k x u hx hu').2 g hg).2.1 he.size, ((hu k x u hx hu').2 g hg).2.2⟩⟩⟩, h.apart, h.bound⟩
theorem CRow.fml (h : CRow w m vb vs ob os) (hok : ∀ n ∈ ob, n.ok) : Fml w vb ob := ⟨nds_of_row h.rowb, hok⟩
/-- The cells of the steps. -/
theorem CRow.cells_ (h : CRow w m vb vs ob os) (hn : 0 < os.length) : ∃ g cap, vs = .slice (some ⟨g, 0, none⟩) os.length cap ∧ m ≤ g ∧ g < w.heap.size ∧ os.length ≤ cap ∧ cap ≤ 9223372036854775807 ∧ (∀ j, w.frozen? ⟨g, j, none⟩ = false) ∧
    ∀ (k : Nat) (x : Stp), os[k]? = some x → SpAt w ⟨g, k * 5, none⟩ x := by
  obtain ⟨us, hl, hr, hu⟩ := h.rows
  rcases hr.2 with ⟨_, h0⟩ | ⟨g, cap, cur, e, h1, h2, h3, h4, h5, h6⟩
  · omega
  · unfold maxLen at h4
    refine ⟨g, cap, e, h1, lt_heap h2, h3, by omega, fun j => by simp [World.frozen?, h2], fun k x hx => ?_⟩
    have hk : k < os.length := (List.getElem?_eq_some_iff.1 hx).1
    obtain ⟨u, hu'⟩ : ∃ u, us[k]? = some u := ⟨_, List.getElem?_eq_getElem (by omega)⟩
    have hcell : ∀ j : Nat, j < 5 → w.cell? ⟨g, k * 5 + j, none⟩ = (x.cells u)[j]? := fun j hj => by
      have h7 := stepCells_get os us k x u j hx hu' hj
      rw [← h6, List.getElem?_take] at h7
      split at h7
      · rw [← h7]
        simp [World.cell?, h2]
      · simp [Stp.cells] at h7
        omega
    exact ⟨u, hcell 0 (by decide), hcell 1 (by decide), hcell 2 (by decide), hcell 3 (by decide), hcell 4 (by decide), (hu k x u hx hu').1, h.bound x (List.mem_of_getElem? hx)⟩
theorem sps_at {w : World} {g cap : Nat} {l : List Stp} (hg : g < w.heap.size) (hc : l.length ≤ cap) (hm : cap ≤ 9223372036854775807) (h : ∀ (k : Nat) (x : Stp), l[k]? = some x → SpAt w ⟨g, k * 5, none⟩ x) : Sps w (.slice (some ⟨g, 0, none⟩) l.length cap) l :=
  ⟨_, cap, rfl, hc, by unfold maxLen; omega, fun _ => ⟨_, rfl, hg, fun k x hx => by rw [addr_zero]; exact h k x hx⟩⟩
theorem take_get {α : Type} {l : List α} {b k : Nat} {x : α} (h : (l.take b)[k]? = some x) : l[k]? = some x := by
  rw [List.getElem?_take] at h
  split at h
  · exact h
  · cases h
end
end Go.Proofs.Ytfcmdiigfgbgbaa

/- What SequentWeakens does to a copy: the last set is made larger; a step is put before the last one. -/

namespace Go.Proofs.Ytfcmdiigfgbgbaa
open Go.RowKit

theorem mask_lt {more n : Nat} (hm : more < 18446744073709551616) (hn : n < 64) : bits .and .u64 (more : Int) (IntKind.u64.wrap ((2 : Int) ^ n - 1)) = ((more &&& (2 ^ n - 1) : Nat) : Int) := by
  have h1 := two_pow_lt64 hn
  have h2 := Nat.two_pow_pos n
  have e : IntKind.u64.wrap ((2 : Int) ^ n - 1) = ((2 ^ n - 1 : Nat) : Int) := by
    rw [IntKind.wrap_u64, show ((2 : Int) ^ n) = ((2 ^ n : Nat) : Int) by simp]
    generalize 2 ^ n = a at *
    omega
  rw [e]
  exact bits_and_u64_nat _ _ hm (by omega)
theorem mask_64 {more : Nat} (hm : more < 18446744073709551616) : bits .and .u64 (more : Int) 18446744073709551615 = ((more &&& (2 ^ 64 - 1) : Nat) : Int) :=
  by
  rw [show (2 : Nat) ^ 64 - 1 = 18446744073709551615 from rfl, show (18446744073709551615 : Int) = ((18446744073709551615 : Nat) : Int) from rfl]
  exact bits_and_u64_nat more 18446744073709551615 hm (by decide)
theorem and_mask_lt (more n : Nat) : more &&& (2 ^ n - 1) < 2 ^ n := by
  have h2 := Nat.two_pow_pos n
  exact Nat.lt_of_le_of_lt Nat.and_le_right (by omega)
theorem sps_of_row {w : World} {m : Nat} {v : Value} {os : List Stp} {us : List Value} (hl : us.length = os.length) (hr : w.ownsRow m 34 5 v os.length (stepCells os us))
    (hi : ∀ (k : Nat) (x : Stp) (u : Value), os[k]? = some x → us[k]? = some u → Ints w u x.from_) (hb : ∀ x ∈ os, x.set < 18446744073709551616) : Sps w v os := by
  rcases hr.2 with ⟨e, h0⟩ | ⟨g, cap, cur, e, h1, h2, h3, h4, h5, h6⟩
  · subst e
    have : os = [] := List.length_eq_zero_iff.1 h0
    subst this
    exact ⟨none, 0, rfl, Nat.le_refl _, by unfold maxLen; omega, fun h => absurd rfl h⟩
  · subst e
    refine ⟨_, cap, rfl, h3, h4, fun _ => ⟨_, rfl, lt_heap h2, fun k x hx => ?_⟩⟩
    have hk : k < os.length := (List.getElem?_eq_some_iff.1 hx).1
    obtain ⟨u, hu'⟩ : ∃ u, us[k]? = some u := ⟨_, List.getElem?_eq_getElem (by omega)⟩
    have hcell : ∀ j : Nat, j < 5 → w.cell? ⟨g, k * 5 + j, none⟩ = (x.cells u)[j]? := fun j hj => by
      have h7 := stepCells_get os us k x u j hx hu' hj
      rw [← h6, List.getElem?_take] at h7
      split at h7
      · rw [← h7]
        simp [World.cell?, h2]
      · simp [Stp.cells] at h7
        omega
    rw [addr_zero]
    exact ⟨u, hcell 0 (by decide), hcell 1 (by decide), hcell 2 (by decide), hcell 3 (by decide), hcell 4 (by decide), hi k x u hx hu', hb x (List.mem_of_getElem? hx)⟩
theorem stepCells_len : ∀ (l : List Stp) (us : List Value), us.length = l.length → (stepCells l us).length = l.length * 5
  | [], [], _ => rfl
  | a :: l, v :: us, h => by
    rw [stepCells, List.length_append, stepCells_len l us (by simpa using h), List.length_cons, Nat.add_mul]
    simp [Stp.cells]
    omega
  | [], v :: us, h => by simp at h
  | a :: l, [], h => by simp at h
theorem stepCells_take : ∀ (l : List Stp) (us : List Value) (k : Nat), us.length = l.length → k ≤ l.length → stepCells (l.take k) (us.take k) = (stepCells l us).take (k * 5)
  | _, _, 0, _, _ => by simp [stepCells]
  | [], _, k + 1, _, h => by simp at h
  | a :: l, [], k + 1, h, _ => by simp at h
  | a :: l, v :: us, k + 1, h, hk => by
    rw [List.take_succ_cons, List.take_succ_cons, stepCells, stepCells, stepCells_take l us k (by simpa using h) (by simpa using hk), List.take_append,
      List.take_of_length_le (show (a.cells v).length ≤ (k + 1) * 5 by simp [Stp.cells]; omega)]
    congr 2
    simp [Stp.cells]
    omega
/-- A copy's steps where the last set has been written. -/
structure Poke (w : World) (g cap : Nat) (vb : Value) (ob : List Nd) (os : List Stp) (us : List Value) (l' : Stp) : Prop where
  len : us.length = os.length
  capl : os.length ≤ cap
  capm : cap ≤ 9223372036854775807
  glt : g < w.heap.size
  nds : Nds w vb ob
  old : ∀ (j : Nat) (u : Value), (stepCells (os.take (os.length - 1)) (us.take (os.length - 1)))[j]? = some u → w.cell? ⟨g, j, none⟩ = some u
  at_ : ∀ (k : Nat) (x : Stp) (u : Value), (os.set (os.length - 1) l')[k]? = some x → us[k]? = some u → w.cell? ⟨g, k * 5, none⟩ = some (.int .u64 (x.set : Int)) ∧ w.cell? ⟨g, k * 5 + 1, none⟩ = some (.int .i64 x.rule) ∧
    w.cell? ⟨g, k * 5 + 2, none⟩ = some (.int .i64 x.on) ∧ w.cell? ⟨g, k * 5 + 3, none⟩ = some (.int .i64 x.e) ∧ w.cell? ⟨g, k * 5 + 4, none⟩ = some u ∧ Ints w u x.from_ ∧ x.set < 18446744073709551616
theorem poke_of {w : World} {m g cap : Nat} {vb : Value} {ob : List Nd} {os : List Stp} (h : CRow w m vb (.slice (some ⟨g, 0, none⟩) os.length cap) ob os) {l : Stp} (hla : os[os.length - 1]? = some l) {s : Nat} (hs : s < 18446744073709551616) :
    ∃ us, Poke (w.setCell ⟨g, (os.length - 1) * 5, none⟩ (.int .u64 (s : Int))) g cap vb ob os us { l with set := s } := by
  obtain ⟨us, hl, hr, hu⟩ := h.rows
  have hn : 0 < os.length := by
    have := (List.getElem?_eq_some_iff.1 hla).1
    omega
  rcases hr.2 with ⟨e, _⟩ | ⟨g', cap', cur, e, h1, h2, h3, h4, h5, h6⟩
  · cases e
  · injection e with e1 _ e2
    injection e1 with e1
    injection e1 with e1 _ _
    subst e1 e2
    unfold maxLen at h4
    have hcell : ∀ (k : Nat) (x : Stp) (u : Value), os[k]? = some x → us[k]? = some u → ∀ j, j < 5 → w.cell? ⟨g, k * 5 + j, none⟩ = (x.cells u)[j]? := fun k x u hx hu' j hj => by
      have h7 := stepCells_get os us k x u j hx hu' hj
      rw [← h6, List.getElem?_take] at h7
      have hk : k < os.length := (List.getElem?_eq_some_iff.1 hx).1
      rw [if_pos (by omega)] at h7
      rw [← h7]
      simp [World.cell?, h2]
    have hother : ∀ j, j ≠ (os.length - 1) * 5 → (w.setCell ⟨g, (os.length - 1) * 5, none⟩ (.int .u64 (s : Int))).cell? ⟨g, j, none⟩ = w.cell? ⟨g, j, none⟩ := fun j hj =>
      World.cell?_setCell_other w _ _ _ (fun e => hj (by injection e with _ e _; exact e.symm))
    obtain ⟨ul, hul⟩ : ∃ u, us[os.length - 1]? = some u := ⟨_, List.getElem?_eq_getElem (by omega)⟩
    have hsame : (w.setCell ⟨g, (os.length - 1) * 5, none⟩ (.int .u64 (s : Int))).cell? ⟨g, (os.length - 1) * 5, none⟩ = some (.int .u64 (s : Int)) := by
      exact World.cell?_setCell_same' w _ _ (by rw [show (w.cell? ⟨g, (os.length - 1) * 5, none⟩) = _ from hcell _ _ _ hla hul 0 (by decide)]; rfl)
    have hkI : ∀ (k : Nat) (x : Stp) (u : Value), os[k]? = some x → us[k]? = some u → Ints (w.setCell ⟨g, (os.length - 1) * 5, none⟩ (.int .u64 (s : Int))) u x.from_ := fun k x u hx hu' =>
      (hu k x u hx hu').1.keep (fun q hq _ => Below.heap_setCell _ _ _ _ (fun e => ((hu k x u hx hu').2 q hq).2.2 (by show some g = some q; rw [e]))) (by rw [size_setCell]; exact Nat.le_refl _)
    refine ⟨us, hl, h3, by omega, by rw [size_setCell]; exact lt_heap h2, nds_of_row (ownsRow_setCell_other (a := ⟨g, (os.length - 1) * 5, none⟩) h.rowb (fun e => h.apart g e rfl) _), fun j u hj => ?_, fun k x u hx hu' => ?_⟩
    · rw [stepCells_take os us _ hl (by omega), List.getElem?_take] at hj
      split at hj
      · rw [hother j (by omega)]
        have hlen := stepCells_len os us hl
        rw [← h6, List.getElem?_take] at hj
        split at hj
        · rw [← hj]
          simp [World.cell?, h2]
        · cases hj
      · cases hj
    · by_cases hk : k = os.length - 1
      · subst hk
        rw [List.getElem?_set_self (by omega)] at hx
        injection hx with hx
        subst hx
        refine ⟨hsame, ?_, ?_, ?_, ?_, hkI _ l u hla hu', hs⟩
        · rw [hother _ (by omega)]; exact hcell _ _ _ hla hu' 1 (by decide)
        · rw [hother _ (by omega)]; exact hcell _ _ _ hla hu' 2 (by decide)
        · rw [hother _ (by omega)]; exact hcell _ _ _ hla hu' 3 (by decide)
        · rw [hother _ (by omega)]; exact hcell _ _ _ hla hu' 4 (by decide)
      · rw [List.getElem?_set_ne (by omega)] at hx
        refine ⟨?_, ?_, ?_, ?_, ?_, hkI k x u hx hu', h.bound x (List.mem_of_getElem? hx)⟩
        · rw [hother _ (by omega)]; exact hcell _ _ _ hx hu' 0 (by decide)
        · rw [hother _ (by omega)]; exact hcell _ _ _ hx hu' 1 (by decide)
        · rw [hother _ (by omega)]; exact hcell _ _ _ hx hu' 2 (by decide)
        · rw [hother _ (by omega)]; exact hcell _ _ _ hx hu' 3 (by decide)
        · rw [hother _ (by omega)]; exact hcell _ _ _ hx hu' 4 (by decide)
theorem Poke.sps {w : World} {g cap : Nat} {vb : Value} {ob : List Nd} {os : List Stp} {us : List Value} {l' : Stp} (h : Poke w g cap vb ob os us l') : Sps w (.slice (some ⟨g, 0, none⟩) os.length cap) (os.set (os.length - 1) l') := by
  have := sps_at (w := w) (g := g) (cap := cap) (l := os.set (os.length - 1) l') h.glt (by rw [List.length_set]; exact h.capl) h.capm (fun k x hx => by
    have hk := (List.getElem?_eq_some_iff.1 hx).1
    rw [List.length_set] at hk
    obtain ⟨u, hu⟩ : ∃ u, us[k]? = some u := ⟨_, List.getElem?_eq_getElem (by have := h.len; omega)⟩
    obtain ⟨a0, a1, a2, a3, a4, a5, a6⟩ := h.at_ k x u hx hu
    exact ⟨u, a0, a1, a2, a3, a4, a5, a6⟩)
  rw [List.length_set] at this
  exact this
theorem take_set_last (l : List Stp) (x : Stp) (k : Nat) : (l.set k x).take k = l.take k := by
  apply List.ext_getElem?
  intro i
  rw [List.getElem?_take, List.getElem?_take]
  split
  · rw [List.getElem?_set_ne (by omega)]
  · rfl
theorem tail_sps {W : World} {m n : Nat} {v : Value} {a : List Stp} {ua : List Value} {x l : Stp} {ux ul : Value} (hla : ua.length = a.length) (hn : a.length + 1 + 1 = n) (hr : W.ownsRow m 34 5 v n (stepCells a ua ++ x.cells ux ++ l.cells ul))
    (ha : ∀ (k : Nat) (y : Stp) (u : Value), a[k]? = some y → ua[k]? = some u → Ints W u y.from_ ∧ y.set < 18446744073709551616) (hx : Ints W ux x.from_ ∧ x.set < 18446744073709551616) (hl : Ints W ul l.from_ ∧ l.set < 18446744073709551616) :
    Sps W v (a ++ [x] ++ [l]) := by
  have hlen : (a ++ [x] ++ [l]).length = n := by simp; omega
  have hul : (ua ++ [ux] ++ [ul]).length = (a ++ [x] ++ [l]).length := by simp [hla]
  have hall : ∀ (k : Nat) (y : Stp) (u : Value), (a ++ [x] ++ [l])[k]? = some y → (ua ++ [ux] ++ [ul])[k]? = some u → Ints W u y.from_ ∧ y.set < 18446744073709551616 := fun k y u h1 h2 => by
    by_cases h : k < a.length
    · rw [List.append_assoc, List.getElem?_append_left h] at h1
      rw [List.append_assoc, List.getElem?_append_left (by omega)] at h2
      exact ha k y u h1 h2
    · rw [List.append_assoc, List.getElem?_append_right (by omega)] at h1
      rw [List.append_assoc, List.getElem?_append_right (by omega), hla] at h2
      match k - a.length, h1, h2 with
      | 0, h1, h2 =>
        simp at h1 h2
        subst h1 h2
        exact hx
      | 1, h1, h2 =>
        simp at h1 h2
        subst h1 h2
        exact hl
  refine sps_of_row (m := m) (us := ua ++ [ux] ++ [ul]) hul ?_ (fun k y u h1 h2 => (hall k y u h1 h2).1) (fun y hy => ?_)
  · rw [hlen, stepCells_snoc _ _ _ _ (by simp [hla]), stepCells_snoc _ _ _ _ hla]
    exact hr
  · obtain ⟨k, hk⟩ := List.getElem?_of_mem hy
    obtain ⟨u, hu⟩ : ∃ u, (ua ++ [ux] ++ [ul])[k]? = some u := ⟨_, List.getElem?_eq_getElem (by rw [hul]; exact (List.getElem?_eq_some_iff.1 hk).1)⟩
    exact (hall k y u hk hu).2
/-- append that must grow, as one step of a region that draws. -/
theorem step_append_grows {P : Program} {ops : Array Oper} {o : Oper} {a : Act} {w : World} {K : Act → World → Prop} {Q : Exit → Act → World → Prop} {E : Prop}
    (hgd : o.guard = none) (s x : Operand) (t : TypeId) (ho : o.op = .call { callee := .builtin .append, args := #[s, x], argTypes := #[t, t] })
    (e : TypeId) (i : TypeInfo) (z : Value) (size bytes : Nat) (ht : P.underlying t = some (.slice e)) (hi : P.info? e = some i) (hz : i.zero = some z)
    (hsize : i.size = size) (hby : i.bytes = bytes) (hzs : z.cells.size = size) (hsz : 0 < size)
    (b : Addr) (n cap : Nat) (olds : List Value) (hs : a.eval s = .slice (some b) n cap) (hlo : olds.length = n * size) (holds : ∀ j u, olds[j]? = some u → w.cell? (b.add j) = some u)
    (ad : Addr) (m c : Nat) (news : List Value) (hx : a.eval x = .slice (some ad) m c) (hl : news.length = m * size) (hnews : ∀ j u, news[j]? = some u → w.cell? (ad.add j) = some u)
    (hfull : cap < n + m) (h63 : n + m ≤ maxLen) (hbytes : (n + m) * bytes ≤ 140737488355328)
    (h : ∀ v' w', w'.ownsRow w.heap.size e size v' (n + m) (olds ++ news) → w.grownBy w' none → K (a.put o.dst v') w') :
    if Region.wanted o (yielded ops a.tmps) = true then Oper.wp P o a w K Q else E := by
  have hw : Region.wanted o (yielded ops a.tmps) = true := by simp [Region.wanted, hgd]
  rw [if_pos hw]
  obtain ⟨v', w', hr, h2, h3⟩ := run_append_arg_grows (P := P) w t o.type e i z size bytes ht hi hz hsize hby hzs hsz b n cap olds hlo holds ad m c news hl hnews hfull h63 hbytes
  unfold Oper.wp execOp
  simp only [ho, resolve, invoke, builtin, Sem.run_bind, Sem.run_pure, Result.andThen_ok, List.map_toArray, List.map_cons, List.map_nil, hs, hx, hr]
  exact h v' w' h2 h3
end Go.Proofs.Ytfcmdiigfgbgbaa
