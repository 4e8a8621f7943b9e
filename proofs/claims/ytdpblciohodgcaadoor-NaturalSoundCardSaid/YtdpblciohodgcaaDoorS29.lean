/- The law's awake. -/
import Derived.Test.YtdpblciohodgcaaDoorS27
import Derived.Test.YtdpblciohodgcaaDoorS28
import Derived.Test.YtdpblciohodgcaaDoorRows
import Derived.Deep.Slices
import Derived.Deep.Fields
import Derived.ChangeSame
import Derived.ProofKit
import Derived.OpenShut
import Derived.Lib.SmallJoins
import Derived.SevenTiedAt
import Derived.Stop.Joined
import Derived.Below
import Derived.LaidMore
import Derived.Test.YtdpblciohodgcaaDoorS08
import Derived.Test.YtdpblciohodgcaaDoorS07
import Derived.Laws.Bits64b

namespace Go.Proofs.YtdpblciohodgcaaDoor
open Go.RowKit

theorem awake1 : natCheck 0 (truthLs 0 (factN 0)) = (1, 13) := by decide +kernel
theorem awake2 : (factN 0).length = 1 := by decide +kernel
theorem awake2b : (factN 1).length = 1 := by decide +kernel
theorem awake3 : provesL 2 (truthLs 0 (factN 0)) (impN (knowN 0 (factN 0)) (factN 0)) = true := by decide +kernel
theorem awake4 : provesL 0 (axiomLs 0 (factN 0) (factN 1)) (impN (knowN 0 (impN (factN 0) (factN 1))) (impN (knowN 0 (factN 0)) (knowN 0 (factN 1)))) = true := by decide +kernel
set_option maxRecDepth 100000 in
set_option maxHeartbeats 4000000 in
theorem awake_any {w : World} (hT : Tab w) :
    Calls Tryd.prog 6 #[] w fun e w' => e = .returned (.bool true) ∧ Ext w w' := by
  have HT := Lib.hid hT
  have P0 : Hid (0 < (factN 0).length) := Lib.hid (by rw [awake2]; decide)
  have P1 : Hid (0 < (factN 1).length) := Lib.hid (by rw [awake2b]; decide)
  clear hT
  go_enter Tryd.func6, Tryd.ntmps6
  go_wp2_with fail
  refine (fact_any 0 ⟨by omega, by omega⟩ _).mono ?_
  rintro e w1 ⟨up, rfl, hm⟩
  have MP := Lib.hid hm.fml
  have X1 := Lib.hid hm.2.2
  clear hm
  go_wp2_with fail
  refine (fact_any 1 ⟨by omega, by omega⟩ _).mono ?_
  rintro e w2 ⟨uq, rfl, hm⟩
  have MQ := Lib.hid hm.fml
  have X2 := Lib.hid hm.2.2
  clear hm
  go_wp2_with fail
  refine (truth_any 0 0 ⟨by omega, by omega⟩ up (factN 0) _ (MP.out.ext X2.out) P0.out).mono ?_
  rintro e w3 ⟨vl, rfl, hx, hl⟩
  have X3 := Lib.hid hx
  have HL := Lib.hid hl
  clear hx hl
  go_wp2_with fail
  refine (natCheck_any (lg := 0) HL.out (HT.out.ext (X1.out.trans (X2.out.trans X3.out)))).mono ?_
  rintro e w4 ⟨rfl, hx⟩
  rw [awake1]
  have X4 := Lib.hid hx
  have X24 := Lib.hid (X3.out.trans hx)
  have X14 := Lib.hid (X2.out.trans X24.out)
  have X04 := Lib.hid (X1.out.trans X14.out)
  clear hx
  go_wp2_with fail
  refine (imp_any _ _ (factN 0) (factN 1) _ (MP.out.ext X14.out) (MQ.out.ext X24.out)).mono ?_
  rintro e w5 ⟨u1, rfl, hm⟩
  have M1 := Lib.hid hm.fml
  have X45 := Lib.hid hm.2.2
  clear hm
  go_wp2_with fail
  refine (know_any 0 ⟨by omega, by omega⟩ _ (impN (factN 0) (factN 1)) _ M1.out).mono ?_
  rintro e w6 ⟨u2, rfl, hm⟩
  have M2 := Lib.hid hm.fml
  have X46 := Lib.hid (X45.out.trans hm.2.2)
  clear hm
  go_wp2_with fail
  refine (know_any 0 ⟨by omega, by omega⟩ _ (factN 0) _ (MP.out.ext (X14.out.trans X46.out))).mono ?_
  rintro e w7 ⟨u3, rfl, hm⟩
  have M3 := Lib.hid hm.fml
  have X67 := Lib.hid hm.2.2
  clear hm
  go_wp2_with fail
  refine (know_any 0 ⟨by omega, by omega⟩ _ (factN 1) _ (MQ.out.ext (X24.out.trans (X46.out.trans X67.out)))).mono ?_
  rintro e w8 ⟨u4, rfl, hm⟩
  have M4 := Lib.hid hm.fml
  have X78 := Lib.hid hm.2.2
  clear hm
  go_wp2_with fail
  refine (imp_any _ _ (knowN 0 (factN 0)) (knowN 0 (factN 1)) _ (M3.out.ext X78.out) M4.out).mono ?_
  rintro e w9 ⟨u5, rfl, hm⟩
  have M5 := Lib.hid hm.fml
  have X69 := Lib.hid (X67.out.trans (X78.out.trans hm.2.2))
  clear hm
  go_wp2_with fail
  refine (imp_any _ _ (knowN 0 (impN (factN 0) (factN 1))) (impN (knowN 0 (factN 0)) (knowN 0 (factN 1))) _ (M2.out.ext X69.out) M5.out).mono ?_
  rintro e w10 ⟨u6, rfl, hm⟩
  have M6 := Lib.hid hm.fml
  have Y10 := Lib.hid (X46.out.trans (X69.out.trans hm.2.2))
  have HP := Lib.hid (MP.out.ext (X14.out.trans Y10.out))
  obtain ⟨Ap, cp, rfl, _⟩ := fml_slice HP.out
  have hp1 := HP.out
  rw [awake2] at hp1
  have HP1 := Lib.hid hp1
  rw [awake2]
  have Y := Lib.hid (X04.out.trans Y10.out)
  have HQ := Lib.hid (MQ.out.ext (X24.out.trans Y10.out))
  clear hm hp1
  go_wp2_with fail
  refine (truth_any 2 0 ⟨by omega, by omega⟩ _ (factN 0) _ HP1.out P0.out).mono ?_
  rintro e w11 ⟨vl2, rfl, hx, hl⟩
  have Z1 := Lib.hid hx
  have HL2 := Lib.hid hl
  clear hx hl
  go_wp2_with fail
  refine (know_any 0 ⟨by omega, by omega⟩ _ (factN 0) _ (HP1.out.ext Z1.out)).mono ?_
  rintro e w12 ⟨u7, rfl, hm⟩
  have M7 := Lib.hid hm.fml
  have Z2 := Lib.hid hm.2.2
  clear hm
  go_wp2_with fail
  refine (imp_any _ _ (knowN 0 (factN 0)) (factN 0) _ M7.out (HP1.out.ext (Z1.out.trans Z2.out))).mono ?_
  rintro e w13 ⟨u8, rfl, hm⟩
  have M8 := Lib.hid hm.fml
  have Z3 := Lib.hid hm.2.2
  have Z13 := Lib.hid (Z1.out.trans (Z2.out.trans hm.2.2))
  clear hm
  go_wp2_with fail
  refine (proves_any (lg := 2) (HL2.out.ext (Z2.out.trans Z3.out)) M8.out (HT.out.ext (Y.out.trans Z13.out))).mono ?_
  rintro e w14 ⟨rfl, hx⟩
  rw [awake3]
  have Z14 := Lib.hid (Z13.out.trans hx)
  clear hx
  go_wp2_with fail
  refine (axiom_any 0 0 ⟨by omega, by omega⟩ _ _ (factN 0) (factN 1) _ (HP1.out.ext Z14.out) (HQ.out.ext Z14.out) P0.out P1.out).mono ?_
  rintro e w15 ⟨vl3, rfl, hx, hl⟩
  have HL3 := Lib.hid hl
  have Z15 := Lib.hid (Z14.out.trans hx)
  clear hx hl
  go_wp2_with fail
  refine (proves_any (lg := 0) HL3.out (M6.out.ext Z15.out) (HT.out.ext (Y.out.trans Z15.out))).mono ?_
  rintro e w16 ⟨rfl, hx⟩
  rw [awake4]
  have Z16 := Lib.hid (Z15.out.trans hx)
  clear hx
  go_wp2_with fail
  go_ret
  exact ⟨rfl, Y.out.trans Z16.out⟩
end Go.Proofs.YtdpblciohodgcaaDoor

/- What a law's call leaves as it was. -/

namespace Go.Proofs.YtdpblciohodgcaaDoor
open Go.ChangeShapes Go.WideShapes Go.ChangeAt Go.RowKit Go.Joins

section
variable {H : Type} {enc : TypeId × Value → H} {P : Program}
theorem post_of_below {f : Func} {s : ChangeSpec} {apart fresh handsOn again : Bool} {W W' : World} {args : Array Value} {v : Value} {ds gs : List (DataW H)} {before pa pv : List MemPlace}
    (hW : DataW.Whole enc P f.params.toList s.vars apart W args.toList ds gs before)
    (hres : ∀ (b : Nat) (sp : Nat → Bool) (hd : Bool), DataW.TrodAll enc P W' b sp hd f.resultTypes.toList (v.resultList f.resultTypes.size) (s.fn H (ds ++ gs)).results [])
    (hargs : ∀ sp : Nat → Bool, (∀ p ∈ before, sp p.block = true) → DataW.TrodAll enc P W' 0 sp true f.params.toList args.toList (s.fn H (ds ++ gs)).args pa)
    (hvars : ∀ sp : Nat → Bool, (∀ p ∈ before, sp p.block = true) → DataW.TrodVars enc P W' sp s.vars (s.fn H (ds ++ gs)).vars pv)
    (hps : before = pa ++ pv) (hb : Below W.heap.size W W')
    (hok : ∀ (j : Nat) (t : TypeId) (r : Value), f.resultTypes[j]? = some t → (v.resultList f.resultTypes.size)[j]? = some r → Value.okWide P W' .any 0 t r) :
    s.post enc P f apart fresh handsOn again W args v W' := by
  have hlt : ∀ p ∈ before, p.block < W.heap.size := fun p hp => hW.lt p hp
  have hold : ∀ p ∈ before, (fun b => decide (b < W.heap.size)) p.block = true := fun p hp => by simpa using hlt p hp
  refine ⟨ds, gs, before, [], pa, pv, hW, hres _ _ _, hargs _ hold, hvars _ hold, World.keptBut_mono (fun p hp => ⟨hp, ?_⟩) (hb.frame (· ∈ before)), fun _ => ?_⟩
  · rw [hps, List.mem_append] at hp
    exact Or.inr hp
  · obtain ⟨_, _, _, _, _, hz, hn⟩ := hW
    refine ⟨hok, _, _, ([] ++ pa) ++ pv, ⟨[] ++ pa, pv, trodAll_append (hargs _ (fun _ _ => rfl)) (hres _ _ _), hvars _ (fun _ _ => rfl), rfl, ?_, ?_⟩, ?_⟩
    · intro b off hp
      have hin : MemPlace.cell b off ∈ before := by rw [hps]; simpa using hp
      rw [hb.frozen (hlt _ hin)]
      exact hz b off hin
    · intro ha
      have := hn ha
      rw [hps] at this
      simpa using this
    · intro p hp _
      rw [hps]
      simpa using hp
end
end Go.Proofs.YtdpblciohodgcaaDoor

/- Proofs by natural deduction read from arguments (Read without the law NaturalLogics). -/

namespace Go.Proofs.YtdpblciohodgcaaDoor
open Go.ChangeShapes Go.WideShapes Go.ChangeAt Go.RowKit Go.Deep Go.Joins

theorem list_of {α : Type} {P : Nat → α → Prop} : ∀ len : Nat, (∀ i, i < len → ∃ a, P i a) → ∃ l : List α, l.length = len ∧ ∀ k a, l[k]? = some a → P k a
  | 0, _ => ⟨[], rfl, fun k a h => by simp at h⟩
  | len + 1, h => by
    obtain ⟨l, hl, hp⟩ := list_of len (fun i hi => h i (by omega))
    obtain ⟨a, ha⟩ := h len (by omega)
    refine ⟨l ++ [a], by simp [hl], fun k b hk => ?_⟩
    by_cases e : k < l.length
    · rw [List.getElem?_append_left e] at hk
      exact hp k b hk
    · rw [List.getElem?_append_right (by omega)] at hk
      have e0 : k - l.length = 0 := by
        by_cases e2 : k - l.length = 0
        · exact e2
        · rw [List.getElem?_eq_none (by simp; omega)] at hk; cases hk
      rw [e0] at hk
      simp at hk
      subst hk
      have : k = len := by omega
      rw [this]
      exact ha
section
variable {H : Type} {enc : TypeId × Value → H} {P : Program} {w : World} {base : Nat} {spare : Nat → Bool} {held : Bool}
theorem open_slice_fields {t e : TypeId} {fs : Array Field} {fuel : Nat} {cs : List Value} {x : DataW H × List MemPlace} (ht : P.underlying t = some (.slice e)) (he : P.underlying e = some (.struct fs))
    (hone : oneCellFields P fs = true) (hC : P.cellsOf e = fs.size) (h : DataW.trod enc P w base spare held fuel t cs = some x) :
    (cs = [.slice none 0 0] ∧ x = (.nil, [])) ∨
    ∃ (a : Addr) (len cap : Nat), cs = [.slice (some a) len cap] ∧ len ≤ cap ∧ cap ≤ maxLen ∧
      ∀ i, i < len → ∀ (j : Nat) (f : Field), fs[j]? = some f → ∃ (v : Value) (y : DataW H × List MemPlace) (n : Nat), w.cell? (a.add (i * fs.size + j)) = some v ∧ DataW.trod enc P w base spare held n f.type [v] = some y := by
  rcases open_slice ht h with h0 | ⟨a, len, cap, m, n, D, Pl, hcs, hb, hl, hm, hmm, hx, hi⟩
  · exact .inl h0
  · refine .inr ⟨a, len, cap, hcs, hl, hm, fun i hil j f hj => ?_⟩
    have him : i < m := by rw [hmm]; split <;> omega
    obtain ⟨cs', hc, ht'⟩ := hi i him
    rw [hC] at hc
    obtain ⟨ys, n', hn', hy, hlen, hyl, hf⟩ := DataW.trod_struct he ht'
    obtain ⟨_, hcl, hat⟩ := World.cells?_some hc
    obtain ⟨ho, hk⟩ := hone_of hone j f hj
    have hjl : j < fs.size := (Array.getElem?_eq_some_iff.1 hj).1
    have hcell := hat j hjl
    have hv : cs'[j]? = some (cs'[j]'(by omega)) := List.getElem?_eq_getElem (by omega)
    have h1 := hf j f hj
    rw [ho, hk] at h1
    have hone' : (cs'.drop j).take 1 = [cs'[j]'(by omega)] := by
      rw [List.drop_eq_getElem_cons (by omega)]
      rfl
    rw [hone'] at h1
    have hys : ys[j]? = some (ys[j]'(by omega)) := List.getElem?_eq_getElem (by omega)
    refine ⟨_, _, _, ?_, h1.trans hys⟩
    rw [← Go.Deep.add_add, hcell, hv]
end
section
variable {H : Type} {enc : TypeId × Value → H} {w : World} {spare : Nat → Bool} {held : Bool}
theorem cell_field {w : World} {a : Addr} {k j : Nat} {u : Value} (hj : 0 < j) (hc : w.cell? (a.add (k + j)) = some u) : w.cell? ⟨(a.add k).block, (a.add k).off + j, none⟩ = some u := by
  have e : a.add (k + j) = ⟨(a.add k).block, (a.add k).off + j, none⟩ := by
    rw [← add_of_add]
    unfold Addr.add
    rw [if_neg (by omega)]
  rw [← e]
  exact hc
theorem i64_of_wf {z : Int} (h : (Lit.int .i64 z).wf = true) : i64ok z := by
  unfold Lit.wf at h
  rw [Bool.and_eq_true, decide_eq_true_iff, decide_eq_true_iff] at h
  have h1 : IntKind.i64.min = -9223372036854775808 := by decide +kernel
  have h2 : IntKind.i64.max = 9223372036854775807 := by decide +kernel
  rw [h1, h2] at h
  exact h
theorem u64_of_wf {z : Int} (h : (Lit.int .u64 z).wf = true) : 0 ≤ z ∧ z < 18446744073709551616 := by
  unfold Lit.wf at h
  rw [Bool.and_eq_true, decide_eq_true_iff, decide_eq_true_iff] at h
  have h1 : IntKind.u64.min = 0 := by decide +kernel
  have h2 : IntKind.u64.max = 18446744073709551615 := by decide +kernel
  rw [h1, h2] at h
  omega
theorem int_of_trod {fuel : Nat} {v : Value} {y : DataW H × List MemPlace} (h : DataW.trod enc Tryd.prog w 0 spare held fuel 3 [v] = some y) : ∃ z, v = .int .i64 z ∧ i64ok z := by
  obtain ⟨n, hc, _, hw⟩ := DataW.trod_int Tryd.underlying3 h
  injection hc with hc _
  exact ⟨n, hc, i64_of_wf hw⟩
theorem fml_of_trod {fuel : Nat} {v : Value} {y : DataW H × List MemPlace} (h : DataW.trod enc Tryd.prog w 0 spare held fuel 32 [v] = some y) : ∃ l, Fml w v l := by
  rcases open_slice_fields Tryd.underlying32 Tryd.underlying61 (by kernel_rfl) (by kernel_rfl) h with ⟨hc, _⟩ | ⟨a, len, cap, hc, hl, hm, hf⟩
  · injection hc with hc _
    subst hc
    exact ⟨[], ⟨none, 0, rfl, Nat.le_refl _, by unfold maxLen; omega, fun h => absurd rfl h⟩, by simp⟩
  · injection hc with hc _
    subst hc
    obtain ⟨l, hlen, hp⟩ := list_of (P := fun i n => NdAt w (a.add (i * 6)) n ∧ n.ok ∧ a.block < w.heap.size) len (fun i hi => by
      obtain ⟨v0, _, _, c0, t0⟩ := hf i hi 0 _ rfl
      obtain ⟨v1, _, _, c1, t1⟩ := hf i hi 1 _ rfl
      obtain ⟨v2, _, _, c2, t2⟩ := hf i hi 2 _ rfl
      obtain ⟨v3, _, _, c3, t3⟩ := hf i hi 3 _ rfl
      obtain ⟨v4, _, _, c4, t4⟩ := hf i hi 4 _ rfl
      obtain ⟨v5, _, _, c5, t5⟩ := hf i hi 5 _ rfl
      obtain ⟨z0, rfl, o0⟩ := int_of_trod t0
      obtain ⟨z1, rfl, o1⟩ := int_of_trod t1
      obtain ⟨z2, rfl, o2⟩ := int_of_trod t2
      obtain ⟨z3, rfl, o3⟩ := int_of_trod t3
      obtain ⟨z4, rfl, o4⟩ := int_of_trod t4
      obtain ⟨z5, rfl, o5⟩ := int_of_trod t5
      have hs : ∀ (j : Nat) u, 0 < j → w.cell? (a.add (i * 6 + j)) = some u → w.cell? ⟨(a.add (i * 6)).block, (a.add (i * 6)).off + j, none⟩ = some u := fun j u hj hc => cell_field hj hc
      exact ⟨⟨z0, z1, z2, z3, z4, z5⟩, ⟨by simpa using c0, hs 1 _ (by omega) c1, hs 2 _ (by omega) c2, hs 3 _ (by omega) c3, hs 4 _ (by omega) c4, hs 5 _ (by omega) c5⟩, ⟨o0, o1, o2, o3, o4, o5⟩, by have := World.block_lt_of_cell? w _ c0; rwa [block_of_add] at this⟩)
    refine ⟨l, ⟨some a, cap, by rw [hlen], by rw [hlen]; exact hl, hm, fun hne => ⟨a, rfl, ?_, fun k n hk => (hp k n hk).1⟩⟩, fun n hn => ?_⟩
    · obtain ⟨n, hn⟩ : ∃ n, l[0]? = some n := by
        cases l with
        | nil => exact absurd rfl hne
        | cons x t => exact ⟨x, rfl⟩
      exact (hp 0 n hn).2.2
    · obtain ⟨k, hk⟩ := List.getElem?_of_mem hn
      exact (hp k n hk).2.1
theorem ints_of_trod {fuel : Nat} {v : Value} {y : DataW H × List MemPlace} (h : DataW.trod enc Tryd.prog w 0 spare held fuel 38 [v] = some y) : ∃ l, Ints w v l := by
  rcases open_ints Tryd.underlying38 Tryd.underlying3 (by kernel_rfl) h with ⟨hc, _⟩ | ⟨a, len, cap, zs, hc, _, hl, hm, hz, _, hcell, _⟩
  · injection hc with hc _
    subst hc
    exact ⟨[], Ints.none_ w⟩
  · injection hc with hc _
    subst hc
    have hzl : len ≤ zs.length := by rw [hz]; split <;> omega
    have el : (zs.take len).length = len := by simp; omega
    have hcl : ∀ k z, (zs.take len)[k]? = some z → w.cell? (a.add k) = some (.int .i64 z) := fun k z hk => by
      rw [List.getElem?_take] at hk
      split at hk
      · have hk' := (List.getElem?_eq_some_iff.1 hk).1
        rw [hcell k hk', List.getD_eq_getElem?_getD, hk]; rfl
      · cases hk
    refine ⟨zs.take len, some a, cap, by rw [el], by rw [el]; exact hl, hm, fun hne => ⟨a, rfl, ?_, hcl⟩⟩
    obtain ⟨z, hz0⟩ : ∃ z, (zs.take len)[0]? = some z := by
      cases hq : zs.take len with
      | nil => exact absurd hq hne
      | cons x t => exact ⟨x, rfl⟩
    have := World.block_lt_of_cell? w _ (hcl 0 z hz0)
    rwa [block_of_add] at this
theorem lns_of_trod {fuel : Nat} {v : Value} {y : DataW H × List MemPlace} (h : DataW.trod enc Tryd.prog w 0 spare held fuel 22 [v] = some y) : ∃ l, Lns w v l := by
  rcases open_slice_fields Tryd.underlying22 Tryd.underlying40 (by kernel_rfl) (by kernel_rfl) h with ⟨hc, _⟩ | ⟨a, len, cap, hc, hl, hm, hf⟩
  · injection hc with hc _
    subst hc
    exact ⟨[], none, 0, rfl, Nat.le_refl _, by unfold maxLen; omega, fun h => absurd rfl h⟩
  · injection hc with hc _
    subst hc
    obtain ⟨l, hlen, hp⟩ := list_of (P := fun i n => LnAt w (a.add (i * 5)) n ∧ a.block < w.heap.size) len (fun i hi => by
      obtain ⟨v0, _, _, c0, t0⟩ := hf i hi 0 _ rfl
      obtain ⟨v1, _, _, c1, t1⟩ := hf i hi 1 _ rfl
      obtain ⟨v2, _, _, c2, t2⟩ := hf i hi 2 _ rfl
      obtain ⟨v3, _, _, c3, t3⟩ := hf i hi 3 _ rfl
      obtain ⟨v4, _, _, c4, t4⟩ := hf i hi 4 _ rfl
      obtain ⟨z0, rfl, _⟩ := int_of_trod t0
      obtain ⟨z1, rfl, _⟩ := int_of_trod t1
      obtain ⟨f, hff⟩ := fml_of_trod t2
      obtain ⟨z3, rfl, _⟩ := int_of_trod t3
      obtain ⟨r, hr⟩ := ints_of_trod t4
      have hs : ∀ (j : Nat) u, 0 < j → w.cell? (a.add (i * 5 + j)) = some u → w.cell? ⟨(a.add (i * 5)).block, (a.add (i * 5)).off + j, none⟩ = some u := fun j u hj hc => cell_field hj hc
      exact ⟨⟨z0, z1, f, z3, r⟩, ⟨v2, v4, by simpa using c0, hs 1 _ (by omega) c1, hs 2 _ (by omega) c2, hs 3 _ (by omega) c3, hs 4 _ (by omega) c4, hff, hr⟩, by have := World.block_lt_of_cell? w _ c0; rwa [block_of_add] at this⟩)
    refine ⟨l, some a, cap, by rw [hlen], by rw [hlen]; exact hl, hm, fun hne => ⟨a, rfl, ?_, fun k n hk => (hp k n hk).1⟩⟩
    obtain ⟨n, hn⟩ : ∃ n, l[0]? = some n := by
      cases l with
      | nil => exact absurd rfl hne
      | cons x t => exact ⟨x, rfl⟩
    exact (hp 0 n hn).2
end

theorem c3 : Tryd.prog.cellsOf 3 = 1 := by kernel_rfl
theorem c73 : Tryd.prog.cellsOf 88 = 2 := by kernel_rfl
theorem gTab : Tryd.prog.globalNamed "witting/natural.table" = some 0 := by kernel_rfl
theorem tTab : (Tryd.prog.globals[0]?).map (·.type) = some 89 := by kernel_rfl
set_option maxRecDepth 100000 in
theorem row_of {W : World} {fuel : Nat} {cs : List Value} {z : Int} {b : UInt8} {r : List UInt8} {q : List MemPlace} {f0 : FuncId} (h : DataW.trod (funcToken Tryd.prog) Tryd.prog W 0 (fun _ => true) true fuel 88 cs = some (.agg [.lit (.int .i64 z), .held (b :: r)], q))
    (hone : ((List.range Tryd.prog.funcs.size).filter fun f => (Tryd.prog.funcs[f]?).any (·.name.toUTF8.data.toList == b :: r)) = [f0]) : cs = [.int .i64 z, .func (.func f0) #[] #[]] := by
  obtain ⟨ys, n, rfl, hx, hl, hyl, hf⟩ := DataW.trod_struct Tryd.underlying88 h
  rw [c73] at hl
  match cs, hl with
  | [c0, c1], _ =>
    match ys, hyl with
    | [y0, y1], _ =>
      have h0 := hf 0 _ rfl
      have h1 := hf 1 _ rfl
      simp only [Prod.mk.injEq, DataW.agg.injEq, List.map_cons, List.map_nil, List.cons.injEq, and_true] at hx
      obtain ⟨⟨e0, e1⟩, _⟩ := hx
      have h0' : DataW.trod (funcToken Tryd.prog) Tryd.prog W 0 (fun _ => true) true n 3 [c0] = some y0 := h0
      have h1' : DataW.trod (funcToken Tryd.prog) Tryd.prog W 0 (fun _ => true) true n 86 [c1] = some y1 := h1
      obtain ⟨z', hc, hy, _⟩ := DataW.trod_int Tryd.underlying3 h0'
      injection hc with hc _
      rw [hy] at e0
      simp only [DataW.lit.injEq, Lit.int.injEq, true_and] at e0
      have ey : y1 = (.held (b :: r), y1.2) := by rw [e1]
      rw [ey] at h1'
      have := func_of_trod (f0 := f0) Tryd.underlying86 hone h1'
      rw [hc, e0, this]
theorem pair_get {l : List Value} {a : Nat} {x y : Value} (h : (l.drop a).take 2 = [x, y]) : l[a]? = some x ∧ l[a + 1]? = some y := by
  have h0 := congrArg (fun q => q[0]?) h
  have h1 := congrArg (fun q => q[1]?) h
  simp only [List.getElem?_take, List.getElem?_drop] at h0 h1
  exact ⟨by simpa using h0, by simpa using h1⟩
set_option maxRecDepth 100000 in
set_option maxHeartbeats 4000000 in
theorem tab_of_laid {W : World} {L : List (String × DataW Unit)} (h : laidMetH Tryd.prog L W) (hx : ("witting/natural.table", Rows.laid_witting_natural_table) ∈ L) : Tab W := by
  obtain ⟨g, t, cs, fuel, p, hg, ht, hv, hd⟩ := h.funcs hx
  obtain rfl := Option.some.inj (gTab.symm.trans hg)
  obtain rfl := Option.some.inj (tTab.symm.trans ht)
  have hd' : DataW.trod (funcToken Tryd.prog) Tryd.prog W 0 (fun _ => true) true fuel 89 cs.toList = some (.agg [.agg [.lit (.int .i64 3), .held [40, 42, 119, 105, 116, 116, 105, 110, 103, 47, 110, 97, 116, 117, 114, 97, 108, 46, 99, 104, 101, 99, 107, 101, 114, 41, 46, 99, 111, 112, 105, 101, 100]], .agg [.lit (.int .i64 4), .held [40, 42, 119, 105, 116, 116, 105, 110, 103, 47, 110, 97, 116, 117, 114, 97, 108, 46, 99, 104, 101, 99, 107, 101, 114, 41, 46, 97, 110, 100, 73, 110]], .agg [.lit (.int .i64 5), .held [40, 42, 119, 105, 116, 116, 105, 110, 103, 47, 110, 97, 116, 117, 114, 97, 108, 46, 99, 104, 101, 99, 107, 101, 114, 41, 46, 97, 110, 100, 79, 117, 116]], .agg [.lit (.int .i64 6), .held [40, 42, 119, 105, 116, 116, 105, 110, 103, 47, 110, 97, 116, 117, 114, 97, 108, 46, 99, 104, 101, 99, 107, 101, 114, 41, 46, 111, 114, 73, 110]], .agg [.lit (.int .i64 7), .held [40, 42, 119, 105, 116, 116, 105, 110, 103, 47, 110, 97, 116, 117, 114, 97, 108, 46, 99, 104, 101, 99, 107, 101, 114, 41, 46, 111, 114, 79, 117, 116]], .agg [.lit (.int .i64 8), .held [40, 42, 119, 105, 116, 116, 105, 110, 103, 47, 110, 97, 116, 117, 114, 97, 108, 46, 99, 104, 101, 99, 107, 101, 114, 41, 46, 105, 109, 112, 73, 110]], .agg [.lit (.int .i64 9), .held [40, 42, 119, 105, 116, 116, 105, 110, 103, 47, 110, 97, 116, 117, 114, 97, 108, 46, 99, 104, 101, 99, 107, 101, 114, 41, 46, 105, 109, 112, 79, 117, 116]], .agg [.lit (.int .i64 10), .held [40, 42, 119, 105, 116, 116, 105, 110, 103, 47, 110, 97, 116, 117, 114, 97, 108, 46, 99, 104, 101, 99, 107, 101, 114, 41, 46, 110, 111, 116, 73, 110]], .agg [.lit (.int .i64 11), .held [40, 42, 119, 105, 116, 116, 105, 110, 103, 47, 110, 97, 116, 117, 114, 97, 108, 46, 99, 104, 101, 99, 107, 101, 114, 41, 46, 110, 111, 116, 79, 117, 116]], .agg [.lit (.int .i64 12), .held [40, 42, 119, 105, 116, 116, 105, 110, 103, 47, 110, 97, 116, 117, 114, 97, 108, 46, 99, 104, 101, 99, 107, 101, 114, 41, 46, 97, 98, 115, 117, 114, 100]], .agg [.lit (.int .i64 13), .held [40, 42, 119, 105, 116, 116, 105, 110, 103, 47, 110, 97, 116, 117, 114, 97, 108, 46, 99, 104, 101, 99, 107, 101, 114, 41, 46, 102, 114, 111, 109, 70, 97, 108, 115, 101]], .agg [.lit (.int .i64 14), .held [40, 42, 119, 105, 116, 116, 105, 110, 103, 47, 110, 97, 116, 117, 114, 97, 108, 46, 99, 104, 101, 99, 107, 101, 114, 41, 46, 105, 115, 84, 114, 117, 101]], .agg [.lit (.int .i64 15), .held [40, 42, 119, 105, 116, 116, 105, 110, 103, 47, 110, 97, 116, 117, 114, 97, 108, 46, 99, 104, 101, 99, 107, 101, 114, 41, 46, 105, 102, 102]], .agg [.lit (.int .i64 16), .held [40, 42, 119, 105, 116, 116, 105, 110, 103, 47, 110, 97, 116, 117, 114, 97, 108, 46, 99, 104, 101, 99, 107, 101, 114, 41, 46, 107, 110, 111, 119, 73, 110]], .agg [.lit (.int .i64 17), .held [40, 42, 119, 105, 116, 116, 105, 110, 103, 47, 110, 97, 116, 117, 114, 97, 108, 46, 99, 104, 101, 99, 107, 101, 114, 41, 46, 105, 109, 112, 111, 114, 116, 101, 100]], .agg [.lit (.int .i64 18), .held [40, 42, 119, 105, 116, 116, 105, 110, 103, 47, 110, 97, 116, 117, 114, 97, 108, 46, 99, 104, 101, 99, 107, 101, 114, 41, 46, 107, 110, 111, 119, 84]], .agg [.lit (.int .i64 19), .held [40, 42, 119, 105, 116, 116, 105, 110, 103, 47, 110, 97, 116, 117, 114, 97, 108, 46, 99, 104, 101, 99, 107, 101, 114, 41, 46, 100, 117, 97, 108]], .agg [.lit (.int .i64 20), .held [40, 42, 119, 105, 116, 116, 105, 110, 103, 47, 110, 97, 116, 117, 114, 97, 108, 46, 99, 104, 101, 99, 107, 101, 114, 41, 46, 115, 101, 114, 105, 97, 108]]], p) := hd
  obtain ⟨xs, m, rfl, hx, hlen, hxl, hi⟩ := DataW.trod_array Tryd.underlying89 hd'
  simp only [Prod.mk.injEq, DataW.agg.injEq] at hx
  obtain ⟨hx1, _⟩ := hx
  have key : ∀ (k : Nat) (d : DataW (List UInt8)), k < 18 → (xs.map (·.1))[k]? = some d → ∃ q, DataW.trod (funcToken Tryd.prog) Tryd.prog W 0 (fun _ => true) true m 88 ((cs.toList.drop (k * 2)).take 2) = some (d, q) := fun k d hk hd => by
    rw [List.getElem?_map] at hd
    obtain ⟨x, hx, rfl⟩ := Option.map_eq_some_iff.1 hd
    have := hi k hk
    rw [c73] at this
    exact ⟨x.2, by rw [this, hx]⟩
  rw [← hx1] at key
  have hcell := fun j => World.var?_cell hg hv j
  obtain ⟨q0, h0⟩ := key 0 _ (by decide) rfl
  obtain ⟨a0, b0⟩ := pair_get (row_of (f0 := 100) h0 (by kernel_rfl))
  obtain ⟨q1, h1⟩ := key 1 _ (by decide) rfl
  obtain ⟨a1, b1⟩ := pair_get (row_of (f0 := 101) h1 (by kernel_rfl))
  obtain ⟨q2, h2⟩ := key 2 _ (by decide) rfl
  obtain ⟨a2, b2⟩ := pair_get (row_of (f0 := 102) h2 (by kernel_rfl))
  obtain ⟨q3, h3⟩ := key 3 _ (by decide) rfl
  obtain ⟨a3, b3⟩ := pair_get (row_of (f0 := 103) h3 (by kernel_rfl))
  obtain ⟨q4, h4⟩ := key 4 _ (by decide) rfl
  obtain ⟨a4, b4⟩ := pair_get (row_of (f0 := 104) h4 (by kernel_rfl))
  obtain ⟨q5, h5⟩ := key 5 _ (by decide) rfl
  obtain ⟨a5, b5⟩ := pair_get (row_of (f0 := 105) h5 (by kernel_rfl))
  obtain ⟨q6, h6⟩ := key 6 _ (by decide) rfl
  obtain ⟨a6, b6⟩ := pair_get (row_of (f0 := 106) h6 (by kernel_rfl))
  obtain ⟨q7, h7⟩ := key 7 _ (by decide) rfl
  obtain ⟨a7, b7⟩ := pair_get (row_of (f0 := 107) h7 (by kernel_rfl))
  obtain ⟨q8, h8⟩ := key 8 _ (by decide) rfl
  obtain ⟨a8, b8⟩ := pair_get (row_of (f0 := 108) h8 (by kernel_rfl))
  obtain ⟨q9, h9⟩ := key 9 _ (by decide) rfl
  obtain ⟨a9, b9⟩ := pair_get (row_of (f0 := 109) h9 (by kernel_rfl))
  obtain ⟨q10, h10⟩ := key 10 _ (by decide) rfl
  obtain ⟨a10, b10⟩ := pair_get (row_of (f0 := 110) h10 (by kernel_rfl))
  obtain ⟨q11, h11⟩ := key 11 _ (by decide) rfl
  obtain ⟨a11, b11⟩ := pair_get (row_of (f0 := 111) h11 (by kernel_rfl))
  obtain ⟨q12, h12⟩ := key 12 _ (by decide) rfl
  obtain ⟨a12, b12⟩ := pair_get (row_of (f0 := 112) h12 (by kernel_rfl))
  obtain ⟨q13, h13⟩ := key 13 _ (by decide) rfl
  obtain ⟨a13, b13⟩ := pair_get (row_of (f0 := 113) h13 (by kernel_rfl))
  obtain ⟨q14, h14⟩ := key 14 _ (by decide) rfl
  obtain ⟨a14, b14⟩ := pair_get (row_of (f0 := 114) h14 (by kernel_rfl))
  obtain ⟨q15, h15⟩ := key 15 _ (by decide) rfl
  obtain ⟨a15, b15⟩ := pair_get (row_of (f0 := 115) h15 (by kernel_rfl))
  obtain ⟨q16, h16⟩ := key 16 _ (by decide) rfl
  obtain ⟨a16, b16⟩ := pair_get (row_of (f0 := 116) h16 (by kernel_rfl))
  obtain ⟨q17, h17⟩ := key 17 _ (by decide) rfl
  obtain ⟨a17, b17⟩ := pair_get (row_of (f0 := 117) h17 (by kernel_rfl))
  refine ⟨fun j v hj => ?_, ?_⟩
  · rw [Nat.zero_add, hcell j, ← Array.getElem?_toList]
    match j, hj with
    | 0, hj => rw [← hj]; exact a0
    | 1, hj => rw [← hj]; exact b0
    | 2, hj => rw [← hj]; exact a1
    | 3, hj => rw [← hj]; exact b1
    | 4, hj => rw [← hj]; exact a2
    | 5, hj => rw [← hj]; exact b2
    | 6, hj => rw [← hj]; exact a3
    | 7, hj => rw [← hj]; exact b3
    | 8, hj => rw [← hj]; exact a4
    | 9, hj => rw [← hj]; exact b4
    | 10, hj => rw [← hj]; exact a5
    | 11, hj => rw [← hj]; exact b5
    | 12, hj => rw [← hj]; exact a6
    | 13, hj => rw [← hj]; exact b6
    | 14, hj => rw [← hj]; exact a7
    | 15, hj => rw [← hj]; exact b7
    | 16, hj => rw [← hj]; exact a8
    | 17, hj => rw [← hj]; exact b8
    | 18, hj => rw [← hj]; exact a9
    | 19, hj => rw [← hj]; exact b9
    | 20, hj => rw [← hj]; exact a10
    | 21, hj => rw [← hj]; exact b10
    | 22, hj => rw [← hj]; exact a11
    | 23, hj => rw [← hj]; exact b11
    | 24, hj => rw [← hj]; exact a12
    | 25, hj => rw [← hj]; exact b12
    | 26, hj => rw [← hj]; exact a13
    | 27, hj => rw [← hj]; exact b13
    | 28, hj => rw [← hj]; exact a14
    | 29, hj => rw [← hj]; exact b14
    | 30, hj => rw [← hj]; exact a15
    | 31, hj => rw [← hj]; exact b15
    | 32, hj => rw [← hj]; exact a16
    | 33, hj => rw [← hj]; exact b16
    | 34, hj => rw [← hj]; exact a17
    | 35, hj => rw [← hj]; exact b17
    | j + 36, hj => simp [tabCells] at hj
  · have h0 := hcell 0
    rw [← Array.getElem?_toList, a0] at h0
    exact World.block_lt_of_cell? W _ h0
end Go.Proofs.YtdpblciohodgcaaDoor

/- Slices of words. -/

namespace Go.Proofs.YtdpblciohodgcaaDoor
open Go.RowKit

/-- A slice of words. -/
def U64s (w : World) (v : Value) (l : List Nat) : Prop :=
  ∃ A c, v = .slice A l.length c ∧ l.length ≤ c ∧ c ≤ maxLen ∧ (l ≠ [] → ∃ ad, A = some ad ∧ ad.block < w.heap.size ∧ ∀ (k z : Nat), l[k]? = some z → w.cell? (ad.add k) = some (.int .u64 (z : Int)))
theorem U64s.ext {w w' : World} {v : Value} {l : List Nat} (h : U64s w v l) (he : Ext w w') : U64s w' v l := by
  obtain ⟨A, c, e, h1, h2, h3⟩ := h
  refine ⟨A, c, e, h1, h2, fun hn => ?_⟩
  obtain ⟨ad, e, hlt, hc⟩ := h3 hn
  exact ⟨ad, e, Nat.lt_of_lt_of_le hlt he.size, fun k z hk => (he.cell (by rw [block_of_add]; exact hlt)).trans (hc k z hk)⟩
theorem u64s_nil (w : World) : U64s w (.slice none 0 0) [] := ⟨none, 0, rfl, Nat.le_refl _, by unfold maxLen; omega, fun h => absurd rfl h⟩
theorem u64_at {w : World} {v : Value} {l : List Nat} (h : U64s w v l) : ∃ A c, v = .slice A l.length c ∧ l.length ≤ c ∧ c ≤ maxLen ∧ Hid (∀ i, i < l.length → ∃ ad, A = some ad ∧ ad.block < w.heap.size ∧ w.cell? (ad.add i) = some (.int .u64 ((l.getD i 0 : Nat) : Int))) := by
  obtain ⟨A, c, rfl, h1, h2, h3⟩ := h
  refine ⟨A, c, rfl, h1, h2, Lib.hid fun i hi => ?_⟩
  obtain ⟨ad, e, hl, hc⟩ := h3 (by intro e; rw [e] at hi; simp at hi)
  exact ⟨ad, e, hl, hc i _ (by rw [List.getD_eq_getElem?_getD, List.getElem?_eq_getElem hi]; rfl)⟩
/-- A slice of slices of words. -/
def U64ss (w : World) (v : Value) (l : List (List Nat)) : Prop :=
  ∃ A c, v = .slice A l.length c ∧ l.length ≤ c ∧ c ≤ maxLen ∧ (l ≠ [] → ∃ ad, A = some ad ∧ ad.block < w.heap.size ∧ ∀ (k : Nat) s, l[k]? = some s → ∃ u, w.cell? (ad.add k) = some u ∧ U64s w u s)
theorem U64ss.ext {w w' : World} {v : Value} {l : List (List Nat)} (h : U64ss w v l) (he : Ext w w') : U64ss w' v l := by
  obtain ⟨A, c, e, h1, h2, h3⟩ := h
  refine ⟨A, c, e, h1, h2, fun hn => ?_⟩
  obtain ⟨ad, e, hlt, hc⟩ := h3 hn
  refine ⟨ad, e, Nat.lt_of_lt_of_le hlt he.size, fun k s hk => ?_⟩
  obtain ⟨u, hu, hb⟩ := hc k s hk
  exact ⟨u, (he.cell (by rw [block_of_add]; exact hlt)).trans hu, hb.ext he⟩
theorem u64ss_at {w : World} {v : Value} {l : List (List Nat)} (h : U64ss w v l) : ∃ A c, v = .slice A l.length c ∧ l.length ≤ c ∧ c ≤ maxLen ∧ Hid (∀ i, i < l.length → ∃ ad u, A = some ad ∧ ad.block < w.heap.size ∧ w.cell? (ad.add i) = some u ∧ U64s w u (l.getD i [])) := by
  obtain ⟨A, c, rfl, h1, h2, h3⟩ := h
  refine ⟨A, c, rfl, h1, h2, Lib.hid fun i hi => ?_⟩
  obtain ⟨ad, e, hl, hc⟩ := h3 (by intro e; rw [e] at hi; simp at hi)
  obtain ⟨u, hu, hs⟩ := hc i (l.getD i []) (by rw [List.getD_eq_getElem?_getD, List.getElem?_eq_getElem hi]; rfl)
  exact ⟨ad, u, e, hl, hu, hs⟩
end Go.Proofs.YtdpblciohodgcaaDoor

/- Disjunctions and equivalences: plain. -/

namespace Go.Proofs.YtdpblciohodgcaaDoor

def orN (f g : List Nd) : List Nd := buildN ⟨6, 0, 0, 0, 0, 0⟩ [f, g]
def iffN (f g : List Nd) : List Nd := buildN ⟨8, 0, 0, 0, 0, 0⟩ [f, g]
end Go.Proofs.YtdpblciohodgcaaDoor

/- Negation normal forms as Lean functions. -/

namespace Go.Proofs.YtdpblciohodgcaaDoor

/-- The form of a node, from the forms of its operands (the Bool: of the negation). -/
def posS (x : Nd) (p : Bool → Int → List Nd) : List Nd :=
  bif x.op == 4 then p true x.x
  else bif x.op == 7 then orN (p true x.x) (p false x.y)
  else bif x.op == 8 then andN (orN (p true x.x) (p false x.y)) (orN (p false x.x) (p true x.y))
  else bif x.op == 2 then falseN
  else bif x.op == 3 then factN x.i
  else bif x.op == 5 then andN (p false x.x) (p false x.y)
  else bif x.op == 6 then orN (p false x.x) (p false x.y)
  else bif x.op == 9 then knowN x.i (p false x.x)
  else bif x.op == 10 then possN x.i (p false x.x)
  else trueN
/-- The form of the negation of a node. -/
def negS (x : Nd) (p : Bool → Int → List Nd) : List Nd :=
  bif x.op == 1 then falseN
  else bif x.op == 2 then trueN
  else bif x.op == 4 then p false x.x
  else bif x.op == 5 then orN (p true x.x) (p true x.y)
  else bif x.op == 6 then andN (p true x.x) (p true x.y)
  else bif x.op == 7 then andN (p false x.x) (p true x.y)
  else bif x.op == 8 then orN (andN (p false x.x) (p true x.y)) (andN (p true x.x) (p false x.y))
  else bif x.op == 9 then possN x.i (p true x.x)
  else bif x.op == 10 then knowN x.i (p true x.x)
  else notN (posS x p)
def nnfF (c : List Nd) : Nat → Bool → Nat → List Nd
  | 0, _, _ => []
  | k + 1, no, i => bif no then negS (c.getD i Nd.zero) (fun b j => nnfF c k b j.toNat) else posS (c.getD i Nd.zero) (fun b j => nnfF c k b j.toNat)
/-- The form of the formula at a place of a list. -/
def nnfN (c : List Nd) (no : Bool) (i : Nat) : List Nd := nnfF c (i + 1) no i
/-- The operators of the fragment of knowledge. -/
def Few10 (c : List Nd) : Prop := ∀ n ∈ c, 1 ≤ n.op ∧ n.op ≤ 10
/-- rewrite.Nnf's formula. -/
def nnfAll (f : List Nd) : List Nd := bif check f != 0 then [] else nnfN (compactN f) false ((compactN f).length - 1)
def nnfErr (f : List Nd) : Int := bif check f != 0 then check f else bif decide ((nnfAll f).length = 0) then 8 else 0
/-- The negation normal form of the negation. -/
def oppN (f : List Nd) : List Nd := nnfAll (notN f)
end Go.Proofs.YtdpblciohodgcaaDoor

/- Refutations and their check as Lean functions. -/

namespace Go.Proofs.YtdpblciohodgcaaDoor

/-- A step of a refutation. -/
structure Stp where
  set : Nat
  rule : Int
  on : Int
  e : Int
  from_ : List Int
def Stp.zero : Stp := ⟨0, 0, 0, 0, []⟩
/-- A node of a negation normal form. -/
def normalN (base : List Nd) (n : Nd) : Bool :=
  bif n.op == 4 then (base.getD n.x.toNat Nd.zero).op == 3 else n.op == 1 || (n.op == 2 || (n.op == 3 || (n.op == 5 || (n.op == 6 || (n.op == 9 || n.op == 10)))))
def baseErr (base : List Nd) : Int :=
  bif check base != 0 then check base else bif decide (64 < base.length) then 8 else bif base.all (normalN base) then 0 else 10
def inS (set : Nat) (node : Int) : Bool := decide (0 ≤ node) && (decide (node < 64) && set.testBit node.toNat)
def subS (a b : Nat) : Bool := (a &&& b) == a
def insideS (base : List Nd) (set : Nat) : Bool := decide (set < 2 ^ base.length)
def formulasN (base : List Nd) : List (List Nd) := (List.range base.length).map fun (i : Nat) => subN base i
/-- The place of a list of nodes in a list, or -1. -/
def placeN (l : List (List Nd)) (g : List Nd) : Int := match l.findIdx? (fun f => decide (f = g)) with | none => -1 | some j => j
def negationN (base : List Nd) (node : Int) : Int := placeN (formulasN base) (oppN (subN base node))
def NegationN (base : List Nd) (node : Int) : Int := bif baseErr base != 0 || (decide (node < 0) || decide ((base.length : Int) ≤ node)) then -1 else negationN base node
def oppsN (base : List Nd) : List Int := (formulasN base).map fun f => placeN (formulasN base) (oppN f)
def transN (lg : Int) : Bool := lg == 3 || (lg == 4 || (lg == 5 || lg == 6))
def euclN (lg : Int) : Bool := lg == 5 || lg == 6
/-- What a node of a set adds to the carry. -/
def carry1 (lg : Int) (set : Nat) (agent : Int) (i : Nat) (n : Nd) (out : Nat) : Nat :=
  bif !inS set i || n.i != agent then out
  else bif n.op == 9 && transN lg then out ||| (2 ^ n.x.toNat ||| 2 ^ i)
  else bif n.op == 9 then out ||| 2 ^ n.x.toNat
  else bif n.op == 10 && euclN lg then out ||| 2 ^ i
  else out
def carryGo (lg : Int) (set : Nat) (agent : Int) : List Nd → Nat → Nat → Nat
  | [], _, out => out
  | n :: r, i, out => carryGo lg set agent r (i + 1) (carry1 lg set agent i n out)
def carryN (lg : Int) (base : List Nd) (set : Nat) (agent : Int) : Nat := carryGo lg set agent base 0 0
def knownN (lg : Int) : Bool := decide (0 ≤ lg) && decide (lg ≤ 6)
def CarryN (lg : Int) (base : List Nd) (set : Nat) (agent : Int) : Nat :=
  bif !knownN lg || (baseErr base != 0 || (!insideS base set || (decide (agent < 0) || decide (4 ≤ agent)))) then 0 else carryN lg base set agent
def opposedN (opps : List Int) (node other : Int) : Bool := decide (0 ≤ node) && (decide (node < opps.length) && (decide (0 ≤ other) && opps.getD node.toNat 0 == other))
def onN (base : List Nd) (x : Stp) (op : Int) : Bool := !(decide ((base.length : Int) ≤ x.on) || (!inS x.set x.on || (base.getD x.on.toNat Nd.zero).op != op))
def nodeOn (base : List Nd) (x : Stp) : Nd := base.getD x.on.toNat Nd.zero
def premGo (steps : List Stp) (at_ : Nat) : List Int → List Nat → Bool
  | [], [] => true
  | j :: r, s :: t => bif decide (j < 0) || (decide ((at_ : Int) ≤ j) || !subS (steps.getD j.toNat Stp.zero).set s) then false else premGo steps at_ r t
  | _, _ => false
/-- Exactly premises within the given sets. -/
def premN (steps : List Stp) (at_ : Nat) (sets : List Nat) : Bool := (steps.getD at_ Stp.zero).from_.length == sets.length && premGo steps at_ (steps.getD at_ Stp.zero).from_ sets
def closedN (base : List Nd) (opps : List Int) (steps : List Stp) (at_ : Nat) : Bool :=
  let x := steps.getD at_ Stp.zero
  bif onN base x 2 && x.e == 0 then premN steps at_ []
  else inS x.set x.on && (inS x.set x.e && (opposedN opps x.on x.e && premN steps at_ []))
def correctN (lg : Int) (base : List Nd) (opps : List Int) (steps : List Stp) (at_ : Nat) : Bool :=
  let x := steps.getD at_ Stp.zero
  let n := nodeOn base x
  bif !insideS base x.set then false
  else bif x.rule == 1 then closedN base opps steps at_
  else bif x.rule == 4 then decide (0 ≤ x.e) && (opposedN opps x.on x.e && premN steps at_ [x.set ||| 2 ^ x.on.toNat, x.set ||| 2 ^ x.e.toNat])
  else bif x.e != 0 then false
  else bif x.rule == 2 then onN base x 5 && premN steps at_ [x.set ||| 2 ^ n.x.toNat ||| 2 ^ n.y.toNat]
  else bif x.rule == 3 then onN base x 6 && premN steps at_ [x.set ||| 2 ^ n.x.toNat, x.set ||| 2 ^ n.y.toNat]
  else bif x.rule == 5 then onN base x 9 && ((lg == 2 || (lg == 4 || lg == 6)) && premN steps at_ [x.set ||| 2 ^ n.x.toNat])
  else bif x.rule == 6 then onN base x 10 && premN steps at_ [2 ^ n.x.toNat ||| carryN lg base x.set n.i]
  else bif x.rule == 7 then (lg == 1 || lg == 5) && (decide (0 ≤ x.on) && (decide (x.on < 4) && premN steps at_ [carryN lg base x.set x.on]))
  else false
def formS (lg : Int) (base : List Nd) (steps : List Stp) : Int :=
  bif !knownN lg then 2 else bif baseErr base != 0 then baseErr base else bif decide (steps.length = 0) || decide (4096 < steps.length) then 3 else 0
def brokenGo (lg : Int) (base : List Nd) (opps : List Int) (steps : List Stp) : Nat → Nat → Int
  | 0, _ => -1
  | k + 1, i => bif correctN lg base opps steps i then brokenGo lg base opps steps k (i + 1) else i
def brokenS (lg : Int) (base : List Nd) (steps : List Stp) : Int :=
  bif formS lg base steps != 0 then -1 else brokenGo lg base (oppsN base) steps steps.length 0
def checkS (lg : Int) (base : List Nd) (steps : List Stp) : Int :=
  bif formS lg base steps != 0 then formS lg base steps else bif decide (0 ≤ brokenS lg base steps) then 13 else 0
def refutedS (lg : Int) (base : List Nd) (steps : List Stp) : List (List Nd) × Int :=
  bif checkS lg base steps != 0 then ([], checkS lg base steps)
  else (((List.range base.length).filter fun (i : Nat) => inS (steps.getLastD Stp.zero).set i).map fun (i : Nat) => subN base i, 0)
def provesS (lg : Int) (base : List Nd) (steps : List Stp) (f : List Nd) : Int :=
  bif (refutedS lg base steps).2 != 0 then (refutedS lg base steps).2
  else bif check f != 0 then check f
  else bif decide (2 ≤ fragsN f) then 10
  else bif !decide ((refutedS lg base steps).1 = [oppN f]) then 13 else 0
end Go.Proofs.YtdpblciohodgcaaDoor

/- Bits of words, as a walk shows them. -/

namespace Go.Proofs.YtdpblciohodgcaaDoor
open Go.RowKit

theorem testBit_int (s k : Nat) : s.testBit k = (s / 2 ^ k % 2 == 1) := by
  rw [Nat.testBit_eq_decide_div_mod_eq]
  rfl
theorem shr_nat (s k : Nat) : (s : Int) / 2 ^ k = ((s / 2 ^ k : Nat) : Int) := by
  rw [show ((2 : Int) ^ k) = ((2 ^ k : Nat) : Int) by simp]
  rfl
theorem i64_and_nat (a b : Nat) (ha : a < 9223372036854775808) (hb : b < 9223372036854775808) : bits .and .i64 (a : Int) (b : Int) = ((a &&& b : Nat) : Int) := by
  have hx : a &&& b < 2 ^ 63 := Nat.and_lt_two_pow _ (by omega)
  show IntKind.i64.wrap ((BitVec.ofInt 64 (a : Int) &&& BitVec.ofInt 64 (b : Int)).toNat : Int) = _
  rw [BitVec.toNat_and, ofInt_i64 a ha, ofInt_i64 b hb, IntKind.wrap_i64]
  omega
theorem shr_and_zero_i (s k : Nat) (hs : s < 9223372036854775808) : (bits .and .i64 ((s : Int) / 2 ^ k) 1 == 0) = !s.testBit k := by
  have hlt : s / 2 ^ k < 9223372036854775808 := Nat.lt_of_le_of_lt (Nat.div_le_self _ _) hs
  rw [shr_nat, show (1 : Int) = ((1 : Nat) : Int) from rfl, i64_and_nat _ 1 hlt (by decide), Nat.and_one_is_mod, testBit_int]
  rcases Nat.mod_two_eq_zero_or_one (s / 2 ^ k) with h | h <;> rw [h] <;> rfl
end Go.Proofs.YtdpblciohodgcaaDoor

/- Models in memory, and sets of worlds as words. -/

namespace Go.Proofs.YtdpblciohodgcaaDoor
open Go.RowKit

/-- A model's words. -/
structure Md where
  n : Int
  val : List Nat
  rel : List (List Nat)
def word (s : Nat) : Prop := s < 18446744073709551616
structure Md.ok (md : Md) : Prop where
  n : i64ok md.n
  val : ∀ s ∈ md.val, word s
  rel : ∀ r ∈ md.rel, ∀ s ∈ r, word s
def MdV (w : World) (v : Value) (md : Md) : Prop := ∃ vv vr, v = .agg #[.int .i64 md.n, vv, vr] ∧ U64s w vv md.val ∧ U64ss w vr md.rel
theorem MdV.ext {w w' : World} {v : Value} {md : Md} (h : MdV w v md) (he : Ext w w') : MdV w' v md := by
  obtain ⟨vv, vr, e, h1, h2⟩ := h
  exact ⟨vv, vr, e, h1.ext he, h2.ext he⟩
theorem getD_word {l : List Nat} (h : ∀ s ∈ l, word s) (i : Nat) : word (l.getD i 0) := by
  rw [List.getD_eq_getElem?_getD]
  cases e : l[i]? with
  | none => show (0 : Nat) < _; omega
  | some s => exact h s (List.mem_of_getElem? e)
theorem getD_words {l : List (List Nat)} (h : ∀ r ∈ l, ∀ s ∈ r, word s) (i : Nat) : ∀ s ∈ l.getD i [], word s := by
  rw [List.getD_eq_getElem?_getD]
  cases e : l[i]? with
  | none => intro s hs; cases hs
  | some r => exact h r (List.mem_of_getElem? e)
/-- The worlds of a condition, as a word. -/
def maskN (n : Nat) (p : Nat → Bool) : Nat := (List.range n).foldl (fun o i => if p i then o ||| 2 ^ i else o) 0
theorem mask_succ (n : Nat) (p : Nat → Bool) : maskN (n + 1) p = if p n then maskN n p ||| 2 ^ n else maskN n p := by
  unfold maskN
  rw [List.range_succ, List.foldl_append]
  rfl
theorem mask_bit (p : Nat → Bool) : ∀ (n i : Nat), (maskN n p).testBit i = (decide (i < n) && p i)
  | 0, i => by simp [maskN]
  | n + 1, i => by
    rw [mask_succ]
    cases h : p n
    · rw [if_neg (by simp), mask_bit p n i]
      by_cases e : i = n
      · subst e; simp [h]
      · have : decide (i < n + 1) = decide (i < n) := by rw [decide_eq_decide]; omega
        rw [this]
    · rw [if_pos rfl, Nat.testBit_or, mask_bit p n i, Nat.testBit_two_pow]
      by_cases e : i = n
      · subst e; simp [h]
      · have h1 : decide (n = i) = false := decide_eq_false (fun q => e q.symm)
        have h2 : decide (i < n + 1) = decide (i < n) := by rw [decide_eq_decide]; omega
        rw [h1, h2, Bool.or_false]
theorem mask_lt (p : Nat → Bool) : ∀ n : Nat, maskN n p < 2 ^ n
  | 0 => by simp [maskN]
  | n + 1 => by
    rw [mask_succ]
    have h1 := mask_lt p n
    have h2 : 2 ^ n < 2 ^ (n + 1) := Nat.pow_lt_pow_right (by decide) (Nat.lt_succ_self n)
    split
    · exact Nat.or_lt_two_pow (by omega) h2
    · omega
theorem two64 {n : Nat} (h : n ≤ 64) : 2 ^ n ≤ 18446744073709551616 := by
  rw [show (18446744073709551616 : Nat) = 2 ^ 64 from rfl]
  exact Nat.pow_le_pow_right (by decide) h
theorem mask_word {n : Nat} (h : n ≤ 64) (p : Nat → Bool) : word (maskN n p) := Nat.lt_of_lt_of_le (mask_lt p n) (two64 h)
theorem bit_lt {s n i : Nat} (h : s < 2 ^ n) (hi : s.testBit i = true) : i < n := by
  by_cases e : i < n
  · exact e
  · rw [Nat.testBit_lt_two_pow (Nat.lt_of_lt_of_le h (Nat.pow_le_pow_right (by decide) (by omega)))] at hi
    cases hi
/-- a &^ b. -/
def difN (a b : Nat) : Nat := a ^^^ (a &&& b)
theorem dif_bit (a b i : Nat) : (difN a b).testBit i = (a.testBit i && !b.testBit i) := by
  unfold difN
  rw [Nat.testBit_xor, Nat.testBit_and]
  cases a.testBit i <;> cases b.testBit i <;> rfl
theorem dif_word {a b : Nat} (ha : word a) : word (difN a b) := by
  unfold difN word at *
  exact Nat.xor_lt_two_pow (n := 64) ha (Nat.lt_of_le_of_lt Nat.and_le_left ha)
theorem subS_iff {a b : Nat} : subS a b = true ↔ ∀ i, a.testBit i = true → b.testBit i = true := by
  unfold subS
  rw [beq_iff_eq]
  constructor
  · intro h i hi
    rw [← h, Nat.testBit_and] at hi
    exact (Bool.and_eq_true_iff.1 hi).2
  · intro h
    refine Nat.eq_of_testBit_eq fun i => ?_
    rw [Nat.testBit_and]
    cases e : a.testBit i
    · rfl
    · rw [h i e]; rfl
theorem dif_zero {a b : Nat} : (difN a b == 0) = subS a b := by
  rw [Bool.eq_iff_iff, beq_iff_eq, subS_iff]
  constructor
  · intro h i hi
    have h1 := dif_bit a b i
    rw [h, Nat.zero_testBit, hi, Bool.true_and] at h1
    cases e : b.testBit i
    · rw [e] at h1; cases h1
    · rfl
  · intro h
    refine Nat.eq_of_testBit_eq fun i => ?_
    rw [dif_bit, Nat.zero_testBit]
    cases e : a.testBit i
    · rfl
    · rw [h i e]; rfl
section
theorem ofInt_u64 (a : Nat) (ha : word a) : (BitVec.ofInt 64 (a : Int)).toNat = a := by
  rw [BitVec.ofInt_natCast, BitVec.toNat_ofNat]
  exact Nat.mod_eq_of_lt (by unfold word at ha; omega)
theorem bits_andNot {a b : Nat} (ha : word a) (hb : word b) : bits .andNot .u64 (a : Int) (b : Int) = ((difN a b : Nat) : Int) := by
  show IntKind.u64.wrap ((BitVec.ofInt 64 (a : Int) &&& ~~~BitVec.ofInt 64 (b : Int)).toNat : Int) = _
  have e : (BitVec.ofInt 64 (a : Int) &&& ~~~BitVec.ofInt 64 (b : Int)).toNat = difN a b := by
    have e2 : (BitVec.ofInt 64 (a : Int) &&& ~~~BitVec.ofInt 64 (b : Int)) = BitVec.ofInt 64 (a : Int) ^^^ (BitVec.ofInt 64 (a : Int) &&& BitVec.ofInt 64 (b : Int)) := by
      apply BitVec.eq_of_getLsbD_eq
      intro i hi
      simp only [BitVec.getLsbD_and, BitVec.getLsbD_not, BitVec.getLsbD_xor, hi, decide_true, Bool.true_and]
      cases (BitVec.ofInt 64 (a : Int)).getLsbD i <;> cases (BitVec.ofInt 64 (b : Int)).getLsbD i <;> rfl
    rw [e2, BitVec.toNat_xor, BitVec.toNat_and, ofInt_u64 a ha, ofInt_u64 b hb]
    rfl
  rw [e, IntKind.wrap_u64]
  have := dif_word (b := b) ha
  unfold word at this
  omega
theorem bits_or {a b : Nat} (ha : word a) (hb : word b) : bits .or .u64 (a : Int) (b : Int) = ((a ||| b : Nat) : Int) := by
  show IntKind.u64.wrap ((BitVec.ofInt 64 (a : Int) ||| BitVec.ofInt 64 (b : Int)).toNat : Int) = _
  rw [BitVec.toNat_or, ofInt_u64 a ha, ofInt_u64 b hb, IntKind.wrap_u64]
  have : a ||| b < 2 ^ 64 := Nat.or_lt_two_pow ha hb
  omega
theorem bits_xor {a b : Nat} (ha : word a) (hb : word b) : bits .xor .u64 (a : Int) (b : Int) = ((a ^^^ b : Nat) : Int) := by
  show IntKind.u64.wrap ((BitVec.ofInt 64 (a : Int) ^^^ BitVec.ofInt 64 (b : Int)).toNat : Int) = _
  rw [BitVec.toNat_xor, ofInt_u64 a ha, ofInt_u64 b hb, IntKind.wrap_u64]
  have : a ^^^ b < 2 ^ 64 := Nat.xor_lt_two_pow ha hb
  omega
theorem bits_and {a b : Nat} (ha : word a) (hb : word b) : bits .and .u64 (a : Int) (b : Int) = ((a &&& b : Nat) : Int) := bits_and_u64_nat a b ha hb
theorem wrap_two {n : Nat} (h : n < 64) : IntKind.u64.wrap ((2 : Int) ^ n) = ((2 ^ n : Nat) : Int) := by
  have h1 : 2 ^ n < 18446744073709551616 := by
    rw [show (18446744073709551616 : Nat) = 2 ^ 64 from rfl]
    exact Nat.pow_lt_pow_right (by decide) h
  rw [show ((2 : Int) ^ n) = ((2 ^ n : Nat) : Int) by rw [Int.natCast_pow]; rfl, IntKind.wrap_u64]
  generalize 2 ^ n = m at *
  omega
theorem wrap_all {n : Nat} (h : n < 64) : IntKind.u64.wrap (IntKind.u64.wrap ((2 : Int) ^ n) - 1) = ((2 ^ n - 1 : Nat) : Int) := by
  rw [wrap_two h, IntKind.wrap_u64]
  have h1 : 0 < 2 ^ n := Nat.two_pow_pos n
  have h2 : 2 ^ n < 18446744073709551616 := by
    rw [show (18446744073709551616 : Nat) = 2 ^ 64 from rfl]
    exact Nat.pow_lt_pow_right (by decide) h
  generalize 2 ^ n = m at *
  omega
end
theorem all_bit (n i : Nat) : (2 ^ n - 1).testBit i = decide (i < n) := by
  rw [Nat.testBit_two_pow_sub_one]
theorem all_word {n : Nat} (h : n ≤ 64) : word (2 ^ n - 1) := by
  have := two64 h
  unfold word
  have : 0 < 2 ^ n := Nat.two_pow_pos n
  omega
theorem inside_all {s n : Nat} : subS s (2 ^ n - 1) = decide (s < 2 ^ n) := by
  unfold subS
  rw [Nat.and_two_pow_sub_one_eq_mod, Bool.eq_iff_iff, beq_iff_eq, decide_eq_true_iff]
  constructor
  · intro h
    rw [← h]
    exact Nat.mod_lt _ (Nat.two_pow_pos n)
  · exact Nat.mod_eq_of_lt
end Go.Proofs.YtdpblciohodgcaaDoor

/- Models read from arguments, over RdP. -/

namespace Go.Proofs.YtdpblciohodgcaaDoor
open Go.ChangeShapes Go.WideShapes Go.ChangeAt Go.RowKit Go.Deep Go.Joins

section
variable {H : Type} {enc : TypeId × Value → H} {w : World} {spare : Nat → Bool} {held : Bool}
theorem u64w_of_trod {fuel : Nat} {v : Value} {y : DataW H × List MemPlace} (h : DataW.trod enc Tryd.prog w 0 spare held fuel 25 [v] = some y) : ∃ l, U64s w v l ∧ ∀ s ∈ l, word s := by
  rcases open_ints Tryd.underlying25 Tryd.underlying56 (by kernel_rfl) h with ⟨hc, _⟩ | ⟨a, len, cap, zs, hc, _, hl, hm, hz, _, hcell, hwf⟩
  · injection hc with hc _
    subst hc
    exact ⟨[], u64s_nil w, fun s hs => by cases hs⟩
  · injection hc with hc _
    subst hc
    have hzl : len ≤ zs.length := by rw [hz]; split <;> omega
    have el : ((zs.take len).map Int.toNat).length = len := by simp; omega
    have hcl : ∀ (k z : Nat), ((zs.take len).map Int.toNat)[k]? = some z → w.cell? (a.add k) = some (.int .u64 (z : Int)) := fun k z hk => by
      rw [List.getElem?_map, List.getElem?_take] at hk
      split at hk
      · cases hq : zs[k]? with
        | none => rw [hq] at hk; cases hk
        | some q =>
          rw [hq] at hk
          obtain rfl : q.toNat = z := by simpa using hk
          have hk' := (List.getElem?_eq_some_iff.1 hq).1
          have hq0 := (u64_of_wf (hwf q (List.mem_of_getElem? hq))).1
          rw [hcell k hk', List.getD_eq_getElem?_getD, hq, Int.toNat_of_nonneg hq0]; rfl
      · cases hk
    refine ⟨_, ⟨some a, cap, by rw [el], by rw [el]; exact hl, hm, fun hne => ⟨a, rfl, ?_, hcl⟩⟩, fun s hs => ?_⟩
    · obtain ⟨z, hz0⟩ : ∃ z, ((zs.take len).map Int.toNat)[0]? = some z := by
        cases hq : (zs.take len).map Int.toNat with
        | nil => exact absurd hq hne
        | cons x t => exact ⟨x, rfl⟩
      have := World.block_lt_of_cell? w _ (hcl 0 z hz0)
      rwa [block_of_add] at this
    · obtain ⟨q, hq, rfl⟩ := List.mem_map.1 hs
      have := u64_of_wf (hwf q (List.mem_of_mem_take hq))
      show q.toNat < 18446744073709551616
      omega
theorem u64ss_of_trod {fuel : Nat} {v : Value} {y : DataW H × List MemPlace} (h : DataW.trod enc Tryd.prog w 0 spare held fuel 26 [v] = some y) : ∃ l, U64ss w v l ∧ ∀ r ∈ l, ∀ s ∈ r, word s := by
  rcases open_slice Tryd.underlying26 h with ⟨hc, _⟩ | ⟨a, len, cap, m, n, D, Pl, hc, _, hl, hm, hmm, _, hi⟩
  · injection hc with hc _
    subst hc
    exact ⟨[], ⟨none, 0, rfl, Nat.le_refl _, by unfold maxLen; omega, fun h => absurd rfl h⟩, fun r hr => by cases hr⟩
  · injection hc with hc _
    subst hc
    have hC : Tryd.prog.cellsOf 25 = 1 := by kernel_rfl
    obtain ⟨l, hlen, hp⟩ := list_of (P := fun i (r : List Nat) => ∃ u, w.cell? (a.add i) = some u ∧ U64s w u r ∧ (∀ s ∈ r, word s) ∧ a.block < w.heap.size) len (fun i hil => by
      obtain ⟨cs', hcs, ht'⟩ := hi i (by rw [hmm]; split <;> omega)
      rw [hC] at hcs
      obtain ⟨_, hcl, hat⟩ := World.cells?_some hcs
      obtain ⟨u, rfl⟩ : ∃ u, cs' = [u] := by
        cases cs' with
        | nil => simp at hcl
        | cons x t => cases t with
          | nil => exact ⟨x, rfl⟩
          | cons z t => simp at hcl
      have h0 := hat 0 (by omega)
      obtain ⟨r, hr, hw⟩ := u64w_of_trod ht'
      have hc0 : w.cell? (a.add i) = some u := by
        have : (a.add (i * 1)).add 0 = a.add i := by rw [Nat.mul_one]; unfold Addr.add; rfl
        rw [this] at h0
        simpa using h0
      refine ⟨r, u, hc0, hr, hw, ?_⟩
      have := World.block_lt_of_cell? w _ hc0
      rwa [block_of_add] at this)
    refine ⟨l, ⟨some a, cap, by rw [hlen], by rw [hlen]; exact hl, hm, fun hne => ⟨a, rfl, ?_, fun k s hk => ?_⟩⟩, fun r hr => ?_⟩
    · obtain ⟨z, hz0⟩ : ∃ z, l[0]? = some z := by
        cases hq : l with
        | nil => exact absurd hq hne
        | cons x t => exact ⟨x, rfl⟩
      obtain ⟨_, _, _, _, hb⟩ := hp 0 z hz0
      exact hb
    · obtain ⟨u, h1, h2, _⟩ := hp k s hk
      exact ⟨u, h1, h2⟩
    · obtain ⟨k, hk⟩ := List.getElem?_of_mem hr
      obtain ⟨_, _, _, hw, _⟩ := hp k r hk
      exact hw
set_option maxRecDepth 100000 in
theorem md_of_arg {r : Reach} {b0 : Nat} {v : Value} {d : DataW H} {p : List MemPlace} (hv : Value.okWide Tryd.prog w r b0 28 v) (h : DataW.Trod enc Tryd.prog w 0 spare held 28 v d p) : ∃ md, MdV w v md ∧ md.ok := by
  obtain ⟨v0, v1, v2, y0, y1, y2, n, rfl, _, _, t0, t1, t2⟩ := open_agg3 Tryd.underlying28 (by kernel_rfl) (by kernel_rfl) hv h
  obtain ⟨z, rfl, hz⟩ := int_of_trod t0
  obtain ⟨vs, hvs, hw1⟩ := u64w_of_trod t1
  obtain ⟨rs, hrs, hw2⟩ := u64ss_of_trod t2
  exact ⟨⟨z, vs, rs⟩, ⟨_, _, rfl, hvs, hrs⟩, ⟨hz, hw1, hw2⟩⟩
end
end Go.Proofs.YtdpblciohodgcaaDoor

/- models of Kripke: the plain part of the walks of checkers (split off by splitpl.py): masks, relations, groups, what is checked, what fits, what holds. -/

namespace Go.Proofs.YtdpblciohodgcaaDoor
open Go.RowKit
def allW (n : Nat) : Nat := 2 ^ n - 1
theorem allw_bit (n i : Nat) : (allW n).testBit i = decide (i < n) := all_bit n i
theorem allw_word {n : Nat} (h : n ≤ 64) : word (allW n) := all_word h
theorem out_all {s n : Nat} (hs : word s) (hn : n ≤ 64) : (bits .andNot .u64 (s : Int) ((allW n : Nat) : Int) != 0) = !decide (s < 2 ^ n) := by
  rw [bits_andNot hs (allw_word hn)]
  show (!(((difN s (allW n) : Nat) : Int) == 0)) = _
  rw [show (((difN s (allW n) : Nat) : Int) == 0) = (difN s (allW n) == 0) by rw [Bool.eq_iff_iff, beq_iff_eq, beq_iff_eq]; omega, dif_zero]
  unfold allW
  rw [inside_all]
def beyondN (l : List Nat) (n : Nat) : Bool := l.any fun s => !decide (s < 2 ^ n)
theorem beyond_hit {l : List Nat} {n k : Nat} (hk : k < l.length) (h : decide (l.getD k 0 < 2 ^ n) = false) : beyondN l n = true := by
  unfold beyondN
  rw [List.any_eq_true]
  exact ⟨l[k], List.getElem_mem hk, by rw [List.getD_eq_getElem?_getD, List.getElem?_eq_getElem hk] at h; simpa using h⟩
theorem beyond_miss {l : List Nat} {n : Nat} (h : ∀ k, k < l.length → decide (l.getD k 0 < 2 ^ n) = true) : beyondN l n = false := by
  unfold beyondN
  rw [List.any_eq_false]
  intro s hs
  obtain ⟨k, hk, e⟩ := List.getElem_of_mem hs
  have := h k hk
  rw [List.getD_eq_getElem?_getD, List.getElem?_eq_getElem hk, e] at this
  simpa using this
theorem upto2 {P : Nat → Prop} {k : Nat} (h : ∀ j, j < k → P j) (hk : P k) : ∀ j, j < k + 1 → P j := fun j hj => by
  by_cases e : j < k
  · exact h j e
  · have : j = k := by omega
    rw [this]; exact hk
def check02 (n : Int) (l : List Nat) : Int := if n < 0 ∨ 64 < n then 2 else if (l.length : Int) ≠ n then 3 else if beyondN l n.toNat then 1 else 0
def valid02 (l : List Nat) : Bool := check02 l.length l == 0
theorem valid_iff {l : List Nat} : valid02 l = true ↔ l.length ≤ 64 ∧ beyondN l l.length = false := by
  unfold valid02 check02
  by_cases h : l.length ≤ 64
  · rw [if_neg (by omega), if_neg (by simp)]
    show ((if beyondN l l.length then (1 : Int) else 0) == 0) = true ↔ _
    cases beyondN l l.length <;> simp [h]
  · rw [if_pos (by omega)]
    simp
    omega
end Go.Proofs.YtdpblciohodgcaaDoor
