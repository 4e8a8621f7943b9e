/- The loop that closes a base, step by step. -/
import Derived.Test.YtbfeodammikajaaGreatS15
import Derived.Test.YtbfeodammikajaaGreatS12
import Derived.Test.YtbfeodammikajaaGreatS09
import Derived.Deep.DeepCutAuto
import Derived.Deep.CutBlock
import Derived.Test.YtbfeodammikajaaGreatS16
import Derived.Test.YtbfeodammikajaaGreatS01
import Derived.Deep.RegionLaw

namespace Go.Proofs.YtbfeodammikajaaGreat

section
variable {t : Tr}
/-- What is unfolded in a base. -/
theorem unf_elem (h : Xf t) {u : List Nd} (hu : u ∈ (base0 (canon t)).flatMap unfsN) (hl0 : u.length ≠ 0) :
    ∃ i n a b, Xf (.two n a b) ∧ n.op = 13 ∧ i < 4 ∧ Xf (unfT i n a b) ∧ u = canon (unfT i n a b) := by
  obtain ⟨c, hcb, huc⟩ := List.mem_flatMap.1 hu
  obtain ⟨k, hk, rfl, _⟩ := h.mem_base0.1 hcb
  have hx := h.at hk
  by_cases ho : (tr (canon t) k).top.op = 13
  · obtain ⟨n, a, b, e, ho'⟩ := top_two hx ho
    rw [e] at hx huc
    obtain ⟨i, hi, hg, rfl⟩ := (unfs_mem hx ho').1 huc
    have hlen : (canon (unfT i n a b)).length ≤ 200 := by
      by_cases e2 : (canon (unfT i n a b)).length ≤ 200
      · exact e2
      · rw [short_long (by omega)] at hl0; simp at hl0
    exact ⟨i, n, a, b, hx, ho', hi, ⟨hx.xp.unf hi, hlen⟩, short_fit hlen⟩
  · rw [unfs_other hx ho] at huc; cases huc
def usK (l0 : List (List Nd)) (k : Nat) : List (List Nd) := (l0.take k).flatMap unfsN
theorem usK_sub {l0 : List (List Nd)} {k : Nat} {u : List Nd} (h : u ∈ usK l0 k) : u ∈ l0.flatMap unfsN := by
  obtain ⟨c, hc, hu⟩ := List.mem_flatMap.1 h
  exact List.mem_flatMap.2 ⟨c, List.mem_of_mem_take hc, hu⟩
theorem fold_prefix : ∀ (us l : List (List Nd)), l <+: us.foldl addF l
  | [], l => List.prefix_refl _
  | u :: r, l => by
    rw [List.foldl_cons]
    refine List.IsPrefix.trans ?_ (fold_prefix r _)
    unfold addF
    cases decide (placeN l u < 0)
    · exact List.prefix_refl _
    · exact List.prefix_append _ _
theorem fold_len (us l : List (List Nd)) : l.length ≤ (us.foldl addF l).length := (fold_prefix us l).length_le
/-- The element at hand, and what it unfolds to. -/
theorem base_step (h : Xf t) {k : Nat} {ol : List (List Nd)} {c : List Nd} (hol : ol = (usK (base0 (canon t)) k).foldl addF (base0 (canon t))) (hne : ∀ u ∈ usK (base0 (canon t)) k, u.length ≠ 0) (hc : ol[k]? = some c) :
    usK (base0 (canon t)) (k + 1) = usK (base0 (canon t)) k ++ unfsN c ∧ ∃ s, Xf s ∧ c = canon s := by
  generalize hl0 : base0 (canon t) = l0 at hol hne ⊢
  by_cases hk : k < l0.length
  · have hp : l0 <+: ol := hol ▸ fold_prefix _ _
    have hc0 : l0[k]? = some c := by
      obtain ⟨r, rfl⟩ := hp
      rw [List.getElem?_append_left hk] at hc
      exact hc
    refine ⟨?_, ?_⟩
    · unfold usK
      obtain ⟨hk', e⟩ := List.getElem?_eq_some_iff.1 hc0
      rw [List.take_succ_eq_append_getElem hk', e, List.flatMap_append]
      simp
    · have hm : c ∈ base0 (canon t) := hl0 ▸ List.mem_of_getElem? hc0
      obtain ⟨i, hi, rfl, _⟩ := h.mem_base0.1 hm
      exact ⟨_, h.at hi, rfl⟩
  · have e : usK l0 (k + 1) = usK l0 k := by
      unfold usK
      rw [List.take_of_length_le (by omega), List.take_of_length_le (by omega)]
    have hm : c ∈ ol := List.mem_of_getElem? hc
    rw [hol, fold_mem] at hm
    rcases hm with hm | hm
    · have hm' : c ∈ base0 (canon t) := hl0 ▸ hm
      obtain ⟨i, hi, rfl, hb⟩ := h.mem_base0.1 hm'
      -- an element of the first list stands at a place of it; at this place stands a new one: its last node is Know
      have hgt : (ol.drop l0.length)[k - l0.length]? = some (canon (tr (canon t) i)) := by rw [List.getElem?_drop]; rw [← hc]; congr 1; omega
      have hnd : ol.Nodup := by rw [hol, ← hl0]; exact fold_nodup _ _ h.base0_nodup
      have hp : l0 <+: ol := hol ▸ fold_prefix _ _
      obtain ⟨r, hr⟩ := hp
      rw [← hr] at hgt hnd
      rw [List.drop_left] at hgt
      have := (List.nodup_append.1 hnd).2.2 _ hm _ (List.mem_of_getElem? hgt)
      exact absurd rfl this
    · have hu := hne c hm
      obtain ⟨i, n, a, b, _, _, _, hX, rfl⟩ := unf_elem h (hl0 ▸ usK_sub hm) hu
      exact ⟨by rw [e, unfs_other hX (by show (9 : Int) ≠ 13; decide), List.append_nil], _, hX, rfl⟩
theorem usK_all {l0 : List (List Nd)} {k : Nat} (h : l0.length ≤ k) : usK l0 k = l0.flatMap unfsN := by
  unfold usK
  rw [List.take_of_length_le h]
/-- A step that fails. -/
theorem base_bad {l0 : List (List Nd)} {k : Nat} {u : List Nd} (h : u ∈ usK l0 k) (hl : u.length = 0) : (l0.flatMap unfsN).any (fun u => decide (u.length = 0)) = true := by
  rw [List.any_eq_true]
  exact ⟨u, usK_sub h, by simp [hl]⟩
theorem usK_prefix (l0 : List (List Nd)) (k : Nat) : ∃ r, l0.flatMap unfsN = usK l0 k ++ r := by
  refine ⟨(l0.drop k).flatMap unfsN, ?_⟩
  unfold usK
  rw [← List.flatMap_append, List.take_append_drop]
theorem base_long {l0 : List (List Nd)} {k : Nat} (h : 12 < ((usK l0 k).foldl addF l0).length) : 12 < ((l0.flatMap unfsN).foldl addF l0).length := by
  obtain ⟨r, e⟩ := usK_prefix l0 k
  rw [e, List.foldl_append]
  exact Nat.lt_of_lt_of_le h (fold_len r _)
theorem baseOf_bad {g : List Nd} (h : ((base0 g).flatMap unfsN).any (fun u => decide (u.length = 0)) = true ∨ 12 < (((base0 g).flatMap unfsN).foldl addF (base0 g)).length) : baseOfN g = ([], 8) := by
  unfold baseOfN
  rcases h with h | h
  · rw [h]; rfl
  · rw [decide_eq_true h, Bool.or_true]; rfl
theorem baseOf_good {g : List Nd} (h : ∀ u ∈ (base0 g).flatMap unfsN, u.length ≠ 0) (hl : (((base0 g).flatMap unfsN).foldl addF (base0 g)).length ≤ 12) : baseOfN g = (((base0 g).flatMap unfsN).foldl addF (base0 g), 0) := by
  unfold baseOfN
  have e : ((base0 g).flatMap unfsN).any (fun u => decide (u.length = 0)) = false := by
    rw [List.any_eq_false]
    intro u hu
    simp [h u hu]
  rw [e, decide_eq_false (by omega)]
  rfl
end
/-- The agents up to one. -/
def unfQ (c : List Nd) (q : Nat) : List (List Nd) := bif (lastN c).op == 13 then ((List.range q).filter fun i => gbit (lastN c).g i).map fun i => unfN i c else []
theorem unfQ_zero (c : List Nd) : unfQ c 0 = [] := by
  unfold unfQ
  cases (lastN c).op == 13 <;> rfl
theorem unfQ_four (c : List Nd) : unfQ c 4 = unfsN c := rfl
theorem unfQ_no {c : List Nd} {q : Nat} (h : ((lastN c).op == 13 && gbit (lastN c).g q) = false) : unfQ c (q + 1) = unfQ c q := by
  unfold unfQ
  cases h1 : (lastN c).op == 13
  · rfl
  · rw [h1] at h
    have h2 : gbit (lastN c).g q = false := h
    simp only [cond_true]
    rw [List.range_succ, List.filter_append, List.map_append, List.filter_cons, h2]
    simp
theorem unfQ_yes {c : List Nd} {q : Nat} (h1 : ((lastN c).op == 13) = true) (h2 : gbit (lastN c).g q = true) : unfQ c (q + 1) = unfQ c q ++ [unfN q c] := by
  unfold unfQ
  rw [h1]
  simp only [cond_true]
  rw [List.range_succ, List.filter_append, List.map_append, List.filter_cons, h2]
  simp
theorem unfQ_sub {c u : List Nd} {q : Nat} (hq : q ≤ 4) (h : u ∈ unfQ c q) : u ∈ unfsN c := by
  rw [← unfQ_four]
  unfold unfQ at h ⊢
  cases h1 : (lastN c).op == 13
  · rw [h1] at h; cases h
  · rw [h1] at h
    simp only [cond_true, List.mem_map, List.mem_filter, List.mem_range] at h ⊢
    obtain ⟨i, ⟨a, b⟩, e⟩ := h
    exact ⟨i, ⟨by omega, b⟩, e⟩
end Go.Proofs.YtbfeodammikajaaGreat

/- types' baseOf: the walk. -/

namespace Go.Proofs.YtbfeodammikajaaGreat
open Go.RowKit

/-- The row's block lies from a bound on. -/
def From (m : Nat) (v : Value) : Prop := ∀ g, v.ownBlock = some g → m ≤ g
theorem From.next {m N : Nat} {v v' : Value} (h : From m v) (hm : m ≤ N) (hat : v'.ownBlock = v.ownBlock ∨ v'.ownBlock = some N) : From m v' := fun g hg => by
  rcases hat with e | e
  · exact h g (e ▸ hg)
  · rw [e] at hg; injection hg with hg; omega
/-- A value that lies ahead of the row. -/
theorem away_of {m B : Nat} {w W : World} {vo x : Value} (hx : ∀ g, x.ownBlock = some g → g < w.heap.size ∧ m ≤ g) (hB : w.heap.size ≤ B) (hv : From B vo) (he : w.heap.size ≤ W.heap.size) : Away m W vo x := fun g hg => by
  obtain ⟨h1, h2⟩ := hx g hg
  exact ⟨by omega, fun e => by have := hv g e; omega, h2⟩
theorem unfS_unfN {c : List Nd} (h : (lastN c).op = 13) (q : Nat) : unfS (q : Int) c = unfN q c := by
  unfold unfS unfN topA topB
  rw [h]
  rfl
theorem filt_step {l : List (List Nd)} {k : Nat} {s : List Nd} (h : l[k]? = some s) : (l.take (k + 1)).filter (fun s => isBase (lastN s)) = (l.take k).filter (fun s => isBase (lastN s)) ++ (bif isBase (lastN s) then [s] else []) := by
  rw [take_succ_eq h, List.filter_append, List.filter_cons]
  cases isBase (lastN s) <;> rfl
def BaseRes (wi : World) (r : List (List Nd) × Int) (e : Ending) (w' : World) : Prop := ∃ u, e = .returned (.tuple #[u, .int .i64 r.2]) ∧ Ext wi w' ∧ FRow wi w' u r.1
set_option maxRecDepth 100000 in
set_option maxHeartbeats 16000000 in
theorem baseOf_any (v : Value) (t : Tr) (w : World) (ht : Xf t) (h : Fml w v (canon t)) :
    Calls Tryz.prog 65 #[v] w (BaseRes w (baseOfN (canon t))) := by
  have H := Lib.hid h
  have HT := Lib.hid ht
  obtain ⟨iI, hiI, hzI0, hzI1, hzI2⟩ := info_parts tInfoF2
  obtain ⟨A, c, rfl, _⟩ := fml_slice h
  obtain ⟨sl, hsl⟩ : ∃ b, b = subsN (canon t) := ⟨_, rfl⟩
  have hsl200 : sl.length ≤ 200 := by rw [hsl, ht.subs]; simpa using ht.len
  have HSL := Lib.hid hsl
  have HSX := Lib.hid (show ∀ s ∈ sl, ∃ u, Xf u ∧ s = canon u by
    rw [hsl, ht.subs]
    intro s hs
    obtain ⟨i, hi, rfl⟩ := List.mem_map.1 hs
    exact ⟨_, ht.at (List.mem_range.1 hi), rfl⟩)
  clear h ht hsl
  go_enter Tryz.func65, Tryz.ntmps65
  go_wp2_with fail
  refine (subs_any _ (canon t) _ H.out HT.out.check).mono ?_
  rintro e w1 ⟨uc, rfl, hm0⟩
  rw [← HSL.out] at hm0
  have HM0 := Lib.hid hm0
  obtain ⟨As, cs, rfl, hcap, hmax, hread⟩ := hm0.fmls
  have HREAD := Lib.hid hread
  unfold maxLen at hmax
  have HUS0 := Lib.hid hm0.row
  clear hm0 hread
  go_wp2_with fail
  go_loopw [4, 19] (fun vo vi wr => ∃ k : Nat, vi = .int .i64 (k : Int) ∧ k ≤ sl.length ∧ Hid (∃ ol, ol = (sl.take k).filter (fun s => isBase (lastN s)) ∧ FRow w wr vo ol ∧ Ext w1 wr ∧ From w1.heap.size vo)) (fun _ v _ => sl.length - (intOf v).toNat)
  case atStart => exact ⟨0, rfl, Nat.zero_le _, Lib.hid ⟨[], rfl, (FRow.nil _).before HM0.out.ext, Ext.refl _, fun g hg => by cases hg⟩⟩
  case round =>
    obtain ⟨k, rfl, hk, HREL⟩ := hrel
    obtain ⟨ol, hol, hfr, hx, hfm⟩ := HREL.out
    obtain ⟨us, hrow, hus⟩ := hfr.row
    obtain ⟨Ao, co, rfl⟩ := slice_of_row hrow
    have HOL := Lib.hid hol
    have HFR := Lib.hid hfr
    have HROW := Lib.hid hrow
    have HUS := Lib.hid hus
    have HX := Lib.hid hx
    have HFM := Lib.hid hfm
    have hol2 : ol.length ≤ 200 := by
      rw [hol]
      refine Nat.le_trans (List.length_filter_le _ _) ?_
      rw [List.length_take]
      omega
    clear HREL hol hfr hrow hus hx hfm
    by_cases hlt2 : k < sl.length
    · have hk1 : (k : Int) < (sl.length : Int) := by omega
      obtain ⟨s, hs⟩ : ∃ s, sl[k]? = some s := ⟨_, List.getElem?_eq_getElem hlt2⟩
      obtain ⟨ad, rfl, hblk, hcells⟩ := HREAD.out (by intro e; rw [e] at hlt2; simp at hlt2)
      obtain ⟨u, hu, hf⟩ := hcells k s hs
      have a0 := (HX.out.cell (p := ad.add k) (by rw [block_of_add]; exact hblk)).trans hu
      have hblk2 : (ad.add k).block < wr.heap.size := by rw [block_of_add]; exact Nat.lt_of_lt_of_le hblk HX.out.size
      have HF := Lib.hid (hf.ext HX.out)
      have HS := Lib.hid hs
      obtain ⟨su, hsu, hse⟩ := HSX.out s (List.mem_of_getElem? hs)
      have hs0 : 0 < s.length := by rw [hse]; exact canon_pos hsu.xp.1.1
      obtain ⟨Au, cu, rfl, _⟩ := fml_slice hf
      have HAW := Lib.hid (show ∀ g, (Value.slice Au s.length cu).ownBlock = some g → g < w1.heap.size ∧ w.heap.size ≤ g by
        obtain ⟨us0, hr0, hu0⟩ := HUS0.out
        obtain ⟨u', hu', _, haw⟩ := hu0 k s hs
        have h0 : 0 < sl.length := by omega
        obtain ⟨g', cap', e', _, _, _, hc'⟩ := row1_cellsF hr0 h0
        injection e' with e1 _ _
        injection e1 with e1
        subst e1
        have hcell := hc' k u' hu'
        rw [show ((⟨g', 0, none⟩ : Addr).add k) = ⟨g', k, none⟩ from addr_zero g' k] at hu
        rw [hcell] at hu
        injection hu with hu
        subst hu
        exact fun g hg => ⟨(haw g hg).1, (haw g hg).2.2⟩)
      clear hs hcells hf hu hsu hse
      obtain ⟨wq, hwq⟩ : ∃ v, v = wr := ⟨_, rfl⟩
      subst hwq
      go_wp2_with fail
      refine (top_any _ s _ HF.out hs0).mono ?_
      rintro e w2 ⟨u1, u2, rfl, hx2, hf1, hf2⟩
      have HX2 := Lib.hid hx2
      obtain ⟨n, hn⟩ : ∃ n, n = lastN s := ⟨_, rfl⟩
      rw [← hn]
      have HN := Lib.hid hn
      unfold Nd.val
      obtain ⟨A1, c1, rfl, _⟩ := fml_slice hf1
      obtain ⟨A2, c2, rfl, _⟩ := fml_slice hf2
      clear hx2 hf1 hf2 hn
      have HXW := Lib.hid (show Ext wq (w2.alloc (.cells #[.int .i64 n.op, .int .i64 n.i, .int .i64 n.e, .int .i64 n.g, .int .i64 n.x, .int .i64 n.y] 93)) from HX2.out.alloc _)
      have HSTEP := Lib.hid (filt_step HS.out)
      rw [← HN.out, ← HOL.out] at HSTEP
      rcases base_cases n with hop | ⟨t3, t9, t13⟩
      · have hb := Lib.hid (show isBase n = true by unfold isBase; rcases hop with e | e | e <;> rw [e] <;> rfl)
        have hc3 : ol.length + 1 ≤ maxLen := by unfold maxLen; omega
        have hc4 : (ol.length + 1) * 24 ≤ 140737488355328 := by omega
        have HTT := Lib.hid (show ((n.op == 3) = true) ∨ ((n.op == 3) = false ∧ (n.op == 9) = true) ∨ ((n.op == 3) = false ∧ (n.op == 9) = false ∧ (n.op == 13) = true) by rcases hop with e | e | e <;> rw [e] <;> simp)
        clear hop
        rcases HTT.out with t3 | ⟨t3, t9⟩ | ⟨t3, t9, t13⟩
        all_goals
          go_wp2_with (at_builtin; refine wpList_append_own_at _ rfl _ _ 49 rfl w.heap.size 22 iI (.slice none 0 0) 1 24 Tryz.underlying49 hiI hzI0 hzI1 hzI2 rfl (by decide) _ ol.length us rfl (row_ext HROW.out (HXW.out.alloc _)) ⟨_, 0, none⟩ 1 1 [.slice Au s.length cu] rfl rfl (row_new_at _ _ _ (by simp)) (fun u hu => by rw [List.mem_singleton.1 hu]; rfl) hc3 hc4 (Nat.le_trans HFR.out.ext.size (HXW.out.alloc _).size) ?_)
          intro v7 w7 hown7 hgrow7 _ hat7
          have HFM7 := Lib.hid (HFM.out.next (by have := HX.out.size; have := HXW.out.size; simp at this; omega) hat7)
          have HX7 := Lib.hid (Ext.grown (HX.out.trans (HXW.out.alloc (.cells #[.slice Au s.length cu] 22))) hgrow7 HFM.out)
          have HPS := Lib.hid (FRow.push (s := s) ((HFR.out.ext.trans HXW.out).alloc _) (row_ext HROW.out (HXW.out.alloc _)) (fun k s hk => by
            obtain ⟨u, a, b, c⟩ := HUS.out k s hk
            exact ⟨u, a, b.ext (HXW.out.alloc _), c.ext (HXW.out.alloc _)⟩) hown7 hgrow7 (hat7.imp id (fun e => e.trans (by simp))) (HF.out.ext (HXW.out.alloc _)) (away_of HAW.out (Nat.le_refl _) HFM.out (Nat.le_trans HX.out.size (HXW.out.alloc _).size)))
          obtain ⟨A7, c7, rfl⟩ := slice_of_row hown7
          clear hown7 hgrow7 hat7
          go_wp2_with fail
          go_roundw
          case rel => exact ⟨k + 1, by go_num, by omega, Lib.hid ⟨_, by rw [HSTEP.out, hb.out]; rfl, HPS.out, HX7.out, HFM7.out⟩⟩
          case measure => simp [intOf]; omega
      · have hb := Lib.hid (show isBase n = false by unfold isBase; rw [t3, t9, t13]; rfl)
        go_wp2_with fail
        go_roundw
        case rel => exact ⟨k + 1, by go_num, by omega, Lib.hid ⟨_, by rw [HSTEP.out, hb.out]; exact (List.append_nil _).symm, HFR.out.ext_ HXW.out, HX.out.trans HXW.out, HFM.out⟩⟩
        case measure => simp [intOf]; omega
    · obtain rfl : sl.length = k := by omega
      obtain ⟨l0, hl0⟩ : ∃ l, l = base0 (canon t) := ⟨_, rfl⟩
      have HL0 := Lib.hid hl0
      have HOL0 := Lib.hid (show ol = l0 by rw [HOL.out, hl0, List.take_of_length_le (Nat.le_refl _), HSL.out]; rfl)
      clear hl0
      go_wp2_with fail
      go_loopw [4, 10] (fun vo vi wr => ∃ k : Nat, vi = .int .i64 (k : Int) ∧ k ≤ 12 ∧ Hid (∃ ol, ol = (usK l0 k).foldl addF l0 ∧ (∀ u ∈ usK l0 k, u.length ≠ 0) ∧ k ≤ ol.length ∧ ol.length ≤ 216 ∧ FRow w wr vo ol)) (fun _ v _ => 13 - (intOf v).toNat)
      case atStart => exact ⟨0, rfl, Nat.zero_le _, Lib.hid ⟨ol, HOL0.out, (fun u hu => by cases hu), Nat.zero_le _, by omega, HFR.out⟩⟩
      case round =>
        clear HOL HFR HROW HUS HX HFM HOL0 hol2
        obtain ⟨k, rfl, hk, HREL⟩ := hrel
        obtain ⟨ol, hol, hne, hkl, hol2, hfr⟩ := HREL.out
        have HOL := Lib.hid hol
        have HNE := Lib.hid hne
        have HFR := Lib.hid hfr
        obtain ⟨Ao, co, rfl⟩ := slice_of_row hfr.row.choose_spec.1
        clear HREL hol hne hfr
        by_cases hlt2 : k < ol.length
        · have hk1 : (k : Int) < (ol.length : Int) := by omega
          by_cases h12 : 12 < ol.length
          · have h12i : (12 : Int) < (ol.length : Int) := by omega
            have HB := Lib.hid (show baseOfN (canon t) = ([], 8) from baseOf_bad (.inr (by rw [← HL0.out]; exact base_long (k := k) (by rw [← HOL.out]; exact h12))))
            go_wp2_with fail
            go_ret2
            exact ⟨.slice none 0 0, by rw [HB.out] <;> rfl, HFR.out.ext, by rw [HB.out]; exact (FRow.nil _).before HFR.out.ext⟩
          · have h12i : (ol.length : Int) ≤ 12 := by omega
            obtain ⟨s, hs⟩ : ∃ s, ol[k]? = some s := ⟨_, List.getElem?_eq_getElem hlt2⟩
            obtain ⟨g0, cap0, hsl, hs1, hs2⟩ := HFR.out.slice (by omega)
            injection hsl with hsl1 _ hsl2
            subst hsl1 hsl2
            unfold maxLen at hs2
            obtain ⟨u, hu, hf, hgl⟩ := HFR.out.get hs
            have HF := Lib.hid hf
            have HBS := Lib.hid (base_step HT.out (k := k) (ol := ol) (c := s) (by rw [← HL0.out]; exact HOL.out) (by rw [← HL0.out]; exact HNE.out) hs)
            have HS := Lib.hid hs
            obtain ⟨su, hsu, hse⟩ := HBS.out.2
            have hs0 : 0 < s.length := by rw [hse]; exact canon_pos hsu.xp.1.1
            have HHD := Lib.hid (show headOk (lastN s) by
              have hck := hsu.check
              rw [← hse] at hck
              exact heads_of hck _ (List.mem_of_getElem? (lastN_get hs0)))
            obtain ⟨Au, cu, rfl, _⟩ := fml_slice hf
            clear hs hf hsu hse
            obtain ⟨wq, hwq⟩ : ∃ v, v = wr := ⟨_, rfl⟩
            subst hwq
            go_wp2_with fail
            refine (top_any _ s _ HF.out hs0).mono ?_
            rintro e w2 ⟨u1, u2, rfl, hx2, hf1, hf2⟩
            have HX2 := Lib.hid hx2
            obtain ⟨n, hn⟩ : ∃ n, n = lastN s := ⟨_, rfl⟩
            rw [← hn]
            have HN := Lib.hid hn
            unfold Nd.val
            obtain ⟨A1, c1, rfl, _⟩ := fml_slice hf1
            obtain ⟨A2, c2, rfl, _⟩ := fml_slice hf2
            clear hx2 hf1 hf2 hn
            go_wp2_with fail
            have hg2 : g0 < w2.heap.size := Nat.lt_of_lt_of_le hgl HX2.out.size
            obtain ⟨W0, hW0⟩ : ∃ v, v = w2.alloc (.cells #[.int .i64 n.op, .int .i64 n.i, .int .i64 n.e, .int .i64 n.g, .int .i64 n.x, .int .i64 n.y] 93) := ⟨_, rfl⟩
            have HBOX := Lib.hid (show W0.heap[w2.heap.size]? = some (.cells #[.int .i64 n.op, .int .i64 n.i, .int .i64 n.e, .int .i64 n.g, .int .i64 n.x, .int .i64 n.y] 93 (0, 0)) by rw [hW0]; exact heap_alloc_new _ _)
            have HXW := Lib.hid (show Ext wq W0 by rw [hW0]; exact HX2.out.alloc _)
            rw [← hW0]
            clear hW0
            by_cases hop : n.op = 13
            · have hgr := group_of (by rw [HN.out]; exact HHD.out) (.inr hop)
              obtain ⟨gn, hgn⟩ := Int.eq_ofNat_of_zero_le hgr.1
              have hg16 : gn < 16 := by omega
              have HGN := Lib.hid hgn
              have hb13 : (n.op != 13) = false := by rw [hop]; rfl
              have HOP := Lib.hid (show (lastN s).op = 13 by rw [← HN.out]; exact hop)
              rw [hgn] at HBOX
              clear hgr hgn hop
              go_loopw [4, 65] (fun vo vi wr => ∃ q : Nat, vi = .int .i64 (q : Int) ∧ q ≤ 4 ∧ Hid (∃ ol2, ol2 = (unfQ s q).foldl addF ol ∧ (∀ u ∈ unfQ s q, u.length ≠ 0) ∧ ol2.length ≤ ol.length + q ∧ FRow w wr vo ol2 ∧ Ext w wr ∧ wr.heap[w2.heap.size]? = some (.cells #[.int .i64 n.op, .int .i64 n.i, .int .i64 n.e, .int .i64 (gn : Int), .int .i64 n.x, .int .i64 n.y] 93 (0, 0)) ∧ vo.ownBlock ≠ some w2.heap.size)) (fun _ v _ => 4 - (intOf v).toNat)
              case atStart => exact ⟨0, rfl, Nat.zero_le _, Lib.hid ⟨ol, by rw [unfQ_zero]; rfl, (by intro u hu; rw [unfQ_zero] at hu; cases hu), Nat.le_refl _, HFR.out.ext_ HXW.out, HFR.out.ext.trans HXW.out, HBOX.out, (fun e => by injection e with e; simp at e; omega)⟩⟩
              case round =>
                obtain ⟨q, rfl, hq, HREL2⟩ := hrel
                obtain ⟨ol2, hol2', hne2, hlen2, hfr2, hx2', hbox2, hnb2⟩ := HREL2.out
                obtain ⟨us2, hrow2, hus2⟩ := hfr2.row
                have HOL2 := Lib.hid hol2'
                have HNE2 := Lib.hid hne2
                have HFR2 := Lib.hid hfr2
                have HROW2 := Lib.hid hrow2
                have HUS2 := Lib.hid hus2
                have HBOX2 := Lib.hid hbox2
                have HNB2 := Lib.hid hnb2
                have HPF := Lib.hid (show ol <+: ol2 by rw [hol2']; exact fold_prefix _ _)
                have hlt3 : k < ol2.length := Nat.lt_of_lt_of_le hlt2 HPF.out.length_le
                have HS2 := Lib.hid (show ol2[k]? = some s by
                  obtain ⟨r, hr⟩ := HPF.out
                  rw [← hr, List.getElem?_append_left hlt2]; exact HS.out)
                obtain ⟨g2, cap2, hsl2, hs12, hs22⟩ := HFR2.out.slice (by omega)
                subst hsl2
                unfold maxLen at hs22
                obtain ⟨uu, huu, hff, hgl2⟩ := HFR2.out.get HS2.out
                have HFF := Lib.hid hff
                obtain ⟨Au2, cu2, rfl, _⟩ := fml_slice hff
                obtain ⟨⟨q0, q1, q2, q3, q4, q5⟩, _, qb⟩ := cells6 hbox2
                clear HREL2 hol2' hne2 hfr2 hrow2 hus2 hbox2 hnb2 hff hx2'
                have hk3 : (k : Int) < (ol2.length : Int) := by omega
                by_cases hq4 : q < 4
                · have hq1 : (q : Int) < 4 := by omega
                  have hbt := shr_and_zero_i gn q (by omega)
                  cases hgb : gn.testBit q
                  case false =>
                    rw [hgb] at hbt
                    simp only [Bool.not_false] at hbt
                    have HQ := Lib.hid (unfQ_no (c := s) (q := q) (by rw [← HN.out, HGN.out, show gbit (gn : Int) q = false from hgb, Bool.and_false]))
                    clear hgb
                    go_wp2_with fail
                    go_roundw
                    case rel => exact ⟨q + 1, by go_num, by omega, Lib.hid ⟨ol2, by rw [HQ.out]; exact HOL2.out, by rw [HQ.out]; exact HNE2.out, by omega, HFR2.out, HFR2.out.ext, HBOX2.out, HNB2.out⟩⟩
                    case measure => simp [intOf]; omega
                  case true =>
                    rw [hgb] at hbt
                    simp only [Bool.not_true] at hbt
                    have HQ := Lib.hid (unfQ_yes (c := s) (q := q) (by rw [HOP.out]; rfl) (by rw [← HN.out, HGN.out]; exact hgb))
                    have HUN := Lib.hid (unfS_unfN HOP.out q)
                    clear hgb
                    go_wp2_with fail
                    refine (unfolded_any (q : Int) ⟨by omega, by omega⟩ _ s _ HFF.out hs0).mono ?_
                    rintro e w3 ⟨u3, rfl, hm3⟩
                    rw [HUN.out] at hm3
                    have HM3 := Lib.hid hm3
                    obtain ⟨A3, c3, rfl, _⟩ := fml_slice hm3.fml
                    clear hm3
                    by_cases hz : (unfN q s).length = 0
                    · have hzb : (((unfN q s).length : Int) == 0) = true := by rw [hz]; rfl
                      have HB := Lib.hid (show baseOfN (canon t) = ([], 8) from baseOf_bad (.inl (by
                        rw [← HL0.out]
                        refine base_bad (k := k + 1) (u := unfN q s) ?_ hz
                        rw [HL0.out, HBS.out.1]
                        refine List.mem_append_right _ (unfQ_sub (q := q + 1) (by omega) ?_)
                        rw [HQ.out]
                        simp)))
                      generalize (unfN q s).length = m8 at hz hzb
                      clear hz
                      go_wp2_with fail
                      go_ret2
                      exact ⟨.slice none 0 0, by rw [HB.out] <;> rfl, HFR2.out.ext.trans HM3.out.ext, by rw [HB.out]; exact (FRow.nil _).before (HFR2.out.ext.trans HM3.out.ext)⟩
                    · have hzb : (((unfN q s).length : Int) == 0) = false := by rw [beq_eq_false_iff_ne]; omega
                      have HZ := Lib.hid hz
                      have HNE3 := Lib.hid (show ∀ u ∈ unfQ s (q + 1), u.length ≠ 0 by
                        rw [HQ.out]
                        intro u hu
                        rcases List.mem_append.1 hu with hu | hu
                        · exact HNE2.out u hu
                        · rw [List.mem_singleton.1 hu]; exact hz)
                      have HOL3 := Lib.hid (show addF ol2 (unfN q s) = (unfQ s (q + 1)).foldl addF ol by rw [HQ.out, List.foldl_append, ← HOL2.out]; rfl)
                      clear hz
                      generalize unfN q s = g8 at HM3 hzb HOL3
                      go_wp2_with fail
                      refine (index_any _ _ ol2 g8 _ (HFR2.out.fmls.ext HM3.out.ext) HM3.out.fml).mono ?_
                      rintro e w4 ⟨rfl, hx4⟩
                      have HX4 := Lib.hid (HM3.out.ext.trans hx4)
                      have HX34 := Lib.hid hx4
                      clear hx4
                      by_cases hp : placeN ol2 g8 < 0
                      · have HAD := Lib.hid (show addF ol2 g8 = ol2 ++ [g8] by unfold addF; rw [decide_eq_true hp]; rfl)
                        generalize placeN ol2 g8 = pz at hp
                        have hc3 : ol2.length + 1 ≤ maxLen := by unfold maxLen; omega
                        have hc4 : (ol2.length + 1) * 24 ≤ 140737488355328 := by omega
                        go_wp2_with (at_builtin; refine wpList_append_own_at _ rfl _ _ 49 rfl w.heap.size 22 iI (.slice none 0 0) 1 24 Tryz.underlying49 hiI hzI0 hzI1 hzI2 rfl (by decide) _ ol2.length us2 rfl (row_ext HROW2.out (HX4.out.alloc _)) ⟨_, 0, none⟩ 1 1 [.slice A3 g8.length c3] rfl rfl (row_new_at _ _ _ (by simp)) (fun u hu => by rw [List.mem_singleton.1 hu]; rfl) hc3 hc4 (Nat.le_trans HFR2.out.ext.size (HX4.out.alloc _).size) ?_)
                        intro v7 w7 hown7 hgrow7 _ hat7
                        have HBOX7 := Lib.hid (show w7.heap[w2.heap.size]? = some (.cells #[.int .i64 n.op, .int .i64 n.i, .int .i64 n.e, .int .i64 (gn : Int), .int .i64 n.x, .int .i64 n.y] 93 (0, 0)) from (hgrow7.block _ (Nat.lt_of_lt_of_le qb (HX4.out.alloc _).size) (fun e => HNB2.out e.symm)).trans (((HX4.out.alloc _).block qb).trans HBOX2.out))
                        have HNB7 := Lib.hid (show v7.ownBlock ≠ some w2.heap.size from fun e => by
                          rcases hat7 with e1 | e1
                          · exact HNB2.out (e1 ▸ e)
                          · rw [e1] at e; injection e with e; have := (HX4.out).size; omega)
                        have HPS := Lib.hid (FRow.push (s := g8) ((HFR2.out.ext.trans HX4.out).alloc _) (row_ext HROW2.out (HX4.out.alloc _)) (fun k s hk => by
                          obtain ⟨u, a, b, c⟩ := HUS2.out k s hk
                          exact ⟨u, a, b.ext (HX4.out.alloc _), c.ext (HX4.out.alloc _)⟩) hown7 hgrow7 (hat7.imp id (fun e => e.trans (by simp))) (HM3.out.fml.ext (HX34.out.alloc _)) (made_away (Nat.le_refl _) (row_ext HM3.out.1 (HX34.out.alloc _)) HROW2.out HFR2.out.ext.size))
                        obtain ⟨A7, c7, rfl⟩ := slice_of_row hown7
                        clear hown7 hgrow7 hat7
                        go_wp2_with fail
                        go_roundw
                        case rel => exact ⟨q + 1, by go_num, by omega, Lib.hid ⟨_, by rw [← HOL3.out, HAD.out], HNE3.out, by rw [List.length_append, List.length_singleton]; omega, HPS.out, HPS.out.ext, HBOX7.out, HNB7.out⟩⟩
                        case measure => simp [intOf]; omega
                      · have HAD := Lib.hid (show addF ol2 g8 = ol2 by unfold addF; rw [decide_eq_false hp]; rfl)
                        generalize placeN ol2 g8 = pz at hp
                        go_wp2_with fail
                        go_roundw
                        case rel => exact ⟨q + 1, by go_num, by omega, Lib.hid ⟨ol2, by rw [← HOL3.out, HAD.out], HNE3.out, by omega, HFR2.out.ext_ HX4.out, HFR2.out.ext.trans HX4.out, (HX4.out.block qb).trans HBOX2.out, HNB2.out⟩⟩
                        case measure => simp [intOf]; omega
                · obtain rfl : 4 = q := by omega
                  go_wp2_with fail
                  go_roundw
                  case rel => exact ⟨k + 1, by go_num, by omega, Lib.hid ⟨ol2, by rw [HL0.out, HBS.out.1, List.foldl_append, ← HL0.out, ← HOL.out, ← unfQ_four]; exact HOL2.out, (by
                    rw [HL0.out, HBS.out.1]
                    intro u hu
                    rcases List.mem_append.1 hu with hu | hu
                    · exact HNE.out u (by rw [HL0.out]; exact hu)
                    · exact HNE2.out u (by rw [unfQ_four]; exact hu)), by omega, by omega, HFR2.out⟩⟩
                  case measure => simp [intOf]; omega
            · have hb13 : (n.op != 13) = true := by simpa using hop
              have HUE := Lib.hid (show unfsN s = [] by unfold unfsN; rw [← HN.out, show (n.op == 13) = false by simpa using hop]; rfl)
              obtain ⟨⟨q0, q1, q2, q3, q4, q5⟩, _, qb⟩ := cells6 HBOX.out
              clear hop
              go_loopw [4, 65] (fun vo vi wr => ∃ q : Nat, vi = .int .i64 (q : Int) ∧ q ≤ 4 ∧ vo = .slice (some ⟨g0, 0, none⟩) ol.length co ∧ wr = W0) (fun _ v _ => 4 - (intOf v).toNat)
              case atStart => exact ⟨0, rfl, Nat.zero_le _, rfl, rfl⟩
              case round =>
                obtain ⟨q, rfl, hq, rfl, rfl⟩ := hrel
                by_cases hq4 : q < 4
                · have hq1 : (q : Int) < 4 := by omega
                  go_wp2_with fail
                  go_roundw
                  case rel => exact ⟨q + 1, by go_num, by omega, by first | rfl | trivial, by first | rfl | trivial⟩
                  case measure => simp [intOf]; omega
                · obtain rfl : 4 = q := by omega
                  go_wp2_with fail
                  go_roundw
                  case rel => exact ⟨k + 1, by go_num, by omega, Lib.hid ⟨ol, by rw [HL0.out, HBS.out.1, HUE.out, List.append_nil, ← HL0.out]; exact HOL.out, (by
                    rw [HL0.out, HBS.out.1, HUE.out, List.append_nil, ← HL0.out]; exact HNE.out), by omega, by omega, HFR.out.ext_ HXW.out⟩⟩
                  case measure => simp [intOf]; omega
        · obtain rfl : ol.length = k := by omega
          have HB := Lib.hid (show baseOfN (canon t) = (ol, 0) by
            have hl : l0.length ≤ ol.length := by rw [HOL.out]; exact fold_len _ _
            have hus := usK_all (l0 := l0) (k := ol.length) hl
            have h1 := HOL.out
            rw [hus] at h1
            rw [baseOf_good, ← HL0.out, ← h1]
            · rw [← HL0.out, ← hus]; exact HNE.out
            · rw [← HL0.out, ← h1]; exact hk)
          have h12i : (ol.length : Int) ≤ 12 := by omega
          go_wp2_with fail
          go_ret2
          exact ⟨_, by rw [HB.out] <;> rfl, HFR.out.ext, by rw [HB.out]; exact HFR.out⟩
end Go.Proofs.YtbfeodammikajaaGreat

/- types' Base: the walk. -/

namespace Go.Proofs.YtbfeodammikajaaGreat
open Go.RowKit

theorem not_all : (List.range 512).all (fun m => (bits .andNot .i64 (m : Int) 11 != 0) == ((m &&& 500) != 0)) = true := by kernel_rfl
theorem lang_test (f : List Nd) : (bits .andNot .i64 (fragsN f : Nat) 11 != 0) = langBad f := by
  have h := List.all_eq_true.1 not_all (fragsN f) (List.mem_range.2 (fragMask_lt _))
  exact eq_of_beq h
set_option maxRecDepth 100000 in
set_option maxHeartbeats 4000000 in
theorem base_any (v : Value) (f : List Nd) (w : World) (h : Fml w v f) :
    Calls Tryz.prog 23 #[v] w (BaseRes w (baseN f)) := by
  have H := Lib.hid h
  obtain ⟨A, c, rfl, _⟩ := fml_slice h
  clear h
  by_cases hc : check f ≠ 0
  · have hb1 : (check f != 0) = true := by simpa using hc
    have HB := Lib.hid (show baseN f = ([], check f) by unfold baseN; rw [hb1]; rfl)
    clear hc
    go_enter Tryz.func23, Tryz.ntmps23
    go_wp2_with fail
    refine (check_any _ f _ H.out.1).mono ?_
    rintro e w1 ⟨rfl, hb⟩
    have HX := Lib.hid hb
    clear hb
    go_wp2_with fail
    go_ret2
    exact ⟨.slice none 0 0, by rw [HB.out] <;> rfl, HX.out, by rw [HB.out]; exact (FRow.nil _).before HX.out⟩
  have hc : check f = 0 := Classical.not_not.1 hc
  have hb1 : (check f != 0) = false := by simpa using hc
  have hcc : ((check f == 0)) = true := by simpa using hc
  have HC := Lib.hid hc
  clear hc
  have hlt := lang_test f
  cases hl : langBad f
  case true =>
    rw [hl] at hlt
    have HB := Lib.hid (show baseN f = ([], 10) by unfold baseN; rw [hb1, hl]; rfl)
    clear hl
    go_enter Tryz.func23, Tryz.ntmps23
    go_wp2_with fail
    refine (check_any _ f _ H.out.1).mono ?_
    rintro e w1 ⟨rfl, hb⟩
    have HX := Lib.hid hb
    clear hb
    go_wp2_with fail
    refine (frags_any _ f _ (H.out.ext HX.out)).mono ?_
    rintro e w2 ⟨rfl, hb⟩
    have HX2 := Lib.hid (HX.out.trans hb)
    clear hb
    go_wp2_with fail
    go_ret2
    exact ⟨.slice none 0 0, by rw [HB.out] <;> rfl, HX2.out, by rw [HB.out]; exact (FRow.nil _).before HX2.out⟩
  case false =>
    rw [hl] at hlt
    have HL := Lib.hid hl
    clear hl
    by_cases hz : (expandN f).length = 0
    · have HB := Lib.hid (show baseN f = ([], 8) by unfold baseN; rw [hb1, HL.out, decide_eq_true hz]; rfl)
      have hzb : (((expandN f).length : Int) == 0) = true := by rw [hz]; rfl
      clear hz
      go_enter Tryz.func23, Tryz.ntmps23
      go_wp2_with fail
      refine (check_any _ f _ H.out.1).mono ?_
      rintro e w1 ⟨rfl, hb⟩
      have HX := Lib.hid hb
      clear hb
      go_wp2_with fail
      refine (frags_any _ f _ (H.out.ext HX.out)).mono ?_
      rintro e w2 ⟨rfl, hb⟩
      have HX2 := Lib.hid (HX.out.trans hb)
      clear hb
      go_wp2_with fail
      refine (expand_any _ f _ (H.out.ext HX2.out) HC.out (lang_ops HC.out HL.out)).mono ?_
      rintro e w3 ⟨u, rfl, hf, hb⟩
      have HF := Lib.hid hf
      have HX3 := Lib.hid (HX2.out.trans hb)
      obtain ⟨A3, c3, rfl, _⟩ := fml_slice hf
      clear hb hf
      go_wp2_with fail
      go_ret2
      exact ⟨.slice none 0 0, by rw [HB.out] <;> rfl, HX3.out, by rw [HB.out]; exact (FRow.nil _).before HX3.out⟩
    · have hzb : (((expandN f).length : Int) == 0) = false := by rw [beq_eq_false_iff_ne]; omega
      have HB := Lib.hid (show baseN f = baseOfN (expandN f) by unfold baseN; rw [hb1, HL.out, decide_eq_false hz]; rfl)
      have HT := Lib.hid (expand_tree HC.out HL.out hz)
      clear hz
      go_enter Tryz.func23, Tryz.ntmps23
      go_wp2_with fail
      refine (check_any _ f _ H.out.1).mono ?_
      rintro e w1 ⟨rfl, hb⟩
      have HX := Lib.hid hb
      clear hb
      go_wp2_with fail
      refine (frags_any _ f _ (H.out.ext HX.out)).mono ?_
      rintro e w2 ⟨rfl, hb⟩
      have HX2 := Lib.hid (HX.out.trans hb)
      clear hb
      go_wp2_with fail
      refine (expand_any _ f _ (H.out.ext HX2.out) HC.out (lang_ops HC.out HL.out)).mono ?_
      rintro e w3 ⟨u, rfl, hf, hb⟩
      have HF := Lib.hid hf
      have HX3 := Lib.hid (HX2.out.trans hb)
      obtain ⟨A3, c3, rfl, _⟩ := fml_slice hf
      clear hb hf
      go_wp2_with fail
      refine (baseOf_any _ _ _ HT.out.1 (by rw [← HT.out.2]; exact HF.out)).mono ?_
      rintro e w4 ⟨u4, rfl, hx4, hr4⟩
      have HX4 := Lib.hid (HX3.out.trans hx4)
      have HR4 := Lib.hid (hr4.before HX3.out)
      rw [← HT.out.2, ← HB.out] at HR4 ⊢
      clear hx4 hr4
      go_wp2_with fail
      go_ret2
      exact ⟨_, rfl, HX4.out, HR4.out⟩
end Go.Proofs.YtbfeodammikajaaGreat

/- Elimination, whatever it is that a type lacks. -/

namespace Go.Proofs.YtbfeodammikajaaGreat

/-- Every type of the second set is one of the first. -/
def Sub2 (a b : List Bool) : Prop := ∀ t, b.getD t false = true → a.getD t false = true
theorem set_getD (l : List Bool) (t u : Nat) : (l.set t false).getD u false = (bif u == t then false else l.getD u false) := by
  rw [List.getD_eq_getElem?_getD, List.getElem?_set, List.getD_eq_getElem?_getD]
  by_cases h : u = t
  · subst h
    simp
    split <;> rfl
  · have : (u == t) = false := by simpa using h
    rw [this, if_neg (fun e => h e.symm)]
    rfl
theorem set_sub (l : List Bool) (t : Nat) : Sub2 l (l.set t false) := fun u h => by
  rw [set_getD] at h
  cases e : u == t
  · rw [e] at h; exact h
  · rw [e] at h; cases h
def cnt (l : List Bool) : Nat := l.countP id
theorem cnt_set : ∀ (l : List Bool) (t : Nat), l.getD t false = true → cnt (l.set t false) + 1 = cnt l
  | [], t, h => by simp at h
  | a :: r, 0, h => by
    simp at h
    subst h
    simp [cnt]
  | a :: r, t + 1, h => by
    have ih := cnt_set r t (by simpa using h)
    unfold cnt at ih ⊢
    rw [List.set_cons_succ, List.countP_cons, List.countP_cons]
    omega
theorem cnt_le (l : List Bool) : cnt l ≤ l.length := List.countP_le_length
section
variable {why : List Bool → Nat → Option Int}
/-- One step of a pass. -/
def stepG (why : List Bool → Nat → Option Int) (s : List Bool × List (Nat × Int)) (t : Nat) : List Bool × List (Nat × Int) :=
  bif s.1.getD t false then (match why s.1 t with | none => s | some i => (s.1.set t false, s.2 ++ [(t, i)])) else s
theorem pass_cons (t : Nat) (r : List Nat) (s : List Bool × List (Nat × Int)) : passG why (t :: r) s = passG why r (stepG why s t) := rfl
theorem pass_append : ∀ (a b : List Nat) (s : List Bool × List (Nat × Int)), passG why (a ++ b) s = passG why b (passG why a s)
  | [], _, _ => rfl
  | t :: r, b, s => pass_append r b (stepG why s t)
theorem step_len (s : List Bool × List (Nat × Int)) (t : Nat) : (stepG why s t).1.length = s.1.length := by
  unfold stepG
  cases s.1.getD t false
  · rfl
  · cases why s.1 t with
    | none => rfl
    | some i => simp
theorem pass_len : ∀ (r : List Nat) (s : List Bool × List (Nat × Int)), (passG why r s).1.length = s.1.length
  | [], _ => rfl
  | t :: r, s => (pass_len r (stepG why s t)).trans (step_len s t)
/-- What a step has done: nothing, for a reason; or it took a type away. -/
theorem step_cases (s : List Bool × List (Nat × Int)) (t : Nat) :
    (stepG why s t = s ∧ (s.1.getD t false = true → why s.1 t = none)) ∨ (∃ i, s.1.getD t false = true ∧ why s.1 t = some i ∧ stepG why s t = (s.1.set t false, s.2 ++ [(t, i)])) := by
  unfold stepG
  cases h : s.1.getD t false
  · exact .inl ⟨rfl, fun e => by cases e⟩
  · cases hw : why s.1 t with
    | none => exact .inl ⟨rfl, fun _ => rfl⟩
    | some i => exact .inr ⟨i, rfl, rfl, rfl⟩
theorem step_cnt (s : List Bool × List (Nat × Int)) (t : Nat) : cnt (stepG why s t).1 + (stepG why s t).2.length = cnt s.1 + s.2.length ∧ s.2.length ≤ (stepG why s t).2.length := by
  rcases step_cases (why := why) s t with ⟨e, _⟩ | ⟨i, h, _, e⟩
  · rw [e]; exact ⟨rfl, Nat.le_refl _⟩
  · rw [e]
    have := cnt_set s.1 t h
    simp only [List.length_append, List.length_singleton]
    omega
theorem pass_cnt : ∀ (r : List Nat) (s : List Bool × List (Nat × Int)), cnt (passG why r s).1 + (passG why r s).2.length = cnt s.1 + s.2.length ∧ s.2.length ≤ (passG why r s).2.length
  | [], _ => ⟨rfl, Nat.le_refl _⟩
  | t :: r, s => by
    have h1 := step_cnt (why := why) s t
    have h2 := pass_cnt r (stepG why s t)
    rw [pass_cons]
    omega
/-- A pass that takes nothing away finds nothing. -/
theorem pass_none : ∀ (r : List Nat) (s : List Bool × List (Nat × Int)), (passG why r s).2.length = s.2.length → passG why r s = s ∧ ∀ t ∈ r, s.1.getD t false = true → why s.1 t = none
  | [], s, _ => ⟨rfl, fun t h => by cases h⟩
  | t :: r, s, h => by
    rw [pass_cons] at h
    have h2 := (pass_cnt (why := why) r (stepG why s t)).2
    rcases step_cases (why := why) s t with ⟨e, hn⟩ | ⟨i, _, _, e⟩
    · rw [e] at h
      obtain ⟨a, b⟩ := pass_none r s h
      rw [pass_cons, e]
      refine ⟨a, fun u hu => ?_⟩
      rcases List.mem_cons.1 hu with rfl | hu
      · exact hn
      · exact b u hu
    · rw [e] at h h2
      simp only [List.length_append, List.length_singleton] at h2
      omega
theorem elim_len : ∀ (k : Nat) (s : List Bool × List (Nat × Int)), (elimG why k s).1.length = s.1.length
  | 0, _ => rfl
  | k + 1, s => by
    unfold elimG
    cases (passG why (List.range s.1.length) s).2.length == s.2.length
    · exact (elim_len k _).trans (pass_len _ _)
    · rfl
/-- At the end nothing lacks anything. -/
theorem elim_end : ∀ (k : Nat) (s : List Bool × List (Nat × Int)), cnt s.1 < k → ∀ t, (elimG why k s).1.getD t false = true → why (elimG why k s).1 t = none
  | 0, s, h, _ => by omega
  | k + 1, s, h, t => by
    unfold elimG
    cases he : (passG why (List.range s.1.length) s).2.length == s.2.length
    · have hne : (passG why (List.range s.1.length) s).2.length ≠ s.2.length := by simpa using he
      have hc := pass_cnt (why := why) (List.range s.1.length) s
      exact elim_end k _ (by omega) t
    · intro ht
      have hl : t < s.1.length := by
        by_cases e : t < s.1.length
        · exact e
        · rw [cond_true, List.getD_eq_getElem?_getD, List.getElem?_eq_none (by omega)] at ht; cases ht
      exact (pass_none _ _ (by simpa using he)).2 t (List.mem_range.2 hl) ht
/-- What no step may take away stays. -/
theorem pass_keep {S : List Bool → Prop} (hS : ∀ (al : List Bool) (t : Nat) (i : Int), S al → al.getD t false = true → why al t = some i → S (al.set t false)) : ∀ (r : List Nat) (s : List Bool × List (Nat × Int)), S s.1 → S (passG why r s).1
  | [], _, h => h
  | t :: r, s, h => by
    rw [pass_cons]
    refine pass_keep hS r _ ?_
    rcases step_cases (why := why) s t with ⟨e, _⟩ | ⟨i, h1, h2, e⟩
    · rw [e]; exact h
    · rw [e]; exact hS _ _ _ h h1 h2
theorem elim_keep {S : List Bool → Prop} (hS : ∀ (al : List Bool) (t : Nat) (i : Int), S al → al.getD t false = true → why al t = some i → S (al.set t false)) : ∀ (k : Nat) (s : List Bool × List (Nat × Int)), S s.1 → S (elimG why k s).1
  | 0, _, h => h
  | k + 1, s, h => by
    unfold elimG
    cases (passG why (List.range s.1.length) s).2.length == s.2.length
    · exact elim_keep hS k _ (pass_keep hS _ _ h)
    · exact h
end
section
variable {why : List Bool → Nat → Option Int} {lk : List Bool → Nat → Int → Bool} (hwl : ∀ al t i, why al t = some i → lk al t i = true)
include hwl
/-- A run replays. -/
def Replays (lk : List Bool → Nat → Int → Bool) (al0 : List Bool) (s : List Bool × List (Nat × Int)) : Prop := checkG lk (s.2.map Prod.fst) (s.2.map Prod.snd) al0 = some s.1
end
/-- What no lack may take away stays. -/
theorem check_keep {lk : List Bool → Nat → Int → Bool} {S : List Bool → Prop} (hS : ∀ (al : List Bool) (t : Nat) (i : Int), S al → al.getD t false = true → lk al t i = true → S (al.set t false)) : ∀ (ts : List Nat) (ws : List Int) (al al' : List Bool), S al → checkG lk ts ws al = some al' → S al'
  | [], _, al, al', h, e => by
    have : al = al' := by simpa [checkG] using e
    exact this ▸ h
  | _ :: _, [], al, al', h, e => by
    have : al = al' := by simpa [checkG] using e
    exact this ▸ h
  | a :: r, b :: s, al, al', h, e => by
    simp only [checkG] at e
    cases hc : decide (a < al.length) && (al.getD a false && lk al a b)
    · rw [hc] at e; cases e
    · rw [hc] at e
      rw [Bool.and_eq_true, Bool.and_eq_true] at hc
      exact check_keep hS r s _ al' (hS _ _ _ h hc.2.1 hc.2.2) e
end Go.Proofs.YtbfeodammikajaaGreat

/- The engine whose living types lie in a block of their own; what that block's cells hold may change. -/

namespace Go.Proofs.YtbfeodammikajaaGreat
open Go.RowKit

structure EngX (w : World) (b g : Nat) (lg : Int) (base : List (List Nd)) (root : List Bool) (ks : List Kn) (cs : List Cm) (alive : List Bool) : Prop where
  keep : ∀ w' : World, w.heap.size ≤ w'.heap.size → (∀ k, k ≠ g → k < w.heap.size → w'.heap[k]? = w.heap[k]?) → ∃ vb vr vk vc, w'.heap[b]? = some (.cells #[.int .i64 lg, vb, vr, vk, vc, .slice (some ⟨g, 0, none⟩) alive.length alive.length] 74 (0, 0)) ∧ Fmls w' vb base ∧ Bools w' vr root ∧ Kns w' vk ks ∧ Cms w' vc cs
  row : BRow g w g alive
section
variable {w w' : World} {b g : Nat} {lg : Int} {base : List (List Nd)} {root : List Bool} {ks : List Kn} {cs : List Cm} {alive : List Bool}
theorem EngX.eng (h : EngX w b g lg base root ks cs alive) : Eng w b lg base root ks cs alive := by
  obtain ⟨vb, vr, vk, vc, h0, h1, h2, h3, h4⟩ := h.keep w (Nat.le_refl _) (fun _ _ _ => rfl)
  exact ⟨vb, vr, vk, vc, _, h0, h1, h2, h3, h4, h.row.bools⟩
theorem EngX.ext (h : EngX w b g lg base root ks cs alive) (he : Ext w w') : EngX w' b g lg base root ks cs alive :=
  ⟨fun w2 h1 h2 => h.keep w2 (Nat.le_trans he.size h1) (fun k hk hl => (h2 k hk (Nat.lt_of_lt_of_le hl he.size)).trans (he.block hl)), h.row.ext he⟩
theorem EngX.set (h : EngX w b g lg base root ks cs alive) (j : Nat) (x : Bool) : EngX (w.setCell ⟨g, j, none⟩ (.bool x)) b g lg base root ks cs (alive.set j x) := by
  refine ⟨fun w2 h1 h2 => ?_, (h.row.set j x).1⟩
  rw [List.length_set]
  have e : (w.setCell ⟨g, j, none⟩ (.bool x)).heap.size = w.heap.size := by simp [World.setCell]
  rw [e] at h1 h2
  exact h.keep w2 h1 (fun k hk hl => (h2 k hk hl).trans (Below.heap_setCell _ _ _ _ hk))
/-- A world that has grown, but for another block than the living types'. -/
theorem EngX.grown {r : Option Nat} (h : EngX w b g lg base root ks cs alive) (hg : w.grownBy w' r) (hr : ∀ k, r = some k → w.heap.size ≤ k) : EngX w' b g lg base root ks cs alive :=
  h.ext ((Ext.refl w).grown hg hr)
/-- The cells that a walk reads. -/
theorem EngX.cells (h : EngX w b g lg base root ks cs alive) : ∃ Ab cb Ar cr, w.cell? ⟨b, 0, none⟩ = some (.int .i64 lg) ∧ w.cell? ⟨b, 1, none⟩ = some (.slice Ab base.length cb) ∧ w.cell? ⟨b, 2, none⟩ = some (.slice Ar root.length cr) ∧ w.cell? ⟨b, 5, none⟩ = some (.slice (some ⟨g, 0, none⟩) alive.length alive.length) ∧ b < w.heap.size := by
  obtain ⟨vb, vr, vk, vc, h0, ⟨Ab, cb, rfl, _⟩, ⟨Ar, cr, rfl, _⟩, _, _⟩ := h.keep w (Nat.le_refl _) (fun _ _ _ => rfl)
  obtain ⟨⟨d0, d1, d2, d3, d4, d5⟩, _, hl⟩ := cells6 h0
  exact ⟨Ab, cb, Ar, cr, d0, d1, d2, d5, hl⟩
end
theorem why_hit {lg : Int} {ks : List Kn} {cs : List Cm} {m : Nat} {al : List Bool} {t : Nat} {i : Int} (h0 : -4 ≤ i) (h1 : i < m) (h : lacksN lg ks cs al t i = true) (hn : ∀ j : Int, -4 ≤ j → j < i → lacksN lg ks cs al t j = false) : whyN lg ks cs m al t = some i := by
  unfold whyN
  rw [List.find?_map]
  have e : (List.range (m + 4)).find? ((fun i => lacksN lg ks cs al t i) ∘ fun (j : Nat) => (j : Int) - 4) = some (i + 4).toNat := by
    rw [List.find?_range_eq_some]
    refine ⟨?_, List.mem_range.2 (by omega), fun j hj => ?_⟩
    · show lacksN lg ks cs al t (((i + 4).toNat : Nat) - 4 : Int) = true
      rw [show (((i + 4).toNat : Nat) - 4 : Int) = i by omega]
      exact h
    · show (!lacksN lg ks cs al t ((j : Int) - 4)) = true
      rw [hn _ (by omega) (by omega)]
      rfl
  rw [e]
  show some ((((i + 4).toNat : Nat) : Int) - 4) = some i
  congr 1
  omega
theorem why_miss {lg : Int} {ks : List Kn} {cs : List Cm} {m : Nat} {al : List Bool} {t : Nat} (hn : ∀ j : Int, -4 ≤ j → j < m → lacksN lg ks cs al t j = false) : whyN lg ks cs m al t = none := by
  unfold whyN
  rw [List.find?_eq_none]
  intro i hi
  obtain ⟨j, hj, rfl⟩ := List.mem_map.1 hi
  have := List.mem_range.1 hj
  rw [hn _ (by omega) (by omega)]
  simp
theorem pass_snoc {why : List Bool → Nat → Option Int} (k : Nat) (s : List Bool × List (Nat × Int)) : passG why (List.range (k + 1)) s = stepG why (passG why (List.range k) s) k := by
  rw [List.range_succ, pass_append]
  rfl
def u64V (l : List Nat) : List Value := l.map fun (u : Nat) => Value.int .u64 (u : Int)
def intV (l : List Int) : List Value := l.map fun (u : Int) => Value.int .i64 u
end Go.Proofs.YtbfeodammikajaaGreat

/- What newEngine builds: the engine's block and its rows, while they grow. -/

namespace Go.Proofs.YtbfeodammikajaaGreat
open Go.RowKit

/-- The world has grown; but for the blocks of X it is the same. -/
def SameX (X : Nat → Prop) (w w' : World) : Prop := w.heap.size ≤ w'.heap.size ∧ ∀ k, ¬ X k → k < w.heap.size → w'.heap[k]? = w.heap[k]?
/-- It holds whatever the blocks of X hold. -/
def Frz (X : Nat → Prop) (w : World) (P : World → Prop) : Prop := ∀ w', SameX X w w' → P w'
section
variable {X X' : Nat → Prop} {w w' : World} {P : World → Prop}
theorem SameX.of_ext (h : Ext w w') : SameX X w w' := ⟨h.size, fun _ _ hk => h.block hk⟩
theorem SameX.trans {w2 : World} (h : SameX X w w') (h2 : SameX X' w' w2) (hx : ∀ k, k < w.heap.size → X' k → X k) : SameX X w w2 :=
  ⟨Nat.le_trans h.1 h2.1, fun k hk hl => (h2.2 k (fun e => hk (hx k hl e)) (Nat.lt_of_lt_of_le hl h.1)).trans (h.2 k hk hl)⟩
theorem Frz.next (h : Frz X w P) (hs : SameX X w w') (hx : ∀ k, k < w.heap.size → X' k → X k) : Frz X' w' P := fun w2 h2 => h w2 (hs.trans h2 hx)
theorem Frz.here (h : Frz X w P) : P w := h w ⟨Nat.le_refl _, fun _ _ _ => rfl⟩
theorem Frz.of_row {base g : Nat} {l : List Bool} (h : BRow base w g l) (hg : ¬ X g) : Frz X w fun w' => Bools w' (.slice (some ⟨g, 0, none⟩) l.length l.length) l := fun w2 h2 => by
  have : BRow base w2 g l := row_keep h fun k hk => by
    have e : k = g := by injection hk with hk; exact hk.symm
    subst e
    exact h2.2 k hg h.lt.2
  exact this.bools
theorem bools_nil (w : World) : Bools w (.slice none 0 0) [] := ⟨none, 0, rfl, Nat.le_refl _, by unfold maxLen; omega, fun h => absurd rfl h⟩
theorem flat_getG {α : Type} {f : α → List Value} {c : Nat} (hf : ∀ a, (f a).length = c) : ∀ (l : List α) (k : Nat) (n : α) (j : Nat), l[k]? = some n → j < c → (l.flatMap f)[k * c + j]? = (f n)[j]?
  | [], k, n, j, h, _ => by simp at h
  | m :: r, 0, n, j, h, hj => by
    simp only [List.getElem?_cons_zero, Option.some.injEq] at h
    subst h
    rw [List.flatMap_cons, List.getElem?_append_left (by rw [hf]; omega)]
    simp
  | m :: r, k + 1, n, j, h, hj => by
    rw [List.flatMap_cons, List.getElem?_append_right (by rw [hf, Nat.add_mul]; omega)]
    have e : (k + 1) * c + j - (f m).length = k * c + j := by rw [hf, Nat.add_mul]; omega
    rw [e]
    exact flat_getG hf r k n j (by simpa using h) hj
theorem row_cells {α : Type} {f : α → List Value} {c base : Nat} {e : TypeId} {v : Value} {l : List α} (hf : ∀ a, (f a).length = c) (h : w.ownsRow base e c v l.length (l.flatMap f)) :
    ∃ A cap, v = .slice A l.length cap ∧ l.length ≤ cap ∧ cap ≤ maxLen ∧ (l ≠ [] → ∃ g, A = some ⟨g, 0, none⟩ ∧ g < w.heap.size ∧ ∀ k n, l[k]? = some n → ∀ j, j < c → ∀ u, (f n)[j]? = some u → w.cell? ⟨g, k * c + j, none⟩ = some u) := by
  obtain ⟨_, h2⟩ := h
  rcases h2 with ⟨rfl, h0⟩ | ⟨g, cap, cur, rfl, hb, hg, hn, hcap, hsz, htk⟩
  · have : l = [] := List.length_eq_zero_iff.1 h0
    subst this
    exact ⟨none, 0, rfl, Nat.le_refl _, by unfold maxLen; omega, fun h => absurd rfl h⟩
  · refine ⟨some ⟨g, 0, none⟩, cap, rfl, hn, hcap, fun hne => ⟨g, rfl, lt_heap hg, fun k n hk j hj u hu => ?_⟩⟩
    have h1 := flat_getG hf l k n j hk hj
    rw [← htk, hu] at h1
    have h2 : cur[k * c + j]? = some u := by
      rw [List.getElem?_take] at h1
      split at h1
      · simpa using h1
      · cases h1
    simp [World.cell?, hg, h2]
end
def knV (r : Kn × Value) : List Value := [.int .i64 r.1.agent, .int .i64 (r.1.place : Int), r.2]
def cmV (r : Cm × Value × Value) : List Value := [.int .i64 (r.1.place : Int), .int .i64 r.1.group, r.2.1, r.2.2, .int .u64 (r.1.parts : Int)]
section
variable {w w' : World} {base : Nat} {v : Value}
theorem kns_of_row {rs : List (Kn × Value)} (h : w.ownsRow base 113 3 v rs.length (rs.flatMap knV)) (hb : ∀ r ∈ rs, Bools w r.2 r.1.holds) : Kns w v (rs.map Prod.fst) := by
  obtain ⟨A, cap, rfl, h1, h2, h3⟩ := row_cells (f := knV) (c := 3) (fun _ => rfl) h
  refine ⟨A, cap, by rw [List.length_map], by rw [List.length_map]; exact h1, h2, fun hn => ?_⟩
  obtain ⟨g, rfl, hg, hc⟩ := h3 (fun e => hn (by rw [e]; rfl))
  refine ⟨_, rfl, hg, fun k n hk => ?_⟩
  rw [List.getElem?_map] at hk
  cases hr : rs[k]? with
  | none => rw [hr] at hk; cases hk
  | some r =>
    rw [hr] at hk
    obtain rfl : r.1 = n := by simpa using hk
    have e0 : ((⟨g, 0, none⟩ : Addr).add (k * 3)) = ⟨g, k * 3, none⟩ := by
      unfold Addr.add
      split
      · rename_i h; rw [h]
      · simp
    rw [e0]
    exact ⟨r.2, hc k r hr 0 (by omega) _ rfl, hc k r hr 1 (by omega) _ rfl, hc k r hr 2 (by omega) _ rfl, hb r (List.mem_of_getElem? hr)⟩
theorem cms_of_row {rs : List (Cm × Value × Value)} (h : w.ownsRow base 115 5 v rs.length (rs.flatMap cmV)) (hb : ∀ r ∈ rs, Bools w r.2.1 r.1.x ∧ Bools w r.2.2 r.1.y) : Cms w v (rs.map Prod.fst) := by
  obtain ⟨A, cap, rfl, h1, h2, h3⟩ := row_cells (f := cmV) (c := 5) (fun _ => rfl) h
  refine ⟨A, cap, by rw [List.length_map], by rw [List.length_map]; exact h1, h2, fun hn => ?_⟩
  obtain ⟨g, rfl, hg, hc⟩ := h3 (fun e => hn (by rw [e]; rfl))
  refine ⟨_, rfl, hg, fun k n hk => ?_⟩
  rw [List.getElem?_map] at hk
  cases hr : rs[k]? with
  | none => rw [hr] at hk; cases hk
  | some r =>
    rw [hr] at hk
    obtain rfl : r.1 = n := by simpa using hk
    have e0 : ((⟨g, 0, none⟩ : Addr).add (k * 5)) = ⟨g, k * 5, none⟩ := by
      unfold Addr.add
      split
      · rename_i h; rw [h]
      · simp
    rw [e0]
    have hm := hb r (List.mem_of_getElem? hr)
    exact ⟨r.2.1, r.2.2, hc k r hr 0 (by omega) _ rfl, hc k r hr 1 (by omega) _ rfl, hc k r hr 2 (by omega) _ rfl, hc k r hr 3 (by omega) _ rfl, hc k r hr 4 (by omega) _ rfl, hm.1, hm.2⟩
end
/-- The blocks that newEngine writes over. -/
def spc (b g : Nat) (vk vc : Value) (k : Nat) : Prop := k = b ∨ k = g ∨ vk.ownBlock = some k ∨ vc.ownBlock = some k
structure NewI (w1 w : World) (b g : Nat) (lg : Int) (base : List (List Nd)) (root : List Bool) (ks : List Kn) (cs : List Cm) (alive : List Bool) (vk vc : Value) : Prop where
  ext : Ext w1 w
  lo : w1.heap.size ≤ b ∧ b ≠ g
  cells : ∃ vb vr, w.heap[b]? = some (.cells #[.int .i64 lg, vb, vr, vk, vc, .slice (some ⟨g, 0, none⟩) alive.length alive.length] 74 (0, 0)) ∧ Fmls w1 vb base ∧ Frz (spc b g vk vc) w (fun w' => Bools w' vr root)
  al : BRow w1.heap.size w g alive
  kn : ∃ rs : List (Kn × Value), rs.map Prod.fst = ks ∧ w.ownsRow w1.heap.size 113 3 vk rs.length (rs.flatMap knV) ∧ ∀ r ∈ rs, Frz (spc b g vk vc) w (fun w' => Bools w' r.2 r.1.holds)
  cm : ∃ rs : List (Cm × Value × Value), rs.map Prod.fst = cs ∧ w.ownsRow w1.heap.size 115 5 vc rs.length (rs.flatMap cmV) ∧ ∀ r ∈ rs, Frz (spc b g vk vc) w (fun w' => Bools w' r.2.1 r.1.x) ∧ Frz (spc b g vk vc) w (fun w' => Bools w' r.2.2 r.1.y)
  dk : vk.ownBlock ≠ some b ∧ vk.ownBlock ≠ some g
  dc : vc.ownBlock ≠ some b ∧ vc.ownBlock ≠ some g
  dd : ∀ k, vk.ownBlock = some k → vc.ownBlock ≠ some k
section
variable {w1 w w' : World} {b g : Nat} {lg : Int} {base : List (List Nd)} {root : List Bool} {ks : List Kn} {cs : List Cm} {alive : List Bool} {vk vc : Value}
theorem NewI.blt (h : NewI w1 w b g lg base root ks cs alive vk vc) : b < w.heap.size := by
  obtain ⟨_, _, hb, _⟩ := h.cells
  exact lt_heap hb
theorem NewI.next (h : NewI w1 w b g lg base root ks cs alive vk vc) (he : Ext w w') : NewI w1 w' b g lg base root ks cs alive vk vc := by
  refine ⟨h.ext.trans he, h.lo, ?_, h.al.ext he, ?_, ?_, h.dk, h.dc, h.dd⟩
  · obtain ⟨vb, vr, hb, h1, h2⟩ := h.cells
    exact ⟨vb, vr, (he.block (lt_heap hb)).trans hb, h1, h2.next (SameX.of_ext he) fun _ _ h => h⟩
  · obtain ⟨rs, e, h1, h2⟩ := h.kn
    exact ⟨rs, e, row_ext h1 he, fun r hr => (h2 r hr).next (SameX.of_ext he) fun _ _ h => h⟩
  · obtain ⟨rs, e, h1, h2⟩ := h.cm
    exact ⟨rs, e, row_ext h1 he, fun r hr => ⟨(h2 r hr).1.next (SameX.of_ext he) fun _ _ h => h, (h2 r hr).2.next (SameX.of_ext he) fun _ _ h => h⟩⟩
theorem row_self {e : TypeId} {size n c m : Nat} {bs : Nat} {xs : List Value} (h : w.ownsRow bs e size (.slice (some ⟨g, 0, none⟩) n c) m xs) : w.ownsRow g e size (.slice (some ⟨g, 0, none⟩) n c) m xs := by
  obtain ⟨h1, h2⟩ := h
  refine ⟨h1, ?_⟩
  rcases h2 with h2 | ⟨g', cap, cur, e, h3, h4⟩
  · exact .inl h2
  · have hg : g' = g := by
      injection e with e
      injection e with e
      injection e with e
      exact e.symm
    exact .inr ⟨g', cap, cur, e, by omega, h4⟩
theorem NewI.engX (h : NewI w1 w b g lg base root ks cs alive vk vc) : EngX w b g lg base root ks cs alive := by
  refine ⟨fun w2 h1 h2 => ?_, row_self h.al⟩
  have hs : SameX (spc b g vk vc) w w2 := ⟨h1, fun k hk hl => h2 k (fun e => hk (.inr (.inl e))) hl⟩
  obtain ⟨vb, vr, hb, hf, hr⟩ := h.cells
  obtain ⟨rs, rfl, k1, k2⟩ := h.kn
  obtain ⟨ss, rfl, c1, c2⟩ := h.cm
  have he : Ext w1 { w2 with os := w1.os, tape := w1.tape, output := w1.output } := ⟨rfl, rfl, rfl, Nat.le_trans h.ext.size h1, fun k hk => (h2 k (fun e => by have := h.al.lt.1; omega) (Nat.lt_of_lt_of_le hk h.ext.size)).trans (h.ext.block hk)⟩
  have hf3 := hf.ext he
  have hf2 : Fmls w2 vb base := hf3
  refine ⟨vb, vr, vk, vc, (h2 b h.lo.2 (lt_heap hb)).trans hb, hf2, hr w2 hs, kns_of_row (row_keep k1 fun k hk => h2 k (fun e => h.dk.2 (e ▸ hk)) (k1.lt k hk).2) fun r hr => k2 r hr w2 hs, cms_of_row (row_keep c1 fun k hk => h2 k (fun e => h.dc.2 (e ▸ hk)) (c1.lt k hk).2) fun r hr => ⟨(c2 r hr).1 w2 hs, (c2 r hr).2 w2 hs⟩⟩
/-- A cell of the engine is written. -/
theorem set_engine {a0 a1 a2 a3 a4 a5 u : Value} {t : TypeId} (h : w.heap[b]? = some (.cells #[a0, a1, a2, a3, a4, a5] t (0, 0))) :
    (w.setCell ⟨b, 2, none⟩ u).heap[b]? = some (.cells #[a0, a1, u, a3, a4, a5] t (0, 0)) ∧ (w.setCell ⟨b, 3, none⟩ u).heap[b]? = some (.cells #[a0, a1, a2, u, a4, a5] t (0, 0)) ∧ (w.setCell ⟨b, 4, none⟩ u).heap[b]? = some (.cells #[a0, a1, a2, a3, u, a5] t (0, 0)) := by
  refine ⟨?_, ?_, ?_⟩ <;> (simp only [World.setCell, Array.getElem?_modify, h, if_true, Option.map_some]; simp)
theorem set_same (k : Nat) (u : Value) : SameX (fun x => x = b) w (w.setCell ⟨b, k, none⟩ u) :=
  ⟨by simp [World.setCell], fun x hx _ => Below.heap_setCell _ _ _ _ hx⟩
theorem grown_same {r : Option Nat} (h : w.grownBy w' r) : SameX (fun x => r = some x) w w' := ⟨h.size, fun k hk hl => h.block k hl (fun e => hk e.symm)⟩
theorem ext_set {a : World} (h : Ext a w) (hb : a.heap.size ≤ b) (k : Nat) (u : Value) : Ext a (w.setCell ⟨b, k, none⟩ u) := h.setCell (p := ⟨b, k, none⟩) hb u
/-- The root's table is laid. -/
theorem NewI.root_ {vr : Value} {root' : List Bool} (h : NewI w1 w b g lg base root ks cs alive vk vc) (hr : Frz (spc b g vk vc) w (fun w' => Bools w' vr root')) : NewI w1 (w.setCell ⟨b, 2, none⟩ vr) b g lg base root' ks cs alive vk vc := by
  have hs := set_same (w := w) (b := b) 2 vr
  have hx : ∀ k, k < w.heap.size → spc b g vk vc k → spc b g vk vc k := fun _ _ h => h
  have hs' : SameX (spc b g vk vc) w (w.setCell ⟨b, 2, none⟩ vr) := ⟨hs.1, fun k hk hl => hs.2 k (fun e => hk (.inl e)) hl⟩
  refine ⟨ext_set h.ext h.lo.1 2 vr, h.lo, ?_, row_keep h.al fun k hk => hs.2 k (fun e => ?_) ?_, ?_, ?_, h.dk, h.dc, h.dd⟩
  · obtain ⟨vb, _, hb, h1, _⟩ := h.cells
    exact ⟨vb, vr, (set_engine hb).1, h1, hr.next hs' hx⟩
  · have : k = g := by injection hk with hk; exact hk.symm
    exact h.lo.2 (by omega)
  · exact by have e : k = g := by injection hk with hk; exact hk.symm
             rw [e]; exact h.al.lt.2
  · obtain ⟨rs, e, h1, h2⟩ := h.kn
    exact ⟨rs, e, row_keep h1 fun k hk => hs.2 k (fun e => h.dk.1 (e ▸ hk)) (h1.lt k hk).2, fun r hr => (h2 r hr).next hs' hx⟩
  · obtain ⟨rs, e, h1, h2⟩ := h.cm
    exact ⟨rs, e, row_keep h1 fun k hk => hs.2 k (fun e => h.dc.1 (e ▸ hk)) (h1.lt k hk).2, fun r hr => ⟨(h2 r hr).1.next hs' hx, (h2 r hr).2.next hs' hx⟩⟩
/-- A base formula of knowledge joins: the row has grown, and the engine's cell is written. -/
theorem NewI.know {w4 : World} {c : Obj} {vk' vh : Value} {n : Kn} {rs : List (Kn × Value)} (h : NewI w1 w b g lg base root ks cs alive vk vc) (hrs : rs.map Prod.fst = ks) (hkn : ∀ r ∈ rs, Frz (spc b g vk vc) w (fun w' => Bools w' r.2 r.1.holds))
    (hh : Frz (fun k => spc b g vk vc k) w (fun w' => Bools w' vh n.holds)) (hrow : w4.ownsRow w1.heap.size 113 3 vk' (rs.length + 1) (rs.flatMap knV ++ knV (n, vh))) (hg : (w.alloc c).grownBy w4 vk.ownBlock) (ho : vk'.ownBlock = vk.ownBlock ∨ vk'.ownBlock = some (w.alloc c).heap.size) :
    NewI w1 (w4.setCell ⟨b, 3, none⟩ vk') b g lg base root (ks ++ [n]) cs alive vk' vc := by
  have hs1 : SameX (fun x => vk.ownBlock = some x) w w4 := (SameX.of_ext ((Ext.refl w).alloc c)).trans (grown_same hg) (fun _ _ h => h)
  have hsz : w.heap.size < (w.alloc c).heap.size := by simp
  have hs2 : SameX (fun x => x = b ∨ vk.ownBlock = some x) w (w4.setCell ⟨b, 3, none⟩ vk') := by
    refine ⟨by rw [show (w4.setCell ⟨b, 3, none⟩ vk').heap.size = w4.heap.size by simp [World.setCell]]; exact hs1.1, fun k hk hl => ?_⟩
    rw [(set_same (w := w4) (b := b) 3 vk').2 k (fun e => hk (.inl e)) (Nat.lt_of_lt_of_le hl hs1.1)]
    exact hs1.2 k (fun e => hk (.inr e)) hl
  have hs3 : SameX (spc b g vk vc) w (w4.setCell ⟨b, 3, none⟩ vk') := ⟨hs2.1, fun k hk hl => hs2.2 k (fun e => hk (e.elim .inl fun e => .inr (.inr (.inl e)))) hl⟩
  have hx : ∀ k, k < w.heap.size → spc b g vk' vc k → spc b g vk vc k := fun k hl e => by
    rcases e with e | e | e | e
    · exact .inl e
    · exact .inr (.inl e)
    · rcases ho with ho | ho
      · exact .inr (.inr (.inl (ho ▸ e)))
      · rw [ho] at e
        injection e with e
        omega
    · exact .inr (.inr (.inr e))
  have hbl := h.blt
  have hkl : ∀ k, vk.ownBlock = some k → w1.heap.size ≤ k := fun k hk => by
    obtain ⟨_, _, h1, _⟩ := h.kn
    exact (h1.lt k hk).1
  have hgl := h.al.lt
  refine ⟨?_, h.lo, ?_, row_keep h.al fun k hk => ?_, ?_, ?_, ?_, h.dc, fun k hk hk2 => ?_⟩
  · exact ext_set ((h.ext.alloc c).grown hg hkl) h.lo.1 3 vk'
  · obtain ⟨vb, vr, hb, h1, h2⟩ := h.cells
    have hb4 : w4.heap[b]? = _ := (hs1.2 b (fun e => h.dk.1 e) hbl).trans hb
    exact ⟨vb, vr, (set_engine hb4).2.1, h1, h2.next hs3 hx⟩
  · have e : k = g := by injection hk with hk; exact hk.symm
    subst e
    exact hs2.2 k (fun e => e.elim (fun e => h.lo.2 e.symm) (fun e => h.dk.2 e)) hgl.2
  · refine ⟨rs ++ [(n, vh)], by rw [List.map_append, hrs]; rfl, ?_, fun r hr => ?_⟩
    · rw [List.length_append, List.length_singleton, List.flatMap_append, List.flatMap_singleton]
      refine row_keep hrow fun k hk => (set_same (w := w4) (b := b) 3 vk').2 k (fun e => ?_) (hrow.lt k hk).2
      subst e
      rcases ho with ho | ho
      · exact h.dk.1 (ho ▸ hk)
      · rw [ho] at hk; injection hk with hk; omega
    · rcases List.mem_append.1 hr with hr | hr
      · exact (hkn r hr).next hs3 hx
      · rw [List.mem_singleton.1 hr]
        exact hh.next hs3 hx
  · obtain ⟨ss, e, h1, h2⟩ := h.cm
    exact ⟨ss, e, row_keep h1 fun k hk => hs2.2 k (fun e => e.elim (fun e => h.dc.1 (e ▸ hk)) (fun e => h.dd k e hk)) (h1.lt k hk).2, fun r hr => ⟨(h2 r hr).1.next hs3 hx, (h2 r hr).2.next hs3 hx⟩⟩
  · rcases ho with ho | ho
    · rw [ho]; exact h.dk
    · rw [ho]
      exact ⟨fun e => by injection e with e; omega, fun e => by injection e with e; omega⟩
  · rcases ho with ho | ho
    · exact h.dd k (ho ▸ hk) hk2
    · rw [ho] at hk
      injection hk with hk
      obtain ⟨_, _, h1, _⟩ := h.cm
      have := (h1.lt k hk2).2
      omega
/-- A base formula of common knowledge joins: the row has grown, and the engine's cell is written. -/
theorem NewI.comm {w4 : World} {c : Obj} {vc' vx vy : Value} {n : Cm} {rs : List (Cm × Value × Value)} (h : NewI w1 w b g lg base root ks cs alive vk vc) (hrs : rs.map Prod.fst = cs) (hcm : ∀ r ∈ rs, Frz (spc b g vk vc) w (fun w' => Bools w' r.2.1 r.1.x) ∧ Frz (spc b g vk vc) w (fun w' => Bools w' r.2.2 r.1.y))
    (hhx : Frz (spc b g vk vc) w (fun w' => Bools w' vx n.x)) (hhy : Frz (spc b g vk vc) w (fun w' => Bools w' vy n.y)) (hrow : w4.ownsRow w1.heap.size 115 5 vc' (rs.length + 1) (rs.flatMap cmV ++ cmV (n, vx, vy))) (hg : (w.alloc c).grownBy w4 vc.ownBlock) (ho : vc'.ownBlock = vc.ownBlock ∨ vc'.ownBlock = some (w.alloc c).heap.size) :
    NewI w1 (w4.setCell ⟨b, 4, none⟩ vc') b g lg base root ks (cs ++ [n]) alive vk vc' := by
  have hs1 : SameX (fun x => vc.ownBlock = some x) w w4 := (SameX.of_ext ((Ext.refl w).alloc c)).trans (grown_same hg) (fun _ _ h => h)
  have hsz : w.heap.size < (w.alloc c).heap.size := by simp
  have hs2 : SameX (fun x => x = b ∨ vc.ownBlock = some x) w (w4.setCell ⟨b, 4, none⟩ vc') := by
    refine ⟨by rw [show (w4.setCell ⟨b, 4, none⟩ vc').heap.size = w4.heap.size by simp [World.setCell]]; exact hs1.1, fun k hk hl => ?_⟩
    rw [(set_same (w := w4) (b := b) 4 vc').2 k (fun e => hk (.inl e)) (Nat.lt_of_lt_of_le hl hs1.1)]
    exact hs1.2 k (fun e => hk (.inr e)) hl
  have hs3 : SameX (spc b g vk vc) w (w4.setCell ⟨b, 4, none⟩ vc') := ⟨hs2.1, fun k hk hl => hs2.2 k (fun e => hk (e.elim .inl fun e => .inr (.inr (.inr e)))) hl⟩
  have hx : ∀ k, k < w.heap.size → spc b g vk vc' k → spc b g vk vc k := fun k hl e => by
    rcases e with e | e | e | e
    · exact .inl e
    · exact .inr (.inl e)
    · exact .inr (.inr (.inl e))
    · rcases ho with ho | ho
      · exact .inr (.inr (.inr (ho ▸ e)))
      · rw [ho] at e
        injection e with e
        omega
  have hbl := h.blt
  have hcl : ∀ k, vc.ownBlock = some k → w1.heap.size ≤ k := fun k hk => by
    obtain ⟨_, _, h1, _⟩ := h.cm
    exact (h1.lt k hk).1
  have hgl := h.al.lt
  refine ⟨?_, h.lo, ?_, row_keep h.al fun k hk => ?_, ?_, ?_, h.dk, ?_, fun k hk hk2 => ?_⟩
  · exact ext_set ((h.ext.alloc c).grown hg hcl) h.lo.1 4 vc'
  · obtain ⟨vb, vr, hb, h1, h2⟩ := h.cells
    have hb4 : w4.heap[b]? = _ := (hs1.2 b (fun e => h.dc.1 e) hbl).trans hb
    exact ⟨vb, vr, (set_engine hb4).2.2, h1, h2.next hs3 hx⟩
  · have e : k = g := by injection hk with hk; exact hk.symm
    subst e
    exact hs2.2 k (fun e => e.elim (fun e => h.lo.2 e.symm) (fun e => h.dc.2 e)) hgl.2
  · obtain ⟨ss, e, h1, h2⟩ := h.kn
    exact ⟨ss, e, row_keep h1 fun k hk => hs2.2 k (fun e => e.elim (fun e => h.dk.1 (e ▸ hk)) (fun e => h.dd k hk e)) (h1.lt k hk).2, fun r hr => (h2 r hr).next hs3 hx⟩
  · refine ⟨rs ++ [(n, vx, vy)], by rw [List.map_append, hrs]; rfl, ?_, fun r hr => ?_⟩
    · rw [List.length_append, List.length_singleton, List.flatMap_append, List.flatMap_singleton]
      refine row_keep hrow fun k hk => (set_same (w := w4) (b := b) 4 vc').2 k (fun e => ?_) (hrow.lt k hk).2
      subst e
      rcases ho with ho | ho
      · exact h.dc.1 (ho ▸ hk)
      · rw [ho] at hk; injection hk with hk; omega
    · rcases List.mem_append.1 hr with hr | hr
      · exact ⟨(hcm r hr).1.next hs3 hx, (hcm r hr).2.next hs3 hx⟩
      · rw [List.mem_singleton.1 hr]
        exact ⟨hhx.next hs3 hx, hhy.next hs3 hx⟩
  · rcases ho with ho | ho
    · rw [ho]; exact h.dc
    · rw [ho]
      exact ⟨fun e => by injection e with e; omega, fun e => by injection e with e; omega⟩
  · rcases ho with ho | ho
    · exact h.dd k hk (ho ▸ hk2)
    · rw [ho] at hk2
      injection hk2 with hk2
      obtain ⟨_, _, h1, _⟩ := h.kn
      have := (h1.lt k hk).2
      omega
/-- The start: no row yet. -/
theorem NewI.start (he : Ext w1 w) (hlo : w1.heap.size ≤ b ∧ b ≠ g) (hb : w.heap[b]? = some (.cells #[.int .i64 lg, vk, .slice none 0 0, .slice none 0 0, .slice none 0 0, .slice (some ⟨g, 0, none⟩) alive.length alive.length] 74 (0, 0))) (hf : Fmls w1 vk base) (hal : BRow w1.heap.size w g alive) :
    NewI w1 w b g lg base [] [] [] alive (.slice none 0 0) (.slice none 0 0) :=
  ⟨he, hlo, ⟨_, _, hb, hf, fun _ _ => bools_nil _⟩, hal, ⟨[], rfl, World.ownsRow_nil _ _ _ _, by simp⟩, ⟨[], rfl, World.ownsRow_nil _ _ _ _, by simp⟩, ⟨by simp [Value.ownBlock], by simp [Value.ownBlock]⟩, ⟨by simp [Value.ownBlock], by simp [Value.ownBlock]⟩, fun k hk => by simp [Value.ownBlock] at hk⟩
/-- A row of bools that was made behind the engine. -/
theorem NewI.fresh {w0 : World} {gh : Nat} {l : List Bool} (h : NewI w1 w0 b g lg base root ks cs alive vk vc) (hr : BRow w0.heap.size w gh l) : Frz (spc b g vk vc) w (fun w' => Bools w' (.slice (some ⟨gh, 0, none⟩) l.length l.length) l) :=
  Frz.of_row hr fun e => by
    have h1 := hr.lt.1
    rcases e with e | e | e | e
    · have := h.blt; omega
    · have := h.al.lt.2; omega
    · obtain ⟨_, _, h2, _⟩ := h.kn
      have := (h2.lt gh e).2; omega
    · obtain ⟨_, _, h2, _⟩ := h.cm
      have := (h2.lt gh e).2; omega
/-- The cells that the walk reads. -/
theorem NewI.reads (h : NewI w1 w b g lg base root ks cs alive vk vc) : w.cell? ⟨b, 3, none⟩ = some vk ∧ w.cell? ⟨b, 4, none⟩ = some vc ∧ w.cell? ⟨b, 5, none⟩ = some (.slice (some ⟨g, 0, none⟩) alive.length alive.length) ∧ (∀ j, w.frozen? ⟨b, j, none⟩ = false) ∧ b < w.heap.size := by
  obtain ⟨_, _, hb, _⟩ := h.cells
  obtain ⟨⟨_, _, _, d3, d4, d5⟩, hf, hl⟩ := cells6 hb
  exact ⟨d3, d4, d5, hf, hl⟩
theorem NewI.eng (h : NewI w1 w b g lg base root ks cs alive vk vc) : Eng w b lg base root ks cs alive := h.engX.eng
end
end Go.Proofs.YtbfeodammikajaaGreat

/- The engine of a base, by trees: knowledge, common knowledge, coherence, possibility. -/

namespace Go.Proofs.YtbfeodammikajaaGreat

section
variable {l : List (List Nd)} {t0 : Tr} (hB : BaseOk l t0)
include hB
/-- A formula of the base, at its place. -/
theorem th_at {s : Tr} (hs : s ∈ l.map treeOf) : ∃ i, l[i]? = some (canon s) ∧ i < l.length ∧ ∀ t, th l t s = t.testBit i := by
  obtain ⟨_, hm⟩ := (mem_trees hB.can).1 hs
  obtain ⟨i, hi, e⟩ := List.getElem_of_mem hm
  have hg : l[i]? = some (canon s) := by rw [List.getElem?_eq_getElem hi, e]
  refine ⟨i, hg, hi, fun t => ?_⟩
  unfold th
  rw [place_at hB.nodup hg, decide_eq_true (by omega), cond_true, Int.toNat_natCast]
theorem base_get {i : Nat} {c : List Nd} (hi : l[i]? = some c) : ∃ s, Xf s ∧ c = canon s ∧ isBase s.top = true ∧ s ∈ l.map treeOf := by
  obtain ⟨s, hs, e, hb⟩ := hB.can c (List.mem_of_getElem? hi)
  exact ⟨s, hs, e, hb, (mem_trees hB.can).2 ⟨hs, e ▸ List.mem_of_getElem? hi⟩⟩
theorem knows_mem {k : Kn} : k ∈ knowsN l ↔ ∃ i n a, .one n a ∈ l.map treeOf ∧ l[i]? = some (canon (.one n a)) ∧ k = ⟨n.i, i, tabN l (canon a)⟩ := by
  unfold knowsN
  rw [List.mem_flatMap]
  constructor
  · rintro ⟨i, hi, hk⟩
    have hil := List.mem_range.1 hi
    have hg : l[i]? = some (l.getD i []) := by rw [List.getD_eq_getElem?_getD, List.getElem?_eq_getElem hil]; rfl
    obtain ⟨s, hs, e, hb, hm⟩ := base_get hB hg
    rw [e] at hk hg
    unfold knOf at hk
    rw [hs.last] at hk
    cases ho : s.top.op == 9
    · rw [ho] at hk; cases hk
    · rw [ho] at hk
      have ho9 : s.top.op = 9 := by simpa using ho
      cases s with
      | leaf n => have := hs.xp.1.1.1; rw [show n.op = 9 from ho9] at this; cases this
      | two n a b => have := hs.xp.1.1.2.1; rw [show n.op = 9 from ho9] at this; cases this
      | one n a =>
        obtain ⟨_, e2, _, e4, _⟩ := last_one hs.check hs.tree
        rw [e2, e4] at hk
        exact ⟨i, n, a, hm, hg, by simpa using hk⟩
  · rintro ⟨i, n, a, hm, hg, rfl⟩
    have hil := (List.getElem?_eq_some_iff.1 hg).1
    obtain ⟨hs, _⟩ := (mem_trees hB.can).1 hm
    refine ⟨i, List.mem_range.2 hil, ?_⟩
    have e : l.getD i [] = canon (.one n a) := by rw [List.getD_eq_getElem?_getD, hg]; rfl
    obtain ⟨e1, e2, _, e4, _⟩ := last_one hs.check hs.tree
    unfold knOf
    rw [e, e1, e2, e4, (hB.closed.know n a hm).1]
    simp
theorem comms_mem {k : Cm} : k ∈ commsN l ↔ ∃ i n a b, .two n a b ∈ l.map treeOf ∧ l[i]? = some (canon (.two n a b)) ∧ k = ⟨i, n.g, tabN l (canon a), tabN l (canon b), partsN l (canon (.two n a b))⟩ := by
  unfold commsN
  rw [List.mem_flatMap]
  constructor
  · rintro ⟨i, hi, hk⟩
    have hil := List.mem_range.1 hi
    have hg : l[i]? = some (l.getD i []) := by rw [List.getD_eq_getElem?_getD, List.getElem?_eq_getElem hil]; rfl
    obtain ⟨s, hs, e, hb, hm⟩ := base_get hB hg
    rw [e] at hk hg
    unfold cmOf at hk
    rw [hs.last] at hk
    cases ho : s.top.op == 13
    · rw [ho] at hk; cases hk
    · rw [ho] at hk
      obtain ⟨n, a, b, rfl, _⟩ := top_two hs (by simpa using ho)
      obtain ⟨_, e2, e3, e4⟩ := last_two hs.check hs.tree
      rw [e2, e3, e4] at hk
      exact ⟨i, n, a, b, hm, hg, by simpa using hk⟩
  · rintro ⟨i, n, a, b, hm, hg, rfl⟩
    have hil := (List.getElem?_eq_some_iff.1 hg).1
    obtain ⟨hs, _⟩ := (mem_trees hB.can).1 hm
    refine ⟨i, List.mem_range.2 hil, ?_⟩
    have e : l.getD i [] = canon (.two n a b) := by rw [List.getD_eq_getElem?_getD, hg]; rfl
    obtain ⟨e1, e2, e3, e4⟩ := last_two hs.check hs.tree
    unfold cmOf
    rw [e, e1, e2, e3, e4, (hB.closed.com n a b hm).1]
    simp
end
theorem refl_iff {lg : Int} : reflN lg = true ↔ refl3 lg := by
  unfold reflN refl3
  simp
theorem fold_bits : ∀ (L : List Nat) (p j : Nat), (L.foldl (fun p x => p ||| 2 ^ x) p).testBit j = (p.testBit j || decide (j ∈ L))
  | [], p, j => by simp
  | x :: r, p, j => by
    rw [List.foldl_cons, fold_bits r, Nat.testBit_or, Nat.testBit_two_pow]
    by_cases h : x = j
    · subst h; simp
    · have h' : ¬ j = x := fun e => h e.symm
      simp [h, h', List.mem_cons]
theorem and_sub {t F : Nat} : ((t &&& F) == F) = true ↔ ∀ j, F.testBit j = true → t.testBit j = true := by
  rw [beq_iff_eq]
  constructor
  · intro h j hj
    have := congrArg (fun x => x.testBit j) h
    simp only [Nat.testBit_and, hj, Bool.and_true] at this
    exact this
  · intro h
    refine Nat.eq_of_testBit_eq fun j => ?_
    rw [Nat.testBit_and]
    cases hj : F.testBit j
    · simp
    · rw [h j hj]; rfl
section
variable {l : List (List Nd)} {t0 : Tr} (hB : BaseOk l t0)
include hB
theorem parts_iff {n : Nd} {a b : Tr} (hm : .two n a b ∈ l.map treeOf) (t : Nat) : ((t &&& partsN l (canon (.two n a b))) == partsN l (canon (.two n a b))) = true ↔ ∀ i : Nat, i < 4 → gbit n.g i = true → th l t (unfT i n a b) = true := by
  obtain ⟨hs, _⟩ := (mem_trees hB.can).1 hm
  obtain ⟨_, e2, _, _⟩ := last_two hs.check hs.tree
  have hu : ∀ i, i < 4 → gbit n.g i = true → unfN i (canon (.two n a b)) = canon (unfT i n a b) := fun i hi hg => by
    obtain ⟨hx, _⟩ := (mem_trees hB.can).1 ((hB.closed.com n a b hm).2.2.2.2.2 i hi hg)
    rw [hs.unf hi, hx.short]
  have hth : ∀ i, i < 4 → gbit n.g i = true → th l t (unfT i n a b) = t.testBit (placeN l (unfN i (canon (.two n a b)))).toNat := fun i hi hg => by
    obtain ⟨j, hj, _, h⟩ := th_at hB ((hB.closed.com n a b hm).2.2.2.2.2 i hi hg)
    rw [h, hu i hi hg, place_at hB.nodup hj, Int.toNat_natCast]
  have hpe : partsN l (canon (.two n a b)) = (((List.range 4).filter fun i => gbit n.g i).map fun i => (placeN l (unfN i (canon (.two n a b)))).toNat).foldl (fun p x => p ||| 2 ^ x) 0 := by
    unfold partsN
    rw [e2, List.foldl_map]
  rw [and_sub, hpe]
  constructor
  · intro h i hi hg
    rw [hth i hi hg]
    refine h _ ?_
    rw [fold_bits]
    simp only [Nat.zero_testBit, Bool.false_or, decide_eq_true_iff, List.mem_map]
    exact ⟨i, List.mem_filter.2 ⟨List.mem_range.2 hi, hg⟩, rfl⟩
  · intro h j hj
    rw [fold_bits] at hj
    simp only [Nat.zero_testBit, Bool.false_or, decide_eq_true_iff, List.mem_map] at hj
    obtain ⟨i, hi, rfl⟩ := hj
    obtain ⟨h1, h2⟩ := List.mem_filter.1 hi
    have h1 := List.mem_range.1 h1
    rw [← hth i h1 h2]
    exact h i h1 h2
theorem hold_ev {n : Nd} {a : Tr} (hm : .one n a ∈ l.map treeOf) {u : Nat} (hu : u < 2 ^ l.length) : (tabN l (canon a)).getD u false = ev (th l u) a := by
  obtain ⟨hs, _⟩ := (mem_trees hB.can).1 hm
  rw [tab_get hs.of_one.check hu, hs.of_one.tree]
theorem com_ev {n : Nd} {a b : Tr} (hm : .two n a b ∈ l.map treeOf) {u : Nat} (hu : u < 2 ^ l.length) : (tabN l (canon a)).getD u false = ev (th l u) a ∧ (tabN l (canon b)).getD u false = ev (th l u) b := by
  obtain ⟨hs, _⟩ := (mem_trees hB.can).1 hm
  rw [tab_get hs.of_two.1.check hu, hs.of_two.1.tree, tab_get hs.of_two.2.check hu, hs.of_two.2.tree]
  exact ⟨rfl, rfl⟩
theorem coh_iff {lg : Int} {t : Nat} (ht : t < 2 ^ l.length) : coherentN lg (knowsN l) (commsN l) t = true ↔ Coh lg (l.map treeOf) (th l t) := by
  unfold coherentN
  rw [Bool.and_eq_true, List.all_eq_true, List.all_eq_true]
  constructor
  · rintro ⟨h1, h2⟩
    refine ⟨fun n a b hm => ?_, fun hr n a hm hth => ?_⟩
    · obtain ⟨i, hg, _, hi⟩ := th_at hB hm
      have := h1 _ ((comms_mem hB).2 ⟨i, n, a, b, hm, hg, rfl⟩)
      rw [beq_iff_eq] at this
      simp only at this
      rw [hi, this, parts_iff hB hm]
    · obtain ⟨i, hg, _, hi⟩ := th_at hB hm
      have := h2 _ ((knows_mem hB).2 ⟨i, n, a, hm, hg, rfl⟩)
      simp only at this
      rw [(refl_iff).2 hr, ← hi, hth, hold_ev hB hm ht] at this
      simpa using this
  · rintro ⟨h1, h2⟩
    constructor
    · intro c hc
      obtain ⟨i, n, a, b, hm, hg, rfl⟩ := (comms_mem hB).1 hc
      obtain ⟨j, hg', _, hi⟩ := th_at hB hm
      have hij : j = i := by
        have e1 := place_at hB.nodup hg
        have e2 := place_at hB.nodup hg'
        omega
      subst hij
      rw [beq_iff_eq, Bool.eq_iff_iff, parts_iff hB hm, ← h1 n a b hm, hi]
    · intro k hk
      obtain ⟨i, n, a, hm, hg, rfl⟩ := (knows_mem hB).1 hk
      obtain ⟨j, hg', _, hi⟩ := th_at hB hm
      have hij : j = i := by
        have e1 := place_at hB.nodup hg
        have e2 := place_at hB.nodup hg'
        omega
      subst hij
      simp only
      cases hr : reflN lg
      · rfl
      · rw [← hi, hold_ev hB hm ht]
        cases hth : th l t (.one n a)
        · rfl
        · rw [h2 ((refl_iff).1 hr) n a hm hth]; rfl
theorem poss_iff {lg : Int} {i : Int} {t u : Nat} (hu : u < 2 ^ l.length) : possibleN lg (knowsN l) i t u = true ↔ Poss lg (l.map treeOf) i (th l t) (th l u) := by
  unfold possibleN Poss
  rw [List.all_eq_true]
  constructor
  · intro h n a hm hni
    obtain ⟨j, hg, _, hi⟩ := th_at hB hm
    have := h _ ((knows_mem hB).2 ⟨j, n, a, hm, hg, rfl⟩)
    simp only at this
    rw [hold_ev hB hm hu, ← hi, ← hi] at this
    have hne : (n.i != i) = false := by simpa using hni
    rw [hne] at this
    simpa using this
  · intro h k hk
    obtain ⟨j, n, a, hm, hg, rfl⟩ := (knows_mem hB).1 hk
    obtain ⟨j', hg', _, hi⟩ := th_at hB hm
    have hij : j' = j := by
      have e1 := place_at hB.nodup hg
      have e2 := place_at hB.nodup hg'
      omega
    subst hij
    simp only
    rw [hold_ev hB hm hu, ← hi, ← hi]
    by_cases hni : n.i = i
    · rw [h n a hm hni, Bool.or_true]
    · have : (n.i != i) = true := by simpa using hni
      rw [this]; rfl
end
end Go.Proofs.YtbfeodammikajaaGreat

/- The elimination of types tells the truth. -/

namespace Go.Proofs.YtbfeodammikajaaGreat

theorem find_neg {lg : Int} {ks : List Kn} {al : List Bool} {a : Int} {t : Nat} {wt : Nat → Bool} : nextN lg ks al a t wt < 0 ↔ ∀ u, u < al.length → nextP lg ks al a t wt u = false := by
  unfold nextN
  cases h : (List.range al.length).find? (nextP lg ks al a t wt) with
  | none =>
    rw [List.find?_eq_none] at h
    refine ⟨fun _ u hu => ?_, fun _ => by decide⟩
    have := h u (List.mem_range.2 hu)
    simpa using this
  | some k =>
    obtain ⟨h1, h2, _⟩ := List.find?_range_eq_some.1 h
    refine ⟨fun hn => ?_, fun hn => ?_⟩
    · simp only at hn; omega
    · rw [hn k (List.mem_range.1 h2)] at h1; cases h1
theorem getD_lt {al : List Bool} {t : Nat} (h : al.getD t false = true) : t < al.length := by
  by_cases e : t < al.length
  · exact e
  · rw [List.getD_eq_getElem?_getD, List.getElem?_eq_none (by omega)] at h; cases h
theorem path_iff {lg : Int} {ks : List Kn} {al : List Bool} {c : Cm} {t : Nat} : pathN lg ks al c t = true ↔ ∃ u, Rch (fun a b => stepB lg ks al c a b = true) t u ∧ c.y.getD u false = false := by
  simp [pathN]
/-- The types of a model's worlds. -/
theorem ev_num {l : List (List Nd)} {M : KM} {w : M.W} {t : Nat} (h : ∀ s ∈ l.map treeOf, th l t s = thW M w s) {f : Tr} (hc : cov (l.map treeOf) f) (hl : lang f) : ev (th l t) f = ev (thW M w) f := by
  rw [Bool.eq_iff_iff, evW w hc hl]
  exact ev_sat (fun s hs => by rw [h s hs]; exact thW_iff) f hc hl
/-- A number whose bits are told. -/
theorem num_of (p : Nat → Bool) : ∀ n : Nat, ∃ t, t < 2 ^ n ∧ ∀ i, i < n → t.testBit i = p i
  | 0 => ⟨0, by simp, fun i h => absurd h (by omega)⟩
  | n + 1 => by
    obtain ⟨t, h1, h2⟩ := num_of p n
    cases hp : p n
    · refine ⟨t, by rw [Nat.pow_succ]; omega, fun i hi => ?_⟩
      by_cases e : i < n
      · exact h2 i e
      · have : i = n := by omega
        subst this
        rw [hp, Nat.testBit_lt_two_pow h1]
    · refine ⟨t ||| 2 ^ n, Nat.or_lt_two_pow (by rw [Nat.pow_succ]; omega) (by rw [Nat.pow_succ]; have := Nat.two_pow_pos n; omega), fun i hi => ?_⟩
      rw [Nat.testBit_or, Nat.testBit_two_pow]
      by_cases e : i < n
      · rw [h2 i e]
        have : ¬ n = i := by omega
        simp [this]
      · have : i = n := by omega
        subst this
        simp [hp]
section
variable {l : List (List Nd)} {t0 : Tr} (hB : BaseOk l t0) {lg : Int}
include hB
theorem kn_find {i : Nat} {n : Nd} {a : Tr} (hm : .one n a ∈ l.map treeOf) (hg : l[i]? = some (canon (.one n a))) : (knowsN l).find? (fun k => (k.place : Int) == (i : Int)) = some ⟨n.i, i, tabN l (canon a)⟩ := by
  cases h : (knowsN l).find? (fun k => (k.place : Int) == (i : Int)) with
  | none =>
    rw [List.find?_eq_none] at h
    have := h _ ((knows_mem hB).2 ⟨i, n, a, hm, hg, rfl⟩)
    simp at this
  | some k =>
    obtain ⟨j, n', a', hm', hg', rfl⟩ := (knows_mem hB).1 (List.mem_of_find?_eq_some h)
    have hp := List.find?_some h
    have hij : j = i := by
      have h0 : (j : Int) = (i : Int) := by simpa using hp
      omega
    subst hij
    rw [hg] at hg'
    injection hg' with hg'
    have := ((mem_trees hB.can).1 hm).1.inj ((mem_trees hB.can).1 hm').1 hg'
    injection this with e1 e2
    rw [e1, e2]
theorem kn_none {i : Nat} {n : Nd} {a b : Tr} (hm : .two n a b ∈ l.map treeOf) (hg : l[i]? = some (canon (.two n a b))) : (knowsN l).find? (fun k => (k.place : Int) == (i : Int)) = none := by
  rw [List.find?_eq_none]
  intro k hk
  obtain ⟨j, n', a', hm', hg', rfl⟩ := (knows_mem hB).1 hk
  intro hp
  have hij : j = i := by
    have h0 : (j : Int) = (i : Int) := by simpa using hp
    omega
  subst hij
  rw [hg] at hg'
  injection hg' with hg'
  have := ((mem_trees hB.can).1 hm).1.inj ((mem_trees hB.can).1 hm').1 hg'
  cases this
theorem cm_find {i : Nat} {n : Nd} {a b : Tr} (hm : .two n a b ∈ l.map treeOf) (hg : l[i]? = some (canon (.two n a b))) : (commsN l).find? (fun k => (k.place : Int) == (i : Int)) = some ⟨i, n.g, tabN l (canon a), tabN l (canon b), partsN l (canon (.two n a b))⟩ := by
  cases h : (commsN l).find? (fun k => (k.place : Int) == (i : Int)) with
  | none =>
    rw [List.find?_eq_none] at h
    have := h _ ((comms_mem hB).2 ⟨i, n, a, b, hm, hg, rfl⟩)
    simp at this
  | some k =>
    obtain ⟨j, n', a', b', hm', hg', rfl⟩ := (comms_mem hB).1 (List.mem_of_find?_eq_some h)
    have hp := List.find?_some h
    have hij : j = i := by
      have h0 : (j : Int) = (i : Int) := by simpa using hp
      omega
    subst hij
    rw [hg] at hg'
    injection hg' with hg'
    have := ((mem_trees hB.can).1 hm).1.inj ((mem_trees hB.can).1 hm').1 hg'
    injection this with e1 e2 e3
    rw [e1, e2, e3]
theorem step_iff {al : List Bool} (hl : al.length = 2 ^ l.length) {i : Nat} {n : Nd} {a b : Tr} (hm : .two n a b ∈ l.map treeOf) (t u : Nat) :
    stepB lg (knowsN l) al ⟨i, n.g, tabN l (canon a), tabN l (canon b), partsN l (canon (.two n a b))⟩ t u = true ↔ stepT lg (l.map treeOf) (fun t => al.getD t false = true) (th l) n.g a t u := by
  unfold stepB stepT
  simp only [Bool.and_eq_true, List.any_eq_true, List.mem_range]
  constructor
  · rintro ⟨h1, h2, i, h3, h4, h5⟩
    have hu : u < 2 ^ l.length := hl ▸ getD_lt h1
    exact ⟨h1, by rw [← (com_ev hB hm hu).1]; exact h2, i, h3, h4, (poss_iff hB hu).1 h5⟩
  · rintro ⟨h1, h2, i, h3, h4, h5⟩
    have hu : u < 2 ^ l.length := hl ▸ getD_lt h1
    exact ⟨h1, by rw [(com_ev hB hm hu).1]; exact h2, i, h3, h4, (poss_iff hB hu).2 h5⟩
/-- Types that lack nothing. -/
theorem full_of {al : List Bool} (hl : al.length = 2 ^ l.length) (hc : ∀ t, al.getD t false = true → coherentN lg (knowsN l) (commsN l) t = true)
    (hw : ∀ t, al.getD t false = true → ∀ i : Int, -4 ≤ i → i < l.length → lacksN lg (knowsN l) (commsN l) al t i = false) : Full lg (l.map treeOf) (fun t => al.getD t false = true) (th l) where
  coh t ht := (coh_iff hB (hl ▸ getD_lt ht)).1 (hc t ht)
  ser hs t ht i ho := by
    obtain ⟨n, a, hm, hi⟩ := ho
    obtain ⟨j, hg, _, _⟩ := th_at hB hm
    obtain ⟨_, _, _, h0, h4⟩ := hB.closed.know n a hm
    have h := hw t ht (-1 - i) (by omega) (by omega)
    unfold lacksN at h
    rw [decide_eq_true (show -1 - i < 0 by omega), cond_true] at h
    have hlg : (lg == 1 || lg == 5) = true := by rcases hs with e | e <;> rw [e] <;> rfl
    have hany : (knowsN l).any (fun k => k.agent == -1 - (-1 - i)) = true := by
      rw [List.any_eq_true]
      exact ⟨_, (knows_mem hB).2 ⟨j, n, a, hm, hg, rfl⟩, by simp; omega⟩
    rw [hlg, hany, Bool.true_and, Bool.true_and, decide_eq_false_iff_not, find_neg] at h
    obtain ⟨u, hu⟩ := Classical.not_forall.1 h
    obtain ⟨hul, hp⟩ := Classical.not_imp.1 hu
    have hp : nextP lg (knowsN l) al (-1 - (-1 - i)) t (fun _ => true) u = true := by simpa using hp
    unfold nextP at hp
    rw [Bool.and_eq_true, Bool.true_and, show -1 - (-1 - i) = i by omega] at hp
    exact ⟨u, hp.1, (poss_iff hB (by omega)).1 hp.2⟩
  know t ht n a hm hf := by
    obtain ⟨j, hg, hj, hth⟩ := th_at hB hm
    have h := hw t ht (j : Int) (by omega) (by omega)
    unfold lacksN at h
    rw [decide_eq_false (show ¬ (j : Int) < 0 by omega), cond_false, kn_find hB hm hg] at h
    simp only [Int.toNat_natCast] at h
    rw [← hth, hf, Bool.not_false, Bool.true_and, decide_eq_false_iff_not, find_neg] at h
    obtain ⟨u, hu⟩ := Classical.not_forall.1 h
    obtain ⟨hul, hp⟩ := Classical.not_imp.1 hu
    have hp : nextP lg (knowsN l) al n.i t (fun u => !(tabN l (canon a)).getD u false) u = true := by simpa using hp
    unfold nextP at hp
    rw [Bool.and_eq_true, Bool.and_eq_true] at hp
    have hp2 : (!(tabN l (canon a)).getD u false) = true := hp.2.1
    rw [hold_ev hB hm (by omega)] at hp2
    exact ⟨u, hp.1, by simpa using hp2, (poss_iff hB (by omega)).1 hp.2.2⟩
  com t ht n a b hm hf := by
    obtain ⟨j, hg, hj, hth⟩ := th_at hB hm
    have h := hw t ht (j : Int) (by omega) (by omega)
    unfold lacksN at h
    rw [decide_eq_false (show ¬ (j : Int) < 0 by omega), cond_false, kn_none hB hm hg, cm_find hB hm hg] at h
    simp only [Int.toNat_natCast] at h
    rw [← hth, hf, Bool.not_false, Bool.true_and] at h
    have h : pathN lg (knowsN l) al ⟨j, n.g, tabN l (canon a), tabN l (canon b), partsN l (canon (.two n a b))⟩ t = true := by simpa using h
    rw [path_iff] at h
    obtain ⟨u, hr, hy⟩ := h
    have hr' := hr.mono (fun x y hxy => (step_iff hB hl hm x y).1 hxy)
    have hul : al.getD u false = true := by
      have key : ∀ x y, Rch (stepT lg (l.map treeOf) (fun t => al.getD t false = true) (th l) n.g a) x y → al.getD y false = true := by
        intro x y hxy
        induction hxy with
        | one h => exact h.1
        | cons _ _ ih => exact ih
      exact key t u hr'
    exact ⟨u, hr', by rw [← (com_ev hB hm (hl ▸ getD_lt hul)).2]; exact hy⟩
theorem poss_num {M : KM} {w v : M.W} {t u : Nat} (ht : ∀ s ∈ l.map treeOf, th l t s = thW M w s) (hu : ∀ s ∈ l.map treeOf, th l u s = thW M v s) {i : Int} (h : Poss lg (l.map treeOf) i (thW M w) (thW M v)) : Poss lg (l.map treeOf) i (th l t) (th l u) := by
  intro n a hm hi
  obtain ⟨_, hc, hla, _, _⟩ := hB.closed.know n a hm
  rw [ht _ hm, hu _ hm, ev_num hu hc hla]
  exact h n a hm hi
theorem num_ex {M : KM} (w : M.W) : ∃ t, t < 2 ^ l.length ∧ ∀ s ∈ l.map treeOf, th l t s = thW M w s := by
  obtain ⟨t, h1, h2⟩ := num_of (fun i => thW M w (treeOf (l.getD i []))) l.length
  refine ⟨t, h1, fun s hs => ?_⟩
  obtain ⟨i, hg, hi, hth⟩ := th_at hB hs
  rw [hth, h2 i hi, List.getD_eq_getElem?_getD, hg, Option.getD_some, ((mem_trees hB.can).1 hs).1.tree]
/-- A set that holds the types of all worlds. -/
def Holds (l : List (List Nd)) (M : KM) (al : List Bool) : Prop := ∀ (t : Nat) (w : M.W), t < 2 ^ l.length → (∀ s ∈ l.map treeOf, th l t s = thW M w s) → al.getD t false = true
theorem world_keeps {M : KM} (hM : M.In lg) (hlg : lg ≤ 6) {al : List Bool} (hl : al.length = 2 ^ l.length) (hS : Holds l M al) {t : Nat} {w : M.W} (ht : t < 2 ^ l.length) (hw : ∀ s ∈ l.map treeOf, th l t s = thW M w s) (i : Int) : lacksN lg (knowsN l) (commsN l) al t i = false := by
  have hF := world_full hB.closed hM hlg
  unfold lacksN
  by_cases hi : i < 0
  · rw [decide_eq_true hi, cond_true]
    cases hlg2 : (lg == 1 || lg == 5)
    · rfl
    · rw [Bool.true_and]
      have hs : lg = 1 ∨ lg = 5 := by simpa using hlg2
      cases hany : (knowsN l).any (fun k => k.agent == -1 - i)
      · rfl
      · rw [Bool.true_and, decide_eq_false_iff_not, find_neg]
        intro hno
        rw [List.any_eq_true] at hany
        obtain ⟨k, hk, he⟩ := hany
        obtain ⟨j, n, a, hm, hg, rfl⟩ := (knows_mem hB).1 hk
        have he : n.i = -1 - i := by simpa using he
        obtain ⟨v, _, hp⟩ := hF.ser hs w trivial (-1 - i) ⟨n, a, hm, he⟩
        obtain ⟨u, hu, huv⟩ := num_ex hB v
        have := hno u (by omega)
        unfold nextP at this
        rw [hS u v hu huv, (poss_iff hB hu).2 (poss_num hB hw huv hp)] at this
        cases this
  · rw [decide_eq_false hi, cond_false]
    obtain ⟨j, rfl⟩ := Int.eq_ofNat_of_zero_le (show 0 ≤ i by omega)
    cases hf : (knowsN l).find? (fun k => (k.place : Int) == (j : Int)) with
    | some k =>
      obtain ⟨j', n, a, hm, hg, rfl⟩ := (knows_mem hB).1 (List.mem_of_find?_eq_some hf)
      have hij : j' = j := by
        have h0 : (j' : Int) = (j : Int) := by simpa using List.find?_some hf
        omega
      subst hij
      obtain ⟨j2, hg2, _, hth⟩ := th_at hB hm
      have hij : j2 = j' := by
        have e1 := place_at hB.nodup hg
        have e2 := place_at hB.nodup hg2
        omega
      subst hij
      simp only [Int.toNat_natCast]
      rw [← hth]
      cases hv : th l t (.one n a)
      · rw [Bool.not_false, Bool.true_and, decide_eq_false_iff_not, find_neg]
        intro hno
        obtain ⟨v, _, he, hp⟩ := hF.know w trivial n a hm (by rw [← hw _ hm]; exact hv)
        obtain ⟨u, hu, huv⟩ := num_ex hB v
        have := hno u (by omega)
        obtain ⟨_, hc, hla, _, _⟩ := hB.closed.know n a hm
        unfold nextP at this
        simp only at this
        rw [hS u v hu huv, (poss_iff hB hu).2 (poss_num hB hw huv hp), hold_ev hB hm hu, ev_num huv hc hla, he] at this
        cases this
      · rfl
    | none =>
      simp only
      cases hf2 : (commsN l).find? (fun c => (c.place : Int) == (j : Int)) with
      | none => rfl
      | some k =>
        obtain ⟨j', n, a, b, hm, hg, rfl⟩ := (comms_mem hB).1 (List.mem_of_find?_eq_some hf2)
        have hij : j' = j := by
          have h0 : (j' : Int) = (j : Int) := by simpa using List.find?_some hf2
          omega
        subst hij
        obtain ⟨j2, hg2, _, hth⟩ := th_at hB hm
        have hij : j2 = j' := by
          have e1 := place_at hB.nodup hg
          have e2 := place_at hB.nodup hg2
          omega
        subst hij
        simp only [Int.toNat_natCast]
        rw [← hth]
        cases hv : th l t (.two n a b)
        · rw [Bool.not_false, Bool.true_and, Bool.not_eq_false']
          rw [path_iff]
          obtain ⟨v, hr, he⟩ := hF.com w trivial n a b hm (by rw [← hw _ hm]; exact hv)
          obtain ⟨_, hca, hcb, hla, hlb, _⟩ := hB.closed.com n a b hm
          have lift : ∀ (x y : M.W), Rch (stepT lg (l.map treeOf) (fun _ => True) (thW M) n.g a) x y → ∀ t, t < 2 ^ l.length → (∀ s ∈ l.map treeOf, th l t s = thW M x s) →
              ∃ u, u < 2 ^ l.length ∧ (∀ s ∈ l.map treeOf, th l u s = thW M y s) ∧ Rch (stepT lg (l.map treeOf) (fun t => al.getD t false = true) (th l) n.g a) t u := by
            intro x y hxy
            induction hxy with
            | @one x y h =>
              intro t ht htx
              obtain ⟨u, hu, huy⟩ := num_ex hB y
              obtain ⟨_, hx, i, hi, hg, hp⟩ := h
              exact ⟨u, hu, huy, .one ⟨hS u y hu huy, by rw [ev_num huy hca hla]; exact hx, i, hi, hg, poss_num hB htx huy hp⟩⟩
            | @cons x y z h _ ih =>
              intro t ht htx
              obtain ⟨u, hu, huy⟩ := num_ex hB y
              obtain ⟨_, hx, i, hi, hg, hp⟩ := h
              obtain ⟨u2, h1, h2, h3⟩ := ih u hu huy
              exact ⟨u2, h1, h2, .cons ⟨hS u y hu huy, by rw [ev_num huy hca hla]; exact hx, i, hi, hg, poss_num hB htx huy hp⟩ h3⟩
          obtain ⟨u, hu, huv, hru⟩ := lift w v hr t ht hw
          exact ⟨u, hru.mono (fun x y hxy => (step_iff hB hl hm x y).2 hxy), by rw [(com_ev hB hm hu).2, ev_num huv hcb hlb]; exact he⟩
        · rfl
end
end Go.Proofs.YtbfeodammikajaaGreat

/- A formula is satisfiable, as types say it, exactly if a model of the logic makes it true. -/

namespace Go.Proofs.YtbfeodammikajaaGreat

theorem whyN_some {lg : Int} {ks : List Kn} {cs : List Cm} {m : Nat} {al : List Bool} {t : Nat} {i : Int} (h : whyN lg ks cs m al t = some i) : lacksN lg ks cs al t i = true := by
  unfold whyN at h
  exact List.find?_some h
theorem whyN_none {lg : Int} {ks : List Kn} {cs : List Cm} {m : Nat} {al : List Bool} {t : Nat} (h : whyN lg ks cs m al t = none) (i : Int) (h0 : -4 ≤ i) (h1 : i < m) : lacksN lg ks cs al t i = false := by
  unfold whyN at h
  rw [List.find?_eq_none] at h
  have := h i (List.mem_map.2 ⟨(i + 4).toNat, List.mem_range.2 (by omega), by omega⟩)
  simpa using this
/-- What stays of a set of types is among them. -/
theorem elim_sub (why : List Bool → Nat → Option Int) : ∀ (k : Nat) (s : List Bool × List (Nat × Int)), Sub2 s.1 (elimG why k s).1 := fun k s =>
  elim_keep (S := fun al => Sub2 s.1 al) (fun al t _i h _ _ u hu => h u (set_sub al t u hu)) k s (fun _ h => h)
theorem tab_get' {α : Type} (g : Nat → α) (d : α) {n k : Nat} (h : k < n) : ((List.range n).map g).getD k d = g k := by
  rw [List.getD_eq_getElem?_getD, List.getElem?_map, List.getElem?_range h]
  rfl
/-- A formula whose engine can be made. -/
structure EngOk (lg : Int) (f : List Nd) : Prop where
  l0 : 0 ≤ lg
  l6 : lg ≤ 6
  ck : check f = 0
  x : Xf (expT (treeOf f))
  e : expandN f = canon (expT (treeOf f))
  b : BaseOk (baseN f).1 (expT (treeOf f))
theorem base_parts {f : List Nd} (h : (baseN f).2 = 0) : check f = 0 ∧ langBad f = false ∧ (expandN f).length ≠ 0 ∧ baseN f = baseOfN (expandN f) := by
  unfold baseN at h ⊢
  cases hc : check f != 0
  · rw [hc] at h
    cases hl : langBad f
    · rw [hl] at h
      cases hz : decide ((expandN f).length = 0)
      · exact ⟨by simpa using hc, rfl, of_decide_eq_false hz, rfl⟩
      · rw [hz] at h; cases h
    · rw [hl] at h; cases h
  · rw [hc] at h
    exact absurd h (by simpa using hc)
theorem eng_ok {lg : Int} {f : List Nd} (h : engErr lg f = 0) : EngOk lg f := by
  unfold engErr at h
  cases ha : decide (lg < 0) || decide (6 < lg)
  · rw [ha] at h
    rw [Bool.or_eq_false_iff, decide_eq_false_iff_not, decide_eq_false_iff_not] at ha
    obtain ⟨h1, h2, h3, h4⟩ := base_parts h
    obtain ⟨hx, he⟩ := expand_tree h1 h2 h3
    have h5 : (baseOfN (canon (expT (treeOf f)))).2 = 0 := by rw [← he, ← h4]; exact h
    have hb := base_ok hx h5
    rw [← he, ← h4] at hb
    exact ⟨by omega, by omega, h1, hx, he, hb⟩
  · rw [ha] at h; cases h
section
variable {lg : Int} {f : List Nd}
theorem alive_len (lg : Int) (l : List (List Nd)) : (aliveN lg l).length = 2 ^ l.length := by simp [aliveN]
theorem alive_get {l : List (List Nd)} {t : Nat} (ht : t < 2 ^ l.length) : (aliveN lg l).getD t false = coherentN lg (knowsN l) (commsN l) t := tab_get' _ _ ht
theorem end_len : (endN lg f).1.length = 2 ^ (baseN f).1.length := by
  unfold endN elimN
  rw [elim_len]
  exact alive_len _ _
theorem root_get (h : EngOk lg f) {t : Nat} (ht : t < 2 ^ (baseN f).1.length) : (rootN f).getD t false = ev (th (baseN f).1 t) (expT (treeOf f)) := by
  unfold rootN
  rw [h.e, tab_get h.x.check ht, h.x.tree]
theorem left_iff (h : EngOk lg f) : leftN lg f = true ↔ ∃ t, (endN lg f).1.getD t false = true ∧ ev (th (baseN f).1 t) (expT (treeOf f)) = true := by
  unfold leftN satisfiedN
  rw [List.any_eq_true]
  constructor
  · rintro ⟨t, ht, h2⟩
    rw [Bool.and_eq_true] at h2
    have ht := List.mem_range.1 ht
    rw [end_len] at ht
    exact ⟨t, h2.1, by rw [← root_get h ht]; exact h2.2⟩
  · rintro ⟨t, h1, h2⟩
    have ht := getD_lt h1
    refine ⟨t, List.mem_range.2 ht, ?_⟩
    rw [end_len] at ht
    rw [Bool.and_eq_true, root_get h ht]
    exact ⟨h1, h2⟩
/-- At the end nothing lacks anything. -/
theorem end_full (h : EngOk lg f) : Full lg ((baseN f).1.map treeOf) (fun t => (endN lg f).1.getD t false = true) (th (baseN f).1) := by
  refine full_of h.b end_len (fun t ht => ?_) (fun t ht i h0 h1 => ?_)
  · have hs := elim_sub (whyN lg (knowsN (baseN f).1) (commsN (baseN f).1) (baseN f).1.length) _ (aliveN lg (baseN f).1, []) t ht
    have hl := getD_lt hs
    rw [alive_len] at hl
    rw [← alive_get hl]
    exact hs
  · have := elim_end (why := whyN lg (knowsN (baseN f).1) (commsN (baseN f).1) (baseN f).1.length) ((aliveN lg (baseN f).1).length + 1) (aliveN lg (baseN f).1, []) (by have := cnt_le (aliveN lg (baseN f).1); show cnt (aliveN lg (baseN f).1) < _; omega) t ht
    exact whyN_none this i h0 h1
/-- The types of a model's worlds are never taken away. -/
theorem start_holds (h : EngOk lg f) {M : KM} (hM : M.In lg) : Holds (baseN f).1 M (aliveN lg (baseN f).1) := fun t w ht hw => by
  rw [alive_get ht, coh_iff h.b ht]
  have hc := world_coh h.b.closed hM w
  refine ⟨fun n a b hm => ?_, fun hr n a hm hth => ?_⟩
  · rw [hw _ hm, hc.com n a b hm]
    constructor
    · intro k i hi hg
      rw [hw _ ((h.b.closed.com n a b hm).2.2.2.2.2 i hi hg)]
      exact k i hi hg
    · intro k i hi hg
      rw [← hw _ ((h.b.closed.com n a b hm).2.2.2.2.2 i hi hg)]
      exact k i hi hg
  · obtain ⟨_, hca, hla, _, _⟩ := h.b.closed.know n a hm
    rw [ev_num hw hca hla]
    exact hc.know hr n a hm (by rw [← hw _ hm]; exact hth)
theorem holds_set (h : EngOk lg f) {M : KM} (hM : M.In lg) (al : List Bool) (t : Nat) (i : Int) (hl : al.length = 2 ^ (baseN f).1.length) (hS : Holds (baseN f).1 M al) (hk : lacksN lg (knowsN (baseN f).1) (commsN (baseN f).1) al t i = true) : Holds (baseN f).1 M (al.set t false) := fun u w hu hw => by
  rw [set_getD]
  cases e : u == t
  · exact hS u w hu hw
  · have : u = t := by simpa using e
    subst this
    rw [world_keeps h.b hM h.l6 hl hS hu hw i] at hk
    cases hk
theorem end_holds (h : EngOk lg f) {M : KM} (hM : M.In lg) : Holds (baseN f).1 M (endN lg f).1 := by
  have := elim_keep (why := whyN lg (knowsN (baseN f).1) (commsN (baseN f).1) (baseN f).1.length) (S := fun al => al.length = 2 ^ (baseN f).1.length ∧ Holds (baseN f).1 M al)
    (fun al t i hS _ hw => ⟨by rw [List.length_set]; exact hS.1, holds_set h hM al t i hS.1 hS.2 (whyN_some hw)⟩) ((aliveN lg (baseN f).1).length + 1) (aliveN lg (baseN f).1, []) ⟨alive_len _ _, start_holds h hM⟩
  exact this.2
/-- Satisfiable tells the truth. -/
theorem sat_truth (h : EngOk lg f) : leftN lg f = true ↔ ∃ M : KM, M.In lg ∧ ∃ w, M.sat (treeOf f) w := by
  rw [left_iff h]
  constructor
  · rintro ⟨t, h1, h2⟩
    have hF := end_full h
    refine ⟨modT lg ((baseN f).1.map treeOf) (fun t => (endN lg f).1.getD t false = true) (th (baseN f).1), modT_in hF h.l6, ⟨t, h1⟩, ?_⟩
    exact (sat_exp (M := modT lg ((baseN f).1.map treeOf) (fun t => (endN lg f).1.getD t false = true) (th (baseN f).1)) (treeOf f) ⟨t, h1⟩).1 ((truth h.b.closed hF _ h.b.cov h.x.xp.lang h.x.xp.fact ⟨t, h1⟩).1 h2)
  · rintro ⟨M, hM, w, hw⟩
    obtain ⟨t, ht, htw⟩ := num_ex h.b w
    refine ⟨t, end_holds h hM t w ht htw, ?_⟩
    rw [ev_num htw h.b.cov h.x.xp.lang, evW w h.b.cov h.x.xp.lang, sat_exp]
    exact hw
/-- No elimination refutes what a model makes true. -/
theorem check_sound (h : EngOk lg f) {ts : List Nat} {ws : List Int} (hc : checkT lg f ts ws = 0) {M : KM} (hM : M.In lg) (w : M.W) : ¬ M.sat (treeOf f) w := by
  intro hw
  unfold checkT at hc
  cases he : engErr lg f != 0
  · rw [he] at hc
    cases hl : ts.length != ws.length
    · rw [hl] at hc
      simp only [cond_false] at hc
      cases hg : checkG (lacksN lg (knowsN (baseN f).1) (commsN (baseN f).1)) ts ws (aliveN lg (baseN f).1) with
      | none => rw [hg] at hc; cases hc
      | some al =>
        rw [hg] at hc
        have hk := check_keep (lk := lacksN lg (knowsN (baseN f).1) (commsN (baseN f).1)) (S := fun al => al.length = 2 ^ (baseN f).1.length ∧ Holds (baseN f).1 M al)
          (fun al t i hS _ hw => ⟨by rw [List.length_set]; exact hS.1, holds_set h hM al t i hS.1 hS.2 hw⟩) ts ws _ al ⟨alive_len _ _, start_holds h hM⟩ hg
        obtain ⟨t, ht, htw⟩ := num_ex h.b w
        have h1 := hk.2 t w ht htw
        have hs : satisfiedN al (rootN f) = true := by
          unfold satisfiedN
          rw [List.any_eq_true]
          refine ⟨t, List.mem_range.2 (getD_lt h1), ?_⟩
          rw [h1, root_get h ht, ev_num htw h.b.cov h.x.xp.lang, Bool.true_and, evW w h.b.cov h.x.xp.lang, sat_exp]
          exact hw
        simp only [hs, cond_true] at hc
        cases hc
    · rw [hl] at hc; cases hc
  · rw [he] at hc
    exact absurd hc (by simpa using he)
end
end Go.Proofs.YtbfeodammikajaaGreat

/- append to a row of the call's own, as one step of a region that draws its order. -/

namespace Go.Proofs.YtbfeodammikajaaGreat
open Go.RowKit

/-- append to a row of the call's own, as one step of a region that draws. -/
theorem step_append_at {P : Program} {ops : Array Oper} {o : Oper} {a : Act} {w : World} {K : Act → World → Prop} {Q : Exit → Act → World → Prop} {E : Prop}
    (hgd : o.guard = none) (s x : Operand) (t : TypeId) (ho : o.op = .call { callee := .builtin .append, args := #[s, x], argTypes := #[t, t] })
    (base : Nat) (e : TypeId) (i : TypeInfo) (z : Value) (size bytes : Nat) (ht : P.underlying t = some (.slice e)) (hi : P.info? e = some i) (hz : i.zero = some z)
    (hsize : i.size = size) (hby : i.bytes = bytes) (hzs : z.cells.size = size) (hsz : 0 < size)
    (v : Value) (n : Nat) (xs : List Value) (hs : a.eval s = v) (hown : w.ownsRow base e size v n xs)
    (ad : Addr) (m c : Nat) (news : List Value) (hx : a.eval x = .slice (some ad) m c) (hl : news.length = m * size) (hnews : ∀ j u, news[j]? = some u → w.cell? (ad.add j) = some u) (h1 : ∀ u ∈ news, u.oneCell' = true)
    (h63 : n + m ≤ maxLen) (hbytes : (n + m) * bytes ≤ 140737488355328) (hbase : base ≤ w.heap.size)
    (h : ∀ v' w', w'.ownsRow base e size v' (n + m) (xs ++ news) → w.grownBy w' v.ownBlock → (v'.ownBlock = v.ownBlock ∨ v'.ownBlock = some w.heap.size) → K (a.put o.dst v') w') :
    if Region.wanted o (yielded ops a.tmps) = true then Oper.wp P o a w K Q else E := by
  have hw : Region.wanted o (yielded ops a.tmps) = true := by simp [Region.wanted, hgd]
  rw [if_pos hw]
  obtain ⟨v', w', hr, h2, h3, _, h5⟩ := run_append_own_at (P := P) w base t o.type e i z size bytes ht hi hz hsize hby hzs hsz v n xs hown ad m c news hl hnews h1 h63 hbytes hbase
  unfold Oper.wp execOp
  simp only [ho, resolve, invoke, builtin, Sem.run_bind, Sem.run_pure, Result.andThen_ok, List.map_toArray, List.map_cons, List.map_nil, hs, hx, hr]
  exact h v' w' h2 h3 h5
end Go.Proofs.YtbfeodammikajaaGreat

/- Short forms of the moves of a walk by RegU. -/

namespace Go.Proofs.YtbfeodammikajaaGreat
open Go.RowKit

section
variable {P : Program} {md : Region.Mode} {ops : Array Oper} {Q : Exit → Act → World → Prop} {S : World → Prop} {z : Nat}
theorem utk (i : Nat) {oi : Oper} {v : Value} {n : Nat} {up : Array Bool} {a a' : Act} {w : World} (hS : S w)
    (h : OrdU P md ops Q S z n (up.setIfInBounds i true) a' w)
    (hi : ops[i]? = some oi := by exact rfl) (hs : Region.noSelect ops = true := by kernel_rfl) (hf : Region.free md ops up i = true := by kernel_rfl) (hr : (Region.ready md ops up).contains i = true := by kernel_rfl) (hz : waitsB md ops z i = true := by kernel_rfl)
    (hy : YieldsIf P ops S oi v a := by refine Or.inl ⟨by rfl, ?_⟩; intro w' hSw; (try dsimp only at hSw); go_simp; (try with_reducible rfl))
    (hQ : ∀ c a w, Q (.panic c) (a.put oi.dst v) w → Q (.panic c) a w := by exact fun _ _ _ h => h)
    (ha : a.put oi.dst v = a' := by (try simp only [Act.put, List.setIfInBounds_toArray, List.set_cons_zero, List.set_cons_succ, List.getElem_toArray, List.getElem_cons_succ, List.getElem_cons_zero]); exact rfl) : OrdU P md ops Q S z (n + 1) up a w :=
  ordU_take hi hs hf hr hz hQ hy hS (by rw [ha]; exact h)
end
section
variable {a b : World} {p : Addr} {v : Value}
theorem xd (hb : p.block < a.heap.size) (f : a.cell? p = some v) (h : Ext a b := by repeat (first | exact Ext.refl _ | assumption | apply Ext.alloc | apply Ext.drew | apply Ext.setCell)) : b.cell? p = some v := (h.cell hb).trans f
theorem xv (e : Ext a b := by repeat (first | exact Ext.refl _ | assumption | apply Ext.alloc | apply Ext.drew | apply Ext.setCell)) : Ext a b := e
end
end Go.Proofs.YtbfeodammikajaaGreat
