/- formula.Subs: the walk. -/
import Derived.Test.YtbfeodammikajaaGreatG11
import Derived.Test.YtbfeodammikajaaGreatG09
import Derived.Test.YtbfeodammikajaaGreatG07
import Derived.Laws.Bits64b
import Derived.Test.YtbfeodammikajaaGreatG10
import Derived.Deep.DeepCutAuto
import Derived.Deep.CutBlock
import Derived.Test.YtbfeodammikajaaGreatG01
import Derived.Deep.MidRow

namespace Go.Proofs.YtbfeodammikajaaGreat
open Go.RowKit

theorem FRow.before {w0 w w' : World} {vo : Value} {out : List (List Nd)} (h : FRow w w' vo out) (he : Ext w0 w) : FRow w0 w' vo out := by
  obtain ⟨us, hr, hu⟩ := h.row
  refine ⟨he.trans h.ext, us, row_base hr he.size, fun k s hk => ?_⟩
  obtain ⟨u, a, b, c⟩ := hu k s hk
  exact ⟨u, a, b, fun g hg => ⟨(c g hg).1, (c g hg).2.1, Nat.le_trans he.size (c g hg).2.2⟩⟩
/-- A formula of a row, at its cell. -/
theorem FRow.get {w0 w : World} {g cap : Nat} {out : List (List Nd)} (h : FRow w0 w (.slice (some ⟨g, 0, none⟩) out.length cap) out) {k : Nat} {s : List Nd} (hk : out[k]? = some s) : ∃ u, w.cell? ⟨g, k, none⟩ = some u ∧ Fml w u s ∧ g < w.heap.size := by
  obtain ⟨us, hr, hu⟩ := h.row
  have h0 : 0 < out.length := Nat.lt_of_le_of_lt (Nat.zero_le k) (List.getElem?_eq_some_iff.1 hk).1
  obtain ⟨g', cap', e, hg, _, _, hc⟩ := row1_cellsF hr h0
  injection e with e1 _ _
  injection e1 with e1
  injection e1 with e1
  subst e1
  obtain ⟨u, a, b, _⟩ := hu k s hk
  exact ⟨u, hc k u a, b, hg⟩
theorem FRow.slice {w0 w : World} {v : Value} {out : List (List Nd)} (h : FRow w0 w v out) (h0 : 0 < out.length) : ∃ g cap, v = .slice (some ⟨g, 0, none⟩) out.length cap ∧ out.length ≤ cap ∧ cap ≤ maxLen := by
  obtain ⟨us, hr, hu⟩ := h.row
  obtain ⟨g', cap', e, hg, h1, h2, hc⟩ := row1_cellsF hr h0
  exact ⟨g', cap', e, h1, h2⟩
theorem group_of {n : Nd} (h : headOk n) (hk : n.op = 11 ∨ n.op = 13) : 0 ≤ n.g ∧ n.g < 16 := by
  obtain ⟨_, _, h3, _, _⟩ := h
  unfold rangeBad at h3
  rcases hk with ho | ho <;> (rw [ho] at h3; simp [outsideB, hasFact, hasAgent, hasEvent, hasGroup] at h3; omega)
theorem range_step' (base : List Nd) (k : Nat) : (List.range (k + 1)).map (fun (i : Nat) => subN base i) = (List.range k).map (fun (i : Nat) => subN base i) ++ [subN base k] := by
  rw [List.range_succ, List.map_append]
  rfl
set_option maxRecDepth 100000 in
set_option maxHeartbeats 8000000 in
theorem subs_any (v : Value) (f : List Nd) (w : World) (h : Fml w v f) (hc : check f = 0) :
    Calls Tryz.prog 124 #[v] w fun e w' => ∃ u, e = .returned u ∧ FRow w w' u (subsN f) := by
  have H := Lib.hid h
  obtain ⟨iI, hiI, hzI0, hzI1, hzI2⟩ := info_parts tInfoF2
  obtain ⟨A, c, rfl, _⟩ := fml_slice h
  have hp := compactN_props hc
  obtain ⟨base, hbase⟩ : ∃ b, b = compactN f := ⟨_, rfl⟩
  have hcb : check base = 0 := hbase ▸ compactN_check hc
  have hlen : base.length ≤ 200 := hbase ▸ Nat.le_trans hp.2.1 (check_parts hc).2.1
  have HB := Lib.hid (show subsN f = formulasN base by rw [hbase]; rfl)
  have HBB := Lib.hid hbase
  have HCB := Lib.hid hcb
  clear h hp hbase hcb hc
  go_enter Tryz.func124, Tryz.ntmps124
  go_wp2_with fail
  refine (compactF_any _ f _ H.out).mono ?_
  rintro e w0 ⟨uc, rfl, hm0⟩
  rw [← HBB.out] at hm0
  have HM0 := Lib.hid hm0
  obtain ⟨Ac, cc, rfl, hat⟩ := fml_slice hm0.fml
  have HAT := Lib.hid hat
  clear hm0 hat
  go_wp2_with fail
  go_loopw [3, 10] (fun vo vi wr => ∃ k : Nat, vi = .int .i64 (k : Int) ∧ k ≤ base.length ∧ Hid (∃ out, out = (List.range k).map (fun (i : Nat) => subN base i) ∧ FRow w0 wr vo out)) (fun _ v _ => base.length - (intOf v).toNat)
  case atStart => exact ⟨0, rfl, Nat.zero_le _, Lib.hid ⟨[], rfl, FRow.nil _⟩⟩
  case round =>
    obtain ⟨k, rfl, hk, HREL⟩ := hrel
    obtain ⟨out, ho, hfr⟩ := HREL.out
    obtain ⟨us, hrow, hus⟩ := hfr.row
    obtain ⟨Ao, co, rfl⟩ := slice_of_row hrow
    have HO := Lib.hid ho
    have HFR := Lib.hid hfr
    have HROW := Lib.hid hrow
    have HUS := Lib.hid hus
    have hol : out.length ≤ 1000 := by rw [ho]; simp; omega
    clear HREL ho hfr hrow hus
    by_cases hlt2 : k < base.length
    · have hk1 : (k : Int) < (base.length : Int) := by omega
      have hc3 : out.length + 1 ≤ maxLen := by unfold maxLen; omega
      have hc4 : (out.length + 1) * 24 ≤ 140737488355328 := by omega
      have HSB := Lib.hid (show subN base (k : Int) = (finN base k []).1 by
        unfold subN
        rw [HCB.out, show (decide ((k : Int) < 0) || decide ((base.length : Int) ≤ (k : Int))) = false by simp; omega]
        rfl)
      go_wp2_with fail
      refine (compact_any base _ _ k _ (check_wf HCB.out) HM0.out.2.1 (by omega) hlt2 (HAT.out.ext HFR.out.ext)).mono ?_
      rintro e w1 ⟨u, rfl, hrowc, hoks, hext⟩
      have hm : Made wr w1 u (subN base (k : Int)) := by rw [HSB.out]; exact ⟨hrowc, hoks, hext⟩
      have X1 := Lib.hid (HFR.out.ext.trans hm.2.2)
      have Y1 := Lib.hid hm.2.2
      have HM := Lib.hid hm
      obtain ⟨Au, cu, rfl, _⟩ := fml_slice hm.fml
      clear hm hrowc hoks hext
      go_wp2_with (at_builtin; refine wpList_append_own_at _ rfl _ _ 49 rfl w0.heap.size 22 iI (.slice none 0 0) 1 24 Tryz.underlying49 hiI hzI0 hzI1 hzI2 rfl (by decide) _ out.length us rfl (row_ext HROW.out (Y1.out.alloc _)) ⟨_, 0, none⟩ 1 1 [.slice Au (subN base (k : Int)).length cu] rfl rfl (row_new_at _ _ _ (by simp)) (fun u hu => by rw [List.mem_singleton.1 hu]; rfl) hc3 hc4 (Nat.le_trans HFR.out.ext.size (Y1.out.alloc _).size) ?_)
      intro v7 w7 hown7 hgrow7 _ hat7
      have HPS := Lib.hid (FRow.push (s := subN base (k : Int)) (X1.out.alloc _) (row_ext HROW.out (Y1.out.alloc _)) (fun k s hk => by
        obtain ⟨u, a, b, c⟩ := HUS.out k s hk
        exact ⟨u, a, b.ext (Y1.out.alloc _), c.ext (Y1.out.alloc _)⟩) hown7 hgrow7 (hat7.imp id (fun e => e.trans (by simp))) (HM.out.fml.ext ((Ext.refl _).alloc _)) (made_away (Nat.le_refl _) (row_ext HM.out.1 ((Ext.refl _).alloc _)) HROW.out HFR.out.ext.size))
      obtain ⟨A7, c7, rfl⟩ := slice_of_row hown7
      clear hown7 hgrow7 hat7
      go_wp2_with fail
      go_roundw
      case rel => exact ⟨k + 1, by go_num, by omega, Lib.hid ⟨_, by rw [range_step', ← HO.out], HPS.out⟩⟩
      case measure => simp [intOf]; omega
    · obtain rfl : base.length = k := by omega
      go_wp2_with fail
      go_ret
      exact ⟨_, rfl, by rw [HB.out, show formulasN base = out from HO.out.symm]; exact HFR.out.before HM0.out.ext⟩
end Go.Proofs.YtbfeodammikajaaGreat

/- Bits of words, as a walk shows them. -/

namespace Go.Proofs.YtbfeodammikajaaGreat
open Go.RowKit

theorem testBit_int (s k : Nat) : s.testBit k = (s / 2 ^ k % 2 == 1) := by
  rw [Nat.testBit_eq_decide_div_mod_eq]
  rfl
theorem shr_nat (s k : Nat) : (s : Int) / 2 ^ k = ((s / 2 ^ k : Nat) : Int) := by
  rw [show ((2 : Int) ^ k) = ((2 ^ k : Nat) : Int) by simp]
  rfl
theorem shr_and_one (s k : Nat) (hs : s < 18446744073709551616) : (bits .and .u64 ((s : Int) / 2 ^ k) 1 == 1) = s.testBit k := by
  have hlt : s / 2 ^ k < 18446744073709551616 := Nat.lt_of_le_of_lt (Nat.div_le_self _ _) hs
  rw [shr_nat, show (1 : Int) = ((1 : Nat) : Int) from rfl, bits_and_u64_nat _ 1 hlt (by decide), Nat.and_one_is_mod, testBit_int]
  generalize s / 2 ^ k % 2 = r
  rw [Bool.eq_iff_iff, beq_iff_eq, beq_iff_eq]
  omega
theorem i64_and_nat (a b : Nat) (ha : a < 9223372036854775808) (hb : b < 9223372036854775808) : bits .and .i64 (a : Int) (b : Int) = ((a &&& b : Nat) : Int) := by
  have hx : a &&& b < 2 ^ 63 := Nat.and_lt_two_pow _ (by omega)
  show IntKind.i64.wrap ((BitVec.ofInt 64 (a : Int) &&& BitVec.ofInt 64 (b : Int)).toNat : Int) = _
  rw [BitVec.toNat_and, ofInt_i64 a ha, ofInt_i64 b hb, IntKind.wrap_i64]
  omega
theorem shr_and_one_i (s k : Nat) (hs : s < 9223372036854775808) : (bits .and .i64 ((s : Int) / 2 ^ k) 1 == 1) = s.testBit k := by
  have hlt : s / 2 ^ k < 9223372036854775808 := Nat.lt_of_le_of_lt (Nat.div_le_self _ _) hs
  rw [shr_nat, show (1 : Int) = ((1 : Nat) : Int) from rfl, i64_and_nat _ 1 hlt (by decide), Nat.and_one_is_mod, testBit_int]
  generalize s / 2 ^ k % 2 = r
  rw [Bool.eq_iff_iff, beq_iff_eq, beq_iff_eq]
  omega
theorem shr_and_zero_i (s k : Nat) (hs : s < 9223372036854775808) : (bits .and .i64 ((s : Int) / 2 ^ k) 1 == 0) = !s.testBit k := by
  have hlt : s / 2 ^ k < 9223372036854775808 := Nat.lt_of_le_of_lt (Nat.div_le_self _ _) hs
  rw [shr_nat, show (1 : Int) = ((1 : Nat) : Int) from rfl, i64_and_nat _ 1 hlt (by decide), Nat.and_one_is_mod, testBit_int]
  rcases Nat.mod_two_eq_zero_or_one (s / 2 ^ k) with h | h <;> rw [h] <;> rfl
end Go.Proofs.YtbfeodammikajaaGreat

/- types' baseOf: the walk. -/

namespace Go.Proofs.YtbfeodammikajaaGreat
open Go.RowKit

/-- The row's block lies from a bound on. -/
def From (m : Nat) (v : Value) : Prop := ∀ g, v.ownBlock = some g → m ≤ g
theorem From.next {m N : Nat} {v v' : Value} (h : From m v) (hm : m ≤ N) (hat : v'.ownBlock = v.ownBlock ∨ v'.ownBlock = some N) : From m v' := fun g hg => by
  rcases hat with e | e
  · exact h g (e ▸ hg)
  · rw [e] at hg; injection hg with hg; omega
/-- A value that lies ahead of the row. -/
theorem away_of {m B : Nat} {w W : World} {vo x : Value} (hx : ∀ g, x.ownBlock = some g → g < w.heap.size ∧ m ≤ g) (hB : w.heap.size ≤ B) (hv : From B vo) (he : w.heap.size ≤ W.heap.size) : Away m W vo x := fun g hg => by
  obtain ⟨h1, h2⟩ := hx g hg
  exact ⟨by omega, fun e => by have := hv g e; omega, h2⟩
theorem unfS_unfN {c : List Nd} (h : (lastN c).op = 13) (q : Nat) : unfS (q : Int) c = unfN q c := by
  unfold unfS unfN topA topB
  rw [h]
  rfl
theorem filt_step {l : List (List Nd)} {k : Nat} {s : List Nd} (h : l[k]? = some s) : (l.take (k + 1)).filter (fun s => isBase (lastN s)) = (l.take k).filter (fun s => isBase (lastN s)) ++ (bif isBase (lastN s) then [s] else []) := by
  rw [take_succ_eq h, List.filter_append, List.filter_cons]
  cases isBase (lastN s) <;> rfl
def BaseRes (wi : World) (r : List (List Nd) × Int) (e : Ending) (w' : World) : Prop := ∃ u, e = .returned (.tuple #[u, .int .i64 r.2]) ∧ Ext wi w' ∧ FRow wi w' u r.1
set_option maxRecDepth 100000 in
set_option maxHeartbeats 16000000 in
theorem baseOf_any (v : Value) (t : Tr) (w : World) (ht : Xf t) (h : Fml w v (canon t)) :
    Calls Tryz.prog 65 #[v] w (BaseRes w (baseOfN (canon t))) := by
  have H := Lib.hid h
  have HT := Lib.hid ht
  obtain ⟨iI, hiI, hzI0, hzI1, hzI2⟩ := info_parts tInfoF2
  obtain ⟨A, c, rfl, _⟩ := fml_slice h
  obtain ⟨sl, hsl⟩ : ∃ b, b = subsN (canon t) := ⟨_, rfl⟩
  have hsl200 : sl.length ≤ 200 := by rw [hsl, ht.subs]; simpa using ht.len
  have HSL := Lib.hid hsl
  have HSX := Lib.hid (show ∀ s ∈ sl, ∃ u, Xf u ∧ s = canon u by
    rw [hsl, ht.subs]
    intro s hs
    obtain ⟨i, hi, rfl⟩ := List.mem_map.1 hs
    exact ⟨_, ht.at (List.mem_range.1 hi), rfl⟩)
  clear h ht hsl
  go_enter Tryz.func65, Tryz.ntmps65
  go_wp2_with fail
  refine (subs_any _ (canon t) _ H.out HT.out.check).mono ?_
  rintro e w1 ⟨uc, rfl, hm0⟩
  rw [← HSL.out] at hm0
  have HM0 := Lib.hid hm0
  obtain ⟨As, cs, rfl, hcap, hmax, hread⟩ := hm0.fmls
  have HREAD := Lib.hid hread
  unfold maxLen at hmax
  have HUS0 := Lib.hid hm0.row
  clear hm0 hread
  go_wp2_with fail
  go_loopw [4, 19] (fun vo vi wr => ∃ k : Nat, vi = .int .i64 (k : Int) ∧ k ≤ sl.length ∧ Hid (∃ ol, ol = (sl.take k).filter (fun s => isBase (lastN s)) ∧ FRow w wr vo ol ∧ Ext w1 wr ∧ From w1.heap.size vo)) (fun _ v _ => sl.length - (intOf v).toNat)
  case atStart => exact ⟨0, rfl, Nat.zero_le _, Lib.hid ⟨[], rfl, (FRow.nil _).before HM0.out.ext, Ext.refl _, fun g hg => by cases hg⟩⟩
  case round =>
    obtain ⟨k, rfl, hk, HREL⟩ := hrel
    obtain ⟨ol, hol, hfr, hx, hfm⟩ := HREL.out
    obtain ⟨us, hrow, hus⟩ := hfr.row
    obtain ⟨Ao, co, rfl⟩ := slice_of_row hrow
    have HOL := Lib.hid hol
    have HFR := Lib.hid hfr
    have HROW := Lib.hid hrow
    have HUS := Lib.hid hus
    have HX := Lib.hid hx
    have HFM := Lib.hid hfm
    have hol2 : ol.length ≤ 200 := by
      rw [hol]
      refine Nat.le_trans (List.length_filter_le _ _) ?_
      rw [List.length_take]
      omega
    clear HREL hol hfr hrow hus hx hfm
    by_cases hlt2 : k < sl.length
    · have hk1 : (k : Int) < (sl.length : Int) := by omega
      obtain ⟨s, hs⟩ : ∃ s, sl[k]? = some s := ⟨_, List.getElem?_eq_getElem hlt2⟩
      obtain ⟨ad, rfl, hblk, hcells⟩ := HREAD.out (by intro e; rw [e] at hlt2; simp at hlt2)
      obtain ⟨u, hu, hf⟩ := hcells k s hs
      have a0 := (HX.out.cell (p := ad.add k) (by rw [block_of_add]; exact hblk)).trans hu
      have hblk2 : (ad.add k).block < wr.heap.size := by rw [block_of_add]; exact Nat.lt_of_lt_of_le hblk HX.out.size
      have HF := Lib.hid (hf.ext HX.out)
      have HS := Lib.hid hs
      obtain ⟨su, hsu, hse⟩ := HSX.out s (List.mem_of_getElem? hs)
      have hs0 : 0 < s.length := by rw [hse]; exact canon_pos hsu.xp.1.1
      obtain ⟨Au, cu, rfl, _⟩ := fml_slice hf
      have HAW := Lib.hid (show ∀ g, (Value.slice Au s.length cu).ownBlock = some g → g < w1.heap.size ∧ w.heap.size ≤ g by
        obtain ⟨us0, hr0, hu0⟩ := HUS0.out
        obtain ⟨u', hu', _, haw⟩ := hu0 k s hs
        have h0 : 0 < sl.length := by omega
        obtain ⟨g', cap', e', _, _, _, hc'⟩ := row1_cellsF hr0 h0
        injection e' with e1 _ _
        injection e1 with e1
        subst e1
        have hcell := hc' k u' hu'
        rw [show ((⟨g', 0, none⟩ : Addr).add k) = ⟨g', k, none⟩ from addr_zero g' k] at hu
        rw [hcell] at hu
        injection hu with hu
        subst hu
        exact fun g hg => ⟨(haw g hg).1, (haw g hg).2.2⟩)
      clear hs hcells hf hu hsu hse
      obtain ⟨wq, hwq⟩ : ∃ v, v = wr := ⟨_, rfl⟩
      subst hwq
      go_wp2_with fail
      refine (top_any _ s _ HF.out hs0).mono ?_
      rintro e w2 ⟨u1, u2, rfl, hx2, hf1, hf2⟩
      have HX2 := Lib.hid hx2
      obtain ⟨n, hn⟩ : ∃ n, n = lastN s := ⟨_, rfl⟩
      rw [← hn]
      have HN := Lib.hid hn
      unfold Nd.val
      obtain ⟨A1, c1, rfl, _⟩ := fml_slice hf1
      obtain ⟨A2, c2, rfl, _⟩ := fml_slice hf2
      clear hx2 hf1 hf2 hn
      have HXW := Lib.hid (show Ext wq (w2.alloc (.cells #[.int .i64 n.op, .int .i64 n.i, .int .i64 n.e, .int .i64 n.g, .int .i64 n.x, .int .i64 n.y] 93)) from HX2.out.alloc _)
      have HSTEP := Lib.hid (filt_step HS.out)
      rw [← HN.out, ← HOL.out] at HSTEP
      rcases base_cases n with hop | ⟨t3, t9, t13⟩
      · have hb := Lib.hid (show isBase n = true by unfold isBase; rcases hop with e | e | e <;> rw [e] <;> rfl)
        have hc3 : ol.length + 1 ≤ maxLen := by unfold maxLen; omega
        have hc4 : (ol.length + 1) * 24 ≤ 140737488355328 := by omega
        have HTT := Lib.hid (show ((n.op == 3) = true) ∨ ((n.op == 3) = false ∧ (n.op == 9) = true) ∨ ((n.op == 3) = false ∧ (n.op == 9) = false ∧ (n.op == 13) = true) by rcases hop with e | e | e <;> rw [e] <;> simp)
        clear hop
        rcases HTT.out with t3 | ⟨t3, t9⟩ | ⟨t3, t9, t13⟩
        all_goals
          go_wp2_with (at_builtin; refine wpList_append_own_at _ rfl _ _ 49 rfl w.heap.size 22 iI (.slice none 0 0) 1 24 Tryz.underlying49 hiI hzI0 hzI1 hzI2 rfl (by decide) _ ol.length us rfl (row_ext HROW.out (HXW.out.alloc _)) ⟨_, 0, none⟩ 1 1 [.slice Au s.length cu] rfl rfl (row_new_at _ _ _ (by simp)) (fun u hu => by rw [List.mem_singleton.1 hu]; rfl) hc3 hc4 (Nat.le_trans HFR.out.ext.size (HXW.out.alloc _).size) ?_)
          intro v7 w7 hown7 hgrow7 _ hat7
          have HFM7 := Lib.hid (HFM.out.next (by have := HX.out.size; have := HXW.out.size; simp at this; omega) hat7)
          have HX7 := Lib.hid (Ext.grown (HX.out.trans (HXW.out.alloc (.cells #[.slice Au s.length cu] 22))) hgrow7 HFM.out)
          have HPS := Lib.hid (FRow.push (s := s) ((HFR.out.ext.trans HXW.out).alloc _) (row_ext HROW.out (HXW.out.alloc _)) (fun k s hk => by
            obtain ⟨u, a, b, c⟩ := HUS.out k s hk
            exact ⟨u, a, b.ext (HXW.out.alloc _), c.ext (HXW.out.alloc _)⟩) hown7 hgrow7 (hat7.imp id (fun e => e.trans (by simp))) (HF.out.ext (HXW.out.alloc _)) (away_of HAW.out (Nat.le_refl _) HFM.out (Nat.le_trans HX.out.size (HXW.out.alloc _).size)))
          obtain ⟨A7, c7, rfl⟩ := slice_of_row hown7
          clear hown7 hgrow7 hat7
          go_wp2_with fail
          go_roundw
          case rel => exact ⟨k + 1, by go_num, by omega, Lib.hid ⟨_, by rw [HSTEP.out, hb.out]; rfl, HPS.out, HX7.out, HFM7.out⟩⟩
          case measure => simp [intOf]; omega
      · have hb := Lib.hid (show isBase n = false by unfold isBase; rw [t3, t9, t13]; rfl)
        go_wp2_with fail
        go_roundw
        case rel => exact ⟨k + 1, by go_num, by omega, Lib.hid ⟨_, by rw [HSTEP.out, hb.out]; exact (List.append_nil _).symm, HFR.out.ext_ HXW.out, HX.out.trans HXW.out, HFM.out⟩⟩
        case measure => simp [intOf]; omega
    · obtain rfl : sl.length = k := by omega
      obtain ⟨l0, hl0⟩ : ∃ l, l = base0 (canon t) := ⟨_, rfl⟩
      have HL0 := Lib.hid hl0
      have HOL0 := Lib.hid (show ol = l0 by rw [HOL.out, hl0, List.take_of_length_le (Nat.le_refl _), HSL.out]; rfl)
      clear hl0
      go_wp2_with fail
      go_loopw [4, 10] (fun vo vi wr => ∃ k : Nat, vi = .int .i64 (k : Int) ∧ k ≤ 12 ∧ Hid (∃ ol, ol = (usK l0 k).foldl addF l0 ∧ (∀ u ∈ usK l0 k, u.length ≠ 0) ∧ k ≤ ol.length ∧ ol.length ≤ 216 ∧ FRow w wr vo ol)) (fun _ v _ => 13 - (intOf v).toNat)
      case atStart => exact ⟨0, rfl, Nat.zero_le _, Lib.hid ⟨ol, HOL0.out, (fun u hu => by cases hu), Nat.zero_le _, by omega, HFR.out⟩⟩
      case round =>
        clear HOL HFR HROW HUS HX HFM HOL0 hol2
        obtain ⟨k, rfl, hk, HREL⟩ := hrel
        obtain ⟨ol, hol, hne, hkl, hol2, hfr⟩ := HREL.out
        have HOL := Lib.hid hol
        have HNE := Lib.hid hne
        have HFR := Lib.hid hfr
        obtain ⟨Ao, co, rfl⟩ := slice_of_row hfr.row.choose_spec.1
        clear HREL hol hne hfr
        by_cases hlt2 : k < ol.length
        · have hk1 : (k : Int) < (ol.length : Int) := by omega
          by_cases h12 : 12 < ol.length
          · have h12i : (12 : Int) < (ol.length : Int) := by omega
            have HB := Lib.hid (show baseOfN (canon t) = ([], 8) from baseOf_bad (.inr (by rw [← HL0.out]; exact base_long (k := k) (by rw [← HOL.out]; exact h12))))
            go_wp2_with fail
            go_ret2
            exact ⟨.slice none 0 0, by rw [HB.out] <;> rfl, HFR.out.ext, by rw [HB.out]; exact (FRow.nil _).before HFR.out.ext⟩
          · have h12i : (ol.length : Int) ≤ 12 := by omega
            obtain ⟨s, hs⟩ : ∃ s, ol[k]? = some s := ⟨_, List.getElem?_eq_getElem hlt2⟩
            obtain ⟨g0, cap0, hsl, hs1, hs2⟩ := HFR.out.slice (by omega)
            injection hsl with hsl1 _ hsl2
            subst hsl1 hsl2
            unfold maxLen at hs2
            obtain ⟨u, hu, hf, hgl⟩ := HFR.out.get hs
            have HF := Lib.hid hf
            have HBS := Lib.hid (base_step HT.out (k := k) (ol := ol) (c := s) (by rw [← HL0.out]; exact HOL.out) (by rw [← HL0.out]; exact HNE.out) hs)
            have HS := Lib.hid hs
            obtain ⟨su, hsu, hse⟩ := HBS.out.2
            have hs0 : 0 < s.length := by rw [hse]; exact canon_pos hsu.xp.1.1
            have HHD := Lib.hid (show headOk (lastN s) by
              have hck := hsu.check
              rw [← hse] at hck
              exact heads_of hck _ (List.mem_of_getElem? (lastN_get hs0)))
            obtain ⟨Au, cu, rfl, _⟩ := fml_slice hf
            clear hs hf hsu hse
            obtain ⟨wq, hwq⟩ : ∃ v, v = wr := ⟨_, rfl⟩
            subst hwq
            go_wp2_with fail
            refine (top_any _ s _ HF.out hs0).mono ?_
            rintro e w2 ⟨u1, u2, rfl, hx2, hf1, hf2⟩
            have HX2 := Lib.hid hx2
            obtain ⟨n, hn⟩ : ∃ n, n = lastN s := ⟨_, rfl⟩
            rw [← hn]
            have HN := Lib.hid hn
            unfold Nd.val
            obtain ⟨A1, c1, rfl, _⟩ := fml_slice hf1
            obtain ⟨A2, c2, rfl, _⟩ := fml_slice hf2
            clear hx2 hf1 hf2 hn
            go_wp2_with fail
            have hg2 : g0 < w2.heap.size := Nat.lt_of_lt_of_le hgl HX2.out.size
            obtain ⟨W0, hW0⟩ : ∃ v, v = w2.alloc (.cells #[.int .i64 n.op, .int .i64 n.i, .int .i64 n.e, .int .i64 n.g, .int .i64 n.x, .int .i64 n.y] 93) := ⟨_, rfl⟩
            have HBOX := Lib.hid (show W0.heap[w2.heap.size]? = some (.cells #[.int .i64 n.op, .int .i64 n.i, .int .i64 n.e, .int .i64 n.g, .int .i64 n.x, .int .i64 n.y] 93 (0, 0)) by rw [hW0]; exact heap_alloc_new _ _)
            have HXW := Lib.hid (show Ext wq W0 by rw [hW0]; exact HX2.out.alloc _)
            rw [← hW0]
            clear hW0
            by_cases hop : n.op = 13
            · have hgr := group_of (by rw [HN.out]; exact HHD.out) (.inr hop)
              obtain ⟨gn, hgn⟩ := Int.eq_ofNat_of_zero_le hgr.1
              have hg16 : gn < 16 := by omega
              have HGN := Lib.hid hgn
              have hb13 : (n.op != 13) = false := by rw [hop]; rfl
              have HOP := Lib.hid (show (lastN s).op = 13 by rw [← HN.out]; exact hop)
              rw [hgn] at HBOX
              clear hgr hgn hop
              go_loopw [4, 65] (fun vo vi wr => ∃ q : Nat, vi = .int .i64 (q : Int) ∧ q ≤ 4 ∧ Hid (∃ ol2, ol2 = (unfQ s q).foldl addF ol ∧ (∀ u ∈ unfQ s q, u.length ≠ 0) ∧ ol2.length ≤ ol.length + q ∧ FRow w wr vo ol2 ∧ Ext w wr ∧ wr.heap[w2.heap.size]? = some (.cells #[.int .i64 n.op, .int .i64 n.i, .int .i64 n.e, .int .i64 (gn : Int), .int .i64 n.x, .int .i64 n.y] 93 (0, 0)) ∧ vo.ownBlock ≠ some w2.heap.size)) (fun _ v _ => 4 - (intOf v).toNat)
              case atStart => exact ⟨0, rfl, Nat.zero_le _, Lib.hid ⟨ol, by rw [unfQ_zero]; rfl, (by intro u hu; rw [unfQ_zero] at hu; cases hu), Nat.le_refl _, HFR.out.ext_ HXW.out, HFR.out.ext.trans HXW.out, HBOX.out, (fun e => by injection e with e; simp at e; omega)⟩⟩
              case round =>
                obtain ⟨q, rfl, hq, HREL2⟩ := hrel
                obtain ⟨ol2, hol2', hne2, hlen2, hfr2, hx2', hbox2, hnb2⟩ := HREL2.out
                obtain ⟨us2, hrow2, hus2⟩ := hfr2.row
                have HOL2 := Lib.hid hol2'
                have HNE2 := Lib.hid hne2
                have HFR2 := Lib.hid hfr2
                have HROW2 := Lib.hid hrow2
                have HUS2 := Lib.hid hus2
                have HBOX2 := Lib.hid hbox2
                have HNB2 := Lib.hid hnb2
                have HPF := Lib.hid (show ol <+: ol2 by rw [hol2']; exact fold_prefix _ _)
                have hlt3 : k < ol2.length := Nat.lt_of_lt_of_le hlt2 HPF.out.length_le
                have HS2 := Lib.hid (show ol2[k]? = some s by
                  obtain ⟨r, hr⟩ := HPF.out
                  rw [← hr, List.getElem?_append_left hlt2]; exact HS.out)
                obtain ⟨g2, cap2, hsl2, hs12, hs22⟩ := HFR2.out.slice (by omega)
                subst hsl2
                unfold maxLen at hs22
                obtain ⟨uu, huu, hff, hgl2⟩ := HFR2.out.get HS2.out
                have HFF := Lib.hid hff
                obtain ⟨Au2, cu2, rfl, _⟩ := fml_slice hff
                obtain ⟨⟨q0, q1, q2, q3, q4, q5⟩, _, qb⟩ := cells6 hbox2
                clear HREL2 hol2' hne2 hfr2 hrow2 hus2 hbox2 hnb2 hff hx2'
                have hk3 : (k : Int) < (ol2.length : Int) := by omega
                by_cases hq4 : q < 4
                · have hq1 : (q : Int) < 4 := by omega
                  have hbt := shr_and_zero_i gn q (by omega)
                  cases hgb : gn.testBit q
                  case false =>
                    rw [hgb] at hbt
                    simp only [Bool.not_false] at hbt
                    have HQ := Lib.hid (unfQ_no (c := s) (q := q) (by rw [← HN.out, HGN.out, show gbit (gn : Int) q = false from hgb, Bool.and_false]))
                    clear hgb
                    go_wp2_with fail
                    go_roundw
                    case rel => exact ⟨q + 1, by go_num, by omega, Lib.hid ⟨ol2, by rw [HQ.out]; exact HOL2.out, by rw [HQ.out]; exact HNE2.out, by omega, HFR2.out, HFR2.out.ext, HBOX2.out, HNB2.out⟩⟩
                    case measure => simp [intOf]; omega
                  case true =>
                    rw [hgb] at hbt
                    simp only [Bool.not_true] at hbt
                    have HQ := Lib.hid (unfQ_yes (c := s) (q := q) (by rw [HOP.out]; rfl) (by rw [← HN.out, HGN.out]; exact hgb))
                    have HUN := Lib.hid (unfS_unfN HOP.out q)
                    clear hgb
                    go_wp2_with fail
                    refine (unfolded_any (q : Int) ⟨by omega, by omega⟩ _ s _ HFF.out hs0).mono ?_
                    rintro e w3 ⟨u3, rfl, hm3⟩
                    rw [HUN.out] at hm3
                    have HM3 := Lib.hid hm3
                    obtain ⟨A3, c3, rfl, _⟩ := fml_slice hm3.fml
                    clear hm3
                    by_cases hz : (unfN q s).length = 0
                    · have hzb : (((unfN q s).length : Int) == 0) = true := by rw [hz]; rfl
                      have HB := Lib.hid (show baseOfN (canon t) = ([], 8) from baseOf_bad (.inl (by
                        rw [← HL0.out]
                        refine base_bad (k := k + 1) (u := unfN q s) ?_ hz
                        rw [HL0.out, HBS.out.1]
                        refine List.mem_append_right _ (unfQ_sub (q := q + 1) (by omega) ?_)
                        rw [HQ.out]
                        simp)))
                      generalize (unfN q s).length = m8 at hz hzb
                      clear hz
                      go_wp2_with fail
                      go_ret2
                      exact ⟨.slice none 0 0, by rw [HB.out] <;> rfl, HFR2.out.ext.trans HM3.out.ext, by rw [HB.out]; exact (FRow.nil _).before (HFR2.out.ext.trans HM3.out.ext)⟩
                    · have hzb : (((unfN q s).length : Int) == 0) = false := by rw [beq_eq_false_iff_ne]; omega
                      have HZ := Lib.hid hz
                      have HNE3 := Lib.hid (show ∀ u ∈ unfQ s (q + 1), u.length ≠ 0 by
                        rw [HQ.out]
                        intro u hu
                        rcases List.mem_append.1 hu with hu | hu
                        · exact HNE2.out u hu
                        · rw [List.mem_singleton.1 hu]; exact hz)
                      have HOL3 := Lib.hid (show addF ol2 (unfN q s) = (unfQ s (q + 1)).foldl addF ol by rw [HQ.out, List.foldl_append, ← HOL2.out]; rfl)
                      clear hz
                      generalize unfN q s = g8 at HM3 hzb HOL3
                      go_wp2_with fail
                      refine (index_any _ _ ol2 g8 _ (HFR2.out.fmls.ext HM3.out.ext) HM3.out.fml).mono ?_
                      rintro e w4 ⟨rfl, hx4⟩
                      have HX4 := Lib.hid (HM3.out.ext.trans hx4)
                      have HX34 := Lib.hid hx4
                      clear hx4
                      by_cases hp : placeN ol2 g8 < 0
                      · have HAD := Lib.hid (show addF ol2 g8 = ol2 ++ [g8] by unfold addF; rw [decide_eq_true hp]; rfl)
                        generalize placeN ol2 g8 = pz at hp
                        have hc3 : ol2.length + 1 ≤ maxLen := by unfold maxLen; omega
                        have hc4 : (ol2.length + 1) * 24 ≤ 140737488355328 := by omega
                        go_wp2_with (at_builtin; refine wpList_append_own_at _ rfl _ _ 49 rfl w.heap.size 22 iI (.slice none 0 0) 1 24 Tryz.underlying49 hiI hzI0 hzI1 hzI2 rfl (by decide) _ ol2.length us2 rfl (row_ext HROW2.out (HX4.out.alloc _)) ⟨_, 0, none⟩ 1 1 [.slice A3 g8.length c3] rfl rfl (row_new_at _ _ _ (by simp)) (fun u hu => by rw [List.mem_singleton.1 hu]; rfl) hc3 hc4 (Nat.le_trans HFR2.out.ext.size (HX4.out.alloc _).size) ?_)
                        intro v7 w7 hown7 hgrow7 _ hat7
                        have HBOX7 := Lib.hid (show w7.heap[w2.heap.size]? = some (.cells #[.int .i64 n.op, .int .i64 n.i, .int .i64 n.e, .int .i64 (gn : Int), .int .i64 n.x, .int .i64 n.y] 93 (0, 0)) from (hgrow7.block _ (Nat.lt_of_lt_of_le qb (HX4.out.alloc _).size) (fun e => HNB2.out e.symm)).trans (((HX4.out.alloc _).block qb).trans HBOX2.out))
                        have HNB7 := Lib.hid (show v7.ownBlock ≠ some w2.heap.size from fun e => by
                          rcases hat7 with e1 | e1
                          · exact HNB2.out (e1 ▸ e)
                          · rw [e1] at e; injection e with e; have := (HX4.out).size; omega)
                        have HPS := Lib.hid (FRow.push (s := g8) ((HFR2.out.ext.trans HX4.out).alloc _) (row_ext HROW2.out (HX4.out.alloc _)) (fun k s hk => by
                          obtain ⟨u, a, b, c⟩ := HUS2.out k s hk
                          exact ⟨u, a, b.ext (HX4.out.alloc _), c.ext (HX4.out.alloc _)⟩) hown7 hgrow7 (hat7.imp id (fun e => e.trans (by simp))) (HM3.out.fml.ext (HX34.out.alloc _)) (made_away (Nat.le_refl _) (row_ext HM3.out.1 (HX34.out.alloc _)) HROW2.out HFR2.out.ext.size))
                        obtain ⟨A7, c7, rfl⟩ := slice_of_row hown7
                        clear hown7 hgrow7 hat7
                        go_wp2_with fail
                        go_roundw
                        case rel => exact ⟨q + 1, by go_num, by omega, Lib.hid ⟨_, by rw [← HOL3.out, HAD.out], HNE3.out, by rw [List.length_append, List.length_singleton]; omega, HPS.out, HPS.out.ext, HBOX7.out, HNB7.out⟩⟩
                        case measure => simp [intOf]; omega
                      · have HAD := Lib.hid (show addF ol2 g8 = ol2 by unfold addF; rw [decide_eq_false hp]; rfl)
                        generalize placeN ol2 g8 = pz at hp
                        go_wp2_with fail
                        go_roundw
                        case rel => exact ⟨q + 1, by go_num, by omega, Lib.hid ⟨ol2, by rw [← HOL3.out, HAD.out], HNE3.out, by omega, HFR2.out.ext_ HX4.out, HFR2.out.ext.trans HX4.out, (HX4.out.block qb).trans HBOX2.out, HNB2.out⟩⟩
                        case measure => simp [intOf]; omega
                · obtain rfl : 4 = q := by omega
                  go_wp2_with fail
                  go_roundw
                  case rel => exact ⟨k + 1, by go_num, by omega, Lib.hid ⟨ol2, by rw [HL0.out, HBS.out.1, List.foldl_append, ← HL0.out, ← HOL.out, ← unfQ_four]; exact HOL2.out, (by
                    rw [HL0.out, HBS.out.1]
                    intro u hu
                    rcases List.mem_append.1 hu with hu | hu
                    · exact HNE.out u (by rw [HL0.out]; exact hu)
                    · exact HNE2.out u (by rw [unfQ_four]; exact hu)), by omega, by omega, HFR2.out⟩⟩
                  case measure => simp [intOf]; omega
            · have hb13 : (n.op != 13) = true := by simpa using hop
              have HUE := Lib.hid (show unfsN s = [] by unfold unfsN; rw [← HN.out, show (n.op == 13) = false by simpa using hop]; rfl)
              obtain ⟨⟨q0, q1, q2, q3, q4, q5⟩, _, qb⟩ := cells6 HBOX.out
              clear hop
              go_loopw [4, 65] (fun vo vi wr => ∃ q : Nat, vi = .int .i64 (q : Int) ∧ q ≤ 4 ∧ vo = .slice (some ⟨g0, 0, none⟩) ol.length co ∧ wr = W0) (fun _ v _ => 4 - (intOf v).toNat)
              case atStart => exact ⟨0, rfl, Nat.zero_le _, rfl, rfl⟩
              case round =>
                obtain ⟨q, rfl, hq, rfl, rfl⟩ := hrel
                by_cases hq4 : q < 4
                · have hq1 : (q : Int) < 4 := by omega
                  go_wp2_with fail
                  go_roundw
                  case rel => exact ⟨q + 1, by go_num, by omega, by first | rfl | trivial, by first | rfl | trivial⟩
                  case measure => simp [intOf]; omega
                · obtain rfl : 4 = q := by omega
                  go_wp2_with fail
                  go_roundw
                  case rel => exact ⟨k + 1, by go_num, by omega, Lib.hid ⟨ol, by rw [HL0.out, HBS.out.1, HUE.out, List.append_nil, ← HL0.out]; exact HOL.out, (by
                    rw [HL0.out, HBS.out.1, HUE.out, List.append_nil, ← HL0.out]; exact HNE.out), by omega, by omega, HFR.out.ext_ HXW.out⟩⟩
                  case measure => simp [intOf]; omega
        · obtain rfl : ol.length = k := by omega
          have HB := Lib.hid (show baseOfN (canon t) = (ol, 0) by
            have hl : l0.length ≤ ol.length := by rw [HOL.out]; exact fold_len _ _
            have hus := usK_all (l0 := l0) (k := ol.length) hl
            have h1 := HOL.out
            rw [hus] at h1
            rw [baseOf_good, ← HL0.out, ← h1]
            · rw [← HL0.out, ← hus]; exact HNE.out
            · rw [← HL0.out, ← h1]; exact hk)
          have h12i : (ol.length : Int) ≤ 12 := by omega
          go_wp2_with fail
          go_ret2
          exact ⟨_, by rw [HB.out] <;> rfl, HFR.out.ext, by rw [HB.out]; exact HFR.out⟩
end Go.Proofs.YtbfeodammikajaaGreat

/- wittingref05.Equal: the reference's equality of lists of nodes. -/

namespace Go.Proofs.YtbfeodammikajaaGreat
open Go.RowKit

set_option maxRecDepth 100000 in
set_option maxHeartbeats 1000000 in
theorem refEqual_any (v1 v2 : Value) (l1 l2 : List Nd) (w : World) (h1 : Nds w v1 l1) (h2 : Nds w v2 l2) :
    Calls Tryz.prog 109 #[v1, v2] w fun e w' => e = .returned (.bool (decide (l1 = l2))) ∧ Ext w w' := by
  obtain ⟨A1, c1, rfl, hcap1, hmax1, hr1⟩ := h1
  obtain ⟨A2, c2, rfl, hcap2, hmax2, hr2⟩ := h2
  unfold maxLen at hmax1 hmax2
  by_cases hl : l1.length = l2.length
  · have HR1 := Lib.hid hr1
    have HR2 := Lib.hid hr2
    have HL := Lib.hid hl
    have eb : ((l1.length : Int) != (l2.length : Int)) = false := by simp [hl]
    clear hr1 hr2 hl
    go_enter Tryz.func109, Tryz.ntmps109
    go_wp2_with fail
    go_loopw [5] (fun i wr => ∃ k : Nat, k ≤ l1.length ∧ i = .int .i64 k ∧ Hid (l1.take k = l2.take k) ∧ Ext w wr) (fun i _ => l1.length - (intOf i).toNat)
    case atStart => exact ⟨0, Nat.zero_le _, rfl, Lib.hid rfl, Ext.refl _⟩
    case round =>
      obtain ⟨k, hk, rfl, htk, hext⟩ := hrel
      by_cases hlt2 : k < l1.length
      · have hlt3 : k < l2.length := by have := HL.out; omega
        obtain ⟨a, ha⟩ : ∃ a, l1[k]? = some a := ⟨_, List.getElem?_eq_getElem hlt2⟩
        obtain ⟨b, hb⟩ : ∃ b, l2[k]? = some b := ⟨_, List.getElem?_eq_getElem hlt3⟩
        obtain ⟨ad1, rfl, hb1, hc1⟩ := HR1.out (by intro e; rw [e] at hlt2; simp at hlt2)
        obtain ⟨ad2, rfl, hb2, hc2⟩ := HR2.out (by intro e; rw [e] at hlt3; simp at hlt3)
        obtain ⟨a0, a1, a2, a3, a4, a5⟩ := (hc1 k a ha).keep fun p hp => hext.cell (p := p) (by rw [hp, block_of_add]; exact hb1)
        obtain ⟨b0, b1, b2, b3, b4, b5⟩ := (hc2 k b hb).keep fun p hp => hext.cell (p := p) (by rw [hp, block_of_add]; exact hb2)
        have hi0 : (0 : Int) ≤ (k : Int) := by omega
        have hi1 : (k : Int) < (l1.length : Int) := by omega
        have hi2 : (k : Int) < (l2.length : Int) := by omega
        have heq := fun W => eqNode a b W
        have HA := Lib.hid ha
        have HB := Lib.hid hb
        clear ha hb hc1 hc2
        by_cases hab : a = b
        · have hd : decide (a = b) = true := by simpa using hab
          have HT : Hid (l1.take (k + 1) = l2.take (k + 1)) := Lib.hid (by rw [take_succ_eq HA.out, take_succ_eq HB.out, htk.out, hab])
          clear hab
          go_wp2_with fail
          go_quiet (fail)
          go_wp2_with fail
          go_roundw
          case rel => exact ⟨k + 1, by omega, by go_num, HT, hext.drewN _⟩
          case measure => simp [intOf]; omega
        · have hd : decide (a = b) = false := by simpa using hab
          have HR : Hid (decide (l1 = l2) = false) := Lib.hid (decide_eq_false (lists_differ HA.out HB.out hab))
          clear hab
          go_wp2_with fail
          go_quiet (fail)
          go_wp2_with fail
          go_ret
          exact ⟨by rw [HR.out]; rfl, hext.drewN _⟩
      · obtain rfl : l1.length = k := by omega
        have HR : Hid (decide (l1 = l2) = true) := Lib.hid (decide_eq_true (by
          have h := htk.out
          rw [List.take_of_length_le (Nat.le_refl _), HL.out, List.take_of_length_le (Nat.le_refl _)] at h
          exact h))
        go_wp2_with fail
        go_ret
        exact ⟨by rw [HR.out]; rfl, hext⟩
  · have eb : ((l1.length : Int) != (l2.length : Int)) = true := by simp; omega
    have HR : Hid (decide (l1 = l2) = false) := Lib.hid (decide_eq_false fun e => hl (by rw [e]))
    clear hl hr1 hr2
    go_enter Tryz.func109, Tryz.ntmps109
    go_wp2_with fail
    go_ret
    exact ⟨by rw [HR.out]; rfl, Ext.refl _⟩
end Go.Proofs.YtbfeodammikajaaGreat

/- A result that is a variable of the call's own. -/

namespace Go.Proofs.YtbfeodammikajaaGreat
open Go.RowKit

theorem results_cell {P : Program} {fn : Func} {t : Tmp} {ty : TypeId} (h : fn.results = #[.cell t ty]) (tmps : Array Value) (w : World) {b o : Nat} (ht : tmps.getD t undef = .pointer (some ⟨b, o, none⟩)) {cs : List Value} {d : TypeDesc} (hc : w.rangeAt b o cs)
    (hu : P.underlying ty = some d) (hd : d.isRow = true) (hi : (P.info? ty).map (·.size) = some cs.length) : (results fn tmps).run P w = .ok (.agg cs.toArray) w := by
  have ht' : tmps[t]?.getD undef = .pointer (some ⟨b, o, none⟩) := by rw [← Array.getD_eq_getD_getElem?]; exact ht
  simp [results, h, ht', asAddr, run_loadVar_mid w b o ty cs d hc hu hd hi]
end Go.Proofs.YtbfeodammikajaaGreat
