/- The reference's Check, Sub, Compact and Same. -/
import Derived.Test.YtipnbfbakohcaaaDoorRefFin2
namespace Go.Proofs.YtipnbfbakohcaaaDoor
open Go.RowKit

theorem rfin_any {bw : Nat} {W0 : World} {A : Option Addr} {c : Nat} {f : List Nd} {vd : Value} (hf : Wf f) (hok : ∀ n ∈ f, n.ok) (hlen : f.length ≤ 1000) :
    ∀ i : Nat, i < f.length → RFinSaid bw W0 A c f vd i := by
  intro i
  induction i using Nat.strongRecOn with
  | _ i ih =>
    intro hi w o d vo hinv hpot
    obtain ⟨n, hn⟩ : ∃ n, f[i]? = some n := ⟨_, List.getElem?_eq_getElem hi⟩
    rw [Int.toNat_natCast]
    rcases hinv.done.2 i hi with hd | ⟨hfin, hd⟩
    · refine rfin_new hf hok hinv hlen i n hn hd hpot (fun z h0 h1 => ?_) _ _ rfl rfl
      obtain ⟨j, rfl⟩ := Int.eq_ofNat_of_zero_le h0
      exact ih j (by omega) (by omega)
    · refine (rfin_done hinv hlen i _ hi hd).mono ?_
      rintro e w' ⟨rfl, rfl⟩
      exact ⟨vo, d, rfl, by rw [hfin]; exact hinv, FStep.refl _ _⟩

set_option maxHeartbeats 400000 in
theorem refCheck_any (v : Value) (l : List Nd) (w : World) (h : Nds w v l) :
    Calls Tryd.prog 31 #[v] w fun e w' => e = .returned (.int .i64 (check l)) ∧ Ext w w' := by
  obtain ⟨A, c, rfl, hcap, hmax, hread⟩ := h
  unfold maxLen at hmax
  by_cases h0 : l.length = 0
  · have hcheck : check l = 3 := by simp [check, h0]
    rw [h0, hcheck]
    clear hcheck hread
    go_enter Tryd.func31, Tryd.ntmps31
    go_wp2_with fail
    go_ret
    exact ⟨rfl, Ext.refl _⟩
  have e0 : ((l.length : Int) == 0) = false := by rw [beq_eq_false_iff_ne]; omega
  by_cases h1 : 200 < l.length
  · have hcheck : check l = 8 := by simp [check, h0, h1]
    rw [hcheck]
    clear hcheck hread
    go_enter Tryd.func31, Tryd.ntmps31
    go_wp2_with fail
    go_ret
    exact ⟨rfl, Ext.refl _⟩
  have hne : l ≠ [] := fun e => h0 (by simp [e])
  obtain ⟨ad, rfl, hlt, hcells⟩ := hread hne
  have HC := Lib.hid hcells; clear hcells
  have HK := Lib.hid (show check l = checkNodes l 0 by simp [check, h0, h1])
  have hl : l.length ≤ 200 := by omega
  clear h0 h1 hread
  go_enter Tryd.func31, Tryd.ntmps31
  go_wp2_with fail
  go_loopw [3] (fun i wr => ∃ k : Nat, k ≤ l.length ∧ i = .int .i64 k ∧ Hid (checkNodes l 0 = checkNodes (l.drop k) k) ∧ Ext w wr) (fun i _ => l.length - (intOf i).toNat)
  case atStart => exact ⟨0, Nat.zero_le _, rfl, Lib.hid rfl, Ext.refl _⟩
  case round =>
    obtain ⟨k, hk, rfl, hrest, hext⟩ := hrel
    by_cases hlt2 : k < l.length
    · obtain ⟨n, hn⟩ : ∃ n, l[k]? = some n := ⟨_, List.getElem?_eq_getElem hlt2⟩
      have hst := checkNodes_step l k n hn
      obtain ⟨c0, c1, c2, c3, c4, c5⟩ := (HC.out k n hn).keep fun p hp => hext.cell (p := p) (by rw [hp, block_of_add]; exact hlt)
      by_cases he : nodeErr n k = 0
      · have hst2 : Hid (checkNodes l 0 = checkNodes (l.drop (k + 1)) ((k + 1 : Nat) : Int)) := Lib.hid (by rw [hrest.out, hst, he]; rfl)
        have hh := Lib.hid he
        clear hst he hn hrest
        go_wp2_with (go_at_call 47; refine (refNode_any n _ _).mono ?_; rintro e w1 ⟨rfl, hb⟩; rw [hh.out])
        go_roundw
        case rel => exact ⟨k + 1, by omega, by go_num, hst2, hext.trans hb⟩
        case measure => simp [intOf]; omega
      · have hh : (nodeErr n k != 0) = true := by simpa using he
        have hst2 : Hid (checkNodes l 0 = nodeErr n k) := Lib.hid (by rw [hrest.out, hst, hh]; rfl)
        clear hst he hn hrest
        go_wp2_with (go_at_call 47; refine (refNode_any n _ _).mono ?_; rintro e w1 ⟨rfl, hb⟩)
        go_ret
        exact ⟨ret_int (by rw [HK.out, hst2.out]), hext.trans hb⟩
    · obtain rfl : l.length = k := by omega
      go_wp2_with fail
      go_ret
      refine ⟨ret_int ?_, hext⟩
      rw [HK.out, hrest.out]
      simp [checkNodes]

theorem tInfo3 : (Tryd.prog.info? 3).map (fun i => (i.zero, i.size, i.bytes)) = some (some (.int .i64 0), 1, 8) := by kernel_rfl

theorem put_keep2 {w W w4 : World} {bw : Nat} {v v0 v1 : Value} {t : TypeId} (hb : w.heap[bw]? = some (.cells #[v0, v1] t (0, 0))) (hne : v.ownBlock ≠ some bw) (he : Ext w W) (hg : W.grownBy w4 v.ownBlock) : w4.heap[bw]? = some (.cells #[v0, v1] t (0, 0)) :=
  ((hg.block bw (Nat.lt_of_lt_of_le (lt_heap hb) he.size) (fun e => hne e.symm)).trans (he.block (lt_heap hb))).trans hb
theorem set_second {w : World} {b : Nat} {a0 a1 : Value} {t : TypeId} (h : w.heap[b]? = some (.cells #[a0, a1] t (0, 0))) (u : Value) : (w.setCell ⟨b, 1, none⟩ u).heap[b]? = some (.cells #[a0, u] t (0, 0)) := by
  simp only [World.setCell, Array.getElem?_modify, h, if_true, Option.map_some]
  simp

structure RSub (w1 : World) (k : Nat) (vd : Value) (wr : World) : Prop where
  blk : wr.heap[w1.heap.size]? = some (.cells #[.slice none 0 0, vd] 89 (0, 0))
  row : wr.ownsRow (w1.heap.size + 1) 3 1 vd k ((List.replicate k (-1 : Int)).map (Value.int .i64))
  ext : Ext w1 wr
theorem sub_next {w1 w4 : World} {k : Nat} {v' v0 : Value} {xs : List Value} (hb : w4.heap[w1.heap.size]? = some (.cells #[.slice none 0 0, v0] 89 (0, 0))) (hr : w4.ownsRow (w1.heap.size + 1) 3 1 v' (k + 1) (xs ++ [.int .i64 (-1)]))
    (hne : v'.ownBlock ≠ some w1.heap.size) (hx : Ext w1 w4) (hxs : xs = (List.replicate k (-1 : Int)).map (Value.int .i64)) : ∃ vd, RSub w1 (k + 1) vd (w4.setCell ⟨w1.heap.size, 1, none⟩ v') := by
  refine ⟨v', set_second hb _, ownsRow_setCell_other (a := ⟨w1.heap.size, 1, none⟩) ?_ hne _, Ext.setCell hx (Nat.le_refl _) _⟩
  subst hxs
  rw [List.replicate_succ', List.map_append]
  exact hr

set_option maxRecDepth 100000 in
set_option maxHeartbeats 2000000 in
theorem refSub_any (v : Value) (l : List Nd) (z : Int) (w : World) (h : Fml w v l) :
    Calls Tryd.prog 54 #[v, .int .i64 z] w fun e w' => ∃ u, e = .returned u ∧ Made w w' u (subN l z) := by
  have H := Lib.hid h
  obtain ⟨⟨A, c, rfl, hat⟩, hok⟩ := h
  have HAT := Lib.hid hat
  have hcl := hat.1
  have hcm := hat.2.1
  unfold maxLen at hcm
  clear hat hok
  by_cases hc : check l = 0
  · by_cases hz : z < 0
    · have HR := Lib.hid (show subN l z = [] by unfold subN; simp [hz])
      have HC := Lib.hid hc
      clear hc
      go_enter Tryd.func54, Tryd.ntmps54
      go_wp2_with (go_at_call 31; refine (refCheck_any _ l _ H.out.1).mono ?_; rintro e w1 ⟨rfl, hb⟩; rw [HC.out])
      go_ret
      exact ⟨_, rfl, by rw [HR.out]; exact (Made.none_ _).after hb⟩
    by_cases hl : (l.length : Int) ≤ z
    · have HR := Lib.hid (show subN l z = [] by unfold subN; simp [hl])
      have HC := Lib.hid hc
      clear hc
      go_enter Tryd.func54, Tryd.ntmps54
      go_wp2_with (go_at_call 31; refine (refCheck_any _ l _ H.out.1).mono ?_; rintro e w1 ⟨rfl, hb⟩; rw [HC.out])
      go_ret
      exact ⟨_, rfl, by rw [HR.out]; exact (Made.none_ _).after hb⟩
    obtain ⟨r, rfl⟩ := Int.eq_ofNat_of_zero_le (show 0 ≤ z by omega)
    have hr : r < l.length := by omega
    have HR := Lib.hid (show subN l r = (finN l r []).1 by
      unfold subN
      rw [hc]
      have h1 : decide ((r : Int) < 0) = false := by simp
      have h2 : decide ((l.length : Int) ≤ (r : Int)) = false := by simp; omega
      rw [h1, h2]
      rfl)
    have HC := Lib.hid hc
    have HL := (check_parts hc).2.1
    obtain ⟨i3, hi3, hz30, hz31, hz32⟩ := info_parts tInfo3
    have hd0 : decide ((r : Int) < 0) = false := by simp
    have hd1 : decide (l.length ≤ r) = false := by simp; omega
    clear hc
    go_enter Tryd.func54, Tryd.ntmps54
    go_wp2_with (go_at_call 31; refine (refCheck_any _ l _ H.out.1).mono ?_; rintro e w1 ⟨rfl, hb⟩; rw [HC.out]; have HB := Lib.hid hb; clear hb)
    go_loopw [6] (fun i wr => ∃ k : Nat, k ≤ l.length ∧ i = .int .i64 k ∧ Hid (∃ vd, RSub w1 k vd wr)) (fun i _ => l.length - (intOf i).toNat)
    case atStart => exact ⟨0, Nat.zero_le _, rfl, Lib.hid ⟨.slice none 0 0, heap_alloc_new _ _, World.ownsRow_nil _ _ _ _, (Ext.refl _).alloc _⟩⟩
    case round =>
      obtain ⟨k, hk, rfl, hrs⟩ := hrel
      obtain ⟨vd, hblk0, hrow0, hext⟩ := hrs.out
      have HBLK := Lib.hid hblk0; have HROW := Lib.hid hrow0
      clear hblk0 hrow0 hrs
      obtain ⟨Ad, cd, rfl⟩ := slice_of_row HROW.out
      obtain ⟨d0, d1, dfr, dlt⟩ := cells2 HBLK.out
      by_cases hlt2 : k < l.length
      · have hc3 : k + 1 ≤ maxLen := by unfold maxLen; omega
        have hc4 : (k + 1) * 8 ≤ 140737488355328 := by omega
        have hfz := dfr 1
        have HNE := Lib.hid (row_ne HROW.out)
        have hc5 : ∀ X, w1.heap.size + 1 ≤ (wr.alloc X).heap.size := fun X => by simp; omega
        obtain ⟨xs, hxs⟩ : ∃ xs, xs = (List.replicate k (-1 : Int)).map (Value.int .i64) := ⟨_, rfl⟩
        rw [← hxs] at HROW
        have HXS := Lib.hid hxs
        clear hxs
        go_wp2_with (at_builtin; refine wpList_append_own_at _ rfl _ _ 43 rfl (w1.heap.size + 1) 3 i3 (.int .i64 0) 1 8 Tryd.underlying43 hi3 hz30 hz31 hz32 rfl (by decide) _ _ _ rfl (row_ext HROW.out ((Ext.refl _).alloc _)) _ 1 1 [.int .i64 (-1)] rfl rfl (row_new_at _ _ _ (by simp)) (fun u hu => by rw [List.mem_singleton.1 hu]; rfl) hc3 hc4 (hc5 _) ?_)
        intro v' w4 hown4 hgrow4 _ hat4
        obtain ⟨A4, c4, rfl⟩ := slice_of_row hown4
        have HROW4 := Lib.hid hown4
        have kb := put_keep2 HBLK.out HNE.out ((Ext.refl _).alloc _) hgrow4
        have HX4 := Lib.hid ((Ext.alloc hext _).grown hgrow4 (fun g hg => by have := (HROW.out.lt g hg).1; omega))
        have HNE4 := Lib.hid (row_ne hown4)
        obtain ⟨q0, q1, qfr, qlt⟩ := cells2 kb
        have qf1 := qfr 1
        have KB := Lib.hid kb
        clear hown4 hgrow4 hat4 kb d0 d1 dfr dlt hfz
        go_wp2_with fail
        go_roundw
        case rel => exact ⟨k + 1, by omega, by go_num, Lib.hid (sub_next KB.out HROW4.out HNE4.out HX4.out HXS.out)⟩
        case measure => simp [intOf]; omega
      · obtain rfl : l.length = k := by omega
        have HRUN := Lib.hid (rfin_any (bw := w1.heap.size) (W0 := w) (A := A) (c := c) (vd := .slice Ad l.length cd) (check_wf HC.out) H.out.2 (by omega) r hr)
        have HINV : Hid (RInv w1.heap.size w wr A c l [] (List.replicate l.length (-1)) (.slice none 0 0) (.slice Ad l.length cd)) :=
          Lib.hid ⟨HB.out.trans hext, HAT.out, HBLK.out, World.ownsRow_nil _ _ _ _, row_base HROW.out (Nat.le_succ_of_le HB.out.size), ⟨by simp, fun i hi => .inl (by simp [hi])⟩, HB.out.size, by simp⟩
        go_wp2_with fail
        refine (HRUN.out _ _ _ _ HINV.out (pot_nil l)).mono ?_
        rw [Int.toNat_natCast]
        rintro e w5 ⟨vo5, d5, rfl, hinv, hst⟩
        obtain ⟨q0, q1, qfr, qlt⟩ := cells2 hinv.blk
        have HM := Lib.hid (show Made w w5 vo5 (subN l r) by rw [HR.out]; exact ⟨hinv.row, hinv.oks, hinv.below⟩)
        obtain ⟨A6, c6, rfl⟩ := slice_of_row hinv.row
        clear hinv hst
        go_wp2_with fail
        go_ret
        exact ⟨_, rfl, HM.out⟩
  · have hb1 : (check l != 0) = true := by simpa using hc
    have HR := Lib.hid (show subN l z = [] by unfold subN; rw [hb1]; rfl)
    clear hc
    go_enter Tryd.func54, Tryd.ntmps54
    go_wp2_with (go_at_call 31; refine (refCheck_any _ l _ H.out.1).mono ?_; rintro e w1 ⟨rfl, hb⟩)
    go_ret
    exact ⟨_, rfl, by rw [HR.out]; exact (Made.none_ _).after hb⟩

set_option maxHeartbeats 400000 in
theorem refCompact_any (v : Value) (l : List Nd) (w : World) (h : Fml w v l) :
    Calls Tryd.prog 34 #[v] w fun e w' => ∃ u, e = .returned u ∧ Made w w' u (compactN l) := by
  have H := Lib.hid h
  obtain ⟨⟨A, c, rfl, hat⟩, hok⟩ := h
  have hl := hat.1
  have hm := hat.2.1
  unfold maxLen at hm
  clear hat hok
  go_enter Tryd.func34, Tryd.ntmps34
  go_wp2_with fail
  refine (refSub_any _ l _ _ H.out).mono ?_
  rintro e w2 ⟨u, rfl, hm⟩
  have HM := Lib.hid hm
  clear hm
  go_wp2_with fail
  go_ret
  exact ⟨_, rfl, HM.out⟩
end Go.Proofs.YtipnbfbakohcaaaDoor
