/- natural's checker: boxes, within, line. -/
import Derived.Test.YtipnbfbakohcaaaDoorNatWords
namespace Go.Proofs.YtipnbfbakohcaaaDoor
open Go.RowKit

def Ln.zero : Ln := ⟨0, 0, [], 0, []⟩
def lineAt (ls : List Ln) (o : Int) : Ln := ls.getD o.toNat Ln.zero
theorem lineAt_of {ls : List Ln} {o : Int} (h0 : 0 ≤ o) (h1 : o < ls.length) : ls[o.toNat]? = some (lineAt ls o) := by
  unfold lineAt
  rw [List.getD_eq_getElem?_getD, List.getElem?_eq_getElem (by omega)]
  simp
def isBox (ls : List Ln) (o : Int) : Bool := (lineAt ls o).rule == 2
def boxesL (ls : List Ln) (l : List Int) : List Int := l.filter (isBox ls)
theorem boxesL_snoc (ls : List Ln) (l : List Int) (o : Int) : boxesL ls (l ++ [o]) = boxesL ls l ++ (if isBox ls o then [o] else []) := by
  unfold boxesL
  rw [List.filter_append]
  cases h : isBox ls o <;> simp [h]

set_option maxRecDepth 100000 in
set_option maxHeartbeats 1000000 in
theorem boxes_any {w : World} {b : Nat} {lg : Int} {ls : List Ln} {fs : List (List Nd)} {st : List (List Int)} (h : Chk w b lg ls fs st) (v : Value) (l : List Int) (hv : Ints w v l) (hl : ∀ o ∈ l, 0 ≤ o ∧ o < ls.length) (hlen : l.length ≤ 1000) :
    Calls Tryd.prog 126 #[.pointer (some ⟨b, 0, none⟩), v] w fun e w' => ∃ u, e = .returned u ∧ MadeInts w w' u (boxesL ls l) := by
  obtain ⟨A, c, rfl, hcap, hmax, hr⟩ := hv
  unfold maxLen at hmax
  have HR := Lib.hid hr
  have H := Lib.hid h
  have HL := Lib.hid hl
  obtain ⟨i3, hi3, hz30, hz31, hz32⟩ := info_parts tInfo3
  clear hr h hl
  go_enter Tryd.func126, Tryd.ntmps126
  go_wp2_with fail
  go_loopw [5, 10] (fun v5 i wr => ∃ k : Nat, k ≤ l.length ∧ i = .int .i64 k ∧ Hid (wr.ownsRow w.heap.size 3 1 v5 (boxesL ls (l.take k)).length ((boxesL ls (l.take k)).map (Value.int .i64))) ∧ Ext w wr) (fun _ i _ => l.length - (intOf i).toNat)
  case atStart => exact ⟨0, Nat.zero_le _, rfl, Lib.hid (World.ownsRow_nil _ _ _ _), Ext.refl _⟩
  case round =>
    obtain ⟨k, hk, rfl, HROW, hext⟩ := hrel
    obtain ⟨A5, c5, rfl⟩ := slice_of_row HROW.out
    by_cases hlt2 : k < l.length
    · obtain ⟨o, ho⟩ : ∃ o, l[k]? = some o := ⟨_, List.getElem?_eq_getElem hlt2⟩
      obtain ⟨ad, rfl, hb1, hc1⟩ := HR.out (by intro e; rw [e] at hlt2; simp at hlt2)
      have a0 := (hext.cell (p := ad.add k) (by rw [block_of_add]; exact hb1)).trans (hc1 k o ho)
      obtain ⟨ho0, ho1⟩ := HL.out o (List.mem_of_getElem? ho)
      obtain ⟨on, rfl⟩ := Int.eq_ofNat_of_zero_le ho0
      have hline := lineAt_of ho0 ho1
      rw [Int.toNat_natCast] at hline
      have HS : Hid (boxesL ls (l.take (k + 1)) = boxesL ls (l.take k) ++ (if isBox ls (on : Int) then [(on : Int)] else [])) := Lib.hid (by rw [take_succ_eq ho, boxesL_snoc])
      obtain ⟨adl, cl, vf, vs, uf, ur, hcl1, hcl2, hltl, d0, d1, d2, d3, q0, q1, q2, q3, q4, _, _⟩ := (H.out.ext hext).line hline
      have hbl : (boxesL ls (l.take k)).length ≤ 1000 := Nat.le_trans (List.length_filter_le _ _) (Nat.le_trans (List.length_take_le' _ _) hlen)
      clear ho hc1 hline
      by_cases hbx : (lineAt ls (on : Int)).rule = 2
      · have e1 : ((lineAt ls (on : Int)).rule == 2) = true := by simp [hbx]
        have HN : Hid (boxesL ls (l.take (k + 1)) = boxesL ls (l.take k) ++ [(on : Int)]) := Lib.hid (by rw [HS.out]; simp [isBox, e1])
        clear hbx
        generalize boxesL ls (l.take k) = bs at HROW HN hbl
        obtain ⟨xs, hxs⟩ : ∃ xs, xs = bs.map (Value.int .i64) := ⟨_, rfl⟩
        rw [← hxs] at HROW
        have HXS := Lib.hid hxs
        have hc3 : bs.length + 1 ≤ maxLen := by unfold maxLen; omega
        have hc4 : (bs.length + 1) * 8 ≤ 140737488355328 := by omega
        have hc5 : ∀ X, w.heap.size ≤ (wr.alloc X).heap.size := fun X => Nat.le_trans hext.size (by simp)
        clear hxs
        go_wp2_with (at_builtin; refine wpList_append_own_at _ rfl _ _ 43 rfl w.heap.size 3 i3 (.int .i64 0) 1 8 Tryd.underlying43 hi3 hz30 hz31 hz32 rfl (by decide) _ _ _ rfl (row_ext HROW.out ((Ext.refl _).alloc _)) _ 1 1 [.int .i64 (on : Int)] rfl rfl (row_new_at _ _ _ (by simp)) (fun u hu => by rw [List.mem_singleton.1 hu]; rfl) hc3 hc4 (hc5 _) ?_)
        intro v' w4 hown4 hgrow4 _ hat4
        obtain ⟨A4, c4, rfl⟩ := slice_of_row hown4
        have HROW4 := Lib.hid hown4
        have HX4 := Lib.hid ((Ext.alloc hext _).grown hgrow4 (fun g hg => (HROW.out.lt g hg).1))
        clear hown4 hgrow4 hat4
        go_wp2_with fail
        go_roundw
        case rel => exact ⟨k + 1, by omega, by go_num, Lib.hid (by have h4 := HROW4.out; rw [HXS.out] at h4; rw [HN.out]; simpa using h4), HX4.out⟩
        case measure => simp [intOf]; omega
      · have e1 : ((lineAt ls (on : Int)).rule == 2) = false := by simpa using hbx
        have HN : Hid (boxesL ls (l.take (k + 1)) = boxesL ls (l.take k)) := Lib.hid (by rw [HS.out]; simp [isBox, e1])
        clear hbx
        go_wp2_with fail
        go_roundw
        case rel => exact ⟨k + 1, by omega, by go_num, Lib.hid (by rw [HN.out]; exact HROW.out), hext⟩
        case measure => simp [intOf]; omega
    · obtain rfl : l.length = k := by omega
      have HN : Hid (boxesL ls l = boxesL ls (l.take l.length)) := Lib.hid (by rw [List.take_of_length_le (Nat.le_refl _)])
      go_wp2_with fail
      go_ret
      exact ⟨_, rfl, by rw [HN.out]; exact ⟨HROW.out, hext⟩⟩
end Go.Proofs.YtipnbfbakohcaaaDoor
