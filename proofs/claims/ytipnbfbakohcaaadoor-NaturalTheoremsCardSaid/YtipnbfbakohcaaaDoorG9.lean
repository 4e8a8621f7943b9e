/- natural.Check as a Lean function; what holds of its lists at each line. -/
import Derived.Test.YtipnbfbakohcaaaDoorG7
import Derived.Test.YtipnbfbakohcaaaDoorG6
import Derived.Test.YtipnbfbakohcaaaDoorF8
import Derived.Handy
import Derived.Test.YtipnbfbakohcaaaDoorG8
import Derived.Test.YtipnbfbakohcaaaDoorRows
import Derived.Deep.Slices
import Derived.Deep.Fields
import Derived.ChangeSame
import Derived.ProofKit
import Derived.LaidMore
import Derived.OpenShut
import Derived.Lib.SmallJoins
import Derived.Test.YtipnbfbakohcaaaDoorCards
import Derived.Test.YtipnbfbakohcaaaDoorTie
import Derived.SevenTiedAt
import Derived.Stop.Joined
import Derived.Below

namespace Go.Proofs.YtipnbfbakohcaaaDoor
open Go.RowKit

/-- The lines from line i on. -/
def chkGo (lg : Int) (ls : List Ln) : List Ln → List (List Nd) → List (List Int) → Nat → Int × Int
  | [], _, _, _ => (0, 0)
  | n :: r, fs, st, i =>
    bif check n.f != 0 then (i, check n.f)
    else bif decide (2 ≤ fragsN n.f) then (i, 10)
    else match pushL st n with
      | none => (i, 3)
      | some s =>
        bif decide (n.agent < 0) || decide (4 ≤ n.agent) then (i, 3)
        else bif followsL lg ls (fs ++ [compactN n.f]) (st ++ [s]) i n (compactN n.f) then chkGo lg ls r (fs ++ [compactN n.f]) (st ++ [s]) (i + 1) else (i, 13)
def natCheck (lg : Int) (ls : List Ln) : Int × Int :=
  bif decide (lg < 0) || decide (6 < lg) then (0, 1) else bif decide (400 < ls.length) then (0, 8) else bif decide (ls.length = 0) then (0, 3) else chkGo lg ls ls [] [] 0

structure CkInv (ls : List Ln) (fs : List (List Nd)) (st : List (List Int)) (i : Nat) : Prop where
  fl : fs.length = i
  sl : st.length = i
  st_ok : ∀ s ∈ st, s.length ≤ i ∧ ∀ o ∈ s, 0 ≤ o ∧ o < i
  fs_ok : ∀ f ∈ fs, 0 < f.length ∧ Wf f
  ag : ∀ (k : Nat) (m : Ln), k < i → ls[k]? = some m → 0 ≤ m.agent ∧ m.agent < 4
  op : ∀ (k : Nat) (m : Ln) (s : List Int), ls[k]? = some m → st[k]? = some s → opensL m = true → 0 < s.length
theorem ckInv_nil (ls : List Ln) : CkInv ls [] [] 0 :=
  ⟨rfl, rfl, fun s h => by simp at h, fun f h => by simp at h, fun k m h => absurd h (Nat.not_lt_zero _), fun k m s _ h => by simp at h⟩
theorem lastSt_mem {st : List (List Int)} (h : st ≠ []) : lastSt st ∈ st := by
  unfold lastSt
  cases st with
  | nil => exact absurd rfl h
  | cons a t => rw [List.getLastD_cons]; exact List.getLastD_mem_cons
theorem CkInv.last {ls : List Ln} {fs : List (List Nd)} {st : List (List Int)} {i : Nat} (h : CkInv ls fs st i) : (lastSt st).length ≤ i ∧ ∀ o ∈ lastSt st, 0 ≤ o ∧ o < i := by
  by_cases e : st = []
  · subst e
    exact ⟨Nat.zero_le _, fun o ho => by simp [lastSt] at ho⟩
  · exact h.st_ok _ (lastSt_mem e)
theorem pushL_cases {st : List (List Int)} {n : Ln} {s : List Int} (h : pushL st n = some s) : (opensL n = true ∧ ∃ d, s = (lastSt st).take d ++ [(st.length : Int)]) ∨ (opensL n = false ∧ ∃ d, s = (lastSt st).take d) := by
  unfold pushL at h
  cases ho : opensL n
  · rw [ho, cond_false] at h
    cases hb : (decide (n.depth < 0) || decide (((lastSt st).length : Int) < n.depth))
    · rw [hb, cond_false] at h
      exact .inr ⟨rfl, _, (Option.some.inj h).symm⟩
    · rw [hb] at h; cases h
  · rw [ho, cond_true] at h
    cases hb : (decide (n.depth < 1) || decide (((lastSt st).length : Int) + 1 < n.depth))
    · rw [hb, cond_false] at h
      exact .inl ⟨rfl, _, (Option.some.inj h).symm⟩
    · rw [hb] at h; cases h
theorem CkInv.next {ls : List Ln} {fs : List (List Nd)} {st : List (List Int)} {i : Nat} (h : CkInv ls fs st i) {n : Ln} (hn : ls[i]? = some n) (hc : check n.f = 0) {s : List Int} (hp : pushL st n = some s) (ha : 0 ≤ n.agent ∧ n.agent < 4) : CkInv ls (fs ++ [compactN n.f]) (st ++ [s]) (i + 1) := by
  obtain ⟨l1, l2⟩ := h.last
  obtain ⟨c1, c2, c3, _⟩ := compactN_props hc
  have hs : s.length ≤ i + 1 ∧ ∀ o ∈ s, 0 ≤ o ∧ o < (i : Int) + 1 := by
    rcases pushL_cases hp with ⟨_, d, rfl⟩ | ⟨_, d, rfl⟩
    · refine ⟨by have := List.length_take_le' d (lastSt st); simp; omega, fun o ho => ?_⟩
      rcases List.mem_append.1 ho with ho | ho
      · have := l2 o (List.mem_of_mem_take ho); omega
      · have e := List.mem_singleton.1 ho
        have := h.sl
        omega
    · refine ⟨by have := List.length_take_le' d (lastSt st); omega, fun o ho => ?_⟩
      have := l2 o (List.mem_of_mem_take ho); omega
  refine ⟨by simp [h.fl], by simp [h.sl], fun t ht => ?_, fun f hf => ?_, fun k m hk hm => ?_, fun k m t hm ht ho => ?_⟩
  · rcases List.mem_append.1 ht with ht | ht
    · obtain ⟨a, b⟩ := h.st_ok t ht
      exact ⟨by omega, fun o ho => by have := b o ho; omega⟩
    · rw [List.mem_singleton.1 ht]
      exact ⟨hs.1, fun o ho => by have := hs.2 o ho; omega⟩
  · rcases List.mem_append.1 hf with hf | hf
    · exact h.fs_ok f hf
    · rw [List.mem_singleton.1 hf]
      exact ⟨c3, c1⟩
  · by_cases e : k < i
    · exact h.ag k m e hm
    · obtain rfl : k = i := by omega
      rw [hn] at hm
      injection hm with hm
      subst hm
      exact ha
  · by_cases e : k < st.length
    · rw [List.getElem?_append_left e] at ht
      exact h.op k m t hm ht ho
    · rw [List.getElem?_append_right (by omega)] at ht
      have hk0 : k = st.length := by
        by_cases e2 : k - st.length = 0
        · omega
        · rw [List.getElem?_eq_none (by simp; omega)] at ht; cases ht
      subst hk0
      simp at ht
      subst ht
      have : m = n := by
        have e3 := h.sl
        rw [e3, hn] at hm
        exact (Option.some.inj hm).symm
      subst this
      rcases pushL_cases hp with ⟨_, d, rfl⟩ | ⟨ho', _⟩
      · simp
      · rw [ho] at ho'; cases ho'
theorem CkInv.ok {ls : List Ln} {fs : List (List Nd)} {st : List (List Int)} {i : Nat} (h : CkInv ls fs st (i + 1)) {n : Ln} {fi : List Nd} (hn : ls[i]? = some n) (hf : fs[i]? = some fi) (hl : ls.length ≤ 400) : CkOk ls fs st i n fi := by
  have hi : i < ls.length := (List.getElem?_eq_some_iff.1 hn).1
  refine ⟨fun s hs => ?_, hn, hf, by have := h.sl; omega, h.fs_ok, fun k m hk hm => ?_, h.op⟩
  · obtain ⟨a, b⟩ := h.st_ok s hs
    exact ⟨by omega, fun o ho => by have := b o ho; omega⟩
  · have hkl := h.fl
    obtain ⟨a, b⟩ := h.ag k m (by omega) hm
    exact ⟨by omega, by omega⟩
theorem andNot_frags (m : Nat) (h : m < 512) : (bits .andNot .i64 (m : Int) 1 != 0) = decide (2 ≤ m) := by
  have key : ∀ m : Fin 512, (bits .andNot .i64 ((m : Nat) : Int) 1 != 0) = decide (2 ≤ (m : Nat)) := by decide +kernel
  exact key ⟨m, h⟩
theorem chkGo_step {lg : Int} {ls : List Ln} {i : Nat} {n : Ln} {fs : List (List Nd)} {st : List (List Int)} (h : ls[i]? = some n) :
    chkGo lg ls (ls.drop i) fs st i = chkGo lg ls (n :: ls.drop (i + 1)) fs st i := by
  obtain ⟨hk, rfl⟩ := List.getElem?_eq_some_iff.1 h
  rw [List.drop_eq_getElem_cons hk]
end Go.Proofs.YtipnbfbakohcaaaDoor

/- natural.Check: the walk. -/

namespace Go.Proofs.YtipnbfbakohcaaaDoor
open Go.RowKit

theorem CkSt.pushF2 {w0 w W w4 : World} {bw : Nat} {lg : Int} {vl vf vs v' x : Value} {ls : List Ln} {fs : List (List Nd)} {st : List (List Int)} {s : List Nd} {ss : List Value} (h : CkSt w0 w bw lg vl vf vs ls fs st) (he : Ext w W) (hs : w.ownsRow w0.heap.size 29 1 vf fs.length ss) (hv : ∀ (k : Nat) (s : List Nd), fs[k]? = some s → ∃ u, ss[k]? = some u ∧ Fml w u s ∧ Free w bw vf vs u)
    (hrow : w4.ownsRow w0.heap.size 29 1 v' (fs.length + 1) (ss ++ [x])) (hg : W.grownBy w4 vf.ownBlock) (hat : v'.ownBlock = vf.ownBlock ∨ v'.ownBlock = some W.heap.size) (hx : Fml W x s) (hxf : Free W bw vf vs x) :
    CkSt w0 (w4.setCell ⟨bw, 2, none⟩ v') bw lg vl v' vs ls (fs ++ [s]) st :=
  (h.ext_ he).pushF (row_ext hs he) (fun k s hk => by
    obtain ⟨u, a, b, c⟩ := hv k s hk
    exact ⟨u, a, b.ext he, c.ext he⟩) hrow hg hat hx hxf
theorem chkGo_good {lg : Int} {ls r : List Ln} {n : Ln} {fs : List (List Nd)} {st : List (List Int)} {s : List Int} {i : Nat} (hc : (check n.f != 0) = false) (hf : decide (2 ≤ fragsN n.f) = false) (hp : pushL st n = some s) (h1 : ¬ n.agent < 0) (h2 : ¬ 4 ≤ n.agent) :
    chkGo lg ls (n :: r) fs st i = bif followsL lg ls (fs ++ [compactN n.f]) (st ++ [s]) i n (compactN n.f) then chkGo lg ls r (fs ++ [compactN n.f]) (st ++ [s]) (i + 1) else ((i : Int), 13) := by
  conv => lhs; unfold chkGo
  rw [hc, hf, hp]
  show (bif decide (n.agent < 0) || decide (4 ≤ n.agent) then _ else _) = _
  rw [decide_eq_false h1, decide_eq_false h2]
  rfl
/-- The loop of Check. -/
structure CkLoop (w wr : World) (bw : Nat) (lg : Int) (vl : Value) (ls : List Ln) (i : Nat) : Prop where
  all : ∃ fs st vf vs, CkSt w wr bw lg vl vf vs ls fs st ∧ CkInv ls fs st i ∧ natCheck lg ls = chkGo lg ls (ls.drop i) fs st i
theorem natCheck_go {lg : Int} {ls : List Ln} (h0 : 0 ≤ lg) (h6 : lg ≤ 6) (hl : ls.length ≤ 400) (hp : 0 < ls.length) : natCheck lg ls = chkGo lg ls ls [] [] 0 := by
  unfold natCheck
  have e1 : (decide (lg < 0) || decide (6 < lg)) = false := by simp; omega
  have e2 : decide (400 < ls.length) = false := by simp; omega
  have e3 : decide (ls.length = 0) = false := by simp; intro e; rw [e] at hp; simp at hp
  rw [e1, e2, e3]
  rfl
theorem ck_first {w W : World} {bw : Nat} {lg : Int} {vl : Value} {ls : List Ln} (hx : Ext w W) (hbw : w.heap.size ≤ bw) (hb : W.heap[bw]? = some (.cells #[.int .i64 lg, vl, .slice none 0 0, .slice none 0 0] 51 (0, 0))) (hl : Lns w vl ls) :
    CkSt w W bw lg vl (.slice none 0 0) (.slice none 0 0) ls [] [] :=
  ⟨hx, hbw, hb, hl, ⟨[], World.ownsRow_nil _ _ _ _, fun k f h => by simp at h⟩, ⟨[], World.ownsRow_nil _ _ _ _, fun k f h => by simp at h⟩, by simp [Value.ownBlock], by simp [Value.ownBlock], fun g h => by simp [Value.ownBlock] at h⟩

set_option maxRecDepth 100000 in
set_option maxHeartbeats 20000000 in
theorem check_logic_low {w : World} {lg : Int} {vl : Value} {ls : List Ln} (hl : Lns w vl ls) (h : lg < 0) :
    Calls Tryd.prog 9 #[.agg #[.int .i64 lg, vl]] w fun e w' => e = .returned (.tuple #[.int .i64 (natCheck lg ls).1, .int .i64 (natCheck lg ls).2]) ∧ Ext w w' := by
  obtain ⟨Al, cl, rfl, _⟩ := hl
  have HN := Lib.hid (show natCheck lg ls = (0, 1) by unfold natCheck; rw [show (decide (lg < 0) || decide (6 < lg)) = true by simp; omega]; rfl)
  have hd : decide (lg < 0) = true := by simpa using h
  go_enter Tryd.func9, Tryd.ntmps9
  go_wp2_with fail
  go_ret2
  exact ⟨by rw [HN.out] <;> rfl, (Ext.refl _).alloc _⟩

set_option maxRecDepth 100000 in
set_option maxHeartbeats 20000000 in
theorem check_logic_high {w : World} {lg : Int} {vl : Value} {ls : List Ln} (hl : Lns w vl ls) (h0 : ¬ lg < 0) (h : 6 < lg) :
    Calls Tryd.prog 9 #[.agg #[.int .i64 lg, vl]] w fun e w' => e = .returned (.tuple #[.int .i64 (natCheck lg ls).1, .int .i64 (natCheck lg ls).2]) ∧ Ext w w' := by
  obtain ⟨Al, cl, rfl, _⟩ := hl
  have HN := Lib.hid (show natCheck lg ls = (0, 1) by unfold natCheck; rw [show (decide (lg < 0) || decide (6 < lg)) = true by simp; omega]; rfl)
  go_enter Tryd.func9, Tryd.ntmps9
  go_wp2_with fail
  go_ret2
  exact ⟨by rw [HN.out] <;> rfl, (Ext.refl _).alloc _⟩

set_option maxRecDepth 100000 in
set_option maxHeartbeats 20000000 in
theorem check_long {w : World} {lg : Int} {vl : Value} {ls : List Ln} (hl : Lns w vl ls) (h0 : 0 ≤ lg) (h6 : lg ≤ 6) (h : 400 < ls.length) :
    Calls Tryd.prog 9 #[.agg #[.int .i64 lg, vl]] w fun e w' => e = .returned (.tuple #[.int .i64 (natCheck lg ls).1, .int .i64 (natCheck lg ls).2]) ∧ Ext w w' := by
  obtain ⟨Al, cl, rfl, _⟩ := hl
  have HN := Lib.hid (show natCheck lg ls = (0, 8) by unfold natCheck; rw [show (decide (lg < 0) || decide (6 < lg)) = false by simp; omega, decide_eq_true h]; rfl)
  have hn0 : ¬ lg < 0 := by omega
  have hn6 : ¬ 6 < lg := by omega
  have hl4 : (400 : Int) < (ls.length : Int) := by omega
  go_enter Tryd.func9, Tryd.ntmps9
  go_wp2_with fail
  go_ret2
  exact ⟨by rw [HN.out] <;> rfl, (Ext.refl _).alloc _⟩

set_option maxRecDepth 100000 in
set_option maxHeartbeats 20000000 in
theorem check_empty {w : World} {lg : Int} {vl : Value} {ls : List Ln} (hl : Lns w vl ls) (h0 : 0 ≤ lg) (h6 : lg ≤ 6) (h : ls.length = 0) :
    Calls Tryd.prog 9 #[.agg #[.int .i64 lg, vl]] w fun e w' => e = .returned (.tuple #[.int .i64 (natCheck lg ls).1, .int .i64 (natCheck lg ls).2]) ∧ Ext w w' := by
  obtain ⟨Al, cl, rfl, _⟩ := hl
  have HN := Lib.hid (show natCheck lg ls = (0, 3) by unfold natCheck; rw [show (decide (lg < 0) || decide (6 < lg)) = false by simp; omega, h]; rfl)
  have hn0 : ¬ lg < 0 := by omega
  have hn6 : ¬ 6 < lg := by omega
  rw [h]
  go_enter Tryd.func9, Tryd.ntmps9
  go_wp2_with fail
  go_ret2
  exact ⟨by rw [HN.out] <;> rfl, (Ext.refl _).alloc _⟩

set_option maxRecDepth 100000 in
set_option maxHeartbeats 20000000 in
theorem check_main {w : World} {lg : Int} {vl : Value} {ls : List Ln} (hl : Lns w vl ls) (hT : Tab w) (h0 : 0 ≤ lg) (h6 : lg ≤ 6) (hlen : ls.length ≤ 400) (hpos : 0 < ls.length) :
    Calls Tryd.prog 9 #[.agg #[.int .i64 lg, vl]] w fun e w' => e = .returned (.tuple #[.int .i64 (natCheck lg ls).1, .int .i64 (natCheck lg ls).2]) ∧ Ext w w' := by
  have HL := Lib.hid hl
  have HT := Lib.hid hT
  obtain ⟨Al, cl, rfl, hat⟩ := hl
  obtain ⟨ad, rfl, hblk, hcells⟩ := hat.2.2 (by intro e; rw [e] at hpos; simp at hpos)
  have HC := Lib.hid hcells
  have hcap := hat.1
  have hcm := hat.2.1
  unfold maxLen at hcm
  have HN := Lib.hid (natCheck_go h0 h6 hlen hpos)
  have hn0 : ¬ lg < 0 := by omega
  have hn6 : ¬ 6 < lg := by omega
  have hl4 : ¬ (400 : Int) < (ls.length : Int) := by omega
  have hl0 : ((ls.length : Int) == 0) = false := by rw [beq_eq_false_iff_ne]; omega
  obtain ⟨iF, hiF, hzF0, hzF1, hzF2⟩ := info_parts tInfoF
  clear hat hcells hT
  go_enter Tryd.func9, Tryd.ntmps9
  go_wp2_with fail
  go_loopw [33] (fun v wr => ∃ i : Nat, v = .int .i64 i ∧ i ≤ ls.length ∧ Hid (CkLoop w wr (w.heap.size + 1) lg (.slice (some ad) ls.length cl) ls i)) (fun v _ => ls.length - (intOf v).toNat)
  case atStart =>
    refine ⟨0, rfl, Nat.zero_le _, Lib.hid ⟨⟨[], [], _, _, ck_first (((Ext.refl w).alloc (.cells #[.int .i64 lg, .slice (some ad) ls.length cl] 24)).alloc (.cells #[.int .i64 lg, .slice (some ad) ls.length cl, .slice none 0 0, .slice none 0 0] 51)) (by omega) ?_ HL.out, ckInv_nil ls, HN.out⟩⟩⟩
    have := heap_alloc_new (w.alloc (.cells #[.int .i64 lg, .slice (some ad) ls.length cl] 24)) (.cells #[.int .i64 lg, .slice (some ad) ls.length cl, .slice none 0 0, .slice none 0 0] 51)
    simpa using this
  case round =>
    obtain ⟨i, rfl, hi, HR⟩ := hrel
    obtain ⟨fs, st, vf, vs, hst, hinv, hgo⟩ := HR.out.all
    have HST := Lib.hid hst
    have HINV := Lib.hid hinv
    by_cases hlt2 : i < ls.length
    · obtain ⟨n, hn⟩ : ∃ n, ls[i]? = some n := ⟨_, List.getElem?_eq_getElem hlt2⟩
      have HNI := Lib.hid hn
      have HGO := Lib.hid (hgo.trans (chkGo_step hn))
      obtain ⟨uf, ur, q0, q1, q2, q3, q4, hff, hii⟩ := HC.out i n hn
      have hk : ∀ p : Addr, p.block = (ad.add (i * 5)).block → wr.cell? p = w.cell? p := fun p hp => hst.ext.cell (by rw [hp, block_of_add]; exact hblk)
      have q0 := (hk _ rfl).trans q0
      have q1 := (hk ⟨(ad.add (i * 5)).block, (ad.add (i * 5)).off + 1, none⟩ rfl).trans q1
      have q2 := (hk ⟨(ad.add (i * 5)).block, (ad.add (i * 5)).off + 2, none⟩ rfl).trans q2
      have q3 := (hk ⟨(ad.add (i * 5)).block, (ad.add (i * 5)).off + 3, none⟩ rfl).trans q3
      have q4 := (hk ⟨(ad.add (i * 5)).block, (ad.add (i * 5)).off + 4, none⟩ rfl).trans q4
      have HFW := Lib.hid hff
      have HFF := Lib.hid (hff.ext hst.ext)
      clear hk
      obtain ⟨Af, cf, rfl, _⟩ := fml_slice hff
      obtain ⟨Ar, cr, rfl, _⟩ := hii
      have hblkr : ad.block < wr.heap.size := Nat.lt_of_lt_of_le hblk hst.ext.size
      have hir0 : (0 : Int) ≤ (i : Int) := by omega
      have hir1 : (i : Int) < (ls.length : Int) := by omega
      clear hst hinv hgo hff hn
      go_wp2_with fail
      refine (check_any _ n.f _ (HFF.out.ext ((Ext.refl _).alloc _)).1).mono ?_
      rintro e w1 ⟨rfl, hx⟩
      have HX1 := Lib.hid (show Ext (wr.alloc (.cells #[.int .i64 n.depth, .int .i64 n.rule, .slice Af n.f.length cf, .int .i64 n.agent, .slice Ar n.from_.length cr] 45)) w1 from hx)
      clear hx
      cases hc : (check n.f != 0)
      case true =>
        have HE := Lib.hid (show natCheck lg ls = ((i : Int), check n.f) by rw [HGO.out]; unfold chkGo; rw [hc]; rfl)
        obtain ⟨s0, s1, s2, s3, s4, slt⟩ := cells5 ((HX1.out.block (by simp)).trans (heap_alloc_new wr (.cells #[.int .i64 n.depth, .int .i64 n.rule, .slice Af n.f.length cf, .int .i64 n.agent, .slice Ar n.from_.length cr] 45)))
        go_wp2_with fail
        go_ret2
        exact ⟨by rw [HE.out] <;> rfl, HST.out.ext.trans (((Ext.refl wr).alloc (.cells #[.int .i64 n.depth, .int .i64 n.rule, .slice Af n.f.length cf, .int .i64 n.agent, .slice Ar n.from_.length cr] 45)).trans HX1.out)⟩
      case false =>
        have hc0 : check n.f = 0 := by simpa using hc
        have HC0 := Lib.hid hc0
        have HCB := Lib.hid hc
        clear hc0
        obtain ⟨s0, s1, s2, s3, s4, slt⟩ := cells5 ((HX1.out.block (by simp)).trans (heap_alloc_new wr (.cells #[.int .i64 n.depth, .int .i64 n.rule, .slice Af n.f.length cf, .int .i64 n.agent, .slice Ar n.from_.length cr] 45)))
        go_wp2_with fail
        refine (frags_any _ n.f _ (HFF.out.ext (((Ext.refl wr).alloc (.cells #[.int .i64 n.depth, .int .i64 n.rule, .slice Af n.f.length cf, .int .i64 n.agent, .slice Ar n.from_.length cr] 45)).trans HX1.out))).mono ?_
        rintro e w2 ⟨rfl, hx⟩
        have HX2 := Lib.hid (HX1.out.trans hx)
        clear hx s0 s1 s2 s3 s4 slt
        have HAN := Lib.hid (andNot_frags (fragsN n.f) (fragMask_lt _))
        cases hfr : decide (2 ≤ fragsN n.f)
        case true =>
          have hfb : (bits .andNot .i64 ((fragsN n.f : Nat) : Int) 1 != 0) = true := by rw [HAN.out]; exact hfr
          have HE := Lib.hid (show natCheck lg ls = ((i : Int), 10) by rw [HGO.out]; unfold chkGo; rw [HCB.out, hfr]; rfl)
          clear hfr
          go_wp2_with fail
          go_ret2
          exact ⟨by rw [HE.out] <;> rfl, HST.out.ext.trans (((Ext.refl wr).alloc (.cells #[.int .i64 n.depth, .int .i64 n.rule, .slice Af n.f.length cf, .int .i64 n.agent, .slice Ar n.from_.length cr] 45)).trans HX2.out)⟩
        case false =>
          have hfb : (bits .andNot .i64 ((fragsN n.f : Nat) : Int) 1 != 0) = false := by rw [HAN.out]; exact hfr
          have HFR := Lib.hid hfr
          clear hfr
          have HST2 := Lib.hid (HST.out.ext_ (((Ext.refl wr).alloc (.cells #[.int .i64 n.depth, .int .i64 n.rule, .slice Af n.f.length cf, .int .i64 n.agent, .slice Ar n.from_.length cr] 45)).trans HX2.out))
          have hinl : st.length = i := HINV.out.sl
          go_wp2_with fail
          refine (push_any HST2.out n (by rw [hinl]; exact HNI.out) (by rw [hinl]; omega) (by have := HINV.out.last.1; omega)).mono ?_
          rintro e w3 hp
          cases hp with
          | no hp he hx =>
            subst he
            have HE := Lib.hid (show natCheck lg ls = ((i : Int), 3) by rw [HGO.out]; unfold chkGo; rw [HCB.out, HFR.out, hp]; rfl)
            have HX3 := Lib.hid (HST2.out.ext.trans hx)
            obtain ⟨s0, s1, s2, s3, s4, slt⟩ := cells5 (((HX2.out.trans hx).block (by simp)).trans (heap_alloc_new wr (.cells #[.int .i64 n.depth, .int .i64 n.rule, .slice Af n.f.length cf, .int .i64 n.agent, .slice Ar n.from_.length cr] 45)))
            clear hp hx
            go_wp2_with fail
            go_ret2
            exact ⟨by rw [HE.out] <;> rfl, HX3.out⟩
          | yes hp he hx hk hz =>
            subst he
            rename_i s vs'
            have HP := Lib.hid hp
            have hbx : w3.heap[wr.heap.size]? = some (.cells #[.int .i64 n.depth, .int .i64 n.rule, .slice Af n.f.length cf, .int .i64 n.agent, .slice Ar n.from_.length cr] 45 (0, 0)) := (hk _ (by have := HX2.out.size; simp at this; omega) (by have := lt_heap HST.out.blk; omega) (fun e => by
              obtain ⟨ss, hs, _⟩ := HST.out.srow
              have := (hs.lt _ e).2
              omega)).trans ((HX2.out.block (by simp)).trans (heap_alloc_new wr (.cells #[.int .i64 n.depth, .int .i64 n.rule, .slice Af n.f.length cf, .int .i64 n.agent, .slice Ar n.from_.length cr] 45)))
            obtain ⟨s0, s1, s2, s3, s4, slt⟩ := cells5 hbx
            have HBX := Lib.hid hbx
            have HST3 := Lib.hid hx
            clear hp hx hk hbx
            by_cases ha1 : n.agent < 0
            · have HE := Lib.hid (show natCheck lg ls = ((i : Int), 3) by rw [HGO.out]; unfold chkGo; rw [HCB.out, HFR.out, HP.out]; show (bif decide (n.agent < 0) || decide (4 ≤ n.agent) then _ else _) = _; rw [decide_eq_true ha1]; rfl)
              go_wp2_with fail
              go_ret2
              exact ⟨by rw [HE.out] <;> rfl, HST3.out.ext⟩
            · by_cases ha2 : 4 ≤ n.agent
              · have HE := Lib.hid (show natCheck lg ls = ((i : Int), 3) by rw [HGO.out]; unfold chkGo; rw [HCB.out, HFR.out, HP.out]; show (bif decide (n.agent < 0) || decide (4 ≤ n.agent) then _ else _) = _; rw [decide_eq_false ha1, decide_eq_true ha2]; rfl)
                go_wp2_with fail
                go_ret2
                exact ⟨by rw [HE.out] <;> rfl, HST3.out.ext⟩
              · have HGO2 := Lib.hid (HGO.out.trans (chkGo_good HCB.out HFR.out HP.out ha1 ha2))
                have HINV2 := Lib.hid (HINV.out.next HNI.out HC0.out HP.out ⟨by omega, by omega⟩)
                have hfl : fs.length = i := HINV.out.fl
                obtain ⟨us, hr, hu⟩ := HST3.out.frow
                obtain ⟨A2, c2, hvf⟩ := slice_of_row hr
                subst hvf
                have HROW := Lib.hid hr
                have HU := Lib.hid hu
                obtain ⟨k0, k1, k2, k3, kfr, klt⟩ := cells4 HST3.out.blk
                have kfw := kfr 2
                have hc3 : fs.length + 1 ≤ maxLen := by unfold maxLen; omega
                have hc4 : (fs.length + 1) * 24 ≤ 140737488355328 := by omega
                have HF3 := Lib.hid (HFW.out.ext HST3.out.ext)
                have HFLN := Lib.hid hfl
                clear hr hu k0 k1 k3 hfl
                go_wp2_with fail
                go_region_law (first | (go_simp; go_at_call 28; refine (compactF_any _ n.f _ (by exact HF3.out.ext (by repeat (first | exact Ext.refl _ | assumption | apply Ext.alloc | apply Ext.drew)))).mono ?_; rintro e wc ⟨uc, rfl, hmc⟩; obtain ⟨Ac, cc, huc⟩ := slice_of_row hmc.1; subst huc; have MC := Lib.hid hmc; have hxc : Ext w3 wc := Ext.trans (by repeat (first | exact Ext.refl _ | assumption | apply Ext.alloc | apply Ext.drew)) hmc.2.2; have k2c := (hxc.cell (p := ⟨w.heap.size + 1, 2, none⟩) klt).trans k2; have kltc : w.heap.size + 1 < wc.heap.size := Nat.lt_of_lt_of_le klt hxc.size; have s2c := (hxc.cell (p := ⟨wr.heap.size, 2, none⟩) slt).trans s2; clear hmc) | (refine step_append_at rfl (.tmp 69) (.tmp 73) 48 rfl w.heap.size 29 iF (.slice none 0 0) 1 24 Tryd.underlying48 hiF hzF0 hzF1 hzF2 rfl (by decide) (.slice A2 fs.length c2) fs.length us (by simp [Act.eval]) (row_ext HROW.out (Ext.trans hxc (by repeat (first | exact Ext.refl _ | assumption | apply Ext.alloc | apply Ext.drew)))) ⟨_, 0, none⟩ 1 1 [.slice Ac (compactN n.f).length cc] (by simp [Act.eval]; rfl) rfl (row_new_at _ _ _ (by simp)) (fun u hu => by rw [List.mem_singleton.1 hu]; rfl) hc3 hc4 (Nat.le_trans HST3.out.ext.size (Ext.size (a := w3) (Ext.trans hxc (by repeat (first | exact Ext.refl _ | assumption | apply Ext.alloc | apply Ext.drew))))) ?_; intro v' w4 hown4 hgrow4 hat4; have HPF := Lib.hid (CkSt.pushF2 HST3.out (Ext.trans hxc (by repeat (first | exact Ext.refl _ | assumption | apply Ext.alloc | apply Ext.drew))) HROW.out HU.out hown4 hgrow4 hat4 (MC.out.fml.ext (by repeat (first | exact Ext.refl _ | assumption | apply Ext.alloc | apply Ext.drew))) ((CkSt.free_new (w' := wc) HST3.out (fun g hg => ⟨Nat.le_trans (Ext.size (by repeat (first | exact Ext.refl _ | assumption | apply Ext.alloc | apply Ext.drew))) (MC.out.1.lt g hg).1, (MC.out.1.lt g hg).2⟩)).ext (by repeat (first | exact Ext.refl _ | assumption | apply Ext.alloc | apply Ext.drew)))); have kb := keep_block HST3.out.blk HST3.out.fne (Ext.trans hxc (by repeat (first | exact Ext.refl _ | assumption | apply Ext.alloc | apply Ext.drew))) hgrow4; obtain ⟨z0, z1, z2, z3, zfr, zlt⟩ := cells4 kb; obtain ⟨A4, c4, hv4⟩ := slice_of_row hown4; subst hv4; clear hown4 hgrow4 hat4 kb))
                all_goals
                  have HCK := Lib.hid HPF.out.chk
                  have HOK := Lib.hid (HINV2.out.ok HNI.out (by rw [List.getElem?_append_right (by have := HFLN.out; omega), HFLN.out, Nat.sub_self]; rfl) hlen)
                  go_wp2_with fail
                  refine (follows_any HCK.out HOK.out (HT.out.ext HPF.out.ext)).mono ?_
                  rintro e w5 ⟨rfl, hx5⟩
                  have HST5 := Lib.hid (HPF.out.ext_ hx5)
                  clear hx5
                  cases hfo : followsL lg ls (fs ++ [compactN n.f]) (st ++ [s]) i n (compactN n.f)
                  case false =>
                    have HE := Lib.hid (show natCheck lg ls = ((i : Int), 13) by rw [HGO2.out, hfo]; rfl)
                    clear hfo
                    go_wp2_with fail
                    go_ret2
                    exact ⟨by rw [HE.out] <;> rfl, HST5.out.ext⟩
                  case true =>
                    have HGO3 := Lib.hid (show natCheck lg ls = chkGo lg ls (ls.drop (i + 1)) (fs ++ [compactN n.f]) (st ++ [s]) (i + 1) by rw [HGO2.out, hfo]; rfl)
                    clear hfo
                    go_wp2_with fail
                    go_roundw
                    case rel => exact ⟨i + 1, by go_num, by omega, Lib.hid ⟨⟨_, _, _, _, HST5.out, HINV2.out, HGO3.out⟩⟩⟩
                    case measure => simp [intOf]; omega
    · obtain rfl : ls.length = i := by omega
      have HF := Lib.hid (show natCheck lg ls = (0, 0) by rw [hgo, List.drop_length]; rfl)
      clear hst hinv hgo
      go_wp2_with fail
      go_ret2
      exact ⟨by rw [HF.out] <;> rfl, HST.out.ext⟩

theorem natCheck_any {w : World} {lg : Int} {vl : Value} {ls : List Ln} (hl : Lns w vl ls) (hT : Tab w) :
    Calls Tryd.prog 9 #[.agg #[.int .i64 lg, vl]] w fun e w' => e = .returned (.tuple #[.int .i64 (natCheck lg ls).1, .int .i64 (natCheck lg ls).2]) ∧ Ext w w' := by
  by_cases h0 : lg < 0
  · exact check_logic_low hl h0
  · by_cases h6 : 6 < lg
    · exact check_logic_high hl h0 h6
    · by_cases hlen : 400 < ls.length
      · exact check_long hl (by omega) (by omega) hlen
      · by_cases hpos : ls.length = 0
        · exact check_empty hl (by omega) (by omega) hpos
        · exact check_main hl hT (by omega) (by omega) (by omega) (by omega)
end Go.Proofs.YtipnbfbakohcaaaDoor

/- natural.Theorem: the walk. -/

namespace Go.Proofs.YtipnbfbakohcaaaDoor
open Go.RowKit

def lastLn (ls : List Ln) : Ln := ls.getLastD Ln.zero
def natTheorem (lg : Int) (ls : List Ln) : List Nd × Int :=
  bif (natCheck lg ls).2 != 0 then ([], (natCheck lg ls).2) else bif (lastLn ls).depth != 0 then ([], 16) else (compactN (lastLn ls).f, 0)
theorem natCheck_pos {lg : Int} {ls : List Ln} (h : (natCheck lg ls).2 = 0) : 0 < ls.length := by
  unfold natCheck at h
  cases e1 : (decide (lg < 0) || decide (6 < lg))
  · rw [e1] at h
    cases e2 : decide (400 < ls.length)
    · rw [e2] at h
      cases e3 : decide (ls.length = 0)
      · have := of_decide_eq_false e3; omega
      · rw [e3] at h; cases h
    · rw [e2] at h; cases h
  · rw [e1] at h; cases h
theorem lastLn_get {ls : List Ln} (h : 0 < ls.length) : ls[ls.length - 1]? = some (lastLn ls) := by
  unfold lastLn
  rw [← List.getLast?_eq_getElem?]
  cases ls with
  | nil => simp at h
  | cons a t => simp [List.getLast?_cons]
set_option maxRecDepth 100000 in
set_option maxHeartbeats 4000000 in
theorem natTheorem_any {w : World} {lg : Int} {vl : Value} {ls : List Ln} (hl : Lns w vl ls) (hT : Tab w) :
    Calls Tryd.prog 11 #[.agg #[.int .i64 lg, vl]] w fun e w' => ∃ u, e = .returned (.tuple #[u, .int .i64 (natTheorem lg ls).2]) ∧ Ext w w' ∧ Fml w' u (natTheorem lg ls).1 := by
  have HL := Lib.hid hl
  have HT := Lib.hid hT
  obtain ⟨Al, cl, rfl, hat⟩ := hl
  have hcap := hat.1
  have hcm := hat.2.1
  unfold maxLen at hcm
  have HAT := Lib.hid hat.2.2
  clear hat hT
  go_enter Tryd.func11, Tryd.ntmps11
  go_wp2_with fail
  refine (natCheck_any (lg := lg) (HL.out.ext ((Ext.refl w).alloc (.cells #[.int .i64 lg, .slice Al ls.length cl] 24))) (HT.out.ext ((Ext.refl w).alloc (.cells #[.int .i64 lg, .slice Al ls.length cl] 24)))).mono ?_
  rintro e w1 ⟨rfl, hx⟩
  have HX := Lib.hid (((Ext.refl w).alloc (.cells #[.int .i64 lg, .slice Al ls.length cl] 24)).trans hx)
  obtain ⟨z0, z1, _, zlt⟩ := cells2 ((hx.block (by simp)).trans (heap_alloc_new w (.cells #[.int .i64 lg, .slice Al ls.length cl] 24)))
  clear hx
  cases hc : ((natCheck lg ls).2 != 0)
  case true =>
    have HN := Lib.hid (show natTheorem lg ls = ([], (natCheck lg ls).2) by unfold natTheorem; rw [hc]; rfl)
    go_wp2_with fail
    go_ret2
    exact ⟨.slice none 0 0, by rw [HN.out] <;> rfl, HX.out, by rw [HN.out]; exact ⟨⟨none, 0, rfl, Nat.le_refl _, by unfold maxLen; omega, fun h => absurd rfl h⟩, by simp⟩⟩
  case false =>
    have hc0 : (natCheck lg ls).2 = 0 := by simpa using hc
    have hp := natCheck_pos hc0
    have HC := Lib.hid hc
    obtain ⟨ad, rfl, hblk, hcells⟩ := HAT.out (by intro e; rw [e] at hp; simp at hp)
    have hn := lastLn_get hp
    obtain ⟨uf, ur, q0, q1, q2, q3, q4, hff, hii⟩ := (hcells _ _ hn).ext HX.out (by rw [block_of_add]; exact hblk)
    have HFF := Lib.hid hff
    obtain ⟨Af, cf, rfl, _⟩ := fml_slice hff
    obtain ⟨Ar, cr, rfl, _⟩ := hii
    have hi1 : ((ls.length : Int) - 1) < (ls.length : Int) := by omega
    have hi0 : (0 : Int) ≤ (ls.length : Int) - 1 := by omega
    have e1 : ((ls.length : Int) - 1).toNat = ls.length - 1 := by omega
    have hblk1 : ad.block < w1.heap.size := Nat.lt_of_lt_of_le hblk HX.out.size
    obtain ⟨n, hnn⟩ : ∃ n, lastLn ls = n := ⟨_, rfl⟩
    rw [hnn] at q0 q1 q2 q3 q4 HFF
    have HNN := Lib.hid hnn
    clear hcells hff hn hnn hp hc0
    by_cases hd : n.depth = 0
    · have hdb : (n.depth != 0) = false := by simp [hd]
      have HN := Lib.hid (show natTheorem lg ls = (compactN n.f, 0) by unfold natTheorem; rw [HC.out, HNN.out, hdb]; rfl)
      clear hd
      go_wp2_with fail
      refine (compactF_any _ n.f _ (HFF.out.ext ((Ext.refl _).alloc _))).mono ?_
      rintro e w2 ⟨u, rfl, hm⟩
      have HM := Lib.hid hm.fml
      have HX2 := Lib.hid (Ext.trans (show Ext w _ from HX.out.alloc _) hm.2.2)
      clear hm
      go_wp2_with fail
      go_ret2
      exact ⟨u, by rw [HN.out] <;> rfl, HX2.out, by rw [HN.out]; exact HM.out⟩
    · have hdb : (n.depth != 0) = true := by simpa using hd
      have HN := Lib.hid (show natTheorem lg ls = ([], 16) by unfold natTheorem; rw [HC.out, HNN.out, hdb]; rfl)
      clear hd
      go_wp2_with fail
      go_ret2
      exact ⟨.slice none 0 0, by rw [HN.out] <;> rfl, HX.out.alloc _, by rw [HN.out]; exact ⟨⟨none, 0, rfl, Nat.le_refl _, by unfold maxLen; omega, fun h => absurd rfl h⟩, by simp⟩⟩

/-- Does a proof prove a formula? -/
def provesL (lg : Int) (ls : List Ln) (f : List Nd) : Bool := (natTheorem lg ls).2 == 0 && sameN f (natTheorem lg ls).1
set_option maxRecDepth 100000 in
set_option maxHeartbeats 4000000 in
theorem proves_any {w : World} {lg : Int} {vl vf : Value} {ls : List Ln} {f : List Nd} (hl : Lns w vl ls) (hf : Fml w vf f) (hT : Tab w) :
    Calls Tryd.prog 15 #[.agg #[.int .i64 lg, vl], vf] w fun e w' => e = .returned (.bool (provesL lg ls f)) ∧ Ext w w' := by
  have HL := Lib.hid hl
  have HT := Lib.hid hT
  have HF := Lib.hid hf
  obtain ⟨Al, cl, rfl, _⟩ := hl
  obtain ⟨Af, cf, rfl, _⟩ := fml_slice hf
  clear hT hf
  go_enter Tryd.func15, Tryd.ntmps15
  go_wp2_with fail
  refine (natTheorem_any (lg := lg) (HL.out.ext ((Ext.refl w).alloc (.cells #[.int .i64 lg, .slice Al ls.length cl] 24))) (HT.out.ext ((Ext.refl w).alloc (.cells #[.int .i64 lg, .slice Al ls.length cl] 24)))).mono ?_
  rintro e w1 ⟨u, rfl, hx, hu⟩
  have HX := Lib.hid (((Ext.refl w).alloc (.cells #[.int .i64 lg, .slice Al ls.length cl] 24)).trans hx)
  have HU := Lib.hid hu
  clear hx hu
  cases hc : ((natTheorem lg ls).2 == 0)
  case false =>
    have HN := Lib.hid (show provesL lg ls f = false by unfold provesL; rw [hc]; rfl)
    go_wp2_with fail
    go_ret
    exact ⟨same_of HN.out.symm, HX.out⟩
  case true =>
    have HN := Lib.hid (show provesL lg ls f = sameN f (natTheorem lg ls).1 by unfold provesL; rw [hc]; rfl)
    go_wp2_with fail
    refine (same_any _ _ f (natTheorem lg ls).1 _ (HF.out.ext HX.out) HU.out).mono ?_
    rintro e w2 ⟨rfl, hx2⟩
    have HX2 := Lib.hid (HX.out.trans hx2)
    clear hx2
    go_wp2_with fail
    go_ret
    exact ⟨same_of HN.out.symm, HX2.out⟩
end Go.Proofs.YtipnbfbakohcaaaDoor

/- natural.Theorem as a Lean function; small functions of the law: stronger, Few. -/

namespace Go.Proofs.YtipnbfbakohcaaaDoor
open Go.RowKit

/-- Does a logic have all rules of another one? -/
def strongL (a b : Int) : Bool :=
  bif b == 0 then true else bif b == 1 then a == 1 || a == 5 else bif b == 2 then a == 2 || (a == 4 || a == 6) else bif b == 3 then a == 3 || (a == 4 || (a == 5 || a == 6)) else bif b == 4 then a == 4 || a == 6 else a == b
set_option maxHeartbeats 20000000 in
set_option maxRecDepth 100000 in
theorem stronger_any (a b : Int) (ha : 0 ≤ a ∧ a ≤ 6) (hb : 0 ≤ b ∧ b ≤ 6) (w : World) :
    Calls Tryd.prog 14 #[.int .i64 a, .int .i64 b] w fun e w' => e = .returned (.bool (strongL a b)) ∧ Ext w w' := by
  rcases (show a = 0 ∨ a = 1 ∨ a = 2 ∨ a = 3 ∨ a = 4 ∨ a = 5 ∨ a = 6 by omega) with rfl | rfl | rfl | rfl | rfl | rfl | rfl <;>
  rcases (show b = 0 ∨ b = 1 ∨ b = 2 ∨ b = 3 ∨ b = 4 ∨ b = 5 ∨ b = 6 by omega) with rfl | rfl | rfl | rfl | rfl | rfl | rfl <;>
    (go_enter Tryd.func14, Tryd.ntmps14
     go_wp2_with fail
     go_ret
     exact ⟨same_of rfl, Ext.refl _⟩)

/-- Is a proof small? -/
def fewLine (n : Ln) : Bool := !(decide (40 < n.f.length) || decide (10 < n.from_.length))
def fewL (ls : List Ln) : Bool := bif (decide (60 < ls.length) && decide (ls.length ≤ 400)) || decide (500 < ls.length) then false else ls.all fewLine
section
variable {w : World} {lg : Int} {vl : Value} {ls : List Ln}
set_option maxHeartbeats 4000000 in
set_option maxRecDepth 100000 in
theorem few_out (hl : Lns w vl ls) (h : (60 < ls.length ∧ ls.length ≤ 400) ∨ 500 < ls.length) :
    Calls Tryd.prog 7 #[.agg #[.int .i64 lg, vl]] w fun e w' => e = .returned (.bool false) ∧ Ext w w' := by
  obtain ⟨Al, cl, rfl, _⟩ := hl
  by_cases h5 : 500 < ls.length
  · have i1 : (60 : Int) < (ls.length : Int) := by omega
    have i2 : ¬ (ls.length : Int) ≤ 400 := by omega
    have i3 : (500 : Int) < (ls.length : Int) := by omega
    have i4 : decide (ls.length ≤ 400) = false := by simp; omega
    have i5 : decide (60 < ls.length) = true := by simp; omega
    have i6 : decide (500 < ls.length) = true := by simp; omega
    go_enter Tryd.func7, Tryd.ntmps7
    go_wp2_with fail
    go_ret
    exact ⟨rfl, (Ext.refl _).alloc _⟩
  · have i1 : (60 : Int) < (ls.length : Int) := by omega
    have i2 : (ls.length : Int) ≤ 400 := by omega
    have i4 : decide (ls.length ≤ 400) = true := by simp; omega
    have i5 : decide (60 < ls.length) = true := by simp; omega
    go_enter Tryd.func7, Tryd.ntmps7
    go_wp2_with fail
    go_ret
    exact ⟨rfl, (Ext.refl _).alloc _⟩
theorem all_take_succ {k : Nat} {n : Ln} (h : ls[k]? = some n) : (ls.take (k + 1)).all fewLine = ((ls.take k).all fewLine && fewLine n) := by
  rw [take_succ_eq h, List.all_append]
  simp
set_option maxHeartbeats 4000000 in
set_option maxRecDepth 100000 in
theorem few_in (hl : Lns w vl ls) (h : ¬ ((60 < ls.length ∧ ls.length ≤ 400) ∨ 500 < ls.length)) :
    Calls Tryd.prog 7 #[.agg #[.int .i64 lg, vl]] w fun e w' => e = .returned (.bool (ls.all fewLine)) ∧ Ext w w' := by
  have HL := Lib.hid hl
  obtain ⟨Al, cl, rfl, hat⟩ := hl
  have hcap := hat.1
  have hcm := hat.2.1
  unfold maxLen at hcm
  have HAT := Lib.hid hat.2.2
  have h5 : decide (500 < ls.length) = false := by simp; omega
  have h6 : (decide (60 < ls.length) && decide (ls.length ≤ 400)) = false := by
    by_cases e : 60 < ls.length
    · have : ¬ ls.length ≤ 400 := by omega
      simp [e, this]
    · simp [e]
  have hd60 : 60 < ls.length → ¬ ls.length ≤ 400 := by omega
  clear hat
  by_cases h60 : 60 < ls.length
  · have i5 : decide (60 < ls.length) = true := by simpa using h60
    have i4 : decide (ls.length ≤ 400) = false := by simpa using hd60 h60
    have i1 : (60 : Int) < (ls.length : Int) := by omega
    have i2 : ¬ (ls.length : Int) ≤ 400 := by omega
    have i3 : ¬ (500 : Int) < (ls.length : Int) := by omega
    have i6 : ¬ 500 < ls.length := by omega
    have i7 : ¬ ls.length ≤ 400 := by omega
    clear hd60 h h6
    go_enter Tryd.func7, Tryd.ntmps7
    go_wp2_with fail
    go_loopw [3] (fun v wr => ∃ i : Nat, v = .int .i64 i ∧ i ≤ ls.length ∧ Hid ((ls.take i).all fewLine = true) ∧ Hid (Ext (w.alloc (.cells #[.int .i64 lg, .slice Al ls.length cl] 24)) wr)) (fun v _ => ls.length - (intOf v).toNat)
    case atStart => exact ⟨0, rfl, Nat.zero_le _, Lib.hid rfl, Lib.hid (Ext.refl _)⟩
    case round =>
      obtain ⟨i, rfl, hi, HA, HX⟩ := hrel
      obtain ⟨z0, z1, _, zlt⟩ := cells2 ((HX.out.block (by simp)).trans (heap_alloc_new w (.cells #[.int .i64 lg, .slice Al ls.length cl] 24)))
      have HXW := Lib.hid (((Ext.refl w).alloc (.cells #[.int .i64 lg, .slice Al ls.length cl] 24)).trans HX.out)
      by_cases hlt2 : i < ls.length
      · obtain ⟨n, hn⟩ : ∃ n, ls[i]? = some n := ⟨_, List.getElem?_eq_getElem hlt2⟩
        obtain ⟨ad, rfl, hblk, hcells⟩ := HAT.out (by intro e; rw [e] at hlt2; simp at hlt2)
        obtain ⟨uf, ur, q0, q1, q2, q3, q4, hff, hii⟩ := (hcells i n hn).ext HXW.out (by rw [block_of_add]; exact hblk)
        obtain ⟨Af, cf, rfl, _⟩ := fml_slice hff
        obtain ⟨Ar, cr, rfl, _⟩ := hii
        have hir0 : (0 : Int) ≤ (i : Int) := by omega
        have hir1 : (i : Int) < (ls.length : Int) := by omega
        have HS := Lib.hid (all_take_succ hn)
        have HM := Lib.hid (List.mem_of_getElem? hn)
        clear hcells hff hn
        by_cases hf : 40 < n.f.length
        · have hfd : decide (40 < n.f.length) = true := by simpa using hf
          have j1 : (40 : Int) < (n.f.length : Int) := by omega
          have HE := Lib.hid (show ls.all fewLine = false from by
            rw [List.all_eq_false]
            exact ⟨n, HM.out, by unfold fewLine; rw [hfd]; simp⟩)
          go_wp2_with fail
          go_ret
          exact ⟨by rw [HE.out] <;> rfl, HXW.out⟩
        · have hfd : decide (40 < n.f.length) = false := by simpa using hf
          have j1 : ¬ (40 : Int) < (n.f.length : Int) := by omega
          by_cases hr : 10 < n.from_.length
          · have hrd : decide (10 < n.from_.length) = true := by simpa using hr
            have j2 : (10 : Int) < (n.from_.length : Int) := by omega
            have HE := Lib.hid (show ls.all fewLine = false from by
              rw [List.all_eq_false]
              exact ⟨n, HM.out, by unfold fewLine; rw [hrd]; simp⟩)
            go_wp2_with fail
            go_ret
            exact ⟨by rw [HE.out] <;> rfl, HXW.out⟩
          · have hrd : decide (10 < n.from_.length) = false := by simpa using hr
            have j2 : ¬ (10 : Int) < (n.from_.length : Int) := by omega
            have HT : Hid ((ls.take (i + 1)).all fewLine = true) := Lib.hid (by rw [HS.out, HA.out]; unfold fewLine; rw [hfd, hrd]; rfl)
            go_wp2_with fail
            go_roundw
            case rel => exact ⟨i + 1, by go_num, by omega, HT, Lib.hid HX.out⟩
            case measure => simp [intOf]; omega
      · obtain rfl : ls.length = i := by omega
        have HE := Lib.hid (show ls.all fewLine = true by have := HA.out; rwa [List.take_of_length_le (Nat.le_refl _)] at this)
        go_wp2_with fail
        go_ret
        exact ⟨by rw [HE.out] <;> rfl, HXW.out⟩
  · have i5 : decide (60 < ls.length) = false := by simpa using h60
    clear hd60 h h6
    go_enter Tryd.func7, Tryd.ntmps7
    go_wp2_with fail
    go_loopw [3] (fun v wr => ∃ i : Nat, v = .int .i64 i ∧ i ≤ ls.length ∧ Hid ((ls.take i).all fewLine = true) ∧ Hid (Ext (w.alloc (.cells #[.int .i64 lg, .slice Al ls.length cl] 24)) wr)) (fun v _ => ls.length - (intOf v).toNat)
    case atStart => exact ⟨0, rfl, Nat.zero_le _, Lib.hid rfl, Lib.hid (Ext.refl _)⟩
    case round =>
      obtain ⟨i, rfl, hi, HA, HX⟩ := hrel
      obtain ⟨z0, z1, _, zlt⟩ := cells2 ((HX.out.block (by simp)).trans (heap_alloc_new w (.cells #[.int .i64 lg, .slice Al ls.length cl] 24)))
      have HXW := Lib.hid (((Ext.refl w).alloc (.cells #[.int .i64 lg, .slice Al ls.length cl] 24)).trans HX.out)
      by_cases hlt2 : i < ls.length
      · obtain ⟨n, hn⟩ : ∃ n, ls[i]? = some n := ⟨_, List.getElem?_eq_getElem hlt2⟩
        obtain ⟨ad, rfl, hblk, hcells⟩ := HAT.out (by intro e; rw [e] at hlt2; simp at hlt2)
        obtain ⟨uf, ur, q0, q1, q2, q3, q4, hff, hii⟩ := (hcells i n hn).ext HXW.out (by rw [block_of_add]; exact hblk)
        obtain ⟨Af, cf, rfl, _⟩ := fml_slice hff
        obtain ⟨Ar, cr, rfl, _⟩ := hii
        have hir0 : (0 : Int) ≤ (i : Int) := by omega
        have hir1 : (i : Int) < (ls.length : Int) := by omega
        have HS := Lib.hid (all_take_succ hn)
        have HM := Lib.hid (List.mem_of_getElem? hn)
        clear hcells hff hn
        by_cases hf : 40 < n.f.length
        · have hfd : decide (40 < n.f.length) = true := by simpa using hf
          have j1 : (40 : Int) < (n.f.length : Int) := by omega
          have HE := Lib.hid (show ls.all fewLine = false from by
            rw [List.all_eq_false]
            exact ⟨n, HM.out, by unfold fewLine; rw [hfd]; simp⟩)
          go_wp2_with fail
          go_ret
          exact ⟨by rw [HE.out] <;> rfl, HXW.out⟩
        · have hfd : decide (40 < n.f.length) = false := by simpa using hf
          have j1 : ¬ (40 : Int) < (n.f.length : Int) := by omega
          by_cases hr : 10 < n.from_.length
          · have hrd : decide (10 < n.from_.length) = true := by simpa using hr
            have j2 : (10 : Int) < (n.from_.length : Int) := by omega
            have HE := Lib.hid (show ls.all fewLine = false from by
              rw [List.all_eq_false]
              exact ⟨n, HM.out, by unfold fewLine; rw [hrd]; simp⟩)
            go_wp2_with fail
            go_ret
            exact ⟨by rw [HE.out] <;> rfl, HXW.out⟩
          · have hrd : decide (10 < n.from_.length) = false := by simpa using hr
            have j2 : ¬ (10 : Int) < (n.from_.length : Int) := by omega
            have HT : Hid ((ls.take (i + 1)).all fewLine = true) := Lib.hid (by rw [HS.out, HA.out]; unfold fewLine; rw [hfd, hrd]; rfl)
            go_wp2_with fail
            go_roundw
            case rel => exact ⟨i + 1, by go_num, by omega, HT, Lib.hid HX.out⟩
            case measure => simp [intOf]; omega
      · obtain rfl : ls.length = i := by omega
        have HE := Lib.hid (show ls.all fewLine = true by have := HA.out; rwa [List.take_of_length_le (Nat.le_refl _)] at this)
        go_wp2_with fail
        go_ret
        exact ⟨by rw [HE.out] <;> rfl, HXW.out⟩
theorem few_any (hl : Lns w vl ls) :
    Calls Tryd.prog 7 #[.agg #[.int .i64 lg, vl]] w fun e w' => e = .returned (.bool (fewL ls)) ∧ Ext w w' := by
  by_cases h : (60 < ls.length ∧ ls.length ≤ 400) ∨ 500 < ls.length
  · have e : fewL ls = false := by
      unfold fewL
      have : ((decide (60 < ls.length) && decide (ls.length ≤ 400)) || decide (500 < ls.length)) = true := by simpa using h
      rw [this]; rfl
    rw [e]
    exact few_out hl h
  · have e : fewL ls = ls.all fewLine := by
      unfold fewL
      have : ((decide (60 < ls.length) && decide (ls.length ≤ 400)) || decide (500 < ls.length)) = false := by
        rw [Bool.eq_false_iff]; simpa using h
      rw [this]; rfl
    rw [e]
    exact few_in hl h
end
end Go.Proofs.YtipnbfbakohcaaaDoor

/- A proof in a logic is a proof in the logics that have its rules: the plain law. -/

namespace Go.Proofs.YtipnbfbakohcaaaDoor
open Go.RowKit

theorem small_cases {x : Int} (h : 0 ≤ x ∧ x ≤ 6) : x = 0 ∨ x = 1 ∨ x = 2 ∨ x = 3 ∨ x = 4 ∨ x = 5 ∨ x = 6 := by omega
theorem inL_mono {a b : Int} (ha : 0 ≤ a ∧ a ≤ 6) (hb : 0 ≤ b ∧ b ≤ 6) (hs : strongL a b = true) :
    (inL [2, 4, 6] b = true → inL [2, 4, 6] a = true) ∧ (inL [1, 5] b = true → inL [1, 5] a = true) ∧ (inL [3, 4, 5, 6] b = true → inL [3, 4, 5, 6] a = true) ∧ (inL [5, 6] b = true → inL [5, 6] a = true) := by
  rcases small_cases ha with rfl | rfl | rfl | rfl | rfl | rfl | rfl <;>
  rcases small_cases hb with rfl | rfl | rfl | rfl | rfl | rfl | rfl <;>
    first
      | exact absurd hs (by decide)
      | decide
section
variable {a b : Int} {ls : List Ln} {fs : List (List Nd)} {st : List (List Int)} {i : Nat} {n : Ln} {fi : List Nd}
theorem impAt_mono (ha : 0 ≤ a ∧ a ≤ 6) (hb : 0 ≤ b ∧ b ≤ 6) (hs : strongL a b = true) {f : List Nd} {ag : Int} (h : impAt b f ag fi = true) : impAt a f ag fi = true := by
  obtain ⟨_, _, h3, h4⟩ := inL_mono ha hb hs
  unfold impAt at h ⊢
  cases e1 : ((lastN f).op == 9 && (lastN f).i == ag)
  · rw [e1, cond_false] at h
    rw [cond_false]
    cases e2 : (((lastN f).op == 10 && (lastN f).i == ag) || ((lastN f).op == 4 && ((innerN f).op == 9 && (innerN f).i == ag)))
    · rw [e2] at h; cases h
    · rw [e2, cond_true, Bool.and_eq_true] at h
      rw [cond_true, Bool.and_eq_true]
      exact ⟨h4 h.1, h.2⟩
  · rw [e1, cond_true, Bool.or_eq_true, Bool.and_eq_true] at h
    rw [cond_true, Bool.or_eq_true, Bool.and_eq_true]
    rcases h with h | h
    · exact .inl h
    · exact .inr ⟨h3 h.1, h.2⟩
theorem importedL_mono (ha : 0 ≤ a ∧ a ≤ 6) (hb : 0 ≤ b ∧ b ≤ 6) (hs : strongL a b = true) (h : importedL b ls fs st i n fi = true) : importedL a ls fs st i n fi = true := by
  unfold importedL at h ⊢
  cases hd : decide (n.from_.length = 1)
  · rw [hd] at h; cases h
  · rw [hd, cond_true] at h
    rw [cond_true]
    cases hw : withinL st i (fromAt n 0) with
    | none => rw [hw] at h; cases h
    | some r =>
      rw [hw] at h
      have h' : (match boxesL ls r with | [o] => impAt b (fs.getD (fromAt n 0).toNat []) (lineAt ls o).agent fi | _ => false) = true := h
      show (match boxesL ls r with | [o] => impAt a (fs.getD (fromAt n 0).toNat []) (lineAt ls o).agent fi | _ => false) = true
      generalize boxesL ls r = bs at h' ⊢
      match bs, h' with
      | [o], h' => exact impAt_mono ha hb hs h'
theorem knowTL_mono (ha : 0 ≤ a ∧ a ≤ 6) (hb : 0 ≤ b ∧ b ≤ 6) (hs : strongL a b = true) (h : knowTL b ls fs st i n fi = true) : knowTL a ls fs st i n fi = true := by
  have h1 := (inL_mono ha hb hs).1
  unfold knowTL at h ⊢
  cases ho : oneL ls fs st i n with
  | none => rw [ho] at h; cases h
  | some f =>
    rw [ho] at h
    have h' : (bif inL [2, 4, 6] b then (match partL f 9 with | none => false | some r => eqN r.1 fi) else false) = true := h
    show (bif inL [2, 4, 6] a then (match partL f 9 with | none => false | some r => eqN r.1 fi) else false) = true
    cases hl : inL [2, 4, 6] b
    · rw [hl] at h'; cases h'
    · rw [hl, cond_true] at h'
      rw [h1 hl, cond_true]
      exact h'
theorem serialL_mono (ha : 0 ≤ a ∧ a ≤ 6) (hb : 0 ≤ b ∧ b ≤ 6) (hs : strongL a b = true) (h : serialL b ls fs st i n fi = true) : serialL a ls fs st i n fi = true := by
  have h2 := (inL_mono ha hb hs).2.1
  unfold serialL at h ⊢
  cases ho : oneL ls fs st i n with
  | none => rw [ho] at h; cases h
  | some f =>
    rw [ho] at h
    have h' : (bif inL [1, 5] b then (lastN f).op == 9 && eqN (possN (lastN f).i (subN f (lastN f).x)) fi else false) = true := h
    show (bif inL [1, 5] a then (lastN f).op == 9 && eqN (possN (lastN f).i (subN f (lastN f).x)) fi else false) = true
    cases hl : inL [1, 5] b
    · rw [hl] at h'; cases h'
    · rw [hl, cond_true] at h'
      rw [h2 hl, cond_true]
      exact h'
theorem ruleL_mono (ha : 0 ≤ a ∧ a ≤ 6) (hb : 0 ≤ b ∧ b ≤ 6) (hs : strongL a b = true) (k : Nat) (h : ruleL k b ls fs st i n fi = true) : ruleL k a ls fs st i n fi = true := by
  match k, h with
  | 0, h => exact h
  | 1, h => exact h
  | 2, h => exact h
  | 3, h => exact h
  | 4, h => exact h
  | 5, h => exact h
  | 6, h => exact h
  | 7, h => exact h
  | 8, h => exact h
  | 9, h => exact h
  | 10, h => exact h
  | 11, h => exact h
  | 12, h => exact h
  | 13, h => exact h
  | 14, h => exact importedL_mono ha hb hs h
  | 15, h => exact knowTL_mono ha hb hs h
  | 16, h => exact h
  | 17, h => exact serialL_mono ha hb hs h
  | k + 18, h => exact h
theorem followsL_mono (ha : 0 ≤ a ∧ a ≤ 6) (hb : 0 ≤ b ∧ b ≤ 6) (hs : strongL a b = true) (h : followsL b ls fs st i n fi = true) : followsL a ls fs st i n fi = true := by
  unfold followsL at h ⊢
  cases e1 : (n.rule == 2)
  · rw [e1, cond_false] at h
    rw [cond_false]
    cases e2 : (n.agent != 0)
    · rw [e2, cond_false] at h
      rw [cond_false]
      cases e3 : (n.rule == 1)
      · rw [e3, cond_false] at h
        rw [cond_false]
        unfold folTab at h ⊢
        cases e4 : (decide (3 ≤ n.rule) && decide (n.rule ≤ 20))
        · rw [e4] at h; cases h
        · rw [e4, cond_true] at h
          rw [cond_true]
          exact ruleL_mono ha hb hs _ h
      · rw [e3] at h; exact h
    · rw [e2] at h; cases h
  · rw [e1] at h; exact h
end
theorem chkGo_inv {b : Int} {ls r : List Ln} {n : Ln} {fs : List (List Nd)} {st : List (List Int)} {i : Nat} (h : (chkGo b ls (n :: r) fs st i).2 = 0) :
    (check n.f != 0) = false ∧ decide (2 ≤ fragsN n.f) = false ∧ ∃ s, pushL st n = some s ∧ ¬ n.agent < 0 ∧ ¬ 4 ≤ n.agent ∧ followsL b ls (fs ++ [compactN n.f]) (st ++ [s]) i n (compactN n.f) = true ∧ (chkGo b ls r (fs ++ [compactN n.f]) (st ++ [s]) (i + 1)).2 = 0 := by
  cases e1 : (check n.f != 0)
  · cases e2 : decide (2 ≤ fragsN n.f)
    · cases e3 : pushL st n with
      | none =>
        have : chkGo b ls (n :: r) fs st i = ((i : Int), 3) := by
          conv => lhs; unfold chkGo
          rw [e1, e2, e3]; rfl
        rw [this] at h; cases h
      | some s =>
        by_cases h1 : n.agent < 0
        · have : chkGo b ls (n :: r) fs st i = ((i : Int), 3) := by
            conv => lhs; unfold chkGo
            rw [e1, e2, e3]
            show (bif decide (n.agent < 0) || decide (4 ≤ n.agent) then _ else _) = _
            rw [decide_eq_true h1]; rfl
          rw [this] at h; cases h
        · by_cases h2 : 4 ≤ n.agent
          · have : chkGo b ls (n :: r) fs st i = ((i : Int), 3) := by
              conv => lhs; unfold chkGo
              rw [e1, e2, e3]
              show (bif decide (n.agent < 0) || decide (4 ≤ n.agent) then _ else _) = _
              rw [decide_eq_true h2, Bool.or_true]; rfl
            rw [this] at h; cases h
          · rw [chkGo_good e1 e2 e3 h1 h2] at h
            cases e5 : followsL b ls (fs ++ [compactN n.f]) (st ++ [s]) i n (compactN n.f)
            · rw [e5] at h; cases h
            · rw [e5, cond_true] at h
              exact ⟨rfl, rfl, s, rfl, h1, h2, e5, h⟩
    · have : chkGo b ls (n :: r) fs st i = ((i : Int), 10) := by
        conv => lhs; unfold chkGo
        rw [e1, e2]; rfl
      rw [this] at h; cases h
  · have : chkGo b ls (n :: r) fs st i = ((i : Int), check n.f) := by
      conv => lhs; unfold chkGo
      rw [e1]; rfl
    rw [this] at h
    have h0 : check n.f = 0 := h
    rw [h0] at e1; cases e1
theorem chkGo_mono {a b : Int} (ha : 0 ≤ a ∧ a ≤ 6) (hb : 0 ≤ b ∧ b ≤ 6) (hs : strongL a b = true) (ls : List Ln) : ∀ (r : List Ln) (fs : List (List Nd)) (st : List (List Int)) (i : Nat), (chkGo b ls r fs st i).2 = 0 → (chkGo a ls r fs st i).2 = 0 ∧ ∀ n ∈ r, check n.f = 0
  | [], fs, st, i, _ => ⟨rfl, fun n hn => by simp at hn⟩
  | n :: r, fs, st, i, h => by
    obtain ⟨e1, e2, s, e3, h1, h2, e5, h6⟩ := chkGo_inv h
    obtain ⟨h7, h8⟩ := chkGo_mono ha hb hs ls r _ _ _ h6
    refine ⟨?_, fun m hm => ?_⟩
    · rw [chkGo_good e1 e2 e3 h1 h2, followsL_mono ha hb hs e5, cond_true]
      exact h7
    · rcases List.mem_cons.1 hm with rfl | hm
      · simpa using e1
      · exact h8 m hm
theorem natCheck_mono {a b : Int} {ls : List Ln} (ha : 0 ≤ a ∧ a ≤ 6) (hb : 0 ≤ b ∧ b ≤ 6) (hs : strongL a b = true) (h : (natCheck b ls).2 = 0) : (natCheck a ls).2 = 0 ∧ ∀ n ∈ ls, check n.f = 0 := by
  unfold natCheck at h ⊢
  have ea : (decide (a < 0) || decide (6 < a)) = false := by simp; omega
  have eb : (decide (b < 0) || decide (6 < b)) = false := by simp; omega
  rw [eb, cond_false] at h
  rw [ea, cond_false]
  cases e2 : decide (400 < ls.length)
  · rw [e2, cond_false] at h
    rw [cond_false]
    cases e3 : decide (ls.length = 0)
    · rw [e3, cond_false] at h
      rw [cond_false]
      exact chkGo_mono ha hb hs ls ls [] [] 0 h
    · rw [e3] at h; cases h
  · rw [e2] at h; cases h
theorem natCheck_logic {b : Int} {ls : List Ln} (h : (natCheck b ls).2 = 0) : 0 ≤ b ∧ b ≤ 6 := by
  unfold natCheck at h
  cases e1 : (decide (b < 0) || decide (6 < b))
  · simp at e1; omega
  · rw [e1] at h; cases h
theorem strongL_refl {b : Int} (hb : 0 ≤ b ∧ b ≤ 6) : strongL b b = true := by
  rcases small_cases hb with rfl | rfl | rfl | rfl | rfl | rfl | rfl <;> decide
/-- The plain law of NaturalLogics. -/
theorem proves_mono {a b : Int} {ls : List Ln} (ha : 0 ≤ a ∧ a ≤ 6) (h : (natTheorem b ls).2 = 0) (hs : strongL a b = true) : provesL a ls (natTheorem b ls).1 = true := by
  have hc : (natCheck b ls).2 = 0 := by
    unfold natTheorem at h
    cases e : ((natCheck b ls).2 != 0)
    · simpa using e
    · rw [e] at h
      have h2 : (natCheck b ls).2 = 0 := h
      rw [h2] at e
      cases e
  have hb := natCheck_logic hc
  obtain ⟨h1, h2⟩ := natCheck_mono ha hb hs hc
  have hp := natCheck_pos hc
  have hcl : check (lastLn ls).f = 0 := h2 _ (List.mem_of_getElem? (lastLn_get hp))
  have hbT : natTheorem b ls = (bif (lastLn ls).depth != 0 then ([], 16) else (compactN (lastLn ls).f, 0)) := by
    unfold natTheorem; rw [hc]; rfl
  have haT : natTheorem a ls = (bif (lastLn ls).depth != 0 then ([], 16) else (compactN (lastLn ls).f, 0)) := by
    unfold natTheorem; rw [h1]; rfl
  have hd : ((lastLn ls).depth != 0) = false := by
    cases e : ((lastLn ls).depth != 0)
    · rfl
    · rw [hbT, e] at h; cases h
  have hbT' : natTheorem b ls = (compactN (lastLn ls).f, 0) := by rw [hbT, hd]; rfl
  have haT' : natTheorem a ls = (compactN (lastLn ls).f, 0) := by rw [haT, hd]; rfl
  unfold provesL
  rw [haT', hbT']
  unfold sameN
  simp [compactN_check hcl]
end Go.Proofs.YtipnbfbakohcaaaDoor

/- The law's awake; NaturalLogics: the walks. -/

namespace Go.Proofs.YtipnbfbakohcaaaDoor
open Go.RowKit

theorem awake1 : natCheck 0 (truthLs 0 (factN 0)) = (1, 13) := by decide +kernel
theorem awake2 : (factN 0).length = 1 := by decide +kernel
theorem awake2b : (factN 1).length = 1 := by decide +kernel
theorem awake3 : provesL 2 (truthLs 0 (factN 0)) (impN (knowN 0 (factN 0)) (factN 0)) = true := by decide +kernel
theorem awake4 : provesL 0 (axiomLs 0 (factN 0) (factN 1)) (impN (knowN 0 (impN (factN 0) (factN 1))) (impN (knowN 0 (factN 0)) (knowN 0 (factN 1)))) = true := by decide +kernel
set_option maxRecDepth 100000 in
set_option maxHeartbeats 4000000 in
theorem awake_any {w : World} (hT : Tab w) :
    Calls Tryd.prog 8 #[] w fun e w' => e = .returned (.bool true) ∧ Ext w w' := by
  have HT := Lib.hid hT
  have P0 : Hid (0 < (factN 0).length) := Lib.hid (by rw [awake2]; decide)
  have P1 : Hid (0 < (factN 1).length) := Lib.hid (by rw [awake2b]; decide)
  clear hT
  go_enter Tryd.func8, Tryd.ntmps8
  go_wp2_with fail
  refine (fact_any 0 ⟨by omega, by omega⟩ _).mono ?_
  rintro e w1 ⟨up, rfl, hm⟩
  have MP := Lib.hid hm.fml
  have X1 := Lib.hid hm.2.2
  clear hm
  go_wp2_with fail
  refine (fact_any 1 ⟨by omega, by omega⟩ _).mono ?_
  rintro e w2 ⟨uq, rfl, hm⟩
  have MQ := Lib.hid hm.fml
  have X2 := Lib.hid hm.2.2
  clear hm
  go_wp2_with fail
  refine (truth_any 0 0 ⟨by omega, by omega⟩ up (factN 0) _ (MP.out.ext X2.out) P0.out).mono ?_
  rintro e w3 ⟨vl, rfl, hx, hl⟩
  have X3 := Lib.hid hx
  have HL := Lib.hid hl
  clear hx hl
  go_wp2_with fail
  refine (natCheck_any (lg := 0) HL.out (HT.out.ext (X1.out.trans (X2.out.trans X3.out)))).mono ?_
  rintro e w4 ⟨rfl, hx⟩
  rw [awake1]
  have X4 := Lib.hid hx
  have X24 := Lib.hid (X3.out.trans hx)
  have X14 := Lib.hid (X2.out.trans X24.out)
  have X04 := Lib.hid (X1.out.trans X14.out)
  clear hx
  go_wp2_with fail
  refine (imp_any _ _ (factN 0) (factN 1) _ (MP.out.ext X14.out) (MQ.out.ext X24.out)).mono ?_
  rintro e w5 ⟨u1, rfl, hm⟩
  have M1 := Lib.hid hm.fml
  have X45 := Lib.hid hm.2.2
  clear hm
  go_wp2_with fail
  refine (know_any 0 ⟨by omega, by omega⟩ _ (impN (factN 0) (factN 1)) _ M1.out).mono ?_
  rintro e w6 ⟨u2, rfl, hm⟩
  have M2 := Lib.hid hm.fml
  have X46 := Lib.hid (X45.out.trans hm.2.2)
  clear hm
  go_wp2_with fail
  refine (know_any 0 ⟨by omega, by omega⟩ _ (factN 0) _ (MP.out.ext (X14.out.trans X46.out))).mono ?_
  rintro e w7 ⟨u3, rfl, hm⟩
  have M3 := Lib.hid hm.fml
  have X67 := Lib.hid hm.2.2
  clear hm
  go_wp2_with fail
  refine (know_any 0 ⟨by omega, by omega⟩ _ (factN 1) _ (MQ.out.ext (X24.out.trans (X46.out.trans X67.out)))).mono ?_
  rintro e w8 ⟨u4, rfl, hm⟩
  have M4 := Lib.hid hm.fml
  have X78 := Lib.hid hm.2.2
  clear hm
  go_wp2_with fail
  refine (imp_any _ _ (knowN 0 (factN 0)) (knowN 0 (factN 1)) _ (M3.out.ext X78.out) M4.out).mono ?_
  rintro e w9 ⟨u5, rfl, hm⟩
  have M5 := Lib.hid hm.fml
  have X69 := Lib.hid (X67.out.trans (X78.out.trans hm.2.2))
  clear hm
  go_wp2_with fail
  refine (imp_any _ _ (knowN 0 (impN (factN 0) (factN 1))) (impN (knowN 0 (factN 0)) (knowN 0 (factN 1))) _ (M2.out.ext X69.out) M5.out).mono ?_
  rintro e w10 ⟨u6, rfl, hm⟩
  have M6 := Lib.hid hm.fml
  have Y10 := Lib.hid (X46.out.trans (X69.out.trans hm.2.2))
  have HP := Lib.hid (MP.out.ext (X14.out.trans Y10.out))
  obtain ⟨Ap, cp, rfl, _⟩ := fml_slice HP.out
  have hp1 := HP.out
  rw [awake2] at hp1
  have HP1 := Lib.hid hp1
  rw [awake2]
  have Y := Lib.hid (X04.out.trans Y10.out)
  have HQ := Lib.hid (MQ.out.ext (X24.out.trans Y10.out))
  clear hm hp1
  go_wp2_with fail
  refine (truth_any 2 0 ⟨by omega, by omega⟩ _ (factN 0) _ HP1.out P0.out).mono ?_
  rintro e w11 ⟨vl2, rfl, hx, hl⟩
  have Z1 := Lib.hid hx
  have HL2 := Lib.hid hl
  clear hx hl
  go_wp2_with fail
  refine (know_any 0 ⟨by omega, by omega⟩ _ (factN 0) _ (HP1.out.ext Z1.out)).mono ?_
  rintro e w12 ⟨u7, rfl, hm⟩
  have M7 := Lib.hid hm.fml
  have Z2 := Lib.hid hm.2.2
  clear hm
  go_wp2_with fail
  refine (imp_any _ _ (knowN 0 (factN 0)) (factN 0) _ M7.out (HP1.out.ext (Z1.out.trans Z2.out))).mono ?_
  rintro e w13 ⟨u8, rfl, hm⟩
  have M8 := Lib.hid hm.fml
  have Z3 := Lib.hid hm.2.2
  have Z13 := Lib.hid (Z1.out.trans (Z2.out.trans hm.2.2))
  clear hm
  go_wp2_with fail
  refine (proves_any (lg := 2) (HL2.out.ext (Z2.out.trans Z3.out)) M8.out (HT.out.ext (Y.out.trans Z13.out))).mono ?_
  rintro e w14 ⟨rfl, hx⟩
  rw [awake3]
  have Z14 := Lib.hid (Z13.out.trans hx)
  clear hx
  go_wp2_with fail
  refine (axiom_any 0 0 ⟨by omega, by omega⟩ _ _ (factN 0) (factN 1) _ (HP1.out.ext Z14.out) (HQ.out.ext Z14.out) P0.out P1.out).mono ?_
  rintro e w15 ⟨vl3, rfl, hx, hl⟩
  have HL3 := Lib.hid hl
  have Z15 := Lib.hid (Z14.out.trans hx)
  clear hx hl
  go_wp2_with fail
  refine (proves_any (lg := 0) HL3.out (M6.out.ext Z15.out) (HT.out.ext (Y.out.trans Z15.out))).mono ?_
  rintro e w16 ⟨rfl, hx⟩
  rw [awake4]
  have Z16 := Lib.hid (Z15.out.trans hx)
  clear hx
  go_wp2_with fail
  go_ret
  exact ⟨rfl, Y.out.trans Z16.out⟩

set_option maxRecDepth 100000 in
set_option maxHeartbeats 4000000 in
theorem logics_any {w : World} {lg : Int} {vl : Value} {ls : List Ln} (hl : Lns w vl ls) (hT : Tab w) :
    Calls Tryd.prog 5 #[.agg #[.int .i64 lg, vl]] w fun e w' => e = .returned (.bool true) ∧ Ext w w' := by
  have HL := Lib.hid hl
  have HT := Lib.hid hT
  obtain ⟨Al, cl, rfl, _⟩ := hl
  clear hT
  go_enter Tryd.func5, Tryd.ntmps5
  go_wp2_with fail
  refine (few_any (lg := lg) (HL.out.ext ((Ext.refl w).alloc (.cells #[.int .i64 lg, .slice Al ls.length cl] 24)))).mono ?_
  rintro e w1 ⟨rfl, hx⟩
  have HX := Lib.hid (((Ext.refl w).alloc (.cells #[.int .i64 lg, .slice Al ls.length cl] 24)).trans hx)
  have hb1 := (hx.block (by simp)).trans (heap_alloc_new w (.cells #[.int .i64 lg, .slice Al ls.length cl] 24))
  obtain ⟨z0, z1, zfr, zlt⟩ := cells2 hb1
  have HB1 := Lib.hid hb1
  clear hx hb1
  cases hf : fewL ls
  case false =>
    clear hf
    go_wp2_with fail
    refine (awake_any (HT.out.ext HX.out)).mono ?_
    rintro e w2 ⟨rfl, hx⟩
    go_wp2_with fail
    go_ret
    exact ⟨rfl, HX.out.trans hx⟩
  case true =>
    clear hf
    go_wp2_with fail
    refine (natTheorem_any (lg := lg) (HL.out.ext HX.out) (HT.out.ext HX.out)).mono ?_
    rintro e w2 ⟨u, rfl, hx, hu⟩
    have HU := Lib.hid hu
    have HX2 := Lib.hid (HX.out.trans hx)
    have hb2 := (hx.block (lt_heap HB1.out)).trans HB1.out
    obtain ⟨y0, y1, yfr, ylt⟩ := cells2 hb2
    have HB2 := Lib.hid hb2
    clear hx hu hb2 z0 z1 zfr zlt
    cases hc : ((natTheorem lg ls).2 != 0)
    case true =>
      go_wp2_with fail
      refine (awake_any (HT.out.ext HX2.out)).mono ?_
      rintro e w3 ⟨rfl, hx⟩
      go_wp2_with fail
      go_ret
      exact ⟨rfl, HX2.out.trans hx⟩
    case false =>
      have hc0 : (natTheorem lg ls).2 = 0 := by simpa using hc
      have HC0 := Lib.hid hc0
      have hlg : 0 ≤ lg ∧ lg ≤ 6 := by
        refine natCheck_logic (ls := ls) ?_
        unfold natTheorem at hc0
        cases e : ((natCheck lg ls).2 != 0)
        · simpa using e
        · rw [e] at hc0
          have h2 : (natCheck lg ls).2 = 0 := hc0
          rw [h2] at e
          cases e
      have HLG := Lib.hid hlg
      clear hc0 hlg
      go_wp2_with fail
      go_loopw [5] (fun v wr => ∃ i : Nat, v = .int .i64 i ∧ i ≤ 7 ∧ Hid (Ext w2 wr)) (fun v _ => 8 - (intOf v).toNat)
      case atStart => exact ⟨0, rfl, by omega, Lib.hid (Ext.refl _)⟩
      case round =>
        obtain ⟨i, rfl, hi, HR⟩ := hrel
        have hb3 := (HR.out.block (lt_heap HB2.out)).trans HB2.out
        obtain ⟨x0, x1, xfr, xlt⟩ := cells2 hb3
        have HB3 := Lib.hid hb3
        clear hb3 y0 y1 yfr ylt
        by_cases hlt : i < 7
        · have hle : (i : Int) ≤ 6 := by omega
          go_wp2_with fail
          refine (stronger_any (i : Int) lg ⟨by omega, by omega⟩ HLG.out _).mono ?_
          rintro e w5 ⟨rfl, hx⟩
          have hQ : Ext (wr.alloc (.cells #[.int .i64 (i : Int), .slice Al ls.length cl] 24)) w5 := hx
          obtain ⟨q0, q1, qfr, qlt⟩ := cells2 ((hQ.block (by simp)).trans (heap_alloc_new wr (.cells #[.int .i64 (i : Int), .slice Al ls.length cl] 24)))
          have HR5 := Lib.hid (HR.out.trans (((Ext.refl wr).alloc (.cells #[.int .i64 (i : Int), .slice Al ls.length cl] 24)).trans hQ))
          clear hx hQ x0 x1 xfr xlt
          cases hs : strongL (i : Int) lg
          case false =>
            clear hs
            go_wp2_with fail
            go_roundw
            case rel => exact ⟨i + 1, by go_num, by omega, Lib.hid HR5.out⟩
            case measure => simp [intOf]; omega
          case true =>
            have HP := Lib.hid (proves_mono (a := (i : Int)) (b := lg) (ls := ls) ⟨by omega, by omega⟩ HC0.out hs)
            clear hs
            go_wp2_with fail
            refine (proves_any (lg := (i : Int)) (HL.out.ext (HX2.out.trans HR5.out)) (HU.out.ext HR5.out) (HT.out.ext (HX2.out.trans HR5.out))).mono ?_
            rintro e w6 ⟨rfl, hx⟩
            rw [HP.out]
            have HR6 := Lib.hid (HR5.out.trans hx)
            clear hx
            go_wp2_with fail
            go_roundw
            case rel => exact ⟨i + 1, by go_num, by omega, Lib.hid HR6.out⟩
            case measure => simp [intOf]; omega
        · obtain rfl : i = 7 := by omega
          go_wp2_with fail
          refine (awake_any (HT.out.ext (HX2.out.trans HR.out))).mono ?_
          rintro e w6 ⟨rfl, hx⟩
          go_wp2_with fail
          go_ret
          exact ⟨rfl, (HX2.out.trans HR.out).trans hx⟩
end Go.Proofs.YtipnbfbakohcaaaDoor

/- Arguments read: formulas, lines, proofs; the table of rules out of the row's list. -/

namespace Go.Proofs.YtipnbfbakohcaaaDoor
open Go.ChangeShapes Go.WideShapes Go.ChangeAt Go.RowKit Go.Deep Go.Joins

theorem list_of {α : Type} {P : Nat → α → Prop} : ∀ len : Nat, (∀ i, i < len → ∃ a, P i a) → ∃ l : List α, l.length = len ∧ ∀ k a, l[k]? = some a → P k a
  | 0, _ => ⟨[], rfl, fun k a h => by simp at h⟩
  | len + 1, h => by
    obtain ⟨l, hl, hp⟩ := list_of len (fun i hi => h i (by omega))
    obtain ⟨a, ha⟩ := h len (by omega)
    refine ⟨l ++ [a], by simp [hl], fun k b hk => ?_⟩
    by_cases e : k < l.length
    · rw [List.getElem?_append_left e] at hk
      exact hp k b hk
    · rw [List.getElem?_append_right (by omega)] at hk
      have e0 : k - l.length = 0 := by
        by_cases e2 : k - l.length = 0
        · exact e2
        · rw [List.getElem?_eq_none (by simp; omega)] at hk; cases hk
      rw [e0] at hk
      simp at hk
      subst hk
      have : k = len := by omega
      rw [this]
      exact ha
section
variable {H : Type} {enc : TypeId × Value → H} {P : Program} {w : World} {base : Nat} {spare : Nat → Bool} {held : Bool}
theorem open_slice_fields {t e : TypeId} {fs : Array Field} {fuel : Nat} {cs : List Value} {x : DataW H × List MemPlace} (ht : P.underlying t = some (.slice e)) (he : P.underlying e = some (.struct fs))
    (hone : oneCellFields P fs = true) (hC : P.cellsOf e = fs.size) (h : DataW.trod enc P w base spare held fuel t cs = some x) :
    (cs = [.slice none 0 0] ∧ x = (.nil, [])) ∨
    ∃ (a : Addr) (len cap : Nat), cs = [.slice (some a) len cap] ∧ len ≤ cap ∧ cap ≤ maxLen ∧
      ∀ i, i < len → ∀ (j : Nat) (f : Field), fs[j]? = some f → ∃ (v : Value) (y : DataW H × List MemPlace) (n : Nat), w.cell? (a.add (i * fs.size + j)) = some v ∧ DataW.trod enc P w base spare held n f.type [v] = some y := by
  rcases open_slice ht h with h0 | ⟨a, len, cap, m, n, D, Pl, hcs, hb, hl, hm, hmm, hx, hi⟩
  · exact .inl h0
  · refine .inr ⟨a, len, cap, hcs, hl, hm, fun i hil j f hj => ?_⟩
    have him : i < m := by rw [hmm]; split <;> omega
    obtain ⟨cs', hc, ht'⟩ := hi i him
    rw [hC] at hc
    obtain ⟨ys, n', hn', hy, hlen, hyl, hf⟩ := DataW.trod_struct he ht'
    obtain ⟨_, hcl, hat⟩ := World.cells?_some hc
    obtain ⟨ho, hk⟩ := hone_of hone j f hj
    have hjl : j < fs.size := (Array.getElem?_eq_some_iff.1 hj).1
    have hcell := hat j hjl
    have hv : cs'[j]? = some (cs'[j]'(by omega)) := List.getElem?_eq_getElem (by omega)
    have h1 := hf j f hj
    rw [ho, hk] at h1
    have hone' : (cs'.drop j).take 1 = [cs'[j]'(by omega)] := by
      rw [List.drop_eq_getElem_cons (by omega)]
      rfl
    rw [hone'] at h1
    have hys : ys[j]? = some (ys[j]'(by omega)) := List.getElem?_eq_getElem (by omega)
    refine ⟨_, _, _, ?_, h1.trans hys⟩
    rw [← Go.Deep.add_add, hcell, hv]
end
section
variable {H : Type} {enc : TypeId × Value → H} {w : World} {spare : Nat → Bool} {held : Bool}
theorem cell_field {w : World} {a : Addr} {k j : Nat} {u : Value} (hj : 0 < j) (hc : w.cell? (a.add (k + j)) = some u) : w.cell? ⟨(a.add k).block, (a.add k).off + j, none⟩ = some u := by
  have e : a.add (k + j) = ⟨(a.add k).block, (a.add k).off + j, none⟩ := by
    rw [← add_of_add]
    unfold Addr.add
    rw [if_neg (by omega)]
  rw [← e]
  exact hc
theorem i64_of_wf {z : Int} (h : (Lit.int .i64 z).wf = true) : i64ok z := by
  unfold Lit.wf at h
  rw [Bool.and_eq_true, decide_eq_true_iff, decide_eq_true_iff] at h
  have h1 : IntKind.i64.min = -9223372036854775808 := by decide +kernel
  have h2 : IntKind.i64.max = 9223372036854775807 := by decide +kernel
  rw [h1, h2] at h
  exact h
theorem int_of_trod {fuel : Nat} {v : Value} {y : DataW H × List MemPlace} (h : DataW.trod enc Tryd.prog w 0 spare held fuel 3 [v] = some y) : ∃ z, v = .int .i64 z ∧ i64ok z := by
  obtain ⟨n, hc, _, hw⟩ := DataW.trod_int Tryd.underlying3 h
  injection hc with hc _
  exact ⟨n, hc, i64_of_wf hw⟩
theorem fml_of_trod {fuel : Nat} {v : Value} {y : DataW H × List MemPlace} (h : DataW.trod enc Tryd.prog w 0 spare held fuel 29 [v] = some y) : ∃ l, Fml w v l := by
  rcases open_slice_fields Tryd.underlying29 Tryd.underlying60 (by kernel_rfl) (by kernel_rfl) h with ⟨hc, _⟩ | ⟨a, len, cap, hc, hl, hm, hf⟩
  · injection hc with hc _
    subst hc
    exact ⟨[], ⟨none, 0, rfl, Nat.le_refl _, by unfold maxLen; omega, fun h => absurd rfl h⟩, by simp⟩
  · injection hc with hc _
    subst hc
    obtain ⟨l, hlen, hp⟩ := list_of (P := fun i n => NdAt w (a.add (i * 6)) n ∧ n.ok ∧ a.block < w.heap.size) len (fun i hi => by
      obtain ⟨v0, _, _, c0, t0⟩ := hf i hi 0 _ rfl
      obtain ⟨v1, _, _, c1, t1⟩ := hf i hi 1 _ rfl
      obtain ⟨v2, _, _, c2, t2⟩ := hf i hi 2 _ rfl
      obtain ⟨v3, _, _, c3, t3⟩ := hf i hi 3 _ rfl
      obtain ⟨v4, _, _, c4, t4⟩ := hf i hi 4 _ rfl
      obtain ⟨v5, _, _, c5, t5⟩ := hf i hi 5 _ rfl
      obtain ⟨z0, rfl, o0⟩ := int_of_trod t0
      obtain ⟨z1, rfl, o1⟩ := int_of_trod t1
      obtain ⟨z2, rfl, o2⟩ := int_of_trod t2
      obtain ⟨z3, rfl, o3⟩ := int_of_trod t3
      obtain ⟨z4, rfl, o4⟩ := int_of_trod t4
      obtain ⟨z5, rfl, o5⟩ := int_of_trod t5
      have hs : ∀ (j : Nat) u, 0 < j → w.cell? (a.add (i * 6 + j)) = some u → w.cell? ⟨(a.add (i * 6)).block, (a.add (i * 6)).off + j, none⟩ = some u := fun j u hj hc => cell_field hj hc
      exact ⟨⟨z0, z1, z2, z3, z4, z5⟩, ⟨by simpa using c0, hs 1 _ (by omega) c1, hs 2 _ (by omega) c2, hs 3 _ (by omega) c3, hs 4 _ (by omega) c4, hs 5 _ (by omega) c5⟩, ⟨o0, o1, o2, o3, o4, o5⟩, by have := World.block_lt_of_cell? w _ c0; rwa [block_of_add] at this⟩)
    refine ⟨l, ⟨some a, cap, by rw [hlen], by rw [hlen]; exact hl, hm, fun hne => ⟨a, rfl, ?_, fun k n hk => (hp k n hk).1⟩⟩, fun n hn => ?_⟩
    · obtain ⟨n, hn⟩ : ∃ n, l[0]? = some n := by
        cases l with
        | nil => exact absurd rfl hne
        | cons x t => exact ⟨x, rfl⟩
      exact (hp 0 n hn).2.2
    · obtain ⟨k, hk⟩ := List.getElem?_of_mem hn
      exact (hp k n hk).2.1
theorem ints_of_trod {fuel : Nat} {v : Value} {y : DataW H × List MemPlace} (h : DataW.trod enc Tryd.prog w 0 spare held fuel 43 [v] = some y) : ∃ l, Ints w v l := by
  rcases open_ints Tryd.underlying43 Tryd.underlying3 (by kernel_rfl) h with ⟨hc, _⟩ | ⟨a, len, cap, zs, hc, _, hl, hm, hz, _, hcell, _⟩
  · injection hc with hc _
    subst hc
    exact ⟨[], Ints.none_ w⟩
  · injection hc with hc _
    subst hc
    have hzl : len ≤ zs.length := by rw [hz]; split <;> omega
    have el : (zs.take len).length = len := by simp; omega
    have hcl : ∀ k z, (zs.take len)[k]? = some z → w.cell? (a.add k) = some (.int .i64 z) := fun k z hk => by
      rw [List.getElem?_take] at hk
      split at hk
      · have hk' := (List.getElem?_eq_some_iff.1 hk).1
        rw [hcell k hk', List.getD_eq_getElem?_getD, hk]; rfl
      · cases hk
    refine ⟨zs.take len, some a, cap, by rw [el], by rw [el]; exact hl, hm, fun hne => ⟨a, rfl, ?_, hcl⟩⟩
    obtain ⟨z, hz0⟩ : ∃ z, (zs.take len)[0]? = some z := by
      cases hq : zs.take len with
      | nil => exact absurd hq hne
      | cons x t => exact ⟨x, rfl⟩
    have := World.block_lt_of_cell? w _ (hcl 0 z hz0)
    rwa [block_of_add] at this
theorem lns_of_trod {fuel : Nat} {v : Value} {y : DataW H × List MemPlace} (h : DataW.trod enc Tryd.prog w 0 spare held fuel 22 [v] = some y) : ∃ l, Lns w v l := by
  rcases open_slice_fields Tryd.underlying22 Tryd.underlying45 (by kernel_rfl) (by kernel_rfl) h with ⟨hc, _⟩ | ⟨a, len, cap, hc, hl, hm, hf⟩
  · injection hc with hc _
    subst hc
    exact ⟨[], none, 0, rfl, Nat.le_refl _, by unfold maxLen; omega, fun h => absurd rfl h⟩
  · injection hc with hc _
    subst hc
    obtain ⟨l, hlen, hp⟩ := list_of (P := fun i n => LnAt w (a.add (i * 5)) n ∧ a.block < w.heap.size) len (fun i hi => by
      obtain ⟨v0, _, _, c0, t0⟩ := hf i hi 0 _ rfl
      obtain ⟨v1, _, _, c1, t1⟩ := hf i hi 1 _ rfl
      obtain ⟨v2, _, _, c2, t2⟩ := hf i hi 2 _ rfl
      obtain ⟨v3, _, _, c3, t3⟩ := hf i hi 3 _ rfl
      obtain ⟨v4, _, _, c4, t4⟩ := hf i hi 4 _ rfl
      obtain ⟨z0, rfl, _⟩ := int_of_trod t0
      obtain ⟨z1, rfl, _⟩ := int_of_trod t1
      obtain ⟨f, hff⟩ := fml_of_trod t2
      obtain ⟨z3, rfl, _⟩ := int_of_trod t3
      obtain ⟨r, hr⟩ := ints_of_trod t4
      have hs : ∀ (j : Nat) u, 0 < j → w.cell? (a.add (i * 5 + j)) = some u → w.cell? ⟨(a.add (i * 5)).block, (a.add (i * 5)).off + j, none⟩ = some u := fun j u hj hc => cell_field hj hc
      exact ⟨⟨z0, z1, f, z3, r⟩, ⟨v2, v4, by simpa using c0, hs 1 _ (by omega) c1, hs 2 _ (by omega) c2, hs 3 _ (by omega) c3, hs 4 _ (by omega) c4, hff, hr⟩, by have := World.block_lt_of_cell? w _ c0; rwa [block_of_add] at this⟩)
    refine ⟨l, some a, cap, by rw [hlen], by rw [hlen]; exact hl, hm, fun hne => ⟨a, rfl, ?_, fun k n hk => (hp k n hk).1⟩⟩
    obtain ⟨n, hn⟩ : ∃ n, l[0]? = some n := by
      cases l with
      | nil => exact absurd rfl hne
      | cons x t => exact ⟨x, rfl⟩
    exact (hp 0 n hn).2
end

theorem c3 : Tryd.prog.cellsOf 3 = 1 := by kernel_rfl
theorem c71 : Tryd.prog.cellsOf 71 = 1 := by kernel_rfl
theorem c73 : Tryd.prog.cellsOf 73 = 2 := by kernel_rfl
theorem gTab : Tryd.prog.globalNamed "witting/natural.table" = some 0 := by kernel_rfl
theorem tTab : (Tryd.prog.globals[0]?).map (·.type) = some 74 := by kernel_rfl
set_option maxRecDepth 100000 in
theorem row_of {W : World} {fuel : Nat} {cs : List Value} {z : Int} {b : UInt8} {r : List UInt8} {q : List MemPlace} {f0 : FuncId} (h : DataW.trod (funcToken Tryd.prog) Tryd.prog W 0 (fun _ => true) true fuel 73 cs = some (.agg [.lit (.int .i64 z), .held (b :: r)], q))
    (hone : ((List.range Tryd.prog.funcs.size).filter fun f => (Tryd.prog.funcs[f]?).any (·.name.toUTF8.data.toList == b :: r)) = [f0]) : cs = [.int .i64 z, .func (.func f0) #[] #[]] := by
  obtain ⟨ys, n, rfl, hx, hl, hyl, hf⟩ := DataW.trod_struct Tryd.underlying73 h
  rw [c73] at hl
  match cs, hl with
  | [c0, c1], _ =>
    match ys, hyl with
    | [y0, y1], _ =>
      have h0 := hf 0 _ rfl
      have h1 := hf 1 _ rfl
      simp only [Prod.mk.injEq, DataW.agg.injEq, List.map_cons, List.map_nil, List.cons.injEq, and_true] at hx
      obtain ⟨⟨e0, e1⟩, _⟩ := hx
      have h0' : DataW.trod (funcToken Tryd.prog) Tryd.prog W 0 (fun _ => true) true n 3 [c0] = some y0 := h0
      have h1' : DataW.trod (funcToken Tryd.prog) Tryd.prog W 0 (fun _ => true) true n 71 [c1] = some y1 := h1
      obtain ⟨z', hc, hy, _⟩ := DataW.trod_int Tryd.underlying3 h0'
      injection hc with hc _
      rw [hy] at e0
      simp only [DataW.lit.injEq, Lit.int.injEq, true_and] at e0
      have ey : y1 = (.held (b :: r), y1.2) := by rw [e1]
      rw [ey] at h1'
      have := func_of_trod (f0 := f0) Tryd.underlying71 hone h1'
      rw [hc, e0, this]
theorem pair_get {l : List Value} {a : Nat} {x y : Value} (h : (l.drop a).take 2 = [x, y]) : l[a]? = some x ∧ l[a + 1]? = some y := by
  have h0 := congrArg (fun q => q[0]?) h
  have h1 := congrArg (fun q => q[1]?) h
  simp only [List.getElem?_take, List.getElem?_drop] at h0 h1
  exact ⟨by simpa using h0, by simpa using h1⟩
set_option maxRecDepth 100000 in
set_option maxHeartbeats 4000000 in
theorem tab_of_laid {W : World} (h : laidMetH Tryd.prog [("witting/natural.table", Rows.laid_witting_natural_table)] W) : Tab W := by
  obtain ⟨g, t, cs, fuel, p, hg, ht, hv, hd⟩ := h.funcs (List.mem_singleton.2 rfl)
  obtain rfl := Option.some.inj (gTab.symm.trans hg)
  obtain rfl := Option.some.inj (tTab.symm.trans ht)
  have hd' : DataW.trod (funcToken Tryd.prog) Tryd.prog W 0 (fun _ => true) true fuel 74 cs.toList = some (.agg [.agg [.lit (.int .i64 3), .held [40, 42, 119, 105, 116, 116, 105, 110, 103, 47, 110, 97, 116, 117, 114, 97, 108, 46, 99, 104, 101, 99, 107, 101, 114, 41, 46, 99, 111, 112, 105, 101, 100]], .agg [.lit (.int .i64 4), .held [40, 42, 119, 105, 116, 116, 105, 110, 103, 47, 110, 97, 116, 117, 114, 97, 108, 46, 99, 104, 101, 99, 107, 101, 114, 41, 46, 97, 110, 100, 73, 110]], .agg [.lit (.int .i64 5), .held [40, 42, 119, 105, 116, 116, 105, 110, 103, 47, 110, 97, 116, 117, 114, 97, 108, 46, 99, 104, 101, 99, 107, 101, 114, 41, 46, 97, 110, 100, 79, 117, 116]], .agg [.lit (.int .i64 6), .held [40, 42, 119, 105, 116, 116, 105, 110, 103, 47, 110, 97, 116, 117, 114, 97, 108, 46, 99, 104, 101, 99, 107, 101, 114, 41, 46, 111, 114, 73, 110]], .agg [.lit (.int .i64 7), .held [40, 42, 119, 105, 116, 116, 105, 110, 103, 47, 110, 97, 116, 117, 114, 97, 108, 46, 99, 104, 101, 99, 107, 101, 114, 41, 46, 111, 114, 79, 117, 116]], .agg [.lit (.int .i64 8), .held [40, 42, 119, 105, 116, 116, 105, 110, 103, 47, 110, 97, 116, 117, 114, 97, 108, 46, 99, 104, 101, 99, 107, 101, 114, 41, 46, 105, 109, 112, 73, 110]], .agg [.lit (.int .i64 9), .held [40, 42, 119, 105, 116, 116, 105, 110, 103, 47, 110, 97, 116, 117, 114, 97, 108, 46, 99, 104, 101, 99, 107, 101, 114, 41, 46, 105, 109, 112, 79, 117, 116]], .agg [.lit (.int .i64 10), .held [40, 42, 119, 105, 116, 116, 105, 110, 103, 47, 110, 97, 116, 117, 114, 97, 108, 46, 99, 104, 101, 99, 107, 101, 114, 41, 46, 110, 111, 116, 73, 110]], .agg [.lit (.int .i64 11), .held [40, 42, 119, 105, 116, 116, 105, 110, 103, 47, 110, 97, 116, 117, 114, 97, 108, 46, 99, 104, 101, 99, 107, 101, 114, 41, 46, 110, 111, 116, 79, 117, 116]], .agg [.lit (.int .i64 12), .held [40, 42, 119, 105, 116, 116, 105, 110, 103, 47, 110, 97, 116, 117, 114, 97, 108, 46, 99, 104, 101, 99, 107, 101, 114, 41, 46, 97, 98, 115, 117, 114, 100]], .agg [.lit (.int .i64 13), .held [40, 42, 119, 105, 116, 116, 105, 110, 103, 47, 110, 97, 116, 117, 114, 97, 108, 46, 99, 104, 101, 99, 107, 101, 114, 41, 46, 102, 114, 111, 109, 70, 97, 108, 115, 101]], .agg [.lit (.int .i64 14), .held [40, 42, 119, 105, 116, 116, 105, 110, 103, 47, 110, 97, 116, 117, 114, 97, 108, 46, 99, 104, 101, 99, 107, 101, 114, 41, 46, 105, 115, 84, 114, 117, 101]], .agg [.lit (.int .i64 15), .held [40, 42, 119, 105, 116, 116, 105, 110, 103, 47, 110, 97, 116, 117, 114, 97, 108, 46, 99, 104, 101, 99, 107, 101, 114, 41, 46, 105, 102, 102]], .agg [.lit (.int .i64 16), .held [40, 42, 119, 105, 116, 116, 105, 110, 103, 47, 110, 97, 116, 117, 114, 97, 108, 46, 99, 104, 101, 99, 107, 101, 114, 41, 46, 107, 110, 111, 119, 73, 110]], .agg [.lit (.int .i64 17), .held [40, 42, 119, 105, 116, 116, 105, 110, 103, 47, 110, 97, 116, 117, 114, 97, 108, 46, 99, 104, 101, 99, 107, 101, 114, 41, 46, 105, 109, 112, 111, 114, 116, 101, 100]], .agg [.lit (.int .i64 18), .held [40, 42, 119, 105, 116, 116, 105, 110, 103, 47, 110, 97, 116, 117, 114, 97, 108, 46, 99, 104, 101, 99, 107, 101, 114, 41, 46, 107, 110, 111, 119, 84]], .agg [.lit (.int .i64 19), .held [40, 42, 119, 105, 116, 116, 105, 110, 103, 47, 110, 97, 116, 117, 114, 97, 108, 46, 99, 104, 101, 99, 107, 101, 114, 41, 46, 100, 117, 97, 108]], .agg [.lit (.int .i64 20), .held [40, 42, 119, 105, 116, 116, 105, 110, 103, 47, 110, 97, 116, 117, 114, 97, 108, 46, 99, 104, 101, 99, 107, 101, 114, 41, 46, 115, 101, 114, 105, 97, 108]]], p) := hd
  obtain ⟨xs, m, rfl, hx, hlen, hxl, hi⟩ := DataW.trod_array Tryd.underlying74 hd'
  simp only [Prod.mk.injEq, DataW.agg.injEq] at hx
  obtain ⟨hx1, _⟩ := hx
  have key : ∀ (k : Nat) (d : DataW (List UInt8)), k < 18 → (xs.map (·.1))[k]? = some d → ∃ q, DataW.trod (funcToken Tryd.prog) Tryd.prog W 0 (fun _ => true) true m 73 ((cs.toList.drop (k * 2)).take 2) = some (d, q) := fun k d hk hd => by
    rw [List.getElem?_map] at hd
    obtain ⟨x, hx, rfl⟩ := Option.map_eq_some_iff.1 hd
    have := hi k hk
    rw [c73] at this
    exact ⟨x.2, by rw [this, hx]⟩
  rw [← hx1] at key
  have hcell := fun j => World.var?_cell hg hv j
  obtain ⟨q0, h0⟩ := key 0 _ (by decide) rfl
  obtain ⟨a0, b0⟩ := pair_get (row_of (f0 := 97) h0 (by kernel_rfl))
  obtain ⟨q1, h1⟩ := key 1 _ (by decide) rfl
  obtain ⟨a1, b1⟩ := pair_get (row_of (f0 := 98) h1 (by kernel_rfl))
  obtain ⟨q2, h2⟩ := key 2 _ (by decide) rfl
  obtain ⟨a2, b2⟩ := pair_get (row_of (f0 := 99) h2 (by kernel_rfl))
  obtain ⟨q3, h3⟩ := key 3 _ (by decide) rfl
  obtain ⟨a3, b3⟩ := pair_get (row_of (f0 := 100) h3 (by kernel_rfl))
  obtain ⟨q4, h4⟩ := key 4 _ (by decide) rfl
  obtain ⟨a4, b4⟩ := pair_get (row_of (f0 := 101) h4 (by kernel_rfl))
  obtain ⟨q5, h5⟩ := key 5 _ (by decide) rfl
  obtain ⟨a5, b5⟩ := pair_get (row_of (f0 := 102) h5 (by kernel_rfl))
  obtain ⟨q6, h6⟩ := key 6 _ (by decide) rfl
  obtain ⟨a6, b6⟩ := pair_get (row_of (f0 := 103) h6 (by kernel_rfl))
  obtain ⟨q7, h7⟩ := key 7 _ (by decide) rfl
  obtain ⟨a7, b7⟩ := pair_get (row_of (f0 := 104) h7 (by kernel_rfl))
  obtain ⟨q8, h8⟩ := key 8 _ (by decide) rfl
  obtain ⟨a8, b8⟩ := pair_get (row_of (f0 := 105) h8 (by kernel_rfl))
  obtain ⟨q9, h9⟩ := key 9 _ (by decide) rfl
  obtain ⟨a9, b9⟩ := pair_get (row_of (f0 := 106) h9 (by kernel_rfl))
  obtain ⟨q10, h10⟩ := key 10 _ (by decide) rfl
  obtain ⟨a10, b10⟩ := pair_get (row_of (f0 := 107) h10 (by kernel_rfl))
  obtain ⟨q11, h11⟩ := key 11 _ (by decide) rfl
  obtain ⟨a11, b11⟩ := pair_get (row_of (f0 := 108) h11 (by kernel_rfl))
  obtain ⟨q12, h12⟩ := key 12 _ (by decide) rfl
  obtain ⟨a12, b12⟩ := pair_get (row_of (f0 := 109) h12 (by kernel_rfl))
  obtain ⟨q13, h13⟩ := key 13 _ (by decide) rfl
  obtain ⟨a13, b13⟩ := pair_get (row_of (f0 := 110) h13 (by kernel_rfl))
  obtain ⟨q14, h14⟩ := key 14 _ (by decide) rfl
  obtain ⟨a14, b14⟩ := pair_get (row_of (f0 := 111) h14 (by kernel_rfl))
  obtain ⟨q15, h15⟩ := key 15 _ (by decide) rfl
  obtain ⟨a15, b15⟩ := pair_get (row_of (f0 := 112) h15 (by kernel_rfl))
  obtain ⟨q16, h16⟩ := key 16 _ (by decide) rfl
  obtain ⟨a16, b16⟩ := pair_get (row_of (f0 := 113) h16 (by kernel_rfl))
  obtain ⟨q17, h17⟩ := key 17 _ (by decide) rfl
  obtain ⟨a17, b17⟩ := pair_get (row_of (f0 := 114) h17 (by kernel_rfl))
  refine ⟨fun j v hj => ?_, ?_⟩
  · rw [Nat.zero_add, hcell j, ← Array.getElem?_toList]
    match j, hj with
    | 0, hj => rw [← hj]; exact a0
    | 1, hj => rw [← hj]; exact b0
    | 2, hj => rw [← hj]; exact a1
    | 3, hj => rw [← hj]; exact b1
    | 4, hj => rw [← hj]; exact a2
    | 5, hj => rw [← hj]; exact b2
    | 6, hj => rw [← hj]; exact a3
    | 7, hj => rw [← hj]; exact b3
    | 8, hj => rw [← hj]; exact a4
    | 9, hj => rw [← hj]; exact b4
    | 10, hj => rw [← hj]; exact a5
    | 11, hj => rw [← hj]; exact b5
    | 12, hj => rw [← hj]; exact a6
    | 13, hj => rw [← hj]; exact b6
    | 14, hj => rw [← hj]; exact a7
    | 15, hj => rw [← hj]; exact b7
    | 16, hj => rw [← hj]; exact a8
    | 17, hj => rw [← hj]; exact b8
    | 18, hj => rw [← hj]; exact a9
    | 19, hj => rw [← hj]; exact b9
    | 20, hj => rw [← hj]; exact a10
    | 21, hj => rw [← hj]; exact b10
    | 22, hj => rw [← hj]; exact a11
    | 23, hj => rw [← hj]; exact b11
    | 24, hj => rw [← hj]; exact a12
    | 25, hj => rw [← hj]; exact b12
    | 26, hj => rw [← hj]; exact a13
    | 27, hj => rw [← hj]; exact b13
    | 28, hj => rw [← hj]; exact a14
    | 29, hj => rw [← hj]; exact b14
    | 30, hj => rw [← hj]; exact a15
    | 31, hj => rw [← hj]; exact b15
    | 32, hj => rw [← hj]; exact a16
    | 33, hj => rw [← hj]; exact b16
    | 34, hj => rw [← hj]; exact a17
    | 35, hj => rw [← hj]; exact b17
    | j + 36, hj => simp [tabCells] at hj
  · have h0 := hcell 0
    rw [← Array.getElem?_toList, a0] at h0
    exact World.block_lt_of_cell? W _ h0
end Go.Proofs.YtipnbfbakohcaaaDoor

/- NaturalLogics: a proof in a logic is a proof of the same formula in all logics that have its rules: for every proof of the program's own kind, the table of rules as the program lays it. The row, and its tied card. -/

namespace Go.Proofs.YtipnbfbakohcaaaDoor
open Go.ChangeShapes Go.WideShapes Go.ChangeAt Go.RowKit Go.Joins

section
variable {H : Type} {enc : TypeId × Value → H} {P : Program}
theorem post_of_below {f : Func} {s : ChangeSpec} {apart fresh handsOn again : Bool} {W W' : World} {args : Array Value} {v : Value} {ds gs : List (DataW H)} {before pa pv : List MemPlace}
    (hW : DataW.Whole enc P f.params.toList s.vars apart W args.toList ds gs before)
    (hres : ∀ (b : Nat) (sp : Nat → Bool) (hd : Bool), DataW.TrodAll enc P W' b sp hd f.resultTypes.toList (v.resultList f.resultTypes.size) (s.fn H (ds ++ gs)).results [])
    (hargs : ∀ sp : Nat → Bool, (∀ p ∈ before, sp p.block = true) → DataW.TrodAll enc P W' 0 sp true f.params.toList args.toList (s.fn H (ds ++ gs)).args pa)
    (hvars : ∀ sp : Nat → Bool, (∀ p ∈ before, sp p.block = true) → DataW.TrodVars enc P W' sp s.vars (s.fn H (ds ++ gs)).vars pv)
    (hps : before = pa ++ pv) (hb : Below W.heap.size W W')
    (hok : ∀ (j : Nat) (t : TypeId) (r : Value), f.resultTypes[j]? = some t → (v.resultList f.resultTypes.size)[j]? = some r → Value.okWide P W' .any 0 t r) :
    s.post enc P f apart fresh handsOn again W args v W' := by
  have hlt : ∀ p ∈ before, p.block < W.heap.size := fun p hp => hW.lt p hp
  have hold : ∀ p ∈ before, (fun b => decide (b < W.heap.size)) p.block = true := fun p hp => by simpa using hlt p hp
  refine ⟨ds, gs, before, [], pa, pv, hW, hres _ _ _, hargs _ hold, hvars _ hold, World.keptBut_mono (fun p hp => ⟨hp, ?_⟩) (hb.frame (· ∈ before)), fun _ => ?_⟩
  · rw [hps, List.mem_append] at hp
    exact Or.inr hp
  · obtain ⟨_, _, _, _, _, hz, hn⟩ := hW
    refine ⟨hok, _, _, ([] ++ pa) ++ pv, ⟨[] ++ pa, pv, trodAll_append (hargs _ (fun _ _ => rfl)) (hres _ _ _), hvars _ (fun _ _ => rfl), rfl, ?_, ?_⟩, ?_⟩
    · intro b off hp
      have hin : MemPlace.cell b off ∈ before := by rw [hps]; simpa using hp
      rw [hb.frozen (hlt _ hin)]
      exact hz b off hin
    · intro ha
      have := hn ha
      rw [hps] at this
      simpa using this
    · intro p hp _
      rw [hps]
      simpa using hp
end

theorem laidOutP : laidOutB Tryd.prog = true := by kernel_rfl
theorem own : ownKnob Tryd.prog.godebug = none := by kernel_rfl
/-- The door's own heap meets the condition. -/
theorem door_met (os : Os) (args : Array Value) : laidMetH Tryd.prog [("witting/natural.table", Rows.laid_witting_natural_table)] ((World.doorLaid Tryd.prog 600 os).forCall (fun _ _ => 0) ⟨#[], args, []⟩).memory :=
  laidMetH_of_parts3 (fuel := 8) (laidMet_of_run' 8 (by kernel_rfl) (by kernel_rfl)) (by kernel_rfl) (by kernel_rfl)

set_option maxRecDepth 100000 in
theorem logics_lifted (os : Os) (started : os.Started) (H : Type) (enc : TypeId × Value → H) :
    ReturnsInHanded {} Tryd.checked os 5 .any (fun w args => (Rows.naturalLogicsSpec.pre enc Tryd.prog Tryd.f5 [] false w args ∧ laidMetH Tryd.prog [("witting/natural.table", Rows.laid_witting_natural_table)] w) ∧ sizedMet enc Tryd.prog Tryd.f5 (OpenSpec.ofChange Rows.naturalLogicsSpec) false w args)
      (Rows.naturalLogicsSpec.post enc Tryd.prog Tryd.f5 false true false false) := by
  refine returnsInHanded_of_change_and (C := Tryd.checked) (X := fun w _ => laidMetH Tryd.prog [("witting/natural.table", Rows.laid_witting_natural_table)] w) (fun _ _ _ hh h => h.of_heap hh) own started (by kernel_rfl) Tryd.func5
    (ChangeSpec.witness_shaped (enc := enc) (C := Tryd.checked) (os := os) (X := fun w _ => laidMetH Tryd.prog [("witting/natural.table", Rows.laid_witting_natural_table)] w) false (World.doorLaid Tryd.prog 600 os) #[.agg #[.int .i64 0, .slice none 0 0]] 8 rfl (World.shaped_of_RefB (by kernel_rfl) (by kernel_rfl)) (by kernel_rfl) (by kernel_rfl) (by kernel_rfl) (door_met os _)) ?_
  intro W base args ds gs before hval0 hW _ _ hL _
  have hval : ∀ (j : Nat) t v, Tryd.f5.params[j]? = some t → args[j]? = some v → Value.okWide Tryd.prog W .any base t v := hval0
  have hW' := hW
  obtain ⟨p, q, hA0, hV, rfl, hfz, hnd⟩ := hW
  have hA : DataW.TrodAll enc Tryd.prog W 0 (fun _ => true) true Tryd.f5.params.toList args.toList ds p := hA0
  rw [Tryd.params5] at hA hval
  obtain ⟨v0, vs0, d0, ds0, p0, q0, hargs, rfl, rfl, h0, r0⟩ := trodAll_cons hA
  obtain ⟨rfl, rfl, rfl⟩ := trodAll_nil r0
  obtain rfl : args = #[v0] := by cases args; simp_all
  obtain ⟨rfl, rfl⟩ := trodVars_none hV
  obtain ⟨v1, v2, y0, y1, n, rfl, hd, hp, t0, t1⟩ := open_agg2 Tryd.underlying24 (by kernel_rfl) (by kernel_rfl) (hval 0 24 v0 rfl rfl) h0
  obtain ⟨lg, rfl, _⟩ := int_of_trod t0
  obtain ⟨ls, hls⟩ := lns_of_trod t1
  simp only [List.append_nil] at hW'
  clear hA0 hval0
  refine (logics_any (lg := lg) hls (tab_of_laid hL)).mono ?_
  rintro e W' ⟨rfl, hx⟩
  have hlt : ∀ x ∈ p0, x.block < W.heap.size := fun x hx' => hW'.lt x hx'
  refine ⟨_, rfl, post_of_below (pa := p0) (pv := []) hW' (fun _ _ _ => trodAll_mk1 (shut_bool Tryd.underlying4 _)) (fun sp hsp => ?_) (fun _ _ => rfl) (by simp) hx (ok_one (by kernel_rfl) rfl (okWide_bool_mk Tryd.underlying4 _))⟩
  exact trodAll_mk1 (WideElems.Trod_stays laidOutP (by kernel_rfl) (of_decide_eq_true (by kernel_rfl)) h0 (fun x hx' => hx.same (hlt x hx')) (fun x hx' => hsp x hx'))

theorem naturalLogics_said : Rows.NaturalLogicsSaid :=
  OpenClaim.holds_of_wide 5 Tryd.f5 rfl rfl rfl rfl rfl rfl rfl ⟨rfl, rfl, rfl, rfl, rfl⟩ rfl rfl rfl rfl rfl (by kernel_rfl) Tryd.func5 (by kernel_rfl)
    (of_decide_eq_true (by kernel_rfl)) (by unfold Func.isWrapper; first | (rw [if_pos (by decide +kernel)]; kernel_rfl) | (rw [if_neg (by decide +kernel)]; exact ⟨rfl, rfl⟩))
    (fun os started H enc _ => logics_lifted os started H enc)
theorem logics_plain (f : FuncId) (fn : Func) (hf : Tryd.pinned.checked.prog.funcNamed "witting/wittinglaw50.NaturalLogics" = some f) (hfn : Tryd.pinned.checked.prog.funcs[f]? = some fn) :
    false = Tryd.pinned.checked.prog.looks [] ∧ ∀ (j : Nat) t, fn.params[j]? = some t → Tryd.pinned.checked.prog.wantsStandIn t = false := by
  obtain rfl : f = 5 := Option.some.inj ((show Tryd.prog.funcNamed "witting/wittinglaw50.NaturalLogics" = some 5 by kernel_rfl).symm.trans hf) |>.symm
  obtain rfl : fn = Tryd.f5 := (Option.some.inj (Tryd.func5.symm.trans hfn)).symm
  refine ⟨by kernel_rfl, fun j t ht => ?_⟩
  rw [Tryd.params5] at ht
  obtain rfl : t = 24 := by simpa using Array.mem_of_getElem? ht
  exact (show Tryd.prog.wantsStandIn 24 = false by kernel_rfl)
/-- The card. -/
theorem naturalLogics_card : Rows.NaturalLogicsCardSaid :=
  Claim7.holds_tied_plain_at .later [] _ _ _ _ naturalLogics_said (fun _ h => by cases h) (by kernel_rfl) (fun _ h => by cases h) naturalLogics_row_tie rfl ⟨rfl, rfl⟩ (by kernel_rfl) rfl logics_plain (by kernel_rfl)
end Go.Proofs.YtipnbfbakohcaaaDoor
