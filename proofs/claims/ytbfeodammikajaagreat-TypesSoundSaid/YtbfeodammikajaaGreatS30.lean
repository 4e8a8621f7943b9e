/- The reference's checker: Holds. -/
import Derived.Test.YtbfeodammikajaaGreatS29
import Derived.Test.YtbfeodammikajaaGreatS09
import Derived.Test.YtbfeodammikajaaGreatS17
import Derived.Test.YtbfeodammikajaaGreatS15
import Derived.Test.YtbfeodammikajaaGreatS28
import Derived.Test.YtbfeodammikajaaGreatS25
import Derived.Test.YtbfeodammikajaaGreatS12

namespace Go.Proofs.YtbfeodammikajaaGreat
open Go.RowKit

def holdE (md : Md) (f : List Nd) : Int := if chk17 md (compactN f) = 0 then 0 else chk17 md f
def hold17 (md : Md) (f : List Nd) : Nat := if chk17 md (compactN f) = 0 then (setsK md (compactN f) (compactN f).length).getD ((compactN f).length - 1) 0 else 0
set_option maxRecDepth 100000 in
set_option maxHeartbeats 16000000 in
theorem holds17_any (vm v : Value) (md : Md) (f : List Nd) (w : World) (hm : MdV w vm md) (hok : md.ok) (h : Fml w v f) :
    Calls Tryz.prog 16 #[vm, v] w fun e w' => e = .returned (.tuple #[.int .u64 ((hold17 md f : Nat) : Int), .int .i64 (holdE md f)]) ∧ Ext w w' := by
  have H := Lib.hid h
  have HM := Lib.hid hm
  have HOK := Lib.hid hok
  obtain ⟨vv, vr, rfl, ⟨Av, cv, rfl, _⟩, ⟨Ar, cr, rfl, _⟩⟩ := hm
  obtain ⟨A, c, rfl, _⟩ := fml_slice h
  clear hok h
  have HX0 := Lib.hid (show Ext w (w.alloc (.cells #[.int .i64 md.n, .slice Av md.val.length cv, .slice Ar md.rel.length cr] 38)) from (Ext.refl _).alloc _)
  have HB0 := Lib.hid (show (w.alloc (.cells #[.int .i64 md.n, .slice Av md.val.length cv, .slice Ar md.rel.length cr] 38)).heap[w.heap.size]? = some (.cells #[.int .i64 md.n, .slice Av md.val.length cv, .slice Ar md.rel.length cr] 38 (0, 0)) from heap_alloc_new _ _)
  obtain ⟨b, hb⟩ : ∃ b, b = w.heap.size := ⟨_, rfl⟩
  go_enter Tryz.func16, Tryz.ntmps16
  go_upto_region 1 with (fail)
  obtain ⟨W0, hW0⟩ : ∃ W, W = w.alloc (.cells #[.int .i64 md.n, .slice Av md.val.length cv, .slice Ar md.rel.length cr] 38) := ⟨_, rfl⟩
  rw [← hW0] at HX0 HB0 ⊢
  rw [← hb] at HB0 ⊢
  clear hb hW0
  obtain ⟨e0, e1, e2, eb⟩ := cells3y HB0.out
  refine ordU_region 8 (fun w' => w'.cell? (⟨b, 0, none⟩) = some (.int .i64 md.n) ∧ w'.cell? (⟨b, 1, none⟩) = some (.slice Av md.val.length cv) ∧ w'.cell? (⟨b, 2, none⟩) = some (.slice Ar md.rel.length cr)) (by kernel_rfl) ⟨xd eb e0, xd eb e1, xd eb e2⟩ (fun hHeld => ?_)
  refine utk 0 hHeld ?_
  refine utk 1 hHeld ?_
  refine ordU_ready (rs := [2]) (by kernel_rfl) (by simp) ?_
  refine AllU.cons rfl (fun K hK => ?_) AllU.nil
  go_simp
  refine (refCompact_any _ f _ (H.out.ext (HX0.out.trans xv))).mono ?_
  rintro e w1 ⟨u, rfl, hm1⟩
  have hx1 : Ext W0 w1 := Ext.trans xv hm1.2.2
  have HF1 := Lib.hid hm1.fml
  have HX1 := Lib.hid (HX0.out.trans hx1)
  clear hm1
  go_wp2_with fail
  refine hK.out _ _ ⟨xd eb e0, xd eb e1, xd eb e2⟩ (fun hHeld => ?_)
  clear hK K
  try simp only [Act.put, List.setIfInBounds_toArray, List.set_cons_zero, List.set_cons_succ, List.getElem_toArray, List.getElem_cons_succ, List.getElem_cons_zero]
  refine ordU_ready (rs := [3]) (by kernel_rfl) (by simp) ?_
  refine AllU.cons rfl (fun K hK => ?_) AllU.nil
  go_simp
  refine (sets_any _ _ md (compactN f) _ (HM.out.ext HX1.out) HOK.out HF1.out).mono ?_
  rintro e w2 ⟨us, rfl, hx2', HU⟩
  have hx2 : Ext W0 w2 := hx1.trans hx2'
  have HX2 := Lib.hid (HX1.out.trans hx2')
  clear hx2'
  obtain ⟨er, her⟩ : ∃ er, er = chk17 md (compactN f) := ⟨_, rfl⟩
  have HER := Lib.hid her
  rw [← her] at HU ⊢
  clear her
  go_wp2_with fail
  refine hK.out _ _ ⟨xd eb e0, xd eb e1, xd eb e2⟩ (fun hHeld => ?_)
  clear hK K
  try simp only [Act.put, List.setIfInBounds_toArray, List.set_cons_zero, List.set_cons_succ, List.getElem_toArray, List.getElem_cons_succ, List.getElem_cons_zero]
  refine utk 4 hHeld ?_
  refine utk 5 hHeld ?_
  refine utk 6 hHeld ?_
  refine utk 7 hHeld ?_
  refine ordU_last (by kernel_rfl) rfl (fun K hK => ?_)
  go_simp
  refine hK.out _ _ ?_
  clear hK K
  try simp only [Act.put, List.setIfInBounds_toArray, List.set_cons_zero, List.set_cons_succ, List.getElem_toArray, List.getElem_cons_succ, List.getElem_cons_zero]
  refine ordU_done (by kernel_rfl) ?_ _
  by_cases hz : er = 0
  · subst hz
    have HU2 := Lib.hid (show MadeU w1.heap.size w2 us (setsK md (compactN f) (compactN f).length) by have := HU.out; rw [if_pos rfl] at this; exact this)
    have hpos : 0 < (compactN f).length := (check_parts (chk17_zero HER.out.symm).2.1).1
    have hle : (compactN f).length ≤ 1000 := Nat.le_trans (check_parts (chk17_zero HER.out.symm).2.1).2.1 (by decide)
    have HEL := Lib.hid (show holdE md f = 0 by unfold holdE; rw [if_pos HER.out.symm])
    have HHL := Lib.hid (show hold17 md f = (setsK md (compactN f) (compactN f).length).getD ((compactN f).length - 1) 0 by unfold hold17; rw [if_pos HER.out.symm])
    have hsl := setsK_len md (compactN f) (compactN f).length
    obtain ⟨sl, hse⟩ : ∃ l, l = setsK md (compactN f) (compactN f).length := ⟨_, rfl⟩
    rw [← hse] at HU2 HHL hsl
    rw [← hsl] at hpos hle HHL
    obtain ⟨n, hn⟩ : ∃ n, sl.length = n + 1 := ⟨sl.length - 1, by omega⟩
    obtain ⟨Au, cu, rfl⟩ := slice_of_row HU2.out
    obtain ⟨g, cp, hge, gl, _, _, _, hclx, _⟩ := HU2.out.slice (by omega)
    injection hge with hge1 _ hge2
    subst hge1 hge2
    have hcl := hclx n (by omega)
    rw [hn] at HHL hpos ⊢
    clear hse hclx
    go_wp2_with fail
    go_ret2
    exact ⟨by rw [HEL.out, HHL.out]; rfl, HX2.out⟩
  · have hzb : (er == 0) = false := by rw [beq_eq_false_iff_ne]; exact hz
    have HEL := Lib.hid (show holdE md f = chk17 md f by unfold holdE; rw [if_neg (by rw [← HER.out]; exact hz)])
    have HHL := Lib.hid (show hold17 md f = 0 by unfold hold17; rw [if_neg (by rw [← HER.out]; exact hz)])
    have hzn : (er != 0) = true := by simp [bne, hzb]
    go_wp2_with fail
    refine (chk17_any _ _ md f _ (HM.out.ext HX2.out) HOK.out (H.out.ext HX2.out)).mono ?_
    rintro e w3 ⟨rfl, hx3⟩
    go_wp2_with fail
    go_ret2
    exact ⟨by rw [HEL.out, HHL.out]; rfl, HX2.out.trans hx3⟩
end Go.Proofs.YtbfeodammikajaaGreat

/- The reference's checker: At. -/

namespace Go.Proofs.YtbfeodammikajaaGreat
open Go.RowKit

def atE (md : Md) (f : List Nd) (i : Int) : Int := if holdE md f = 0 then (if i < 0 ∨ md.n ≤ i then 2 else 0) else holdE md f
def at17 (md : Md) (f : List Nd) (i : Int) : Bool := if holdE md f = 0 then (if i < 0 ∨ md.n ≤ i then false else (hold17 md f).testBit i.toNat) else false
end Go.Proofs.YtbfeodammikajaaGreat

/- The model of a model in memory: its worlds, relations and facts; the conditions of a logic (plain). -/

namespace Go.Proofs.YtbfeodammikajaaGreat

/-- The relation of words: bit v of the word of u. -/
def bitR (l : List Nat) (n : Nat) (u v : Fin n) : Prop := (l.getD u.1 0).testBit v.1 = true
/-- The model: an agent beyond the last knows all. -/
def kmOf (md : Md) : KM where
  W := Fin md.n.toNat
  R := fun a u v => if 0 ≤ a ∧ a < md.rel.length then bitR (md.rel.getD a.toNat []) md.n.toNat u v else u = v
  V := fun p w => (md.val.getD p.toNat 0).testBit w.1 = true
theorem eq_frm (lg : Int) {W : Type} : Frm lg (fun u v : W => u = v) where
  ser := fun _ w => ⟨w, rfl⟩
  refl := fun _ _ => rfl
  trans := fun _ _ _ _ h1 h2 => h1.trans h2
  eucl := fun _ _ _ _ h1 h2 => h1.symm.trans h2
theorem word_pos {s n : Nat} (h : s < 2 ^ n) (h0 : s ≠ 0) : ∃ i, i < n ∧ s.testBit i = true := by
  obtain ⟨i, hi⟩ := Nat.exists_testBit_of_ne_zero h0
  exact ⟨i, bit_lt h hi, hi⟩
theorem closedT {l : List Nat} (h : closedG false l) {w u v : Nat} (hw : w < l.length) (hu : u < l.length) (h1 : (l.getD w 0).testBit u = true) (h2 : (l.getD u 0).testBit v = true) : (l.getD w 0).testBit v = true := by
  exact subS_iff.1 (h w u hw hu h1) v h2
theorem closedE {l : List Nat} (h : closedG true l) {w u v : Nat} (hw : w < l.length) (hu : u < l.length) (h1 : (l.getD w 0).testBit u = true) (h2 : (l.getD w 0).testBit v = true) : (l.getD u 0).testBit v = true := by
  exact subS_iff.1 (h w u hw hu h1) v h2
theorem good_frm {l : List Nat} {n : Nat} {lg : Int} (hl : l.length = n) (hv : valid02 l = true) (hg : goodR lg l) (hr : 0 ≤ lg ∧ lg ≤ 6) : Frm lg (bitR l n) := by
  have hlt : ∀ i, i < n → l.getD i 0 < 2 ^ n := fun i hi => (GrwI.start (eu := true) hl (by rw [← hl]; exact (valid_iff.1 hv).2)).lt i hi
  unfold goodR propsL at hg
  refine ⟨fun h w => ?_, fun h w => ?_, fun h u v w h1 h2 => ?_, fun h u v w h1 h2 => ?_⟩
  · have h1 : propP 1 l := hg 1 (by rcases h with rfl | rfl <;> simp)
    obtain ⟨i, hi, hb⟩ := word_pos (hlt w.1 w.2) (h1 w.1 (by rw [hl]; exact w.2))
    exact ⟨⟨i, hi⟩, hb⟩
  · have h1 : propP 2 l := hg 2 (by rcases h with rfl | rfl | rfl <;> simp)
    exact h1 w.1 (by rw [hl]; exact w.2)
  · have h3 : propP 4 l := hg 4 (by
      have : lg = 3 ∨ lg = 4 ∨ lg = 5 ∨ lg = 6 := by omega
      rcases this with rfl | rfl | rfl | rfl <;> simp)
    exact closedT h3 (by rw [hl]; exact u.2) (by rw [hl]; exact v.2) h1 h2
  · have h3 : propP 5 l := hg 5 (by rcases h with rfl | rfl <;> simp)
    exact closedE h3 (by rw [hl]; exact u.2) (by rw [hl]; exact v.2) h1 h2
theorem kmOf_in {md : Md} {lg : Int} (h : GoodM md lg) : (kmOf md).In lg := by
  intro a
  show Frm lg (fun u v => if 0 ≤ a ∧ a < md.rel.length then bitR (md.rel.getD a.toNat []) md.n.toNat u v else u = v)
  by_cases ha : 0 ≤ a ∧ a < md.rel.length
  · simp only [if_pos ha]
    have hm : md.rel.getD a.toNat [] ∈ md.rel := by
      rw [List.getD_eq_getElem?_getD, List.getElem?_eq_getElem (by omega)]; exact List.getElem_mem _
    obtain ⟨hv, _⟩ := rel_valid h.ck hm
    have hl := (checkM_zero h.ck).2.2.2.2.1 _ hm
    exact good_frm (by omega) hv (h.rel _ hm) h.lgr
  · simp only [if_neg ha]
    exact eq_frm lg
end Go.Proofs.YtbfeodammikajaaGreat

/- Bit by bit: boxes and groups on words (plain). -/

namespace Go.Proofs.YtbfeodammikajaaGreat

theorem box_bit (r : List Nat) (n s i : Nat) : (boxN r n s).testBit i = true ↔ i < n ∧ ∀ v, (r.getD i 0).testBit v = true → s.testBit v = true := by
  unfold boxN
  rw [mask_bit, Bool.and_eq_true, decide_eq_true_iff, subS_iff]
theorem dia_bit (r : List Nat) (n s i : Nat) (h : ∀ v, (r.getD i 0).testBit v = true → v < n) :
    (difN (allW n) (boxN r n (difN (allW n) s))).testBit i = true ↔ i < n ∧ ∃ v, (r.getD i 0).testBit v = true ∧ s.testBit v = true := by
  rw [dif_bit, Bool.and_eq_true, allw_bit, decide_eq_true_iff]
  constructor
  · rintro ⟨hi, hb⟩
    refine ⟨hi, Classical.byContradiction fun hn => ?_⟩
    have : (boxN r n (difN (allW n) s)).testBit i = true := (box_bit ..).2 ⟨hi, fun v hv => by
      rw [dif_bit, allw_bit, Bool.and_eq_true, decide_eq_true_iff]
      refine ⟨h v hv, ?_⟩
      cases hs : s.testBit v
      · rfl
      · exact absurd ⟨v, hv, hs⟩ hn⟩
    rw [this] at hb; cases hb
  · rintro ⟨hi, v, hv, hs⟩
    refine ⟨hi, ?_⟩
    cases hb : (boxN r n (difN (allW n) s)).testBit i
    · rfl
    · have h2 := ((box_bit ..).1 hb).2 v hv
      rw [dif_bit, hs, Bool.not_true, Bool.and_false] at h2
      cases h2
theorem grp_fold (rl : List (List Nat)) (gn i v : Nat) : ∀ (k s : Nat), (((List.range k).foldl (grpS rl gn false i) s).testBit v = true ↔ s.testBit v = true ∨ ∃ a, a < k ∧ gn.testBit a = true ∧ ((rl.getD a []).getD i 0).testBit v = true)
  | 0, s => by simp
  | k + 1, s => by
    rw [fold_snoc]
    have ih := grp_fold rl gn i v k s
    unfold grpS
    cases hg : gn.testBit k
    · rw [if_neg (by simp)]
      rw [show (List.foldl (fun s a => if gn.testBit a = true then if false = true then s &&& (rl.getD a []).getD i 0 else s ||| (rl.getD a []).getD i 0 else s) s (List.range k)) = (List.range k).foldl (grpS rl gn false i) s from rfl, ih]
      refine or_congr Iff.rfl ⟨fun ⟨a, h1, h2, h3⟩ => ⟨a, by omega, h2, h3⟩, fun ⟨a, h1, h2, h3⟩ => ⟨a, ?_, h2, h3⟩⟩
      have : a ≠ k := fun e => by rw [e, hg] at h2; cases h2
      omega
    · rw [if_pos rfl, if_neg (by simp), Nat.testBit_or, Bool.or_eq_true]
      rw [show (List.foldl (fun s a => if gn.testBit a = true then if false = true then s &&& (rl.getD a []).getD i 0 else s ||| (rl.getD a []).getD i 0 else s) s (List.range k)) = (List.range k).foldl (grpS rl gn false i) s from rfl, ih]
      constructor
      · rintro ((h | ⟨a, h1, h2, h3⟩) | h)
        · exact Or.inl h
        · exact Or.inr ⟨a, by omega, h2, h3⟩
        · exact Or.inr ⟨k, by omega, hg, h⟩
      · rintro (h | ⟨a, h1, h2, h3⟩)
        · exact Or.inl (Or.inl h)
        · by_cases e : a = k
          · exact Or.inr (by rw [← e]; exact h3)
          · exact Or.inl (Or.inr ⟨a, by omega, h2, h3⟩)
theorem grp_bit (rl : List (List Nat)) (gn n i v : Nat) : (grpN rl gn false n i).testBit v = true ↔ ∃ a, a < rl.length ∧ gn.testBit a = true ∧ ((rl.getD a []).getD i 0).testBit v = true := by
  unfold grpN
  rw [grp_fold]
  simp
theorem grp_get (rl : List (List Nat)) (gn n i : Nat) (b : Bool) (hi : i < n) : ((List.range n).map (grpN rl gn b n)).getD i 0 = grpN rl gn b n i := by
  rw [List.getD_eq_getElem?_getD, List.getElem?_map, List.getElem?_range hi]; rfl
end Go.Proofs.YtbfeodammikajaaGreat

/- Bit by bit: the paths on words are the reach (plain). First half: what is marked is reached. -/

namespace Go.Proofs.YtbfeodammikajaaGreat

/-- One step along words, into the condition. -/
def stpW (r : List Nat) (c : Nat) (u v : Nat) : Prop := (r.getD u 0).testBit v = true ∧ c.testBit v = true
theorem rch_snoc {α : Type} {r : α → α → Prop} {a b c : α} (h : Rch r a b) (hc : r b c) : Rch r a c := by
  induction h with
  | one h => exact .cons h (.one hc)
  | cons h _ ih => exact .cons h (ih hc)
theorem first_bit (r : List Nat) (c a v : Nat) : (r.getD a 0 &&& c).testBit v = true ↔ stpW r c a v := by
  rw [Nat.testBit_and, Bool.and_eq_true]; rfl
theorem step_sound {r : List Nat} {c a s : Nat} (h : ∀ v, s.testBit v = true → Rch (stpW r c) a v) (u : Nat) : ∀ v, (stepP r c s u).testBit v = true → Rch (stpW r c) a v := by
  intro v hv
  unfold stepP at hv
  cases hu : s.testBit u
  · rw [if_neg (by rw [hu]; simp)] at hv; exact h v hv
  · rw [if_pos hu, Nat.testBit_or, Bool.or_eq_true] at hv
    rcases hv with hv | hv
    · exact h v hv
    · exact rch_snoc (h u hu) ((first_bit ..).1 hv)
theorem pass_sound {r : List Nat} {c a : Nat} : ∀ (n s : Nat), (∀ v, s.testBit v = true → Rch (stpW r c) a v) → ∀ v, (passP r c n s).testBit v = true → Rch (stpW r c) a v
  | 0, s, h => h
  | n + 1, s, h => by
    unfold passP
    rw [fold_snoc]
    exact step_sound (pass_sound n s h) n
theorem paths_fold {r : List Nat} {c a n : Nat} : ∀ (k : Nat), ∀ v, ((List.range k).foldl (fun s _ => passP r c n s) (r.getD a 0 &&& c)).testBit v = true → Rch (stpW r c) a v
  | 0 => fun v hv => .one ((first_bit ..).1 hv)
  | k + 1 => by
    rw [fold_snoc]
    exact pass_sound n _ (paths_fold k)
theorem paths_sound {r : List Nat} {c n a v : Nat} (h : (pathsN r c n a).testBit v = true) : Rch (stpW r c) a v := paths_fold n v h
end Go.Proofs.YtbfeodammikajaaGreat

/- Bit by bit: the paths on words are the reach (plain). Second half: what is reached is marked. -/

namespace Go.Proofs.YtbfeodammikajaaGreat

theorem step_grow {r : List Nat} {c s u v : Nat} (h : s.testBit v = true) : (stepP r c s u).testBit v = true := by
  unfold stepP
  split
  · rw [Nat.testBit_or, h, Bool.true_or]
  · exact h
theorem step_hits {r : List Nat} {c s u v : Nat} (h : s.testBit u = true) (hst : stpW r c u v) : (stepP r c s u).testBit v = true := by
  unfold stepP
  rw [if_pos h, Nat.testBit_or, (first_bit r c u v).2 hst, Bool.or_true]
theorem pass_grow {r : List Nat} {c v : Nat} : ∀ (n s : Nat), s.testBit v = true → (passP r c n s).testBit v = true
  | 0, _, h => h
  | n + 1, s, h => by
    unfold passP
    rw [fold_snoc]
    exact step_grow (pass_grow n s h)
theorem pass_hits {r : List Nat} {c s u v : Nat} (hs : s.testBit u = true) (hst : stpW r c u v) : ∀ (n : Nat), u < n → (passP r c n s).testBit v = true
  | 0, h => absurd h (by omega)
  | n + 1, h => by
    unfold passP
    rw [fold_snoc]
    by_cases e : u = n
    · subst e
      have h1 : (passP r c u s).testBit u = true := pass_grow u s hs
      unfold passP at h1
      exact step_hits h1 hst
    · exact step_grow (pass_hits hs hst n (by omega))
/-- Closed under steps. -/
def clsW (r : List Nat) (c s : Nat) : Prop := ∀ u v, s.testBit u = true → stpW r c u v → s.testBit v = true
theorem step_still {r : List Nat} {c s u : Nat} (h : clsW r c s) : stepP r c s u = s := by
  unfold stepP
  split
  · rename_i hu
    refine Nat.eq_of_testBit_eq fun v => ?_
    rw [Nat.testBit_or]
    cases hb : (r.getD u 0 &&& c).testBit v
    · rw [Bool.or_false]
    · rw [h u v hu ((first_bit ..).1 hb)]; rfl
  · rfl
theorem pass_still {r : List Nat} {c s : Nat} (h : clsW r c s) : ∀ n, passP r c n s = s
  | 0 => rfl
  | n + 1 => by
    unfold passP
    rw [fold_snoc]
    have ih := pass_still h n
    unfold passP at ih
    rw [ih, step_still h]
def zerW (n s : Nat) : Nat := (List.range n).countP fun i => !s.testBit i
theorem pass_less {r : List Nat} {c n s : Nat} (hb : ∀ u v, (r.getD u 0).testBit v = true → u < n ∧ v < n) (h : ¬ clsW r c s) : zerW n (passP r c n s) < zerW n s := by
  obtain ⟨u, v, h1, h2, h3⟩ : ∃ u v, s.testBit u = true ∧ stpW r c u v ∧ s.testBit v = false := Classical.byContradiction fun hn => h fun u v h1 h2 => by
    cases h3 : s.testBit v
    · exact absurd ⟨u, v, h1, h2, h3⟩ hn
    · rfl
  obtain ⟨hu, hv⟩ := hb u v h2.1
  unfold zerW
  refine countP_ltG (fun i _ hq => ?_) ⟨v, List.mem_range.2 hv, by rw [h3]; rfl, by rw [pass_hits h1 h2 n hu]; rfl⟩
  cases hi : s.testBit i
  · rfl
  · rw [pass_grow n s hi] at hq; cases hq
theorem zer_le (n s : Nat) : zerW n s ≤ n := by
  have := List.countP_le_length (p := fun i => !s.testBit i) (l := List.range n)
  rw [List.length_range] at this
  exact this
theorem zer_full {r : List Nat} {c n s : Nat} (hb : ∀ u v, (r.getD u 0).testBit v = true → u < n ∧ v < n) (h : zerW n s = 0) : clsW r c s := by
  intro u v _ h2
  unfold zerW at h
  rw [List.countP_eq_zero] at h
  have := h v (List.mem_range.2 (hb u v h2.1).2)
  simpa using this
theorem paths_cls {r : List Nat} {c n a : Nat} (hb : ∀ u v, (r.getD u 0).testBit v = true → u < n ∧ v < n) : ∀ k, clsW r c ((List.range k).foldl (fun s _ => passP r c n s) (r.getD a 0 &&& c)) ∨ zerW n ((List.range k).foldl (fun s _ => passP r c n s) (r.getD a 0 &&& c)) + k ≤ n
  | 0 => Or.inr (zer_le _ _)
  | k + 1 => by
    rw [fold_snoc]
    rcases paths_cls hb k with h | h
    · exact Or.inl (by rw [pass_still h]; exact h)
    · by_cases hc : clsW r c ((List.range k).foldl (fun s _ => passP r c n s) (r.getD a 0 &&& c))
      · exact Or.inl (by rw [pass_still hc]; exact hc)
      · have := pass_less hb hc
        exact Or.inr (by omega)
theorem start_in {r : List Nat} {c n a v : Nat} (h : stpW r c a v) : ∀ k, ((List.range k).foldl (fun s _ => passP r c n s) (r.getD a 0 &&& c)).testBit v = true
  | 0 => (first_bit ..).2 h
  | k + 1 => by
    rw [fold_snoc]
    exact pass_grow n _ (start_in h k)
theorem rch_in {r : List Nat} {c s : Nat} (hc : clsW r c s) {a v : Nat} (h : Rch (stpW r c) a v) : (∀ u, stpW r c a u → s.testBit u = true) → s.testBit v = true := by
  induction h with
  | one h => exact fun hs => hs _ h
  | cons h _ ih => exact fun hs => ih fun u hu => hc _ u (hs _ h) hu
theorem paths_bit {r : List Nat} {c n a v : Nat} (hb : ∀ u v, (r.getD u 0).testBit v = true → u < n ∧ v < n) : (pathsN r c n a).testBit v = true ↔ Rch (stpW r c) a v := by
  refine ⟨paths_sound, fun h => ?_⟩
  have hc : clsW r c (pathsN r c n a) := by
    rcases paths_cls (a := a) (c := c) hb n with h | h
    · exact h
    · exact zer_full hb (by unfold pathsN; omega)
  exact rch_in hc h fun u hu => start_in hu n
end Go.Proofs.YtbfeodammikajaaGreat

/- Bit by bit: one node on words is one node of a tree (plain; under way). -/

namespace Go.Proofs.YtbfeodammikajaaGreat

/-- The words of a model hold worlds only. -/
theorem rel_bits {md : Md} (h : checkM md = 0) (a : Nat) : ∀ u v, ((md.rel.getD a []).getD u 0).testBit v = true → u < md.n.toNat ∧ v < md.n.toNat := by
  intro u v hb
  by_cases ha : a < md.rel.length
  · have hm : md.rel.getD a [] ∈ md.rel := by
      rw [List.getD_eq_getElem?_getD, List.getElem?_eq_getElem ha]; exact List.getElem_mem _
    obtain ⟨hv, _⟩ := rel_valid h hm
    have hl := (checkM_zero h).2.2.2.2.1 _ hm
    have hl2 : (md.rel.getD a []).length = md.n.toNat := by omega
    by_cases hu : u < md.n.toNat
    · have := (GrwI.start (eu := true) hl2 (by rw [← hl2]; exact (valid_iff.1 hv).2)).lt u hu
      exact ⟨hu, bit_lt this hb⟩
    · rw [List.getD_eq_getElem?_getD, List.getElem?_eq_none (by omega)] at hb
      simp at hb
  · have e : md.rel.getD a [] = [] := by rw [List.getD_eq_getElem?_getD, List.getElem?_eq_none (by omega)]; rfl
    rw [e] at hb
    simp at hb
theorem grp_bits {md : Md} (h : checkM md = 0) (gn : Nat) : ∀ u v, (((List.range md.n.toNat).map (grpN md.rel gn false md.n.toNat)).getD u 0).testBit v = true → u < md.n.toNat ∧ v < md.n.toNat := by
  intro u v hb
  by_cases hu : u < md.n.toNat
  · rw [grp_get _ _ _ _ _ hu, grp_bit] at hb
    obtain ⟨a, _, _, h3⟩ := hb
    exact ⟨hu, (rel_bits h a u v h3).2⟩
  · rw [List.getD_eq_getElem?_getD, List.getElem?_eq_none (by simp; omega)] at hb
    simp at hb
/-- A word is what a tree says at the worlds. -/
def IsW (md : Md) (s : Nat) (t : Tr) : Prop := ∀ w : Fin md.n.toNat, s.testBit w.1 = true ↔ (kmOf md).sat t w
theorem box_sat {md : Md} (h : checkM md = 0) {n : Nd} {s : Nat} {t : Tr} (hi : 0 ≤ n.i ∧ n.i < md.rel.length) (hs : IsW md s t) (h9 : n.op = 9) : IsW md (boxN (md.rel.getD n.i.toNat []) md.n.toNat s) (.one n t) := by
  intro w
  rw [box_bit]
  show _ ↔ (if n.op = 4 then _ else if n.op = 9 then _ else _)
  rw [if_neg (by omega), if_pos h9]
  constructor
  · rintro ⟨_, hb⟩ v hv
    refine (hs v).1 (hb v.1 ?_)
    have hv' : (if 0 ≤ n.i ∧ n.i < md.rel.length then bitR (md.rel.getD n.i.toNat []) md.n.toNat w v else w = v) := hv
    rw [if_pos hi] at hv'
    exact hv'
  · intro hf
    refine ⟨w.2, fun v hv => ?_⟩
    have hvn := (rel_bits h n.i.toNat w.1 v hv).2
    refine (hs ⟨v, hvn⟩).2 (hf ⟨v, hvn⟩ ?_)
    show (if 0 ≤ n.i ∧ n.i < md.rel.length then bitR (md.rel.getD n.i.toNat []) md.n.toNat w ⟨v, hvn⟩ else _)
    rw [if_pos hi]
    exact hv
end Go.Proofs.YtbfeodammikajaaGreat

/- Bit by bit: the diamond, the group and the common knowledge on words (plain; under way). -/

namespace Go.Proofs.YtbfeodammikajaaGreat

theorem dia_sat {md : Md} (h : checkM md = 0) {n : Nd} {s : Nat} {t : Tr} (hi : 0 ≤ n.i ∧ n.i < md.rel.length) (hs : IsW md s t) (h9 : n.op = 10) :
    IsW md (difN (allW md.n.toNat) (boxN (md.rel.getD n.i.toNat []) md.n.toNat (difN (allW md.n.toNat) s))) (.one n t) := by
  intro w
  rw [dia_bit _ _ _ _ (fun v hv => (rel_bits h _ _ v hv).2)]
  show _ ↔ (if n.op = 4 then _ else if n.op = 9 then _ else if n.op = 10 then _ else _)
  rw [if_neg (by omega), if_neg (by omega), if_pos h9]
  constructor
  · rintro ⟨_, v, hv, hb⟩
    have hvn := (rel_bits h n.i.toNat w.1 v hv).2
    refine ⟨⟨v, hvn⟩, ?_, (hs ⟨v, hvn⟩).1 hb⟩
    show (if 0 ≤ n.i ∧ n.i < md.rel.length then bitR (md.rel.getD n.i.toNat []) md.n.toNat w ⟨v, hvn⟩ else _)
    rw [if_pos hi]
    exact hv
  · rintro ⟨v, hv, hb⟩
    have hv' : (if 0 ≤ n.i ∧ n.i < md.rel.length then bitR (md.rel.getD n.i.toNat []) md.n.toNat w v else w = v) := hv
    rw [if_pos hi] at hv'
    exact ⟨w.2, v.1, hv', (hs v).2 hb⟩
/-- A group's agents are of the model. -/
theorem grp_agent {md : Md} {g : Int} (hg : g.toNat < 2 ^ md.rel.length) {i : Nat} (hi : gbit g i = true) : i < md.rel.length := bit_lt hg hi
theorem kmR {md : Md} {i : Nat} (hi : i < md.rel.length) (u v : Fin md.n.toNat) : (kmOf md).R (i : Int) u v ↔ ((md.rel.getD i []).getD u.1 0).testBit v.1 = true := by
  show (if 0 ≤ (i : Int) ∧ (i : Int) < md.rel.length then bitR (md.rel.getD (i : Int).toNat []) md.n.toNat u v else u = v) ↔ _
  rw [if_pos (by omega), Int.toNat_natCast]
  rfl
theorem grp_sat {md : Md} (h : checkM md = 0) {n : Nd} {s : Nat} {t : Tr} (hg : n.g.toNat < 2 ^ md.rel.length) (hs : IsW md s t) (h9 : n.op = 11) :
    IsW md (boxN ((List.range md.n.toNat).map (grpN md.rel n.g.toNat false md.n.toNat)) md.n.toNat s) (.one n t) := by
  intro w
  rw [box_bit]
  show _ ↔ (if n.op = 4 then _ else if n.op = 9 then _ else if n.op = 10 then _ else if n.op = 11 then _ else _)
  rw [if_neg (by omega), if_neg (by omega), if_neg (by omega), if_pos h9, grp_get _ _ _ _ _ w.2]
  have h4 := (checkM_zero h).2.2.1
  constructor
  · rintro ⟨_, hb⟩ i hi hgi v hv
    exact (hs v).1 (hb v.1 ((grp_bit ..).2 ⟨i, grp_agent hg hgi, hgi, (kmR (grp_agent hg hgi) w v).1 hv⟩))
  · intro hf
    refine ⟨w.2, fun v hv => ?_⟩
    obtain ⟨i, hi, hgi, hr⟩ := (grp_bit ..).1 hv
    have hvn := (rel_bits h i w.1 v hr).2
    exact (hs ⟨v, hvn⟩).2 (hf i (by omega) hgi ⟨v, hvn⟩ ((kmR hi w ⟨v, hvn⟩).2 hr))
end Go.Proofs.YtbfeodammikajaaGreat

/- Bit by bit: common knowledge on words (plain; under way). -/

namespace Go.Proofs.YtbfeodammikajaaGreat

theorem step_words {md : Md} (h : checkM md = 0) {g : Int} {c : Nat} {t : Tr} (hg : g.toNat < 2 ^ md.rel.length) (hc : IsW md c t) (u v : Fin md.n.toNat) :
    stpW ((List.range md.n.toNat).map (grpN md.rel g.toNat false md.n.toNat)) c u.1 v.1 ↔ (kmOf md).step g ((kmOf md).sat t) u v := by
  unfold stpW KM.step
  rw [grp_get _ _ _ _ _ u.2, grp_bit, hc v]
  have h4 := (checkM_zero h).2.2.1
  refine and_congr ⟨?_, ?_⟩ Iff.rfl
  · rintro ⟨a, ha, hga, hr⟩
    exact ⟨a, by omega, hga, (kmR ha u v).2 hr⟩
  · rintro ⟨a, _, hga, hr⟩
    exact ⟨a, grp_agent hg hga, hga, (kmR (grp_agent hg hga) u v).1 hr⟩
theorem rch_up {md : Md} (h : checkM md = 0) {g : Int} {c : Nat} {t : Tr} (hg : g.toNat < 2 ^ md.rel.length) (hc : IsW md c t) {a b : Nat} (hr : Rch (stpW ((List.range md.n.toNat).map (grpN md.rel g.toNat false md.n.toNat)) c) a b) :
    ∀ (ha : a < md.n.toNat), ∃ hb : b < md.n.toNat, Rch ((kmOf md).step g ((kmOf md).sat t)) (⟨a, ha⟩ : Fin md.n.toNat) (⟨b, hb⟩ : Fin md.n.toNat) := by
  induction hr with
  | one hs => exact fun ha => ⟨(grp_bits h _ _ _ hs.1).2, .one ((step_words h hg hc ⟨_, ha⟩ ⟨_, (grp_bits h _ _ _ hs.1).2⟩).1 hs)⟩
  | cons hs _ ih =>
    intro ha
    obtain ⟨hb, hr2⟩ := ih (grp_bits h _ _ _ hs.1).2
    exact ⟨hb, .cons ((step_words h hg hc ⟨_, ha⟩ ⟨_, (grp_bits h _ _ _ hs.1).2⟩).1 hs) hr2⟩
theorem rch_down {md : Md} (h : checkM md = 0) {g : Int} {c : Nat} {t : Tr} (hg : g.toNat < 2 ^ md.rel.length) (hc : IsW md c t) {a b : Fin md.n.toNat} (hr : Rch ((kmOf md).step g ((kmOf md).sat t)) a b) :
    Rch (stpW ((List.range md.n.toNat).map (grpN md.rel g.toNat false md.n.toNat)) c) a.1 b.1 := by
  induction hr with
  | one hs => exact .one ((step_words h hg hc _ _).2 hs)
  | cons hs _ ih => exact .cons ((step_words h hg hc _ _).2 hs) ih
theorem common_sat {md : Md} (h : checkM md = 0) {n : Nd} {c s : Nat} {t1 t2 : Tr} (hg : n.g.toNat < 2 ^ md.rel.length) (hc : IsW md c t1) (hs : IsW md s t2) (h9 : n.op = 13) :
    IsW md (commonM ((List.range md.n.toNat).map (grpN md.rel n.g.toNat false md.n.toNat)) md.n.toNat c s) (.two n t1 t2) := by
  intro w
  unfold commonM
  rw [mask_bit, Bool.and_eq_true, decide_eq_true_iff, subS_iff]
  show _ ↔ (if n.op = 5 then _ else if n.op = 6 then _ else if n.op = 7 then _ else if n.op = 8 then _ else if n.op = 13 then _ else _)
  rw [if_neg (by omega), if_neg (by omega), if_neg (by omega), if_neg (by omega), if_pos h9]
  constructor
  · rintro ⟨_, hb⟩ v hv
    exact (hs v).1 (hb v.1 ((paths_bit (grp_bits h _)).2 (rch_down h hg hc hv)))
  · intro hf
    refine ⟨w.2, fun v hv => ?_⟩
    obtain ⟨hvn, hr⟩ := rch_up h hg hc ((paths_bit (grp_bits h _)).1 hv) w.2
    exact (hs ⟨v, hvn⟩).2 (hf ⟨v, hvn⟩ hr)
end Go.Proofs.YtbfeodammikajaaGreat

/- Bit by bit: facts and the Booleans on words (plain; under way). -/

namespace Go.Proofs.YtbfeodammikajaaGreat

theorem top_sat {md : Md} {n : Nd} (h : n.op = 1) (x y : Nat) : IsW md (boolN n.op x y (allW md.n.toNat)) (.leaf n) := by
  intro w
  show _ ↔ (n.op = 1 ∨ _)
  unfold boolN
  rw [if_pos h, allw_bit]
  exact ⟨fun _ => Or.inl h, fun _ => decide_eq_true w.2⟩
theorem bot_sat {md : Md} {n : Nd} (h : n.op = 2) (x y : Nat) : IsW md (boolN n.op x y (allW md.n.toNat)) (.leaf n) := by
  intro w
  show _ ↔ (n.op = 1 ∨ (n.op = 3 ∧ _))
  rw [h]
  show (boolN 2 x y (allW md.n.toNat)).testBit w.1 = true ↔ _
  rw [show boolN 2 x y (allW md.n.toNat) = 0 from rfl, Nat.zero_testBit]
  simp
theorem fact_sat {md : Md} {n : Nd} (h : n.op = 3) : IsW md (md.val.getD n.i.toNat 0) (.leaf n) := by
  intro w
  show _ ↔ (n.op = 1 ∨ (n.op = 3 ∧ (md.val.getD n.i.toNat 0).testBit w.1 = true))
  rw [h]
  simp
theorem not_sat {md : Md} {n : Nd} {x y : Nat} {t : Tr} (h : n.op = 4) (hx : IsW md x t) : IsW md (boolN n.op x y (allW md.n.toNat)) (.one n t) := by
  intro w
  show _ ↔ (if n.op = 4 then ¬ (kmOf md).sat t w else _)
  rw [if_pos h, ← hx w, h]
  show (difN (allW md.n.toNat) x).testBit w.1 = true ↔ _
  rw [dif_bit, allw_bit, decide_eq_true w.2]
  simp
theorem two_sat {md : Md} {n : Nd} {x y : Nat} {t1 t2 : Tr} (h : n.op = 5 ∨ n.op = 6 ∨ n.op = 7 ∨ n.op = 8) (hx : IsW md x t1) (hy : IsW md y t2) : IsW md (boolN n.op x y (allW md.n.toNat)) (.two n t1 t2) := by
  intro w
  have h1 := hx w
  have h2 := hy w
  show _ ↔ (if n.op = 5 then (kmOf md).sat t1 w ∧ (kmOf md).sat t2 w else if n.op = 6 then (kmOf md).sat t1 w ∨ (kmOf md).sat t2 w else if n.op = 7 then (kmOf md).sat t1 w → (kmOf md).sat t2 w else if n.op = 8 then ((kmOf md).sat t1 w ↔ (kmOf md).sat t2 w) else _)
  rw [← h1, ← h2]
  rcases h with h | h | h | h <;> rw [h]
  · show (x &&& y).testBit w.1 = true ↔ _
    rw [Nat.testBit_and]; cases x.testBit w.1 <;> cases y.testBit w.1 <;> simp
  · show (x ||| y).testBit w.1 = true ↔ _
    rw [Nat.testBit_or]; cases x.testBit w.1 <;> cases y.testBit w.1 <;> simp
  · show (difN (allW md.n.toNat) x ||| y).testBit w.1 = true ↔ _
    rw [Nat.testBit_or, dif_bit, allw_bit, decide_eq_true w.2]; cases x.testBit w.1 <;> cases y.testBit w.1 <;> simp
  · show (difN (allW md.n.toNat) (x ^^^ y)).testBit w.1 = true ↔ _
    rw [dif_bit, allw_bit, decide_eq_true w.2, Nat.testBit_xor]; cases x.testBit w.1 <;> cases y.testBit w.1 <;> simp
end Go.Proofs.YtbfeodammikajaaGreat

/- Bit by bit: one node on words (plain). -/

namespace Go.Proofs.YtbfeodammikajaaGreat

theorem node_sat {md : Md} (h : checkM md = 0) {n : Nd} {x y : Nat} {a b : Tr} (hf : FitNd md n) (h12 : n.op ≠ 12) (hx : hasX n.op = true → IsW md x a) (hy : hasY n.op = true → IsW md y b) :
    IsW md (oneN md n x y) (mkTr n a b) := by
  have ho : 1 ≤ n.op := by
    have := hf.head.1
    unfold isOp at this
    simp at this
    omega
  have h13 := hf.op
  obtain ⟨op, i, e, g, p, q⟩ := n
  have hc : op = 1 ∨ op = 2 ∨ op = 3 ∨ op = 4 ∨ (op = 5 ∨ op = 6 ∨ op = 7 ∨ op = 8) ∨ op = 9 ∨ op = 10 ∨ op = 11 ∨ op = 13 := by
    simp at h12 ho h13; omega
  rcases hc with rfl | rfl | rfl | rfl | hc | rfl | rfl | rfl | rfl
  · exact top_sat (n := ⟨1, i, e, g, p, q⟩) rfl x y
  · exact bot_sat (n := ⟨2, i, e, g, p, q⟩) rfl x y
  · exact fact_sat (n := ⟨3, i, e, g, p, q⟩) rfl
  · exact not_sat (n := Nd.head ⟨4, i, e, g, p, q⟩) (y := y) rfl (hx rfl)
  · rcases hc with rfl | rfl | rfl | rfl
    · exact two_sat (n := Nd.head ⟨5, i, e, g, p, q⟩) (Or.inl rfl) (hx rfl) (hy rfl)
    · exact two_sat (n := Nd.head ⟨6, i, e, g, p, q⟩) (Or.inr (Or.inl rfl)) (hx rfl) (hy rfl)
    · exact two_sat (n := Nd.head ⟨7, i, e, g, p, q⟩) (Or.inr (Or.inr (Or.inl rfl))) (hx rfl) (hy rfl)
    · exact two_sat (n := Nd.head ⟨8, i, e, g, p, q⟩) (Or.inr (Or.inr (Or.inr rfl))) (hx rfl) (hy rfl)
  · exact box_sat h (n := Nd.head ⟨9, i, e, g, p, q⟩) ⟨(head_agent hf.head rfl).1, hf.agent (Or.inl rfl)⟩ (hx rfl) rfl
  · exact dia_sat h (n := Nd.head ⟨10, i, e, g, p, q⟩) ⟨(head_agent hf.head rfl).1, hf.agent (Or.inr rfl)⟩ (hx rfl) rfl
  · exact grp_sat h (n := Nd.head ⟨11, i, e, g, p, q⟩) (hf.group (show (11 : Int) ≤ 11 by decide)).2 (hx rfl) rfl
  · exact common_sat h (n := Nd.head ⟨13, i, e, g, p, q⟩) (hf.group (show (11 : Int) ≤ 13 by decide)).2 (hx rfl) (hy rfl) rfl
end Go.Proofs.YtbfeodammikajaaGreat

/- The sets along a list: what a place holds stays (plain). -/

namespace Go.Proofs.YtbfeodammikajaaGreat

theorem setsK_at (md : Md) (f : List Nd) : ∀ (m k : Nat), k < m → (setsK md f m).getD k 0 = setS md f (setsK md f k) k
  | 0, _, h => absurd h (by omega)
  | m + 1, k, h => by
    show (setsK md f m ++ [setS md f (setsK md f m) m]).getD k 0 = _
    rw [List.getD_eq_getElem?_getD]
    by_cases e : k = m
    · subst e
      rw [List.getElem?_append_right (by rw [setsK_len]; omega), setsK_len, Nat.sub_self]
      rfl
    · rw [List.getElem?_append_left (by rw [setsK_len]; omega), ← List.getD_eq_getElem?_getD]
      exact setsK_at md f m k (by omega)
end Go.Proofs.YtbfeodammikajaaGreat

/- A formula that fits a model: each part of its canonical list does (plain). -/

namespace Go.Proofs.YtbfeodammikajaaGreat

theorem frag_src : ∀ (l : List Nd) (s i : Nat), (l.foldl (fun s n => s ||| (fragOf n.op).toNat) s).testBit i = true → s.testBit i = true ∨ ∃ n ∈ l, (fragOf n.op).toNat.testBit i = true
  | [], _, _, h => Or.inl h
  | a :: l, s, i, h => by
    rcases frag_src l (s ||| (fragOf a.op).toNat) i h with h1 | ⟨n, hn, h2⟩
    · rw [Nat.testBit_or, Bool.or_eq_true] at h1
      rcases h1 with h1 | h1
      · exact Or.inl h1
      · exact Or.inr ⟨a, List.mem_cons_self .., h1⟩
    · exact Or.inr ⟨n, List.mem_cons_of_mem _ hn, h2⟩
theorem ag_src : ∀ (l : List Nd) (s i : Nat), (l.foldl agS s).testBit i = true → s.testBit i = true ∨ ∃ n ∈ l, (hasAgent n.op = true ∧ i = n.i.toNat) ∨ n.g.toNat.testBit i = true
  | [], _, _, h => Or.inl h
  | a :: l, s, i, h => by
    rcases ag_src l (agS s a) i h with h1 | ⟨n, hn, h2⟩
    · unfold agS at h1
      rw [Nat.testBit_or, Nat.testBit_or, Bool.or_eq_true, Bool.or_eq_true] at h1
      rcases h1 with (h1 | h1) | h1
      · exact Or.inl h1
      · refine Or.inr ⟨a, List.mem_cons_self .., Or.inl ?_⟩
        cases ha : hasAgent a.op
        · rw [ha, if_neg (by simp), Nat.zero_testBit] at h1; cases h1
        · rw [ha, if_pos rfl, Nat.testBit_two_pow, decide_eq_true_iff] at h1
          exact ⟨rfl, h1.symm⟩
      · exact Or.inr ⟨a, List.mem_cons_self .., Or.inr h1⟩
    · exact Or.inr ⟨n, List.mem_cons_of_mem _ hn, h2⟩
theorem fa_src : ∀ (l : List Nd) (s i : Nat), (l.foldl faS s).testBit i = true → s.testBit i = true ∨ ∃ n ∈ l, n.op = 3 ∧ i = n.i.toNat
  | [], _, _, h => Or.inl h
  | a :: l, s, i, h => by
    rcases fa_src l (faS s a) i h with h1 | ⟨n, hn, h2⟩
    · unfold faS at h1
      by_cases ho : a.op = 3
      · rw [if_pos ho, Nat.testBit_or, Bool.or_eq_true, Nat.testBit_two_pow, decide_eq_true_iff] at h1
        rcases h1 with h1 | h1
        · exact Or.inl h1
        · exact Or.inr ⟨a, List.mem_cons_self .., ho, h1.symm⟩
      · rw [if_neg ho] at h1
        exact Or.inl h1
    · exact Or.inr ⟨n, List.mem_cons_of_mem _ hn, h2⟩
/-- The nodes of a part's list are nodes of the list, but for their operands. -/
theorem part_heads {c : List Nd} (hc : check c = 0) {k : Nat} (hk : k < c.length) : ∀ n ∈ canon (tr c k), ∃ m ∈ c, m.head = n.head := by
  have hP : ∀ (n : Nd) (k1 k2 : Nat), (∃ m ∈ c, m.head = n.head) → ∃ m ∈ c, m.head = (n.with_ k1 k2).head := fun n k1 k2 ⟨m, hm, h⟩ => ⟨m, hm, by rw [with_head]; exact h⟩
  exact ins_all (P := fun n => ∃ m ∈ c, m.head = n.head) hP (tr c k) [] (tr_all (P := fun n => ∃ m ∈ c, m.head = n.head) hP (check_wf hc) (fun n hn => ⟨n, hn, rfl⟩) k hk) (fun n hn => by cases hn)
theorem fit_part {md : Md} {c : List Nd} (hc : check c = 0) (hcc : compactN c = c) (hs : subS (fragsN c) 15 = true) (hf : fitsN c md.rel.length md.val.length = true) {k : Nat} (hk : k < c.length) : fit17 md c (k : Int) = true := by
  have hg := (sub_props hc hk).2.1
  have htk : (tr c k).ok := tr_ok (check_wf hc) k hk
  have hce : compactN (subN c (k : Int)) = canon (tr c k) := by
    rw [compactN_tree hg, subN_tree hc hk, treeOf_canon htk]
  have hh := part_heads hc hk
  unfold fitsN at hf
  rw [Bool.and_eq_true, Bool.and_eq_true, List.all_eq_true, List.all_eq_true, hcc] at hf
  unfold fit17
  rw [Bool.and_eq_true]
  refine ⟨?_, ?_⟩
  · rw [subS_iff] at hs ⊢
    intro i hi
    unfold fragsN fragMask at hi
    rw [hce] at hi
    rcases frag_src _ _ _ hi with h | ⟨n, hn, h⟩
    · rw [Nat.zero_testBit] at h; cases h
    · obtain ⟨m, hm, e⟩ := hh n hn
      refine hs i ?_
      unfold fragsN fragMask
      rw [hcc]
      exact (frag_mem c 0).2 m hm i (by rw [(head_eqs e).1]; exact h)
  · unfold fitsN
    rw [Bool.and_eq_true, Bool.and_eq_true, List.all_eq_true, List.all_eq_true, hce]
    refine ⟨by rw [hg]; rfl, fun i hi => ?_, fun i hi => ?_⟩
    · have h1 := hf.2.1 i hi
      unfold fitA at h1 ⊢
      rw [Bool.or_eq_true] at h1 ⊢
      rcases h1 with h1 | h1
      · refine Or.inl ?_
        cases hb : (agentsM (canon (tr c k))).testBit i
        · rfl
        · exfalso
          rcases ag_src _ _ _ hb with h | ⟨n, hn, h⟩
          · rw [Nat.zero_testBit] at h; cases h
          · obtain ⟨m, hm, e⟩ := hh n hn
            have := (ag_mem c 0).2 m hm i (by rw [(head_eqs e).1, (head_eqs e).2.1, (head_eqs e).2.2]; exact h)
            unfold agentsM at h1
            rw [this] at h1; cases h1
      · exact Or.inr h1
    · have h1 := hf.2.2 i hi
      unfold fitA at h1 ⊢
      rw [Bool.or_eq_true] at h1 ⊢
      rcases h1 with h1 | h1
      · refine Or.inl ?_
        cases hb : (factsM (canon (tr c k))).testBit i
        · rfl
        · exfalso
          rcases fa_src _ _ _ hb with h | ⟨n, hn, h⟩
          · rw [Nat.zero_testBit] at h; cases h
          · obtain ⟨m, hm, e⟩ := hh n hn
            have := (fa_mem c 0).2 m hm i (by rw [(head_eqs e).1, (head_eqs e).2.1]; exact h)
            unfold factsM at h1
            rw [this] at h1; cases h1
      · exact Or.inr h1
end Go.Proofs.YtbfeodammikajaaGreat

/- The sets of a formula's nodes are what their trees say at the worlds (plain). -/

namespace Go.Proofs.YtbfeodammikajaaGreat

theorem sets_is {md : Md} {c : List Nd} (hck : checkM md = 0) (hc : check c = 0) (hf : ∀ k : Nat, k < c.length → fit17 md c (k : Int) = true) (h12 : ∀ n ∈ c, n.op ≠ 12) : ∀ k, k < c.length → IsW md (setS md c (setsK md c k) k) (tr c k) := by
  intro k
  induction k using Nat.strongRecOn with
  | _ k ih =>
    intro hk
    obtain ⟨n, hn⟩ : ∃ n, c[k]? = some n := ⟨_, List.getElem?_eq_getElem hk⟩
    obtain ⟨hx, hy⟩ := check_wf hc k n hn
    unfold setS
    rw [if_pos (hf k hk), getD_of hn, tr_eq (check_wf hc) hn]
    refine node_sat hck (fit_nd hc hn (hf k hk) (checkM_zero hck).2.2.1) (h12 n (List.mem_of_getElem? hn)) (fun h => ?_) (fun h => ?_)
    · have := hx h
      rw [if_pos h, setsK_at md c k _ (by omega)]
      exact ih _ (by omega) (by omega)
    · have := hy h
      rw [if_pos h, setsK_at md c k _ (by omega)]
      exact ih _ (by omega) (by omega)
theorem dif_low {a b n : Nat} (h : a < 2 ^ n) : difN a b < 2 ^ n := low_bits fun i hi => by
  rw [dif_bit, Bool.and_eq_true] at hi
  exact bit_lt h hi.1
theorem allw_low (n : Nat) : allW n < 2 ^ n := by
  unfold allW
  have := Nat.two_pow_pos n
  omega
theorem bool_low {op : Int} {x y n : Nat} (hx : x < 2 ^ n) (hy : y < 2 ^ n) : boolN op x y (allW n) < 2 ^ n := by
  have h := Nat.two_pow_pos n
  unfold boolN
  repeat' split
  · exact allw_low n
  · exact dif_low (allw_low n)
  · exact Nat.lt_of_le_of_lt Nat.and_le_left hx
  · exact Nat.or_lt_two_pow hx hy
  · exact Nat.or_lt_two_pow (dif_low (allw_low n)) hy
  · exact dif_low (allw_low n)
  · exact h
theorem one_low {md : Md} (hck : checkM md = 0) {n : Nd} {x y : Nat} (hx : x < 2 ^ md.n.toNat) (hy : y < 2 ^ md.n.toNat) : oneN md n x y < 2 ^ md.n.toNat := by
  unfold oneN
  split
  · have hb := (checkM_zero hck).2.2.2.2.2.1
    unfold beyondN at hb
    rw [List.any_eq_false] at hb
    rw [List.getD_eq_getElem?_getD]
    cases e : md.val[n.i.toNat]? with
    | none => exact Nat.two_pow_pos _
    | some s =>
      have := hb s (List.mem_of_getElem? e)
      simpa using this
  split
  · exact bool_low hx hy
  split
  · exact mask_lt _ _
  split
  · exact dif_low (allw_low _)
  split
  · exact mask_lt _ _
  split
  · exact mask_lt _ _
  · exact mask_lt _ _
theorem getD_low {l : List Nat} {b : Nat} (h : ∀ s ∈ l, s < b) (hb : 0 < b) (i : Nat) : l.getD i 0 < b := by
  rw [List.getD_eq_getElem?_getD]
  cases e : l[i]? with
  | none => exact hb
  | some s => exact h s (List.mem_of_getElem? e)
theorem setsK_low {md : Md} (hck : checkM md = 0) (f : List Nd) : ∀ k, ∀ s ∈ setsK md f k, s < 2 ^ md.n.toNat
  | 0, s, hs => by cases hs
  | k + 1, s, hs => by
    have ih := setsK_low hck f k
    have h0 := Nat.two_pow_pos md.n.toNat
    rcases List.mem_append.1 hs with h | h
    · exact ih s h
    · rw [List.mem_singleton.1 h]
      unfold setS
      split
      · refine one_low hck ?_ ?_
        · split
          · exact getD_low ih h0 _
          · exact h0
        · split
          · exact getD_low ih h0 _
          · exact h0
      · exact h0
theorem chk_compact {md : Md} {f : List Nd} (h : chk17 md (compactN f) = 0) : check f = 0 := by
  refine Classical.byContradiction fun hn => ?_
  have hcc := (chk17_zero h).2.1
  have : compactN f = [] := by
    unfold compactN subN
    rw [show (check f != 0) = true by simpa using hn]; rfl
  rw [this] at hcc
  exact check_nil hcc
/-- Where the checker answers, a formula of the types' language holds at the worlds of its word. -/
theorem hold_is {md : Md} {f : List Nd} (h : chk17 md (compactN f) = 0) (hl : langBad f = false) : check f = 0 ∧ IsW md (hold17 md f) (treeOf f) ∧ hold17 md f < 2 ^ md.n.toNat := by
  obtain ⟨hck, hcc, hs, hf⟩ := chk17_zero h
  have hc : check f = 0 := chk_compact h
  have hp := (compactN_props hc).2.2.1
  have h2 := compact_twice hc
  have h12 : ∀ n ∈ compactN f, n.op ≠ 12 := fun n hn e => by
    have := lang_ops hc hl n hn
    unfold tyOp at this
    omega
  refine ⟨hc, ?_, ?_⟩
  · unfold hold17
    rw [if_pos h, setsK_at md _ _ _ (by omega), ← treeOf_compact hc]
    exact sets_is hck hcc (fun k hk => fit_part hcc h2 hs hf hk) h12 _ (by omega)
  · unfold hold17
    rw [if_pos h]
    exact getD_low (setsK_low hck _ _) (Nat.two_pow_pos _) _
end Go.Proofs.YtbfeodammikajaaGreat

/- The plain law of TypesSound: what a model of the logic makes true is satisfiable, and no elimination of it is right. -/

namespace Go.Proofs.YtbfeodammikajaaGreat

theorem hold_chk {md : Md} {f : List Nd} (h0 : hold17 md f ≠ 0) : chk17 md (compactN f) = 0 := by
  refine Classical.byContradiction fun hn => h0 ?_
  unfold hold17
  rw [if_neg hn]
theorem sound_plain {md : Md} {lg : Int} {f : List Nd} (hg : GoodM md lg) (h0 : hold17 md f ≠ 0) (he : engErr lg f = 0) : leftN lg f = true ∧ ∀ ts ws, checkT lg f ts ws ≠ 0 := by
  have hok := eng_ok he
  have hl : langBad f = false := by
    unfold engErr at he
    cases ha : decide (lg < 0) || decide (6 < lg)
    · rw [ha] at he
      exact (base_parts he).2.1
    · rw [ha] at he; cases he
  obtain ⟨_, hw, hb⟩ := hold_is (hold_chk h0) hl
  obtain ⟨i, hi, hbit⟩ := word_pos hb h0
  have hs := (hw ⟨i, hi⟩).1 hbit
  have hM := kmOf_in hg
  exact ⟨(sat_truth hok).2 ⟨_, hM, _, hs⟩, fun ts ws hc => check_sound hok hc hM _ hs⟩
theorem sound_err {md : Md} {lg : Int} {f : List Nd} (hg : 0 ≤ lg ∧ lg ≤ 6) (h0 : hold17 md f ≠ 0) : engErr lg f = 0 ∨ engErr lg f = 10 ∨ engErr lg f = 8 := by
  have hc : check f = 0 := chk_compact (hold_chk h0)
  unfold engErr baseN
  rw [show (decide (lg < 0) || decide (6 < lg)) = false by simp; omega, hc]
  show (bif langBad f then (([] : List (List Nd)), (10 : Int)) else bif decide ((expandN f).length = 0) then ([], 8) else baseOfN (expandN f)).2 = 0 ∨ _
  cases langBad f
  · cases decide ((expandN f).length = 0)
    · show (baseOfN (expandN f)).2 = 0 ∨ _
      unfold baseOfN
      cases (((base0 (expandN f)).flatMap unfsN).any (fun u => decide (u.length = 0)) || decide (12 < (((base0 (expandN f)).flatMap unfsN).foldl addF (base0 (expandN f))).length))
      · exact Or.inl rfl
      · exact Or.inr (Or.inr rfl)
    · exact Or.inr (Or.inr rfl)
  · exact Or.inr (Or.inl rfl)
end Go.Proofs.YtbfeodammikajaaGreat

/- The reference's constructors of formulas: a short list's canonical form; a node without operands; a node with one. -/

namespace Go.Proofs.YtbfeodammikajaaGreat
open Go.RowKit

set_option maxRecDepth 100000 in
set_option maxHeartbeats 4000000 in
theorem short_any (v : Value) (l : List Nd) (w : World) (h : Fml w v l) (hw : Wf l) (h0 : 0 < l.length) (hl : l.length ≤ 401) :
    Calls Tryz.prog 125 #[v] w fun e w' => ∃ u, e = .returned u ∧ Made w w' u (shortN l) := by
  have H := Lib.hid h
  have HW := Lib.hid hw
  obtain ⟨⟨A, c, rfl, hat⟩, hok⟩ := h
  have HAT := Lib.hid hat
  have hcl := hat.1
  have hcm := hat.2.1
  unfold maxLen at hcm
  obtain ⟨i3, hi3, hz30, hz31, hz32⟩ := info_parts tInfo3
  clear hat hok hw
  go_enter Tryz.func125, Tryz.ntmps125
  go_wp2_with fail
  go_loopw [4] (fun i wr => ∃ k : Nat, k ≤ l.length ∧ i = .int .i64 k ∧ Hid (∃ vd, RSub w k vd wr)) (fun i _ => l.length - (intOf i).toNat)
  case atStart => exact ⟨0, Nat.zero_le _, rfl, Lib.hid ⟨.slice none 0 0, heap_alloc_new _ _, World.ownsRow_nil _ _ _ _, (Ext.refl _).alloc _⟩⟩
  case round =>
    obtain ⟨k, hk, rfl, hrs⟩ := hrel
    obtain ⟨vd, hblk0, hrow0, hext⟩ := hrs.out
    have HBLK := Lib.hid hblk0; have HROW := Lib.hid hrow0
    clear hblk0 hrow0 hrs
    obtain ⟨Ad, cd, rfl⟩ := slice_of_row HROW.out
    obtain ⟨d0, d1, dfr, dlt⟩ := cells2 HBLK.out
    by_cases hlt2 : k < l.length
    · have hc3 : k + 1 ≤ maxLen := by unfold maxLen; omega
      have hc4 : (k + 1) * 8 ≤ 140737488355328 := by omega
      have hfz := dfr 1
      have HNE := Lib.hid (row_ne HROW.out)
      have hc5 : ∀ X, w.heap.size + 1 ≤ (wr.alloc X).heap.size := fun X => by simp; omega
      obtain ⟨xs, hxs⟩ : ∃ xs, xs = (List.replicate k (-1 : Int)).map (Value.int .i64) := ⟨_, rfl⟩
      rw [← hxs] at HROW
      have HXS := Lib.hid hxs
      clear hxs
      go_wp2_with (at_builtin; refine wpList_append_own_at _ rfl _ _ 28 rfl (w.heap.size + 1) 3 i3 (.int .i64 0) 1 8 Tryz.underlying28 hi3 hz30 hz31 hz32 rfl (by decide) _ _ _ rfl (row_ext HROW.out ((Ext.refl _).alloc _)) _ 1 1 [.int .i64 (-1)] rfl rfl (row_new_at _ _ _ (by simp)) (fun u hu => by rw [List.mem_singleton.1 hu]; rfl) hc3 hc4 (hc5 _) ?_)
      intro v' w4 hown4 hgrow4 _ hat4
      obtain ⟨A4, c4, rfl⟩ := slice_of_row hown4
      have HROW4 := Lib.hid hown4
      have kb := put_keep2 HBLK.out HNE.out ((Ext.refl _).alloc _) hgrow4
      have HX4 := Lib.hid ((Ext.alloc hext _).grown hgrow4 (fun g hg => by have := (HROW.out.lt g hg).1; omega))
      have HNE4 := Lib.hid (row_ne hown4)
      obtain ⟨q0, q1, qfr, qlt⟩ := cells2 kb
      have qf1 := qfr 1
      have KB := Lib.hid kb
      clear hown4 hgrow4 hat4 kb d0 d1 dfr dlt hfz
      go_wp2_with fail
      go_roundw
      case rel => exact ⟨k + 1, by omega, by go_num, Lib.hid (sub_next KB.out HROW4.out HNE4.out HX4.out HXS.out)⟩
      case measure => simp [intOf]; omega
    · obtain rfl : l.length = k := by omega
      have HRUN := Lib.hid (rfin_any (bw := w.heap.size) (W0 := w) (A := A) (c := c) (vd := .slice Ad l.length cd) HW.out H.out.2 (by omega) (l.length - 1) (by omega))
      have HINV : Hid (RInv w.heap.size w wr A c l [] (List.replicate l.length (-1)) (.slice none 0 0) (.slice Ad l.length cd)) :=
        Lib.hid ⟨hext, HAT.out, HBLK.out, World.ownsRow_nil _ _ _ _, row_base HROW.out (Nat.le_succ _), ⟨by simp, fun i hi => .inl (by simp [hi])⟩, Nat.le_refl _, by simp⟩
      have hz : ((l.length - 1 : Nat) : Int) = (l.length : Int) - 1 := by omega
      rw [hz] at HRUN
      go_wp2_with fail
      refine (HRUN.out _ _ _ _ HINV.out (pot_nil l)).mono ?_
      rw [← hz, Int.toNat_natCast]
      rintro e w5 ⟨vo5, d5, rfl, hinv, hst⟩
      obtain ⟨q0, q1, qfr, qlt⟩ := cells2 hinv.blk
      have HS : Hid (shortN l = bif decide (200 < (finN l (l.length - 1) []).1.length) then [] else (finN l (l.length - 1) []).1) := Lib.hid rfl
      have HM := Lib.hid (show Made w w5 vo5 (finN l (l.length - 1) []).1 from ⟨hinv.row, hinv.oks, hinv.below⟩)
      obtain ⟨A6, c6, rfl⟩ := slice_of_row hinv.row
      clear hinv hst hz
      generalize (finN l (l.length - 1) []).1 = o at *
      by_cases hlong : 200 < o.length
      · have HR := Lib.hid (show shortN l = [] by rw [HS.out, decide_eq_true hlong]; rfl)
        go_wp2_with fail
        go_ret
        exact ⟨_, rfl, by rw [HR.out]; exact (Made.none_ _).after HM.out.2.2⟩
      · have HR := Lib.hid (show shortN l = o by rw [HS.out, decide_eq_false hlong]; rfl)
        go_wp2_with fail
        go_ret
        exact ⟨_, rfl, by rw [HR.out]; exact HM.out⟩

theorem box_grown {w W w4 : World} {b : Nat} {o : Obj} {v : Value} (hb : w.heap[b]? = some o) (hne : v.ownBlock ≠ some b) (he : Ext w W) (hg : W.grownBy w4 v.ownBlock) : w4.heap[b]? = some o :=
  ((hg.block b (Nat.lt_of_lt_of_le (lt_heap hb) he.size) (fun e => hne e.symm)).trans (he.block (lt_heap hb))).trans hb
set_option maxRecDepth 100000 in
set_option maxHeartbeats 4000000 in
theorem one_any (x : Nd) (w : World) (hx : headOk x) (hxo : x.ok) (h1 : hasX x.op = false) (h2 : hasY x.op = false) :
    Calls Tryz.prog 61 #[x.val] w fun e w' => ∃ u, e = .returned u ∧ Made w w' u [x] := by
  have HE := Lib.hid (build_zero h1 h2 hx).1
  have HXO := Lib.hid hxo
  obtain ⟨o, i, e, g, p, q⟩ := x
  unfold Nd.val
  clear hx hxo h1 h2
  go_enter Tryz.func61, Tryz.ntmps61
  go_wp2_with fail
  refine (refNode_any ⟨o, i, e, g, p, q⟩ _ _).mono ?_
  rintro e1 w1 ⟨rfl, hb⟩
  rw [HE.out]
  have HBX : Hid (w1.heap[w.heap.size]? = some (.cells #[.int .i64 o, .int .i64 i, .int .i64 e, .int .i64 g, .int .i64 p, .int .i64 q] 93 (0, 0))) := Lib.hid ((hb.block (by simp)).trans (heap_alloc_new _ _))
  have HX := Lib.hid (Ext.trans ((Ext.refl _).alloc _) hb)
  obtain ⟨⟨d0, d1, d2, d3, d4, d5⟩, dfr, dlt⟩ := cells6 HBX.out
  clear hb
  go_wp2_with fail
  go_ret
  exact ⟨_, rfl, ⟨by simp [Nd.cells], .inr ⟨w1.heap.size, 1, _, rfl, HX.out.size, heap_alloc_new _ _, Nat.le_refl _, by unfold maxLen; omega, by simp, by simp [Nd.cells]⟩⟩, by simpa using HXO.out, HX.out.alloc _⟩

set_option maxRecDepth 100000 in
set_option maxHeartbeats 4000000 in
theorem unary_any (x : Nd) (v : Value) (f : List Nd) (w : World) (hx : headOk x) (hxo : x.ok) (h1 : hasX x.op = true) (h2 : hasY x.op = false) (h : Fml w v f) :
    Calls Tryz.prog 66 #[x.val, v] w fun e w' => ∃ u, e = .returned u ∧ Made w w' u (buildN x [f]) := by
  have H := Lib.hid h
  obtain ⟨⟨A, c, rfl, hat⟩, hok⟩ := h
  have hcl := hat.1
  have hcm := hat.2.1
  unfold maxLen at hcm
  have HREAD := Lib.hid hat.2.2
  obtain ⟨i0, hi0, hz0', hz1', hz2'⟩ := info_parts tInfo
  clear hat hok
  by_cases hc : check f = 0
  · have HC := Lib.hid hc
    have HUN := Lib.hid (un_short hc h1 h2 hx (m := { x with x := (f.length : Int) - 1 }) rfl)
    obtain ⟨hp0, hl200, _⟩ := check_parts hc
    have HXO := Lib.hid hxo
    obtain ⟨o, i, e, g, p, q⟩ := x
    unfold Nd.val
    clear hc hx hxo h1 h2
    go_enter Tryz.func66, Tryz.ntmps66
    go_wp2_with fail
    refine (refCheck_any _ f _ (H.out.1.ext ((Ext.refl _).alloc _))).mono ?_
    rintro e1 w1 ⟨rfl, hb⟩
    rw [HC.out]
    have HX1 := Lib.hid (Ext.trans ((Ext.refl w).alloc _) hb)
    have HBX : Hid (w1.heap[w.heap.size]? = some (.cells #[.int .i64 o, .int .i64 i, .int .i64 e, .int .i64 g, .int .i64 p, .int .i64 q] 93 (0, 0))) := Lib.hid ((hb.block (by simp)).trans (heap_alloc_new _ _))
    obtain ⟨⟨d0, d1, d2, d3, d4, d5⟩, dfr, dlt⟩ := cells6 HBX.out
    have hfz := dfr 4
    clear hb
    go_wp2_with fail
    refine (refNode_any ⟨o, i, e, g, (f.length : Int) - 1, q⟩ _ _).mono ?_
    rintro e1 w2 ⟨rfl, hb⟩
    rw [HUN.out.1]
    have HX2 := Lib.hid (Ext.trans (HX1.out.setCell (p := ⟨w.heap.size, 4, none⟩) (Nat.le_refl _) (.int .i64 ((f.length : Int) - 1))) hb)
    have HBX2 : Hid (w2.heap[w.heap.size]? = some (.cells #[.int .i64 o, .int .i64 i, .int .i64 e, .int .i64 g, .int .i64 ((f.length : Int) - 1), .int .i64 q] 93 (0, 0))) := Lib.hid ((hb.block (by simp [World.setCell]; exact dlt)).trans (by simp only [World.setCell, Array.getElem?_modify, HBX.out, if_true, Option.map_some]; simp))
    clear hb d0 d1 d2 d3 d4 d5 dfr dlt hfz
    go_wp2_with fail
    go_loopw [5, 6] (fun v5 i5 wr => ∃ k : Nat, k ≤ f.length ∧ i5 = .int .i64 k ∧ Hid (wr.ownsRow (w.heap.size + 1) 93 6 v5 k ((f.take k).flatMap Nd.cells)) ∧ Hid (wr.heap[w.heap.size]? = some (.cells #[.int .i64 o, .int .i64 i, .int .i64 e, .int .i64 g, .int .i64 ((f.length : Int) - 1), .int .i64 q] 93 (0, 0))) ∧ Ext w wr) (fun _ i _ => f.length - (intOf i).toNat)
    case atStart => exact ⟨0, Nat.zero_le _, rfl, Lib.hid (by simpa using World.ownsRow_nil _ _ _ _), HBX2, HX2.out⟩
    case round =>
      obtain ⟨k, hk, rfl, HROW, HBK, hext⟩ := hrel
      obtain ⟨A5, c5, rfl⟩ := slice_of_row HROW.out
      have HNE := Lib.hid (row_ne HROW.out)
      by_cases hlt : k < f.length
      · obtain ⟨a, ha⟩ : ∃ a, f[k]? = some a := ⟨_, List.getElem?_eq_getElem hlt⟩
        obtain ⟨ad, rfl, hb1, hc1⟩ := HREAD.out (by intro e; rw [e] at hlt; simp at hlt)
        obtain ⟨a0, a1, a2, a3, a4, a5⟩ := (hc1 k a ha).keep fun p hp => hext.cell (p := p) (by rw [hp, block_of_add]; exact hb1)
        obtain ⟨xs, hxs⟩ : ∃ xs, xs = (f.take k).flatMap Nd.cells := ⟨_, rfl⟩
        rw [← hxs] at HROW
        have HXS := Lib.hid hxs
        have HTK : Hid (xs ++ a.cells = (f.take (k + 1)).flatMap Nd.cells) := Lib.hid (by rw [hxs, take_succ_eq ha, List.flatMap_append]; simp)
        have hc3 : k + 1 ≤ maxLen := by unfold maxLen; omega
        have hc4 : (k + 1) * 48 ≤ 140737488355328 := by omega
        have hc5 : ∀ X, w.heap.size + 1 ≤ (wr.alloc X).heap.size := fun X => by have := hext.size; simp; omega
        clear hxs hc1 ha
        go_wp2_with (at_builtin; refine wpList_append_own_at _ rfl _ _ 22 rfl (w.heap.size + 1) 93 i0 Nd.zero.val 6 48 Tryz.underlying22 hi0 hz0' hz1' hz2' rfl (by decide) _ _ _ rfl (row_ext HROW.out ((Ext.refl _).alloc _)) _ 1 1 a.cells rfl rfl (row_new_at _ _ _ rfl) (node_cells a) hc3 hc4 (hc5 _) ?_)
        intro v' w4 hown4 hgrow4 _ hat4
        obtain ⟨A4, c4, rfl⟩ := slice_of_row hown4
        have HROW4 : Hid (w4.ownsRow (w.heap.size + 1) 93 6 (.slice A4 (k + 1) c4) (k + 1) ((f.take (k + 1)).flatMap Nd.cells)) := Lib.hid (by rw [← HTK.out]; exact hown4)
        have HBK4 := Lib.hid (box_grown HBK.out HNE.out ((Ext.refl _).alloc _) hgrow4)
        have HX4 := Lib.hid ((Ext.alloc hext _).grown hgrow4 (fun g hg => by have := (HROW.out.lt g hg).1; omega))
        clear hown4 hgrow4 hat4
        go_wp2_with fail
        go_roundw
        case rel => exact ⟨k + 1, by omega, by go_num, HROW4, HBK4, HX4.out⟩
        case measure => simp [intOf]; omega
      · obtain rfl : f.length = k := by omega
        obtain ⟨⟨d0, d1, d2, d3, d4, d5⟩, dfr, dlt⟩ := cells6 HBK.out
        rw [List.take_of_length_le (Nat.le_refl _)] at HROW
        obtain ⟨xs, hxs⟩ : ∃ xs, xs = f.flatMap Nd.cells := ⟨_, rfl⟩
        rw [← hxs] at HROW
        have HXS := Lib.hid hxs
        have hc3 : f.length + 1 ≤ maxLen := by unfold maxLen; omega
        have hc4 : (f.length + 1) * 48 ≤ 140737488355328 := by omega
        have hc5 : ∀ X, w.heap.size + 1 ≤ (wr.alloc X).heap.size := fun X => by have := hext.size; simp; omega
        obtain ⟨m, hm⟩ : ∃ m : Nd, m = ⟨o, i, e, g, (f.length : Int) - 1, q⟩ := ⟨_, rfl⟩
        have HMX := Lib.hid (show m.cells = [.int .i64 o, .int .i64 i, .int .i64 e, .int .i64 g, .int .i64 ((f.length : Int) - 1), .int .i64 q] by rw [hm]; rfl)
        have HMO : Hid (m.ok) := Lib.hid (by obtain ⟨x1, x2, x3, x4, x5, x6⟩ := HXO.out; rw [hm]; exact ⟨x1, x2, x3, x4, ⟨by show (-9223372036854775808 : Int) ≤ (f.length : Int) - 1; omega, by show (f.length : Int) - 1 ≤ 9223372036854775807; omega⟩, x6⟩)
        have HU : Hid (nodeErr m f.length = 0 ∧ Wf (f ++ [m]) ∧ shortN (f ++ [m]) = buildN ⟨o, i, e, g, p, q⟩ [f]) := Lib.hid (by rw [hm]; exact HUN.out)
        clear hxs hm HUN
        go_wp2_with (at_builtin; refine wpList_append_own_at _ rfl _ _ 22 rfl (w.heap.size + 1) 93 i0 Nd.zero.val 6 48 Tryz.underlying22 hi0 hz0' hz1' hz2' rfl (by decide) _ _ _ rfl (row_ext HROW.out ((Ext.refl _).alloc _)) _ 1 1 [.int .i64 o, .int .i64 i, .int .i64 e, .int .i64 g, .int .i64 ((f.length : Int) - 1), .int .i64 q] rfl rfl (row_new_at _ _ _ rfl) (by rw [← HMX.out]; exact node_cells m) hc3 hc4 (hc5 _) ?_)
        intro v' w4 hown4 hgrow4 _ hat4
        have HROW4 : Hid (w4.ownsRow (w.heap.size + 1) 93 6 v' (f ++ [m]).length ((f ++ [m]).flatMap Nd.cells)) := Lib.hid (by rw [HXS.out, ← HMX.out] at hown4; simpa using hown4)
        have HX4 := Lib.hid ((Ext.alloc hext _).grown hgrow4 (fun g hg => by have := (HROW.out.lt g hg).1; omega))
        obtain ⟨A4, c4, rfl⟩ := slice_of_row hown4
        have HFM : Hid (Fml w4 (.slice A4 (f.length + 1) c4) (f ++ [m])) := Lib.hid ⟨nds_of_row HROW4.out, fun n hn => by
          rcases List.mem_append.1 hn with hn | hn
          · exact H.out.2 n hn
          · rw [List.mem_singleton.1 hn]; exact HMO.out⟩
        clear hown4 hgrow4 hat4
        go_wp2_with fail
        refine (short_any _ (f ++ [m]) _ HFM.out HU.out.2.1 (by simp) (by simp; omega)).mono ?_
        rintro e1 w5 ⟨u5, rfl, hm5⟩
        rw [HU.out.2.2] at hm5
        have HM5 := Lib.hid (hm5.before HX4.out)
        obtain ⟨A8, c8, rfl⟩ := slice_of_row hm5.1
        clear hm5
        go_wp2_with fail
        go_ret
        exact ⟨_, rfl, HM5.out⟩
  · have HB0 := Lib.hid (build_bad1 (n := x) hc)
    have hcb : (check f != 0) = true := by simpa using hc
    obtain ⟨o, i, e, g, p, q⟩ := x
    unfold Nd.val
    clear hc hx hxo h1 h2
    go_enter Tryz.func66, Tryz.ntmps66
    go_wp2_with fail
    refine (refCheck_any _ f _ (H.out.1.ext ((Ext.refl _).alloc _))).mono ?_
    rintro e1 w1 ⟨rfl, hb⟩
    have HX1 := Lib.hid (Ext.trans ((Ext.refl w).alloc _) hb)
    clear hb
    go_wp2_with fail
    go_ret
    exact ⟨_, rfl, by rw [HB0.out]; exact (Made.none_ _).after HX1.out⟩
end Go.Proofs.YtbfeodammikajaaGreat

/- The reference's constructor of a node with two operands. -/

namespace Go.Proofs.YtbfeodammikajaaGreat
open Go.RowKit

set_option maxRecDepth 100000 in
set_option maxHeartbeats 8000000 in
theorem binary_any (x : Nd) (v1 v2 : Value) (f g : List Nd) (w : World) (hx : headOk x) (hxo : x.ok) (h1 : hasX x.op = true) (h2 : hasY x.op = true) (hf : Fml w v1 f) (hg : Fml w v2 g) :
    Calls Tryz.prog 67 #[x.val, v1, v2] w fun e w' => ∃ u, e = .returned u ∧ Made w w' u (buildN x [f, g]) := by
  have H := Lib.hid hf
  have HG := Lib.hid hg
  obtain ⟨⟨A, c, rfl, hat⟩, hok⟩ := hf
  obtain ⟨⟨A2, c2, rfl, hat2⟩, hok2⟩ := hg
  have hcl := hat.1
  have hcm := hat.2.1
  have hcl2 := hat2.1
  have hcm2 := hat2.2.1
  unfold maxLen at hcm hcm2
  have HREAD := Lib.hid hat.2.2
  have HREAD2 := Lib.hid hat2.2.2
  obtain ⟨i0, hi0, hz0', hz1', hz2'⟩ := info_parts tInfo
  clear hat hok hat2 hok2
  by_cases hc : check f = 0
  · by_cases hcg : check g = 0
    · have HC := Lib.hid hc
      have HCG := Lib.hid hcg
      have HUN := Lib.hid (bin_short hc hcg h1 h2 hx (m := { x with x := (f.length : Int) - 1, y := (f.length : Int) + g.length - 1 }) rfl)
      obtain ⟨hp0, hl200, _⟩ := check_parts hc
      obtain ⟨hq0, hm200, _⟩ := check_parts hcg
      have HWG := Lib.hid (check_wf hcg)
      have HXO := Lib.hid hxo
      obtain ⟨o, i, e, k0, p, q⟩ := x
      unfold Nd.val
      clear hc hcg hx hxo h1 h2
      go_enter Tryz.func67, Tryz.ntmps67
      go_wp2_with fail
      refine (refCheck_any _ f _ (H.out.1.ext ((Ext.refl _).alloc _))).mono ?_
      rintro e1 w1 ⟨rfl, hb⟩
      rw [HC.out]
      have HX1 := Lib.hid (Ext.trans ((Ext.refl w).alloc _) hb)
      have HBX : Hid (w1.heap[w.heap.size]? = some (.cells #[.int .i64 o, .int .i64 i, .int .i64 e, .int .i64 k0, .int .i64 p, .int .i64 q] 93 (0, 0))) := Lib.hid ((hb.block (by simp)).trans (heap_alloc_new _ _))
      clear hb
      go_wp2_with fail
      refine (refCheck_any _ g _ (HG.out.1.ext HX1.out)).mono ?_
      rintro e1 w2 ⟨rfl, hb⟩
      rw [HCG.out]
      have HX2 := Lib.hid (Ext.trans HX1.out hb)
      have HBX2 : Hid (w2.heap[w.heap.size]? = some (.cells #[.int .i64 o, .int .i64 i, .int .i64 e, .int .i64 k0, .int .i64 p, .int .i64 q] 93 (0, 0))) := Lib.hid ((hb.block (lt_heap HBX.out)).trans HBX.out)
      clear hb
      go_wp2_with fail
      go_loopw [7, 8] (fun v5 i5 wr => ∃ k : Nat, k ≤ f.length ∧ i5 = .int .i64 k ∧ Hid (wr.ownsRow (w.heap.size + 1) 93 6 v5 k ((f.take k).flatMap Nd.cells)) ∧ Hid (wr.heap[w.heap.size]? = some (.cells #[.int .i64 o, .int .i64 i, .int .i64 e, .int .i64 k0, .int .i64 p, .int .i64 q] 93 (0, 0))) ∧ Ext w wr) (fun _ i _ => f.length - (intOf i).toNat)
      case atStart => exact ⟨0, Nat.zero_le _, rfl, Lib.hid (by simpa using World.ownsRow_nil _ _ _ _), HBX2, HX2.out⟩
      case round =>
        obtain ⟨k, hk, rfl, HROW, HBK, hext⟩ := hrel
        obtain ⟨A5, c5, rfl⟩ := slice_of_row HROW.out
        have HNE := Lib.hid (row_ne HROW.out)
        by_cases hlt : k < f.length
        · obtain ⟨a, ha⟩ : ∃ a, f[k]? = some a := ⟨_, List.getElem?_eq_getElem hlt⟩
          obtain ⟨ad, rfl, hb1, hc1⟩ := HREAD.out (by intro e; rw [e] at hlt; simp at hlt)
          obtain ⟨a0, a1, a2, a3, a4, a5⟩ := (hc1 k a ha).keep fun p hp => hext.cell (p := p) (by rw [hp, block_of_add]; exact hb1)
          obtain ⟨xs, hxs⟩ : ∃ xs, xs = (f.take k).flatMap Nd.cells := ⟨_, rfl⟩
          rw [← hxs] at HROW
          have HTK : Hid (xs ++ a.cells = (f.take (k + 1)).flatMap Nd.cells) := Lib.hid (by rw [hxs, take_succ_eq ha, List.flatMap_append]; simp)
          have hc3 : k + 1 ≤ maxLen := by unfold maxLen; omega
          have hc4 : (k + 1) * 48 ≤ 140737488355328 := by omega
          have hc5 : ∀ X, w.heap.size + 1 ≤ (wr.alloc X).heap.size := fun X => by have := hext.size; simp; omega
          clear hxs hc1 ha
          go_wp2_with (at_builtin; refine wpList_append_own_at _ rfl _ _ 22 rfl (w.heap.size + 1) 93 i0 Nd.zero.val 6 48 Tryz.underlying22 hi0 hz0' hz1' hz2' rfl (by decide) _ _ _ rfl (row_ext HROW.out ((Ext.refl _).alloc _)) _ 1 1 a.cells rfl rfl (row_new_at _ _ _ rfl) (node_cells a) hc3 hc4 (hc5 _) ?_)
          intro v' w4 hown4 hgrow4 _ hat4
          obtain ⟨A4, c4, rfl⟩ := slice_of_row hown4
          have HROW4 : Hid (w4.ownsRow (w.heap.size + 1) 93 6 (.slice A4 (k + 1) c4) (k + 1) ((f.take (k + 1)).flatMap Nd.cells)) := Lib.hid (by rw [← HTK.out]; exact hown4)
          have HBK4 := Lib.hid (box_grown HBK.out HNE.out ((Ext.refl _).alloc _) hgrow4)
          have HX4 := Lib.hid ((Ext.alloc hext _).grown hgrow4 (fun g hg => by have := (HROW.out.lt g hg).1; omega))
          clear hown4 hgrow4 hat4
          go_wp2_with fail
          go_roundw
          case rel => exact ⟨k + 1, by omega, by go_num, HROW4, HBK4, HX4.out⟩
          case measure => simp [intOf]; omega
        · obtain rfl : f.length = k := by omega
          rw [List.take_of_length_le (Nat.le_refl _)] at HROW
          have HRW0 : Hid (wr.ownsRow (w.heap.size + 1) 93 6 (.slice A5 f.length c5) (f.length + 0) ((f ++ (g.take 0).map (shiftN f.length)).flatMap Nd.cells)) := Lib.hid (by simpa using HROW.out)
          have HEXT := Lib.hid hext
          clear HROW HNE hext
          obtain ⟨wq, hwq⟩ : ∃ wq : World, wq = wr := ⟨_, rfl⟩
          rw [← hwq] at HRW0 HBK HEXT ⊢
          clear hwq
          go_wp2_with fail
          go_loopw [7, 9] (fun v5 i5 wr => ∃ j : Nat, j ≤ g.length ∧ i5 = .int .i64 j ∧ Hid (wr.ownsRow (w.heap.size + 1) 93 6 v5 (f.length + j) ((f ++ (g.take j).map (shiftN f.length)).flatMap Nd.cells)) ∧ Hid (wr.heap[w.heap.size]? = some (.cells #[.int .i64 o, .int .i64 i, .int .i64 e, .int .i64 k0, .int .i64 p, .int .i64 q] 93 (0, 0))) ∧ Ext w wr) (fun _ i _ => g.length - (intOf i).toNat)
          case atStart => exact ⟨0, Nat.zero_le _, rfl, HRW0, HBK, HEXT.out⟩
          case round =>
            obtain ⟨j, hj, rfl, HROW2, HBK2, hext⟩ := hrel
            obtain ⟨A6, c6, rfl⟩ := slice_of_row HROW2.out
            have HNE := Lib.hid (row_ne HROW2.out)
            by_cases hlt2 : j < g.length
            · obtain ⟨a, ha⟩ : ∃ a, g[j]? = some a := ⟨_, List.getElem?_eq_getElem hlt2⟩
              obtain ⟨adc, rfl, hbc, hcc2⟩ := HREAD2.out (by intro e; rw [e] at hlt2; simp at hlt2)
              obtain ⟨a0, a1, a2, a3, a4, a5⟩ := (hcc2 j a ha).keep fun p hp => hext.cell (p := p) (by rw [hp, block_of_add]; exact hbc)
              obtain ⟨xs, hxs⟩ : ∃ xs, xs = (f ++ (g.take j).map (shiftN f.length)).flatMap Nd.cells := ⟨_, rfl⟩
              rw [← hxs] at HROW2
              have HXS := Lib.hid hxs
              clear hxs
              have hxy := HWG.out j a ha
              have HTK := Lib.hid (take_succ_eq ha)
              have hc3 : f.length + j + 1 ≤ maxLen := by unfold maxLen; omega
              have hc4 : (f.length + j + 1) * 48 ≤ 140737488355328 := by omega
              have hxb : hasX a.op = true → 0 ≤ a.x ∧ a.x < 200 := fun e => by have := hxy.1 e; omega
              have hyb : hasY a.op = true → 0 ≤ a.y ∧ a.y < 200 := fun e => by have := hxy.2 e; omega
              have HZ := Lib.hid hext.size
              clear hcc2 hxy ha
              rcases xy_cases a.op with ⟨hux, huy⟩ | ⟨hux, huy⟩ | ⟨hux, huy⟩
              · -- no operands
                have HUX := Lib.hid hux; have HUY := Lib.hid huy
                have HN2 : Hid (xs ++ [.int .i64 a.op, .int .i64 a.i, .int .i64 a.e, .int .i64 a.g, .int .i64 (a.x), .int .i64 (a.y)] = (f ++ (g.take (j + 1)).map (shiftN f.length)).flatMap Nd.cells) :=
                  Lib.hid (by rw [HXS.out, HTK.out, List.map_append, ← List.append_assoc, List.flatMap_append]; simp [shiftN, hux, huy, Nd.cells])
                clear hux huy hxb hyb
                go_wp2_with (first | (go_at_call 89; refine (usesX_as HUX.out _).mono ?_; rintro e1 w5 ⟨rfl, rfl⟩) | (go_at_call 90; refine (usesY_as HUY.out _).mono ?_; rintro e1 w5 ⟨rfl, rfl⟩) | (at_builtin; refine wpList_append_own_at _ rfl _ _ 22 rfl (w.heap.size + 1) 93 i0 Nd.zero.val 6 48 Tryz.underlying22 hi0 hz0' hz1' hz2' rfl (by decide) _ _ _ rfl (row_ext HROW2.out ?hx) _ 1 1 [.int .i64 a.op, .int .i64 a.i, .int .i64 a.e, .int .i64 a.g, .int .i64 (a.x), .int .i64 (a.y)] rfl rfl ?c1 ?c2 hc3 hc4 ?c5 ?_))
                case hx => repeat (first | exact Ext.refl _ | apply Ext.alloc | apply Ext.drew | refine Ext.setCell ?_ (Nat.le_refl _) _)
                case c1 => exact row_new_at _ _ _ (by simp)
                case c2 =>
                  intro u hu
                  simp only [List.mem_cons, List.mem_nil_iff, or_false] at hu
                  rcases hu with rfl | rfl | rfl | rfl | rfl | rfl <;> rfl
                case c5 =>
                  have h1 := HZ.out
                  simp
                  omega
                intro v' w4 hown4 hgrow4 _ hat4
                obtain ⟨A4, c4, rfl⟩ := slice_of_row hown4
                have HROW4 : Hid (w4.ownsRow (w.heap.size + 1) 93 6 (.slice A4 (f.length + j + 1) c4) (f.length + (j + 1)) ((f ++ (g.take (j + 1)).map (shiftN f.length)).flatMap Nd.cells)) := Lib.hid (by rw [← HN2.out]; exact hown4)
                have HBK4 := Lib.hid (box_grown HBK2.out HNE.out (by repeat (first | exact Ext.refl _ | apply Ext.alloc | apply Ext.drew | refine Ext.setCell ?_ (Nat.le_refl _) _)) hgrow4)
                have HX4 := Lib.hid (Ext.grown (a := w) (by repeat (first | exact hext | apply Ext.alloc | apply Ext.drew | refine Ext.setCell ?_ HZ.out _)) hgrow4 (fun g hg => by have := (HROW2.out.lt g hg).1; omega))
                clear hown4 hgrow4 hat4
                go_wp2_with fail
                go_roundw
                case rel => exact ⟨j + 1, by omega, by go_num, HROW4, HBK4, HX4.out⟩
                case measure => simp [intOf]; omega
              · -- one operand
                obtain ⟨bx0, bx1⟩ := hxb hux
                have HUX := Lib.hid hux; have HUY := Lib.hid huy
                have HN2 : Hid (xs ++ [.int .i64 a.op, .int .i64 a.i, .int .i64 a.e, .int .i64 a.g, .int .i64 (a.x + (f.length : Int)), .int .i64 (a.y)] = (f ++ (g.take (j + 1)).map (shiftN f.length)).flatMap Nd.cells) :=
                  Lib.hid (by rw [HXS.out, HTK.out, List.map_append, ← List.append_assoc, List.flatMap_append]; simp [shiftN, hux, huy, Nd.cells])
                clear hux huy hxb hyb
                go_wp2_with (first | (go_at_call 89; refine (usesX_as HUX.out _).mono ?_; rintro e1 w5 ⟨rfl, rfl⟩) | (go_at_call 90; refine (usesY_as HUY.out _).mono ?_; rintro e1 w5 ⟨rfl, rfl⟩) | (at_builtin; refine wpList_append_own_at _ rfl _ _ 22 rfl (w.heap.size + 1) 93 i0 Nd.zero.val 6 48 Tryz.underlying22 hi0 hz0' hz1' hz2' rfl (by decide) _ _ _ rfl (row_ext HROW2.out ?hx) _ 1 1 [.int .i64 a.op, .int .i64 a.i, .int .i64 a.e, .int .i64 a.g, .int .i64 (a.x + (f.length : Int)), .int .i64 (a.y)] rfl rfl ?c1 ?c2 hc3 hc4 ?c5 ?_))
                case hx => repeat (first | exact Ext.refl _ | apply Ext.alloc | apply Ext.drew | refine Ext.setCell ?_ (Nat.le_refl _) _)
                case c1 => exact row_new_at _ _ _ (by simp)
                case c2 =>
                  intro u hu
                  simp only [List.mem_cons, List.mem_nil_iff, or_false] at hu
                  rcases hu with rfl | rfl | rfl | rfl | rfl | rfl <;> rfl
                case c5 =>
                  have h1 := HZ.out
                  simp
                  omega
                intro v' w4 hown4 hgrow4 _ hat4
                obtain ⟨A4, c4, rfl⟩ := slice_of_row hown4
                have HROW4 : Hid (w4.ownsRow (w.heap.size + 1) 93 6 (.slice A4 (f.length + j + 1) c4) (f.length + (j + 1)) ((f ++ (g.take (j + 1)).map (shiftN f.length)).flatMap Nd.cells)) := Lib.hid (by rw [← HN2.out]; exact hown4)
                have HBK4 := Lib.hid (box_grown HBK2.out HNE.out (by repeat (first | exact Ext.refl _ | apply Ext.alloc | apply Ext.drew | refine Ext.setCell ?_ (Nat.le_refl _) _)) hgrow4)
                have HX4 := Lib.hid (Ext.grown (a := w) (by repeat (first | exact hext | apply Ext.alloc | apply Ext.drew | refine Ext.setCell ?_ HZ.out _)) hgrow4 (fun g hg => by have := (HROW2.out.lt g hg).1; omega))
                clear hown4 hgrow4 hat4
                go_wp2_with fail
                go_roundw
                case rel => exact ⟨j + 1, by omega, by go_num, HROW4, HBK4, HX4.out⟩
                case measure => simp [intOf]; omega
              · -- two operands
                obtain ⟨bx0, bx1⟩ := hxb hux
                obtain ⟨by0, by1⟩ := hyb huy
                have HUX := Lib.hid hux; have HUY := Lib.hid huy
                have HN2 : Hid (xs ++ [.int .i64 a.op, .int .i64 a.i, .int .i64 a.e, .int .i64 a.g, .int .i64 (a.x + (f.length : Int)), .int .i64 (a.y + (f.length : Int))] = (f ++ (g.take (j + 1)).map (shiftN f.length)).flatMap Nd.cells) :=
                  Lib.hid (by rw [HXS.out, HTK.out, List.map_append, ← List.append_assoc, List.flatMap_append]; simp [shiftN, hux, huy, Nd.cells])
                clear hux huy hxb hyb
                go_wp2_with (first | (go_at_call 89; refine (usesX_as HUX.out _).mono ?_; rintro e1 w5 ⟨rfl, rfl⟩) | (go_at_call 90; refine (usesY_as HUY.out _).mono ?_; rintro e1 w5 ⟨rfl, rfl⟩) | (at_builtin; refine wpList_append_own_at _ rfl _ _ 22 rfl (w.heap.size + 1) 93 i0 Nd.zero.val 6 48 Tryz.underlying22 hi0 hz0' hz1' hz2' rfl (by decide) _ _ _ rfl (row_ext HROW2.out ?hx) _ 1 1 [.int .i64 a.op, .int .i64 a.i, .int .i64 a.e, .int .i64 a.g, .int .i64 (a.x + (f.length : Int)), .int .i64 (a.y + (f.length : Int))] rfl rfl ?c1 ?c2 hc3 hc4 ?c5 ?_))
                case hx => repeat (first | exact Ext.refl _ | apply Ext.alloc | apply Ext.drew | refine Ext.setCell ?_ (Nat.le_refl _) _)
                case c1 => exact row_new_at _ _ _ (by simp)
                case c2 =>
                  intro u hu
                  simp only [List.mem_cons, List.mem_nil_iff, or_false] at hu
                  rcases hu with rfl | rfl | rfl | rfl | rfl | rfl <;> rfl
                case c5 =>
                  have h1 := HZ.out
                  simp
                  omega
                intro v' w4 hown4 hgrow4 _ hat4
                obtain ⟨A4, c4, rfl⟩ := slice_of_row hown4
                have HROW4 : Hid (w4.ownsRow (w.heap.size + 1) 93 6 (.slice A4 (f.length + j + 1) c4) (f.length + (j + 1)) ((f ++ (g.take (j + 1)).map (shiftN f.length)).flatMap Nd.cells)) := Lib.hid (by rw [← HN2.out]; exact hown4)
                have HBK4 := Lib.hid (box_grown HBK2.out HNE.out (by repeat (first | exact Ext.refl _ | apply Ext.alloc | apply Ext.drew | refine Ext.setCell ?_ (Nat.le_refl _) _)) hgrow4)
                have HX4 := Lib.hid (Ext.grown (a := w) (by repeat (first | exact hext | apply Ext.alloc | apply Ext.drew | refine Ext.setCell ?_ HZ.out _)) hgrow4 (fun g hg => by have := (HROW2.out.lt g hg).1; omega))
                clear hown4 hgrow4 hat4
                go_wp2_with fail
                go_roundw
                case rel => exact ⟨j + 1, by omega, by go_num, HROW4, HBK4, HX4.out⟩
                case measure => simp [intOf]; omega
            · obtain rfl : g.length = j := by omega
              rw [List.take_of_length_le (Nat.le_refl _)] at HROW2
              obtain ⟨⟨d0, d1, d2, d3, d4, d5⟩, dfr, dlt⟩ := cells6 HBK2.out
              have hfz4 := dfr 4
              have hfz5 := dfr 5
              obtain ⟨F, hF⟩ : ∃ F, F = f ++ g.map (shiftN f.length) := ⟨_, rfl⟩
              have HFL : Hid (F.length = f.length + g.length) := Lib.hid (by rw [hF]; simp)
              obtain ⟨m, hm⟩ : ∃ m : Nd, m = ⟨o, i, e, k0, (f.length : Int) - 1, (f.length : Int) + g.length - 1⟩ := ⟨_, rfl⟩
              have HMX := Lib.hid (show m.cells = [.int .i64 o, .int .i64 i, .int .i64 e, .int .i64 k0, .int .i64 ((f.length : Int) - 1), .int .i64 ((f.length : Int) + g.length - 1)] by rw [hm]; rfl)
              have HMO : Hid (m.ok) := Lib.hid (by obtain ⟨x1, x2, x3, x4, x5, x6⟩ := HXO.out; rw [hm]; exact ⟨x1, x2, x3, x4, ⟨by show (-9223372036854775808 : Int) ≤ (f.length : Int) - 1; omega, by show (f.length : Int) - 1 ≤ 9223372036854775807; omega⟩, ⟨by show (-9223372036854775808 : Int) ≤ (f.length : Int) + g.length - 1; omega, by show (f.length : Int) + g.length - 1 ≤ 9223372036854775807; omega⟩⟩)
              have HOKF : Hid (∀ n ∈ F, n.ok) := Lib.hid (fun n hn => by
                rw [hF] at hn
                rcases List.mem_append.1 hn with hn | hn
                · exact H.out.2 n hn
                · obtain ⟨n', hn', rfl⟩ := List.mem_map.1 hn
                  obtain ⟨kk, hkk⟩ := List.getElem?_of_mem hn'
                  obtain ⟨x1, x2, x3, x4, x5, x6⟩ := HG.out.2 n' hn'
                  have hlk := (List.getElem?_eq_some_iff.1 hkk).1
                  have hxy := HWG.out kk n' hkk
                  refine ⟨x1, x2, x3, x4, ?_, ?_⟩
                  · show i64ok (bif hasX n'.op then n'.x + f.length else n'.x)
                    cases hh : hasX n'.op
                    · exact x5
                    · have := hxy.1 hh
                      exact ⟨by show (-9223372036854775808 : Int) ≤ n'.x + f.length; omega, by show n'.x + f.length ≤ (9223372036854775807 : Int); omega⟩
                  · show i64ok (bif hasY n'.op then n'.y + f.length else n'.y)
                    cases hh : hasY n'.op
                    · exact x6
                    · have := hxy.2 hh
                      exact ⟨by show (-9223372036854775808 : Int) ≤ n'.y + f.length; omega, by show n'.y + f.length ≤ (9223372036854775807 : Int); omega⟩)
              have HU : Hid (nodeErr m ((f.length : Int) + g.length) = 0 ∧ Wf (F ++ [m]) ∧ shortN (F ++ [m]) = buildN ⟨o, i, e, k0, p, q⟩ [f, g]) := Lib.hid (by rw [hm, hF]; exact HUN.out)
              rw [← hF] at HROW2
              obtain ⟨xs, hxs⟩ : ∃ xs, xs = F.flatMap Nd.cells := ⟨_, rfl⟩
              rw [← hxs] at HROW2
              have HXS := Lib.hid hxs
              have HN0 := Lib.hid HUN.out.1
              clear hxs hm hF HUN
              have hc3 : f.length + g.length + 1 ≤ maxLen := by unfold maxLen; omega
              have hc4 : (f.length + g.length + 1) * 48 ≤ 140737488355328 := by omega
              go_wp2_with fail
              refine (refNode_any ⟨o, i, e, k0, (f.length : Int) - 1, (f.length : Int) + g.length - 1⟩ _ _).mono ?_
              rintro e1 w3 ⟨rfl, hb⟩
              rw [HN0.out]
              have HX3 := Lib.hid (Ext.trans (Ext.setCell (Ext.setCell hext (p := ⟨w.heap.size, 4, none⟩) (Nat.le_refl _) (.int .i64 ((f.length : Int) - 1))) (p := ⟨w.heap.size, 5, none⟩) (Nat.le_refl _) (.int .i64 ((f.length : Int) + g.length - 1))) hb)
              have HBX3 : Hid (w3.heap[w.heap.size]? = some (.cells #[.int .i64 o, .int .i64 i, .int .i64 e, .int .i64 k0, .int .i64 ((f.length : Int) - 1), .int .i64 ((f.length : Int) + g.length - 1)] 93 (0, 0))) := Lib.hid ((hb.block (by simp [World.setCell]; exact dlt)).trans (by simp only [World.setCell, Array.getElem?_modify, HBK2.out, if_true, Option.map_some]; simp))
              have HROW3 := Lib.hid (row_ext (ownsRow_setCell_other (a := ⟨w.heap.size, 5, none⟩) (ownsRow_setCell_other (a := ⟨w.heap.size, 4, none⟩) HROW2.out HNE.out (.int .i64 ((f.length : Int) - 1))) HNE.out (.int .i64 ((f.length : Int) + g.length - 1))) hb)
              have hc5 : ∀ X, w.heap.size + 1 ≤ (w3.alloc X).heap.size := fun X => by have := HX3.out.size; simp; omega
              clear hb d0 d1 d2 d3 d4 d5 dfr dlt hfz4 hfz5
              obtain ⟨⟨d0, d1, d2, d3, d4, d5⟩, dfr, dlt⟩ := cells6 HBX3.out
              go_wp2_with (at_builtin; refine wpList_append_own_at _ rfl _ _ 22 rfl (w.heap.size + 1) 93 i0 Nd.zero.val 6 48 Tryz.underlying22 hi0 hz0' hz1' hz2' rfl (by decide) _ _ _ rfl (row_ext HROW3.out ((Ext.refl _).alloc _)) _ 1 1 [.int .i64 o, .int .i64 i, .int .i64 e, .int .i64 k0, .int .i64 ((f.length : Int) - 1), .int .i64 ((f.length : Int) + g.length - 1)] rfl rfl (row_new_at _ _ _ rfl) (by rw [← HMX.out]; exact node_cells m) hc3 hc4 (hc5 _) ?_)
              intro v' w4 hown4 hgrow4 _ hat4
              have HROW4 : Hid (w4.ownsRow (w.heap.size + 1) 93 6 v' (F ++ [m]).length ((F ++ [m]).flatMap Nd.cells)) := Lib.hid (by rw [HXS.out, ← HMX.out, ← HFL.out] at hown4; simpa using hown4)
              have HX4 := Lib.hid ((Ext.alloc HX3.out _).grown hgrow4 (fun g hg => by have := (HROW3.out.lt g hg).1; omega))
              obtain ⟨A4, c4, rfl⟩ := slice_of_row hown4
              have HFM : Hid (Fml w4 (.slice A4 (f.length + g.length + 1) c4) (F ++ [m])) := Lib.hid ⟨nds_of_row HROW4.out, fun n hn => by
                rcases List.mem_append.1 hn with hn | hn
                · exact HOKF.out n hn
                · rw [List.mem_singleton.1 hn]; exact HMO.out⟩
              clear hown4 hgrow4 hat4
              go_wp2_with fail
              refine (short_any _ (F ++ [m]) _ HFM.out HU.out.2.1 (by simp) (by have := HFL.out; simp; omega)).mono ?_
              rintro e1 w5 ⟨u5, rfl, hm5⟩
              rw [HU.out.2.2] at hm5
              have HM5 := Lib.hid (hm5.before HX4.out)
              obtain ⟨A8, c8, rfl⟩ := slice_of_row hm5.1
              clear hm5
              go_wp2_with fail
              go_ret
              exact ⟨_, rfl, HM5.out⟩
    · have HC := Lib.hid hc
      have HB0 := Lib.hid (build_bad2 (n := x) (f := f) (.inr hcg))
      have hcb : (check g != 0) = true := by simpa using hcg
      obtain ⟨o, i, e, k0, p, q⟩ := x
      unfold Nd.val
      clear hc hcg hx hxo h1 h2
      go_enter Tryz.func67, Tryz.ntmps67
      go_wp2_with fail
      refine (refCheck_any _ f _ (H.out.1.ext ((Ext.refl _).alloc _))).mono ?_
      rintro e1 w1 ⟨rfl, hb⟩
      rw [HC.out]
      have HX1 := Lib.hid (Ext.trans ((Ext.refl w).alloc _) hb)
      clear hb
      go_wp2_with fail
      refine (refCheck_any _ g _ (HG.out.1.ext HX1.out)).mono ?_
      rintro e1 w2 ⟨rfl, hb⟩
      have HX2 := Lib.hid (Ext.trans HX1.out hb)
      clear hb
      go_wp2_with fail
      go_ret
      exact ⟨_, rfl, by rw [HB0.out]; exact (Made.none_ _).after HX2.out⟩
  · have HB0 := Lib.hid (build_bad2 (n := x) (g := g) (.inl hc))
    have hcb : (check f != 0) = true := by simpa using hc
    obtain ⟨o, i, e, k0, p, q⟩ := x
    unfold Nd.val
    clear hc hx hxo h1 h2
    go_enter Tryz.func67, Tryz.ntmps67
    go_wp2_with fail
    refine (refCheck_any _ f _ (H.out.1.ext ((Ext.refl _).alloc _))).mono ?_
    rintro e1 w1 ⟨rfl, hb⟩
    have HX1 := Lib.hid (Ext.trans ((Ext.refl w).alloc _) hb)
    clear hb
    go_wp2_with fail
    go_ret
    exact ⟨_, rfl, by rw [HB0.out]; exact (Made.none_ _).after HX1.out⟩
end Go.Proofs.YtbfeodammikajaaGreat

/- The reference's constructors by name; a node with other operands. -/

namespace Go.Proofs.YtbfeodammikajaaGreat
open Go.RowKit

theorem okn (k i g : Int) (h0 : 0 ≤ k) (h1 : k ≤ 1000) (hi : i64ok i) (hg : i64ok g) : (⟨k, i, 0, g, 0, 0⟩ : Nd).ok := small_ok (i64_small h0 h1) hi (i64_small (by omega) (by omega)) hg (i64_small (by omega) (by omega)) (i64_small (by omega) (by omega))
theorem ok_z : i64ok 0 := i64_small (by omega) (by omega)
set_option maxHeartbeats 400000 in
theorem rTrue_any (w : World) :
    Calls Tryz.prog 28 #[] w fun e w' => ∃ u, e = .returned u ∧ Made w w' u (trueN) := by
  go_enter Tryz.func28, Tryz.ntmps28
  go_wp2_with fail
  refine (one_any ⟨1, 0, 0, 0, 0, 0⟩ _ (head0 1 (by omega)) (okn 1 0 0 (by omega) (by omega) ok_z ok_z) rfl rfl).mono ?_
  rintro e w1 ⟨u, rfl, hm⟩
  rw [← true_list] at hm
  have HM := Lib.hid hm
  clear hm
  go_wp2_with fail
  go_ret
  exact ⟨_, rfl, HM.out⟩
set_option maxHeartbeats 400000 in
theorem rFact_any (a : Int) (ha : i64ok a) (hh : headOk ⟨3, a, 0, 0, 0, 0⟩) (w : World) :
    Calls Tryz.prog 22 #[.int .i64 a] w fun e w' => ∃ u, e = .returned u ∧ Made w w' u (factN a) := by
  have HH := Lib.hid hh
  have HA := Lib.hid ha
  clear hh ha
  go_enter Tryz.func22, Tryz.ntmps22
  go_wp2_with fail
  refine (one_any ⟨3, a, 0, 0, 0, 0⟩ _ HH.out (okn 3 a 0 (by omega) (by omega) HA.out ok_z) rfl rfl).mono ?_
  rintro e w1 ⟨u, rfl, hm⟩
  rw [show [(⟨3, a, 0, 0, 0, 0⟩ : Nd)] = factN a from ((build_zero (n := ⟨3, a, 0, 0, 0, 0⟩) rfl rfl HH.out).2).symm] at hm
  have HM := Lib.hid hm
  clear hm
  go_wp2_with fail
  go_ret
  exact ⟨_, rfl, HM.out⟩
set_option maxHeartbeats 400000 in
theorem rNot_any (v : Value) (f : List Nd) (w : World) (h : Fml w v f) :
    Calls Tryz.prog 26 #[v] w fun e w' => ∃ u, e = .returned u ∧ Made w w' u (notN f) := by
  have H := Lib.hid h
  obtain ⟨A1, c1, rfl, _⟩ := fml_slice h
  clear h
  go_enter Tryz.func26, Tryz.ntmps26
  go_wp2_with fail
  refine (unary_any ⟨4, 0, 0, 0, 0, 0⟩ _ f _ (head0 4 (by omega)) (okn 4 0 0 (by omega) (by omega) ok_z ok_z) rfl rfl H.out).mono ?_
  rintro e w1 ⟨u, rfl, hm⟩
  have HM := Lib.hid hm
  clear hm
  go_wp2_with fail
  go_ret
  exact ⟨_, rfl, HM.out⟩
set_option maxHeartbeats 400000 in
theorem rKnow_any (a : Int) (ha : i64ok a) (hh : headOk ⟨9, a, 0, 0, 0, 0⟩) (v : Value) (f : List Nd) (w : World) (h : Fml w v f) :
    Calls Tryz.prog 24 #[.int .i64 a, v] w fun e w' => ∃ u, e = .returned u ∧ Made w w' u (knowN a f) := by
  have H := Lib.hid h
  have HH := Lib.hid hh
  have HA := Lib.hid ha
  clear hh ha
  obtain ⟨A1, c1, rfl, _⟩ := fml_slice h
  clear h
  go_enter Tryz.func24, Tryz.ntmps24
  go_wp2_with fail
  refine (unary_any ⟨9, a, 0, 0, 0, 0⟩ _ f _ HH.out (okn 9 a 0 (by omega) (by omega) HA.out ok_z) rfl rfl H.out).mono ?_
  rintro e w1 ⟨u, rfl, hm⟩
  have HM := Lib.hid hm
  clear hm
  go_wp2_with fail
  go_ret
  exact ⟨_, rfl, HM.out⟩
set_option maxHeartbeats 400000 in
theorem rAnd_any (v1 v2 : Value) (f g : List Nd) (w : World) (h1 : Fml w v1 f) (h2 : Fml w v2 g) :
    Calls Tryz.prog 25 #[v1, v2] w fun e w' => ∃ u, e = .returned u ∧ Made w w' u (andN f g) := by
  have H1 := Lib.hid h1
  have H2 := Lib.hid h2
  obtain ⟨A1, c1, rfl, _⟩ := fml_slice h1
  obtain ⟨A2, c2, rfl, _⟩ := fml_slice h2
  clear h1 h2
  go_enter Tryz.func25, Tryz.ntmps25
  go_wp2_with fail
  refine (binary_any ⟨5, 0, 0, 0, 0, 0⟩ _ _ f g _ (head0 5 (by omega)) (okn 5 0 0 (by omega) (by omega) ok_z ok_z) rfl rfl H1.out H2.out).mono ?_
  rintro e w1 ⟨u, rfl, hm⟩
  have HM := Lib.hid hm
  clear hm
  go_wp2_with fail
  go_ret
  exact ⟨_, rfl, HM.out⟩
set_option maxHeartbeats 400000 in
theorem rImp_any (v1 v2 : Value) (f g : List Nd) (w : World) (h1 : Fml w v1 f) (h2 : Fml w v2 g) :
    Calls Tryz.prog 108 #[v1, v2] w fun e w' => ∃ u, e = .returned u ∧ Made w w' u (impN f g) := by
  have H1 := Lib.hid h1
  have H2 := Lib.hid h2
  obtain ⟨A1, c1, rfl, _⟩ := fml_slice h1
  obtain ⟨A2, c2, rfl, _⟩ := fml_slice h2
  clear h1 h2
  go_enter Tryz.func108, Tryz.ntmps108
  go_wp2_with fail
  refine (binary_any ⟨7, 0, 0, 0, 0, 0⟩ _ _ f g _ (head_78 7 (by omega)) (okn 7 0 0 (by omega) (by omega) ok_z ok_z) rfl rfl H1.out H2.out).mono ?_
  rintro e w1 ⟨u, rfl, hm⟩
  have HM := Lib.hid hm
  clear hm
  go_wp2_with fail
  go_ret
  exact ⟨_, rfl, HM.out⟩
set_option maxHeartbeats 400000 in
theorem rCommon_any (a : Int) (ha : i64ok a) (hh : headOk ⟨13, 0, 0, a, 0, 0⟩) (v1 v2 : Value) (f g : List Nd) (w : World) (h1 : Fml w v1 f) (h2 : Fml w v2 g) :
    Calls Tryz.prog 27 #[.int .i64 a, v1, v2] w fun e w' => ∃ u, e = .returned u ∧ Made w w' u (commonN a f g) := by
  have H1 := Lib.hid h1
  have H2 := Lib.hid h2
  have HH := Lib.hid hh
  have HA := Lib.hid ha
  clear hh ha
  obtain ⟨A1, c1, rfl, _⟩ := fml_slice h1
  obtain ⟨A2, c2, rfl, _⟩ := fml_slice h2
  clear h1 h2
  go_enter Tryz.func27, Tryz.ntmps27
  go_wp2_with fail
  refine (binary_any ⟨13, 0, 0, a, 0, 0⟩ _ _ f g _ HH.out (okn 13 0 a (by omega) (by omega) ok_z HA.out) rfl rfl H1.out H2.out).mono ?_
  rintro e w1 ⟨u, rfl, hm⟩
  have HM := Lib.hid hm
  clear hm
  go_wp2_with fail
  go_ret
  exact ⟨_, rfl, HM.out⟩
set_option maxRecDepth 100000 in
set_option maxHeartbeats 2000000 in
theorem rebuild_any (x : Nd) (v1 v2 : Value) (f g : List Nd) (w : World) (hx : headOk x) (hxo : x.ok) (h1 : Fml w v1 f) (h2 : Fml w v2 g) :
    Calls Tryz.prog 106 #[x.val, v1, v2] w fun e w' => ∃ u, e = .returned u ∧ Made w w' u (rebuildN x f g) := by
  have H1 := Lib.hid h1
  have H2 := Lib.hid h2
  obtain ⟨A1, c1, rfl, _⟩ := fml_slice h1
  obtain ⟨A2, c2, rfl, _⟩ := fml_slice h2
  have HX := Lib.hid (head_zero hx)
  have HXO : Hid (({ x with x := 0, y := 0 } : Nd).ok) := Lib.hid (by obtain ⟨x1, x2, x3, x4, x5, x6⟩ := hxo; exact ⟨x1, x2, x3, x4, i64_small (a := 0) (by omega) (by omega), i64_small (a := 0) (by omega) (by omega)⟩)
  have HCS := Lib.hid (xy_cases x.op)
  clear h1 h2 hx hxo
  obtain ⟨o, i, e, k0, p, q⟩ := x
  unfold Nd.val
  have X0 : Hid (Ext w (w.alloc (.cells #[.int .i64 o, .int .i64 i, .int .i64 e, .int .i64 k0, .int .i64 0, .int .i64 0] 93))) := Lib.hid ((Ext.refl _).alloc _)
  rcases HCS.out with ⟨hux, huy⟩ | ⟨hux, huy⟩ | ⟨hux, huy⟩
  · have HUX := Lib.hid hux; have HUY := Lib.hid huy
    have HE : Hid (rebuildN ⟨o, i, e, k0, p, q⟩ f g = [⟨o, i, e, k0, 0, 0⟩]) := Lib.hid (by unfold rebuildN; simp only [hux, huy]; rfl)
    clear hux huy HCS
    go_enter Tryz.func106, Tryz.ntmps106
    go_wp2_with (first | (go_at_call 89; refine (usesX_as HUX.out _).mono ?_; rintro e1 w5 ⟨rfl, rfl⟩) | (go_at_call 90; refine (usesY_as HUY.out _).mono ?_; rintro e1 w5 ⟨rfl, rfl⟩))
    refine (one_any ⟨o, i, e, k0, 0, 0⟩ _ HX.out HXO.out HUX.out HUY.out).mono ?_
    rintro e1 w1 ⟨u, rfl, hm⟩
    have HM := Lib.hid (hm.before X0.out)
    clear hm
    go_wp2_with fail
    go_ret
    rw [HE.out]
    exact ⟨_, rfl, HM.out⟩
  · have HUX := Lib.hid hux; have HUY := Lib.hid huy
    have HE : Hid (rebuildN ⟨o, i, e, k0, p, q⟩ f g = buildN ⟨o, i, e, k0, 0, 0⟩ [f]) := Lib.hid (by unfold rebuildN; simp only [hux, huy]; rfl)
    clear hux huy HCS
    go_enter Tryz.func106, Tryz.ntmps106
    go_wp2_with (first | (go_at_call 89; refine (usesX_as HUX.out _).mono ?_; rintro e1 w5 ⟨rfl, rfl⟩) | (go_at_call 90; refine (usesY_as HUY.out _).mono ?_; rintro e1 w5 ⟨rfl, rfl⟩))
    refine (unary_any ⟨o, i, e, k0, 0, 0⟩ _ f _ HX.out HXO.out HUX.out HUY.out (H1.out.ext X0.out)).mono ?_
    rintro e1 w1 ⟨u, rfl, hm⟩
    have HM := Lib.hid (hm.before X0.out)
    clear hm
    go_wp2_with fail
    go_ret
    rw [HE.out]
    exact ⟨_, rfl, HM.out⟩
  · have HUX := Lib.hid hux; have HUY := Lib.hid huy
    have HE : Hid (rebuildN ⟨o, i, e, k0, p, q⟩ f g = buildN ⟨o, i, e, k0, 0, 0⟩ [f, g]) := Lib.hid (by unfold rebuildN; simp only [hux, huy]; rfl)
    clear hux huy HCS
    go_enter Tryz.func106, Tryz.ntmps106
    go_wp2_with (first | (go_at_call 89; refine (usesX_as HUX.out _).mono ?_; rintro e1 w5 ⟨rfl, rfl⟩) | (go_at_call 90; refine (usesY_as HUY.out _).mono ?_; rintro e1 w5 ⟨rfl, rfl⟩))
    refine (binary_any ⟨o, i, e, k0, 0, 0⟩ _ _ f g _ HX.out HXO.out HUX.out HUY.out (H1.out.ext X0.out) (H2.out.ext X0.out)).mono ?_
    rintro e1 w1 ⟨u, rfl, hm⟩
    have HM := Lib.hid (hm.before X0.out)
    clear hm
    go_wp2_with fail
    go_ret
    rw [HE.out]
    exact ⟨_, rfl, HM.out⟩
end Go.Proofs.YtbfeodammikajaaGreat

/- The reference of types: what its base is made by. -/

namespace Go.Proofs.YtbfeodammikajaaGreat
open Go.RowKit

theorem shr_mod_two (s k : Nat) : (((s : Int) / 2 ^ k).tmod 2 == 1) = s.testBit k := by
  rw [shr_nat, testBit_int]
  generalize s / 2 ^ k = r
  rw [show ((r : Nat) : Int).tmod 2 = ((r % 2 : Nat) : Int) from rfl, Bool.eq_iff_iff, beq_iff_eq, beq_iff_eq]
  omega
theorem addr_same (ad : Addr) : ad.add 0 = ad := by unfold Addr.add; rfl
set_option maxRecDepth 100000 in
set_option maxHeartbeats 4000000 in
theorem refAll_any (v : Value) (l : List (List Nd)) (w : World) (h : Fmls w v l) (hl1 : l.length ≤ 1000) :
    Calls Tryz.prog 152 #[v] w fun e w' => ∃ u, e = .returned u ∧ Made w w' u (allN l) := by
  have H := Lib.hid h
  obtain ⟨A, c, rfl, hcap, hmax, hr⟩ := h
  have HR := Lib.hid hr
  clear hr
  cases l with
  | nil =>
    go_enter Tryz.func152, Tryz.ntmps152
    go_wp2_with fail
    refine (rTrue_any _).mono ?_
    rintro e w1 ⟨u, rfl, hm⟩
    have HM := Lib.hid hm
    clear hm
    go_wp2_with fail
    go_ret
    exact ⟨_, rfl, HM.out⟩
  | cons f r =>
    obtain ⟨ad, rfl, hb1, hc1⟩ := HR.out (by simp)
    obtain ⟨u0, hu0, hf0⟩ := hc1 0 f rfl
    have HC := Lib.hid hc1
    have HF0 := Lib.hid hf0
    have hu0' : w.cell? ad = some u0 := by rw [← hu0, addr_same]
    have HX0 := hf0
    obtain ⟨A0, c0, rfl, _⟩ := fml_slice hf0
    clear hc1 hf0 HR H hu0
    obtain ⟨m, hm⟩ : ∃ m, m = r.length := ⟨_, rfl⟩
    rw [show (f :: r).length = m + 1 by simp [hm]] at hcap hl1 ⊢
    have HM := Lib.hid hm
    have hl0 : (((m + 1 : Nat) : Int) == 0) = false := by rw [beq_eq_false_iff_ne]; omega
    have hl4 : (((m : Nat) : Int) + 1 == 0) = false := by rw [beq_eq_false_iff_ne]; omega
    have hl2 : (0 : Int) < ((m + 1 : Nat) : Int) := by omega
    clear hm HX0
    go_enter Tryz.func152, Tryz.ntmps152
    go_wp2_with fail
    refine (refCompact_any _ f _ HF0.out).mono ?_
    rintro e w1 ⟨u, rfl, hm⟩
    have HM1 := Lib.hid hm
    clear hm
    go_wp2_with fail
    go_loopw [3, 4] (fun vf vi wr => ∃ k : Nat, k ≤ m ∧ vi = .int .i64 ((k : Int) + 1) ∧ Hid (Made w wr vf ((r.take k).foldl andN (compactN f)))) (fun _ i _ => m + 1 - (intOf i).toNat)
    case atStart => exact ⟨0, Nat.zero_le _, rfl, HM1⟩
    case round =>
      obtain ⟨k, hk, rfl, HREL⟩ := hrel
      have HX := Lib.hid HREL.out.ext
      have HF := Lib.hid HREL.out.fml
      obtain ⟨Af, cf, rfl, _⟩ := fml_slice HREL.out.fml
      by_cases hlt2 : k < m
      · obtain ⟨s, hs⟩ : ∃ s, r[k]? = some s := ⟨_, List.getElem?_eq_getElem (by rw [← HM.out]; exact hlt2)⟩
        obtain ⟨us, hus, hfs⟩ := HC.out (k + 1) s (drop_get hs)
        rw [show ad.add (k + 1) = ⟨ad.block, ad.off + (k + 1), none⟩ by simp [Addr.add]] at hus
        have a0 := (HX.out.cell (p := ⟨ad.block, ad.off + (k + 1), none⟩) hb1).trans hus
        have HFS := Lib.hid (hfs.ext HX.out)
        have HS := Lib.hid hs
        have hk1 : ((k : Int) + 1) < ((m + 1 : Nat) : Int) := by omega
        have hk2 : ((k : Int) + 1) < (m : Int) + 1 := by omega
        have hk3 : ((k : Int) + 1).toNat = k + 1 := by omega
        have hk4 : (0 : Int) ≤ (k : Int) + 1 := by omega
        obtain ⟨As, cs, rfl, _⟩ := fml_slice hfs
        clear hs hfs hus
        go_wp2_with fail
        refine (rAnd_any _ _ _ _ _ HF.out HFS.out).mono ?_
        rintro e w2 ⟨u2, rfl, hm2⟩
        have HM2 := Lib.hid hm2
        clear hm2
        go_wp2_with fail
        go_roundw
        case rel => exact ⟨k + 1, by omega, by go_num, Lib.hid (by rw [fold_step HS.out]; exact HM2.out.before HX.out)⟩
        case measure => simp [intOf]; omega
      · obtain rfl : m = k := by omega
        have HE := Lib.hid (show r.take m = r by rw [HM.out]; exact List.take_of_length_le (Nat.le_refl _))
        go_wp2_with fail
        go_ret
        refine ⟨.slice Af ((r.take m).foldl andN (compactN f)).length cf, rfl, ?_⟩
        have := HREL.out
        rw [HE.out] at this ⊢
        exact this
theorem headg_know {q : Nat} (hq : q < 4) : headOk ⟨9, (q : Int), 0, 0, 0, 0⟩ := head_9 (by omega) (by omega)
set_option maxRecDepth 100000 in
set_option maxHeartbeats 8000000 in
theorem everybody_any (gn : Nat) (v : Value) (f : List Nd) (w : World) (h : Fml w v f) :
    Calls Tryz.prog 107 #[.int .i64 (gn : Int), v] w fun e w' => ∃ u, e = .returned u ∧ Made w w' u (allN (everyL (gn : Int) f)) := by
  have H := Lib.hid h
  obtain ⟨iI, hiI, hzI0, hzI1, hzI2⟩ := info_parts tInfoF2
  obtain ⟨A, c, rfl, _⟩ := fml_slice h
  clear h
  go_enter Tryz.func107, Tryz.ntmps107
  go_wp2_with fail
  go_loopw [5, 6] (fun vo vi wr => ∃ q : Nat, vi = .int .i64 (q : Int) ∧ q ≤ 4 ∧ Hid (∃ ol, ol = ((List.range q).filter fun i => gbit (gn : Int) i).map (fun (i : Nat) => knowN (i : Int) f) ∧ FRow w wr vo ol)) (fun _ v _ => 4 - (intOf v).toNat)
  case atStart => exact ⟨0, rfl, Nat.zero_le _, Lib.hid ⟨[], rfl, FRow.nil _⟩⟩
  case round =>
    obtain ⟨q, rfl, hq, HREL⟩ := hrel
    obtain ⟨ol, hol', hfr⟩ := HREL.out
    obtain ⟨us2, hrow2, hus2⟩ := hfr.row
    obtain ⟨Ao2, co2, rfl⟩ := slice_of_row hrow2
    have HOL := Lib.hid hol'
    have HFR2 := Lib.hid hfr
    have HROW2 := Lib.hid hrow2
    have HUS2 := Lib.hid hus2
    have holen : ol.length ≤ 4 := by rw [hol']; refine Nat.le_trans (by rw [List.length_map]; exact List.length_filter_le _ _) (by simp; omega)
    clear HREL hol' hfr hrow2 hus2
    by_cases hq4 : q < 4
    · have hq1 : (q : Int) < 4 := by omega
      have hbt := shr_mod_two gn q
      cases hgb : gn.testBit q
      case true =>
        rw [hgb] at hbt
        have HGB := Lib.hid (show ((List.range (q + 1)).filter fun i => gbit (gn : Int) i).map (fun (i : Nat) => knowN (i : Int) f) = ol ++ [knowN (q : Int) f] by rw [List.range_succ, List.filter_append, List.map_append, ← HOL.out, List.filter_cons, show gbit (gn : Int) q = true from hgb]; rfl)
        clear hgb
        go_wp2_with fail
        refine (rKnow_any (q : Int) ⟨by omega, by omega⟩ (headg_know hq4) _ f _ (H.out.ext HFR2.out.ext)).mono ?_
        rintro e w2 ⟨u, rfl, hm⟩
        have HM := Lib.hid hm
        have Y1 := Lib.hid hm.ext
        obtain ⟨Au, cu, rfl, _⟩ := fml_slice hm.fml
        clear hm
        have hc3 : ol.length + 1 ≤ maxLen := by unfold maxLen; omega
        have hc4 : (ol.length + 1) * 24 ≤ 140737488355328 := by omega
        go_wp2_with (at_builtin; refine wpList_append_own_at _ rfl _ _ 49 rfl w.heap.size 22 iI (.slice none 0 0) 1 24 Tryz.underlying49 hiI hzI0 hzI1 hzI2 rfl (by decide) _ ol.length us2 rfl (row_ext HROW2.out (Y1.out.alloc _)) ⟨_, 0, none⟩ 1 1 [.slice Au (knowN (q : Int) f).length cu] rfl rfl (row_new_at _ _ _ (by simp)) (fun u hu => by rw [List.mem_singleton.1 hu]; rfl) hc3 hc4 (Nat.le_trans HFR2.out.ext.size (Y1.out.alloc _).size) ?_)
        intro v7 w7 hown7 hgrow7 _ hat7
        have HPS := Lib.hid (FRow.push (s := knowN (q : Int) f) ((HFR2.out.ext.trans Y1.out).alloc _) (row_ext HROW2.out (Y1.out.alloc _)) (fun k s hk => by
          obtain ⟨u, a, b, c⟩ := HUS2.out k s hk
          exact ⟨u, a, b.ext (Y1.out.alloc _), c.ext (Y1.out.alloc _)⟩) hown7 hgrow7 (hat7.imp id (fun e => e.trans (by simp))) (HM.out.fml.ext ((Ext.refl _).alloc _)) (made_away (Nat.le_refl _) (row_ext HM.out.1 ((Ext.refl _).alloc _)) HROW2.out HFR2.out.ext.size))
        obtain ⟨A7, c7, rfl⟩ := slice_of_row hown7
        clear hown7 hgrow7 hat7
        go_wp2_with fail
        go_roundw
        case rel => exact ⟨q + 1, by go_num, by omega, Lib.hid ⟨_, HGB.out.symm, HPS.out⟩⟩
        case measure => simp [intOf]; omega
      case false =>
        rw [hgb] at hbt
        have HGB := Lib.hid (show ((List.range (q + 1)).filter fun i => gbit (gn : Int) i).map (fun (i : Nat) => knowN (i : Int) f) = ol by rw [List.range_succ, List.filter_append, List.map_append, ← HOL.out, List.filter_cons, show gbit (gn : Int) q = false from hgb]; exact List.append_nil _)
        clear hgb
        go_wp2_with fail
        go_roundw
        case rel => exact ⟨q + 1, by go_num, by omega, Lib.hid ⟨_, HGB.out.symm, HFR2.out⟩⟩
        case measure => simp [intOf]; omega
    · obtain rfl : q = 4 := by omega
      have HOE := Lib.hid (show everyL (gn : Int) f = ol from HOL.out.symm)
      go_wp2_with fail
      refine (refAll_any _ ol _ HFR2.out.fmls (by omega)).mono ?_
      rintro e w3 ⟨u3, rfl, hm3⟩
      have HM3 := Lib.hid hm3
      clear hm3
      go_wp2_with fail
      go_ret
      exact ⟨_, rfl, by rw [HOE.out]; exact HM3.out.before HFR2.out.ext⟩
/-- Every operator is of the language. -/
def langOk (f : List Nd) : Bool := (compactN f).all fun n => !(decide (11 < n.op) && n.op != 13)
theorem all_take {l : List Nd} {p : Nd → Bool} {k : Nat} {n : Nd} (hn : l[k]? = some n) (h : ∀ x ∈ l.take k, p x = true) (hp : p n = true) : ∀ x ∈ l.take (k + 1), p x = true := by
  obtain ⟨hk, e⟩ := List.getElem?_eq_some_iff.1 hn
  rw [List.take_succ_eq_append_getElem hk, e]
  intro x hx
  rcases List.mem_append.1 hx with hx | hx
  · exact h x hx
  · rw [List.mem_singleton.1 hx]; exact hp
set_option maxRecDepth 100000 in
set_option maxHeartbeats 4000000 in
theorem language_any (v : Value) (f : List Nd) (w : World) (h : Fml w v f) (hc : check f = 0) :
    Calls Tryz.prog 55 #[v] w fun e w' => e = .returned (.bool (langOk f)) ∧ Ext w w' := by
  have H := Lib.hid h
  obtain ⟨A, c, rfl, _⟩ := fml_slice h
  have hlen : (compactN f).length ≤ 200 := Nat.le_trans (compactN_props hc).2.1 (check_parts hc).2.1
  obtain ⟨cf, hcf⟩ : ∃ c, c = compactN f := ⟨_, rfl⟩
  have HCF := Lib.hid hcf
  have HL := Lib.hid (show langOk f = cf.all fun n => !(decide (11 < n.op) && n.op != 13) by rw [hcf]; rfl)
  rw [← hcf] at hlen
  clear h hcf hc
  go_enter Tryz.func55, Tryz.ntmps55
  go_wp2_with fail
  refine (refCompact_any _ f _ H.out).mono ?_
  rintro e w1 ⟨u, rfl, hm⟩
  rw [← HCF.out] at hm
  have HM := Lib.hid hm
  obtain ⟨A1, c1, rfl, hat⟩ := fml_slice hm.fml
  have HAT := Lib.hid hat
  clear hm hat
  go_wp2_with fail
  go_loopw [8] (fun vi wr => ∃ k : Nat, vi = .int .i64 (k : Int) ∧ k ≤ cf.length ∧ Hid (Ext w1 wr ∧ ∀ n ∈ cf.take k, (!(decide (11 < n.op) && n.op != 13)) = true)) (fun v _ => cf.length - (intOf v).toNat)
  case atStart => exact ⟨0, rfl, Nat.zero_le _, Lib.hid ⟨Ext.refl _, by simp⟩⟩
  case round =>
    obtain ⟨k, rfl, hk, HREL⟩ := hrel
    by_cases hlt2 : k < cf.length
    · have hk1 : (k : Int) < (cf.length : Int) := by omega
      obtain ⟨n, hn⟩ : ∃ n, cf[k]? = some n := ⟨_, List.getElem?_eq_getElem hlt2⟩
      obtain ⟨ad, rfl, hblk, hcells⟩ := HAT.out.2.2 (by intro e; rw [e] at hlt2; simp at hlt2)
      obtain ⟨a0, a1, a2, a3, a4, a5⟩ := (hcells k n hn).keep fun p hp => HREL.out.1.cell (p := p) (by rw [hp, block_of_add]; exact hblk)
      have HN := Lib.hid hn
      clear hn hcells
      by_cases ho : 11 < n.op
      · by_cases h13 : n.op = 13
        · have hd : (n.op != 13) = false := by simp [h13]
          have HP := Lib.hid (all_take HN.out HREL.out.2 (by rw [hd, Bool.and_false]; rfl))
          clear h13
          go_wp2_with fail
          go_roundw
          case rel => exact ⟨k + 1, by go_num, by omega, Lib.hid ⟨HREL.out.1.alloc _, HP.out⟩⟩
          case measure => simp [intOf]; omega
        · have hd : (n.op != 13) = true := by simpa using h13
          have HP := Lib.hid (show langOk f = false by
            rw [HL.out, List.all_eq_false]
            exact ⟨n, List.mem_of_getElem? HN.out, by rw [hd, decide_eq_true ho]; decide⟩)
          clear h13
          go_wp2_with fail
          go_ret
          exact ⟨by rw [HP.out] <;> rfl, HM.out.ext.trans (HREL.out.1.alloc _)⟩
      · have HP := Lib.hid (all_take HN.out HREL.out.2 (by rw [decide_eq_false ho]; rfl))
        go_wp2_with fail
        go_roundw
        case rel => exact ⟨k + 1, by go_num, by omega, Lib.hid ⟨HREL.out.1.alloc _, HP.out⟩⟩
        case measure => simp [intOf]; omega
    · obtain rfl : cf.length = k := by omega
      have HP := Lib.hid (show langOk f = true by
        have h1 := HREL.out.2
        rw [List.take_of_length_le (Nat.le_refl _)] at h1
        rw [HL.out, List.all_eq_true]; exact h1)
      go_wp2_with fail
      go_ret
      exact ⟨by rw [HP.out] <;> rfl, HM.out.ext.trans HREL.out.1⟩
set_option maxRecDepth 100000 in
set_option maxHeartbeats 4000000 in
theorem refIndex_any (v gv : Value) (l : List (List Nd)) (g : List Nd) (w : World) (hl : Fmls w v l) (hg : Fml w gv g) :
    Calls Tryz.prog 60 #[v, gv] w fun e w' => e = .returned (.int .i64 (placeN l g)) ∧ Ext w w' := by
  obtain ⟨A, c, rfl, hcap, hmax, hr⟩ := hl
  unfold maxLen at hmax
  have HR := Lib.hid hr
  have HG := Lib.hid hg
  obtain ⟨A2, c2, rfl, _⟩ := fml_slice hg
  clear hr hg
  go_enter Tryz.func60, Tryz.ntmps60
  go_wp2_with fail
  go_loopw [9] (fun i wr => ∃ k : Nat, k ≤ l.length ∧ i = .int .i64 (k : Int) ∧ Hid (∀ t ∈ l.take k, decide (t = g) = false) ∧ Hid (Ext w wr)) (fun i _ => l.length - (intOf i).toNat)
  case atStart => exact ⟨0, Nat.zero_le _, rfl, Lib.hid (by simp), Lib.hid (Ext.refl _)⟩
  case round =>
    obtain ⟨k, hk, rfl, HNI, HX⟩ := hrel
    by_cases hlt2 : k < l.length
    · obtain ⟨s, hs⟩ : ∃ s, l[k]? = some s := ⟨_, List.getElem?_eq_getElem hlt2⟩
      obtain ⟨ad, rfl, hb1, hc1⟩ := HR.out (by intro e; rw [e] at hlt2; simp at hlt2)
      obtain ⟨u, hu, hf⟩ := hc1 k s hs
      have a0 := (HX.out.cell (p := ad.add k) (by rw [block_of_add]; exact hb1)).trans hu
      have HF := Lib.hid (hf.ext HX.out)
      have HA := Lib.hid hs
      have hk1 : (k : Int) < (l.length : Int) := by omega
      obtain ⟨Au, cu, rfl, _⟩ := fml_slice hf
      clear hs hc1 hf hu
      have HEQ := Lib.hid (show decide (s = g) = decide (g = s) by rw [decide_eq_decide]; exact eq_comm)
      cases hps : decide (g = s)
      · have HT : Hid (∀ t ∈ l.take (k + 1), decide (t = g) = false) := Lib.hid (by
          rw [take_succ_eq HA.out]
          intro t ht
          rcases List.mem_append.1 ht with ht | ht
          · exact HNI.out t ht
          · rw [List.mem_singleton.1 ht, HEQ.out]; exact hps)
        have HPS := Lib.hid hps
        clear hps
        go_wp2_with fail
        refine (refEqual_any _ _ g s _ (HG.out.ext HX.out).1 HF.out.1).mono ?_
        rintro e w1 ⟨rfl, hx⟩
        rw [HPS.out]
        have HX1 := Lib.hid (HX.out.trans hx)
        clear hx
        go_wp2_with fail
        go_roundw
        case rel => exact ⟨k + 1, by omega, by go_num, HT, HX1⟩
        case measure => simp [intOf]; omega
      · have HE := Lib.hid (show placeN l g = (k : Int) by unfold placeN; rw [findIdx_hit (fun s => decide (s = g)) l k s HA.out (by rw [HEQ.out]; exact hps) HNI.out])
        have HPS := Lib.hid hps
        clear hps
        go_wp2_with fail
        refine (refEqual_any _ _ g s _ (HG.out.ext HX.out).1 HF.out.1).mono ?_
        rintro e w1 ⟨rfl, hx⟩
        rw [HPS.out]
        have HX1 := Lib.hid (HX.out.trans hx)
        clear hx
        go_wp2_with fail
        go_ret
        exact ⟨by rw [HE.out] <;> rfl, HX1.out⟩
    · obtain rfl : l.length = k := by omega
      have HE := Lib.hid (show placeN l g = -1 by
        unfold placeN
        rw [findIdx_miss (fun s => decide (s = g)) l (fun t ht => HNI.out t (by rw [List.take_of_length_le (Nat.le_refl _)]; exact ht))])
      go_wp2_with fail
      go_ret
      exact ⟨by rw [HE.out] <;> rfl, HX.out⟩
end Go.Proofs.YtbfeodammikajaaGreat

/- The reference of types: top, unfold, Subs, SameLists. -/

namespace Go.Proofs.YtbfeodammikajaaGreat
open Go.RowKit

theorem range6 {w : World} {b : Nat} {a0 a1 a2 a3 a4 a5 : Value} {t : TypeId} (h : w.heap[b]? = some (.cells #[a0, a1, a2, a3, a4, a5] t (0, 0))) : w.rangeAt b 0 [a0, a1, a2, a3, a4, a5] := range_of h
set_option maxRecDepth 100000 in
set_option maxHeartbeats 4000000 in
theorem rtop_any (v : Value) (f : List Nd) (w : World) (h : Fml w v f) (h0 : 0 < f.length) :
    Calls Tryz.prog 58 #[v] w fun e w' => e = .returned (lastN f).val ∧ Ext w w' := by
  obtain ⟨⟨A, c, rfl, hcap, hmax, hread⟩, hok⟩ := h
  have hlt : f.length - 1 < f.length := by omega
  have hget := lastN_get h0
  obtain ⟨ad, rfl, hblk, hcells⟩ := hread (by intro e; rw [e] at h0; simp at h0)
  have HR := hcells _ _ hget
  obtain ⟨c0, c1, c2, c3, c4, c5⟩ := HR
  have hi1 : ((f.length : Int) - 1) < (f.length : Int) := by omega
  have hi0 : (0 : Int) ≤ (f.length : Int) - 1 := by omega
  have e1 : ((f.length : Int) - 1).toNat = f.length - 1 := by omega
  have i2 : ((f.length : Int) == 0) = false := beq_eq_false_iff_ne.2 (by omega)
  have hw : wrap64 ((f.length : Int) - 1) = (f.length : Int) - 1 := by
    unfold maxLen at hmax
    unfold wrap64
    omega
  have HA := Lib.hid (show Ext w (w.alloc (.cells #[.int .i64 0, .int .i64 0, .int .i64 0, .int .i64 0, .int .i64 0, .int .i64 0] 93)) from (Ext.refl _).alloc _)
  have d0 := (HA.out.cell (by rw [block_of_add]; exact hblk)).trans c0
  have d1 := (HA.out.cell (by show (ad.add _).block < _; rw [block_of_add]; exact hblk)).trans c1
  have d2 := (HA.out.cell (by show (ad.add _).block < _; rw [block_of_add]; exact hblk)).trans c2
  have d3 := (HA.out.cell (by show (ad.add _).block < _; rw [block_of_add]; exact hblk)).trans c3
  have d4 := (HA.out.cell (by show (ad.add _).block < _; rw [block_of_add]; exact hblk)).trans c4
  have d5 := (HA.out.cell (by show (ad.add _).block < _; rw [block_of_add]; exact hblk)).trans c5
  clear hread hok hcells hget c0 c1 c2 c3 c4 c5 hlt
  go_enter Tryz.func58, Tryz.ntmps58
  go_wp2_with fail
  (try simp only [Exit.inBlock, Exit.then])
  refine bodyPost_ret (results_cell Tryz.results58 _ _ rfl (range6 (heap_alloc_new _ _)) Tryz.underlying93 rfl (by kernel_rfl)) rfl ?_
  exact ⟨rfl, (Ext.refl _).alloc _⟩
set_option maxRecDepth 100000 in
set_option maxHeartbeats 4000000 in
theorem runfold_any (q : Nat) (hq : q < 4) (v : Value) (f : List Nd) (w : World) (h : Fml w v f) (h0 : 0 < f.length) :
    Calls Tryz.prog 59 #[v, .int .i64 (q : Int)] w fun e w' => ∃ u, e = .returned u ∧ Made w w' u (unfN q f) := by
  have H := Lib.hid h
  obtain ⟨A, c, rfl, _⟩ := fml_slice h
  clear h
  have hx4 : ∀ w1, Sem.run Tryz.prog (Instr.field 93 (.agg #[.int .i64 (lastN f).op, .int .i64 (lastN f).i, .int .i64 (lastN f).e, .int .i64 (lastN f).g, .int .i64 (lastN f).x, .int .i64 (lastN f).y]) 4) w1 = .ok (.int .i64 (lastN f).x) w1 := fun _ => rfl
  have hx5 : ∀ w1, Sem.run Tryz.prog (Instr.field 93 (.agg #[.int .i64 (lastN f).op, .int .i64 (lastN f).i, .int .i64 (lastN f).e, .int .i64 (lastN f).g, .int .i64 (lastN f).x, .int .i64 (lastN f).y]) 5) w1 = .ok (.int .i64 (lastN f).y) w1 := fun _ => rfl
  go_enter Tryz.func59, Tryz.ntmps59
  go_wp2_with fail
  refine (rtop_any _ f _ H.out h0).mono ?_
  rintro e w1 ⟨rfl, hx1⟩
  have HX1 := Lib.hid hx1
  have hfe := hx4 w1
  unfold Nd.val
  clear hx1
  go_wp2_with fail
  refine (refSub_any _ f _ _ (H.out.ext HX1.out)).mono ?_
  rintro e w2 ⟨ua, rfl, hm2⟩
  have HM2 := Lib.hid hm2
  obtain ⟨Aa, ca, rfl, _⟩ := fml_slice hm2.fml
  clear hm2 hfe
  go_wp2_with fail
  refine (rtop_any _ f _ (H.out.ext (HX1.out.trans HM2.out.ext)) h0).mono ?_
  rintro e w3 ⟨rfl, hx3⟩
  have HX3 := Lib.hid hx3
  have hfe := hx5 w3
  unfold Nd.val
  clear hx3
  go_wp2_with fail
  refine (refSub_any _ f _ _ (H.out.ext (HX1.out.trans (HM2.out.ext.trans HX3.out)))).mono ?_
  rintro e w4 ⟨ub, rfl, hm4⟩
  have HM4 := Lib.hid hm4
  obtain ⟨Ab, cb, rfl, _⟩ := fml_slice hm4.fml
  clear hm4 hfe hx4 hx5
  go_wp2_with fail
  refine (rAnd_any _ _ _ _ _ HM4.out.fml (H.out.ext (HX1.out.trans (HM2.out.ext.trans (HX3.out.trans HM4.out.ext))))).mono ?_
  rintro e w5 ⟨u5, rfl, hm5⟩
  have HM5 := Lib.hid hm5
  obtain ⟨A5, c5, rfl, _⟩ := fml_slice hm5.fml
  clear hm5
  go_wp2_with fail
  refine (rImp_any _ _ _ _ _ (HM2.out.fml.ext (HX3.out.trans (HM4.out.ext.trans HM5.out.ext))) HM5.out.fml).mono ?_
  rintro e w6 ⟨u6, rfl, hm6⟩
  have HM6 := Lib.hid hm6
  obtain ⟨A6, c6, rfl, _⟩ := fml_slice hm6.fml
  clear hm6
  go_wp2_with fail
  refine (rKnow_any (q : Int) ⟨by omega, by omega⟩ (headg_know hq) _ _ _ HM6.out.fml).mono ?_
  rintro e w7 ⟨u7, rfl, hm7⟩
  have HM7 := Lib.hid hm7
  clear hm7
  go_wp2_with fail
  go_ret
  exact ⟨_, rfl, HM7.out.before (HX1.out.trans (HM2.out.ext.trans (HX3.out.trans (HM4.out.ext.trans (HM5.out.ext.trans HM6.out.ext)))))⟩
set_option maxRecDepth 100000 in
set_option maxHeartbeats 8000000 in
theorem refSubs_any (v : Value) (f : List Nd) (w : World) (h : Fml w v f) (hc : check f = 0) :
    Calls Tryz.prog 57 #[v] w fun e w' => ∃ u, e = .returned u ∧ FRow w w' u (subsN f) := by
  have H := Lib.hid h
  obtain ⟨iI, hiI, hzI0, hzI1, hzI2⟩ := info_parts tInfoF2
  obtain ⟨A, c, rfl, _⟩ := fml_slice h
  have hp := compactN_props hc
  obtain ⟨base, hbase⟩ : ∃ b, b = compactN f := ⟨_, rfl⟩
  have hcb : check base = 0 := hbase ▸ compactN_check hc
  have hlen : base.length ≤ 200 := hbase ▸ Nat.le_trans hp.2.1 (check_parts hc).2.1
  have HB := Lib.hid (show subsN f = formulasN base by rw [hbase]; rfl)
  have HBB := Lib.hid hbase
  clear h hp hbase hcb hc
  go_enter Tryz.func57, Tryz.ntmps57
  go_wp2_with fail
  refine (refCompact_any _ f _ H.out).mono ?_
  rintro e w0 ⟨uc, rfl, hm0⟩
  rw [← HBB.out] at hm0
  have HM0 := Lib.hid hm0
  obtain ⟨Ac, cc, rfl, _⟩ := fml_slice hm0.fml
  clear hm0
  go_wp2_with fail
  go_loopw [4, 5] (fun vo vi wr => ∃ k : Nat, vi = .int .i64 (k : Int) ∧ k ≤ base.length ∧ Hid (∃ out, out = (List.range k).map (fun (i : Nat) => subN base i) ∧ FRow w0 wr vo out)) (fun _ v _ => base.length - (intOf v).toNat)
  case atStart => exact ⟨0, rfl, Nat.zero_le _, Lib.hid ⟨[], rfl, FRow.nil _⟩⟩
  case round =>
    obtain ⟨k, rfl, hk, HREL⟩ := hrel
    obtain ⟨out, ho, hfr⟩ := HREL.out
    obtain ⟨us, hrow, hus⟩ := hfr.row
    obtain ⟨Ao, co, rfl⟩ := slice_of_row hrow
    have HO := Lib.hid ho
    have HFR := Lib.hid hfr
    have HROW := Lib.hid hrow
    have HUS := Lib.hid hus
    have hol : out.length ≤ 1000 := by rw [ho]; simp; omega
    clear HREL ho hfr hrow hus
    by_cases hlt2 : k < base.length
    · have hk1 : (k : Int) < (base.length : Int) := by omega
      have hc3 : out.length + 1 ≤ maxLen := by unfold maxLen; omega
      have hc4 : (out.length + 1) * 24 ≤ 140737488355328 := by omega
      go_wp2_with fail
      refine (refSub_any _ base (k : Int) _ (HM0.out.fml.ext HFR.out.ext)).mono ?_
      rintro e w1 ⟨u, rfl, hm⟩
      have X1 := Lib.hid (HFR.out.ext.trans hm.ext)
      have Y1 := Lib.hid hm.ext
      have HM := Lib.hid hm
      obtain ⟨Au, cu, rfl, _⟩ := fml_slice hm.fml
      clear hm
      go_wp2_with (at_builtin; refine wpList_append_own_at _ rfl _ _ 49 rfl w0.heap.size 22 iI (.slice none 0 0) 1 24 Tryz.underlying49 hiI hzI0 hzI1 hzI2 rfl (by decide) _ out.length us rfl (row_ext HROW.out (Y1.out.alloc _)) ⟨_, 0, none⟩ 1 1 [.slice Au (subN base (k : Int)).length cu] rfl rfl (row_new_at _ _ _ (by simp)) (fun u hu => by rw [List.mem_singleton.1 hu]; rfl) hc3 hc4 (Nat.le_trans HFR.out.ext.size (Y1.out.alloc _).size) ?_)
      intro v7 w7 hown7 hgrow7 _ hat7
      have HPS := Lib.hid (FRow.push (s := subN base (k : Int)) (X1.out.alloc _) (row_ext HROW.out (Y1.out.alloc _)) (fun k s hk => by
        obtain ⟨u, a, b, c⟩ := HUS.out k s hk
        exact ⟨u, a, b.ext (Y1.out.alloc _), c.ext (Y1.out.alloc _)⟩) hown7 hgrow7 (hat7.imp id (fun e => e.trans (by simp))) (HM.out.fml.ext ((Ext.refl _).alloc _)) (made_away (Nat.le_refl _) (row_ext HM.out.1 ((Ext.refl _).alloc _)) HROW.out HFR.out.ext.size))
      obtain ⟨A7, c7, rfl⟩ := slice_of_row hown7
      clear hown7 hgrow7 hat7
      go_wp2_with fail
      go_roundw
      case rel => exact ⟨k + 1, by go_num, by omega, Lib.hid ⟨_, by rw [range_step', ← HO.out], HPS.out⟩⟩
      case measure => simp [intOf]; omega
    · obtain rfl : base.length = k := by omega
      go_wp2_with fail
      go_ret
      exact ⟨_, rfl, by rw [HB.out, show formulasN base = out from HO.out.symm]; exact HFR.out.before HM0.out.ext⟩
end Go.Proofs.YtbfeodammikajaaGreat
