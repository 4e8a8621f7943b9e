/- types' table: the walk. -/
import Derived.Test.YtbfeodammikajaaGreatG18
import Derived.Test.YtbfeodammikajaaGreatG14
import Derived.Test.YtbfeodammikajaaGreatG10

namespace Go.Proofs.YtbfeodammikajaaGreat
open Go.RowKit

theorem place_lt12 {base : List (List Nd)} (h : base.length ≤ 12) (g : List Nd) : placeN base g < 64 := by
  unfold placeN
  cases hf : base.findIdx? fun f => decide (f = g) with
  | none => show (-1 : Int) < 64; decide
  | some j =>
    have := (List.findIdx?_eq_some_iff_findIdx_eq.1 hf).1
    show (j : Int) < 64
    omega
theorem places_lt {base : List (List Nd)} (h : base.length ≤ 12) (f : List Nd) : ∀ z ∈ placesN base f, z < 64 := by
  intro z hz
  unfold placesN at hz
  obtain ⟨i, _, rfl⟩ := List.mem_map.1 hz
  cases isBase (f.getD i Nd.zero)
  · show (-1 : Int) < 64; decide
  · exact place_lt12 h _
theorem range_map_snoc {α : Type} (g : Nat → α) (k : Nat) : (List.range (k + 1)).map g = (List.range k).map g ++ [g k] := by
  rw [List.range_succ, List.map_append]
  rfl
structure TabI (w1 wr : World) (g B : Nat) (vf ui : Value) (h : Nat → Bool) (m k : Nat) : Prop where
  ext : Ext w1 wr
  box : wr.heap[B]? = some (.cells #[vf, ui] 140 (0, 0))
  row : BRow w1.heap.size wr g ((List.range k).map h ++ List.replicate (m - k) false)
theorem TabI.store {w1 wr W : World} {g B : Nat} {vf ui : Value} {h : Nat → Bool} {m k : Nat} (i : TabI w1 wr g B vf ui h m k) (hk : k < m) (hB : B ≠ g) (he : Ext wr W) {b : Bool} (hb : h k = b) : TabI w1 (W.setCell ⟨g, k, none⟩ (.bool b)) g B vf ui h m (k + 1) := by
  have hg := i.row.lt
  refine ⟨(i.ext.trans he).setCell hg.1 _, ?_, ?_⟩
  · rw [Below.heap_setCell _ _ _ _ hB]
    exact (he.block (lt_heap i.box)).trans i.box
  · have := ((i.row.ext he).set k b).1
    rw [show m - k = (m - (k + 1)) + 1 by omega, pre_set (by simp), ← hb, ← range_map_snoc] at this
    rw [← hb]
    exact this
set_option maxRecDepth 100000 in
set_option maxHeartbeats 16000000 in
theorem table_any (b : Nat) (lg : Int) (base : List (List Nd)) (root : List Bool) (ks : List Kn) (cs : List Cm) (alive : List Bool) (vf : Value) (f : List Nd) (w : World)
    (hE : Eng w b lg base root ks cs alive) (hl : base.length ≤ 12) (hm : alive.length = 2 ^ base.length) (hf : Fml w vf f) (hc : check f = 0) :
    Calls Tryz.prog 71 #[.pointer (some ⟨b, 0, none⟩), vf] w fun e w' => ∃ g, e = .returned (.slice (some ⟨g, 0, none⟩) (2 ^ base.length) (2 ^ base.length)) ∧ Ext w w' ∧ BRow w.heap.size w' g (tabN base f) := by
  obtain ⟨Ab, cb, Ar, cr, Ak, ck, Ac, cc, Aa, ca, d0, d1, d2, d3, d4, d5, hbl, hbase, _, _, _, hal⟩ := hE.cells
  have HBASE := Lib.hid hbase
  have HF := Lib.hid hf
  have HC := Lib.hid hc
  have hp2 := pow12 hl
  have hlp := check_parts hc
  obtain ⟨m, hmm⟩ : ∃ m, m = 2 ^ base.length := ⟨_, rfl⟩
  have HMM := Lib.hid hmm
  rw [← hmm] at hm hp2 ⊢
  obtain ⟨Af, cf, rfl, _⟩ := fml_slice hf
  obtain ⟨iB, hiB, hzB0, hzB1, hzB2⟩ := info_parts tInfoB
  have HP1 := Lib.hid hlp.1
  have HP2 := Lib.hid hlp.2.1
  have hac := hal.1
  have hca := hal.2.1
  unfold maxLen at hca
  rw [hm] at d5 hac
  have HLEN := Lib.hid hl
  have HM := Lib.hid hm
  clear hE hbase hal hf hc hmm hlp hm hl d0 d2 d3 d4
  go_enter Tryz.func71, Tryz.ntmps71
  go_wp2_with fail
  refine (circuitOf_any _ _ base f _ HBASE.out HF.out HP2.out).mono ?_
  rintro e w1 ⟨ui, rfl, hx1, hi1⟩
  have HX1 := Lib.hid hx1
  have HI1 := Lib.hid hi1
  obtain ⟨Ai, ci, rfl, _⟩ := hi1
  have d5' := (hx1.cell (p := ⟨b, 5, none⟩) hbl).trans d5
  have hbl1 : b < w1.heap.size := Nat.lt_of_lt_of_le hbl hx1.size
  clear hx1 d1 d5
  go_wp2_with (refine wpList_make_full _ rfl _ _ 61 rfl (w1.heap.size + 1) 4 iB (.bool false) 1 Tryz.underlying61 hiB hzB0 hzB1 .i64 .i64 (m : Int) (m : Int) m rfl rfl rfl rfl (by rw [hzB2]; omega) (by unfold maxLen; omega) (by simp) ?_)
  intro W1 hrow1 hgr1
  have HXW := Lib.hid (show Ext w1 W1 from ((Ext.refl w1).alloc (.cells #[.slice Af f.length cf, .slice Ai (placesN base f).length ci] 140)).grown hgr1 (fun k e => by cases e))
  have HBX := Lib.hid (show W1.heap[w1.heap.size]? = some (.cells #[.slice Af f.length cf, .slice Ai (placesN base f).length ci] 140 (0, 0)) from (hgr1.block _ (by simp) (fun e => by cases e)).trans (heap_alloc_new _ _))
  have HT := Lib.hid (show BRow (w1.heap.size + 1) W1 (w1.heap.size + 1) (List.replicate m false) by
    have h1 := hrow1
    rw [made_false'] at h1
    unfold BRow
    simp only [List.length_replicate]
    exact h1)
  clear hrow1 hgr1 d5'
  have HTI := Lib.hid (show TabI w1 W1 (w1.heap.size + 1) w1.heap.size (.slice Af f.length cf) (.slice Ai (placesN base f).length ci) (atN f (placesN base f)) m 0 from ⟨HXW.out, HBX.out, by rw [List.range_zero, List.map_nil, List.nil_append, Nat.sub_zero]; exact HT.out.base_ (Nat.le_succ _)⟩)
  go_wp2_with fail
  go_loopw [22] (fun v wr => ∃ k : Nat, v = .int .i64 (k : Int) ∧ k ≤ m ∧ Hid (TabI w1 wr (w1.heap.size + 1) w1.heap.size (.slice Af f.length cf) (.slice Ai (placesN base f).length ci) (atN f (placesN base f)) m k)) (fun v _ => m - (intOf v).toNat)
  case atStart => exact ⟨0, rfl, Nat.zero_le _, HTI⟩
  case round =>
    obtain ⟨k, rfl, hk, HI⟩ := hrel
    obtain ⟨e0, e1, ef, el⟩ := cells2 HI.out.box
    by_cases hlt2 : k < m
    · have hk1 : (k : Int) < (m : Int) := by omega
      have hgl : w1.heap.size + 1 < wr.heap.size := HI.out.row.lt.2
      have gfr := HI.out.row.frozen k
      have gc : wr.cell? ⟨w1.heap.size + 1, k, none⟩ = some (.bool false) := HI.out.row.cell (by rw [List.getElem?_append_right (by simp), List.length_map, List.length_range, Nat.sub_self, List.getElem?_replicate, if_pos (by omega)])
      obtain ⟨wq, hwq⟩ : ∃ v, v = wr := ⟨_, rfl⟩
      subst hwq
      go_wp2_with fail
      refine (at_any _ _ f (placesN base f) k _ (by omega) (HF.out.ext (HX1.out.trans HI.out.ext)) (HI1.out.ext HI.out.ext) (places_len _ _) (places_lt HLEN.out f) (check_wf HC.out) HP1.out HP2.out).mono ?_
      rintro e w2 ⟨rfl, hx2⟩
      have HX2 := Lib.hid hx2
      have gfr2 := (hx2.frozen (p := ⟨w1.heap.size + 1, k, none⟩) hgl).trans gfr
      have gc2 := (hx2.cell (p := ⟨w1.heap.size + 1, k, none⟩) hgl).trans gc
      have hgl2 : w1.heap.size + 1 < w2.heap.size := Nat.lt_of_lt_of_le hgl hx2.size
      clear hx2 gfr gc
      go_wp2_with fail
      go_roundw
      case rel => exact ⟨k + 1, by go_num, by omega, Lib.hid (HI.out.store hlt2 (by omega) HX2.out rfl)⟩
      case measure => simp [intOf]; omega
    · obtain rfl : m = k := by omega
      go_wp2_with fail
      go_ret
      refine ⟨_, rfl, HX1.out.trans HI.out.ext, ?_⟩
      have h1 := HI.out.row.base_ (b' := w.heap.size) HX1.out.size
      rw [Nat.sub_self, List.replicate_zero, List.append_nil] at h1
      unfold tabN
      rw [← HMM.out]
      exact h1
end Go.Proofs.YtbfeodammikajaaGreat

/- The engine whose living types lie in a block of their own; what that block's cells hold may change. -/

namespace Go.Proofs.YtbfeodammikajaaGreat
open Go.RowKit

structure EngX (w : World) (b g : Nat) (lg : Int) (base : List (List Nd)) (root : List Bool) (ks : List Kn) (cs : List Cm) (alive : List Bool) : Prop where
  keep : ∀ w' : World, w.heap.size ≤ w'.heap.size → (∀ k, k ≠ g → k < w.heap.size → w'.heap[k]? = w.heap[k]?) → ∃ vb vr vk vc, w'.heap[b]? = some (.cells #[.int .i64 lg, vb, vr, vk, vc, .slice (some ⟨g, 0, none⟩) alive.length alive.length] 74 (0, 0)) ∧ Fmls w' vb base ∧ Bools w' vr root ∧ Kns w' vk ks ∧ Cms w' vc cs
  row : BRow g w g alive
section
variable {w w' : World} {b g : Nat} {lg : Int} {base : List (List Nd)} {root : List Bool} {ks : List Kn} {cs : List Cm} {alive : List Bool}
theorem EngX.eng (h : EngX w b g lg base root ks cs alive) : Eng w b lg base root ks cs alive := by
  obtain ⟨vb, vr, vk, vc, h0, h1, h2, h3, h4⟩ := h.keep w (Nat.le_refl _) (fun _ _ _ => rfl)
  exact ⟨vb, vr, vk, vc, _, h0, h1, h2, h3, h4, h.row.bools⟩
theorem EngX.ext (h : EngX w b g lg base root ks cs alive) (he : Ext w w') : EngX w' b g lg base root ks cs alive :=
  ⟨fun w2 h1 h2 => h.keep w2 (Nat.le_trans he.size h1) (fun k hk hl => (h2 k hk (Nat.lt_of_lt_of_le hl he.size)).trans (he.block hl)), h.row.ext he⟩
theorem EngX.set (h : EngX w b g lg base root ks cs alive) (j : Nat) (x : Bool) : EngX (w.setCell ⟨g, j, none⟩ (.bool x)) b g lg base root ks cs (alive.set j x) := by
  refine ⟨fun w2 h1 h2 => ?_, (h.row.set j x).1⟩
  rw [List.length_set]
  have e : (w.setCell ⟨g, j, none⟩ (.bool x)).heap.size = w.heap.size := by simp [World.setCell]
  rw [e] at h1 h2
  exact h.keep w2 h1 (fun k hk hl => (h2 k hk hl).trans (Below.heap_setCell _ _ _ _ hk))
/-- A world that has grown, but for another block than the living types'. -/
theorem EngX.grown {r : Option Nat} (h : EngX w b g lg base root ks cs alive) (hg : w.grownBy w' r) (hr : ∀ k, r = some k → w.heap.size ≤ k) : EngX w' b g lg base root ks cs alive :=
  h.ext ((Ext.refl w).grown hg hr)
/-- The cells that a walk reads. -/
theorem EngX.cells (h : EngX w b g lg base root ks cs alive) : ∃ Ab cb Ar cr, w.cell? ⟨b, 0, none⟩ = some (.int .i64 lg) ∧ w.cell? ⟨b, 1, none⟩ = some (.slice Ab base.length cb) ∧ w.cell? ⟨b, 2, none⟩ = some (.slice Ar root.length cr) ∧ w.cell? ⟨b, 5, none⟩ = some (.slice (some ⟨g, 0, none⟩) alive.length alive.length) ∧ b < w.heap.size := by
  obtain ⟨vb, vr, vk, vc, h0, ⟨Ab, cb, rfl, _⟩, ⟨Ar, cr, rfl, _⟩, _, _⟩ := h.keep w (Nat.le_refl _) (fun _ _ _ => rfl)
  obtain ⟨⟨d0, d1, d2, d3, d4, d5⟩, _, hl⟩ := cells6 h0
  exact ⟨Ab, cb, Ar, cr, d0, d1, d2, d5, hl⟩
end
theorem why_hit {lg : Int} {ks : List Kn} {cs : List Cm} {m : Nat} {al : List Bool} {t : Nat} {i : Int} (h0 : -4 ≤ i) (h1 : i < m) (h : lacksN lg ks cs al t i = true) (hn : ∀ j : Int, -4 ≤ j → j < i → lacksN lg ks cs al t j = false) : whyN lg ks cs m al t = some i := by
  unfold whyN
  rw [List.find?_map]
  have e : (List.range (m + 4)).find? ((fun i => lacksN lg ks cs al t i) ∘ fun (j : Nat) => (j : Int) - 4) = some (i + 4).toNat := by
    rw [List.find?_range_eq_some]
    refine ⟨?_, List.mem_range.2 (by omega), fun j hj => ?_⟩
    · show lacksN lg ks cs al t (((i + 4).toNat : Nat) - 4 : Int) = true
      rw [show (((i + 4).toNat : Nat) - 4 : Int) = i by omega]
      exact h
    · show (!lacksN lg ks cs al t ((j : Int) - 4)) = true
      rw [hn _ (by omega) (by omega)]
      rfl
  rw [e]
  show some ((((i + 4).toNat : Nat) : Int) - 4) = some i
  congr 1
  omega
theorem why_miss {lg : Int} {ks : List Kn} {cs : List Cm} {m : Nat} {al : List Bool} {t : Nat} (hn : ∀ j : Int, -4 ≤ j → j < m → lacksN lg ks cs al t j = false) : whyN lg ks cs m al t = none := by
  unfold whyN
  rw [List.find?_eq_none]
  intro i hi
  obtain ⟨j, hj, rfl⟩ := List.mem_map.1 hi
  have := List.mem_range.1 hj
  rw [hn _ (by omega) (by omega)]
  simp
theorem pass_snoc {why : List Bool → Nat → Option Int} (k : Nat) (s : List Bool × List (Nat × Int)) : passG why (List.range (k + 1)) s = stepG why (passG why (List.range k) s) k := by
  rw [List.range_succ, pass_append]
  rfl
def u64V (l : List Nat) : List Value := l.map fun (u : Nat) => Value.int .u64 (u : Int)
def intV (l : List Int) : List Value := l.map fun (u : Int) => Value.int .i64 u
end Go.Proofs.YtbfeodammikajaaGreat

/- What newEngine builds: the engine's block and its rows, while they grow. -/

namespace Go.Proofs.YtbfeodammikajaaGreat
open Go.RowKit

/-- The world has grown; but for the blocks of X it is the same. -/
def SameX (X : Nat → Prop) (w w' : World) : Prop := w.heap.size ≤ w'.heap.size ∧ ∀ k, ¬ X k → k < w.heap.size → w'.heap[k]? = w.heap[k]?
/-- It holds whatever the blocks of X hold. -/
def Frz (X : Nat → Prop) (w : World) (P : World → Prop) : Prop := ∀ w', SameX X w w' → P w'
section
variable {X X' : Nat → Prop} {w w' : World} {P : World → Prop}
theorem SameX.of_ext (h : Ext w w') : SameX X w w' := ⟨h.size, fun _ _ hk => h.block hk⟩
theorem SameX.trans {w2 : World} (h : SameX X w w') (h2 : SameX X' w' w2) (hx : ∀ k, k < w.heap.size → X' k → X k) : SameX X w w2 :=
  ⟨Nat.le_trans h.1 h2.1, fun k hk hl => (h2.2 k (fun e => hk (hx k hl e)) (Nat.lt_of_lt_of_le hl h.1)).trans (h.2 k hk hl)⟩
theorem Frz.next (h : Frz X w P) (hs : SameX X w w') (hx : ∀ k, k < w.heap.size → X' k → X k) : Frz X' w' P := fun w2 h2 => h w2 (hs.trans h2 hx)
theorem Frz.here (h : Frz X w P) : P w := h w ⟨Nat.le_refl _, fun _ _ _ => rfl⟩
theorem Frz.of_row {base g : Nat} {l : List Bool} (h : BRow base w g l) (hg : ¬ X g) : Frz X w fun w' => Bools w' (.slice (some ⟨g, 0, none⟩) l.length l.length) l := fun w2 h2 => by
  have : BRow base w2 g l := row_keep h fun k hk => by
    have e : k = g := by injection hk with hk; exact hk.symm
    subst e
    exact h2.2 k hg h.lt.2
  exact this.bools
theorem bools_nil (w : World) : Bools w (.slice none 0 0) [] := ⟨none, 0, rfl, Nat.le_refl _, by unfold maxLen; omega, fun h => absurd rfl h⟩
theorem flat_getG {α : Type} {f : α → List Value} {c : Nat} (hf : ∀ a, (f a).length = c) : ∀ (l : List α) (k : Nat) (n : α) (j : Nat), l[k]? = some n → j < c → (l.flatMap f)[k * c + j]? = (f n)[j]?
  | [], k, n, j, h, _ => by simp at h
  | m :: r, 0, n, j, h, hj => by
    simp only [List.getElem?_cons_zero, Option.some.injEq] at h
    subst h
    rw [List.flatMap_cons, List.getElem?_append_left (by rw [hf]; omega)]
    simp
  | m :: r, k + 1, n, j, h, hj => by
    rw [List.flatMap_cons, List.getElem?_append_right (by rw [hf, Nat.add_mul]; omega)]
    have e : (k + 1) * c + j - (f m).length = k * c + j := by rw [hf, Nat.add_mul]; omega
    rw [e]
    exact flat_getG hf r k n j (by simpa using h) hj
theorem row_cells {α : Type} {f : α → List Value} {c base : Nat} {e : TypeId} {v : Value} {l : List α} (hf : ∀ a, (f a).length = c) (h : w.ownsRow base e c v l.length (l.flatMap f)) :
    ∃ A cap, v = .slice A l.length cap ∧ l.length ≤ cap ∧ cap ≤ maxLen ∧ (l ≠ [] → ∃ g, A = some ⟨g, 0, none⟩ ∧ g < w.heap.size ∧ ∀ k n, l[k]? = some n → ∀ j, j < c → ∀ u, (f n)[j]? = some u → w.cell? ⟨g, k * c + j, none⟩ = some u) := by
  obtain ⟨_, h2⟩ := h
  rcases h2 with ⟨rfl, h0⟩ | ⟨g, cap, cur, rfl, hb, hg, hn, hcap, hsz, htk⟩
  · have : l = [] := List.length_eq_zero_iff.1 h0
    subst this
    exact ⟨none, 0, rfl, Nat.le_refl _, by unfold maxLen; omega, fun h => absurd rfl h⟩
  · refine ⟨some ⟨g, 0, none⟩, cap, rfl, hn, hcap, fun hne => ⟨g, rfl, lt_heap hg, fun k n hk j hj u hu => ?_⟩⟩
    have h1 := flat_getG hf l k n j hk hj
    rw [← htk, hu] at h1
    have h2 : cur[k * c + j]? = some u := by
      rw [List.getElem?_take] at h1
      split at h1
      · simpa using h1
      · cases h1
    simp [World.cell?, hg, h2]
end
def knV (r : Kn × Value) : List Value := [.int .i64 r.1.agent, .int .i64 (r.1.place : Int), r.2]
def cmV (r : Cm × Value × Value) : List Value := [.int .i64 (r.1.place : Int), .int .i64 r.1.group, r.2.1, r.2.2, .int .u64 (r.1.parts : Int)]
section
variable {w w' : World} {base : Nat} {v : Value}
theorem kns_of_row {rs : List (Kn × Value)} (h : w.ownsRow base 113 3 v rs.length (rs.flatMap knV)) (hb : ∀ r ∈ rs, Bools w r.2 r.1.holds) : Kns w v (rs.map Prod.fst) := by
  obtain ⟨A, cap, rfl, h1, h2, h3⟩ := row_cells (f := knV) (c := 3) (fun _ => rfl) h
  refine ⟨A, cap, by rw [List.length_map], by rw [List.length_map]; exact h1, h2, fun hn => ?_⟩
  obtain ⟨g, rfl, hg, hc⟩ := h3 (fun e => hn (by rw [e]; rfl))
  refine ⟨_, rfl, hg, fun k n hk => ?_⟩
  rw [List.getElem?_map] at hk
  cases hr : rs[k]? with
  | none => rw [hr] at hk; cases hk
  | some r =>
    rw [hr] at hk
    obtain rfl : r.1 = n := by simpa using hk
    have e0 : ((⟨g, 0, none⟩ : Addr).add (k * 3)) = ⟨g, k * 3, none⟩ := by
      unfold Addr.add
      split
      · rename_i h; rw [h]
      · simp
    rw [e0]
    exact ⟨r.2, hc k r hr 0 (by omega) _ rfl, hc k r hr 1 (by omega) _ rfl, hc k r hr 2 (by omega) _ rfl, hb r (List.mem_of_getElem? hr)⟩
theorem cms_of_row {rs : List (Cm × Value × Value)} (h : w.ownsRow base 115 5 v rs.length (rs.flatMap cmV)) (hb : ∀ r ∈ rs, Bools w r.2.1 r.1.x ∧ Bools w r.2.2 r.1.y) : Cms w v (rs.map Prod.fst) := by
  obtain ⟨A, cap, rfl, h1, h2, h3⟩ := row_cells (f := cmV) (c := 5) (fun _ => rfl) h
  refine ⟨A, cap, by rw [List.length_map], by rw [List.length_map]; exact h1, h2, fun hn => ?_⟩
  obtain ⟨g, rfl, hg, hc⟩ := h3 (fun e => hn (by rw [e]; rfl))
  refine ⟨_, rfl, hg, fun k n hk => ?_⟩
  rw [List.getElem?_map] at hk
  cases hr : rs[k]? with
  | none => rw [hr] at hk; cases hk
  | some r =>
    rw [hr] at hk
    obtain rfl : r.1 = n := by simpa using hk
    have e0 : ((⟨g, 0, none⟩ : Addr).add (k * 5)) = ⟨g, k * 5, none⟩ := by
      unfold Addr.add
      split
      · rename_i h; rw [h]
      · simp
    rw [e0]
    have hm := hb r (List.mem_of_getElem? hr)
    exact ⟨r.2.1, r.2.2, hc k r hr 0 (by omega) _ rfl, hc k r hr 1 (by omega) _ rfl, hc k r hr 2 (by omega) _ rfl, hc k r hr 3 (by omega) _ rfl, hc k r hr 4 (by omega) _ rfl, hm.1, hm.2⟩
end
/-- The blocks that newEngine writes over. -/
def spc (b g : Nat) (vk vc : Value) (k : Nat) : Prop := k = b ∨ k = g ∨ vk.ownBlock = some k ∨ vc.ownBlock = some k
structure NewI (w1 w : World) (b g : Nat) (lg : Int) (base : List (List Nd)) (root : List Bool) (ks : List Kn) (cs : List Cm) (alive : List Bool) (vk vc : Value) : Prop where
  ext : Ext w1 w
  lo : w1.heap.size ≤ b ∧ b ≠ g
  cells : ∃ vb vr, w.heap[b]? = some (.cells #[.int .i64 lg, vb, vr, vk, vc, .slice (some ⟨g, 0, none⟩) alive.length alive.length] 74 (0, 0)) ∧ Fmls w1 vb base ∧ Frz (spc b g vk vc) w (fun w' => Bools w' vr root)
  al : BRow w1.heap.size w g alive
  kn : ∃ rs : List (Kn × Value), rs.map Prod.fst = ks ∧ w.ownsRow w1.heap.size 113 3 vk rs.length (rs.flatMap knV) ∧ ∀ r ∈ rs, Frz (spc b g vk vc) w (fun w' => Bools w' r.2 r.1.holds)
  cm : ∃ rs : List (Cm × Value × Value), rs.map Prod.fst = cs ∧ w.ownsRow w1.heap.size 115 5 vc rs.length (rs.flatMap cmV) ∧ ∀ r ∈ rs, Frz (spc b g vk vc) w (fun w' => Bools w' r.2.1 r.1.x) ∧ Frz (spc b g vk vc) w (fun w' => Bools w' r.2.2 r.1.y)
  dk : vk.ownBlock ≠ some b ∧ vk.ownBlock ≠ some g
  dc : vc.ownBlock ≠ some b ∧ vc.ownBlock ≠ some g
  dd : ∀ k, vk.ownBlock = some k → vc.ownBlock ≠ some k
section
variable {w1 w w' : World} {b g : Nat} {lg : Int} {base : List (List Nd)} {root : List Bool} {ks : List Kn} {cs : List Cm} {alive : List Bool} {vk vc : Value}
theorem NewI.blt (h : NewI w1 w b g lg base root ks cs alive vk vc) : b < w.heap.size := by
  obtain ⟨_, _, hb, _⟩ := h.cells
  exact lt_heap hb
theorem NewI.next (h : NewI w1 w b g lg base root ks cs alive vk vc) (he : Ext w w') : NewI w1 w' b g lg base root ks cs alive vk vc := by
  refine ⟨h.ext.trans he, h.lo, ?_, h.al.ext he, ?_, ?_, h.dk, h.dc, h.dd⟩
  · obtain ⟨vb, vr, hb, h1, h2⟩ := h.cells
    exact ⟨vb, vr, (he.block (lt_heap hb)).trans hb, h1, h2.next (SameX.of_ext he) fun _ _ h => h⟩
  · obtain ⟨rs, e, h1, h2⟩ := h.kn
    exact ⟨rs, e, row_ext h1 he, fun r hr => (h2 r hr).next (SameX.of_ext he) fun _ _ h => h⟩
  · obtain ⟨rs, e, h1, h2⟩ := h.cm
    exact ⟨rs, e, row_ext h1 he, fun r hr => ⟨(h2 r hr).1.next (SameX.of_ext he) fun _ _ h => h, (h2 r hr).2.next (SameX.of_ext he) fun _ _ h => h⟩⟩
theorem row_self {e : TypeId} {size n c m : Nat} {bs : Nat} {xs : List Value} (h : w.ownsRow bs e size (.slice (some ⟨g, 0, none⟩) n c) m xs) : w.ownsRow g e size (.slice (some ⟨g, 0, none⟩) n c) m xs := by
  obtain ⟨h1, h2⟩ := h
  refine ⟨h1, ?_⟩
  rcases h2 with h2 | ⟨g', cap, cur, e, h3, h4⟩
  · exact .inl h2
  · have hg : g' = g := by
      injection e with e
      injection e with e
      injection e with e
      exact e.symm
    exact .inr ⟨g', cap, cur, e, by omega, h4⟩
theorem NewI.engX (h : NewI w1 w b g lg base root ks cs alive vk vc) : EngX w b g lg base root ks cs alive := by
  refine ⟨fun w2 h1 h2 => ?_, row_self h.al⟩
  have hs : SameX (spc b g vk vc) w w2 := ⟨h1, fun k hk hl => h2 k (fun e => hk (.inr (.inl e))) hl⟩
  obtain ⟨vb, vr, hb, hf, hr⟩ := h.cells
  obtain ⟨rs, rfl, k1, k2⟩ := h.kn
  obtain ⟨ss, rfl, c1, c2⟩ := h.cm
  have he : Ext w1 { w2 with os := w1.os, tape := w1.tape, output := w1.output } := ⟨rfl, rfl, rfl, Nat.le_trans h.ext.size h1, fun k hk => (h2 k (fun e => by have := h.al.lt.1; omega) (Nat.lt_of_lt_of_le hk h.ext.size)).trans (h.ext.block hk)⟩
  have hf3 := hf.ext he
  have hf2 : Fmls w2 vb base := hf3
  refine ⟨vb, vr, vk, vc, (h2 b h.lo.2 (lt_heap hb)).trans hb, hf2, hr w2 hs, kns_of_row (row_keep k1 fun k hk => h2 k (fun e => h.dk.2 (e ▸ hk)) (k1.lt k hk).2) fun r hr => k2 r hr w2 hs, cms_of_row (row_keep c1 fun k hk => h2 k (fun e => h.dc.2 (e ▸ hk)) (c1.lt k hk).2) fun r hr => ⟨(c2 r hr).1 w2 hs, (c2 r hr).2 w2 hs⟩⟩
/-- A cell of the engine is written. -/
theorem set_engine {a0 a1 a2 a3 a4 a5 u : Value} {t : TypeId} (h : w.heap[b]? = some (.cells #[a0, a1, a2, a3, a4, a5] t (0, 0))) :
    (w.setCell ⟨b, 2, none⟩ u).heap[b]? = some (.cells #[a0, a1, u, a3, a4, a5] t (0, 0)) ∧ (w.setCell ⟨b, 3, none⟩ u).heap[b]? = some (.cells #[a0, a1, a2, u, a4, a5] t (0, 0)) ∧ (w.setCell ⟨b, 4, none⟩ u).heap[b]? = some (.cells #[a0, a1, a2, a3, u, a5] t (0, 0)) := by
  refine ⟨?_, ?_, ?_⟩ <;> (simp only [World.setCell, Array.getElem?_modify, h, if_true, Option.map_some]; simp)
theorem set_same (k : Nat) (u : Value) : SameX (fun x => x = b) w (w.setCell ⟨b, k, none⟩ u) :=
  ⟨by simp [World.setCell], fun x hx _ => Below.heap_setCell _ _ _ _ hx⟩
theorem grown_same {r : Option Nat} (h : w.grownBy w' r) : SameX (fun x => r = some x) w w' := ⟨h.size, fun k hk hl => h.block k hl (fun e => hk e.symm)⟩
theorem ext_set {a : World} (h : Ext a w) (hb : a.heap.size ≤ b) (k : Nat) (u : Value) : Ext a (w.setCell ⟨b, k, none⟩ u) := h.setCell (p := ⟨b, k, none⟩) hb u
/-- The root's table is laid. -/
theorem NewI.root_ {vr : Value} {root' : List Bool} (h : NewI w1 w b g lg base root ks cs alive vk vc) (hr : Frz (spc b g vk vc) w (fun w' => Bools w' vr root')) : NewI w1 (w.setCell ⟨b, 2, none⟩ vr) b g lg base root' ks cs alive vk vc := by
  have hs := set_same (w := w) (b := b) 2 vr
  have hx : ∀ k, k < w.heap.size → spc b g vk vc k → spc b g vk vc k := fun _ _ h => h
  have hs' : SameX (spc b g vk vc) w (w.setCell ⟨b, 2, none⟩ vr) := ⟨hs.1, fun k hk hl => hs.2 k (fun e => hk (.inl e)) hl⟩
  refine ⟨ext_set h.ext h.lo.1 2 vr, h.lo, ?_, row_keep h.al fun k hk => hs.2 k (fun e => ?_) ?_, ?_, ?_, h.dk, h.dc, h.dd⟩
  · obtain ⟨vb, _, hb, h1, _⟩ := h.cells
    exact ⟨vb, vr, (set_engine hb).1, h1, hr.next hs' hx⟩
  · have : k = g := by injection hk with hk; exact hk.symm
    exact h.lo.2 (by omega)
  · exact by have e : k = g := by injection hk with hk; exact hk.symm
             rw [e]; exact h.al.lt.2
  · obtain ⟨rs, e, h1, h2⟩ := h.kn
    exact ⟨rs, e, row_keep h1 fun k hk => hs.2 k (fun e => h.dk.1 (e ▸ hk)) (h1.lt k hk).2, fun r hr => (h2 r hr).next hs' hx⟩
  · obtain ⟨rs, e, h1, h2⟩ := h.cm
    exact ⟨rs, e, row_keep h1 fun k hk => hs.2 k (fun e => h.dc.1 (e ▸ hk)) (h1.lt k hk).2, fun r hr => ⟨(h2 r hr).1.next hs' hx, (h2 r hr).2.next hs' hx⟩⟩
/-- A base formula of knowledge joins: the row has grown, and the engine's cell is written. -/
theorem NewI.know {w4 : World} {c : Obj} {vk' vh : Value} {n : Kn} {rs : List (Kn × Value)} (h : NewI w1 w b g lg base root ks cs alive vk vc) (hrs : rs.map Prod.fst = ks) (hkn : ∀ r ∈ rs, Frz (spc b g vk vc) w (fun w' => Bools w' r.2 r.1.holds))
    (hh : Frz (fun k => spc b g vk vc k) w (fun w' => Bools w' vh n.holds)) (hrow : w4.ownsRow w1.heap.size 113 3 vk' (rs.length + 1) (rs.flatMap knV ++ knV (n, vh))) (hg : (w.alloc c).grownBy w4 vk.ownBlock) (ho : vk'.ownBlock = vk.ownBlock ∨ vk'.ownBlock = some (w.alloc c).heap.size) :
    NewI w1 (w4.setCell ⟨b, 3, none⟩ vk') b g lg base root (ks ++ [n]) cs alive vk' vc := by
  have hs1 : SameX (fun x => vk.ownBlock = some x) w w4 := (SameX.of_ext ((Ext.refl w).alloc c)).trans (grown_same hg) (fun _ _ h => h)
  have hsz : w.heap.size < (w.alloc c).heap.size := by simp
  have hs2 : SameX (fun x => x = b ∨ vk.ownBlock = some x) w (w4.setCell ⟨b, 3, none⟩ vk') := by
    refine ⟨by rw [show (w4.setCell ⟨b, 3, none⟩ vk').heap.size = w4.heap.size by simp [World.setCell]]; exact hs1.1, fun k hk hl => ?_⟩
    rw [(set_same (w := w4) (b := b) 3 vk').2 k (fun e => hk (.inl e)) (Nat.lt_of_lt_of_le hl hs1.1)]
    exact hs1.2 k (fun e => hk (.inr e)) hl
  have hs3 : SameX (spc b g vk vc) w (w4.setCell ⟨b, 3, none⟩ vk') := ⟨hs2.1, fun k hk hl => hs2.2 k (fun e => hk (e.elim .inl fun e => .inr (.inr (.inl e)))) hl⟩
  have hx : ∀ k, k < w.heap.size → spc b g vk' vc k → spc b g vk vc k := fun k hl e => by
    rcases e with e | e | e | e
    · exact .inl e
    · exact .inr (.inl e)
    · rcases ho with ho | ho
      · exact .inr (.inr (.inl (ho ▸ e)))
      · rw [ho] at e
        injection e with e
        omega
    · exact .inr (.inr (.inr e))
  have hbl := h.blt
  have hkl : ∀ k, vk.ownBlock = some k → w1.heap.size ≤ k := fun k hk => by
    obtain ⟨_, _, h1, _⟩ := h.kn
    exact (h1.lt k hk).1
  have hgl := h.al.lt
  refine ⟨?_, h.lo, ?_, row_keep h.al fun k hk => ?_, ?_, ?_, ?_, h.dc, fun k hk hk2 => ?_⟩
  · exact ext_set ((h.ext.alloc c).grown hg hkl) h.lo.1 3 vk'
  · obtain ⟨vb, vr, hb, h1, h2⟩ := h.cells
    have hb4 : w4.heap[b]? = _ := (hs1.2 b (fun e => h.dk.1 e) hbl).trans hb
    exact ⟨vb, vr, (set_engine hb4).2.1, h1, h2.next hs3 hx⟩
  · have e : k = g := by injection hk with hk; exact hk.symm
    subst e
    exact hs2.2 k (fun e => e.elim (fun e => h.lo.2 e.symm) (fun e => h.dk.2 e)) hgl.2
  · refine ⟨rs ++ [(n, vh)], by rw [List.map_append, hrs]; rfl, ?_, fun r hr => ?_⟩
    · rw [List.length_append, List.length_singleton, List.flatMap_append, List.flatMap_singleton]
      refine row_keep hrow fun k hk => (set_same (w := w4) (b := b) 3 vk').2 k (fun e => ?_) (hrow.lt k hk).2
      subst e
      rcases ho with ho | ho
      · exact h.dk.1 (ho ▸ hk)
      · rw [ho] at hk; injection hk with hk; omega
    · rcases List.mem_append.1 hr with hr | hr
      · exact (hkn r hr).next hs3 hx
      · rw [List.mem_singleton.1 hr]
        exact hh.next hs3 hx
  · obtain ⟨ss, e, h1, h2⟩ := h.cm
    exact ⟨ss, e, row_keep h1 fun k hk => hs2.2 k (fun e => e.elim (fun e => h.dc.1 (e ▸ hk)) (fun e => h.dd k e hk)) (h1.lt k hk).2, fun r hr => ⟨(h2 r hr).1.next hs3 hx, (h2 r hr).2.next hs3 hx⟩⟩
  · rcases ho with ho | ho
    · rw [ho]; exact h.dk
    · rw [ho]
      exact ⟨fun e => by injection e with e; omega, fun e => by injection e with e; omega⟩
  · rcases ho with ho | ho
    · exact h.dd k (ho ▸ hk) hk2
    · rw [ho] at hk
      injection hk with hk
      obtain ⟨_, _, h1, _⟩ := h.cm
      have := (h1.lt k hk2).2
      omega
/-- A base formula of common knowledge joins: the row has grown, and the engine's cell is written. -/
theorem NewI.comm {w4 : World} {c : Obj} {vc' vx vy : Value} {n : Cm} {rs : List (Cm × Value × Value)} (h : NewI w1 w b g lg base root ks cs alive vk vc) (hrs : rs.map Prod.fst = cs) (hcm : ∀ r ∈ rs, Frz (spc b g vk vc) w (fun w' => Bools w' r.2.1 r.1.x) ∧ Frz (spc b g vk vc) w (fun w' => Bools w' r.2.2 r.1.y))
    (hhx : Frz (spc b g vk vc) w (fun w' => Bools w' vx n.x)) (hhy : Frz (spc b g vk vc) w (fun w' => Bools w' vy n.y)) (hrow : w4.ownsRow w1.heap.size 115 5 vc' (rs.length + 1) (rs.flatMap cmV ++ cmV (n, vx, vy))) (hg : (w.alloc c).grownBy w4 vc.ownBlock) (ho : vc'.ownBlock = vc.ownBlock ∨ vc'.ownBlock = some (w.alloc c).heap.size) :
    NewI w1 (w4.setCell ⟨b, 4, none⟩ vc') b g lg base root ks (cs ++ [n]) alive vk vc' := by
  have hs1 : SameX (fun x => vc.ownBlock = some x) w w4 := (SameX.of_ext ((Ext.refl w).alloc c)).trans (grown_same hg) (fun _ _ h => h)
  have hsz : w.heap.size < (w.alloc c).heap.size := by simp
  have hs2 : SameX (fun x => x = b ∨ vc.ownBlock = some x) w (w4.setCell ⟨b, 4, none⟩ vc') := by
    refine ⟨by rw [show (w4.setCell ⟨b, 4, none⟩ vc').heap.size = w4.heap.size by simp [World.setCell]]; exact hs1.1, fun k hk hl => ?_⟩
    rw [(set_same (w := w4) (b := b) 4 vc').2 k (fun e => hk (.inl e)) (Nat.lt_of_lt_of_le hl hs1.1)]
    exact hs1.2 k (fun e => hk (.inr e)) hl
  have hs3 : SameX (spc b g vk vc) w (w4.setCell ⟨b, 4, none⟩ vc') := ⟨hs2.1, fun k hk hl => hs2.2 k (fun e => hk (e.elim .inl fun e => .inr (.inr (.inr e)))) hl⟩
  have hx : ∀ k, k < w.heap.size → spc b g vk vc' k → spc b g vk vc k := fun k hl e => by
    rcases e with e | e | e | e
    · exact .inl e
    · exact .inr (.inl e)
    · exact .inr (.inr (.inl e))
    · rcases ho with ho | ho
      · exact .inr (.inr (.inr (ho ▸ e)))
      · rw [ho] at e
        injection e with e
        omega
  have hbl := h.blt
  have hcl : ∀ k, vc.ownBlock = some k → w1.heap.size ≤ k := fun k hk => by
    obtain ⟨_, _, h1, _⟩ := h.cm
    exact (h1.lt k hk).1
  have hgl := h.al.lt
  refine ⟨?_, h.lo, ?_, row_keep h.al fun k hk => ?_, ?_, ?_, h.dk, ?_, fun k hk hk2 => ?_⟩
  · exact ext_set ((h.ext.alloc c).grown hg hcl) h.lo.1 4 vc'
  · obtain ⟨vb, vr, hb, h1, h2⟩ := h.cells
    have hb4 : w4.heap[b]? = _ := (hs1.2 b (fun e => h.dc.1 e) hbl).trans hb
    exact ⟨vb, vr, (set_engine hb4).2.2, h1, h2.next hs3 hx⟩
  · have e : k = g := by injection hk with hk; exact hk.symm
    subst e
    exact hs2.2 k (fun e => e.elim (fun e => h.lo.2 e.symm) (fun e => h.dc.2 e)) hgl.2
  · obtain ⟨ss, e, h1, h2⟩ := h.kn
    exact ⟨ss, e, row_keep h1 fun k hk => hs2.2 k (fun e => e.elim (fun e => h.dk.1 (e ▸ hk)) (fun e => h.dd k hk e)) (h1.lt k hk).2, fun r hr => (h2 r hr).next hs3 hx⟩
  · refine ⟨rs ++ [(n, vx, vy)], by rw [List.map_append, hrs]; rfl, ?_, fun r hr => ?_⟩
    · rw [List.length_append, List.length_singleton, List.flatMap_append, List.flatMap_singleton]
      refine row_keep hrow fun k hk => (set_same (w := w4) (b := b) 4 vc').2 k (fun e => ?_) (hrow.lt k hk).2
      subst e
      rcases ho with ho | ho
      · exact h.dc.1 (ho ▸ hk)
      · rw [ho] at hk; injection hk with hk; omega
    · rcases List.mem_append.1 hr with hr | hr
      · exact ⟨(hcm r hr).1.next hs3 hx, (hcm r hr).2.next hs3 hx⟩
      · rw [List.mem_singleton.1 hr]
        exact ⟨hhx.next hs3 hx, hhy.next hs3 hx⟩
  · rcases ho with ho | ho
    · rw [ho]; exact h.dc
    · rw [ho]
      exact ⟨fun e => by injection e with e; omega, fun e => by injection e with e; omega⟩
  · rcases ho with ho | ho
    · exact h.dd k hk (ho ▸ hk2)
    · rw [ho] at hk2
      injection hk2 with hk2
      obtain ⟨_, _, h1, _⟩ := h.kn
      have := (h1.lt k hk).2
      omega
/-- The start: no row yet. -/
theorem NewI.start (he : Ext w1 w) (hlo : w1.heap.size ≤ b ∧ b ≠ g) (hb : w.heap[b]? = some (.cells #[.int .i64 lg, vk, .slice none 0 0, .slice none 0 0, .slice none 0 0, .slice (some ⟨g, 0, none⟩) alive.length alive.length] 74 (0, 0))) (hf : Fmls w1 vk base) (hal : BRow w1.heap.size w g alive) :
    NewI w1 w b g lg base [] [] [] alive (.slice none 0 0) (.slice none 0 0) :=
  ⟨he, hlo, ⟨_, _, hb, hf, fun _ _ => bools_nil _⟩, hal, ⟨[], rfl, World.ownsRow_nil _ _ _ _, by simp⟩, ⟨[], rfl, World.ownsRow_nil _ _ _ _, by simp⟩, ⟨by simp [Value.ownBlock], by simp [Value.ownBlock]⟩, ⟨by simp [Value.ownBlock], by simp [Value.ownBlock]⟩, fun k hk => by simp [Value.ownBlock] at hk⟩
/-- A row of bools that was made behind the engine. -/
theorem NewI.fresh {w0 : World} {gh : Nat} {l : List Bool} (h : NewI w1 w0 b g lg base root ks cs alive vk vc) (hr : BRow w0.heap.size w gh l) : Frz (spc b g vk vc) w (fun w' => Bools w' (.slice (some ⟨gh, 0, none⟩) l.length l.length) l) :=
  Frz.of_row hr fun e => by
    have h1 := hr.lt.1
    rcases e with e | e | e | e
    · have := h.blt; omega
    · have := h.al.lt.2; omega
    · obtain ⟨_, _, h2, _⟩ := h.kn
      have := (h2.lt gh e).2; omega
    · obtain ⟨_, _, h2, _⟩ := h.cm
      have := (h2.lt gh e).2; omega
/-- The cells that the walk reads. -/
theorem NewI.reads (h : NewI w1 w b g lg base root ks cs alive vk vc) : w.cell? ⟨b, 3, none⟩ = some vk ∧ w.cell? ⟨b, 4, none⟩ = some vc ∧ w.cell? ⟨b, 5, none⟩ = some (.slice (some ⟨g, 0, none⟩) alive.length alive.length) ∧ (∀ j, w.frozen? ⟨b, j, none⟩ = false) ∧ b < w.heap.size := by
  obtain ⟨_, _, hb, _⟩ := h.cells
  obtain ⟨⟨_, _, _, d3, d4, d5⟩, hf, hl⟩ := cells6 hb
  exact ⟨d3, d4, d5, hf, hl⟩
theorem NewI.eng (h : NewI w1 w b g lg base root ks cs alive vk vc) : Eng w b lg base root ks cs alive := h.engX.eng
end
end Go.Proofs.YtbfeodammikajaaGreat

/- Short forms of the moves of a walk by RegU. -/

namespace Go.Proofs.YtbfeodammikajaaGreat
open Go.RowKit

section
variable {P : Program} {md : Region.Mode} {ops : Array Oper} {Q : Exit → Act → World → Prop} {S : World → Prop} {z : Nat}
theorem utk (i : Nat) {oi : Oper} {v : Value} {n : Nat} {up : Array Bool} {a a' : Act} {w : World} (hS : S w)
    (h : OrdU P md ops Q S z n (up.setIfInBounds i true) a' w)
    (hi : ops[i]? = some oi := by exact rfl) (hs : Region.noSelect ops = true := by kernel_rfl) (hf : Region.free md ops up i = true := by kernel_rfl) (hr : (Region.ready md ops up).contains i = true := by kernel_rfl) (hz : waitsB md ops z i = true := by kernel_rfl)
    (hy : YieldsIf P ops S oi v a := by refine Or.inl ⟨by rfl, ?_⟩; intro w' hSw; (try dsimp only at hSw); go_simp; (try with_reducible rfl))
    (hQ : ∀ c a w, Q (.panic c) (a.put oi.dst v) w → Q (.panic c) a w := by exact fun _ _ _ h => h)
    (ha : a.put oi.dst v = a' := by (try simp only [Act.put, List.setIfInBounds_toArray, List.set_cons_zero, List.set_cons_succ, List.getElem_toArray, List.getElem_cons_succ, List.getElem_cons_zero]); exact rfl) : OrdU P md ops Q S z (n + 1) up a w :=
  ordU_take hi hs hf hr hz hQ hy hS (by rw [ha]; exact h)
end
section
variable {a b : World} {p : Addr} {v : Value}
theorem xd (hb : p.block < a.heap.size) (f : a.cell? p = some v) (h : Ext a b := by repeat (first | exact Ext.refl _ | assumption | apply Ext.alloc | apply Ext.drew | apply Ext.setCell)) : b.cell? p = some v := (h.cell hb).trans f
theorem xv (e : Ext a b := by repeat (first | exact Ext.refl _ | assumption | apply Ext.alloc | apply Ext.drew | apply Ext.setCell)) : Ext a b := e
end
end Go.Proofs.YtbfeodammikajaaGreat
