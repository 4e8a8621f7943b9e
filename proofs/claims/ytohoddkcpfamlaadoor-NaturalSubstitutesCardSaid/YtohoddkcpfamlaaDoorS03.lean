/- The closure of formula.compact: the way on which the node is new. -/
import Derived.Test.YtohoddkcpfamlaaDoorS02
import Derived.Deep.DeepCutAuto
import Derived.Deep.RegionWith
import Derived.Laws.EntriesVeiled
import Derived.Laws.StructEq
import Derived.Laws.Tables
import Derived.Deep.QuietTactic
import Derived.BigQuiet
import Derived.Laws.BitsAllLaws
import Derived.Laws.BitsLemmas

namespace Go.Proofs.YtohoddkcpfamlaaDoor
open Go.RowKit
open Go.Maps (has)

def FinishSaid (K : Blks) (W0 : World) (A : Option Addr) (c : Nat) (f : List Nd) (z : Int) : Prop :=
  ∀ (w : World) (o : List Nd) (vo : Value), CEnv K W0 w A c f o vo → pot f o ≤ f.length →
    Calls Tryd.prog 57 #[.int .i64 z, .pointer (some ⟨K.done, 0, none⟩), .pointer (some ⟨K.f, 0, none⟩), .pointer (some ⟨K.fin_, 0, none⟩), .pointer (some ⟨K.num, 0, none⟩), .pointer (some ⟨K.out, 0, none⟩)] w
      fun e w' => ∃ vo', e = .returned (.int .i64 (finN f z.toNat o).2) ∧ CEnv K W0 w' A c f (finN f z.toNat o).1 vo' ∧ CStep K w w' vo vo'

theorem opX_no {f : List Nd} {n : Nd} {o : List Nd} (h : hasX n.op = false) : opX f n o = (o, 0) := by simp [opX, h]
theorem opY_no {f : List Nd} {n : Nd} {o : List Nd} (h : hasY n.op = false) : opY f n o = (o, 0) := by simp [opY, h]
theorem opX_yes {f : List Nd} {n : Nd} {o : List Nd} (h : hasX n.op = true) : opX f n o = finN f n.x.toNat o := by simp [opX, h]
theorem opY_yes {f : List Nd} {n : Nd} {o : List Nd} (h : hasY n.op = true) : opY f n o = finN f n.y.toNat o := by simp [opY, h]
theorem with_x {n : Nd} {k : Nat} (h : hasX n.op = false) (hy : hasY n.op = true → 0 ≤ n.y) : n.with_ k n.y.toNat = n := by
  unfold Nd.with_
  rw [h]
  cases e : hasY n.op
  · rfl
  · have := hy e
    cases n
    simp only [cond_true, cond_false, Nd.mk.injEq, true_and]
    simp only at this
    omega

theorem with_y (n : Nd) (h : hasY n.op = true → 0 ≤ n.y) : (bif hasY n.op then ((n.y.toNat : Nat) : Int) else n.y) = n.y := by
  cases e : hasY n.op
  · rfl
  · have := h e
    simp only [cond_true]
    omega
theorem store_x {n : Nd} {k : Nat} (h : hasX n.op = true) (hy : hasY n.op = true → 0 ≤ n.y) :
    (#[.int .i64 n.op, .int .i64 n.i, .int .i64 n.e, .int .i64 n.g, .int .i64 n.x, .int .i64 n.y] : Array Value).setIfInBounds 4 (.int .i64 (k : Int)) =
      #[.int .i64 (n.with_ k n.y.toNat).op, .int .i64 (n.with_ k n.y.toNat).i, .int .i64 (n.with_ k n.y.toNat).e, .int .i64 (n.with_ k n.y.toNat).g, .int .i64 (n.with_ k n.y.toNat).x, .int .i64 (n.with_ k n.y.toNat).y] := by
  simp only [Nd.with_, h, cond_true, with_y n hy]
  rfl
theorem store_y {n : Nd} {k1 k2 : Nat} (h : hasY n.op = true) (m : Nd) (hm : m = n.with_ k1 n.y.toNat) :
    (#[.int .i64 m.op, .int .i64 m.i, .int .i64 m.e, .int .i64 m.g, .int .i64 m.x, .int .i64 m.y] : Array Value).setIfInBounds 5 (.int .i64 (k2 : Int)) =
      #[.int .i64 (n.with_ k1 k2).op, .int .i64 (n.with_ k1 k2).i, .int .i64 (n.with_ k1 k2).e, .int .i64 (n.with_ k1 k2).g, .int .i64 (n.with_ k1 k2).x, .int .i64 (n.with_ k1 k2).y] := by
  subst hm
  simp only [Nd.with_, h, cond_true]
  rfl
theorem with_y2 {n : Nd} {k1 k2 : Nat} (h : hasY n.op = false) : n.with_ k1 k2 = n.with_ k1 n.y.toNat := by simp [Nd.with_, h]
theorem with_y_val {n : Nd} {k1 : Nat} (h : hasY n.op = true) (hy : 0 ≤ n.y) : (n.with_ k1 n.y.toNat).y = n.y := by simp only [Nd.with_, h, cond_true]; omega
theorem pot_opX {f : List Nd} (hf : Wf f) {i : Nat} {n : Nd} (hn : f[i]? = some n) (o : List Nd) : pot f (opX f n o).1 ≤ pot f o := by
  have hi : i < f.length := (List.getElem?_eq_some_iff.1 hn).1
  unfold opX
  split
  · rename_i h1
    have := (hf i n hn).1 h1
    exact pot_le hf _ _ (by omega)
  · exact Nat.le_refl _
theorem pot_opY {f : List Nd} (hf : Wf f) {i : Nat} {n : Nd} (hn : f[i]? = some n) (o : List Nd) : pot f (opY f n o).1 ≤ pot f o := by
  have hi : i < f.length := (List.getElem?_eq_some_iff.1 hn).1
  unfold opY
  split
  · rename_i h1
    have := (hf i n hn).2 h1
    exact pot_le hf _ _ (by omega)
  · exact Nat.le_refl _

theorem k1_le {f : List Nd} (hf : Wf f) {i : Nat} {n : Nd} (hn : f[i]? = some n) {o o1 : List Nd} {k1 : Nat} (h : opX f n o = (o1, k1)) (hlen : f.length ≤ 1000) (hp : pot f o1 ≤ f.length) : k1 ≤ 1000 := by
  have hi : i < f.length := (List.getElem?_eq_some_iff.1 hn).1
  unfold opX at h
  split at h
  · rename_i h1
    have h2 := (hf i n hn).1 h1
    have h3 := finN_lt hf n.x.toNat o (by omega)
    rw [h] at h3
    have := length_le_pot f o1
    simp only at h3
    omega
  · injection h with _ h
    omega
theorem k2_le {f : List Nd} (hf : Wf f) {i : Nat} {n : Nd} (hn : f[i]? = some n) {o o1 : List Nd} {k1 : Nat} (h : opY f n o = (o1, k1)) (hlen : f.length ≤ 1000) (hp : pot f o1 ≤ f.length) : k1 ≤ 1000 := by
  have hi : i < f.length := (List.getElem?_eq_some_iff.1 hn).1
  unfold opY at h
  split at h
  · rename_i h1
    have h2 := (hf i n hn).2 h1
    have h3 := finN_lt hf n.y.toNat o (by omega)
    rw [h] at h3
    have := length_le_pot f o1
    simp only at h3
    omega
  · injection h with _ h
    omega
theorem with_ok {n : Nd} {k1 k2 : Nat} (h : n.ok) (h1 : k1 ≤ 1000) (h2 : k2 ≤ 1000) : (n.with_ k1 k2).ok := by
  obtain ⟨a, b, c, d, e, g⟩ := h
  refine ⟨a, b, c, d, ?_, ?_⟩
  · show i64ok (bif hasX n.op then (k1 : Int) else n.x)
    cases hasX n.op
    · exact e
    · exact ⟨by simp only [cond_true]; omega, by simp only [cond_true]; omega⟩
  · show i64ok (bif hasY n.op then (k2 : Int) else n.y)
    cases hasY n.op
    · exact g
    · exact ⟨by simp only [cond_true]; omega, by simp only [cond_true]; omega⟩
theorem fin_is {f : List Nd} (hf : Wf f) {i : Nat} {n : Nd} (hn : f[i]? = some n) {o o1 o2 : List Nd} {k1 k2 : Nat} (h1 : opX f n o = (o1, k1)) (h2 : opY f n o1 = (o2, k2)) :
    finN f i o = (addN o2 (n.with_ k1 k2), o2.idxOf (n.with_ k1 k2)) := by
  rw [finN_eq hf hn, h1]
  simp only [h2]
theorem slice_of_row {w : World} {base : Nat} {e : TypeId} {size n : Nat} {v : Value} {xs : List Value} (h : w.ownsRow base e size v n xs) : ∃ A c, v = .slice A n c := by
  rcases h.2 with ⟨rfl, rfl⟩ | ⟨g, cap, cur, rfl, _⟩
  · exact ⟨_, _, rfl⟩
  · exact ⟨_, _, rfl⟩
theorem tInfo : (Tryd.prog.info? 46).map (fun i => (i.zero, i.size, i.bytes)) = some (some Nd.zero.val, 6, 48) := by kernel_rfl
theorem done_put {f o o2 : List Nd} {mm : Nd} {i : Nat} (hf : Wf f) (hi : i < f.length) (hfin : finN f i o = (addN o2 mm, o2.idxOf mm)) {w w' : World} {b m : Nat} {D : D0}
    (h : w.ownsMap Tryd.prog 3 (plainElem Tryd.prog 3) b m D) (hm : m ≤ doneCount D f) (hD : DoneIs D f (addN o2 mm))
    (h' : w'.ownsMap Tryd.prog 3 (plainElem Tryd.prog 3) b (m + 1) (D.put (.int .i64 i) (.lit (.int .i64 (o2.idxOf mm : Nat))))) : DoneMap w' b f (addN o2 mm) := by
  have hag := finN_again hf i o (addN o2 mm) hi (by rw [hfin]; exact List.prefix_refl _)
  rw [hfin] at hag
  refine DoneMap.put h hm hD hi ?_ ?_
  · rw [hag]
  · rw [hag]; exact h'
theorem node_new (w : World) (m : Nd) : ∀ j u, m.cells[j]? = some u →
    (w.alloc (.cells #[.int .i64 m.op, .int .i64 m.i, .int .i64 m.e, .int .i64 m.g, .int .i64 m.x, .int .i64 m.y] 46)).cell? ((⟨w.heap.size, 0, none⟩ : Addr).add j) = some u := by
  intro j u hj
  have h := heap_alloc_new w (.cells #[.int .i64 m.op, .int .i64 m.i, .int .i64 m.e, .int .i64 m.g, .int .i64 m.x, .int .i64 m.y] 46)
  have e : ((⟨w.heap.size, 0, none⟩ : Addr).add j) = ⟨w.heap.size, j, none⟩ := by
    unfold Addr.add
    split
    · rename_i h0; rw [h0]
    · simp
  rw [e]
  simp only [World.cell?, h]
  rw [← hj]
  simp [Nd.cells]
theorem node_cells (m : Nd) : ∀ u ∈ m.cells, u.oneCell' = true := by
  intro u hu
  simp only [Nd.cells, List.mem_cons, List.mem_nil_iff, or_false] at hu
  rcases hu with rfl | rfl | rfl | rfl | rfl | rfl <;> rfl
theorem ownsMap_of_block {w w' : World} {P : Program} {k : TypeId} {R : Value → Option (D0 × List MemPlace)} {b n : Nat} {D : D0} (h : w.ownsMap P k R b n D) (hb : w'.heap[b]? = w.heap[b]?) : w'.ownsMap P k R b n D := by
  obtain ⟨es, clock, h1, h2⟩ := h
  exact ⟨es, clock, hb.trans h1, h2⟩
/-- What stands where behind the append. -/
theorem after_append {K : Blks} {W0 we w w4 : World} {A : Option Addr} {c : Nat} {f o : List Nd} {voe vo : Value} {bx bu : Nat} {m : Nd} {ux uy : Bool} {X : Obj} (h : CMid K W0 we w A c f o voe vo bx bu m ux uy)
    (hg : (w.alloc X).grownBy w4 vo.ownBlock) : w.heap.size ≤ w4.heap.size ∧ w4.heap[K.out]? = some (.cells #[vo] 28 (0, 0)) ∧
      w4.heap[bx]? = some (.cells #[.int .i64 m.op, .int .i64 m.i, .int .i64 m.e, .int .i64 m.g, .int .i64 m.x, .int .i64 m.y] 46 (0, 0)) ∧
      w4.heap[K.num]? = some (.cells #[.map (some K.mn)] 76 (0, 0)) ∧ w4.heap[K.mn]? = w.heap[K.mn]? ∧ K.num ≠ K.out ∧ K.out ≠ K.num ∧ bx ≠ K.out ∧ K.mn ≠ K.out := by
  obtain ⟨l1, l2, l3, l4, l5, l6, l7⟩ := h.env.lts
  obtain ⟨e1, e2, e3, e4, e5, e6, e7⟩ := h.envlt
  obtain ⟨f1, f2, f3, f4, f5⟩ := h.fresh
  have hra := h.env.row_apart
  obtain ⟨b1, b2, b3, b4, b5, b6, b7, b8, b9, b10, b11, b12, b13, b14⟩ := h.env.blks_apart
  have ea : Ext w (w.alloc X) := (Ext.refl _).alloc _
  have k4 : ∀ b, b < w.heap.size → some b ≠ vo.ownBlock → w4.heap[b]? = w.heap[b]? := fun b hb hne => (hg.block b (Nat.lt_of_lt_of_le hb ea.size) hne).trans (ea.block hb)
  have ro : ∀ b, (∀ g, vo.ownBlock = some g → g ≠ b) → some b ≠ vo.ownBlock := fun b hb e => hb b e.symm rfl
  exact ⟨Nat.le_trans ea.size hg.size, (k4 _ l2 (ro _ fun g hg => (hra g hg).2.1)).trans h.env.blk_out, (k4 _ (lt_heap h.box) (Ne.symm f4)).trans h.box,
    (k4 _ l4 (ro _ fun g hg => (hra g hg).2.2.2.1)).trans h.env.blk_num, k4 _ l6 (ro _ fun g hg => (hra g hg).2.2.2.2.2.1), Ne.symm b3, b3, by omega, Ne.symm b5⟩
theorem idx_lt {K : Blks} {W0 we w : World} {A : Option Addr} {c : Nat} {f o2 : List Nd} {voe vo : Value} {bx bu : Nat} {m : Nd} {ux uy : Bool} (_h : CMid K W0 we w A c f (addN o2 m) voe vo bx bu m ux uy) (hp : pot f o2 ≤ f.length) (hlen : f.length ≤ 1000) :
    o2.idxOf m < 2000 := by
  have h1 := idxOf_lt_addN o2 m
  have h2 := length_le_pot f o2
  have h3 : (addN o2 m).length ≤ o2.length + 1 := by
    unfold addN
    split
    · omega
    · simp
  omega

set_option maxRecDepth 100000 in
set_option maxHeartbeats 1000000 in
theorem finish_new {K : Blks} {W0 w : World} {A : Option Addr} {c : Nat} {f o : List Nd} {vo : Value} (hf : Wf f) (hok : ∀ n ∈ f, n.ok) (h : CEnv K W0 w A c f o vo) (hlen : f.length ≤ 1000) (i : Nat) (n : Nd) (hn : f[i]? = some n) (D : D0) (m : Nat)
    (hown : w.ownsMap Tryd.prog 3 (plainElem Tryd.prog 3) K.md m D) (hD : DoneIs D f o) (hno : has D (.int .i64 i) = false) (hne : K.mn ≠ K.md) (hpot : pot f o ≤ f.length)
    (ih : ∀ z : Int, 0 ≤ z → z < i → FinishSaid K W0 A c f z) (ux uy : Bool) (hux : hasX n.op = ux) (huy : hasY n.op = uy) :
    Calls Tryd.prog 57 #[.int .i64 i, .pointer (some ⟨K.done, 0, none⟩), .pointer (some ⟨K.f, 0, none⟩), .pointer (some ⟨K.fin_, 0, none⟩), .pointer (some ⟨K.num, 0, none⟩), .pointer (some ⟨K.out, 0, none⟩)] w
      fun e w' => ∃ vo', e = .returned (.int .i64 (finN f i o).2) ∧ CEnv K W0 w' A c f (finN f i o).1 vo' ∧ CStep K w w' vo vo' := by
  have hi : i < f.length := (List.getElem?_eq_some_iff.1 hn).1
  have cd := cell_of_one h.blk_done
  have cf := cell_of_one h.blk_f
  obtain ⟨l1, l2, l3, l4, l5, l6, l7⟩ := h.lts
  have hkey := keyOf_int (a := (i : Int)) ⟨by omega, by omega⟩
  obtain ⟨ad, rfl, hlt, hcells⟩ := h.nds.2.2 (by intro e; rw [e] at hi; simp at hi)
  have hcapl := h.nds.1
  have hcapm := h.nds.2.1
  unfold maxLen at hcapm
  obtain ⟨c0, c1, c2, c3, c4, c5⟩ := (hcells i n hn).keep fun p hp => h.below.cell (p := p) (by rw [hp, block_of_add]; exact hlt)
  have H := Lib.hid h; have HN := Lib.hid hn; have HUX := Lib.hid hux; have HUY := Lib.hid huy; have IH := Lib.hid ih; have HD := Lib.hid hD; have HF := Lib.hid hf; have HOK := Lib.hid hok
  clear h hn hux huy ih hD hcells hf hok
  go_enter Tryd.func57, Tryd.ntmps57
  go_upto_region 6 with (first | (at_lookup; refine wpList_lookup_own_ok_int _ rfl _ _ 77 rfl 3 3 .i64 intKeyed Tryd.underlying77 Tryd.underlying3 (zeroInt _) K.md m D rfl hown _ _ rfl hkey ?_; intro cc hat hwc; clear hat hwc) | (go_at_call 30; refine (uses_as _ _ _ _ _ _ _ _ HUX.out HUY.out rfl rfl rfl rfl rfl _).mono ?_; rintro e w1 ⟨rfl, hb⟩))
  have hmid := CMid.start (ux := ux) (uy := uy) H.out n (.bool (hasFact n.op)) (.bool (hasAgent n.op)) (.bool (hasGroup n.op)) (.bool (hasEvent n.op)) (.int .i64 (fragOf n.op)) hb
  go_cut [34] (fun s34 wx => s34 = .bool ux ∧ CMid K W0 w wx (some ad) c f o vo vo w.heap.size w1.heap.size n ux uy)
  case first =>
    obtain ⟨u2, u3, u4, u5, u6, hu⟩ := hmid.use
    obtain ⟨d0, d1, d2⟩ := use2 hu
    go_wp2_with fail
    go_meet
    exact ⟨rfl, hmid⟩
  case rest =>
    obtain ⟨rfl, hmid⟩ := hcut
    have HP := Lib.hid hpot
    clear hpot
    go_upto_if 34 with (fail)
    go_cut [] (fun wx => ∃ vo1, CMid K W0 w wx (some ad) c f (opX f n o).1 vo vo1 w.heap.size w1.heap.size (n.with_ (opX f n o).2 n.y.toNat) ux uy)
    case first =>
      cases ux
      · go_wp2_with fail
        go_meet
        exact ⟨vo, by rw [opX_no HUX.out, with_x HUX.out (fun e => ((HF.out i n HN.out).2 e).1)]; exact hmid⟩
      · obtain ⟨⟨d0, d1, d2, d3, d4, d5⟩, dfr, dlt⟩ := cells6 hmid.box
        have dfin := cell_of_one hmid.env.blk_fin
        unfold Blks.caps at dfin
        obtain ⟨hx0, hx1⟩ := (HF.out i n HN.out).1 HUX.out
        have HM := Lib.hid hmid
        clear hmid
        go_wp2_with fail
        refine (IH.out n.x hx0 hx1 _ _ _ HM.out.env HP.out).mono ?_
        rintro e w2 ⟨vo1, rfl, henv, hstep⟩
        have HM2 := Lib.hid (HM.out.call henv hstep)
        clear henv hstep d0 d1 d2 d3 d4 d5 dfr dlt dfin
        obtain ⟨⟨d0, d1, d2, d3, d4, d5⟩, dfr, dlt⟩ := cells6 HM2.out.box
        go_wp2_with fail
        go_meet
        refine ⟨vo1, ?_⟩
        rw [opX_yes HUX.out]
        exact HM2.out.store 4 _ _ (store_x HUX.out (fun e => ((HF.out i n HN.out).2 e).1))
    case rest =>
      obtain ⟨vo1, hmid1⟩ := hcut
      have HP1 : Hid (pot f (opX f n o).1 ≤ f.length) := Lib.hid (Nat.le_trans (pot_opX HF.out HN.out o) HP.out)
      obtain ⟨o1, k1, ho1⟩ : ∃ o1 k1, opX f n o = (o1, k1) := ⟨_, _, rfl⟩
      have HO1 := Lib.hid ho1
      rw [ho1] at hmid1 HP1
      simp only at hmid1 HP1
      clear ho1 hmid cd cf c0 c1 c2 c3 c4 c5 hkey hown hno hb
      obtain ⟨u2, u3, u4, u5, u6, hu⟩ := hmid1.use
      obtain ⟨d0, d1, d2⟩ := use2 hu
      have HM := Lib.hid hmid1
      clear hmid1 hu
      go_upto_if 41 with (fail)
      go_cut [] (fun wx => ∃ vo2, CMid K W0 w wx (some ad) c f (opY f n o1).1 vo vo2 w.heap.size w1.heap.size (n.with_ k1 (opY f n o1).2) ux uy)
      case first =>
        clear d0 d1 d2
        cases uy
        · go_wp2_with fail
          go_meet
          exact ⟨vo1, by rw [opY_no HUY.out, with_y2 HUY.out]; exact HM.out⟩
        · have hy := (HF.out i n HN.out).2 HUY.out
          obtain ⟨hy0, hy1⟩ := hy
          obtain ⟨⟨d0, d1, d2, d3, d4, d5⟩, dfr, dlt⟩ := cells6 HM.out.box
          rw [with_y_val HUY.out hy0] at d5
          have dfin := cell_of_one HM.out.env.blk_fin
          unfold Blks.caps at dfin
          go_wp2_with fail
          refine (IH.out n.y hy0 hy1 _ _ _ HM.out.env HP1.out).mono ?_
          rintro e w2 ⟨vo2, rfl, henv, hstep⟩
          have HM2 := Lib.hid (HM.out.call henv hstep)
          clear henv hstep d0 d1 d2 d3 d4 d5 dfr dlt dfin
          obtain ⟨⟨d0, d1, d2, d3, d4, d5⟩, dfr, dlt⟩ := cells6 HM2.out.box
          go_wp2_with fail
          go_meet
          refine ⟨vo2, ?_⟩
          rw [opY_yes HUY.out]
          exact HM2.out.store 5 _ _ (store_y HUY.out _ rfl)
      case rest =>
        clear d0 d1 d2
        obtain ⟨vo2, hmid2⟩ := hcut
        have HP2 : Hid (pot f (opY f n o1).1 ≤ f.length) := Lib.hid (Nat.le_trans (pot_opY HF.out HN.out o1) HP1.out)
        obtain ⟨o2, k2, ho2⟩ : ∃ o2 k2, opY f n o1 = (o2, k2) := ⟨_, _, rfl⟩
        have HO2 := Lib.hid ho2
        rw [ho2] at hmid2 HP2
        simp only at hmid2 HP2
        clear ho2
        have hk1 : k1 ≤ 1000 := k1_le HF.out HN.out HO1.out hlen HP1.out
        have hk2 : k2 ≤ 1000 := k2_le HF.out HN.out HO2.out hlen HP2.out
        have HMOK := Lib.hid (with_ok (HOK.out n (List.mem_of_getElem? HN.out)) hk1 hk2)
        have HFIN := Lib.hid (fin_is HF.out HN.out HO1.out HO2.out)
        clear hk1 hk2
        generalize n.with_ k1 k2 = mm at hmid2 HMOK HFIN
        obtain ⟨D2, q2, hown2, hq2, hD2⟩ := hmid2.env.nums
        obtain ⟨⟨d0, d1, d2, d3, d4, d5⟩, dfr, dlt⟩ := cells6 hmid2.box
        have dnum := cell_of_one hmid2.env.blk_num
        have hkey2 : keyOf Tryd.prog 46 (.agg #[.int .i64 mm.op, .int .i64 mm.i, .int .i64 mm.e, .int .i64 mm.g, .int .i64 mm.x, .int .i64 mm.y]) = some (nkey mm) := keyOf_node HMOK.out
        have HD2 := Lib.hid hD2
        have HM := Lib.hid hmid2
        clear hD2 hmid2
        go_upto_if 54 with (at_lookup; refine wpList_lookup_own_ok_int _ rfl _ _ 76 rfl 46 3 .i64 nodeKeyed Tryd.underlying76 Tryd.underlying3 (zeroInt _) K.mn q2 D2 rfl hown2 _ _ rfl hkey2 ?_; intro c2 hat hwc)
        have HAT := Lib.hid hat
        clear hat hwc
        go_cut [13, 14] (fun s13 _ wx => s13 = .int .i64 (o2.idxOf mm : Nat) ∧ ∃ vo3, CMid K W0 w wx (some ad) c f (addN o2 mm) vo vo3 w.heap.size w1.heap.size mm ux uy)
        case first =>
          by_cases hin : mm ∈ o2
          · have hh : has D2 (nkey mm) = true := by rw [(HD2.out mm HMOK.out).1]; simpa using hin
            have HADD := Lib.hid (show addN o2 mm = o2 by unfold addN; rw [if_pos hin])
            have HVAL := Lib.hid (((HD2.out mm HMOK.out).2 hin (.lit (.int .i64 0))).symm.trans HAT.out)
            clear hin
            rw [hh]
            go_wp2_with fail
            go_meet
            have e1 := HVAL.out
            injection e1 with e1
            injection e1 with _ e1
            exact ⟨by rw [e1], vo2, by rw [HADD.out]; exact HM.out⟩
          · have hh : has D2 (nkey mm) = false := by rw [(HD2.out mm HMOK.out).1]; simpa using hin
            have HIN := Lib.hid hin
            have HADD := Lib.hid (show addN o2 mm = o2 ++ [mm] by unfold addN; rw [if_neg hin])
            have HIX := Lib.hid (List.idxOf_eq_length hin)
            clear hin
            rw [hh]
            have hrow := HM.out.env.row
            obtain ⟨Ao, co, rfl⟩ : ∃ Ao co, vo2 = .slice Ao o2.length co := slice_of_row hrow
            have dout := cell_of_one HM.out.env.blk_out
            obtain ⟨i0, hi0, hz0, hz1, hz2⟩ := info_parts tInfo
            have hlen2 : o2.length ≤ 1000 := Nat.le_trans (length_le_pot f o2) (Nat.le_trans HP2.out hlen)
            have hc3 : o2.length + 1 ≤ maxLen := by unfold maxLen; omega
            have hc4 : (o2.length + 1) * 48 ≤ 140737488355328 := by omega
            have hc5 : ∀ X, W0.heap.size ≤ (wc.alloc X).heap.size := fun X => by
              have := HM.out.env.below.size
              simp
              omega
            go_wp2_with (at_builtin; refine wpList_append_own_at _ rfl _ _ 28 rfl W0.heap.size 46 i0 Nd.zero.val 6 48 Tryd.underlying28 hi0 hz0 hz1 hz2 rfl (by decide) _ _ _ rfl (hrow.alloc _) ⟨wc.heap.size, 0, none⟩ 1 1 mm.cells rfl rfl (node_new wc mm) (node_cells mm) hc3 hc4 (hc5 _) ?_)
            intro v' w4 hown4 hgrow4 _ hat4
            obtain ⟨A', c', rfl⟩ := slice_of_row hown4
            obtain ⟨hsz4, kout, kbox, knum, kmap, ke1, ke2, ke3, ke4⟩ := after_append HM.out hgrow4
            clear d0 d1 d2 d3 d4 d5 dfr dlt dnum dout
            obtain ⟨⟨d0, d1, d2, d3, d4, d5⟩, dfr, dlt⟩ := cells6 kbox
            have dout := cell_of_one kout
            have dfree := free_of_one kout
            have dnum := cell_of_one knum
            have hel : (plainElem Tryd.prog 3 (.int .i64 ((o2.length : Nat) : Int)) : Option (D0 × List MemPlace)) = some (.lit (.int .i64 ((o2.length : Nat) : Int)), []) := elem_int ⟨by omega, by omega⟩
            have hown5 := (ownsMap_of_block hown2 kmap).setCell (a := ⟨K.out, 0, none⟩) ke4 (.slice A' (o2.length + 1) c')
            go_wp2_with (at_mapUpdate; refine wpList_mapUpdate_own _ rfl _ _ _ 76 rfl 46 3 nodeKeyed Tryd.underlying76 _ K.mn q2 D2 rfl hown5 (by unfold maxLen; omega) _ _ _ rfl rfl hkey2 _ [] hel ?_; intro w6 hown6 hgrow6)
            go_meet
            refine ⟨by rw [HIX.out], .slice A' (o2.length + 1) c', ?_⟩
            rw [HADD.out]
            exact HM.out.added HF.out HIN.out HMOK.out hne hown4 hgrow4 (hat4.imp id fun e => by rw [e]; simp) hown2 hq2 HD2.out hown6 hgrow6
        case rest =>
          clear d0 d1 d2 d3 d4 d5 dfr dlt dnum hown2 hkey2
          obtain ⟨rfl, vo3, hmid3⟩ := hcut
          obtain ⟨D3, q3, hown3, hq3, hD3⟩ := hmid3.env.dones
          have ddone := cell_of_one hmid3.env.blk_done
          have hq4 := doneCount_le D3 f
          have hkey3 := keyOf_int (a := (i : Int)) ⟨by omega, by omega⟩
          have HD3 := Lib.hid hD3
          have HM3 := Lib.hid hmid3
          have hix : o2.idxOf mm < 2000 := idx_lt HM3.out HP2.out hlen
          have hel : (plainElem Tryd.prog 3 (.int .i64 ((o2.idxOf mm : Nat) : Int)) : Option (D0 × List MemPlace)) = some (.lit (.int .i64 ((o2.idxOf mm : Nat) : Int)), []) := elem_int ⟨by omega, by omega⟩
          clear hD3 hmid3
          go_wp2_with (at_mapUpdate; refine wpList_mapUpdate_own _ rfl _ _ _ 77 rfl 3 3 intKeyed Tryd.underlying77 _ K.md q3 D3 rfl hown3 (by unfold maxLen; omega) _ _ _ rfl rfl hkey3 _ [] hel ?_; intro w7 hown7 hgrow7)
          have HDONE := Lib.hid (done_put HF.out hi HFIN.out hown3 hq3 HD3.out hown7)
          have HEND := Lib.hid (HM3.out.finish hgrow7 HDONE.out hne)
          go_ret
          refine ⟨vo3, ret_int ?_, ?_, HEND.out.2⟩
          · rw [HFIN.out]
          · rw [HFIN.out]
            exact HEND.out.1
end Go.Proofs.YtohoddkcpfamlaaDoor

/- formula.compact returns the canonical list of a node of a list whose operands stand before their nodes. -/

namespace Go.Proofs.YtohoddkcpfamlaaDoor
open Go.RowKit
open Go.Maps (has)

theorem finish_any {K : Blks} {W0 : World} {A : Option Addr} {c : Nat} {f : List Nd} (hf : Wf f) (hok : ∀ n ∈ f, n.ok) (hlen : f.length ≤ 1000) (hne : K.mn ≠ K.md) :
    ∀ i : Nat, i < f.length → FinishSaid K W0 A c f i := by
  intro i
  induction i using Nat.strongRecOn with
  | _ i ih =>
    intro hi w o vo henv hpot
    obtain ⟨n, hn⟩ : ∃ n, f[i]? = some n := ⟨_, List.getElem?_eq_getElem hi⟩
    obtain ⟨D, m, hown, _, hD⟩ := henv.dones
    rw [Int.toNat_natCast]
    cases hh : has D (.int .i64 i)
    · refine finish_new hf hok henv hlen i n hn D m hown hD hh hne hpot (fun z h0 h1 => ?_) _ _ rfl rfl
      obtain ⟨j, rfl⟩ := Int.eq_ofNat_of_zero_le h0
      exact ih j (by omega) (by omega)
    · refine (finish_done henv hlen i hi D m hown hD hh).mono ?_
      rintro e w' ⟨rfl, rfl⟩
      refine ⟨vo, rfl, ?_, CStep.refl _ _ _⟩
      have := (hD i hh).2.1
      rw [this]
      exact henv

/-- The captured variables' blocks, from a heap's size on. -/
def Blks.at_ (s : Nat) : Blks := ⟨s, s + 1, s + 1 + 1 + 1 + 1 + 1, s + 1 + 1 + 1, s + 1 + 1 + 1 + 1 + 1 + 1, s + 1 + 1, s + 1 + 1 + 1 + 1⟩
def startWorld (w : World) (A : Option Addr) (c n : Nat) : World :=
  ((((((w.alloc (Obj.cells #[Value.slice A n c] 28)).alloc (Obj.cells #[Value.slice none 0 0] 28)).alloc (Obj.map #[] 0)).alloc (Obj.cells #[Value.map (some (w.heap.size + 1 + 1))] 76)).alloc
    (Obj.map #[] 0)).alloc (Obj.cells #[Value.map (some (w.heap.size + 1 + 1 + 1 + 1))] 77)).alloc
    (Obj.cells #[Value.func (Fn.func 57) #[] (Blks.at_ w.heap.size).caps] 78)
theorem laid_at {w w' : World} {o : Obj} {k : Nat} (h : Ext (w.alloc o) w') (hk : k = w.heap.size) : w'.heap[k]? = some o := by
  subst hk
  exact (h.block (by simp)).trans (heap_alloc_new w o)
theorem start_env (w : World) (A : Option Addr) (c : Nat) (f : List Nd) (h : NdsAt w A c f) : CEnv (Blks.at_ w.heap.size) w (startWorld w A c f.length) A c f [] (.slice none 0 0) := by
  have hb : Below w.heap.size w (startWorld w A c f.length) := ((((((((Ext.refl w).alloc _).alloc _).alloc _).alloc _).alloc _).alloc _).alloc _)
  refine ⟨hb, h, laid_at (((((((Ext.refl _).alloc _).alloc _).alloc _).alloc _).alloc _).alloc _) rfl, laid_at ((((((Ext.refl _).alloc _).alloc _).alloc _).alloc _).alloc _) (by simp [Blks.at_]), laid_at ((Ext.refl _).alloc _) (by simp [Blks.at_]), laid_at ((((Ext.refl _).alloc _).alloc _).alloc _) (by simp [Blks.at_]), laid_at (Ext.refl _) (by simp [Blks.at_]), World.ownsRow_nil _ _ _ _, ?_, ?_, ?_, ?_, by simp⟩
  · have h2 : (startWorld w A c f.length).heap[(Blks.at_ w.heap.size).mn]? = some (.map #[] 0) := laid_at (((((Ext.refl _).alloc _).alloc _).alloc _).alloc _) (by simp [Blks.at_])
    exact ⟨.map [], 0, ⟨#[], 0, h2, ⟨by simp, MapKept.stamped_empty 0, by simp⟩, Nat.le_refl _, rfl⟩, Nat.le_refl _, fun n _ => ⟨by simp [has], fun h => by cases h⟩⟩
  · have h2 : (startWorld w A c f.length).heap[(Blks.at_ w.heap.size).md]? = some (.map #[] 0) := laid_at (((Ext.refl _).alloc _).alloc _) (by simp [Blks.at_])
    exact ⟨.map [], 0, ⟨#[], 0, h2, ⟨by simp, MapKept.stamped_empty 0, by simp⟩, Nat.le_refl _, rfl⟩, Nat.zero_le _, fun i h => by simp [has] at h⟩
  · simp only [Blks.at_]; omega
  · simp only [Blks.at_]; omega

set_option maxHeartbeats 1000000 in
theorem compact_any (f : List Nd) (A : Option Addr) (c r : Nat) (w : World) (hf : Wf f) (hok : ∀ n ∈ f, n.ok) (hlen : f.length ≤ 1000) (hr : r < f.length) (h : NdsAt w A c f) :
    Calls Tryd.prog 53 #[.slice A f.length c, .int .i64 r] w fun e w' => ∃ v, e = .returned v ∧ w'.ownsRow w.heap.size 46 6 v (finN f r []).1.length ((finN f r []).1.flatMap Nd.cells) ∧ (∀ n ∈ (finN f r []).1, n.ok) ∧ Ext w w' := by
  have hmm := @run_makeMap Tryd.prog
  have hmf : ∀ (fn : Fn) (first cap : Array Value) (w : World), (Instr.makeFunc fn first cap).run Tryd.prog w = .ok (.func fn first cap) w := fun _ _ _ _ => rfl
  have HE := Lib.hid (start_env w A c f h)
  have HF := Lib.hid (finish_any (K := Blks.at_ w.heap.size) (W0 := w) (A := A) (c := c) hf hok hlen (by simp only [Blks.at_]; omega) r hr _ _ _ HE.out (pot_nil f))
  clear hf hok h
  go_enter Tryd.func53, Tryd.ntmps53
  go_wp2_with fail
  refine HF.out.mono ?_
  rw [Int.toNat_natCast]
  rintro e w1 ⟨vo', rfl, henv, _⟩
  have HENV := Lib.hid henv
  have hout := cell_of_one henv.blk_out
  simp only [Blks.at_] at hout
  obtain ⟨Ao, co, rfl⟩ := slice_of_row henv.row
  clear henv
  go_wp2_with fail
  go_ret
  exact ⟨_, rfl, HENV.out.row, HENV.out.oks, HENV.out.below⟩
end Go.Proofs.YtohoddkcpfamlaaDoor

/- Checked lists are well formed; subformulas. -/

namespace Go.Proofs.YtohoddkcpfamlaaDoor

theorem checkNodes_all : ∀ (l : List Nd) (a : Int), checkNodes l a = 0 → ∀ (k : Nat) (n : Nd), l[k]? = some n → nodeErr n (a + k) = 0
  | [], _, _, k, n, h => by simp at h
  | m :: r, a, hc, k, n, h => by
    unfold checkNodes at hc
    by_cases h0 : nodeErr m a = 0
    · rw [h0] at hc
      cases k with
      | zero =>
        simp only [List.getElem?_cons_zero, Option.some.injEq] at h
        subst h
        simpa using h0
      | succ k =>
        have := checkNodes_all r (a + 1) (by simpa using hc) k n (by simpa using h)
        rw [← this]
        congr 1
        omega
    · have hb : (nodeErr m a != 0) = true := by simpa using h0
      rw [hb] at hc
      exact absurd hc h0
theorem checkNodes_of : ∀ (l : List Nd) (a : Int), (∀ (k : Nat) (n : Nd), l[k]? = some n → nodeErr n (a + k) = 0) → checkNodes l a = 0
  | [], _, _ => rfl
  | m :: r, a, h => by
    unfold checkNodes
    have h0 : nodeErr m a = 0 := by simpa using h 0 m (by simp)
    rw [h0]
    have := checkNodes_of r (a + 1) fun k n hk => by
      have := h (k + 1) n (by simpa using hk)
      rw [← this]
      congr 1
      omega
    simpa using this
theorem nodeErr_op {n : Nd} {a : Int} (h : nodeErr n a = 0) : isOp n.op = true := by
  cases ho : isOp n.op
  · simp [nodeErr, ho] at h
  · rfl
theorem nodeErr_xy {n : Nd} {a : Int} (h : nodeErr n a = 0) : operandOk (hasX n.op) n.x a = true ∧ operandOk (hasY n.op) n.y a = true := by
  have ho := nodeErr_op h
  cases hx : operandOk (hasX n.op) n.x a
  · simp [nodeErr, ho, hx] at h
  · cases hy : operandOk (hasY n.op) n.y a
    · simp [nodeErr, ho, hx, hy] at h
    · exact ⟨rfl, rfl⟩
theorem nodeErr_form {n : Nd} {a : Int} (h : nodeErr n a = 0) : formBad n = false ∧ rangeBad n = false := by
  have ho := nodeErr_op h
  obtain ⟨hx, hy⟩ := nodeErr_xy h
  cases hf : formBad n
  · cases hr : rangeBad n
    · exact ⟨rfl, rfl⟩
    · simp [nodeErr, ho, hx, hy, hf, hr] at h
  · simp [nodeErr, ho, hx, hy, hf] at h
theorem nodeErr_of {n : Nd} {a : Int} (ho : isOp n.op = true) (hx : operandOk (hasX n.op) n.x a = true) (hy : operandOk (hasY n.op) n.y a = true) (hf : formBad n = false) (hr : rangeBad n = false) : nodeErr n a = 0 := by
  simp [nodeErr, ho, hx, hy, hf, hr]
theorem check_parts {f : List Nd} (h : check f = 0) : 0 < f.length ∧ f.length ≤ 200 ∧ checkNodes f 0 = 0 := by
  unfold check at h
  by_cases h0 : f.length = 0
  · simp [h0] at h
  · by_cases h1 : 200 < f.length
    · simp [h0, h1] at h
    · simp [h0, h1] at h
      exact ⟨by omega, by omega, h⟩
theorem wf_of_nodes {f : List Nd} (h : checkNodes f 0 = 0) : Wf f := by
  intro i n hn
  have h1 := checkNodes_all f 0 h i n hn
  obtain ⟨hx, hy⟩ := nodeErr_xy h1
  refine ⟨fun e => ?_, fun e => ?_⟩
  · rw [e] at hx
    simp [operandOk] at hx
    omega
  · rw [e] at hy
    simp [operandOk] at hy
    omega
theorem check_wf {f : List Nd} (h : check f = 0) : Wf f := wf_of_nodes (check_parts h).2.2

/-- The canonical list of a node of a formula; nothing if it is none. -/
def subN (f : List Nd) (z : Int) : List Nd := bif check f != 0 || (decide (z < 0) || decide ((f.length : Int) ≤ z)) then [] else (finN f z.toNat []).1
def compactN (f : List Nd) : List Nd := subN f (f.length - 1 : Int)
def sameN (a b : List Nd) : Bool := check a == 0 && (check b == 0 && decide (compactN a = compactN b))
def fragMask (l : List Nd) : Nat := l.foldl (fun m n => m ||| (fragOf n.op).toNat) 0
def fragsN (f : List Nd) : Nat := fragMask (compactN f)
theorem compactN_eq {f : List Nd} (h : check f = 0) : compactN f = (finN f (f.length - 1) []).1 := by
  have hl := (check_parts h).1
  unfold compactN subN
  have h1 : decide ((f.length : Int) - 1 < 0) = false := by simp; omega
  have h2 : decide ((f.length : Int) ≤ (f.length : Int) - 1) = false := by simp; omega
  rw [h, h1, h2]
  have : ((f.length : Int) - 1).toNat = f.length - 1 := by omega
  rw [this]
  rfl
end Go.Proofs.YtohoddkcpfamlaaDoor

/- formula.Sub and formula.Compact. -/

namespace Go.Proofs.YtohoddkcpfamlaaDoor
open Go.RowKit

/-- A formula's value: it reads as a list of nodes whose fields are integers of Go's. -/
def Fml (w : World) (v : Value) (l : List Nd) : Prop := Nds w v l ∧ ∀ n ∈ l, n.ok
/-- A list of nodes that a call has made. -/
def Made (w w' : World) (v : Value) (l : List Nd) : Prop := w'.ownsRow w.heap.size 46 6 v l.length (l.flatMap Nd.cells) ∧ (∀ n ∈ l, n.ok) ∧ Ext w w'
theorem Fml.ext {w w' : World} {v : Value} {l : List Nd} (h : Fml w v l) (he : Ext w w') : Fml w' v l := ⟨h.1.ext he, h.2⟩

theorem flat_get : ∀ (l : List Nd) (k : Nat) (n : Nd) (j : Nat), l[k]? = some n → j < 6 → (l.flatMap Nd.cells)[k * 6 + j]? = n.cells[j]?
  | [], k, n, j, h, _ => by simp at h
  | m :: r, 0, n, j, h, hj => by
    simp only [List.getElem?_cons_zero, Option.some.injEq] at h
    subst h
    rw [List.flatMap_cons, List.getElem?_append_left (by simp [Nd.cells]; omega)]
    simp
  | m :: r, k + 1, n, j, h, hj => by
    rw [List.flatMap_cons, List.getElem?_append_right (by simp [Nd.cells]; omega)]
    have e : (k + 1) * 6 + j - m.cells.length = k * 6 + j := by simp [Nd.cells]; omega
    rw [e]
    exact flat_get r k n j (by simpa using h) hj

theorem nds_of_row {w : World} {base : Nat} {v : Value} {l : List Nd} (h : w.ownsRow base 46 6 v l.length (l.flatMap Nd.cells)) : Nds w v l := by
  have hc0 := h
  obtain ⟨_, h2⟩ := h
  rcases h2 with ⟨rfl, h0⟩ | ⟨g, cap, cur, rfl, hb, hg, hn, hcap, hsz, htk⟩
  · have : l = [] := List.length_eq_zero_iff.1 h0
    subst this
    exact ⟨none, 0, rfl, Nat.le_refl _, by unfold maxLen; omega, fun h => absurd rfl h⟩
  · refine ⟨some ⟨g, 0, none⟩, cap, rfl, hn, hcap, fun hne => ⟨_, rfl, lt_heap hg, fun k n hk => ?_⟩⟩
    have hkl : k < l.length := (List.getElem?_eq_some_iff.1 hk).1
    have cell : ∀ j, j < 6 → ∀ u, n.cells[j]? = some u → w.cell? ⟨g, k * 6 + j, none⟩ = some u := by
      intro j hj u hu
      have h1 := flat_get l k n j hk hj
      rw [← htk, hu] at h1
      have h2 : cur[k * 6 + j]? = some u := by
        rw [List.getElem?_take] at h1
        split at h1
        · simpa using h1
        · cases h1
      simp [World.cell?, hg, h2]
    have e0 : ((⟨g, 0, none⟩ : Addr).add (k * 6)) = ⟨g, k * 6, none⟩ := by
      unfold Addr.add
      split
      · rename_i h; rw [h]
      · simp
    rw [e0]
    exact ⟨cell 0 (by omega) _ rfl, cell 1 (by omega) _ rfl, cell 2 (by omega) _ rfl, cell 3 (by omega) _ rfl, cell 4 (by omega) _ rfl, cell 5 (by omega) _ rfl⟩
theorem Made.fml {w w' : World} {v : Value} {l : List Nd} (h : Made w w' v l) : Fml w' v l := ⟨nds_of_row h.1, h.2.1⟩
theorem Made.ext {w w' : World} {v : Value} {l : List Nd} (h : Made w w' v l) : Ext w w' := h.2.2
theorem Made.none_ (w : World) : Made w w (.slice none 0 0) [] := ⟨World.ownsRow_nil _ _ _ _, by simp, Ext.refl _⟩
theorem row_base {w : World} {b b' : Nat} {e : TypeId} {size n : Nat} {v : Value} {xs : List Value} (h : w.ownsRow b e size v n xs) (hb : b' ≤ b) : w.ownsRow b' e size v n xs := by
  obtain ⟨h1, h2⟩ := h
  refine ⟨h1, ?_⟩
  rcases h2 with h2 | ⟨g, cap, cur, e, h3, h4⟩
  · exact .inl h2
  · exact .inr ⟨g, cap, cur, e, Nat.le_trans hb h3, h4⟩
theorem Made.before {w0 w w' : World} {v : Value} {l : List Nd} (h : Made w w' v l) (he : Ext w0 w) : Made w0 w' v l := ⟨row_base h.1 he.size, h.2.1, he.trans h.2.2⟩
theorem Made.after {w w' w2 : World} {v : Value} {l : List Nd} (h : Made w w' v l) (he : Ext w' w2) : Made w w2 v l :=
  ⟨row_keep h.1 fun g hg => he.block (h.1.lt g hg).2, h.2.1, h.2.2.trans he⟩

set_option maxHeartbeats 400000 in
theorem sub_any (v : Value) (l : List Nd) (z : Int) (w : World) (h : Fml w v l) :
    Calls Tryd.prog 33 #[v, .int .i64 z] w fun e w' => ∃ u, e = .returned u ∧ Made w w' u (subN l z) := by
  have H := Lib.hid h
  obtain ⟨⟨A, c, rfl, hat⟩, hok⟩ := h
  have HAT := Lib.hid hat
  clear hat hok
  by_cases hbad : check l ≠ 0 ∨ z < 0 ∨ (l.length : Int) ≤ z
  · have HR := Lib.hid (show subN l z = [] by
      unfold subN
      rcases hbad with h | h | h
      · have : (check l != 0) = true := by simpa using h
        rw [this]; rfl
      · simp [h]
      · simp [h])
    by_cases hc : check l = 0
    · have hbad' : z < 0 ∨ (l.length : Int) ≤ z := by
        rcases hbad with h | h
        · exact absurd hc h
        · exact h
      have HC := Lib.hid hc
      clear hc hbad
      by_cases hz : z < 0
      · clear hbad'
        go_enter Tryd.func33, Tryd.ntmps33
        go_wp2_with (go_at_call 6; refine (check_any _ l _ H.out.1).mono ?_; rintro e w1 ⟨rfl, hb⟩; rw [HC.out])
        go_ret
        exact ⟨_, rfl, by rw [HR.out]; exact (Made.none_ _).after hb⟩
      · have hl : (l.length : Int) ≤ z := by omega
        clear hbad'
        go_enter Tryd.func33, Tryd.ntmps33
        go_wp2_with (go_at_call 6; refine (check_any _ l _ H.out.1).mono ?_; rintro e w1 ⟨rfl, hb⟩; rw [HC.out])
        go_ret
        exact ⟨_, rfl, by rw [HR.out]; exact (Made.none_ _).after hb⟩
    · have hb1 : (check l != 0) = true := by simpa using hc
      clear hbad hc
      go_enter Tryd.func33, Tryd.ntmps33
      go_wp2_with (go_at_call 6; refine (check_any _ l _ H.out.1).mono ?_; rintro e w1 ⟨rfl, hb⟩)
      go_ret
      exact ⟨_, rfl, by rw [HR.out]; exact (Made.none_ _).after hb⟩
  · have hc : check l = 0 := by
      by_cases e : check l = 0
      · exact e
      · exact absurd (.inl e) hbad
    have hz0 : 0 ≤ z := by
      by_cases e : z < 0
      · exact absurd (.inr (.inl e)) hbad
      · omega
    have hz1 : z < l.length := by
      by_cases e : (l.length : Int) ≤ z
      · exact absurd (.inr (.inr e)) hbad
      · omega
    clear hbad
    obtain ⟨r, rfl⟩ := Int.eq_ofNat_of_zero_le hz0
    have hr : r < l.length := by omega
    have HR := Lib.hid (show subN l r = (finN l r []).1 by
      unfold subN
      rw [hc]
      have h1 : decide ((r : Int) < 0) = false := by simp
      have h2 : decide ((l.length : Int) ≤ (r : Int)) = false := by simp; omega
      rw [h1, h2]
      rfl)
    have HC := Lib.hid hc
    have HL := (check_parts hc).2.1
    clear hc
    go_enter Tryd.func33, Tryd.ntmps33
    go_wp2_with (go_at_call 6; refine (check_any _ l _ H.out.1).mono ?_; rintro e w1 ⟨rfl, hb⟩; rw [HC.out])
    have HB := Lib.hid hb
    clear hb
    refine (compact_any l A c r _ (check_wf HC.out) H.out.2 (by omega) hr (HAT.out.ext HB.out)).mono ?_
    rintro e w2 ⟨u, rfl, hrow, hoks, hext⟩
    have HM := Lib.hid (show Made w w2 u (subN l r) by rw [HR.out]; exact Made.before ⟨hrow, hoks, hext⟩ HB.out)
    clear hrow hoks hext
    go_wp2_with fail
    go_ret
    exact ⟨_, rfl, HM.out⟩

set_option maxHeartbeats 400000 in
theorem compactF_any (v : Value) (l : List Nd) (w : World) (h : Fml w v l) :
    Calls Tryd.prog 20 #[v] w fun e w' => ∃ u, e = .returned u ∧ Made w w' u (compactN l) := by
  have H := Lib.hid h
  obtain ⟨⟨A, c, rfl, hat⟩, hok⟩ := h
  have hl := hat.1
  have hm := hat.2.1
  unfold maxLen at hm
  clear hat hok
  go_enter Tryd.func20, Tryd.ntmps20
  go_wp2_with fail
  refine (sub_any _ l _ _ H.out).mono ?_
  rintro e w2 ⟨u, rfl, hm⟩
  have HM := Lib.hid hm
  clear hm
  go_wp2_with fail
  go_ret
  exact ⟨_, rfl, HM.out⟩
end Go.Proofs.YtohoddkcpfamlaaDoor

/- Nodes compared; slices.Equal at nodes; formula.Same, Frags. -/

namespace Go.Proofs.YtohoddkcpfamlaaDoor
open Go.RowKit

theorem eqNode (a b : Nd) (w : World) :
    (Op.equalIn 10000 46 (.agg #[.int .i64 a.op, .int .i64 a.i, .int .i64 a.e, .int .i64 a.g, .int .i64 a.x, .int .i64 a.y]) (.agg #[.int .i64 b.op, .int .i64 b.i, .int .i64 b.e, .int .i64 b.g, .int .i64 b.x, .int .i64 b.y])).run Tryd.prog w = .ok (decide (a = b)) w := by
  have u3 := Tryd.underlying3
  have a3 := Tryd.isAgg3
  have z3 := Tryd.sizeOf3
  have hS : Tryd.prog.underlying 46 = some (.struct (Tryd.prog.fieldsOf 46)) := by kernel_rfl
  have hp : Tryd.prog.stoodInHeld 46 = false := by kernel_rfl
  rw [show (10000 : Nat) = 9999 + 1 from rfl, run_equalIn_agg w 9999 46 _ _ hS hp]
  simp only [Program.fieldsOf, Tryd.underlying46]
  go_simp
  cases a with
  | mk a0 a1 a2 a3 a4 a5 =>
    cases b with
    | mk b0 b1 b2 b3 b4 b5 =>
      simp only [Nd.mk.injEq]
      by_cases h0 : a0 = b0 <;> by_cases h1 : a1 = b1 <;> by_cases h2 : a2 = b2 <;> by_cases h3 : a3 = b3 <;> by_cases h4 : a4 = b4 <;> by_cases h5 : a5 = b5 <;> simp [h0, h1, h2, h3, h4, h5]
end Go.Proofs.YtohoddkcpfamlaaDoor

/- slices.Equal at nodes tells whether two lists are equal. -/

namespace Go.Proofs.YtohoddkcpfamlaaDoor
open Go.RowKit

theorem take_succ_eq {α : Type} {l : List α} {k : Nat} {a : α} (h : l[k]? = some a) : l.take (k + 1) = l.take k ++ [a] := by
  rw [List.take_add_one, h]; rfl
theorem lists_differ {α : Type} {a b : List α} {k : Nat} {x y : α} (ha : a[k]? = some x) (hb : b[k]? = some y) (hne : x ≠ y) : a ≠ b := by
  intro e
  rw [e, hb] at ha
  exact hne (Option.some.inj ha).symm

set_option maxRecDepth 100000 in
set_option maxHeartbeats 1000000 in
theorem equalN_any (v1 v2 : Value) (l1 l2 : List Nd) (w : World) (h1 : Nds w v1 l1) (h2 : Nds w v2 l2) :
    Calls Tryd.prog 52 #[v1, v2] w fun e w' => e = .returned (.bool (decide (l1 = l2))) ∧ Ext w w' := by
  obtain ⟨A1, c1, rfl, hcap1, hmax1, hr1⟩ := h1
  obtain ⟨A2, c2, rfl, hcap2, hmax2, hr2⟩ := h2
  unfold maxLen at hmax1 hmax2
  by_cases hl : l1.length = l2.length
  · have HR1 := Lib.hid hr1
    have HR2 := Lib.hid hr2
    have HL := Lib.hid hl
    have eb : ((l1.length : Int) != (l2.length : Int)) = false := by simp [hl]
    clear hr1 hr2 hl
    go_enter Tryd.func52, Tryd.ntmps52
    go_wp2_with fail
    go_loopw [13] (fun i wr => ∃ k : Nat, k ≤ l1.length ∧ i = .int .i64 k ∧ Hid (l1.take k = l2.take k) ∧ Ext w wr) (fun i _ => l1.length - (intOf i).toNat)
    case atStart => exact ⟨0, Nat.zero_le _, rfl, Lib.hid rfl, Ext.refl _⟩
    case round =>
      obtain ⟨k, hk, rfl, htk, hext⟩ := hrel
      by_cases hlt2 : k < l1.length
      · have hlt3 : k < l2.length := by have := HL.out; omega
        obtain ⟨a, ha⟩ : ∃ a, l1[k]? = some a := ⟨_, List.getElem?_eq_getElem hlt2⟩
        obtain ⟨b, hb⟩ : ∃ b, l2[k]? = some b := ⟨_, List.getElem?_eq_getElem hlt3⟩
        obtain ⟨ad1, rfl, hb1, hc1⟩ := HR1.out (by intro e; rw [e] at hlt2; simp at hlt2)
        obtain ⟨ad2, rfl, hb2, hc2⟩ := HR2.out (by intro e; rw [e] at hlt3; simp at hlt3)
        obtain ⟨a0, a1, a2, a3, a4, a5⟩ := (hc1 k a ha).keep fun p hp => hext.cell (p := p) (by rw [hp, block_of_add]; exact hb1)
        obtain ⟨b0, b1, b2, b3, b4, b5⟩ := (hc2 k b hb).keep fun p hp => hext.cell (p := p) (by rw [hp, block_of_add]; exact hb2)
        have hi0 : (0 : Int) ≤ (k : Int) := by omega
        have hi1 : (k : Int) < (l1.length : Int) := by omega
        have hi2 : (k : Int) < (l2.length : Int) := by omega
        have heq := fun W => eqNode a b W
        have HA := Lib.hid ha
        have HB := Lib.hid hb
        clear ha hb hc1 hc2
        by_cases hab : a = b
        · have hd : decide (a = b) = true := by simpa using hab
          have HT : Hid (l1.take (k + 1) = l2.take (k + 1)) := Lib.hid (by rw [take_succ_eq HA.out, take_succ_eq HB.out, htk.out, hab])
          clear hab
          go_wp2_with fail
          go_quiet (fail)
          go_wp2_with fail
          go_roundw
          case rel => exact ⟨k + 1, by omega, by go_num, HT, hext.drewN _⟩
          case measure => simp [intOf]; omega
        · have hd : decide (a = b) = false := by simpa using hab
          have HR : Hid (decide (l1 = l2) = false) := Lib.hid (decide_eq_false (lists_differ HA.out HB.out hab))
          clear hab
          go_wp2_with fail
          go_quiet (fail)
          go_wp2_with fail
          go_ret
          exact ⟨by rw [HR.out]; rfl, hext.drewN _⟩
      · obtain rfl : l1.length = k := by omega
        have HR : Hid (decide (l1 = l2) = true) := Lib.hid (decide_eq_true (by
          have h := htk.out
          rw [List.take_of_length_le (Nat.le_refl _), HL.out, List.take_of_length_le (Nat.le_refl _)] at h
          exact h))
        go_wp2_with fail
        go_ret
        exact ⟨by rw [HR.out]; rfl, hext⟩
  · have eb : ((l1.length : Int) != (l2.length : Int)) = true := by simp; omega
    have HR : Hid (decide (l1 = l2) = false) := Lib.hid (decide_eq_false fun e => hl (by rw [e]))
    clear hl hr1 hr2
    go_enter Tryd.func52, Tryd.ntmps52
    go_wp2_with fail
    go_ret
    exact ⟨by rw [HR.out]; rfl, Ext.refl _⟩
end Go.Proofs.YtohoddkcpfamlaaDoor

/- formula.Frags and formula.Same. -/

namespace Go.Proofs.YtohoddkcpfamlaaDoor
open Go.RowKit

theorem ofInt_i64 (a : Nat) (ha : a < 9223372036854775808) : (BitVec.ofInt 64 (a : Int)).toNat = a := by
  rw [BitVec.ofInt_natCast, BitVec.toNat_ofNat]; exact Nat.mod_eq_of_lt (by omega)
theorem i64_or_nat (a b : Nat) (ha : a < 9223372036854775808) (hb : b < 9223372036854775808) : bits .or .i64 (a : Int) (b : Int) = ((a ||| b : Nat) : Int) := by
  have hx : a ||| b < 2 ^ 63 := Nat.or_lt_two_pow (by omega) (by omega)
  show IntKind.i64.wrap ((BitVec.ofInt 64 (a : Int) ||| BitVec.ofInt 64 (b : Int)).toNat : Int) = _
  rw [BitVec.toNat_or, ofInt_i64 a ha, ofInt_i64 b hb, IntKind.wrap_i64]
  omega
theorem fragOf_nn (op : Int) : 0 ≤ fragOf op ∧ fragOf op ≤ 256 := by
  unfold fragOf
  repeat' split
  all_goals omega
theorem fragMask_snoc (l : List Nd) (n : Nd) : fragMask (l ++ [n]) = fragMask l ||| (fragOf n.op).toNat := by simp [fragMask, List.foldl_append]
theorem fragMask_lt (l : List Nd) : fragMask l < 512 := by
  have : ∀ (l : List Nd) (m : Nat), m < 512 → l.foldl (fun m n => m ||| (fragOf n.op).toNat) m < 512 := by
    intro l
    induction l with
    | nil => intro m h; exact h
    | cons a r ih =>
      intro m h
      refine ih _ (Nat.or_lt_two_pow (n := 9) h ?_)
      have := fragOf_nn a.op
      omega
  exact this l 0 (by omega)

set_option maxHeartbeats 400000 in
theorem fragsMask_any (n : Nd) (u0 u1 u2 u3 u4 u5 : Bool) (g : Int) (w : World) :
    Calls Tryd.prog 19 #[.agg #[.int .i64 n.op, .int .i64 n.i, .int .i64 n.e, .int .i64 n.g, .int .i64 n.x, .int .i64 n.y], .agg #[.bool u0, .bool u1, .bool u2, .bool u3, .bool u4, .bool u5, .int .i64 g]] w
      fun e w' => e = .returned (.int .i64 g) ∧ Ext w w' := by
  go_enter Tryd.func19, Tryd.ntmps19
  go_wp2_with fail
  go_ret
  exact ⟨rfl, ((Ext.refl _).alloc _).alloc _⟩

set_option maxRecDepth 100000 in
set_option maxHeartbeats 1000000 in
theorem union_any (v : Value) (l : List Nd) (w : World) (h : Fml w v l) :
    Calls Tryd.prog 18 #[v, .func (Fn.func 19) #[] #[]] w fun e w' => e = .returned (.int .i64 (fragsN l : Nat)) ∧ Ext w w' := by
  have H := Lib.hid h
  clear h
  go_enter Tryd.func18, Tryd.ntmps18
  go_wp2_with fail
  refine (compactF_any _ l _ H.out).mono ?_
  rintro e w1 ⟨u, rfl, hm⟩
  have HX := Lib.hid hm.2.2
  obtain ⟨A, c, rfl, hcap, hmax, hread⟩ := hm.fml.1
  unfold maxLen at hmax
  have HR := Lib.hid hread
  obtain ⟨cl, hcl⟩ : ∃ cl, cl = compactN l := ⟨_, rfl⟩
  have HCL := Lib.hid (show fragsN l = fragMask cl by rw [hcl]; rfl)
  rw [← hcl] at HR hcap
  rw [← hcl]
  clear hm hread hcl
  go_wp2_with fail
  go_loopw [5, 13] (fun out i wr => ∃ k : Nat, k ≤ cl.length ∧ i = .int .i64 k ∧ out = .int .i64 (fragMask (cl.take k) : Nat) ∧ Ext w1 wr) (fun _ i _ => cl.length - (intOf i).toNat)
  case atStart => exact ⟨0, Nat.zero_le _, rfl, rfl, Ext.refl _⟩
  case round =>
    obtain ⟨k, hk, rfl, rfl, hext⟩ := hrel
    by_cases hlt2 : k < cl.length
    · obtain ⟨a, ha⟩ : ∃ a, cl[k]? = some a := ⟨_, List.getElem?_eq_getElem hlt2⟩
      obtain ⟨ad, rfl, hb1, hc1⟩ := HR.out (by intro e; rw [e] at hlt2; simp at hlt2)
      obtain ⟨a0, a1, a2, a3, a4, a5⟩ := (hc1 k a ha).keep fun p hp => hext.cell (p := p) (by rw [hp, block_of_add]; exact hb1)
      have hfr := fragOf_nn a.op
      obtain ⟨fa, hfa⟩ := Int.eq_ofNat_of_zero_le hfr.1
      have hor := i64_or_nat (fragMask (cl.take k)) fa (by have := fragMask_lt (cl.take k); omega) (by omega)
      have HS : Hid (fragMask (cl.take (k + 1)) = (fragMask (cl.take k) ||| fa)) := Lib.hid (by rw [take_succ_eq ha, fragMask_snoc, hfa]; rfl)
      have HFA := Lib.hid hfa
      generalize fragMask (cl.take k) = m at hor HS
      clear ha hc1 hfr hfa
      go_wp2_with (first | (go_at_call 30; refine (uses_as _ _ _ _ _ _ _ _ rfl rfl rfl rfl rfl rfl rfl _).mono ?_; rintro e w2 ⟨rfl, hb⟩; rw [HFA.out]; have HB := Lib.hid hb; obtain ⟨hc, _, hz0⟩ := hb.facts; clear hb; have hz : wr.heap.size < w2.heap.size := by { simp at hz0; omega }; clear hz0) | (go_at_call 19; refine (fragsMask_any a _ _ _ _ _ _ _ _).mono ?_; rintro e w3 ⟨rfl, hb3⟩))
      go_roundw
      case rel => exact ⟨k + 1, by omega, by go_num, by rw [HS.out], (((hext.alloc _).trans HB.out).alloc _).trans hb3⟩
      case measure => simp [intOf]; omega
    · obtain rfl : cl.length = k := by omega
      go_wp2_with fail
      go_ret
      exact ⟨ret_int (by rw [HCL.out, List.take_of_length_le (Nat.le_refl _)]), HX.out.trans hext⟩

set_option maxHeartbeats 400000 in
theorem frags_any (v : Value) (l : List Nd) (w : World) (h : Fml w v l) :
    Calls Tryd.prog 7 #[v] w fun e w' => e = .returned (.int .i64 (fragsN l : Nat)) ∧ Ext w w' := by
  have H := Lib.hid h
  clear h
  go_enter Tryd.func7, Tryd.ntmps7
  go_wp2_with (go_at_call 18; refine (union_any _ l _ H.out).mono ?_; rintro e w3 ⟨rfl, hb3⟩)
  go_ret
  exact ⟨rfl, hb3⟩

theorem same_of {b1 b2 : Bool} (h : b1 = b2) : Ending.returned (.bool b1) = .returned (.bool b2) := by rw [h]
end Go.Proofs.YtohoddkcpfamlaaDoor

/- formula.Same. -/

namespace Go.Proofs.YtohoddkcpfamlaaDoor
open Go.RowKit

set_option maxRecDepth 100000 in
set_option maxHeartbeats 1000000 in
theorem same_any (v1 v2 : Value) (l1 l2 : List Nd) (w : World) (h1 : Fml w v1 l1) (h2 : Fml w v2 l2) :
    Calls Tryd.prog 24 #[v1, v2] w fun e w' => e = .returned (.bool (sameN l1 l2)) ∧ Ext w w' := by
  have H1 := Lib.hid h1
  have H2 := Lib.hid h2
  clear h1 h2
  by_cases hc1 : check l1 = 0
  · have HC1 := Lib.hid hc1
    clear hc1
    by_cases hc2 : check l2 = 0
    · have HC2 := Lib.hid hc2
      clear hc2
      go_enter Tryd.func24, Tryd.ntmps24
      go_wp2_with fail
      refine (check_any _ l1 _ H1.out.1).mono ?_
      rintro e w1 ⟨rfl, hb1⟩
      rw [HC1.out]
      go_wp2_with fail
      refine (check_any _ l2 _ (H2.out.1.ext hb1)).mono ?_
      rintro e w2 ⟨rfl, hb2⟩
      rw [HC2.out]
      have X2 := Lib.hid (hb1.trans hb2)
      clear hb1 hb2
      go_wp2_with fail
      refine (compactF_any _ l1 _ (H1.out.ext X2.out)).mono ?_
      rintro e w3 ⟨u1, rfl, hm1⟩
      have X3 := Lib.hid (X2.out.trans hm1.2.2)
      have M1 := Lib.hid hm1
      clear hm1
      go_wp2_with fail
      refine (compactF_any _ l2 _ (H2.out.ext X3.out)).mono ?_
      rintro e w4 ⟨u2, rfl, hm2⟩
      have X4 := Lib.hid (X3.out.trans hm2.2.2)
      have M2 := Lib.hid hm2
      clear hm2
      go_wp2_with fail
      refine (equalN_any _ _ _ _ _ ((M1.out.after M2.out.2.2).fml.1) M2.out.fml.1).mono ?_
      rintro e w5 ⟨rfl, hb5⟩
      go_wp2_with fail
      go_ret
      exact ⟨same_of (by simp [sameN, HC1.out, HC2.out]), X4.out.trans hb5⟩
    · have hb : (check l2 == 0) = false := by simpa using hc2
      have HR := Lib.hid (show sameN l1 l2 = false by simp [sameN, hb])
      clear hc2
      go_enter Tryd.func24, Tryd.ntmps24
      go_wp2_with fail
      refine (check_any _ l1 _ H1.out.1).mono ?_
      rintro e w1 ⟨rfl, hb1⟩
      rw [HC1.out]
      go_wp2_with fail
      refine (check_any _ l2 _ (H2.out.1.ext hb1)).mono ?_
      rintro e w2 ⟨rfl, hb2⟩
      go_wp2_with fail
      go_ret
      exact ⟨same_of (by rw [HR.out]), hb1.trans hb2⟩
  · have hb : (check l1 == 0) = false := by simpa using hc1
    have HR := Lib.hid (show sameN l1 l2 = false by simp [sameN, hb])
    clear hc1
    go_enter Tryd.func24, Tryd.ntmps24
    go_wp2_with fail
    refine (check_any _ l1 _ H1.out.1).mono ?_
    rintro e w1 ⟨rfl, hb1⟩
    go_wp2_with fail
    go_ret
    exact ⟨same_of (by rw [HR.out]), hb1⟩
end Go.Proofs.YtohoddkcpfamlaaDoor
