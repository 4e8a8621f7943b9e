/- The closure of formula.compact: the way on which the node is new. -/
import Derived.Test.YtipnbfbakohcaaaDoorCompact1
import Derived.Deep.DeepCutAuto
import Derived.Deep.RegionWith
namespace Go.Proofs.YtipnbfbakohcaaaDoor
open Go.RowKit
open Go.Maps (has)

def FinishSaid (K : Blks) (W0 : World) (A : Option Addr) (c : Nat) (f : List Nd) (z : Int) : Prop :=
  ∀ (w : World) (o : List Nd) (vo : Value), CEnv K W0 w A c f o vo → pot f o ≤ f.length →
    Calls Tryd.prog 78 #[.int .i64 z, .pointer (some ⟨K.done, 0, none⟩), .pointer (some ⟨K.f, 0, none⟩), .pointer (some ⟨K.fin_, 0, none⟩), .pointer (some ⟨K.num, 0, none⟩), .pointer (some ⟨K.out, 0, none⟩)] w
      fun e w' => ∃ vo', e = .returned (.int .i64 (finN f z.toNat o).2) ∧ CEnv K W0 w' A c f (finN f z.toNat o).1 vo' ∧ CStep K w w' vo vo'

theorem opX_no {f : List Nd} {n : Nd} {o : List Nd} (h : hasX n.op = false) : opX f n o = (o, 0) := by simp [opX, h]
theorem opY_no {f : List Nd} {n : Nd} {o : List Nd} (h : hasY n.op = false) : opY f n o = (o, 0) := by simp [opY, h]
theorem opX_yes {f : List Nd} {n : Nd} {o : List Nd} (h : hasX n.op = true) : opX f n o = finN f n.x.toNat o := by simp [opX, h]
theorem opY_yes {f : List Nd} {n : Nd} {o : List Nd} (h : hasY n.op = true) : opY f n o = finN f n.y.toNat o := by simp [opY, h]
theorem with_x {n : Nd} {k : Nat} (h : hasX n.op = false) (hy : hasY n.op = true → 0 ≤ n.y) : n.with_ k n.y.toNat = n := by
  unfold Nd.with_
  rw [h]
  cases e : hasY n.op
  · rfl
  · have := hy e
    cases n
    simp only [cond_true, cond_false, Nd.mk.injEq, true_and]
    simp only at this
    omega

theorem with_y (n : Nd) (h : hasY n.op = true → 0 ≤ n.y) : (bif hasY n.op then ((n.y.toNat : Nat) : Int) else n.y) = n.y := by
  cases e : hasY n.op
  · rfl
  · have := h e
    simp only [cond_true]
    omega
theorem store_x {n : Nd} {k : Nat} (h : hasX n.op = true) (hy : hasY n.op = true → 0 ≤ n.y) :
    (#[.int .i64 n.op, .int .i64 n.i, .int .i64 n.e, .int .i64 n.g, .int .i64 n.x, .int .i64 n.y] : Array Value).setIfInBounds 4 (.int .i64 (k : Int)) =
      #[.int .i64 (n.with_ k n.y.toNat).op, .int .i64 (n.with_ k n.y.toNat).i, .int .i64 (n.with_ k n.y.toNat).e, .int .i64 (n.with_ k n.y.toNat).g, .int .i64 (n.with_ k n.y.toNat).x, .int .i64 (n.with_ k n.y.toNat).y] := by
  simp only [Nd.with_, h, cond_true, with_y n hy]
  rfl
theorem store_y {n : Nd} {k1 k2 : Nat} (h : hasY n.op = true) (m : Nd) (hm : m = n.with_ k1 n.y.toNat) :
    (#[.int .i64 m.op, .int .i64 m.i, .int .i64 m.e, .int .i64 m.g, .int .i64 m.x, .int .i64 m.y] : Array Value).setIfInBounds 5 (.int .i64 (k2 : Int)) =
      #[.int .i64 (n.with_ k1 k2).op, .int .i64 (n.with_ k1 k2).i, .int .i64 (n.with_ k1 k2).e, .int .i64 (n.with_ k1 k2).g, .int .i64 (n.with_ k1 k2).x, .int .i64 (n.with_ k1 k2).y] := by
  subst hm
  simp only [Nd.with_, h, cond_true]
  rfl
theorem with_y2 {n : Nd} {k1 k2 : Nat} (h : hasY n.op = false) : n.with_ k1 k2 = n.with_ k1 n.y.toNat := by simp [Nd.with_, h]
theorem with_y_val {n : Nd} {k1 : Nat} (h : hasY n.op = true) (hy : 0 ≤ n.y) : (n.with_ k1 n.y.toNat).y = n.y := by simp only [Nd.with_, h, cond_true]; omega
theorem pot_opX {f : List Nd} (hf : Wf f) {i : Nat} {n : Nd} (hn : f[i]? = some n) (o : List Nd) : pot f (opX f n o).1 ≤ pot f o := by
  have hi : i < f.length := (List.getElem?_eq_some_iff.1 hn).1
  unfold opX
  split
  · rename_i h1
    have := (hf i n hn).1 h1
    exact pot_le hf _ _ (by omega)
  · exact Nat.le_refl _
theorem pot_opY {f : List Nd} (hf : Wf f) {i : Nat} {n : Nd} (hn : f[i]? = some n) (o : List Nd) : pot f (opY f n o).1 ≤ pot f o := by
  have hi : i < f.length := (List.getElem?_eq_some_iff.1 hn).1
  unfold opY
  split
  · rename_i h1
    have := (hf i n hn).2 h1
    exact pot_le hf _ _ (by omega)
  · exact Nat.le_refl _

theorem k1_le {f : List Nd} (hf : Wf f) {i : Nat} {n : Nd} (hn : f[i]? = some n) {o o1 : List Nd} {k1 : Nat} (h : opX f n o = (o1, k1)) (hlen : f.length ≤ 1000) (hp : pot f o1 ≤ f.length) : k1 ≤ 1000 := by
  have hi : i < f.length := (List.getElem?_eq_some_iff.1 hn).1
  unfold opX at h
  split at h
  · rename_i h1
    have h2 := (hf i n hn).1 h1
    have h3 := finN_lt hf n.x.toNat o (by omega)
    rw [h] at h3
    have := length_le_pot f o1
    simp only at h3
    omega
  · injection h with _ h
    omega
theorem k2_le {f : List Nd} (hf : Wf f) {i : Nat} {n : Nd} (hn : f[i]? = some n) {o o1 : List Nd} {k1 : Nat} (h : opY f n o = (o1, k1)) (hlen : f.length ≤ 1000) (hp : pot f o1 ≤ f.length) : k1 ≤ 1000 := by
  have hi : i < f.length := (List.getElem?_eq_some_iff.1 hn).1
  unfold opY at h
  split at h
  · rename_i h1
    have h2 := (hf i n hn).2 h1
    have h3 := finN_lt hf n.y.toNat o (by omega)
    rw [h] at h3
    have := length_le_pot f o1
    simp only at h3
    omega
  · injection h with _ h
    omega
theorem with_ok {n : Nd} {k1 k2 : Nat} (h : n.ok) (h1 : k1 ≤ 1000) (h2 : k2 ≤ 1000) : (n.with_ k1 k2).ok := by
  obtain ⟨a, b, c, d, e, g⟩ := h
  refine ⟨a, b, c, d, ?_, ?_⟩
  · show i64ok (bif hasX n.op then (k1 : Int) else n.x)
    cases hasX n.op
    · exact e
    · exact ⟨by simp only [cond_true]; omega, by simp only [cond_true]; omega⟩
  · show i64ok (bif hasY n.op then (k2 : Int) else n.y)
    cases hasY n.op
    · exact g
    · exact ⟨by simp only [cond_true]; omega, by simp only [cond_true]; omega⟩
theorem fin_is {f : List Nd} (hf : Wf f) {i : Nat} {n : Nd} (hn : f[i]? = some n) {o o1 o2 : List Nd} {k1 k2 : Nat} (h1 : opX f n o = (o1, k1)) (h2 : opY f n o1 = (o2, k2)) :
    finN f i o = (addN o2 (n.with_ k1 k2), o2.idxOf (n.with_ k1 k2)) := by
  rw [finN_eq hf hn, h1]
  simp only [h2]
theorem slice_of_row {w : World} {base : Nat} {e : TypeId} {size n : Nat} {v : Value} {xs : List Value} (h : w.ownsRow base e size v n xs) : ∃ A c, v = .slice A n c := by
  rcases h.2 with ⟨rfl, rfl⟩ | ⟨g, cap, cur, rfl, _⟩
  · exact ⟨_, _, rfl⟩
  · exact ⟨_, _, rfl⟩
theorem tInfo : (Tryd.prog.info? 60).map (fun i => (i.zero, i.size, i.bytes)) = some (some Nd.zero.val, 6, 48) := by kernel_rfl
theorem done_put {f o o2 : List Nd} {mm : Nd} {i : Nat} (hf : Wf f) (hi : i < f.length) (hfin : finN f i o = (addN o2 mm, o2.idxOf mm)) {w w' : World} {b m : Nat} {D : D0}
    (h : w.ownsMap Tryd.prog 3 (plainElem Tryd.prog 3) b m D) (hm : m ≤ doneCount D f) (hD : DoneIs D f (addN o2 mm))
    (h' : w'.ownsMap Tryd.prog 3 (plainElem Tryd.prog 3) b (m + 1) (D.put (.int .i64 i) (.lit (.int .i64 (o2.idxOf mm : Nat))))) : DoneMap w' b f (addN o2 mm) := by
  have hag := finN_again hf i o (addN o2 mm) hi (by rw [hfin]; exact List.prefix_refl _)
  rw [hfin] at hag
  refine DoneMap.put h hm hD hi ?_ ?_
  · rw [hag]
  · rw [hag]; exact h'
theorem node_new (w : World) (m : Nd) : ∀ j u, m.cells[j]? = some u →
    (w.alloc (.cells #[.int .i64 m.op, .int .i64 m.i, .int .i64 m.e, .int .i64 m.g, .int .i64 m.x, .int .i64 m.y] 60)).cell? ((⟨w.heap.size, 0, none⟩ : Addr).add j) = some u := by
  intro j u hj
  have h := heap_alloc_new w (.cells #[.int .i64 m.op, .int .i64 m.i, .int .i64 m.e, .int .i64 m.g, .int .i64 m.x, .int .i64 m.y] 60)
  have e : ((⟨w.heap.size, 0, none⟩ : Addr).add j) = ⟨w.heap.size, j, none⟩ := by
    unfold Addr.add
    split
    · rename_i h0; rw [h0]
    · simp
  rw [e]
  simp only [World.cell?, h]
  rw [← hj]
  simp [Nd.cells]
theorem node_cells (m : Nd) : ∀ u ∈ m.cells, u.oneCell' = true := by
  intro u hu
  simp only [Nd.cells, List.mem_cons, List.mem_nil_iff, or_false] at hu
  rcases hu with rfl | rfl | rfl | rfl | rfl | rfl <;> rfl
theorem ownsMap_of_block {w w' : World} {P : Program} {k : TypeId} {R : Value → Option (D0 × List MemPlace)} {b n : Nat} {D : D0} (h : w.ownsMap P k R b n D) (hb : w'.heap[b]? = w.heap[b]?) : w'.ownsMap P k R b n D := by
  obtain ⟨es, clock, h1, h2⟩ := h
  exact ⟨es, clock, hb.trans h1, h2⟩
/-- What stands where behind the append. -/
theorem after_append {K : Blks} {W0 we w w4 : World} {A : Option Addr} {c : Nat} {f o : List Nd} {voe vo : Value} {bx bu : Nat} {m : Nd} {ux uy : Bool} {X : Obj} (h : CMid K W0 we w A c f o voe vo bx bu m ux uy)
    (hg : (w.alloc X).grownBy w4 vo.ownBlock) : w.heap.size ≤ w4.heap.size ∧ w4.heap[K.out]? = some (.cells #[vo] 29 (0, 0)) ∧
      w4.heap[bx]? = some (.cells #[.int .i64 m.op, .int .i64 m.i, .int .i64 m.e, .int .i64 m.g, .int .i64 m.x, .int .i64 m.y] 60 (0, 0)) ∧
      w4.heap[K.num]? = some (.cells #[.map (some K.mn)] 91 (0, 0)) ∧ w4.heap[K.mn]? = w.heap[K.mn]? ∧ K.num ≠ K.out ∧ K.out ≠ K.num ∧ bx ≠ K.out ∧ K.mn ≠ K.out := by
  obtain ⟨l1, l2, l3, l4, l5, l6, l7⟩ := h.env.lts
  obtain ⟨e1, e2, e3, e4, e5, e6, e7⟩ := h.envlt
  obtain ⟨f1, f2, f3, f4, f5⟩ := h.fresh
  have hra := h.env.row_apart
  obtain ⟨b1, b2, b3, b4, b5, b6, b7, b8, b9, b10, b11, b12, b13, b14⟩ := h.env.blks_apart
  have ea : Ext w (w.alloc X) := (Ext.refl _).alloc _
  have k4 : ∀ b, b < w.heap.size → some b ≠ vo.ownBlock → w4.heap[b]? = w.heap[b]? := fun b hb hne => (hg.block b (Nat.lt_of_lt_of_le hb ea.size) hne).trans (ea.block hb)
  have ro : ∀ b, (∀ g, vo.ownBlock = some g → g ≠ b) → some b ≠ vo.ownBlock := fun b hb e => hb b e.symm rfl
  exact ⟨Nat.le_trans ea.size hg.size, (k4 _ l2 (ro _ fun g hg => (hra g hg).2.1)).trans h.env.blk_out, (k4 _ (lt_heap h.box) (Ne.symm f4)).trans h.box,
    (k4 _ l4 (ro _ fun g hg => (hra g hg).2.2.2.1)).trans h.env.blk_num, k4 _ l6 (ro _ fun g hg => (hra g hg).2.2.2.2.2.1), Ne.symm b3, b3, by omega, Ne.symm b5⟩
theorem idx_lt {K : Blks} {W0 we w : World} {A : Option Addr} {c : Nat} {f o2 : List Nd} {voe vo : Value} {bx bu : Nat} {m : Nd} {ux uy : Bool} (_h : CMid K W0 we w A c f (addN o2 m) voe vo bx bu m ux uy) (hp : pot f o2 ≤ f.length) (hlen : f.length ≤ 1000) :
    o2.idxOf m < 2000 := by
  have h1 := idxOf_lt_addN o2 m
  have h2 := length_le_pot f o2
  have h3 : (addN o2 m).length ≤ o2.length + 1 := by
    unfold addN
    split
    · omega
    · simp
  omega

set_option maxRecDepth 100000 in
set_option maxHeartbeats 1000000 in
theorem finish_new {K : Blks} {W0 w : World} {A : Option Addr} {c : Nat} {f o : List Nd} {vo : Value} (hf : Wf f) (hok : ∀ n ∈ f, n.ok) (h : CEnv K W0 w A c f o vo) (hlen : f.length ≤ 1000) (i : Nat) (n : Nd) (hn : f[i]? = some n) (D : D0) (m : Nat)
    (hown : w.ownsMap Tryd.prog 3 (plainElem Tryd.prog 3) K.md m D) (hD : DoneIs D f o) (hno : has D (.int .i64 i) = false) (hne : K.mn ≠ K.md) (hpot : pot f o ≤ f.length)
    (ih : ∀ z : Int, 0 ≤ z → z < i → FinishSaid K W0 A c f z) (ux uy : Bool) (hux : hasX n.op = ux) (huy : hasY n.op = uy) :
    Calls Tryd.prog 78 #[.int .i64 i, .pointer (some ⟨K.done, 0, none⟩), .pointer (some ⟨K.f, 0, none⟩), .pointer (some ⟨K.fin_, 0, none⟩), .pointer (some ⟨K.num, 0, none⟩), .pointer (some ⟨K.out, 0, none⟩)] w
      fun e w' => ∃ vo', e = .returned (.int .i64 (finN f i o).2) ∧ CEnv K W0 w' A c f (finN f i o).1 vo' ∧ CStep K w w' vo vo' := by
  have hi : i < f.length := (List.getElem?_eq_some_iff.1 hn).1
  have cd := cell_of_one h.blk_done
  have cf := cell_of_one h.blk_f
  obtain ⟨l1, l2, l3, l4, l5, l6, l7⟩ := h.lts
  have hkey := keyOf_int (a := (i : Int)) ⟨by omega, by omega⟩
  obtain ⟨ad, rfl, hlt, hcells⟩ := h.nds.2.2 (by intro e; rw [e] at hi; simp at hi)
  have hcapl := h.nds.1
  have hcapm := h.nds.2.1
  unfold maxLen at hcapm
  obtain ⟨c0, c1, c2, c3, c4, c5⟩ := (hcells i n hn).keep fun p hp => h.below.cell (p := p) (by rw [hp, block_of_add]; exact hlt)
  have H := Lib.hid h; have HN := Lib.hid hn; have HUX := Lib.hid hux; have HUY := Lib.hid huy; have IH := Lib.hid ih; have HD := Lib.hid hD; have HF := Lib.hid hf; have HOK := Lib.hid hok
  clear h hn hux huy ih hD hcells hf hok
  go_enter Tryd.func78, Tryd.ntmps78
  go_upto_region 6 with (first | (at_lookup; refine wpList_lookup_own_ok_int _ rfl _ _ 92 rfl 3 3 .i64 intKeyed Tryd.underlying92 Tryd.underlying3 (zeroInt _) K.md m D rfl hown _ _ rfl hkey ?_; intro cc hat hwc; clear hat hwc) | (go_at_call 56; refine (uses_as _ _ _ _ _ _ _ _ HUX.out HUY.out rfl rfl rfl rfl rfl _).mono ?_; rintro e w1 ⟨rfl, hb⟩))
  have hmid := CMid.start (ux := ux) (uy := uy) H.out n (.bool (hasFact n.op)) (.bool (hasAgent n.op)) (.bool (hasGroup n.op)) (.bool (hasEvent n.op)) (.int .i64 (fragOf n.op)) hb
  go_cut [34] (fun s34 wx => s34 = .bool ux ∧ CMid K W0 w wx (some ad) c f o vo vo w.heap.size w1.heap.size n ux uy)
  case first =>
    obtain ⟨u2, u3, u4, u5, u6, hu⟩ := hmid.use
    obtain ⟨d0, d1, d2⟩ := use2 hu
    go_wp2_with fail
    go_meet
    exact ⟨rfl, hmid⟩
  case rest =>
    obtain ⟨rfl, hmid⟩ := hcut
    have HP := Lib.hid hpot
    clear hpot
    go_upto_if 34 with (fail)
    go_cut [] (fun wx => ∃ vo1, CMid K W0 w wx (some ad) c f (opX f n o).1 vo vo1 w.heap.size w1.heap.size (n.with_ (opX f n o).2 n.y.toNat) ux uy)
    case first =>
      cases ux
      · go_wp2_with fail
        go_meet
        exact ⟨vo, by rw [opX_no HUX.out, with_x HUX.out (fun e => ((HF.out i n HN.out).2 e).1)]; exact hmid⟩
      · obtain ⟨⟨d0, d1, d2, d3, d4, d5⟩, dfr, dlt⟩ := cells6 hmid.box
        have dfin := cell_of_one hmid.env.blk_fin
        unfold Blks.caps at dfin
        obtain ⟨hx0, hx1⟩ := (HF.out i n HN.out).1 HUX.out
        have HM := Lib.hid hmid
        clear hmid
        go_wp2_with fail
        refine (IH.out n.x hx0 hx1 _ _ _ HM.out.env HP.out).mono ?_
        rintro e w2 ⟨vo1, rfl, henv, hstep⟩
        have HM2 := Lib.hid (HM.out.call henv hstep)
        clear henv hstep d0 d1 d2 d3 d4 d5 dfr dlt dfin
        obtain ⟨⟨d0, d1, d2, d3, d4, d5⟩, dfr, dlt⟩ := cells6 HM2.out.box
        go_wp2_with fail
        go_meet
        refine ⟨vo1, ?_⟩
        rw [opX_yes HUX.out]
        exact HM2.out.store 4 _ _ (store_x HUX.out (fun e => ((HF.out i n HN.out).2 e).1))
    case rest =>
      obtain ⟨vo1, hmid1⟩ := hcut
      have HP1 : Hid (pot f (opX f n o).1 ≤ f.length) := Lib.hid (Nat.le_trans (pot_opX HF.out HN.out o) HP.out)
      obtain ⟨o1, k1, ho1⟩ : ∃ o1 k1, opX f n o = (o1, k1) := ⟨_, _, rfl⟩
      have HO1 := Lib.hid ho1
      rw [ho1] at hmid1 HP1
      simp only at hmid1 HP1
      clear ho1 hmid cd cf c0 c1 c2 c3 c4 c5 hkey hown hno hb
      obtain ⟨u2, u3, u4, u5, u6, hu⟩ := hmid1.use
      obtain ⟨d0, d1, d2⟩ := use2 hu
      have HM := Lib.hid hmid1
      clear hmid1 hu
      go_upto_if 41 with (fail)
      go_cut [] (fun wx => ∃ vo2, CMid K W0 w wx (some ad) c f (opY f n o1).1 vo vo2 w.heap.size w1.heap.size (n.with_ k1 (opY f n o1).2) ux uy)
      case first =>
        clear d0 d1 d2
        cases uy
        · go_wp2_with fail
          go_meet
          exact ⟨vo1, by rw [opY_no HUY.out, with_y2 HUY.out]; exact HM.out⟩
        · have hy := (HF.out i n HN.out).2 HUY.out
          obtain ⟨hy0, hy1⟩ := hy
          obtain ⟨⟨d0, d1, d2, d3, d4, d5⟩, dfr, dlt⟩ := cells6 HM.out.box
          rw [with_y_val HUY.out hy0] at d5
          have dfin := cell_of_one HM.out.env.blk_fin
          unfold Blks.caps at dfin
          go_wp2_with fail
          refine (IH.out n.y hy0 hy1 _ _ _ HM.out.env HP1.out).mono ?_
          rintro e w2 ⟨vo2, rfl, henv, hstep⟩
          have HM2 := Lib.hid (HM.out.call henv hstep)
          clear henv hstep d0 d1 d2 d3 d4 d5 dfr dlt dfin
          obtain ⟨⟨d0, d1, d2, d3, d4, d5⟩, dfr, dlt⟩ := cells6 HM2.out.box
          go_wp2_with fail
          go_meet
          refine ⟨vo2, ?_⟩
          rw [opY_yes HUY.out]
          exact HM2.out.store 5 _ _ (store_y HUY.out _ rfl)
      case rest =>
        clear d0 d1 d2
        obtain ⟨vo2, hmid2⟩ := hcut
        have HP2 : Hid (pot f (opY f n o1).1 ≤ f.length) := Lib.hid (Nat.le_trans (pot_opY HF.out HN.out o1) HP1.out)
        obtain ⟨o2, k2, ho2⟩ : ∃ o2 k2, opY f n o1 = (o2, k2) := ⟨_, _, rfl⟩
        have HO2 := Lib.hid ho2
        rw [ho2] at hmid2 HP2
        simp only at hmid2 HP2
        clear ho2
        have hk1 : k1 ≤ 1000 := k1_le HF.out HN.out HO1.out hlen HP1.out
        have hk2 : k2 ≤ 1000 := k2_le HF.out HN.out HO2.out hlen HP2.out
        have HMOK := Lib.hid (with_ok (HOK.out n (List.mem_of_getElem? HN.out)) hk1 hk2)
        have HFIN := Lib.hid (fin_is HF.out HN.out HO1.out HO2.out)
        clear hk1 hk2
        generalize n.with_ k1 k2 = mm at hmid2 HMOK HFIN
        obtain ⟨D2, q2, hown2, hq2, hD2⟩ := hmid2.env.nums
        obtain ⟨⟨d0, d1, d2, d3, d4, d5⟩, dfr, dlt⟩ := cells6 hmid2.box
        have dnum := cell_of_one hmid2.env.blk_num
        have hkey2 : keyOf Tryd.prog 60 (.agg #[.int .i64 mm.op, .int .i64 mm.i, .int .i64 mm.e, .int .i64 mm.g, .int .i64 mm.x, .int .i64 mm.y]) = some (nkey mm) := keyOf_node HMOK.out
        have HD2 := Lib.hid hD2
        have HM := Lib.hid hmid2
        clear hD2 hmid2
        go_upto_if 54 with (at_lookup; refine wpList_lookup_own_ok_int _ rfl _ _ 91 rfl 60 3 .i64 nodeKeyed Tryd.underlying91 Tryd.underlying3 (zeroInt _) K.mn q2 D2 rfl hown2 _ _ rfl hkey2 ?_; intro c2 hat hwc)
        have HAT := Lib.hid hat
        clear hat hwc
        go_cut [13, 14] (fun s13 _ wx => s13 = .int .i64 (o2.idxOf mm : Nat) ∧ ∃ vo3, CMid K W0 w wx (some ad) c f (addN o2 mm) vo vo3 w.heap.size w1.heap.size mm ux uy)
        case first =>
          by_cases hin : mm ∈ o2
          · have hh : has D2 (nkey mm) = true := by rw [(HD2.out mm HMOK.out).1]; simpa using hin
            have HADD := Lib.hid (show addN o2 mm = o2 by unfold addN; rw [if_pos hin])
            have HVAL := Lib.hid (((HD2.out mm HMOK.out).2 hin (.lit (.int .i64 0))).symm.trans HAT.out)
            clear hin
            rw [hh]
            go_wp2_with fail
            go_meet
            have e1 := HVAL.out
            injection e1 with e1
            injection e1 with _ e1
            exact ⟨by rw [e1], vo2, by rw [HADD.out]; exact HM.out⟩
          · have hh : has D2 (nkey mm) = false := by rw [(HD2.out mm HMOK.out).1]; simpa using hin
            have HIN := Lib.hid hin
            have HADD := Lib.hid (show addN o2 mm = o2 ++ [mm] by unfold addN; rw [if_neg hin])
            have HIX := Lib.hid (List.idxOf_eq_length hin)
            clear hin
            rw [hh]
            have hrow := HM.out.env.row
            obtain ⟨Ao, co, rfl⟩ : ∃ Ao co, vo2 = .slice Ao o2.length co := slice_of_row hrow
            have dout := cell_of_one HM.out.env.blk_out
            obtain ⟨i0, hi0, hz0, hz1, hz2⟩ := info_parts tInfo
            have hlen2 : o2.length ≤ 1000 := Nat.le_trans (length_le_pot f o2) (Nat.le_trans HP2.out hlen)
            have hc3 : o2.length + 1 ≤ maxLen := by unfold maxLen; omega
            have hc4 : (o2.length + 1) * 48 ≤ 140737488355328 := by omega
            have hc5 : ∀ X, W0.heap.size ≤ (wc.alloc X).heap.size := fun X => by
              have := HM.out.env.below.size
              simp
              omega
            go_wp2_with (at_builtin; refine wpList_append_own_at _ rfl _ _ 29 rfl W0.heap.size 60 i0 Nd.zero.val 6 48 Tryd.underlying29 hi0 hz0 hz1 hz2 rfl (by decide) _ _ _ rfl (hrow.alloc _) ⟨wc.heap.size, 0, none⟩ 1 1 mm.cells rfl rfl (node_new wc mm) (node_cells mm) hc3 hc4 (hc5 _) ?_)
            intro v' w4 hown4 hgrow4 _ hat4
            obtain ⟨A', c', rfl⟩ := slice_of_row hown4
            obtain ⟨hsz4, kout, kbox, knum, kmap, ke1, ke2, ke3, ke4⟩ := after_append HM.out hgrow4
            clear d0 d1 d2 d3 d4 d5 dfr dlt dnum dout
            obtain ⟨⟨d0, d1, d2, d3, d4, d5⟩, dfr, dlt⟩ := cells6 kbox
            have dout := cell_of_one kout
            have dfree := free_of_one kout
            have dnum := cell_of_one knum
            have hel : (plainElem Tryd.prog 3 (.int .i64 ((o2.length : Nat) : Int)) : Option (D0 × List MemPlace)) = some (.lit (.int .i64 ((o2.length : Nat) : Int)), []) := elem_int ⟨by omega, by omega⟩
            have hown5 := (ownsMap_of_block hown2 kmap).setCell (a := ⟨K.out, 0, none⟩) ke4 (.slice A' (o2.length + 1) c')
            go_wp2_with (at_mapUpdate; refine wpList_mapUpdate_own _ rfl _ _ _ 91 rfl 60 3 nodeKeyed Tryd.underlying91 _ K.mn q2 D2 rfl hown5 (by unfold maxLen; omega) _ _ _ rfl rfl hkey2 _ [] hel ?_; intro w6 hown6 hgrow6)
            go_meet
            refine ⟨by rw [HIX.out], .slice A' (o2.length + 1) c', ?_⟩
            rw [HADD.out]
            exact HM.out.added HF.out HIN.out HMOK.out hne hown4 hgrow4 (hat4.imp id fun e => by rw [e]; simp) hown2 hq2 HD2.out hown6 hgrow6
        case rest =>
          clear d0 d1 d2 d3 d4 d5 dfr dlt dnum hown2 hkey2
          obtain ⟨rfl, vo3, hmid3⟩ := hcut
          obtain ⟨D3, q3, hown3, hq3, hD3⟩ := hmid3.env.dones
          have ddone := cell_of_one hmid3.env.blk_done
          have hq4 := doneCount_le D3 f
          have hkey3 := keyOf_int (a := (i : Int)) ⟨by omega, by omega⟩
          have HD3 := Lib.hid hD3
          have HM3 := Lib.hid hmid3
          have hix : o2.idxOf mm < 2000 := idx_lt HM3.out HP2.out hlen
          have hel : (plainElem Tryd.prog 3 (.int .i64 ((o2.idxOf mm : Nat) : Int)) : Option (D0 × List MemPlace)) = some (.lit (.int .i64 ((o2.idxOf mm : Nat) : Int)), []) := elem_int ⟨by omega, by omega⟩
          clear hD3 hmid3
          go_wp2_with (at_mapUpdate; refine wpList_mapUpdate_own _ rfl _ _ _ 92 rfl 3 3 intKeyed Tryd.underlying92 _ K.md q3 D3 rfl hown3 (by unfold maxLen; omega) _ _ _ rfl rfl hkey3 _ [] hel ?_; intro w7 hown7 hgrow7)
          have HDONE := Lib.hid (done_put HF.out hi HFIN.out hown3 hq3 HD3.out hown7)
          have HEND := Lib.hid (HM3.out.finish hgrow7 HDONE.out hne)
          go_ret
          refine ⟨vo3, ret_int ?_, ?_, HEND.out.2⟩
          · rw [HFIN.out]
          · rw [HFIN.out]
            exact HEND.out.1
end Go.Proofs.YtipnbfbakohcaaaDoor
