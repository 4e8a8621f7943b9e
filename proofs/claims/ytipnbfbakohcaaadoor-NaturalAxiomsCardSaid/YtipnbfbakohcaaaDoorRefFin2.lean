/- The reference's walk from a node. -/
import Derived.Test.YtipnbfbakohcaaaDoorRefFin1
import Derived.Deep.DeepCutAuto
namespace Go.Proofs.YtipnbfbakohcaaaDoor
open Go.RowKit

def RFinSaid (bw : Nat) (W0 : World) (A : Option Addr) (c : Nat) (f : List Nd) (vd : Value) (z : Int) : Prop :=
  ∀ (w : World) (o : List Nd) (d : List Int) (vo : Value), RInv bw W0 w A c f o d vo vd → pot f o ≤ f.length →
    Calls Tryd.prog 77 #[.slice A f.length c, .int .i64 z, .pointer (some ⟨bw, 0, none⟩)] w
      fun e w' => ∃ vo' d', e = .returned (.int .i64 (finN f z.toNat o).2) ∧ RInv bw W0 w' A c f (finN f z.toNat o).1 d' vo' vd ∧ FStep bw vd w w' vo vo'
/-- The row of what is done, as a slice with its cells. -/
theorem done_cells {w : World} {base n : Nat} {vd : Value} {d : List Int} (h : w.ownsRow base 3 1 vd n (d.map (Value.int .i64))) (hn : 0 < n) :
    ∃ g cap, vd = .slice (some ⟨g, 0, none⟩) n cap ∧ g < w.heap.size ∧ n ≤ cap ∧ cap ≤ maxLen ∧ ∀ i z, d[i]? = some z → w.cell? ⟨g, i, none⟩ = some (.int .i64 z) ∧ w.frozen? ⟨g, i, none⟩ = false := by
  rcases h.2 with ⟨_, h0⟩ | ⟨g, cap, cur, rfl, _, hg, hnc, hm, hs, ht⟩
  · omega
  · refine ⟨g, cap, rfl, lt_heap hg, hnc, hm, fun i z hz => ⟨?_, by simp [World.frozen?, hg]⟩⟩
    have h1 : (d.map (Value.int .i64))[i]? = some (.int .i64 z) := by rw [List.getElem?_map, hz]; rfl
    rw [← ht, List.getElem?_take] at h1
    split at h1
    · have h2 : cur[i]? = some (.int .i64 z) := by simpa using h1
      simp [World.cell?, hg, h2]
    · cases h1
theorem addr_zero (g i : Nat) : ((⟨g, 0, none⟩ : Addr).add i) = ⟨g, i, none⟩ := by
  unfold Addr.add
  split
  · rename_i h; rw [h]
  · simp

set_option maxRecDepth 100000 in
set_option maxHeartbeats 1000000 in
theorem rfin_done {bw : Nat} {W0 w : World} {A : Option Addr} {c : Nat} {f o : List Nd} {d : List Int} {vo vd : Value} (h : RInv bw W0 w A c f o d vo vd) (hlen : f.length ≤ 1000) (i k : Nat) (hi : i < f.length) (hd : d[i]? = some (k : Int)) :
    Calls Tryd.prog 77 #[.slice A f.length c, .int .i64 i, .pointer (some ⟨bw, 0, none⟩)] w fun e w' => e = .returned (.int .i64 k) ∧ w = w' := by
  obtain ⟨b0, b1, bfr, blt⟩ := cells2 h.blk
  obtain ⟨g, cap, rfl, hg, hcap, hmax, hcell⟩ := done_cells h.drow (by omega)
  obtain ⟨hc, _⟩ := hcell i k hd
  have hc' : w.cell? ((⟨g, 0, none⟩ : Addr).add i) = some (.int .i64 (k : Int)) := by rw [addr_zero]; exact hc
  unfold maxLen at hmax
  clear hcell h hd
  go_enter Tryd.func77, Tryd.ntmps77
  go_wp2_with fail
  go_ret
  exact ⟨rfl, rfl⟩

theorem PStep.undrew {bw : Nat} {w w' : World} {v v' : Value} (h : PStep bw w.drew w' v v') : PStep bw w w' v v' := ⟨h.os, h.tape, h.output, h.size, h.block, h.row⟩
theorem done_after {bw : Nat} {W0 w w5 : World} {A : Option Addr} {c i g cap : Nat} {f o : List Nd} {d : List Int} {vo vo3 : Value} (h : RInv bw W0 w A c f o d vo (.slice (some ⟨g, 0, none⟩) f.length cap)) (hi : i < f.length) (hst : PStep bw w w5 vo vo3) :
    (∃ z, w5.cell? ⟨g, i, none⟩ = some (.int .i64 z)) ∧ w5.frozen? ⟨g, i, none⟩ = false ∧ g < w5.heap.size := by
  obtain ⟨g', cap', e', hg', _, _, hcell'⟩ := done_cells h.drow (by omega)
  obtain ⟨rfl, rfl⟩ : g = g' ∧ cap = cap' := by injection e' with e1 _ e3; injection e1 with e1; injection e1 with e1; exact ⟨e1, e3⟩
  have hl : i < d.length := by rw [h.done.1]; exact hi
  obtain ⟨c1, c2⟩ := hcell' i _ (List.getElem?_eq_getElem hl)
  obtain ⟨a1, a2, a3⟩ := h.aparts
  have hb := hst.block g hg' (fun e => a2 (by rw [← e]; rfl)) (a3 g rfl)
  exact ⟨⟨_, (World.cell?_of_block (a := ⟨g, i, none⟩) hb).trans c1⟩, (World.frozen?_of_block (a := ⟨g, i, none⟩) hb).trans c2, Nat.lt_of_lt_of_le hg' hst.size⟩

set_option maxRecDepth 100000 in
set_option maxHeartbeats 2000000 in
theorem rfin_new {bw : Nat} {W0 w : World} {A : Option Addr} {c : Nat} {f o : List Nd} {d : List Int} {vo vd : Value} (hf : Wf f) (hok : ∀ n ∈ f, n.ok) (h : RInv bw W0 w A c f o d vo vd) (hlen : f.length ≤ 1000) (i : Nat) (n : Nd) (hn : f[i]? = some n)
    (hd : d[i]? = some (-1)) (hpot : pot f o ≤ f.length) (ih : ∀ z : Int, 0 ≤ z → z < i → RFinSaid bw W0 A c f vd z) (ux uy : Bool) (hux : hasX n.op = ux) (huy : hasY n.op = uy) :
    Calls Tryd.prog 77 #[.slice A f.length c, .int .i64 i, .pointer (some ⟨bw, 0, none⟩)] w
      fun e w' => ∃ vo' d', e = .returned (.int .i64 (finN f i o).2) ∧ RInv bw W0 w' A c f (finN f i o).1 d' vo' vd ∧ FStep bw vd w w' vo vo' := by
  have hi : i < f.length := (List.getElem?_eq_some_iff.1 hn).1
  obtain ⟨b0, b1, bfr, blt⟩ := cells2 h.blk
  obtain ⟨g, cap, rfl, hg, hcap, hmax, hcell⟩ := done_cells h.drow (by omega)
  obtain ⟨hc, _⟩ := hcell i _ hd
  unfold maxLen at hmax
  obtain ⟨ad, rfl, hlt, hcells⟩ := h.nds.2.2 (by intro e; rw [e] at hi; simp at hi)
  have hcapl := h.nds.1
  have hcapm := h.nds.2.1
  unfold maxLen at hcapm
  obtain ⟨c0, c1, c2, c3, c4, c5⟩ := (hcells i n hn).keep fun p hp => h.below.cell (p := p) (by rw [hp, block_of_add]; exact hlt)
  have hadw : (ad.add (i * 6)).block < w.heap.size := by rw [block_of_add]; exact Nat.lt_of_lt_of_le hlt h.below.size
  have HCELLS := Lib.hid (hcells i n hn)
  have H := Lib.hid h; have HN := Lib.hid hn; have HUX := Lib.hid hux; have HUY := Lib.hid huy; have IH := Lib.hid ih; have HF := Lib.hid hf; have HOK := Lib.hid hok; have HP := Lib.hid hpot
  clear h hn hux huy ih hcells hf hok hcell hd hpot
  have HMS := Lib.hid (RMid.start H.out n)
  go_enter Tryd.func77, Tryd.ntmps77
  go_upto_if 29 with (go_at_call 60; refine (usesX_as HUX.out _).mono ?_; rintro e w' ⟨rfl, rfl⟩)
  go_cut [] (fun wx => ∃ vo1 d1, RMid bw W0 w wx (some ad) c f (opX f n o).1 d1 vo vo1 (.slice (some ⟨g, 0, none⟩) f.length cap) w.heap.size (n.with_ (opX f n o).2 n.y.toNat))
  case first =>
    cases ux
    · go_wp2_with fail
      go_meet
      exact ⟨vo, d, by rw [opX_no HUX.out, with_x HUX.out (fun e => ((HF.out i n HN.out).2 e).1)]; exact HMS.out⟩
    · obtain ⟨hx0, hx1⟩ := (HF.out i n HN.out).1 HUX.out
      go_wp2_with fail
      refine (IH.out n.x hx0 hx1 _ _ _ _ HMS.out.inv HP.out).mono ?_
      rintro e w2 ⟨vo1, d1, rfl, hinv, hstep⟩
      have HM2 := Lib.hid (HMS.out.call hinv hstep)
      clear hinv hstep
      obtain ⟨⟨d0, d1', d2, d3, d4, d5⟩, dfr, dlt⟩ := cells6 HM2.out.box
      go_wp2_with fail
      go_meet
      refine ⟨vo1, d1, ?_⟩
      rw [opX_yes HUX.out]
      exact HM2.out.store 4 _ _ (store_x HUX.out (fun e => ((HF.out i n HN.out).2 e).1))
  case rest =>
    obtain ⟨vo1, d1, hmid1⟩ := hcut
    have HP1 : Hid (pot f (opX f n o).1 ≤ f.length) := Lib.hid (Nat.le_trans (pot_opX HF.out HN.out o) HP.out)
    obtain ⟨o1, k1, ho1⟩ : ∃ o1 k1, opX f n o = (o1, k1) := ⟨_, _, rfl⟩
    have HO1 := Lib.hid ho1
    rw [ho1] at hmid1 HP1
    simp only at hmid1 HP1
    clear ho1 b0 b1 bfr blt hc c0 c1 c2 c3 c4 c5 hadw HMS
    obtain ⟨⟨q0, q1, q2, q3, q4, q5⟩, qfr, qlt⟩ := cells6 hmid1.box
    rw [show (n.with_ k1 n.y.toNat).op = n.op from rfl] at q0
    obtain ⟨c0, c1, c2, c3, c4, c5⟩ := HCELLS.out.keep fun p hp => hmid1.inv.below.cell (p := p) (by rw [hp, block_of_add]; exact hlt)
    have HM := Lib.hid hmid1
    clear hmid1
    go_upto_if 41 with (go_at_call 61; refine (usesY_as HUY.out _).mono ?_; rintro e w' ⟨rfl, rfl⟩)
    go_cut [] (fun wx => ∃ vo2 d2, RMid bw W0 w wx (some ad) c f (opY f n o1).1 d2 vo vo2 (.slice (some ⟨g, 0, none⟩) f.length cap) w.heap.size (n.with_ k1 (opY f n o1).2))
    case first =>
      cases uy
      · go_wp2_with fail
        go_meet
        exact ⟨vo1, d1, by rw [opY_no HUY.out, with_y2 HUY.out]; exact HM.out⟩
      · obtain ⟨hy0, hy1⟩ := (HF.out i n HN.out).2 HUY.out
        go_wp2_with fail
        refine (IH.out n.y hy0 hy1 _ _ _ _ HM.out.inv HP1.out).mono ?_
        rintro e w2 ⟨vo2, d2, rfl, hinv, hstep⟩
        have HM2 := Lib.hid (HM.out.call hinv hstep)
        clear hinv hstep q0 q1 q2 q3 q4 q5 qfr qlt c0 c1 c2 c3 c4 c5
        obtain ⟨⟨q0, q1, q2, q3, q4, q5⟩, qfr, qlt⟩ := cells6 HM2.out.box
        go_wp2_with fail
        go_meet
        refine ⟨vo2, d2, ?_⟩
        rw [opY_yes HUY.out]
        exact HM2.out.store 5 _ _ (store_y HUY.out _ rfl)
    case rest =>
      obtain ⟨vo2, d2, hmid2⟩ := hcut
      have HP2 : Hid (pot f (opY f n o1).1 ≤ f.length) := Lib.hid (Nat.le_trans (pot_opY HF.out HN.out o1) HP1.out)
      obtain ⟨o2, k2, ho2⟩ : ∃ o2 k2, opY f n o1 = (o2, k2) := ⟨_, _, rfl⟩
      have HO2 := Lib.hid ho2
      rw [ho2] at hmid2 HP2
      simp only at hmid2 HP2
      clear ho2 q0 q1 q2 q3 q4 q5 qfr qlt c0 c1 c2 c3 c4 c5
      have hk1 : k1 ≤ 1000 := k1_le HF.out HN.out HO1.out hlen HP1.out
      have hk2 : k2 ≤ 1000 := k2_le HF.out HN.out HO2.out hlen HP2.out
      have HMOK := Lib.hid (with_ok (HOK.out n (List.mem_of_getElem? HN.out)) hk1 hk2)
      have HFIN := Lib.hid (fin_is HF.out HN.out HO1.out HO2.out)
      clear hk1 hk2
      generalize n.with_ k1 k2 = mm at hmid2 HMOK HFIN
      obtain ⟨⟨q0, q1, q2, q3, q4, q5⟩, qfr, qlt⟩ := cells6 hmid2.box
      obtain ⟨b0, b1, bfr, blt⟩ := cells2 hmid2.inv.blk
      have HM2 := Lib.hid hmid2
      clear hmid2
      go_upto_region 8 with (fail)
      go_cut [] (fun wx => ∃ vo3 d3, Hid (d3[i]? = some ((o2.idxOf mm : Nat) : Int)) ∧ Hid (RInv bw W0 wx (some ad) c f (addN o2 mm) d3 vo3 (.slice (some ⟨g, 0, none⟩) f.length cap)) ∧ Hid (FStep bw (.slice (some ⟨g, 0, none⟩) f.length cap) w wx vo vo3))
      case first =>
        have hap := HM2.out.inv.aparts
        have HRUN := Lib.hid (put_any bw W0.heap.size mm o2 vo2 (.slice (some ⟨g, 0, none⟩) f.length cap))
        have HAP := Lib.hid hap
        have hp2 : o2.length ≤ 1000 := Nat.le_trans (length_le_pot f o2) (Nat.le_trans HP2.out hlen)
        clear hap
        go_region_with (go_at_call 80; refine (HRUN.out _ (by exact HM2.out.inv.blk) (by exact HM2.out.inv.row) (by exact HM2.out.inv.below.size) hp2 HAP.out.1).mono ?_; rintro e w5 ⟨vo3, rfl, hblk5, hrow5, hst5'⟩; have hst5 : PStep bw wc w5 vo2 vo3 := (by first | exact hst5' | exact PStep.undrew hst5'); obtain ⟨r0, r1, rfr, rlt⟩ := cells2 hblk5; obtain ⟨⟨z0, s0⟩, s1, slt⟩ := done_after HM2.out.inv hi hst5; have H5 := Lib.hid (rmid_put HF.out HM2.out HFIN.out hi hblk5 hrow5 hst5 HMOK.out); clear hblk5 hrow5 hst5 hst5')
        all_goals
          go_wp2_with fail
          go_meet
          exact ⟨vo3, _, Lib.hid (set_get H5.out.1 hi), H5.out.2.1, H5.out.2.2⟩
      case rest =>
        obtain ⟨vo3, d3, HD3, HI3, HS3⟩ := hcut
        obtain ⟨b0', b1', bfr', blt'⟩ := cells2 HI3.out.blk
        obtain ⟨g', cap', e', hg', hcap', hmax', hcell'⟩ := done_cells HI3.out.drow (by omega)
        obtain ⟨rfl, rfl⟩ : g = g' ∧ cap = cap' := by injection e' with e1 _ e3; injection e1 with e1; injection e1 with e1; exact ⟨e1, e3⟩
        have hc3 := (hcell' i _ HD3.out).1
        clear hcell' e'
        go_wp2_with fail
        go_ret
        refine ⟨vo3, d3, ret_int ?_, ?_, HS3.out⟩
        · rw [HFIN.out]
        · rw [HFIN.out]
          exact HI3.out
end Go.Proofs.YtipnbfbakohcaaaDoor
