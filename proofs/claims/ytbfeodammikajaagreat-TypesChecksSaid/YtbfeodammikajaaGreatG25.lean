/- types' eliminate: the walk. -/
import Derived.Test.YtbfeodammikajaaGreatG24
import Derived.Test.YtbfeodammikajaaGreatG19
import Derived.Deep.DeepCutAuto
import Derived.Deep.CutBlock
import Derived.Outline
import Derived.Test.YtbfeodammikajaaGreatG20
import Derived.Test.YtbfeodammikajaaGreatG14
import Derived.Test.YtbfeodammikajaaGreatG11

namespace Go.Proofs.YtbfeodammikajaaGreat
open Go.RowKit

theorem tInfoU : (Tryz.prog.info? 40).map (fun i => (i.zero, i.size, i.bytes)) = some (some (.int .u64 0), 1, 8) := by kernel_rfl
/-- What eliminate leaves: the types that stay, in their block; what was taken away. -/
def ElimRes (w : World) (b g : Nat) (lg : Int) (base : List (List Nd)) (root : List Bool) (ks : List Kn) (cs : List Cm) (s : List Bool × List (Nat × Int)) (e : Ending) (w' : World) : Prop :=
  ∃ vt vw, e = .returned (.tuple #[vt, vw]) ∧ w.grownBy w' (some g) ∧ EngX w' b g lg base root ks cs s.1 ∧ w'.ownsRow w.heap.size 40 1 vt s.2.length (u64V (s.2.map Prod.fst)) ∧ w'.ownsRow w.heap.size 3 1 vw s.2.length (intV (s.2.map Prod.snd))
/-- The state of a run. -/
structure ElI (w wr : World) (g m : Nat) (vt vw : Value) (s : List Bool × List (Nat × Int)) : Prop where
  grown : w.grownBy wr (some g)
  row : BRow g wr g s.1
  ts : wr.ownsRow w.heap.size 40 1 vt s.2.length (u64V (s.2.map Prod.fst))
  ws : wr.ownsRow w.heap.size 3 1 vw s.2.length (intV (s.2.map Prod.snd))
  len : s.1.length = m
  apart : ∀ k, vt.ownBlock = some k → vw.ownBlock ≠ some k
theorem elim_succ {why : List Bool → Nat → Option Int} (k : Nat) (s : List Bool × List (Nat × Int)) : elimG why (k + 1) s = (bif (passG why (List.range s.1.length) s).2.length == s.2.length then s else elimG why k (passG why (List.range s.1.length) s)) := rfl
def lenOf (v : Value) : Nat := match v with | .slice _ n _ => n | _ => 0
def flagOf (v : Value) : Nat := match v with | .bool true => 1 | _ => 0
section
variable {w wr W : World} {b g : Nat} {lg : Int} {base : List (List Nd)} {root : List Bool} {ks : List Kn} {cs : List Cm} {m : Nat} {vt vw : Value} {s : List Bool × List (Nat × Int)} {alive : List Bool}
theorem ElI.next (h : ElI w wr g m vt vw s) (he : Ext wr W) : ElI w W g m vt vw s :=
  ⟨⟨he.os.trans h.grown.os, he.tape.trans h.grown.tape, he.output.trans h.grown.output, Nat.le_trans h.grown.size he.size, fun k hk hn => (he.block (Nat.lt_of_lt_of_le hk h.grown.size)).trans (h.grown.block k hk hn)⟩, h.row.ext he, row_ext h.ts he, row_ext h.ws he, h.len, h.apart⟩
theorem ElI.eng (h : ElI w wr g m vt vw s) (hE : EngX w b g lg base root ks cs alive) (hm : alive.length = m) : EngX wr b g lg base root ks cs s.1 := by
  refine ⟨fun w' h1 h2 => ?_, h.row⟩
  rw [h.len, ← hm]
  exact hE.keep w' (Nat.le_trans h.grown.size h1) (fun k hk hl => (h2 k hk (Nat.lt_of_lt_of_le hl h.grown.size)).trans (h.grown.block k hl (fun e => hk (by injection e))))
theorem ElI.take {w7 w9 : World} {c1 c2 : Obj} {v7 v9 : Value} {t : Nat} {i : Int} (h : ElI w wr g m vt vw s) (hg : g < w.heap.size)
    (h7 : w7.ownsRow w.heap.size 40 1 v7 (s.2.length + 1) (u64V (s.2.map Prod.fst) ++ [.int .u64 (t : Int)])) (g7 : ((wr.setCell ⟨g, t, none⟩ (.bool false)).alloc c1).grownBy w7 vt.ownBlock)
    (h9 : w9.ownsRow w.heap.size 3 1 v9 (s.2.length + 1) (intV (s.2.map Prod.snd) ++ [.int .i64 i])) (g9 : (w7.alloc c2).grownBy w9 vw.ownBlock)
    (a7 : v7.ownBlock = vt.ownBlock ∨ v7.ownBlock = some ((wr.setCell ⟨g, t, none⟩ (.bool false)).alloc c1).heap.size) (a9 : v9.ownBlock = vw.ownBlock ∨ v9.ownBlock = some (w7.alloc c2).heap.size) :
    ElI w w9 g m v7 v9 (s.1.set t false, s.2 ++ [(t, i)]) := by
  have hvt : ∀ k, vt.ownBlock = some k → w.heap.size ≤ k := fun k hk => (h.ts.lt k hk).1
  have hvw : ∀ k, vw.ownBlock = some k → w.heap.size ≤ k := fun k hk => (h.ws.lt k hk).1
  have hs := (h.row.set t false).2
  have s1 : (wr.setCell ⟨g, t, none⟩ (.bool false)).heap.size = wr.heap.size := by simp [World.setCell]
  have s2 : ((wr.setCell ⟨g, t, none⟩ (.bool false)).alloc c1).heap.size = wr.heap.size + 1 := by simp [s1]
  have s7 := g7.size
  rw [s2] at s7
  have s8 : (w7.alloc c2).heap.size = w7.heap.size + 1 := by simp
  have s9 := g9.size
  rw [s8] at s9
  have hgr := h.row.lt.2
  have blk : ∀ k, k < wr.heap.size → k ≠ g → vt.ownBlock ≠ some k → vw.ownBlock ≠ some k → w9.heap[k]? = wr.heap[k]? := fun k hk hkg hkt hkw => by
    rw [g9.block k (by omega) (fun e => hkw e.symm), ((Ext.refl w7).alloc c2).block (by omega), g7.block k (by omega) (fun e => hkt e.symm), ((Ext.refl (wr.setCell ⟨g, t, none⟩ (.bool false))).alloc c1).block (by omega)]
    exact Below.heap_setCell _ _ _ _ hkg
  have blkg : w9.heap[g]? = (wr.setCell ⟨g, t, none⟩ (.bool false)).heap[g]? := by
    rw [g9.block g (by omega) (fun e => by have := hvw g e.symm; omega), ((Ext.refl w7).alloc c2).block (by omega), g7.block g (by omega) (fun e => by have := hvt g e.symm; omega), ((Ext.refl (wr.setCell ⟨g, t, none⟩ (.bool false))).alloc c1).block (by omega)]
  have hws : vw.ownBlock ≠ v7.ownBlock ∨ vw.ownBlock = none := by
    cases hv : vw.ownBlock with
    | none => exact .inr rfl
    | some k =>
      refine .inl fun e => ?_
      rcases a7 with e1 | e1
      · exact h.apart k (e1 ▸ e.symm) hv
      · rw [e1, s2] at e
        injection e with e
        have := (h.ws.lt k hv).2
        omega
  have h79 : w9.ownsRow w.heap.size 40 1 v7 (s.2.length + 1) (u64V (s.2.map Prod.fst) ++ [.int .u64 (t : Int)]) := row_keep h7 fun k hk => by
    rw [g9.block k (by have := (h7.lt k hk).2; omega) (fun e => by
      rcases hws with e1 | e1
      · exact e1 (e.symm.trans hk.symm)
      · rw [e1] at e; cases e)]
    exact ((Ext.refl w7).alloc c2).block (h7.lt k hk).2
  refine ⟨⟨?_, ?_, ?_, by have := h.grown.size; omega, fun k hk hn => ?_⟩, ?_, ?_, ?_, by rw [List.length_set]; exact h.len, fun k hk hk2 => ?_⟩
  · exact (g9.os.trans (g7.os.trans hs.os)).trans h.grown.os
  · exact (g9.tape.trans (g7.tape.trans hs.tape)).trans h.grown.tape
  · exact (g9.output.trans (g7.output.trans hs.output)).trans h.grown.output
  · rw [blk k (Nat.lt_of_lt_of_le hk h.grown.size) (fun e => hn (by rw [e])) (fun e => by have := hvt k e; omega) (fun e => by have := hvw k e; omega)]
    exact h.grown.block k hk hn
  · exact row_keep (h.row.set t false).1 fun k hk => by
      have : k = g := by injection hk with hk; exact hk.symm
      subst this
      exact blkg
  · rw [List.length_append, List.length_singleton, List.map_append]
    unfold u64V at h79 ⊢
    rw [List.map_append]
    exact h79
  · rw [List.length_append, List.length_singleton, List.map_append]
    unfold intV at h9 ⊢
    rw [List.map_append]
    exact h9
  · rcases a9 with e1 | e1
    · rw [e1] at hk2
      rcases hws with e2 | e2
      · exact e2 (hk2.trans hk.symm)
      · rw [e2] at hk2; cases hk2
    · rw [e1, s8] at hk2
      injection hk2 with hk2
      have := (h7.lt k hk).2
      omega
end
set_option maxRecDepth 100000 in
set_option maxHeartbeats 64000000 in
theorem eliminate_any (b g : Nat) (lg : Int) (base : List (List Nd)) (root : List Bool) (ks : List Kn) (cs : List Cm) (alive : List Bool) (w : World)
    (hE : EngX w b g lg base root ks cs alive) (hlg : 0 ≤ lg ∧ lg ≤ 6) (hm : alive.length ≤ 4096) (hb : base.length ≤ 12) (hks : ∀ k ∈ ks, k.place < 64 ∧ alive.length ≤ k.holds.length) (hcs : ∀ c ∈ cs, c.place < 64 ∧ c.x.length = alive.length ∧ c.y.length = alive.length ∧ 0 ≤ c.group ∧ c.group < 16) :
    Calls Tryz.prog 34 #[.pointer (some ⟨b, 0, none⟩)] w (ElimRes w b g lg base root ks cs (elimN lg ks cs base.length alive)) := by
  have HE := Lib.hid hE
  have HKS := Lib.hid hks
  have HCS := Lib.hid hcs
  have hgl := hE.row.lt.2
  obtain ⟨iU, hiU, hzU0, hzU1, hzU2⟩ := info_parts tInfoU
  obtain ⟨iI, hiI, hzI0, hzI1, hzI2⟩ := info_parts tInfo3
  obtain ⟨fin, hfin⟩ : ∃ f, f = elimN lg ks cs base.length alive := ⟨_, rfl⟩
  have HFIN := Lib.hid hfin
  obtain ⟨why, hwhy⟩ : ∃ f, f = whyN lg ks cs base.length := ⟨_, rfl⟩
  have HWHY := Lib.hid hwhy
  obtain ⟨m, hmm⟩ : ∃ m, m = alive.length := ⟨_, rfl⟩
  have HMM := Lib.hid hmm
  rw [← hfin]
  rw [← hmm] at hm
  have HI0 := Lib.hid (show ElI w w g m (.slice none 0 0) (.slice none 0 0) (alive, []) from ⟨World.grownBy.refl _ _, hE.row, World.ownsRow_nil _ _ _ _, World.ownsRow_nil _ _ _ _, hmm.symm, fun k hk => by cases hk⟩)
  clear hE hks hcs hfin hwhy hmm
  go_enter Tryz.func34, Tryz.ntmps34
  go_wp2_with fail
  go_loopw [2, 3, 4] (fun vt vw vc wr => ∃ (fl : Bool) (n : Nat), vc = .bool fl ∧ n ≤ m ∧ lenOf vt = n ∧ Hid (∃ s, ElI w wr g m vt vw s ∧ s.2.length = n ∧ cnt s.1 + s.2.length ≤ m ∧ (fl = true → ∃ k, cnt s.1 < k ∧ elimG why k s = fin) ∧ (fl = false → s = fin))) (fun vt _ vc _ => 2 * (m - lenOf vt) + flagOf vc)
  case atStart => exact ⟨true, 0, rfl, Nat.zero_le _, rfl, Lib.hid ⟨(alive, []), HI0.out, rfl, by show cnt alive + 0 ≤ m; rw [HMM.out]; exact cnt_le alive, (fun _ => ⟨alive.length + 1, by show cnt alive < _; have := cnt_le alive; omega, by rw [HFIN.out, HWHY.out]; rfl⟩), (fun e => by cases e)⟩⟩
  case round =>
    clear HI0
    obtain ⟨fl, n, rfl, hn, hln, HREL⟩ := hrel
    obtain ⟨s, hs, hsn, hcnt, hft, hff⟩ := HREL.out
    have HS := Lib.hid hs
    have HSN := Lib.hid hsn
    have HFT := Lib.hid hft
    have HFF := Lib.hid hff
    obtain ⟨At, ct, rfl⟩ := slice_of_row hs.ts
    obtain ⟨Aw, cw, rfl⟩ := slice_of_row hs.ws
    clear HREL hs hsn hft hff
    cases fl
    · go_wp2_with fail
      go_ret2
      have e := HFF.out (by trivial)
      exact ⟨_, _, rfl, HS.out.grown, by rw [← e]; exact HS.out.eng HE.out HMM.out.symm, by rw [← e]; exact HS.out.ts, by rw [← e]; exact HS.out.ws⟩
    · obtain ⟨_, _, _, _, x0, x1, x2, x5, xl⟩ := (HS.out.eng HE.out HMM.out.symm).cells
      rw [HS.out.len] at x5
      go_wp2_with fail
      go_step3
      go_wp2_with fail
      go_step3
      go_wp2_with fail
      clear x0 x1 x2 x5 xl
      go_loopw [2, 3, 4, 14] (fun vt vw vc vi wr => ∃ t : Nat, vi = .int .i64 (t : Int) ∧ t ≤ m ∧ ∃ (fl : Bool) (n2 : Nat), vc = .bool fl ∧ n2 ≤ m ∧ n ≤ n2 ∧ lenOf vt = n2 ∧ (fl = true ↔ n < n2) ∧ Hid (ElI w wr g m vt vw (passG why (List.range t) s) ∧ (passG why (List.range t) s).2.length = n2)) (fun _ _ _ vi _ => m - (intOf vi).toNat)
      case atStart => exact ⟨0, rfl, Nat.zero_le _, false, n, rfl, hn, Nat.le_refl _, by exact HSN.out, (by simp), Lib.hid ⟨HS.out, HSN.out⟩⟩
      case round =>
        obtain ⟨t, rfl, ht, fl, n2, rfl, hn2, hnn, hln2, hfl, HREL⟩ := hrel
        obtain ⟨hs2, hsn2⟩ := HREL.out
        have HS2 := Lib.hid hs2
        have HSN2 := Lib.hid hsn2
        obtain ⟨s2, hs2d⟩ : ∃ x, x = passG why (List.range t) s := ⟨_, rfl⟩
        have HS2D := Lib.hid hs2d
        rw [← hs2d] at HS2 HSN2 hs2
        obtain ⟨At2, ct2, rfl⟩ := slice_of_row hs2.ts
        obtain ⟨Aw2, cw2, rfl⟩ := slice_of_row hs2.ws
        have HFL := Lib.hid hfl
        clear HREL hs2 hsn2 hs2d hfl
        by_cases hlt2 : t < m
        · have hk1 : (t : Int) < (m : Int) := by omega
          have hgl2 : g < wr.heap.size := Nat.lt_of_lt_of_le hgl HS2.out.grown.size
          have gfr := HS2.out.row.frozen t
          obtain ⟨at_, hat⟩ : ∃ x, x = s2.1.getD t false := ⟨_, rfl⟩
          have gc : wr.cell? ⟨g, t, none⟩ = some (.bool at_) := HS2.out.row.cell (by rw [hat, List.getD_eq_getElem?_getD, List.getElem?_eq_getElem (by rw [HS2.out.len]; exact hlt2)]; rfl)
          have HAT := Lib.hid hat
          have HNX := Lib.hid (show passG why (List.range (t + 1)) s = stepG why s2 t by rw [pass_snoc, ← HS2D.out])
          clear hat
          obtain ⟨_, cb, _, _, x0, x1, x2, x5, xl⟩ := (HS2.out.eng HE.out HMM.out.symm).cells
          rw [HS2.out.len] at x5
          go_wp2_with fail
          cases at_
          · have HST := Lib.hid (show stepG why s2 t = s2 by unfold stepG; rw [← HAT.out]; rfl)
            go_loopw [2, 3, 4, 7] (fun v2 v3 v4 vi wr2 => v2 = .slice At2 s2.2.length ct2 ∧ v3 = .slice Aw2 s2.2.length cw2 ∧ v4 = .bool fl ∧ vi = .int .i64 (-4) ∧ wr2 = wr) (fun _ _ _ _ _ => 0)
            case atStart => exact ⟨rfl, rfl, rfl, rfl, rfl⟩
            case round =>
              obtain ⟨rfl, rfl, rfl, rfl, rfl⟩ := hrel
              go_wp2_with fail
              go_roundw
              case rel => exact ⟨t + 1, by go_num, by omega, fl, n2, rfl, hn2, hnn, hln2, HFL.out, Lib.hid (by rw [HNX.out, HST.out]; exact ⟨HS2.out, HSN2.out⟩)⟩
              case measure => simp [intOf]; omega
          · obtain ⟨wq, hwq⟩ : ∃ v, v = wr := ⟨_, rfl⟩
            subst hwq
            clear x0 x1 x2 x5
            go_loopw [2, 3, 4, 7] (fun v2 v3 v4 vi wr2 => v2 = .slice At2 s2.2.length ct2 ∧ v3 = .slice Aw2 s2.2.length cw2 ∧ v4 = .bool fl ∧ ∃ z : Int, vi = .int .i64 z ∧ -4 ≤ z ∧ z ≤ (base.length : Int) ∧ Hid (Ext wq wr2 ∧ ∀ j : Int, -4 ≤ j → j < z → lacksN lg ks cs s2.1 t j = false)) (fun _ _ _ vi _ => ((base.length : Int) - intOf vi).toNat)
            case atStart => exact ⟨rfl, rfl, rfl, -4, rfl, by omega, by omega, Lib.hid ⟨Ext.refl _, fun j h1 h2 => by omega⟩⟩
            case round =>
              obtain ⟨rfl, rfl, rfl, z, rfl, hz0, hz1, HREL⟩ := hrel
              have HX := Lib.hid HREL.out.1
              have HJ := Lib.hid HREL.out.2
              clear HREL
              have HN2 := Lib.hid (HS2.out.next HX.out)
              have HEW := Lib.hid (HN2.out.eng HE.out HMM.out.symm)
              obtain ⟨_, cb2, _, _, x0, x1, x2, x5, xl2⟩ := HEW.out.cells
              rw [HS2.out.len] at x5
              by_cases hzl : z < (base.length : Int)
              · have HLK := Lib.hid (lacks_any b lg base root ks cs s2.1 t z wr HEW.out.eng hlg (by rw [HS2.out.len]; exact hlt2) (by rw [HS2.out.len]; exact hm) ⟨by omega, by omega⟩ (by rw [HS2.out.len, HMM.out]; exact HKS.out) (by rw [HS2.out.len, HMM.out]; exact HCS.out))
                obtain ⟨lk, hlk⟩ : ∃ x, x = lacksN lg ks cs s2.1 t z := ⟨_, rfl⟩
                have HLKK := Lib.hid hlk
                rw [← hlk] at HLK
                clear hlk
                go_wp2_with fail
                refine HLK.out.mono ?_
                rintro e w3 ⟨rfl, hx3⟩
                have HX3 := Lib.hid (HX.out.trans hx3)
                have HN3 := Lib.hid (HN2.out.next hx3)
                clear hx3 x0 x1 x2 x5
                obtain ⟨_, cb3, _, _, y0, y1, y2, y5, yl⟩ := (HN3.out.eng HE.out HMM.out.symm).cells
                rw [HS2.out.len] at y5
                have hgl3 : g < w3.heap.size := Nat.lt_of_lt_of_le hgl HN3.out.grown.size
                have gfr3 := HN3.out.row.frozen t
                have gc3 : w3.cell? ⟨g, t, none⟩ = some (.bool true) := HN3.out.row.cell (by rw [HAT.out, List.getD_eq_getElem?_getD, List.getElem?_eq_getElem (by rw [HS2.out.len]; exact hlt2)]; rfl)
                cases lk
                · go_wp2_with fail
                  go_roundw
                  case rel => exact ⟨by first | rfl | trivial, by first | rfl | trivial, by first | rfl | trivial, z + 1, rfl, by omega, by omega, Lib.hid ⟨HX3.out, fun j h1 h2 => by
                    by_cases e : j < z
                    · exact HJ.out j h1 e
                    · have : j = z := by omega
                      subst this
                      exact HLKK.out.symm⟩⟩
                  case measure => simp [intOf]; omega
                · have HWY := Lib.hid (show why s2.1 t = some z by rw [HWHY.out]; exact why_hit hz0 hzl HLKK.out.symm HJ.out)
                  have HST := Lib.hid (show stepG why s2 t = (s2.1.set t false, s2.2 ++ [(t, z)]) by
                    unfold stepG
                    rw [← HAT.out, HWY.out]
                    rfl)
                  have hnm : s2.2.length + 1 ≤ m := by
                    have h1 := step_cnt (why := why) s2 t
                    rw [HST.out] at h1
                    have h2 := pass_cnt (why := why) (List.range t) s
                    rw [← HS2D.out] at h2
                    simp only [List.length_append, List.length_singleton] at h1
                    omega
                  have hc3 : s2.2.length + 1 ≤ maxLen := by unfold maxLen; omega
                  have hc4 : (s2.2.length + 1) * 8 ≤ 140737488355328 := by omega
                  have hsz : (w3.setCell ⟨g, t, none⟩ (.bool false)).heap.size = w3.heap.size := by simp [World.setCell]
                  have HRT := Lib.hid (show (w3.setCell ⟨g, t, none⟩ (.bool false)).ownsRow w.heap.size 40 1 (.slice At2 s2.2.length ct2) s2.2.length (u64V (s2.2.map Prod.fst)) from ownsRow_setCell_other (a := ⟨g, t, none⟩) HN3.out.ts (fun e => by have := (HN3.out.ts.lt g e).1; omega) _)
                  have HRW := Lib.hid (show (w3.setCell ⟨g, t, none⟩ (.bool false)).ownsRow w.heap.size 3 1 (.slice Aw2 s2.2.length cw2) s2.2.length (intV (s2.2.map Prod.snd)) from ownsRow_setCell_other (a := ⟨g, t, none⟩) HN3.out.ws (fun e => by have := (HN3.out.ws.lt g e).1; omega) _)
                  have hws3 : w.heap.size ≤ w3.heap.size := HN3.out.grown.size
                  have hgl4 := hgl3
                  go_upto_region 12 with (fail)
                  go_wp2_with (at_builtin; refine wpList_append_own_at _ rfl _ _ 27 rfl w.heap.size 40 iU (.int .u64 0) 1 8 Tryz.underlying27 hiU hzU0 hzU1 hzU2 rfl (by decide) _ s2.2.length (u64V (s2.2.map Prod.fst)) rfl (row_ext HRT.out ((Ext.refl _).alloc _)) ⟨_, 0, none⟩ 1 1 [.int .u64 (t : Int)] rfl rfl (row_new_at _ _ _ (by simp)) (fun u hu => by rw [List.mem_singleton.1 hu]; rfl) hc3 hc4 (by simp [World.setCell]; omega) ?_)
                  intro v7 w7 hown7 hgrow7 _ hat7
                  have HG7 := Lib.hid hgrow7
                  have HO7 := Lib.hid hown7
                  have HRW7 := Lib.hid (show w7.ownsRow w.heap.size 3 1 (.slice Aw2 s2.2.length cw2) s2.2.length (intV (s2.2.map Prod.snd)) from row_keep HRW.out fun k hk => by
                    rw [hgrow7.block k (by have := (HRW.out.lt k hk).2; simp; omega) (fun e => HN3.out.apart k e.symm hk)]
                    exact ((Ext.refl _).alloc _).block (HRW.out.lt k hk).2)
                  have h7s := hgrow7.size
                  obtain ⟨A7, c7, rfl⟩ := slice_of_row hown7
                  have HAT7 := Lib.hid hat7
                  clear hown7 hgrow7 hat7
                  have h7s2 : w.heap.size ≤ w7.heap.size := by simp [World.setCell] at h7s; omega
                  clear h7s
                  go_wp2_with (at_builtin; refine wpList_append_own_at _ rfl _ _ 28 rfl w.heap.size 3 iI (.int .i64 0) 1 8 Tryz.underlying28 hiI hzI0 hzI1 hzI2 rfl (by decide) _ s2.2.length (intV (s2.2.map Prod.snd)) rfl (row_ext HRW7.out ((Ext.refl _).alloc _)) ⟨_, 0, none⟩ 1 1 [.int .i64 z] rfl rfl (row_new_at _ _ _ (by simp)) (fun u hu => by rw [List.mem_singleton.1 hu]; rfl) hc3 hc4 (by simp; omega) ?_)
                  intro v9 w9 hown9 hgrow9 _ hat9
                  have HT := Lib.hid (HN3.out.take hgl HO7.out HG7.out hown9 hgrow9 (HAT7.out.imp_right fun h => by rw [h]; simp [World.setCell]) (hat9.imp_right fun h => by rw [h]; simp))
                  obtain ⟨A9, c9, rfl⟩ := slice_of_row hown9
                  clear hown9 hgrow9 hat9
                  go_wp2_with fail
                  go_roundw
                  case rel => exact ⟨t + 1, by go_num, by omega, true, s2.2.length + 1, rfl, hnm, by have := HSN2.out; omega, rfl, ⟨fun _ => by have := HSN2.out; omega, fun _ => rfl⟩, Lib.hid (by rw [HNX.out, HST.out]; exact ⟨HT.out, by simp⟩)⟩
                  case measure => simp [intOf]; omega
              · obtain rfl : (base.length : Int) = z := by omega
                have HST := Lib.hid (show stepG why s2 t = s2 by
                  unfold stepG
                  rw [← HAT.out, HWHY.out, why_miss (fun j h1 h2 => HJ.out j h1 h2)]
                  rfl)
                go_wp2_with fail
                go_roundw
                case rel => exact ⟨t + 1, by go_num, by omega, fl, n2, rfl, hn2, hnn, hln2, HFL.out, Lib.hid (by rw [HNX.out, HST.out]; exact ⟨HN2.out, HSN2.out⟩)⟩
                case measure => simp [intOf]; omega
        · obtain rfl : m = t := by omega
          go_wp2_with fail
          simp only [Exit.noGoto_normal]
          have HPN := Lib.hid (pass_none (why := why) (List.range m) s)
          have HCN := Lib.hid (pass_cnt (why := why) (List.range m) s)
          have hcn2 : cnt s2.1 + s2.2.length ≤ m := by rw [HS2D.out]; have := HCN.out.1; omega
          go_roundw
          case rel =>
            iterate 50 apply Exists.intro
            refine ⟨?_, rfl⟩
            refine ⟨fl, n2, rfl, hn2, hln2, Lib.hid ⟨s2, HS2.out, HSN2.out, hcn2, fun hfl => ?_, fun hfl => ?_⟩⟩
            · obtain ⟨k, hk, he⟩ := HFT.out (by trivial)
              have hlt3 := HFL.out.1 hfl
              cases k with
              | zero => omega
              | succ k =>
                refine ⟨k, ?_, ?_⟩
                · have h1 := HCN.out.1
                  rw [← HS2D.out] at h1
                  have h3 := HSN2.out
                  have h4 := HSN.out
                  omega
                · rw [← he]
                  rw [elim_succ]
                  rw [HS.out.len, ← HS2D.out]
                  have : (s2.2.length == s.2.length) = false := by
                    rw [beq_eq_false_iff_ne]
                    have h3 := HSN2.out
                    have h4 := HSN.out
                    omega
                  rw [this]
                  rfl
            · obtain ⟨k, hk, he⟩ := HFT.out (by trivial)
              have hge : ¬ n < n2 := fun h => by rw [HFL.out.2 h] at hfl; cases hfl
              have h3 := HSN2.out
              have h4 := HSN.out
              have h5 := (HPN.out (by rw [← HS2D.out]; omega)).1
              rw [← HS2D.out] at h5
              rw [h5]
              cases k with
              | zero => omega
              | succ k =>
                rw [← he]
                rw [elim_succ]
                rw [HS.out.len, ← HS2D.out]
                have : (s2.2.length == s.2.length) = true := by
                  rw [beq_iff_eq]; omega
                rw [this]
                rfl
          case measure =>
            have h3 := HFL.out
            have h4 := HSN2.out
            have h5 := HSN.out
            cases fl
            · show 2 * (m - s2.2.length) + 0 < 2 * (m - s.2.length) + 1
              have : ¬ n < n2 := fun h => by have := h3.2 h; cases this
              omega
            · show 2 * (m - s2.2.length) + 1 < 2 * (m - s.2.length) + 1
              have := h3.1 rfl
              omega
end Go.Proofs.YtbfeodammikajaaGreat

/- Eliminations in memory; what an engine's methods ask, from the formula's base. -/

namespace Go.Proofs.YtbfeodammikajaaGreat
open Go.RowKit

/-- A slice of words. -/
def U64s (w : World) (v : Value) (l : List Nat) : Prop :=
  ∃ A c, v = .slice A l.length c ∧ l.length ≤ c ∧ c ≤ maxLen ∧ (l ≠ [] → ∃ ad, A = some ad ∧ ad.block < w.heap.size ∧ ∀ (k z : Nat), l[k]? = some z → w.cell? (ad.add k) = some (.int .u64 (z : Int)))
theorem U64s.ext {w w' : World} {v : Value} {l : List Nat} (h : U64s w v l) (he : Ext w w') : U64s w' v l := by
  obtain ⟨A, c, e, h1, h2, h3⟩ := h
  refine ⟨A, c, e, h1, h2, fun hn => ?_⟩
  obtain ⟨ad, e, hlt, hc⟩ := h3 hn
  exact ⟨ad, e, Nat.lt_of_lt_of_le hlt he.size, fun k z hk => (he.cell (by rw [block_of_add]; exact hlt)).trans (hc k z hk)⟩
theorem u64s_nil (w : World) : U64s w (.slice none 0 0) [] := ⟨none, 0, rfl, Nat.le_refl _, by unfold maxLen; omega, fun h => absurd rfl h⟩
theorem u64s_of_row {w : World} {base : Nat} {v : Value} {l : List Nat} (h : w.ownsRow base 40 1 v l.length (u64V l)) : U64s w v l := by
  have e : u64V l = l.flatMap fun (u : Nat) => [Value.int .u64 (u : Int)] := by unfold u64V; exact List.map_eq_flatMap
  rw [e] at h
  obtain ⟨A, cap, rfl, h1, h2, h3⟩ := row_cells (f := fun (u : Nat) => [Value.int .u64 (u : Int)]) (c := 1) (fun _ => rfl) h
  refine ⟨A, cap, rfl, h1, h2, fun hn => ?_⟩
  obtain ⟨g, rfl, hg, hc⟩ := h3 hn
  refine ⟨_, rfl, hg, fun k z hk => ?_⟩
  have := hc k z hk 0 (by omega) _ rfl
  rw [addr_zero]
  simpa using this
theorem ints_of_vrow {w : World} {base : Nat} {v : Value} {l : List Int} (h : w.ownsRow base 3 1 v l.length (intV l)) : Ints w v l := ints_of_row h
/-- An elimination. -/
def Elm (w : World) (v : Value) (lg : Int) (ts : List Nat) (ws : List Int) : Prop := ∃ vt vw, v = .agg #[.int .i64 lg, vt, vw] ∧ U64s w vt ts ∧ Ints w vw ws
theorem Elm.ext {w w' : World} {v : Value} {lg : Int} {ts : List Nat} {ws : List Int} (h : Elm w v lg ts ws) (he : Ext w w') : Elm w' v lg ts ws := by
  obtain ⟨vt, vw, e, h1, h2⟩ := h
  exact ⟨vt, vw, e, h1.ext he, h2.ext he⟩
theorem elm_nil (w : World) : Elm w (.agg #[.int .i64 0, .slice none 0 0, .slice none 0 0]) 0 [] [] := ⟨_, _, rfl, u64s_nil w, Ints.none_ w⟩
/-- What the methods ask. -/
structure EngAll (lg : Int) (f : List Nd) : Prop where
  lgr : 0 ≤ lg ∧ lg ≤ 6
  len : (baseN f).1.length ≤ 12
  al : (aliveN lg (baseN f).1).length = 2 ^ (baseN f).1.length
  le : (aliveN lg (baseN f).1).length ≤ 4096
  root : (rootN f).length = 2 ^ (baseN f).1.length
  ks : ∀ k ∈ knowsN (baseN f).1, k.place < 64 ∧ k.holds.length = 2 ^ (baseN f).1.length
  cs : ∀ c ∈ commsN (baseN f).1, c.place < 64 ∧ c.x.length = 2 ^ (baseN f).1.length ∧ c.y.length = 2 ^ (baseN f).1.length ∧ 0 ≤ c.group ∧ c.group < 16
theorem eng_all {lg : Int} {f : List Nd} (h : EngOk lg f) : EngAll lg f := by
  have hl := h.b.len
  refine ⟨⟨h.l0, h.l6⟩, hl, alive_len _ _, by rw [alive_len]; exact pow12 hl, tab_len _ _, fun k hk => ?_, fun c hc => ?_⟩
  · have := kn_size hk
    exact ⟨by omega, this.2⟩
  · obtain ⟨i, hi, hk⟩ := List.mem_flatMap.1 hc
    have hi := List.mem_range.1 hi
    unfold cmOf at hk
    cases ho : (lastN ((baseN f).1.getD i [])).op == 13
    · rw [ho] at hk; cases hk
    · rw [ho] at hk
      rw [List.mem_singleton.1 hk]
      have hg : (baseN f).1[i]? = some ((baseN f).1.getD i []) := by rw [List.getD_eq_getElem?_getD, List.getElem?_eq_getElem hi]; rfl
      obtain ⟨t, ht, hc, _⟩ := h.b.can _ (List.mem_of_getElem? hg)
      obtain ⟨gn, e, hlt⟩ := group_top ht (by rw [← hc]; simpa using ho)
      rw [← hc] at e
      exact ⟨by show i < 64; omega, tab_len _ _, tab_len _ _, by show 0 ≤ (lastN _).g ∧ (lastN _).g < 16; rw [e]; omega⟩
theorem results_ct {P : Program} {fn : Func} {t u : Tmp} {ty : TypeId} (h : fn.results = #[.cell t ty, .tmp u]) (tmps : Array Value) (w : World) {b o : Nat} (ht : tmps.getD t undef = .pointer (some ⟨b, o, none⟩)) {cs : List Value} {d : TypeDesc} (hc : w.rangeAt b o cs)
    (hu : P.underlying ty = some d) (hd : d.isRow = true) (hi : (P.info? ty).map (·.size) = some cs.length) : (results fn tmps).run P w = .ok (.tuple #[.agg cs.toArray, tmps.getD u undef]) w := by
  have ht' : tmps[t]?.getD undef = .pointer (some ⟨b, o, none⟩) := by rw [← Array.getD_eq_getD_getElem?]; exact ht
  simp [results, h, ht', asAddr, run_loadVar_mid w b o ty cs d hc hu hd hi]
theorem cells3z {w : World} {b : Nat} {a0 a1 a2 : Value} {t : TypeId} (h : w.heap[b]? = some (.cells #[a0, a1, a2] t (0, 0))) :
    (w.cell? ⟨b, 0, none⟩ = some a0 ∧ w.cell? ⟨b, 1, none⟩ = some a1 ∧ w.cell? ⟨b, 2, none⟩ = some a2) ∧ (w.frozen? ⟨b, 0, none⟩ = false ∧ w.frozen? ⟨b, 1, none⟩ = false ∧ w.frozen? ⟨b, 2, none⟩ = false) ∧ b < w.heap.size :=
  ⟨⟨by simp [World.cell?, h], by simp [World.cell?, h], by simp [World.cell?, h]⟩, ⟨by simp [World.frozen?, h], by simp [World.frozen?, h], by simp [World.frozen?, h]⟩, lt_heap h⟩
theorem set3z {w : World} {b : Nat} {a0 a1 a2 : Value} {t : TypeId} (h : w.heap[b]? = some (.cells #[a0, a1, a2] t (0, 0))) (v0 v1 v2 : Value) :
    (((w.setCell ⟨b, 0, none⟩ v0).setCell ⟨b, 1, none⟩ v1).setCell ⟨b, 2, none⟩ v2).heap[b]? = some (.cells #[v0, v1, v2] t (0, 0)) := by
  simp only [World.setCell, Array.getElem?_modify, h, if_true, Option.map_some]
  simp
theorem ext3z {w w' : World} {b : Nat} (h : Ext w w') (hb : w.heap.size ≤ b) (v0 v1 v2 : Value) : Ext w (((w'.setCell ⟨b, 0, none⟩ v0).setCell ⟨b, 1, none⟩ v1).setCell ⟨b, 2, none⟩ v2) :=
  ((h.setCell (p := ⟨b, 0, none⟩) hb v0).setCell (p := ⟨b, 1, none⟩) hb v1).setCell (p := ⟨b, 2, none⟩) hb v2
theorem other3z {w : World} {b k : Nat} (h : k ≠ b) (v0 v1 v2 : Value) : (((w.setCell ⟨b, 0, none⟩ v0).setCell ⟨b, 1, none⟩ v1).setCell ⟨b, 2, none⟩ v2).heap[k]? = w.heap[k]? := by
  rw [Below.heap_setCell _ _ _ _ h, Below.heap_setCell _ _ _ _ h, Below.heap_setCell _ _ _ _ h]
end Go.Proofs.YtbfeodammikajaaGreat

/- types' Refute: the walk. -/

namespace Go.Proofs.YtbfeodammikajaaGreat
open Go.RowKit

/-- What Refute returns. -/
def RefRes (w : World) (lg : Int) (f : List Nd) (e : Ending) (w' : World) : Prop :=
  Ext w w' ∧ ∃ v, e = .returned (.tuple #[v, .int .i64 (refErr lg f)]) ∧ (refErr lg f ≠ 0 → Elm w' v 0 [] []) ∧ (refErr lg f = 0 → Elm w' v lg ((endN lg f).2.map Prod.fst) ((endN lg f).2.map Prod.snd))
theorem refErr_bad {lg : Int} {f : List Nd} (h : engErr lg f ≠ 0) : refErr lg f = engErr lg f := by
  unfold refErr
  rw [show (engErr lg f != 0) = true by simpa using h]
  rfl
theorem refErr_ok {lg : Int} {f : List Nd} (h : engErr lg f = 0) : refErr lg f = bif leftN lg f then 15 else 0 := by
  unfold refErr
  rw [show (engErr lg f != 0) = false by simpa using h]
  rfl
set_option maxRecDepth 100000 in
set_option maxHeartbeats 16000000 in
theorem refute_any (lg : Int) (v : Value) (f : List Nd) (w : World) (h : Fml w v f) :
    Calls Tryz.prog 11 #[.int .i64 lg, v] w (RefRes w lg f) := by
  have H := Lib.hid h
  obtain ⟨Af, cf, rfl, _⟩ := fml_slice h
  clear h
  have HW0 := Lib.hid (show (w.alloc (.cells #[.int .i64 0, .slice none 0 0, .slice none 0 0] 30)).heap[w.heap.size]? = some (.cells #[.int .i64 0, .slice none 0 0, .slice none 0 0] 30 (0, 0)) from heap_alloc_new _ _)
  have HX0 := Lib.hid (show Ext w (w.alloc (.cells #[.int .i64 0, .slice none 0 0, .slice none 0 0] 30)) from (Ext.refl _).alloc _)
  obtain ⟨er, her⟩ : ∃ er, er = engErr lg f := ⟨_, rfl⟩
  have HER := Lib.hid her
  by_cases hz : er = 0
  · subst hz
    have HA := Lib.hid (eng_all (eng_ok her.symm))
    clear her
    go_enter Tryz.func11, Tryz.ntmps11
    go_wp2_with fail
    refine (newEngine_any lg _ f _ (H.out.ext HX0.out)).mono ?_
    rintro e w1 ⟨hx1, hr⟩
    obtain ⟨b, g, rfl, hb, hg, hE⟩ := (hr.resolve_left (fun h => h.1 HER.out.symm)).2
    have HE := Lib.hid hE
    have HX1 := Lib.hid hx1
    have HGB := Lib.hid (show w.heap.size < g by simp at hg; omega)
    clear hr hb hg hE hx1
    go_wp2_with fail
    refine (eliminate_any b g lg _ _ _ _ _ _ HE.out HA.out.lgr HA.out.le HA.out.len (fun k hk => ⟨(HA.out.ks k hk).1, by rw [(HA.out.ks k hk).2, HA.out.al]; exact Nat.le_refl _⟩) (fun c hc => by have := HA.out.cs c hc; rw [HA.out.al]; exact this)).mono ?_
    rintro e w2 ⟨vt, vw, rfl, hgr, hE2, ht, hw⟩
    obtain ⟨s, hs⟩ : ∃ s, s = endN lg f := ⟨_, rfl⟩
    have HS := Lib.hid hs
    rw [show elimN lg (knowsN (baseN f).1) (commsN (baseN f).1) (baseN f).1.length (aliveN lg (baseN f).1) = s from hs.symm] at hE2 ht hw
    obtain ⟨At, ct, rfl⟩ := slice_of_row ht
    obtain ⟨Aw, cw, rfl⟩ := slice_of_row hw
    have HT := Lib.hid ht
    have HWR := Lib.hid hw
    have HE2 := Lib.hid hE2
    have HB1 := Lib.hid ((HX1.out.block (by simp)).trans HW0.out)
    have HB2 := Lib.hid ((hgr.block w.heap.size (lt_heap HB1.out) (fun e => by injection e with e; have := HGB.out; omega)).trans HB1.out)
    have HX2 := Lib.hid (show Ext w w2 from (HX0.out.trans HX1.out).grown hgr (fun k e => by injection e with e; have := HGB.out; omega))
    have HLO := Lib.hid (show w.heap.size < w1.heap.size from lt_heap HB1.out)
    have HLEN := Lib.hid (show (rootN f).length = s.1.length by rw [hs, end_len]; exact HA.out.root)
    obtain ⟨⟨q0, q1, q2⟩, ⟨f0, f1, f2⟩, ql⟩ := cells3z HB2.out
    clear hgr hE2 ht hw hs
    go_wp2_with fail
    refine (satisfied_any b lg _ _ _ _ _ _ HE2.out.eng HLEN.out).mono ?_
    rintro e w3 ⟨rfl, rfl⟩
    have HL := Lib.hid (show satisfiedN s.1 (rootN f) = leftN lg f by rw [HS.out]; rfl)
    rw [HL.out]
    have HRE := Lib.hid (refErr_ok HER.out.symm)
    cases hl : leftN lg f
    · have HR0 := Lib.hid (show refErr lg f = 0 by rw [HRE.out, hl]; rfl)
      clear hl
      go_wp2_with fail
      (try simp only [Exit.inBlock, Exit.then])
      have hx3 := ext3z HX2.out (Nat.le_refl _) (.int .i64 lg) (.slice At s.2.length ct) (.slice Aw s.2.length cw)
      have h1 : s.2.length = (s.2.map Prod.fst).length := by rw [List.length_map]
      have h2 : s.2.length = (s.2.map Prod.snd).length := by rw [List.length_map]
      have ht3 := row_keep (w' := (((w2.setCell ⟨w.heap.size, 0, none⟩ (.int .i64 lg)).setCell ⟨w.heap.size, 1, none⟩ (.slice At s.2.length ct)).setCell ⟨w.heap.size, 2, none⟩ (.slice Aw s.2.length cw))) HT.out (fun k hk => other3z (by have := (HT.out.lt k hk).1; have := HLO.out; omega) _ _ _)
      have hw3 := row_keep (w' := (((w2.setCell ⟨w.heap.size, 0, none⟩ (.int .i64 lg)).setCell ⟨w.heap.size, 1, none⟩ (.slice At s.2.length ct)).setCell ⟨w.heap.size, 2, none⟩ (.slice Aw s.2.length cw))) HWR.out (fun k hk => other3z (by have := (HWR.out.lt k hk).1; have := HLO.out; omega) _ _ _)
      refine bodyPost_ret (results_ct Tryz.results11 _ _ rfl (range_of (set3z HB2.out _ _ _)) Tryz.underlying30 rfl (by kernel_rfl)) rfl ?_
      refine ⟨hx3, _, by rw [HR0.out] <;> rfl, fun h => absurd HR0.out h, fun _ => ⟨_, _, rfl, ?_, ?_⟩⟩
      · rw [← HS.out]
        exact u64s_of_row (by rw [← h1]; exact ht3)
      · rw [← HS.out]
        exact ints_of_vrow (by rw [← h2]; exact hw3)
    · have HR0 := Lib.hid (show refErr lg f = 15 by rw [HRE.out, hl]; rfl)
      clear hl
      go_wp2_with fail
      (try simp only [Exit.inBlock, Exit.then])
      refine bodyPost_ret (results_ct Tryz.results11 _ _ rfl (range_of (set3z HB2.out _ _ _)) Tryz.underlying30 rfl (by kernel_rfl)) rfl ?_
      exact ⟨ext3z HX2.out (Nat.le_refl _) _ _ _, _, by rw [HR0.out] <;> rfl, fun _ => elm_nil _, fun h => by rw [HR0.out] at h; cases h⟩
  · have HZ := Lib.hid hz
    have HRE := Lib.hid (show refErr lg f = er by rw [refErr_bad (by rw [← her]; exact hz), her])
    clear her
    go_enter Tryz.func11, Tryz.ntmps11
    go_wp2_with fail
    refine (newEngine_any lg _ f _ (H.out.ext HX0.out)).mono ?_
    rintro e w1 ⟨hx1, hr⟩
    obtain ⟨_, rfl⟩ := hr.resolve_right (fun h => HZ.out (HER.out.trans h.1))
    rw [← HER.out]
    have HX1 := Lib.hid hx1
    have HB1 := Lib.hid ((hx1.block (by simp)).trans HW0.out)
    obtain ⟨⟨q0, q1, q2⟩, ⟨f0, f1, f2⟩, ql⟩ := cells3z HB1.out
    clear hx1 hr
    go_wp2_with fail
    (try simp only [Exit.inBlock, Exit.then])
    refine bodyPost_ret (results_ct Tryz.results11 _ _ rfl (range_of (set3z HB1.out _ _ _)) Tryz.underlying30 rfl (by kernel_rfl)) rfl ?_
    exact ⟨ext3z (HX0.out.trans HX1.out) (Nat.le_refl _) _ _ _, _, by rw [HRE.out] <;> rfl, fun _ => elm_nil _, fun h => absurd (HRE.out.symm.trans h) HZ.out⟩
end Go.Proofs.YtbfeodammikajaaGreat

/- types' Satisfiable: the walk. -/

namespace Go.Proofs.YtbfeodammikajaaGreat
open Go.RowKit

theorem nodeErr_range (n : Nd) (a : Int) : 0 ≤ nodeErr n a ∧ nodeErr n a ≤ 10 := by
  unfold nodeErr
  cases !isOp n.op <;> cases !operandOk (hasX n.op) n.x a || !operandOk (hasY n.op) n.y a <;> cases formBad n <;> cases rangeBad n <;> simp
theorem checkNodes_range : ∀ (l : List Nd) (a : Int), 0 ≤ checkNodes l a ∧ checkNodes l a ≤ 10
  | [], _ => ⟨Int.le_refl 0, show (0 : Int) ≤ 10 by decide⟩
  | n :: r, a => by
    unfold checkNodes
    cases nodeErr n a != 0
    · exact checkNodes_range r _
    · exact nodeErr_range n a
theorem check_range (l : List Nd) : 0 ≤ check l ∧ check l ≤ 10 := by
  unfold check
  cases decide (l.length = 0)
  · cases decide (200 < l.length)
    · exact checkNodes_range l 0
    · simp
  · simp
theorem engErr_range (lg : Int) (f : List Nd) : 0 ≤ engErr lg f ∧ engErr lg f ≤ 10 := by
  unfold engErr
  cases decide (lg < 0) || decide (6 < lg)
  · unfold baseN
    cases check f != 0
    · cases langBad f
      · cases decide ((expandN f).length = 0)
        · simp only [cond_false]
          rcases baseOf_err (expandN f) with h | h <;> rw [h] <;> simp
        · simp
      · simp
    · exact check_range f
  · simp
set_option maxRecDepth 100000 in
set_option maxHeartbeats 4000000 in
theorem sat_any (lg : Int) (v : Value) (f : List Nd) (w : World) (h : Fml w v f) :
    Calls Tryz.prog 9 #[.int .i64 lg, v] w fun e w' => e = .returned (.tuple #[.bool (satN lg f).1, .int .i64 (satN lg f).2]) ∧ Ext w w' := by
  have H := Lib.hid h
  obtain ⟨Af, cf, rfl, _⟩ := fml_slice h
  clear h
  have hrg := engErr_range lg f
  obtain ⟨er, her⟩ : ∃ er, er = engErr lg f := ⟨_, rfl⟩
  rw [← her] at hrg
  have HER := Lib.hid her
  by_cases hz : er = 0
  · subst hz
    have HSO := Lib.hid (sat_ok (lg := lg) her.symm)
    have HRO := Lib.hid (refErr_ok (lg := lg) her.symm)
    clear her hrg
    cases hl : leftN lg f
    · rw [hl] at HSO HRO
      clear hl
      go_enter Tryz.func9, Tryz.ntmps9
      go_wp2_with fail
      refine (refute_any lg _ f _ H.out).mono ?_
      rintro e w1 ⟨hx1, u, rfl, hn, hy⟩
      obtain ⟨vt, vw, rfl, ⟨At, ct, rfl, _⟩, ⟨Aw, cw, rfl, _⟩⟩ := hy HRO.out
      rw [HRO.out]
      have HX1 := Lib.hid hx1
      clear hx1 hn hy
      go_wp2_with fail
      go_ret2
      exact ⟨by rw [HSO.out] <;> rfl, HX1.out.alloc _⟩
    · rw [hl] at HSO HRO
      clear hl
      go_enter Tryz.func9, Tryz.ntmps9
      go_wp2_with fail
      refine (refute_any lg _ f _ H.out).mono ?_
      rintro e w1 ⟨hx1, u, rfl, hn, hy⟩
      obtain ⟨vt, vw, rfl, ⟨At, ct, rfl, _⟩, ⟨Aw, cw, rfl, _⟩⟩ := hn (by rw [HRO.out]; decide)
      rw [HRO.out]
      have HX1 := Lib.hid hx1
      clear hx1 hn hy
      go_wp2_with fail
      go_ret2
      exact ⟨by rw [HSO.out] <;> rfl, HX1.out.alloc _⟩
  · have HZ := Lib.hid hz
    have HSO := Lib.hid (sat_err (lg := lg) (f := f) (by rw [← her]; exact hz))
    have HRO := Lib.hid (show refErr lg f = er by rw [refErr_bad (by rw [← her]; exact hz), her])
    rw [← her] at HSO
    have hz0 : (er == 0) = false := by rw [beq_eq_false_iff_ne]; exact hz
    have hz15 : (er == 15) = false := by rw [beq_eq_false_iff_ne]; omega
    clear her hrg hz
    go_enter Tryz.func9, Tryz.ntmps9
    go_wp2_with fail
    refine (refute_any lg _ f _ H.out).mono ?_
    rintro e w1 ⟨hx1, u, rfl, hn, hy⟩
    obtain ⟨vt, vw, rfl, ⟨At, ct, rfl, _⟩, ⟨Aw, cw, rfl, _⟩⟩ := hn (by rw [HRO.out]; exact HZ.out)
    rw [HRO.out]
    have HX1 := Lib.hid hx1
    clear hx1 hn hy
    go_wp2_with fail
    go_ret2
    exact ⟨by rw [HSO.out] <;> rfl, HX1.out.alloc _⟩
end Go.Proofs.YtbfeodammikajaaGreat

/- types' Check: the walk. -/

namespace Go.Proofs.YtbfeodammikajaaGreat
open Go.RowKit

theorem checkT_bad {lg : Int} {f : List Nd} {ts : List Nat} {ws : List Int} (h : engErr lg f ≠ 0) : checkT lg f ts ws = engErr lg f := by
  unfold checkT
  rw [show (engErr lg f != 0) = true by simpa using h]
  rfl
theorem checkT_len {lg : Int} {f : List Nd} {ts : List Nat} {ws : List Int} (h : engErr lg f = 0) (hl : ts.length ≠ ws.length) : checkT lg f ts ws = 3 := by
  unfold checkT
  rw [show (engErr lg f != 0) = false by simpa using h, show (ts.length != ws.length) = true by simpa using hl]
  rfl
/-- The lacks of a formula's engine. -/
noncomputable def lkN (lg : Int) (f : List Nd) : List Bool → Nat → Int → Bool := lacksN lg (knowsN (baseN f).1) (commsN (baseN f).1)
theorem checkT_none {lg : Int} {f : List Nd} {ts : List Nat} {ws : List Int} (h : engErr lg f = 0) (hl : ts.length = ws.length) (hc : checkG (lkN lg f) ts ws (aliveN lg (baseN f).1) = none) : checkT lg f ts ws = 13 := by
  unfold checkT
  unfold lkN at hc
  rw [show (engErr lg f != 0) = false by simpa using h, show (ts.length != ws.length) = false by simpa using hl, hc]
  rfl
theorem checkT_some {lg : Int} {f : List Nd} {ts : List Nat} {ws : List Int} {al : List Bool} (h : engErr lg f = 0) (hl : ts.length = ws.length) (hc : checkG (lkN lg f) ts ws (aliveN lg (baseN f).1) = some al) : checkT lg f ts ws = bif satisfiedN al (rootN f) then 13 else 0 := by
  unfold checkT
  unfold lkN at hc
  rw [show (engErr lg f != 0) = false by simpa using h, show (ts.length != ws.length) = false by simpa using hl, hc]
  rfl
theorem checkG_step {lk : List Bool → Nat → Int → Bool} {ts : List Nat} {ws : List Int} {al : List Bool} {k t : Nat} {i : Int} (ht : ts[k]? = some t) (hi : ws[k]? = some i) :
    checkG lk (ts.drop k) (ws.drop k) al = bif decide (t < al.length) && (al.getD t false && lk al t i) then checkG lk (ts.drop (k + 1)) (ws.drop (k + 1)) (al.set t false) else none := by
  obtain ⟨h1, e1⟩ := List.getElem?_eq_some_iff.1 ht
  obtain ⟨h2, e2⟩ := List.getElem?_eq_some_iff.1 hi
  rw [List.drop_eq_getElem_cons h1, List.drop_eq_getElem_cons h2, e1, e2]
  rfl
theorem checkG_end {lk : List Bool → Nat → Int → Bool} {ts : List Nat} {ws : List Int} {al : List Bool} : checkG lk (ts.drop ts.length) (ws.drop ts.length) al = some al := by
  rw [List.drop_length]
  cases ws.drop ts.length <;> rfl
set_option maxRecDepth 100000 in
set_option maxHeartbeats 16000000 in
theorem checkT_any (lg : Int) (ve : Value) (ts : List Nat) (ws : List Int) (v : Value) (f : List Nd) (w : World) (h : Fml w v f) (he : Elm w ve lg ts ws) (hws : ∀ i ∈ ws, i64ok i) :
    Calls Tryz.prog 13 #[v, ve] w fun e w' => e = .returned (.int .i64 (checkT lg f ts ws)) ∧ Ext w w' := by
  have H := Lib.hid h
  obtain ⟨Af, cf, rfl, _⟩ := fml_slice h
  obtain ⟨vt, vw, rfl, ⟨At, ct, rfl, ht1, ht2, ht3⟩, ⟨Aw, cw, rfl, hw1, hw2, hw3⟩⟩ := he
  unfold maxLen at ht2 hw2
  have HT := Lib.hid ht3
  have HW := Lib.hid hw3
  have HWS := Lib.hid hws
  have HX0 := Lib.hid (show Ext w (w.alloc (.cells #[.int .i64 lg, .slice At ts.length ct, .slice Aw ws.length cw] 30)) from (Ext.refl _).alloc _)
  have HW0 := Lib.hid (show (w.alloc (.cells #[.int .i64 lg, .slice At ts.length ct, .slice Aw ws.length cw] 30)).heap[w.heap.size]? = some (.cells #[.int .i64 lg, .slice At ts.length ct, .slice Aw ws.length cw] 30 (0, 0)) from heap_alloc_new _ _)
  clear h ht3 hw3 hws
  obtain ⟨er, her⟩ : ∃ er, er = engErr lg f := ⟨_, rfl⟩
  have HER := Lib.hid her
  by_cases hz : er = 0
  · subst hz
    have HA := Lib.hid (eng_all (eng_ok her.symm))
    clear her
    by_cases hll : ts.length = ws.length
    · have HLL := Lib.hid hll
      have hlb : ((ts.length : Int) != (ws.length : Int)) = false := by rw [hll]; simp
      clear hll
      go_enter Tryz.func13, Tryz.ntmps13
      go_wp2_with fail
      refine (newEngine_any lg _ f _ (H.out.ext HX0.out)).mono ?_
      rintro e w1 ⟨hx1, hr⟩
      obtain ⟨b, g, rfl, hb, hg, hE⟩ := (hr.resolve_left (fun h => h.1 HER.out.symm)).2
      have HE := Lib.hid hE
      have HX1 := Lib.hid hx1
      have HGB := Lib.hid (show w.heap.size < g by simp at hg; omega)
      have HB1 := Lib.hid ((hx1.block (by simp)).trans HW0.out)
      obtain ⟨⟨q0, q1, q2⟩, _, ql⟩ := cells3z HB1.out
      obtain ⟨m, hm⟩ : ∃ m, m = 2 ^ (baseN f).1.length := ⟨_, rfl⟩
      have HM := Lib.hid hm
      have hm12 : m ≤ 4096 := by rw [hm, ← HA.out.al]; exact HA.out.le
      obtain ⟨base, hbase⟩ : ∃ b, b = (baseN f).1 := ⟨_, rfl⟩
      have HBASE := Lib.hid hbase
      rw [← hbase] at HE
      clear hr hb hg hE hx1 hm hbase
      go_wp2_with fail
      go_loopw [29] (fun v wr => ∃ k : Nat, v = .int .i64 (k : Int) ∧ k ≤ ts.length ∧ Hid (∃ al, EngX wr b g lg base (rootN f) (knowsN base) (commsN base) al ∧ Ext w wr ∧ wr.heap[w.heap.size]? = some (.cells #[.int .i64 lg, .slice At ts.length ct, .slice Aw ws.length cw] 30 (0, 0)) ∧ al.length = m ∧ checkG (lkN lg f) (ts.drop k) (ws.drop k) al = checkG (lkN lg f) ts ws (aliveN lg (baseN f).1))) (fun v _ => ts.length - (intOf v).toNat)
      case atStart => exact ⟨0, rfl, Nat.zero_le _, Lib.hid ⟨aliveN lg base, HE.out, HX0.out.trans HX1.out, HB1.out, by rw [alive_len, HM.out, HBASE.out], by rw [HBASE.out, List.drop_zero, List.drop_zero]⟩⟩
      case round =>
        clear q0 q1 q2 ql
        obtain ⟨k, rfl, hk, HREL⟩ := hrel
        obtain ⟨al, hE, hx, hbx, hal, hck⟩ := HREL.out
        have HE2 := Lib.hid hE
        have HX := Lib.hid hx
        have HBX := Lib.hid hbx
        have HAL := Lib.hid hal
        have HCK := Lib.hid hck
        obtain ⟨_, _, _, _, x0, x1, x2, x5, xl⟩ := hE.cells
        rw [hal] at x5
        obtain ⟨⟨q0, q1, q2⟩, _, ql⟩ := cells3z hbx
        clear HREL hE hx hbx hal hck
        by_cases hlt2 : k < ts.length
        · have hk1 : (k : Int) < (ts.length : Int) := by omega
          have hlt3 : k < ws.length := by have := HLL.out; omega
          have hk2 : (k : Int) < (ws.length : Int) := by omega
          obtain ⟨t, ht⟩ : ∃ t, ts[k]? = some t := ⟨_, List.getElem?_eq_getElem hlt2⟩
          obtain ⟨i, hi⟩ : ∃ i, ws[k]? = some i := ⟨_, List.getElem?_eq_getElem hlt3⟩
          obtain ⟨ad, rfl, hb1, hc1⟩ := HT.out (by intro e; rw [e] at hlt2; simp at hlt2)
          obtain ⟨aw, rfl, hb2, hc2⟩ := HW.out (by intro e; rw [e] at hlt3; simp at hlt3)
          have a0 := (HX.out.cell (p := ad.add k) (by rw [block_of_add]; exact hb1)).trans (hc1 k t ht)
          have a1 := (HX.out.cell (p := aw.add k) (by rw [block_of_add]; exact hb2)).trans (hc2 k i hi)
          have HSTEP := Lib.hid (checkG_step (lk := lkN lg f) (al := al) ht hi)
          rw [HCK.out] at HSTEP
          have HI := Lib.hid (HWS.out i (List.mem_of_getElem? hi))
          have hwm : IntKind.u64.wrap (m : Int) = (m : Int) := by rw [IntKind.wrap_u64]; omega
          clear ht hi hc1 hc2
          by_cases htm : t < m
          · have htm1 : (t : Int) < (m : Int) := by omega
            obtain ⟨av, hav⟩ : ∃ x, x = al.getD t false := ⟨_, rfl⟩
            have HAV := Lib.hid hav
            have gc : wr.cell? ⟨g, t, none⟩ = some (.bool av) := HE2.out.row.cell (by rw [hav, List.getD_eq_getElem?_getD, List.getElem?_eq_getElem (by rw [HAL.out]; exact htm)]; rfl)
            have gl : g < wr.heap.size := HE2.out.row.lt.2
            clear hav
            cases av
            · have HR := Lib.hid (checkT_none (lg := lg) (f := f) (ts := ts) (ws := ws) HER.out.symm HLL.out (by rw [HSTEP.out, ← HAV.out, Bool.false_and, Bool.and_false]; rfl))
              go_wp2_with fail
              go_ret
              exact ⟨by rw [HR.out] <;> rfl, HX.out⟩
            · obtain ⟨lk, hlk⟩ : ∃ x, x = lkN lg f al t i := ⟨_, rfl⟩
              have HLK := Lib.hid (show lacksN lg (knowsN base) (commsN base) al t i = lk by rw [hlk, HBASE.out]; rfl)
              have HLK2 := Lib.hid hlk
              clear hlk
              have HKS := Lib.hid (show ∀ k ∈ knowsN base, k.place < 64 ∧ al.length ≤ k.holds.length from fun k hk => by have h := HA.out.ks k (by rw [← HBASE.out]; exact hk); exact ⟨h.1, by rw [HAL.out, HM.out, h.2]; exact Nat.le_refl _⟩)
              have HCS := Lib.hid (show ∀ c ∈ commsN base, c.place < 64 ∧ c.x.length = al.length ∧ c.y.length = al.length ∧ 0 ≤ c.group ∧ c.group < 16 from fun c hc => by have := HA.out.cs c (by rw [← HBASE.out]; exact hc); rw [HAL.out, HM.out]; exact this)
              go_wp2_with fail
              refine (lacks_any b lg base (rootN f) (knowsN base) (commsN base) al t i _ HE2.out.eng HA.out.lgr (by rw [HAL.out]; exact htm) (by rw [HAL.out]; exact hm12) HI.out HKS.out HCS.out).mono ?_
              rintro e w3 ⟨rfl, hx3⟩
              rw [HLK.out]
              have HX3 := Lib.hid hx3
              clear x0 x1 x2 x5 xl gc gl q0 q1 q2 ql
              cases lk
              · have HR := Lib.hid (checkT_none (lg := lg) (f := f) (ts := ts) (ws := ws) HER.out.symm HLL.out (by rw [HSTEP.out, ← HLK2.out, Bool.and_false, Bool.and_false]; rfl))
                go_wp2_with fail
                go_ret
                exact ⟨by rw [HR.out] <;> rfl, HX.out.trans HX3.out⟩
              · have HE3 := Lib.hid (HE2.out.ext hx3)
                obtain ⟨_, _, _, _, _, _, _, y5, yl⟩ := HE3.out.cells
                rw [HAL.out] at y5
                have gfr := HE3.out.row.frozen t
                have gc : w3.cell? ⟨g, t, none⟩ = some (.bool true) := HE3.out.row.cell (by rw [HAV.out, List.getD_eq_getElem?_getD, List.getElem?_eq_getElem (by rw [HAL.out]; exact htm)]; rfl)
                have gl : g < w3.heap.size := HE3.out.row.lt.2
                clear hx3
                go_wp2_with fail
                go_roundw
                case rel => exact ⟨k + 1, by go_num, by omega, Lib.hid ⟨al.set t false, HE3.out.set t false, (HX.out.trans HX3.out).setCell (p := ⟨g, t, none⟩) (Nat.le_of_lt HGB.out) _, (Below.heap_setCell _ _ _ _ (Nat.ne_of_lt HGB.out)).trans ((HX3.out.block (lt_heap HBX.out)).trans HBX.out), by rw [List.length_set]; exact HAL.out, by
                  rw [HSTEP.out, ← HAV.out, ← HLK2.out, decide_eq_true (by rw [HAL.out]; exact htm)]; rfl⟩⟩
                case measure => simp [intOf]; omega
          · have htm1 : (m : Int) ≤ (t : Int) := by omega
            have HR := Lib.hid (checkT_none (lg := lg) (f := f) (ts := ts) (ws := ws) HER.out.symm HLL.out (by rw [HSTEP.out, decide_eq_false (by rw [HAL.out]; exact htm)]; rfl))
            go_wp2_with fail
            go_ret
            exact ⟨by rw [HR.out] <;> rfl, HX.out⟩
        · obtain rfl : ts.length = k := by omega
          have HR := Lib.hid (checkT_some (lg := lg) (f := f) (ts := ts) (ws := ws) (al := al) HER.out.symm HLL.out (by rw [← HCK.out, checkG_end]))
          go_wp2_with fail
          refine (satisfied_any b lg base (rootN f) (knowsN base) (commsN base) al _ HE2.out.eng (by rw [HAL.out, HM.out]; exact HA.out.root)).mono ?_
          rintro e w3 ⟨rfl, rfl⟩
          clear x0 x1 x2 x5 xl q0 q1 q2 ql
          cases hs : satisfiedN al (rootN f)
          · rw [hs] at HR
            clear hs
            go_wp2_with fail
            go_ret
            exact ⟨by rw [HR.out] <;> rfl, HX.out⟩
          · rw [hs] at HR
            clear hs
            go_wp2_with fail
            go_ret
            exact ⟨by rw [HR.out] <;> rfl, HX.out⟩
    · have HLL := Lib.hid hll
      have hlb : ((ts.length : Int) != (ws.length : Int)) = true := by simp; omega
      have HRE := Lib.hid (checkT_len (lg := lg) (f := f) HER.out.symm hll)
      clear hll
      go_enter Tryz.func13, Tryz.ntmps13
      go_wp2_with fail
      refine (newEngine_any lg _ f _ (H.out.ext HX0.out)).mono ?_
      rintro e w1 ⟨hx1, hr⟩
      obtain ⟨b, g, rfl, hb, hg, hE⟩ := (hr.resolve_left (fun h => h.1 HER.out.symm)).2
      have HX1 := Lib.hid hx1
      have HB1 := Lib.hid ((hx1.block (by simp)).trans HW0.out)
      obtain ⟨⟨q0, q1, q2⟩, _, ql⟩ := cells3z HB1.out
      clear hr hb hg hE hx1
      go_wp2_with fail
      go_ret
      exact ⟨by rw [HRE.out] <;> rfl, HX0.out.trans HX1.out⟩
  · have HZ := Lib.hid hz
    have HRE := Lib.hid (show checkT lg f ts ws = er by rw [checkT_bad (by rw [← her]; exact hz), her])
    clear her
    go_enter Tryz.func13, Tryz.ntmps13
    go_wp2_with fail
    refine (newEngine_any lg _ f _ (H.out.ext HX0.out)).mono ?_
    rintro e w1 ⟨hx1, hr⟩
    obtain ⟨_, rfl⟩ := hr.resolve_right (fun h => HZ.out (HER.out.trans h.1))
    rw [← HER.out]
    have HX1 := Lib.hid hx1
    clear hx1 hr
    go_wp2_with fail
    go_ret
    exact ⟨by rw [HRE.out] <;> rfl, HX0.out.trans HX1.out⟩
end Go.Proofs.YtbfeodammikajaaGreat

/- The examples of the chapter: what the engine of types says of them. -/

namespace Go.Proofs.YtbfeodammikajaaGreat

def exB : List Nd := knowN 0 (factN 0)
def exF : List Nd := andN (knowN 0 (factN 0)) (notN (factN 0))
def exZ : List Nd := andN (commonN 1 trueN (factN 0)) (notN (knowN 0 (factN 0)))
def exW : List Nd := andN (factN 0) (notN (commonN 1 (factN 0) (factN 1)))
def fT (i : Int) : Tr := .leaf ⟨3, i, 0, 0, 0, 0⟩
theorem ex_base : (baseN exB).2 = 0 ∧ (baseN exB).1.length = 2 := by constructor <;> kernel_rfl
theorem ex_err0 : engErr 0 exF = 0 := by kernel_rfl
theorem ex_err2 : engErr 2 exF = 0 := by kernel_rfl
theorem ex_errZ : engErr 0 exZ = 0 := by kernel_rfl
theorem ex_errW : engErr 6 exW = 0 := by kernel_rfl
theorem ex_treeF : treeOf exF = .two ⟨5, 0, 0, 0, 0, 0⟩ (.one ⟨9, 0, 0, 0, 0, 0⟩ (fT 0)) (.one ⟨4, 0, 0, 0, 0, 0⟩ (fT 0)) := by kernel_rfl
theorem ex_treeZ : treeOf exZ = .two ⟨5, 0, 0, 0, 0, 0⟩ (.two ⟨13, 0, 0, 1, 0, 0⟩ (.leaf ⟨1, 0, 0, 0, 0, 0⟩) (fT 0)) (.one ⟨4, 0, 0, 0, 0, 0⟩ (.one ⟨9, 0, 0, 0, 0, 0⟩ (fT 0))) := by kernel_rfl
theorem ex_treeW : treeOf exW = .two ⟨5, 0, 0, 0, 0, 0⟩ (fT 0) (.one ⟨4, 0, 0, 0, 0, 0⟩ (.two ⟨13, 0, 0, 1, 0, 0⟩ (fT 0) (fT 1))) := by kernel_rfl
theorem ex_chk2 : checkT 2 exF [] [] = 0 := by kernel_rfl
theorem ex_chk0 : checkT 0 exF [] [] = 13 := by kernel_rfl
theorem sat_fact {M : KM} {i : Int} {w : M.W} : M.sat (fT i) w ↔ M.V i w := by simp [fT, KM.sat]
theorem ex_x : satN 0 exF = (true, 0) := by
  have h : leftN 0 exF = true := (sat_truth (eng_ok ex_err0)).2 ⟨⟨Unit, fun _ _ _ => False, fun _ _ => False⟩, fun _ => ⟨fun h => by omega, fun h => by omega, fun h => by omega, fun h => by omega⟩, (), by
    rw [ex_treeF, sat_and, sat_know rfl, sat_not, sat_fact]
    exact ⟨fun v h => h.elim, fun h => h⟩⟩
  rw [sat_ok ex_err0, h]
theorem ex_y : satN 2 exF = (false, 0) := by
  have h : leftN 2 exF = false := by
    cases hl : leftN 2 exF
    · rfl
    · obtain ⟨M, hM, w, hw⟩ := (sat_truth (eng_ok ex_err2)).1 hl
      rw [ex_treeF, sat_and, sat_know rfl, sat_not] at hw
      exact absurd (hw.1 w ((hM 0).refl (.inl rfl) w)) hw.2
  rw [sat_ok ex_err2, h]
theorem ex_z : satN 0 exZ = (false, 0) := by
  have h : leftN 0 exZ = false := by
    cases hl : leftN 0 exZ
    · rfl
    · obtain ⟨M, hM, w, hw⟩ := (sat_truth (eng_ok ex_errZ)).1 hl
      rw [ex_treeZ, sat_and, sat_not, sat_know rfl, com_unf rfl] at hw
      refine absurd (fun v hv => ?_) hw.2
      have h1 := hw.1 0 (by decide) (by decide)
      rw [sat_unf] at h1
      exact (h1 v hv (by simp [KM.sat])).1
  rw [sat_ok ex_errZ, h]
theorem ex_w : satN 6 exW = (true, 0) := by
  have h : leftN 6 exW = true := (sat_truth (eng_ok ex_errW)).2 ⟨⟨Unit, fun _ _ _ => True, fun i _ => i = 0⟩, fun _ => ⟨fun _ _ => ⟨(), trivial⟩, fun _ _ => trivial, fun _ _ _ _ _ _ => trivial, fun _ _ _ _ _ _ => trivial⟩, (), by
    rw [ex_treeW, sat_and, sat_not, sat_fact, com_unf rfl]
    refine ⟨rfl, fun h => ?_⟩
    have h1 := h 0 (by decide) (by decide)
    rw [sat_unf] at h1
    have h2 := (h1 () trivial (by rw [sat_fact])).1
    rw [sat_fact] at h2
    exact absurd h2 (by decide)⟩
  rw [sat_ok ex_errW, h]
end Go.Proofs.YtbfeodammikajaaGreat

/- The engine's tests on types, place by place of the base: as the reference makes them. -/

namespace Go.Proofs.YtbfeodammikajaaGreat

section
variable {base : List (List Nd)}
def topN (base : List (List Nd)) (i : Nat) : Nd := lastN (base.getD i [])
def bodyN (base : List (List Nd)) (i : Nat) : List Bool := bif (topN base i).op == 9 then tabN base (subN (base.getD i []) (topN base i).x) else []
def condN (base : List (List Nd)) (i : Nat) : List Bool := bif (topN base i).op == 13 then tabN base (subN (base.getD i []) (topN base i).x) else []
def lastT (base : List (List Nd)) (i : Nat) : List Bool := bif (topN base i).op == 13 then tabN base (subN (base.getD i []) (topN base i).y) else []
def knAt (base : List (List Nd)) (i : Nat) : Kn := ⟨(topN base i).i, i, bodyN base i⟩
def cmAt (base : List (List Nd)) (i : Nat) : Cm := ⟨i, (topN base i).g, condN base i, lastT base i, partsN base (base.getD i [])⟩
theorem knOf_at (i : Nat) : knOf base (base.getD i []) i = bif (topN base i).op == 9 then [knAt base i] else [] := by
  unfold knOf knAt bodyN topN
  cases h : (lastN (base.getD i [])).op == 9
  · rfl
  · rfl
theorem cmOf_at (i : Nat) : cmOf base (base.getD i []) i = bif (topN base i).op == 13 then [cmAt base i] else [] := by
  unfold cmOf cmAt condN lastT topN
  cases h : (lastN (base.getD i [])).op == 13
  · rfl
  · rfl
theorem kn_mem {k : Kn} : k ∈ knowsN base ↔ ∃ i, i < base.length ∧ (topN base i).op = 9 ∧ k = knAt base i := by
  unfold knowsN
  rw [List.mem_flatMap]
  constructor
  · rintro ⟨i, hi, hk⟩
    rw [knOf_at] at hk
    cases h : (topN base i).op == 9
    · rw [h] at hk; cases hk
    · rw [h] at hk
      exact ⟨i, List.mem_range.1 hi, by simpa using h, List.mem_singleton.1 hk⟩
  · rintro ⟨i, hi, ho, rfl⟩
    refine ⟨i, List.mem_range.2 hi, ?_⟩
    rw [knOf_at, ho]
    exact List.mem_singleton.2 rfl
theorem cm_mem {k : Cm} : k ∈ commsN base ↔ ∃ i, i < base.length ∧ (topN base i).op = 13 ∧ k = cmAt base i := by
  unfold commsN
  rw [List.mem_flatMap]
  constructor
  · rintro ⟨i, hi, hk⟩
    rw [cmOf_at] at hk
    cases h : (topN base i).op == 13
    · rw [h] at hk; cases hk
    · rw [h] at hk
      exact ⟨i, List.mem_range.1 hi, by simpa using h, List.mem_singleton.1 hk⟩
  · rintro ⟨i, hi, ho, rfl⟩
    refine ⟨i, List.mem_range.2 hi, ?_⟩
    rw [cmOf_at, ho]
    exact List.mem_singleton.2 rfl
/-- A place of knowledge lets a type be possible. -/
def posAt (lg : Int) (base : List (List Nd)) (a : Int) (t u i : Nat) : Bool :=
  bif (topN base i).op == 9 && (topN base i).i == a then condL lg (t.testBit i) ((bodyN base i).getD u false) (u.testBit i) else true
theorem pos_places {lg a : Int} {t u : Nat} : possibleN lg (knowsN base) a t u = true ↔ ∀ i, i < base.length → posAt lg base a t u i = true := by
  unfold possibleN
  rw [List.all_eq_true]
  constructor
  · intro h i hi
    unfold posAt
    cases ho : (topN base i).op == 9
    · rfl
    · cases ha : (topN base i).i == a
      · rfl
      · have h1 := h _ (kn_mem.2 ⟨i, hi, by simpa using ho, rfl⟩)
        have h2 : ((knAt base i).agent != a) = false := by rw [bne, show ((knAt base i).agent == a) = true from ha]; rfl
        rw [h2, Bool.false_or] at h1
        exact h1
  · intro h k hk
    obtain ⟨i, hi, ho, rfl⟩ := kn_mem.1 hk
    have h1 := h i hi
    unfold posAt at h1
    rw [ho] at h1
    cases ha : (topN base i).i == a
    · have h2 : ((knAt base i).agent != a) = true := by rw [bne, show ((knAt base i).agent == a) = false from ha]; rfl
      rw [h2]; rfl
    · rw [ha] at h1
      have h3 : condL lg (t.testBit i) ((bodyN base i).getD u false) (u.testBit i) = true := h1
      show ((knAt base i).agent != a || condL lg (t.testBit i) ((bodyN base i).getD u false) (u.testBit i)) = true
      rw [h3, Bool.or_true]
/-- What is unfolded at a place is in a type. -/
def unfIn (base : List (List Nd)) (t i : Nat) (a : Nat) : Bool := !gbit (topN base i).g a || t.testBit (placeN base (unfN a (base.getD i []))).toNat
def cohAt (lg : Int) (base : List (List Nd)) (t i : Nat) : Bool :=
  bif (topN base i).op == 13 then (List.range 4).all (unfIn base t i) == t.testBit i
  else bif (topN base i).op == 9 then !(reflN lg && (t.testBit i && !(bodyN base i).getD t false)) else true
theorem parts_all (t i : Nat) : ((t &&& partsN base (base.getD i [])) == partsN base (base.getD i [])) = (List.range 4).all (unfIn base t i) := by
  have hpe : partsN base (base.getD i []) = (((List.range 4).filter fun a => gbit (topN base i).g a).map fun a => (placeN base (unfN a (base.getD i []))).toNat).foldl (fun p x => p ||| 2 ^ x) 0 := by
    unfold partsN topN
    rw [List.foldl_map]
  rw [Bool.eq_iff_iff, and_sub, hpe, List.all_eq_true]
  constructor
  · intro h a ha
    unfold unfIn
    cases hg : gbit (topN base i).g a
    · rfl
    · rw [Bool.not_true, Bool.false_or]
      refine h _ ?_
      rw [fold_bits]
      simp only [Nat.zero_testBit, Bool.false_or, decide_eq_true_iff, List.mem_map]
      exact ⟨a, List.mem_filter.2 ⟨ha, hg⟩, rfl⟩
  · intro h j hj
    rw [fold_bits] at hj
    simp only [Nat.zero_testBit, Bool.false_or, decide_eq_true_iff, List.mem_map] at hj
    obtain ⟨a, ha, rfl⟩ := hj
    obtain ⟨h1, h2⟩ := List.mem_filter.1 ha
    have := h a h1
    unfold unfIn at this
    rw [h2] at this
    simpa using this
theorem coh_places {lg : Int} {t : Nat} : coherentN lg (knowsN base) (commsN base) t = true ↔ ∀ i, i < base.length → cohAt lg base t i = true := by
  unfold coherentN
  rw [Bool.and_eq_true, List.all_eq_true, List.all_eq_true]
  constructor
  · rintro ⟨h1, h2⟩ i hi
    unfold cohAt
    cases ho : (topN base i).op == 13
    · cases ho9 : (topN base i).op == 9
      · rfl
      · exact h2 _ (kn_mem.2 ⟨i, hi, by simpa using ho9, rfl⟩)
    · have h3 := h1 _ (cm_mem.2 ⟨i, hi, by simpa using ho, rfl⟩)
      have h4 : (t.testBit i == ((t &&& partsN base (base.getD i [])) == partsN base (base.getD i []))) = true := h3
      rw [parts_all] at h4
      rw [cond_true]
      rw [beq_iff_eq] at h4 ⊢
      exact h4.symm
  · intro h
    refine ⟨fun c hc => ?_, fun k hk => ?_⟩
    · obtain ⟨i, hi, ho, rfl⟩ := cm_mem.1 hc
      have h1 := h i hi
      unfold cohAt at h1
      rw [ho] at h1
      show (t.testBit i == ((t &&& partsN base (base.getD i [])) == partsN base (base.getD i []))) = true
      rw [parts_all]
      have h2 : ((List.range 4).all (unfIn base t i) == t.testBit i) = true := h1
      rw [beq_iff_eq] at h2 ⊢
      exact h2.symm
    · obtain ⟨i, hi, ho, rfl⟩ := kn_mem.1 hk
      have h1 := h i hi
      unfold cohAt at h1
      rw [ho] at h1
      exact h1
theorem kn_find_at {i : Nat} (hi : i < base.length) (ho : (topN base i).op = 9) : (knowsN base).find? (fun k => (k.place : Int) == (i : Int)) = some (knAt base i) := by
  cases h : (knowsN base).find? (fun k => (k.place : Int) == (i : Int)) with
  | none =>
    rw [List.find?_eq_none] at h
    have := h _ (kn_mem.2 ⟨i, hi, ho, rfl⟩)
    simp [knAt] at this
  | some k =>
    have h1 := List.find?_some h
    obtain ⟨j, _, _, rfl⟩ := kn_mem.1 (List.mem_of_find?_eq_some h)
    have h2 : ((j : Nat) : Int) = (i : Int) := by simpa [knAt] using h1
    have : j = i := by omega
    rw [this]
theorem kn_find_no {i : Nat} (ho : i < base.length → (topN base i).op ≠ 9) : (knowsN base).find? (fun k => (k.place : Int) == (i : Int)) = none := by
  rw [List.find?_eq_none]
  intro k hk
  obtain ⟨j, hj, hoj, rfl⟩ := kn_mem.1 hk
  intro e
  have h2 : ((j : Nat) : Int) = (i : Int) := by simpa [knAt] using e
  have : j = i := by omega
  subst this
  exact ho hj hoj
theorem cm_find_at {i : Nat} (hi : i < base.length) (ho : (topN base i).op = 13) : (commsN base).find? (fun k => (k.place : Int) == (i : Int)) = some (cmAt base i) := by
  cases h : (commsN base).find? (fun k => (k.place : Int) == (i : Int)) with
  | none =>
    rw [List.find?_eq_none] at h
    have := h _ (cm_mem.2 ⟨i, hi, ho, rfl⟩)
    simp [cmAt] at this
  | some k =>
    have h1 := List.find?_some h
    obtain ⟨j, _, _, rfl⟩ := cm_mem.1 (List.mem_of_find?_eq_some h)
    have h2 : ((j : Nat) : Int) = (i : Int) := by simpa [cmAt] using h1
    have : j = i := by omega
    rw [this]
theorem cm_find_no {i : Nat} (ho : i < base.length → (topN base i).op ≠ 13) : (commsN base).find? (fun k => (k.place : Int) == (i : Int)) = none := by
  rw [List.find?_eq_none]
  intro k hk
  obtain ⟨j, hj, hoj, rfl⟩ := cm_mem.1 hk
  intro e
  have h2 : ((j : Nat) : Int) = (i : Int) := by simpa [cmAt] using e
  have : j = i := by omega
  subst this
  exact ho hj hoj
variable {lg : Int} {al : List Bool} {t : Nat}
/-- What a type lacks, by the kind of the place. -/
theorem lacks_know {i : Nat} (hi : i < base.length) (ho : (topN base i).op = 9) : lacksN lg (knowsN base) (commsN base) al t (i : Int) = (!t.testBit i && decide (nextN lg (knowsN base) al (topN base i).i t (fun u => !(bodyN base i).getD u false) < 0)) := by
  unfold lacksN
  rw [decide_eq_false (by omega), cond_false, kn_find_at hi ho]
  rfl
theorem lacks_com {i : Nat} (hi : i < base.length) (ho : (topN base i).op = 13) : lacksN lg (knowsN base) (commsN base) al t (i : Int) = (!t.testBit i && !pathN lg (knowsN base) al (cmAt base i) t) := by
  unfold lacksN
  rw [decide_eq_false (by omega), cond_false, kn_find_no (fun _ e => by rw [ho] at e; cases e), cm_find_at hi ho]
  rfl
theorem lacks_other {i : Nat} (h : i < base.length → (topN base i).op ≠ 9 ∧ (topN base i).op ≠ 13) : lacksN lg (knowsN base) (commsN base) al t (i : Int) = false := by
  unfold lacksN
  rw [decide_eq_false (by omega), cond_false, kn_find_no (fun hi => (h hi).1), cm_find_no (fun hi => (h hi).2)]
theorem lacks_in {i : Nat} (h : t.testBit i = true) : lacksN lg (knowsN base) (commsN base) al t (i : Int) = false := by
  by_cases hi : i < base.length
  · by_cases h9 : (topN base i).op = 9
    · rw [lacks_know hi h9, h]; rfl
    · by_cases h13 : (topN base i).op = 13
      · rw [lacks_com hi h13, h]; rfl
      · exact lacks_other fun _ => ⟨h9, h13⟩
  · exact lacks_other fun e => absurd e hi
/-- Whether an agent occurs. -/
def occN (base : List (List Nd)) (a : Int) : Bool := (List.range base.length).any fun i => (topN base i).op == 9 && (topN base i).i == a
theorem occ_any {a : Int} : (knowsN base).any (fun k => k.agent == a) = occN base a := by
  unfold occN
  rw [Bool.eq_iff_iff, List.any_eq_true, List.any_eq_true]
  constructor
  · rintro ⟨k, hk, ha⟩
    obtain ⟨i, hi, ho, rfl⟩ := kn_mem.1 hk
    exact ⟨i, List.mem_range.2 hi, by rw [ho]; exact ha⟩
  · rintro ⟨i, hi, h⟩
    rw [Bool.and_eq_true] at h
    exact ⟨_, kn_mem.2 ⟨i, List.mem_range.1 hi, by simpa using h.1, rfl⟩, h.2⟩
theorem lacks_neg {num : Int} (h : num < 0) : lacksN lg (knowsN base) (commsN base) al t num = ((lg == 1 || lg == 5) && (occN base (-1 - num) && decide (nextN lg (knowsN base) al (-1 - num) t (fun _ => true) < 0))) := by
  unfold lacksN
  rw [decide_eq_true h, cond_true, occ_any]
end
end Go.Proofs.YtbfeodammikajaaGreat
