/- The reference of types: lacks. -/
import Derived.Test.YtbfeodammikajaaGreatG35
import Derived.Test.YtbfeodammikajaaGreatG25

namespace Go.Proofs.YtbfeodammikajaaGreat
open Go.RowKit

/-- Agents and groups of a base. -/
structure AgOk (base : List (List Nd)) : Prop where
  kn : ∀ i, i < base.length → (topN base i).op = 9 → 0 ≤ (topN base i).i ∧ (topN base i).i < 4
  cm : ∀ i, i < base.length → (topN base i).op = 13 → ∃ gn : Nat, (topN base i).g = (gn : Int) ∧ gn < 16
theorem occ_big {base : List (List Nd)} {a : Int} (h : AgOk base) (ha : 4 ≤ a) : occN base a = false :=
  occ_miss fun k hk => by
    cases h9 : (topN base k).op == 9
    · rfl
    · have h1 := h.kn k hk (by simpa using h9)
      rw [Bool.true_and, beq_eq_false_iff_ne]
      omega
theorem setg_get {w : World} {As : Option Addr} {cs : Nat} {set : List Bool} {m k : Nat} (h : BoolsAt w As cs set) (hl : set.length = m) (hk : k < m) : ∃ ad, As = some ad ∧ ad.block < w.heap.size ∧ w.cell? (ad.add k) = some (.bool (set.getD k false)) := bools_get h (by rw [hl]; exact hk)
set_option maxRecDepth 100000 in
set_option maxHeartbeats 64000000 in
theorem rlacks_any (s : Nat) (lg : Int) (base : List (List Nd)) (set : List Bool) (vs : Value) (t m : Nat) (num : Int) (w : World) (hS : SpcAt w s lg base) (hbl : base.length ≤ 12) (hlg : 0 ≤ lg ∧ lg ≤ 6) (hm : m = 2 ^ base.length) (hsl : set.length = m) (hb : Bools w vs set)
    (hag : AgOk base) (hnum : i64ok num) :
    Calls Tryz.prog 36 #[.pointer (some ⟨s, 0, none⟩), vs, .int .i64 (t : Int), .int .i64 num] w fun e w' => e = .returned (.bool (lacksN lg (knowsN base) (commsN base) set t num)) ∧ Ext w w' := by
  obtain ⟨vb, Ao, co, A1, c1, A2, c2, A3, c3, hs, d0, d1, d2, d3, d4, d5, HFM, HNO, HKN, HCO, HLA⟩ := hS.reads
  obtain ⟨Ab, cb, rfl, _, _, _⟩ := HFM.out
  have HS := Lib.hid hS
  have HM := Lib.hid hm
  have HSL := Lib.hid hsl
  have HB := Lib.hid hb
  have HAG := Lib.hid hag
  have hm2 : m ≤ 4096 := by rw [hm]; exact pow12 hbl
  obtain ⟨As, cs, rfl, hbs⟩ := hb
  rw [hsl] at HB ⊢
  have HBS := Lib.hid hbs
  obtain ⟨l0, l6⟩ := hlg
  have HL := Lib.hid (show 0 ≤ lg ∧ lg ≤ 6 from ⟨l0, l6⟩)
  unfold i64ok at hnum
  obtain ⟨n0, n1⟩ := hnum
  have D3 := Lib.hid d3
  clear hS hm hsl hbs l0 l6 d3 d4 d5 HFM hag
  by_cases hn0 : num < 0
  · have HLN := Lib.hid (lacks_neg (lg := lg) (base := base) (al := set) (t := t) hn0)
    have hage : 0 ≤ -1 - num := by omega
    by_cases ha4 : 4 ≤ -1 - num
    · have HE := Lib.hid (show lacksN lg (knowsN base) (commsN base) set t num = false by rw [HLN.out, occ_big HAG.out ha4, Bool.false_and, Bool.and_false])
      go_enter Tryz.func36, Tryz.ntmps36
      go_wp2_with fail
      go_ret
      exact ⟨by rw [HE.out] <;> rfl, Ext.refl _⟩
    · have ha3 : -1 - num < 4 := by omega
      by_cases h1 : lg = 1
      · subst h1
        have HSP := Lib.hid (show ((1 : Int) == 1 || (1 : Int) == 5) = true by rfl)
        go_enter Tryz.func36, Tryz.ntmps36
        go_wp2_with fail
        refine (occurs_any s 1 base (-1 - num) _ HS.out hbl).mono ?_
        rintro e w2 ⟨rfl, hx2⟩
        have HX2 := Lib.hid hx2
        clear hx2
        cases hoc : occN base (-1 - num)
        · have HE := Lib.hid (show lacksN 1 (knowsN base) (commsN base) set t num = false by rw [HLN.out, hoc, Bool.false_and, Bool.and_false])
          clear hoc
          go_wp2_with fail
          go_ret
          exact ⟨by rw [HE.out] <;> rfl, HX2.out⟩
        · have HLN2 := Lib.hid (show lacksN 1 (knowsN base) (commsN base) set t num = decide (nextN 1 (knowsN base) set (-1 - num) t (fun _ => true) < 0) by rw [HLN.out, hoc, HSP.out, Bool.true_and, Bool.true_and])
          clear hoc
          go_wp2_with fail
          go_loopw [41] (fun v wr => ∃ k : Nat, v = .int .i64 (k : Int) ∧ k ≤ m ∧ Hid (Ext w wr ∧ ∀ j, j < k → nextP 1 (knowsN base) set (-1 - num) t (fun _ => true) j = false)) (fun v _ => m - (intOf v).toNat)
          case atStart => exact ⟨0, rfl, Nat.zero_le _, Lib.hid ⟨HX2.out, fun j hj => absurd hj (by omega)⟩⟩
          case round =>
            obtain ⟨k, rfl, hk, HREL⟩ := hrel
            have HXB := Lib.hid HREL.out.1
            have HX := Lib.hid (HREL.out.1)
            have HJ := Lib.hid HREL.out.2
            clear HREL
            by_cases hlt2 : k < m
            · have hk1 : (k : Int) < (m : Int) := by omega
              obtain ⟨ad, rfl, hadl, s0⟩ := setg_get HBS.out HSL.out hlt2
              have s1 := (HX.out.cell (p := ad.add k) (by rw [block_of_add]; exact hadl)).trans s0
              have hadl2 : (ad.add k).block < wr.heap.size := by rw [block_of_add]; exact Nat.lt_of_lt_of_le hadl HX.out.size
              have HNX := Lib.hid (show nextP 1 (knowsN base) set (-1 - num) t (fun _ => true) k = false → ∀ j, j < k + 1 → nextP 1 (knowsN base) set (-1 - num) t (fun _ => true) j = false from fun h => upto HJ.out h)
              clear s0
              cases hsv : set.getD k false
              · rw [hsv] at s1
                have HF := Lib.hid (HNX.out (by unfold nextP; rw [hsv, Bool.false_and]))
                clear hsv
                go_wp2_with fail
                go_roundw
                case rel => exact ⟨k + 1, by go_num, by omega, Lib.hid ⟨HXB.out, HF.out⟩⟩
                case measure => simp [intOf]; omega
              · rw [hsv] at s1
                have HPP := Lib.hid (show nextP 1 (knowsN base) set (-1 - num) t (fun _ => true) k = possibleN 1 (knowsN base) (-1 - num) t k by unfold nextP; rw [hsv, Bool.true_and, Bool.true_and])
                clear hsv
                go_wp2_with fail
                refine (rpossible_any s 1 base (-1 - num) t k wr (HS.out.ext HX.out) hbl HL.out (by rw [← HM.out]; exact hlt2)).mono ?_
                rintro e w3 ⟨rfl, hx3⟩
                have HX5 := Lib.hid (HX.out.trans hx3)
                have HXB3 := Lib.hid (HXB.out.trans hx3)
                clear hx3
                cases hp : possibleN 1 (knowsN base) (-1 - num) t k
                · have HF := Lib.hid (HNX.out (by rw [HPP.out, hp]))
                  clear hp
                  go_wp2_with fail
                  go_roundw
                  case rel => exact ⟨k + 1, by go_num, by omega, Lib.hid ⟨HXB3.out, HF.out⟩⟩
                  case measure => simp [intOf]; omega
                · have HE := Lib.hid (show lacksN 1 (knowsN base) (commsN base) set t num = false by rw [HLN2.out, next_hit (by rw [HSL.out]; exact hlt2) (by rw [HPP.out, hp]) HJ.out]; exact decide_eq_false (by omega))
                  clear hp
                  go_wp2_with fail
                  go_ret
                  exact ⟨by rw [HE.out] <;> rfl, HX5.out⟩
            · obtain rfl : m = k := by omega
              have HE := Lib.hid (show lacksN 1 (knowsN base) (commsN base) set t num = true by rw [HLN2.out, next_miss (by rw [HSL.out]; exact HJ.out)]; rfl)
              go_wp2_with fail
              go_ret
              exact ⟨by rw [HE.out] <;> rfl, HX.out⟩
      · by_cases h5 : lg = 5
        · subst h5
          have HSP := Lib.hid (show ((5 : Int) == 1 || (5 : Int) == 5) = true by rfl)
          go_enter Tryz.func36, Tryz.ntmps36
          go_wp2_with fail
          refine (occurs_any s 5 base (-1 - num) _ HS.out hbl).mono ?_
          rintro e w2 ⟨rfl, hx2⟩
          have HX2 := Lib.hid hx2
          clear hx2
          cases hoc : occN base (-1 - num)
          · have HE := Lib.hid (show lacksN 5 (knowsN base) (commsN base) set t num = false by rw [HLN.out, hoc, Bool.false_and, Bool.and_false])
            clear hoc
            go_wp2_with fail
            go_ret
            exact ⟨by rw [HE.out] <;> rfl, HX2.out⟩
          · have HLN2 := Lib.hid (show lacksN 5 (knowsN base) (commsN base) set t num = decide (nextN 5 (knowsN base) set (-1 - num) t (fun _ => true) < 0) by rw [HLN.out, hoc, HSP.out, Bool.true_and, Bool.true_and])
            clear hoc
            go_wp2_with fail
            go_loopw [41] (fun v wr => ∃ k : Nat, v = .int .i64 (k : Int) ∧ k ≤ m ∧ Hid (Ext w wr ∧ ∀ j, j < k → nextP 5 (knowsN base) set (-1 - num) t (fun _ => true) j = false)) (fun v _ => m - (intOf v).toNat)
            case atStart => exact ⟨0, rfl, Nat.zero_le _, Lib.hid ⟨HX2.out, fun j hj => absurd hj (by omega)⟩⟩
            case round =>
              obtain ⟨k, rfl, hk, HREL⟩ := hrel
              have HXB := Lib.hid HREL.out.1
              have HX := Lib.hid (HREL.out.1)
              have HJ := Lib.hid HREL.out.2
              clear HREL
              by_cases hlt2 : k < m
              · have hk1 : (k : Int) < (m : Int) := by omega
                obtain ⟨ad, rfl, hadl, s0⟩ := setg_get HBS.out HSL.out hlt2
                have s1 := (HX.out.cell (p := ad.add k) (by rw [block_of_add]; exact hadl)).trans s0
                have hadl2 : (ad.add k).block < wr.heap.size := by rw [block_of_add]; exact Nat.lt_of_lt_of_le hadl HX.out.size
                have HNX := Lib.hid (show nextP 5 (knowsN base) set (-1 - num) t (fun _ => true) k = false → ∀ j, j < k + 1 → nextP 5 (knowsN base) set (-1 - num) t (fun _ => true) j = false from fun h => upto HJ.out h)
                clear s0
                cases hsv : set.getD k false
                · rw [hsv] at s1
                  have HF := Lib.hid (HNX.out (by unfold nextP; rw [hsv, Bool.false_and]))
                  clear hsv
                  go_wp2_with fail
                  go_roundw
                  case rel => exact ⟨k + 1, by go_num, by omega, Lib.hid ⟨HXB.out, HF.out⟩⟩
                  case measure => simp [intOf]; omega
                · rw [hsv] at s1
                  have HPP := Lib.hid (show nextP 5 (knowsN base) set (-1 - num) t (fun _ => true) k = possibleN 5 (knowsN base) (-1 - num) t k by unfold nextP; rw [hsv, Bool.true_and, Bool.true_and])
                  clear hsv
                  go_wp2_with fail
                  refine (rpossible_any s 5 base (-1 - num) t k wr (HS.out.ext HX.out) hbl HL.out (by rw [← HM.out]; exact hlt2)).mono ?_
                  rintro e w3 ⟨rfl, hx3⟩
                  have HX5 := Lib.hid (HX.out.trans hx3)
                  have HXB3 := Lib.hid (HXB.out.trans hx3)
                  clear hx3
                  cases hp : possibleN 5 (knowsN base) (-1 - num) t k
                  · have HF := Lib.hid (HNX.out (by rw [HPP.out, hp]))
                    clear hp
                    go_wp2_with fail
                    go_roundw
                    case rel => exact ⟨k + 1, by go_num, by omega, Lib.hid ⟨HXB3.out, HF.out⟩⟩
                    case measure => simp [intOf]; omega
                  · have HE := Lib.hid (show lacksN 5 (knowsN base) (commsN base) set t num = false by rw [HLN2.out, next_hit (by rw [HSL.out]; exact hlt2) (by rw [HPP.out, hp]) HJ.out]; exact decide_eq_false (by omega))
                    clear hp
                    go_wp2_with fail
                    go_ret
                    exact ⟨by rw [HE.out] <;> rfl, HX5.out⟩
              · obtain rfl : m = k := by omega
                have HE := Lib.hid (show lacksN 5 (knowsN base) (commsN base) set t num = true by rw [HLN2.out, next_miss (by rw [HSL.out]; exact HJ.out)]; rfl)
                go_wp2_with fail
                go_ret
                exact ⟨by rw [HE.out] <;> rfl, HX.out⟩
        · have t1 : (lg != 1) = true := by simpa using h1
          have t5 : (lg != 5) = true := by simpa using h5
          have HE := Lib.hid (show lacksN lg (knowsN base) (commsN base) set t num = false by rw [HLN.out, show (lg == 1) = false by simpa using h1, show (lg == 5) = false by simpa using h5]; rfl)
          clear h1 h5
          go_enter Tryz.func36, Tryz.ntmps36
          go_wp2_with fail
          go_ret
          exact ⟨by rw [HE.out] <;> rfl, Ext.refl _⟩
  · obtain ⟨nn, rfl⟩ := Int.eq_ofNat_of_zero_le (show 0 ≤ num by omega)
    have hn1 : ((nn : Int) < 0) = False := by simp
    clear hn0 n0 d0
    by_cases hnl : nn < base.length
    · have hnl1 : (nn : Int) < (base.length : Int) := by omega
      have hn64 : nn < 64 := by omega
      have hnl2 : decide (base.length ≤ nn) = false := decide_eq_false (by omega)
      cases hin : t.testBit nn
      case true =>
        have HE := Lib.hid (lacks_in (lg := lg) (base := base) (al := set) hin)
        have HIN := Lib.hid hin
        clear hin
        go_enter Tryz.func36, Tryz.ntmps36
        go_wp2_with fail
        refine (in_any t nn _ _ hn64 HIN.out).mono ?_
        rintro e w2 ⟨rfl, rfl⟩
        go_wp2_with fail
        go_ret
        exact ⟨by rw [HE.out] <;> rfl, Ext.refl _⟩
      have HIN := Lib.hid hin
      clear hin
      obtain ⟨ad, rfl, hadl, hnd⟩ := HNO.out nn hnl
      obtain ⟨c0, c1, c2, c3, c4, c5⟩ := hnd
      have hadl2 : (ad.add (nn * 6)).block < w.heap.size := by rw [block_of_add]; exact hadl
      obtain ⟨n, hn⟩ : ∃ n, n = topN base nn := ⟨_, rfl⟩
      rw [← hn] at c0 c1 c2 c3 c4 c5
      have HN := Lib.hid hn
      clear hn
      by_cases h13 : n.op = 13
      · have HLN := Lib.hid (lacks_com (lg := lg) (al := set) (t := t) hnl (by rw [← HN.out]; exact h13))
        obtain ⟨gn, hgn, hg16⟩ := HAG.out.cm nn hnl (by rw [← HN.out]; exact h13)
        have HGN := Lib.hid hgn
        have H13 := Lib.hid (show (topN base nn).op = 13 by rw [← HN.out]; exact h13)
        rw [h13] at c0
        clear h13 hgn
        go_enter Tryz.func36, Tryz.ntmps36
        go_wp2_with fail
        refine (in_any t nn _ _ hn64 HIN.out).mono ?_
        rintro e w2 ⟨rfl, rfl⟩
        go_wp2_with fail
        refine (rpath_any s lg base set _ nn gn t m _ (HS.out.ext ((Ext.refl _).alloc _)) hbl HL.out HM.out HSL.out (HB.out.ext ((Ext.refl _).alloc _)) hnl H13.out HGN.out).mono ?_
        rintro e w3 ⟨rfl, hx3⟩
        have HX3 := Lib.hid (((Ext.refl w).alloc _).trans hx3)
        clear hx3
        cases hp : pathN lg (knowsN base) set (cmAt base nn) t
        · have HE := Lib.hid (show lacksN lg (knowsN base) (commsN base) set t (nn : Int) = true by rw [HLN.out, HIN.out, hp]; rfl)
          clear hp
          go_wp2_with fail
          go_ret
          exact ⟨by rw [HE.out] <;> rfl, HX3.out⟩
        · have HE := Lib.hid (show lacksN lg (knowsN base) (commsN base) set t (nn : Int) = false by rw [HLN.out, HIN.out, hp]; rfl)
          clear hp
          go_wp2_with fail
          go_ret
          exact ⟨by rw [HE.out] <;> rfl, HX3.out⟩
      · by_cases h9 : n.op = 9
        · have HLN := Lib.hid (lacks_know (lg := lg) (al := set) (t := t) hnl (by rw [← HN.out]; exact h9))
          have HBL2 := Lib.hid (show (bodyN base nn).length = m by rw [body_len (by rw [← HN.out]; exact h9), HM.out])
          rw [h9] at c0
          clear h9 h13
          obtain ⟨ak, vk, rfl, hakl, hvk, ⟨Ak, ck, rfl, hbo⟩⟩ := HKN.out nn hnl
          have HBO := Lib.hid hbo
          have HVK := Lib.hid hvk
          rw [HBL2.out] at HVK
          obtain ⟨na, hna⟩ : ∃ x, x = n.i := ⟨_, rfl⟩
          rw [← hna] at c1
          have HLN2 := Lib.hid (show lacksN lg (knowsN base) (commsN base) set t (nn : Int) = decide (nextN lg (knowsN base) set na t (fun u => !(bodyN base nn).getD u false) < 0) by rw [HLN.out, HIN.out, ← HN.out, hna]; rfl)
          clear hbo hvk HLN hna
          go_enter Tryz.func36, Tryz.ntmps36
          go_wp2_with fail
          refine (in_any t nn _ _ hn64 HIN.out).mono ?_
          rintro e w2 ⟨rfl, rfl⟩
          go_upto_region 15 with (fail)
          obtain ⟨W3, hW3⟩ : ∃ W, W = w.alloc (.cells #[.int .i64 9, .int .i64 na, .int .i64 n.e, .int .i64 n.g, .int .i64 n.x, .int .i64 n.y] 93) := ⟨_, rfl⟩
          have HX3 := Lib.hid (show Ext w W3 by rw [hW3]; exact (Ext.refl _).alloc _)
          obtain ⟨x0, x1, _, _, _, _, xl⟩ := cells6t (w := W3) (b := w.heap.size) (by rw [hW3]; exact heap_alloc_new _ _)
          rw [← hW3]
          clear hW3
          obtain ⟨xb, hxb⟩ : ∃ b, b = w.heap.size := ⟨_, rfl⟩
          rw [← hxb] at x0 x1 xl ⊢
          clear hxb
          have XB := Lib.hid (show xb < W3.heap.size ∧ W3.cell? ⟨xb, 1, none⟩ = some (.int .i64 na) from ⟨xl, x1⟩)
          go_wp2_with fail
          clear x0 x1 xl
          go_loopw [89] (fun v wr => ∃ k : Nat, v = .int .i64 (k : Int) ∧ k ≤ m ∧ Hid (Ext W3 wr ∧ ∀ j, j < k → nextP lg (knowsN base) set (na) t (fun u => !(bodyN base nn).getD u false) j = false)) (fun v _ => m - (intOf v).toNat)
          case atStart => exact ⟨0, rfl, Nat.zero_le _, Lib.hid ⟨(Ext.refl _), fun j hj => absurd hj (by omega)⟩⟩
          case round =>
            obtain ⟨k, rfl, hk, HREL⟩ := hrel
            have HXB := Lib.hid HREL.out.1
            have HX := Lib.hid (HX3.out.trans HREL.out.1)
            have HJ := Lib.hid HREL.out.2
            clear HREL
            by_cases hlt2 : k < m
            · have hk1 : (k : Int) < (m : Int) := by omega
              obtain ⟨ad, rfl, hadl, s0⟩ := setg_get HBS.out HSL.out hlt2
              have s1 := (HX.out.cell (p := ad.add k) (by rw [block_of_add]; exact hadl)).trans s0
              have hadl2 : (ad.add k).block < wr.heap.size := by rw [block_of_add]; exact Nat.lt_of_lt_of_le hadl HX.out.size
              have HNX := Lib.hid (show nextP lg (knowsN base) set (na) t (fun u => !(bodyN base nn).getD u false) k = false → ∀ j, j < k + 1 → nextP lg (knowsN base) set (na) t (fun u => !(bodyN base nn).getD u false) j = false from fun h => upto HJ.out h)
              clear s0
              obtain ⟨ab, rfl, habl, hab⟩ := bools_get HBO.out (k := k) (by rw [HBL2.out]; exact hlt2)
              have b0 := (HX.out.cell (p := ab.add k) (by rw [block_of_add]; exact habl)).trans hab
              have habl2 : (ab.add k).block < wr.heap.size := by rw [block_of_add]; exact Nat.lt_of_lt_of_le habl HX.out.size
              have hs2 := Nat.lt_of_lt_of_le hs HX.out.size
              have d3 := (HX.out.cell (p := ⟨s, 3, none⟩) hs).trans D3.out
              have k0 := (HX.out.cell (p := ak.add nn) (by rw [block_of_add]; exact hakl)).trans HVK.out
              have hakl2 : (ak.add nn).block < wr.heap.size := by rw [block_of_add]; exact Nat.lt_of_lt_of_le hakl HX.out.size
              have x0 := (HXB.out.cell (p := ⟨xb, 1, none⟩) XB.out.1).trans XB.out.2
              have xbl := Nat.lt_of_lt_of_le XB.out.1 HXB.out.size
              clear hab
              cases hsv : set.getD k false
              · rw [hsv] at s1
                have HF := Lib.hid (HNX.out (by unfold nextP; rw [hsv, Bool.false_and]))
                clear hsv
                go_wp2_with fail
                go_roundw
                case rel => exact ⟨k + 1, by go_num, by omega, Lib.hid ⟨HXB.out, HF.out⟩⟩
                case measure => simp [intOf]; omega
              · rw [hsv] at s1
                cases hbv : (bodyN base nn).getD k false
                case true =>
                  rw [hbv] at b0
                  have HF := Lib.hid (HNX.out (by show (set.getD k false && (!(bodyN base nn).getD k false && possibleN lg (knowsN base) na t k)) = false; rw [hbv, Bool.not_true, Bool.false_and, Bool.and_false]))
                  clear hsv hbv
                  go_wp2_with fail
                  go_roundw
                  case rel => exact ⟨k + 1, by go_num, by omega, Lib.hid ⟨HXB.out, HF.out⟩⟩
                  case measure => simp [intOf]; omega
                rw [hbv] at b0
                have HPP := Lib.hid (show nextP lg (knowsN base) set (na) t (fun u => !(bodyN base nn).getD u false) k = possibleN lg (knowsN base) (na) t k by show (set.getD k false && (!(bodyN base nn).getD k false && possibleN lg (knowsN base) na t k)) = _; rw [hsv, hbv, Bool.not_false, Bool.true_and, Bool.true_and])
                clear hsv hbv
                go_wp2_with fail
                refine (rpossible_any s lg base (na) t k wr (HS.out.ext HX.out) hbl HL.out (by rw [← HM.out]; exact hlt2)).mono ?_
                rintro e w3 ⟨rfl, hx3⟩
                have HX5 := Lib.hid (HX.out.trans hx3)
                have HXB3 := Lib.hid (HXB.out.trans hx3)
                clear hx3
                cases hp : possibleN lg (knowsN base) (na) t k
                · have HF := Lib.hid (HNX.out (by rw [HPP.out, hp]))
                  clear hp
                  go_wp2_with fail
                  go_roundw
                  case rel => exact ⟨k + 1, by go_num, by omega, Lib.hid ⟨HXB3.out, HF.out⟩⟩
                  case measure => simp [intOf]; omega
                · have HE := Lib.hid (show lacksN lg (knowsN base) (commsN base) set t (nn : Int) = false by rw [HLN2.out, next_hit (by rw [HSL.out]; exact hlt2) (by rw [HPP.out, hp]) HJ.out]; exact decide_eq_false (by omega))
                  clear hp
                  go_wp2_with fail
                  go_ret
                  exact ⟨by rw [HE.out] <;> rfl, HX5.out⟩
            · obtain rfl : m = k := by omega
              have HE := Lib.hid (show lacksN lg (knowsN base) (commsN base) set t (nn : Int) = true by rw [HLN2.out, next_miss (by rw [HSL.out]; exact HJ.out)]; rfl)
              go_wp2_with fail
              go_ret
              exact ⟨by rw [HE.out] <;> rfl, HX.out⟩
        · have HE := Lib.hid (lacks_other (lg := lg) (al := set) (t := t) (base := base) (i := nn) fun _ => ⟨by rw [← HN.out]; exact h9, by rw [← HN.out]; exact h13⟩)
          go_enter Tryz.func36, Tryz.ntmps36
          go_wp2_with fail
          refine (in_any t nn _ _ hn64 HIN.out).mono ?_
          rintro e w2 ⟨rfl, rfl⟩
          go_wp2_with fail
          go_ret
          exact ⟨by rw [HE.out] <;> rfl, (Ext.refl _).alloc _⟩
    · have HE := Lib.hid (lacks_other (lg := lg) (al := set) (t := t) (base := base) (i := nn) fun e => absurd e hnl)
      have hnl1 : ¬ (nn : Int) < (base.length : Int) := by omega
      go_enter Tryz.func36, Tryz.ntmps36
      go_wp2_with fail
      go_ret
      exact ⟨by rw [HE.out] <;> rfl, Ext.refl _⟩
end Go.Proofs.YtbfeodammikajaaGreat
