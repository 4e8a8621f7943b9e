/- types' next: the walk. -/
import Derived.Test.YtbfeodammikajaaGreatS10
import Derived.Test.YtbfeodammikajaaGreatS09

namespace Go.Proofs.YtbfeodammikajaaGreat
open Go.RowKit

theorem find_range_hit {p : Nat → Bool} {m k : Nat} (hk : k < m) (h : p k = true) (hn : ∀ j, j < k → p j = false) : (List.range m).find? p = some k := by
  rw [List.find?_range_eq_some]
  exact ⟨h, List.mem_range.2 hk, fun j hj => by rw [hn j hj]; rfl⟩
theorem next_hit {lg : Int} {ks : List Kn} {al : List Bool} {a : Int} {t k : Nat} {wt : Nat → Bool} (hk : k < al.length) (h : nextP lg ks al a t wt k = true) (hn : ∀ j, j < k → nextP lg ks al a t wt j = false) : nextN lg ks al a t wt = (k : Int) := by
  unfold nextN
  rw [find_range_hit hk h hn]
theorem next_miss {lg : Int} {ks : List Kn} {al : List Bool} {a : Int} {t : Nat} {wt : Nat → Bool} (hn : ∀ j, j < al.length → nextP lg ks al a t wt j = false) : nextN lg ks al a t wt = -1 := by
  unfold nextN
  have : (List.range al.length).find? (nextP lg ks al a t wt) = none := by
    rw [List.find?_eq_none]
    intro j hj
    rw [hn j (List.mem_range.1 hj)]
    simp
  rw [this]
set_option maxRecDepth 100000 in
set_option maxHeartbeats 16000000 in
theorem next_any (b : Nat) (lg : Int) (base : List (List Nd)) (root : List Bool) (ks : List Kn) (cs : List Cm) (alive : List Bool) (a : Int) (t : Nat) (wanted : Nat → Bool) (g : Nat) (lb : Array Value) (eg : ∀ args w, (callFunc g args).run Tryz.prog w = .ok (.enter g args) w) (w : World)
    (hE : Eng w b lg base root ks cs alive) (hlg : 0 ≤ lg ∧ lg ≤ 6) (ht : t < 18446744073709551616) (_hm : alive.length ≤ 4096) (hks : ∀ k ∈ ks, k.place < 64 ∧ alive.length ≤ k.holds.length)
    (hw : ∀ (W : World) (u : Nat), u < alive.length → Ext w W → Calls Tryz.prog g (#[.int .i64 (u : Int)] ++ lb) W fun e w' => e = .returned (.bool (wanted u)) ∧ Ext W w') :
    Calls Tryz.prog 81 #[.pointer (some ⟨b, 0, none⟩), .int .i64 a, .int .u64 (t : Int), .func (.func g) #[] lb] w fun e w' => e = .returned (.int .i64 (nextN lg ks alive a t wanted)) ∧ Ext w w' := by
  obtain ⟨Ab, cb, Ar, cr, Ak, ck, Ac, cc, Aa, ca, d0, d1, d2, d3, d4, d5, hbl, _, _, hkn, _, hal⟩ := hE.cells
  have HE := Lib.hid hE
  have HA := Lib.hid hal
  have hac := hal.1
  have hca := hal.2.1
  unfold maxLen at hca
  have HKS := Lib.hid hks
  have HW := Lib.hid hw
  clear hE hal hkn hks hw d0 d1 d2 d3 d4
  go_enter Tryz.func81, Tryz.ntmps81
  go_wp2_with fail
  clear d5
  go_loopw [16] (fun v wr => ∃ k : Nat, v = .int .i64 (k : Int) ∧ k ≤ alive.length ∧ Hid (Ext w wr ∧ ∀ j, j < k → nextP lg ks alive a t wanted j = false)) (fun v _ => alive.length - (intOf v).toNat)
  case atStart => exact ⟨0, rfl, Nat.zero_le _, Lib.hid ⟨Ext.refl _, fun j hj => absurd hj (by omega)⟩⟩
  case round =>
    obtain ⟨k, rfl, hk, HREL⟩ := hrel
    have HX := Lib.hid HREL.out.1
    have HJ := Lib.hid HREL.out.2
    clear HREL
    by_cases hlt2 : k < alive.length
    · have hk1 : (k : Int) < (alive.length : Int) := by omega
      obtain ⟨ad, rfl, hb1, a0⟩ := bools_get (HA.out.ext HX.out) hlt2
      have HNEXT := Lib.hid (show nextP lg ks alive a t wanted k = false → ∀ j, j < k + 1 → nextP lg ks alive a t wanted j = false from fun h j hj => by
        by_cases e : j < k
        · exact HJ.out j e
        · have : j = k := by omega
          subst this; exact h)
      have HP := Lib.hid (show nextP lg ks alive a t wanted k = (alive.getD k false && (wanted k && possibleN lg ks a t k)) from rfl)
      have HWK := Lib.hid (fun W hW => HW.out W k hlt2 hW)
      have HPO := Lib.hid (fun W (hW : Ext w W) => possible_any b lg base root ks cs alive a t k W (HE.out.ext hW) hlg ht (by omega) (fun n hn => ⟨(HKS.out n hn).1, Nat.lt_of_lt_of_le hlt2 (HKS.out n hn).2⟩))
      obtain ⟨wk, hwk⟩ : ∃ x, x = wanted k := ⟨_, rfl⟩
      obtain ⟨pk, hpk⟩ : ∃ x, x = possibleN lg ks a t k := ⟨_, rfl⟩
      obtain ⟨ak, hak⟩ : ∃ x, x = alive.getD k false := ⟨_, rfl⟩
      rw [← hwk, ← hpk, ← hak] at HP
      rw [← hwk] at HWK
      rw [← hpk] at HPO
      rw [← hak] at a0
      clear hwk hpk hak
      cases ak
      · go_wp2_with fail
        go_roundw
        case rel => exact ⟨k + 1, by go_num, by omega, Lib.hid ⟨HX.out, HNEXT.out (by rw [HP.out]; rfl)⟩⟩
        case measure => simp [intOf]; omega
      · cases wk
        · go_wp2_with fail
          refine (HWK.out _ HX.out).mono ?_
          rintro e w2 ⟨rfl, hx⟩
          have HX2 := Lib.hid hx
          clear hx
          go_wp2_with fail
          go_roundw
          case rel => exact ⟨k + 1, by go_num, by omega, Lib.hid ⟨HX.out.trans HX2.out, HNEXT.out (by rw [HP.out]; rfl)⟩⟩
          case measure => simp [intOf]; omega
        · go_wp2_with fail
          refine (HWK.out _ HX.out).mono ?_
          rintro e w2 ⟨rfl, hx⟩
          have HX2 := Lib.hid hx
          clear hx
          go_wp2_with fail
          refine (HPO.out _ (HX.out.trans HX2.out)).mono ?_
          rintro e w3 ⟨rfl, hx⟩
          have HX3 := Lib.hid hx
          clear hx
          cases pk
          · go_wp2_with fail
            go_roundw
            case rel => exact ⟨k + 1, by go_num, by omega, Lib.hid ⟨HX.out.trans (HX2.out.trans HX3.out), HNEXT.out (by rw [HP.out]; rfl)⟩⟩
            case measure => simp [intOf]; omega
          · have HR := Lib.hid (next_hit hlt2 (by rw [HP.out]; rfl) HJ.out)
            go_wp2_with fail
            go_ret
            exact ⟨by rw [HR.out] <;> rfl, HX.out.trans (HX2.out.trans HX3.out)⟩
    · obtain rfl : alive.length = k := by omega
      have HR := Lib.hid (next_miss HJ.out)
      go_wp2_with fail
      go_ret
      exact ⟨by rw [HR.out] <;> rfl, HX.out⟩
end Go.Proofs.YtbfeodammikajaaGreat

/- slices.IndexFunc and ContainsFunc at base formulas of knowledge. -/

namespace Go.Proofs.YtbfeodammikajaaGreat
open Go.RowKit

theorem any_hit {ks : List Kn} {p : Kn → Bool} {k : Nat} {n : Kn} (hn : ks[k]? = some n) (h : p n = true) : ks.any p = true := by
  rw [List.any_eq_true]
  exact ⟨n, List.mem_of_getElem? hn, h⟩
theorem any_miss {ks : List Kn} {p : Kn → Bool} (h : ∀ (j : Nat) (n : Kn), j < ks.length → ks[j]? = some n → p n = false) : ks.any p = false := by
  rw [List.any_eq_false]
  intro n hn
  obtain ⟨j, hj, e⟩ := List.getElem_of_mem hn
  rw [h j n hj (by rw [List.getElem?_eq_getElem hj, e])]
  simp
/-- Some place, or none. -/
def FoundK (ks : List Kn) (p : Kn → Bool) (w : World) (e : Ending) (w' : World) : Prop := ∃ z : Int, e = .returned (.int .i64 z) ∧ Ext w w' ∧ decide (0 ≤ z) = ks.any p
set_option maxRecDepth 100000 in
set_option maxHeartbeats 4000000 in
theorem lacks1_any (B : Nat) (n : Kn) (z : Int) (Ah : Option Addr) (ch : Nat) (w : World) (hB : w.cell? ⟨B, 0, none⟩ = some (.int .i64 z)) (hBl : B < w.heap.size) :
    Calls Tryz.prog 80 (#[.agg #[.int .i64 n.agent, .int .i64 (n.place : Int), .slice Ah n.holds.length ch]] ++ #[.pointer (some ⟨B, 0, none⟩)]) w fun e w' => e = .returned (.bool (n.agent == z)) ∧ Ext w w' := by
  show Calls Tryz.prog 80 #[.agg #[.int .i64 n.agent, .int .i64 (n.place : Int), .slice Ah n.holds.length ch], .pointer (some ⟨B, 0, none⟩)] w _
  go_enter Tryz.func80, Tryz.ntmps80
  go_wp2_with fail
  go_ret
  exact ⟨rfl, (Ext.refl _).alloc _⟩
set_option maxRecDepth 100000 in
set_option maxHeartbeats 8000000 in
theorem indexK_any (v : Value) (ks : List Kn) (z : Int) (B : Nat) (w : World) (hk : Kns w v ks) (hB : w.cell? ⟨B, 0, none⟩ = some (.int .i64 z)) (hBl : B < w.heap.size) :
    Calls Tryz.prog 134 #[v, .func (.func 80) #[] #[.pointer (some ⟨B, 0, none⟩)]] w (FoundK ks (fun k => k.agent == z) w) := by
  obtain ⟨A, c, rfl, hkn⟩ := hk
  have HK := Lib.hid hkn
  have hkc := hkn.1
  have hck := hkn.2.1
  unfold maxLen at hck
  have D0 := Lib.hid hB
  clear hkn hB
  go_enter Tryz.func134, Tryz.ntmps134
  go_wp2_with fail
  go_loopw [8] (fun v wr => ∃ k : Nat, v = .int .i64 (k : Int) ∧ k ≤ ks.length ∧ Hid (Ext w wr ∧ ∀ (j : Nat) (n : Kn), j < k → ks[j]? = some n → (n.agent == z) = false)) (fun v _ => ks.length - (intOf v).toNat)
  case atStart => exact ⟨0, rfl, Nat.zero_le _, Lib.hid ⟨Ext.refl _, fun j n hj => absurd hj (by omega)⟩⟩
  case round =>
    obtain ⟨k, rfl, hk, HREL⟩ := hrel
    have HX := Lib.hid HREL.out.1
    have HJ := Lib.hid HREL.out.2
    clear HREL
    by_cases hlt2 : k < ks.length
    · have hk1 : (k : Int) < (ks.length : Int) := by omega
      obtain ⟨n, hn⟩ : ∃ n, ks[k]? = some n := ⟨_, List.getElem?_eq_getElem hlt2⟩
      obtain ⟨ad, rfl, hblk, hat⟩ := kn_get HK.out hn
      obtain ⟨vh, c0, c1, c2, hbo⟩ := hat.ext HX.out (by rw [block_of_add]; exact hblk)
      obtain ⟨Ah, ch, rfl, _⟩ := hbo
      have HN := Lib.hid hn
      have HL := Lib.hid (lacks1_any B n z Ah ch wr ((HX.out.cell (p := ⟨B, 0, none⟩) hBl).trans D0.out) (Nat.lt_of_lt_of_le hBl HX.out.size))
      have HNEXT := Lib.hid (show (n.agent == z) = false → ∀ (j : Nat) (m : Kn), j < k + 1 → ks[j]? = some m → (m.agent == z) = false from fun hc j m hj hm => by
        by_cases e : j < k
        · exact HJ.out j m e hm
        · have : j = k := by omega
          subst this
          rw [hn] at hm
          injection hm with hm
          rw [← hm]; exact hc)
      clear hn hat
      cases hag : n.agent == z
      · have HAG := Lib.hid hag
        rw [hag] at HL
        clear hag
        go_wp2_with fail
        refine HL.out.mono ?_
        rintro e w2 ⟨rfl, hx⟩
        have HX2 := Lib.hid hx
        clear hx
        go_wp2_with fail
        go_roundw
        case rel => exact ⟨k + 1, by go_num, by omega, Lib.hid ⟨HX.out.trans HX2.out, HNEXT.out HAG.out⟩⟩
        case measure => simp [intOf]; omega
      · have HE := Lib.hid (any_hit (p := fun k => k.agent == z) HN.out hag)
        rw [hag] at HL
        clear hag
        go_wp2_with fail
        refine HL.out.mono ?_
        rintro e w2 ⟨rfl, hx⟩
        have HX2 := Lib.hid hx
        clear hx
        go_wp2_with fail
        go_ret
        exact ⟨(k : Int), rfl, HX.out.trans HX2.out, by rw [HE.out]; simp⟩
    · obtain rfl : ks.length = k := by omega
      have HE := Lib.hid (any_miss (p := fun k => k.agent == z) HJ.out)
      go_wp2_with fail
      go_ret
      exact ⟨-1, rfl, HX.out, by rw [HE.out]; rfl⟩
set_option maxRecDepth 100000 in
set_option maxHeartbeats 4000000 in
theorem containsK_any (v : Value) (ks : List Kn) (z : Int) (B : Nat) (w : World) (hk : Kns w v ks) (hB : w.cell? ⟨B, 0, none⟩ = some (.int .i64 z)) (hBl : B < w.heap.size) :
    Calls Tryz.prog 79 #[v, .func (.func 80) #[] #[.pointer (some ⟨B, 0, none⟩)]] w fun e w' => e = .returned (.bool (ks.any fun k => k.agent == z)) ∧ Ext w w' := by
  have HK := Lib.hid hk
  have D0 := Lib.hid hB
  obtain ⟨A, c, rfl, _⟩ := hk
  clear hB
  go_enter Tryz.func79, Tryz.ntmps79
  go_wp2_with fail
  refine (indexK_any _ ks z B _ HK.out D0.out hBl).mono ?_
  rintro e w2 ⟨y, rfl, hx, hy⟩
  have HX := Lib.hid hx
  have HY := Lib.hid hy
  clear hx
  cases hyy : decide (0 ≤ y)
  · rw [hyy] at hy
    have hlt : y < 0 := by have := of_decide_eq_false hyy; omega
    clear hy hyy
    go_wp2_with fail
    go_ret
    exact ⟨by rw [← HY.out, decide_eq_false (by omega)] <;> rfl, HX.out⟩
  · have hlt : 0 ≤ y := of_decide_eq_true hyy
    clear hy hyy
    go_wp2_with fail
    go_ret
    exact ⟨by rw [← HY.out, decide_eq_true hlt] <;> rfl, HX.out⟩
end Go.Proofs.YtbfeodammikajaaGreat

/- A bit that is not there. -/

namespace Go.Proofs.YtbfeodammikajaaGreat
open Go.RowKit

theorem shr_and_zero (s k : Nat) (hs : s < 18446744073709551616) : (bits .and .u64 ((s : Int) / 2 ^ k) 1 == 0) = !s.testBit k := by
  have hlt : s / 2 ^ k < 18446744073709551616 := Nat.lt_of_le_of_lt (Nat.div_le_self _ _) hs
  rw [shr_nat, show (1 : Int) = ((1 : Nat) : Int) from rfl, bits_and_u64_nat _ 1 hlt (by decide), Nat.and_one_is_mod, testBit_int]
  rcases Nat.mod_two_eq_zero_or_one (s / 2 ^ k) with h | h <;> rw [h] <;> rfl
end Go.Proofs.YtbfeodammikajaaGreat
