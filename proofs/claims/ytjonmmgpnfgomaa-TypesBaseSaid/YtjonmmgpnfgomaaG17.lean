/- types' coherent: the walk. -/
import Derived.Test.YtjonmmgpnfgomaaG16
import Derived.Test.YtjonmmgpnfgomaaG15
import Derived.Test.YtjonmmgpnfgomaaG11
import Derived.Test.YtjonmmgpnfgomaaG13
import Derived.Test.YtjonmmgpnfgomaaG08
import Derived.Deep.DeepCutAuto
import Derived.Deep.CutBlock

namespace Go.Proofs.Ytjonmmgpnfgomaa
open Go.RowKit

def cohC (t : Nat) (c : Cm) : Bool := t.testBit c.place == ((t &&& c.parts) == c.parts)
def cohK (lg : Int) (t : Nat) (k : Kn) : Bool := !(reflN lg && (t.testBit k.place && !k.holds.getD t false))
theorem coh_c {lg : Int} {ks : List Kn} {cs : List Cm} {t k : Nat} {c : Cm} (hn : cs[k]? = some c) (h : cohC t c = false) : coherentN lg ks cs t = false := by
  unfold coherentN
  have : cs.all (fun c => t.testBit c.place == ((t &&& c.parts) == c.parts)) = false := by
    rw [List.all_eq_false]
    exact ⟨c, List.mem_of_getElem? hn, by show ¬ cohC t c = true; rw [h]; simp⟩
  rw [this]; rfl
theorem coh_k {lg : Int} {ks : List Kn} {cs : List Cm} {t k : Nat} {n : Kn} (hn : ks[k]? = some n) (h : cohK lg t n = false) : coherentN lg ks cs t = false := by
  unfold coherentN
  have : ks.all (fun k => !(reflN lg && (t.testBit k.place && !k.holds.getD t false))) = false := by
    rw [List.all_eq_false]
    exact ⟨n, List.mem_of_getElem? hn, by show ¬ cohK lg t n = true; rw [h]; simp⟩
  rw [this, Bool.and_false]
theorem coh_all {lg : Int} {ks : List Kn} {cs : List Cm} {t : Nat} (h1 : ∀ (j : Nat) (c : Cm), j < cs.length → cs[j]? = some c → cohC t c = true) (h2 : ∀ (j : Nat) (n : Kn), j < ks.length → ks[j]? = some n → cohK lg t n = true) : coherentN lg ks cs t = true := by
  unfold coherentN
  rw [Bool.and_eq_true, List.all_eq_true, List.all_eq_true]
  constructor
  · intro c hc
    obtain ⟨j, hj, e⟩ := List.getElem_of_mem hc
    exact h1 j c hj (by rw [List.getElem?_eq_getElem hj, e])
  · intro c hc
    obtain ⟨j, hj, e⟩ := List.getElem_of_mem hc
    exact h2 j c hj (by rw [List.getElem?_eq_getElem hj, e])
theorem cm_get {w : World} {A : Option Addr} {c : Nat} {l : List Cm} (h : CmsAt w A c l) {k : Nat} {n : Cm} (hk : l[k]? = some n) : ∃ ad, A = some ad ∧ ad.block < w.heap.size ∧ CmAt w (ad.add (k * 5)) n := by
  obtain ⟨ad, e, hb, hc⟩ := h.2.2 (by intro e; rw [e] at hk; simp at hk)
  exact ⟨ad, e, hb, hc k n hk⟩
theorem cells5t {w : World} {b : Nat} {a0 a1 a2 a3 a4 : Value} {t : TypeId} (h : w.heap[b]? = some (.cells #[a0, a1, a2, a3, a4] t (0, 0))) :
    w.cell? ⟨b, 0, none⟩ = some a0 ∧ w.cell? ⟨b, 1, none⟩ = some a1 ∧ w.cell? ⟨b, 2, none⟩ = some a2 ∧ w.cell? ⟨b, 3, none⟩ = some a3 ∧ w.cell? ⟨b, 4, none⟩ = some a4 ∧ b < w.heap.size :=
  ⟨by simp [World.cell?, h], by simp [World.cell?, h], by simp [World.cell?, h], by simp [World.cell?, h], by simp [World.cell?, h], lt_heap h⟩
theorem and_parts (t q : Nat) (ht : t < 18446744073709551616) (hq : q < 18446744073709551616) : (bits .and .u64 (t : Int) (q : Int) == (q : Int)) = ((t &&& q) == q) := by
  rw [bits_and_u64_nat _ _ ht hq, Bool.eq_iff_iff, beq_iff_eq, beq_iff_eq]
  omega
set_option maxRecDepth 100000 in
set_option maxHeartbeats 32000000 in
theorem coherent_any (b : Nat) (lg : Int) (base : List (List Nd)) (root : List Bool) (ks : List Kn) (cs : List Cm) (alive : List Bool) (t : Nat) (w : World)
    (hE : Eng w b lg base root ks cs alive) (ht : t < 4096) (hks : ∀ k ∈ ks, k.place < 64 ∧ t < k.holds.length) (hcs : ∀ c ∈ cs, c.place < 64 ∧ c.parts < 18446744073709551616) :
    Calls Try.prog 76 #[.pointer (some ⟨b, 0, none⟩), .int .u64 (t : Int)] w fun e w' => e = .returned (.bool (coherentN lg ks cs t)) ∧ Ext w w' := by
  obtain ⟨Ab, cb, Ar, cr, Ak, ck, Ac, cc, Aa, ca, d0, d1, d2, d3, d4, d5, hbl, _, _, hkn, hcm, _⟩ := hE.cells
  have HK := Lib.hid hkn
  have HC := Lib.hid hcm
  have hkc := hkn.1
  have hck := hkn.2.1
  have hcc := hcm.1
  have hccm := hcm.2.1
  unfold maxLen at hck hccm
  have HKS := Lib.hid hks
  have HCS := Lib.hid hcs
  have D0 := Lib.hid d0
  have D3 := Lib.hid d3
  clear hE hkn hcm hks hcs d1 d2 d3 d5 d0
  go_enter Try.func76, Try.ntmps76
  go_wp2_with fail
  clear d4
  go_loopw [14] (fun v wr => ∃ k : Nat, v = .int .i64 (k : Int) ∧ k ≤ cs.length ∧ Hid (Ext w wr ∧ ∀ (j : Nat) (c : Cm), j < k → cs[j]? = some c → cohC t c = true)) (fun v _ => cs.length - (intOf v).toNat)
  case atStart => exact ⟨0, rfl, Nat.zero_le _, Lib.hid ⟨Ext.refl _, fun j n hj => absurd hj (by omega)⟩⟩
  case round =>
    obtain ⟨k, rfl, hk, HREL⟩ := hrel
    have HX := Lib.hid HREL.out.1
    have HJ := Lib.hid HREL.out.2
    clear HREL
    by_cases hlt2 : k < cs.length
    · have hk1 : (k : Int) < (cs.length : Int) := by omega
      obtain ⟨n, hn⟩ : ∃ n, cs[k]? = some n := ⟨_, List.getElem?_eq_getElem hlt2⟩
      obtain ⟨hpl, hpa⟩ := HCS.out n (List.mem_of_getElem? hn)
      obtain ⟨ad, rfl, hblk, hat⟩ := cm_get HC.out hn
      obtain ⟨vx, vy, c0, c1, c2, c3, c4, hbx, hby⟩ := hat.ext HX.out (by rw [block_of_add]; exact hblk)
      obtain ⟨Ax, cx, rfl, _⟩ := hbx
      obtain ⟨Ay, cy, rfl, _⟩ := hby
      have hblk2 : (ad.add (k * 5)).block < wr.heap.size := by rw [block_of_add]; exact Nat.lt_of_lt_of_le hblk HX.out.size
      have HN := Lib.hid hn
      have HNEXT := Lib.hid (show cohC t n = true → ∀ (j : Nat) (m : Cm), j < k + 1 → cs[j]? = some m → cohC t m = true from fun hc j m hj hm => by
        by_cases e : j < k
        · exact HJ.out j m e hm
        · have : j = k := by omega
          subst this
          rw [hn] at hm
          injection hm with hm
          rw [← hm]; exact hc)
      have hb1 := shr_and_one t n.place (by omega)
      have hb2 := and_parts t n.parts (by omega) hpa
      obtain ⟨p1, hp1⟩ : ∃ x, x = t.testBit n.place := ⟨_, rfl⟩
      obtain ⟨p2, hp2⟩ : ∃ x, x = ((t &&& n.parts) == n.parts) := ⟨_, rfl⟩
      have HCO := Lib.hid (show cohC t n = (p1 == p2) by rw [hp1, hp2]; rfl)
      rw [← hp1] at hb1
      rw [← hp2] at hb2
      clear hn hat hp1 hp2
      obtain ⟨wq, hwq⟩ : ∃ v, v = wr := ⟨_, rfl⟩
      subst hwq
      go_upto_region 4 with (fail)
      obtain ⟨e0, e1, e2, e3, e4, eb⟩ := cells5t (show (wq.alloc (.cells #[.int .i64 (n.place : Int), .int .i64 n.group, .slice Ax n.x.length cx, .slice Ay n.y.length cy, .int .u64 (n.parts : Int)] 87)).heap[wq.heap.size]? = some (.cells #[.int .i64 (n.place : Int), .int .i64 n.group, .slice Ax n.x.length cx, .slice Ay n.y.length cy, .int .u64 (n.parts : Int)] 87 (0, 0)) from heap_alloc_new _ _)
      cases p1 <;> cases p2
      · have HT := Lib.hid (show cohC t n = true by rw [HCO.out]; rfl)
        refine wp_region_held_drew (S := fun w' => w'.cell? (⟨wq.heap.size, 0, none⟩) = some (.int .i64 (n.place : Int)) ∧ w'.cell? (⟨wq.heap.size, 4, none⟩) = some (.int .u64 (n.parts : Int))) (by kernel_rfl) ⟨(Ext.cell (p := ⟨wq.heap.size, 0, none⟩) (by repeat (first | exact Ext.refl _ | assumption | apply Ext.alloc | apply Ext.drew)) eb).trans e0, (Ext.cell (p := ⟨wq.heap.size, 4, none⟩) (by repeat (first | exact Ext.refl _ | assumption | apply Ext.alloc | apply Ext.drew)) eb).trans e4⟩ (fun hHeld => ?_)
        refine' wpAnyH_take (i := 0) (v := _) rfl (by kernel_rfl) (by kernel_rfl) (by kernel_rfl) (fun _ _ _ h => h) (Or.inl ⟨by rfl, ?hybw10⟩) hHeld ?restbw10
        case hybw10 => (intro w' hSw; (try dsimp only at hSw); go_simp; (try with_reducible rfl))
        try simp only [Act.put, List.setIfInBounds_toArray, List.set_cons_zero, List.set_cons_succ, List.getElem_toArray, List.getElem_cons_zero]
        refine' wpAnyH_take (i := 1) (v := _) rfl (by kernel_rfl) (by kernel_rfl) (by kernel_rfl) (fun _ _ _ h => h) (Or.inl ⟨by rfl, ?hybw11⟩) hHeld ?restbw11
        case hybw11 => (intro w' hSw; (try dsimp only at hSw); go_simp; (try with_reducible rfl))
        try simp only [Act.put, List.setIfInBounds_toArray, List.set_cons_zero, List.set_cons_succ, List.getElem_toArray, List.getElem_cons_succ, List.getElem_cons_zero]
        refine' wpAnyH_take (i := 2) (v := _) rfl (by kernel_rfl) (by kernel_rfl) (by kernel_rfl) (fun _ _ _ h => h) (Or.inl ⟨by rfl, ?hybw12⟩) hHeld ?restbw12
        case hybw12 => (intro w' hSw; (try dsimp only at hSw); go_simp; (try with_reducible rfl))
        try simp only [Act.put, List.setIfInBounds_toArray, List.set_cons_zero, List.set_cons_succ, List.getElem_toArray, List.getElem_cons_succ, List.getElem_cons_zero]
        refine' wpAnyH_take (i := 3) (v := _) rfl (by kernel_rfl) (by kernel_rfl) (by kernel_rfl) (fun _ _ _ h => h) (Or.inl ⟨by rfl, ?hybw13⟩) hHeld ?restbw13
        case hybw13 => (intro w' hSw; (try dsimp only at hSw); go_simp; (try with_reducible rfl))
        try simp only [Act.put, List.setIfInBounds_toArray, List.set_cons_zero, List.set_cons_succ, List.getElem_toArray, List.getElem_cons_succ, List.getElem_cons_zero]
        refine' wpAnyH_take (i := 4) (v := _) rfl (by kernel_rfl) (by kernel_rfl) (by kernel_rfl) (fun _ _ _ h => h) (Or.inl ⟨by rfl, ?hybw14⟩) hHeld ?restbw14
        case hybw14 => (intro w' hSw; (try dsimp only at hSw); go_simp; (try with_reducible rfl))
        try simp only [Act.put, List.setIfInBounds_toArray, List.set_cons_zero, List.set_cons_succ, List.getElem_toArray, List.getElem_cons_succ, List.getElem_cons_zero]
        refine' wpAnyH_take (i := 5) (v := _) rfl (by kernel_rfl) (by kernel_rfl) (by kernel_rfl) (fun _ _ _ h => h) (Or.inl ⟨by rfl, ?hybw15⟩) hHeld ?restbw15
        case hybw15 => (intro w' hSw; (try dsimp only at hSw); go_simp; (try with_reducible rfl))
        try simp only [Act.put, List.setIfInBounds_toArray, List.set_cons_zero, List.set_cons_succ, List.getElem_toArray, List.getElem_cons_succ, List.getElem_cons_zero]
        refine' wpAnyH_take (i := 6) (v := _) rfl (by kernel_rfl) (by kernel_rfl) (by kernel_rfl) (fun _ _ _ h => h) (Or.inl ⟨by rfl, ?hybw16⟩) hHeld ?restbw16
        case hybw16 => (intro w' hSw; (try dsimp only at hSw); go_simp; (try with_reducible rfl))
        try simp only [Act.put, List.setIfInBounds_toArray, List.set_cons_zero, List.set_cons_succ, List.getElem_toArray, List.getElem_cons_succ, List.getElem_cons_zero]
        refine' wpAnyH_take (i := 7) (v := _) rfl (by kernel_rfl) (by kernel_rfl) (by kernel_rfl) (fun _ _ _ h => h) (Or.inl ⟨by rfl, ?hybw17⟩) hHeld ?restbw17
        case hybw17 => (intro w' hSw; (try dsimp only at hSw); go_simp; (try with_reducible rfl))
        try simp only [Act.put, List.setIfInBounds_toArray, List.set_cons_zero, List.set_cons_succ, List.getElem_toArray, List.getElem_cons_succ, List.getElem_cons_zero]
        refine' wpAnyH_take (i := 8) (v := _) rfl (by kernel_rfl) (by kernel_rfl) (by kernel_rfl) (fun _ _ _ h => h) (Or.inl ⟨by rfl, ?hybw18⟩) hHeld ?restbw18
        case hybw18 => (intro w' hSw; (try dsimp only at hSw); go_simp; (try with_reducible rfl))
        try simp only [Act.put, List.setIfInBounds_toArray, List.set_cons_zero, List.set_cons_succ, List.getElem_toArray, List.getElem_cons_succ, List.getElem_cons_zero]
        refine' wpAnyH_take (i := 9) (v := _) rfl (by kernel_rfl) (by kernel_rfl) (by kernel_rfl) (fun _ _ _ h => h) (Or.inl ⟨by rfl, ?hybw19⟩) hHeld ?restbw19
        case hybw19 => (intro w' hSw; (try dsimp only at hSw); go_simp; (try with_reducible rfl))
        try simp only [Act.put, List.setIfInBounds_toArray, List.set_cons_zero, List.set_cons_succ, List.getElem_toArray, List.getElem_cons_succ, List.getElem_cons_zero]
        refine' wpAnyH_take (i := 10) (v := _) rfl (by kernel_rfl) (by kernel_rfl) (by kernel_rfl) (fun _ _ _ h => h) (Or.inl ⟨by rfl, ?hybw110⟩) hHeld ?restbw110
        case hybw110 => (intro w' hSw; (try dsimp only at hSw); go_simp; (try with_reducible rfl))
        try simp only [Act.put, List.setIfInBounds_toArray, List.set_cons_zero, List.set_cons_succ, List.getElem_toArray, List.getElem_cons_succ, List.getElem_cons_zero]
        refine' wpAnyH_take (i := 11) (v := _) rfl (by kernel_rfl) (by kernel_rfl) (by kernel_rfl) (fun _ _ _ h => h) (Or.inl ⟨by rfl, ?hybw111⟩) hHeld ?restbw111
        case hybw111 => (intro w' hSw; (try dsimp only at hSw); go_simp; (try with_reducible rfl))
        try simp only [Act.put, List.setIfInBounds_toArray, List.set_cons_zero, List.set_cons_succ, List.getElem_toArray, List.getElem_cons_succ, List.getElem_cons_zero]
        refine' wpAnyH_take (i := 12) (v := _) rfl (by kernel_rfl) (by kernel_rfl) (by kernel_rfl) (fun _ _ _ h => h) (Or.inl ⟨by rfl, ?hybw112⟩) hHeld ?restbw112
        case hybw112 => (intro w' hSw; (try dsimp only at hSw); go_simp; (try with_reducible rfl))
        try simp only [Act.put, List.setIfInBounds_toArray, List.set_cons_zero, List.set_cons_succ, List.getElem_toArray, List.getElem_cons_succ, List.getElem_cons_zero]
        refine' wpAnyH_take (i := 13) (v := _) rfl (by kernel_rfl) (by kernel_rfl) (by kernel_rfl) (fun _ _ _ h => h) (Or.inl ⟨by rfl, ?hybw113⟩) hHeld ?restbw113
        case hybw113 => (intro w' hSw; (try dsimp only at hSw); go_simp; (try with_reducible rfl))
        try simp only [Act.put, List.setIfInBounds_toArray, List.set_cons_zero, List.set_cons_succ, List.getElem_toArray, List.getElem_cons_succ, List.getElem_cons_zero]
        refine wpAnyH_done (by kernel_rfl) ?_ _
        go_wp2_with fail
        go_roundw
        case rel => exact ⟨k + 1, by go_num, by omega, Lib.hid ⟨HX.out.trans ((Ext.refl _).alloc _).drew, HNEXT.out HT.out⟩⟩
        case measure => simp [intOf]; omega
      · have HE := Lib.hid (show coherentN lg ks cs t = false from coh_c HN.out (by rw [HCO.out]; rfl))
        refine wp_region_held_drew (S := fun w' => w'.cell? (⟨wq.heap.size, 0, none⟩) = some (.int .i64 (n.place : Int)) ∧ w'.cell? (⟨wq.heap.size, 4, none⟩) = some (.int .u64 (n.parts : Int))) (by kernel_rfl) ⟨(Ext.cell (p := ⟨wq.heap.size, 0, none⟩) (by repeat (first | exact Ext.refl _ | assumption | apply Ext.alloc | apply Ext.drew)) eb).trans e0, (Ext.cell (p := ⟨wq.heap.size, 4, none⟩) (by repeat (first | exact Ext.refl _ | assumption | apply Ext.alloc | apply Ext.drew)) eb).trans e4⟩ (fun hHeld => ?_)
        refine' wpAnyH_take (i := 0) (v := _) rfl (by kernel_rfl) (by kernel_rfl) (by kernel_rfl) (fun _ _ _ h => h) (Or.inl ⟨by rfl, ?hycw20⟩) hHeld ?restcw20
        case hycw20 => (intro w' hSw; (try dsimp only at hSw); go_simp; (try with_reducible rfl))
        try simp only [Act.put, List.setIfInBounds_toArray, List.set_cons_zero, List.set_cons_succ, List.getElem_toArray, List.getElem_cons_zero]
        refine' wpAnyH_take (i := 1) (v := _) rfl (by kernel_rfl) (by kernel_rfl) (by kernel_rfl) (fun _ _ _ h => h) (Or.inl ⟨by rfl, ?hycw21⟩) hHeld ?restcw21
        case hycw21 => (intro w' hSw; (try dsimp only at hSw); go_simp; (try with_reducible rfl))
        try simp only [Act.put, List.setIfInBounds_toArray, List.set_cons_zero, List.set_cons_succ, List.getElem_toArray, List.getElem_cons_succ, List.getElem_cons_zero]
        refine' wpAnyH_take (i := 2) (v := _) rfl (by kernel_rfl) (by kernel_rfl) (by kernel_rfl) (fun _ _ _ h => h) (Or.inl ⟨by rfl, ?hycw22⟩) hHeld ?restcw22
        case hycw22 => (intro w' hSw; (try dsimp only at hSw); go_simp; (try with_reducible rfl))
        try simp only [Act.put, List.setIfInBounds_toArray, List.set_cons_zero, List.set_cons_succ, List.getElem_toArray, List.getElem_cons_succ, List.getElem_cons_zero]
        refine' wpAnyH_take (i := 3) (v := _) rfl (by kernel_rfl) (by kernel_rfl) (by kernel_rfl) (fun _ _ _ h => h) (Or.inl ⟨by rfl, ?hycw23⟩) hHeld ?restcw23
        case hycw23 => (intro w' hSw; (try dsimp only at hSw); go_simp; (try with_reducible rfl))
        try simp only [Act.put, List.setIfInBounds_toArray, List.set_cons_zero, List.set_cons_succ, List.getElem_toArray, List.getElem_cons_succ, List.getElem_cons_zero]
        refine' wpAnyH_take (i := 4) (v := _) rfl (by kernel_rfl) (by kernel_rfl) (by kernel_rfl) (fun _ _ _ h => h) (Or.inl ⟨by rfl, ?hycw24⟩) hHeld ?restcw24
        case hycw24 => (intro w' hSw; (try dsimp only at hSw); go_simp; (try with_reducible rfl))
        try simp only [Act.put, List.setIfInBounds_toArray, List.set_cons_zero, List.set_cons_succ, List.getElem_toArray, List.getElem_cons_succ, List.getElem_cons_zero]
        refine' wpAnyH_take (i := 5) (v := _) rfl (by kernel_rfl) (by kernel_rfl) (by kernel_rfl) (fun _ _ _ h => h) (Or.inl ⟨by rfl, ?hycw25⟩) hHeld ?restcw25
        case hycw25 => (intro w' hSw; (try dsimp only at hSw); go_simp; (try with_reducible rfl))
        try simp only [Act.put, List.setIfInBounds_toArray, List.set_cons_zero, List.set_cons_succ, List.getElem_toArray, List.getElem_cons_succ, List.getElem_cons_zero]
        refine' wpAnyH_take (i := 6) (v := _) rfl (by kernel_rfl) (by kernel_rfl) (by kernel_rfl) (fun _ _ _ h => h) (Or.inl ⟨by rfl, ?hycw26⟩) hHeld ?restcw26
        case hycw26 => (intro w' hSw; (try dsimp only at hSw); go_simp; (try with_reducible rfl))
        try simp only [Act.put, List.setIfInBounds_toArray, List.set_cons_zero, List.set_cons_succ, List.getElem_toArray, List.getElem_cons_succ, List.getElem_cons_zero]
        refine' wpAnyH_take (i := 7) (v := _) rfl (by kernel_rfl) (by kernel_rfl) (by kernel_rfl) (fun _ _ _ h => h) (Or.inl ⟨by rfl, ?hycw27⟩) hHeld ?restcw27
        case hycw27 => (intro w' hSw; (try dsimp only at hSw); go_simp; (try with_reducible rfl))
        try simp only [Act.put, List.setIfInBounds_toArray, List.set_cons_zero, List.set_cons_succ, List.getElem_toArray, List.getElem_cons_succ, List.getElem_cons_zero]
        refine' wpAnyH_take (i := 8) (v := _) rfl (by kernel_rfl) (by kernel_rfl) (by kernel_rfl) (fun _ _ _ h => h) (Or.inl ⟨by rfl, ?hycw28⟩) hHeld ?restcw28
        case hycw28 => (intro w' hSw; (try dsimp only at hSw); go_simp; (try with_reducible rfl))
        try simp only [Act.put, List.setIfInBounds_toArray, List.set_cons_zero, List.set_cons_succ, List.getElem_toArray, List.getElem_cons_succ, List.getElem_cons_zero]
        refine' wpAnyH_take (i := 9) (v := _) rfl (by kernel_rfl) (by kernel_rfl) (by kernel_rfl) (fun _ _ _ h => h) (Or.inl ⟨by rfl, ?hycw29⟩) hHeld ?restcw29
        case hycw29 => (intro w' hSw; (try dsimp only at hSw); go_simp; (try with_reducible rfl))
        try simp only [Act.put, List.setIfInBounds_toArray, List.set_cons_zero, List.set_cons_succ, List.getElem_toArray, List.getElem_cons_succ, List.getElem_cons_zero]
        refine' wpAnyH_take (i := 10) (v := _) rfl (by kernel_rfl) (by kernel_rfl) (by kernel_rfl) (fun _ _ _ h => h) (Or.inl ⟨by rfl, ?hycw210⟩) hHeld ?restcw210
        case hycw210 => (intro w' hSw; (try dsimp only at hSw); go_simp; (try with_reducible rfl))
        try simp only [Act.put, List.setIfInBounds_toArray, List.set_cons_zero, List.set_cons_succ, List.getElem_toArray, List.getElem_cons_succ, List.getElem_cons_zero]
        refine' wpAnyH_take (i := 11) (v := _) rfl (by kernel_rfl) (by kernel_rfl) (by kernel_rfl) (fun _ _ _ h => h) (Or.inl ⟨by rfl, ?hycw211⟩) hHeld ?restcw211
        case hycw211 => (intro w' hSw; (try dsimp only at hSw); go_simp; (try with_reducible rfl))
        try simp only [Act.put, List.setIfInBounds_toArray, List.set_cons_zero, List.set_cons_succ, List.getElem_toArray, List.getElem_cons_succ, List.getElem_cons_zero]
        refine' wpAnyH_take (i := 12) (v := _) rfl (by kernel_rfl) (by kernel_rfl) (by kernel_rfl) (fun _ _ _ h => h) (Or.inl ⟨by rfl, ?hycw212⟩) hHeld ?restcw212
        case hycw212 => (intro w' hSw; (try dsimp only at hSw); go_simp; (try with_reducible rfl))
        try simp only [Act.put, List.setIfInBounds_toArray, List.set_cons_zero, List.set_cons_succ, List.getElem_toArray, List.getElem_cons_succ, List.getElem_cons_zero]
        refine' wpAnyH_take (i := 13) (v := _) rfl (by kernel_rfl) (by kernel_rfl) (by kernel_rfl) (fun _ _ _ h => h) (Or.inl ⟨by rfl, ?hycw213⟩) hHeld ?restcw213
        case hycw213 => (intro w' hSw; (try dsimp only at hSw); go_simp; (try with_reducible rfl))
        try simp only [Act.put, List.setIfInBounds_toArray, List.set_cons_zero, List.set_cons_succ, List.getElem_toArray, List.getElem_cons_succ, List.getElem_cons_zero]
        refine wpAnyH_done (by kernel_rfl) ?_ _
        go_wp2_with fail
        go_ret
        exact ⟨by rw [HE.out] <;> rfl, HX.out.trans ((Ext.refl _).alloc _).drew⟩
      · have HE := Lib.hid (show coherentN lg ks cs t = false from coh_c HN.out (by rw [HCO.out]; rfl))
        refine wp_region_held_drew (S := fun w' => w'.cell? (⟨wq.heap.size, 0, none⟩) = some (.int .i64 (n.place : Int)) ∧ w'.cell? (⟨wq.heap.size, 4, none⟩) = some (.int .u64 (n.parts : Int))) (by kernel_rfl) ⟨(Ext.cell (p := ⟨wq.heap.size, 0, none⟩) (by repeat (first | exact Ext.refl _ | assumption | apply Ext.alloc | apply Ext.drew)) eb).trans e0, (Ext.cell (p := ⟨wq.heap.size, 4, none⟩) (by repeat (first | exact Ext.refl _ | assumption | apply Ext.alloc | apply Ext.drew)) eb).trans e4⟩ (fun hHeld => ?_)
        refine' wpAnyH_take (i := 0) (v := _) rfl (by kernel_rfl) (by kernel_rfl) (by kernel_rfl) (fun _ _ _ h => h) (Or.inl ⟨by rfl, ?hydw30⟩) hHeld ?restdw30
        case hydw30 => (intro w' hSw; (try dsimp only at hSw); go_simp; (try with_reducible rfl))
        try simp only [Act.put, List.setIfInBounds_toArray, List.set_cons_zero, List.set_cons_succ, List.getElem_toArray, List.getElem_cons_zero]
        refine' wpAnyH_take (i := 1) (v := _) rfl (by kernel_rfl) (by kernel_rfl) (by kernel_rfl) (fun _ _ _ h => h) (Or.inl ⟨by rfl, ?hydw31⟩) hHeld ?restdw31
        case hydw31 => (intro w' hSw; (try dsimp only at hSw); go_simp; (try with_reducible rfl))
        try simp only [Act.put, List.setIfInBounds_toArray, List.set_cons_zero, List.set_cons_succ, List.getElem_toArray, List.getElem_cons_succ, List.getElem_cons_zero]
        refine' wpAnyH_take (i := 2) (v := _) rfl (by kernel_rfl) (by kernel_rfl) (by kernel_rfl) (fun _ _ _ h => h) (Or.inl ⟨by rfl, ?hydw32⟩) hHeld ?restdw32
        case hydw32 => (intro w' hSw; (try dsimp only at hSw); go_simp; (try with_reducible rfl))
        try simp only [Act.put, List.setIfInBounds_toArray, List.set_cons_zero, List.set_cons_succ, List.getElem_toArray, List.getElem_cons_succ, List.getElem_cons_zero]
        refine' wpAnyH_take (i := 3) (v := _) rfl (by kernel_rfl) (by kernel_rfl) (by kernel_rfl) (fun _ _ _ h => h) (Or.inl ⟨by rfl, ?hydw33⟩) hHeld ?restdw33
        case hydw33 => (intro w' hSw; (try dsimp only at hSw); go_simp; (try with_reducible rfl))
        try simp only [Act.put, List.setIfInBounds_toArray, List.set_cons_zero, List.set_cons_succ, List.getElem_toArray, List.getElem_cons_succ, List.getElem_cons_zero]
        refine' wpAnyH_take (i := 4) (v := _) rfl (by kernel_rfl) (by kernel_rfl) (by kernel_rfl) (fun _ _ _ h => h) (Or.inl ⟨by rfl, ?hydw34⟩) hHeld ?restdw34
        case hydw34 => (intro w' hSw; (try dsimp only at hSw); go_simp; (try with_reducible rfl))
        try simp only [Act.put, List.setIfInBounds_toArray, List.set_cons_zero, List.set_cons_succ, List.getElem_toArray, List.getElem_cons_succ, List.getElem_cons_zero]
        refine' wpAnyH_take (i := 5) (v := _) rfl (by kernel_rfl) (by kernel_rfl) (by kernel_rfl) (fun _ _ _ h => h) (Or.inl ⟨by rfl, ?hydw35⟩) hHeld ?restdw35
        case hydw35 => (intro w' hSw; (try dsimp only at hSw); go_simp; (try with_reducible rfl))
        try simp only [Act.put, List.setIfInBounds_toArray, List.set_cons_zero, List.set_cons_succ, List.getElem_toArray, List.getElem_cons_succ, List.getElem_cons_zero]
        refine' wpAnyH_take (i := 6) (v := _) rfl (by kernel_rfl) (by kernel_rfl) (by kernel_rfl) (fun _ _ _ h => h) (Or.inl ⟨by rfl, ?hydw36⟩) hHeld ?restdw36
        case hydw36 => (intro w' hSw; (try dsimp only at hSw); go_simp; (try with_reducible rfl))
        try simp only [Act.put, List.setIfInBounds_toArray, List.set_cons_zero, List.set_cons_succ, List.getElem_toArray, List.getElem_cons_succ, List.getElem_cons_zero]
        refine' wpAnyH_take (i := 7) (v := _) rfl (by kernel_rfl) (by kernel_rfl) (by kernel_rfl) (fun _ _ _ h => h) (Or.inl ⟨by rfl, ?hydw37⟩) hHeld ?restdw37
        case hydw37 => (intro w' hSw; (try dsimp only at hSw); go_simp; (try with_reducible rfl))
        try simp only [Act.put, List.setIfInBounds_toArray, List.set_cons_zero, List.set_cons_succ, List.getElem_toArray, List.getElem_cons_succ, List.getElem_cons_zero]
        refine' wpAnyH_take (i := 8) (v := _) rfl (by kernel_rfl) (by kernel_rfl) (by kernel_rfl) (fun _ _ _ h => h) (Or.inl ⟨by rfl, ?hydw38⟩) hHeld ?restdw38
        case hydw38 => (intro w' hSw; (try dsimp only at hSw); go_simp; (try with_reducible rfl))
        try simp only [Act.put, List.setIfInBounds_toArray, List.set_cons_zero, List.set_cons_succ, List.getElem_toArray, List.getElem_cons_succ, List.getElem_cons_zero]
        refine' wpAnyH_take (i := 9) (v := _) rfl (by kernel_rfl) (by kernel_rfl) (by kernel_rfl) (fun _ _ _ h => h) (Or.inl ⟨by rfl, ?hydw39⟩) hHeld ?restdw39
        case hydw39 => (intro w' hSw; (try dsimp only at hSw); go_simp; (try with_reducible rfl))
        try simp only [Act.put, List.setIfInBounds_toArray, List.set_cons_zero, List.set_cons_succ, List.getElem_toArray, List.getElem_cons_succ, List.getElem_cons_zero]
        refine' wpAnyH_take (i := 10) (v := _) rfl (by kernel_rfl) (by kernel_rfl) (by kernel_rfl) (fun _ _ _ h => h) (Or.inl ⟨by rfl, ?hydw310⟩) hHeld ?restdw310
        case hydw310 => (intro w' hSw; (try dsimp only at hSw); go_simp; (try with_reducible rfl))
        try simp only [Act.put, List.setIfInBounds_toArray, List.set_cons_zero, List.set_cons_succ, List.getElem_toArray, List.getElem_cons_succ, List.getElem_cons_zero]
        refine' wpAnyH_take (i := 11) (v := _) rfl (by kernel_rfl) (by kernel_rfl) (by kernel_rfl) (fun _ _ _ h => h) (Or.inl ⟨by rfl, ?hydw311⟩) hHeld ?restdw311
        case hydw311 => (intro w' hSw; (try dsimp only at hSw); go_simp; (try with_reducible rfl))
        try simp only [Act.put, List.setIfInBounds_toArray, List.set_cons_zero, List.set_cons_succ, List.getElem_toArray, List.getElem_cons_succ, List.getElem_cons_zero]
        refine' wpAnyH_take (i := 12) (v := _) rfl (by kernel_rfl) (by kernel_rfl) (by kernel_rfl) (fun _ _ _ h => h) (Or.inl ⟨by rfl, ?hydw312⟩) hHeld ?restdw312
        case hydw312 => (intro w' hSw; (try dsimp only at hSw); go_simp; (try with_reducible rfl))
        try simp only [Act.put, List.setIfInBounds_toArray, List.set_cons_zero, List.set_cons_succ, List.getElem_toArray, List.getElem_cons_succ, List.getElem_cons_zero]
        refine' wpAnyH_take (i := 13) (v := _) rfl (by kernel_rfl) (by kernel_rfl) (by kernel_rfl) (fun _ _ _ h => h) (Or.inl ⟨by rfl, ?hydw313⟩) hHeld ?restdw313
        case hydw313 => (intro w' hSw; (try dsimp only at hSw); go_simp; (try with_reducible rfl))
        try simp only [Act.put, List.setIfInBounds_toArray, List.set_cons_zero, List.set_cons_succ, List.getElem_toArray, List.getElem_cons_succ, List.getElem_cons_zero]
        refine wpAnyH_done (by kernel_rfl) ?_ _
        go_wp2_with fail
        go_ret
        exact ⟨by rw [HE.out] <;> rfl, HX.out.trans ((Ext.refl _).alloc _).drew⟩
      · have HT := Lib.hid (show cohC t n = true by rw [HCO.out]; rfl)
        refine wp_region_held_drew (S := fun w' => w'.cell? (⟨wq.heap.size, 0, none⟩) = some (.int .i64 (n.place : Int)) ∧ w'.cell? (⟨wq.heap.size, 4, none⟩) = some (.int .u64 (n.parts : Int))) (by kernel_rfl) ⟨(Ext.cell (p := ⟨wq.heap.size, 0, none⟩) (by repeat (first | exact Ext.refl _ | assumption | apply Ext.alloc | apply Ext.drew)) eb).trans e0, (Ext.cell (p := ⟨wq.heap.size, 4, none⟩) (by repeat (first | exact Ext.refl _ | assumption | apply Ext.alloc | apply Ext.drew)) eb).trans e4⟩ (fun hHeld => ?_)
        refine' wpAnyH_take (i := 0) (v := _) rfl (by kernel_rfl) (by kernel_rfl) (by kernel_rfl) (fun _ _ _ h => h) (Or.inl ⟨by rfl, ?hyew40⟩) hHeld ?restew40
        case hyew40 => (intro w' hSw; (try dsimp only at hSw); go_simp; (try with_reducible rfl))
        try simp only [Act.put, List.setIfInBounds_toArray, List.set_cons_zero, List.set_cons_succ, List.getElem_toArray, List.getElem_cons_zero]
        refine' wpAnyH_take (i := 1) (v := _) rfl (by kernel_rfl) (by kernel_rfl) (by kernel_rfl) (fun _ _ _ h => h) (Or.inl ⟨by rfl, ?hyew41⟩) hHeld ?restew41
        case hyew41 => (intro w' hSw; (try dsimp only at hSw); go_simp; (try with_reducible rfl))
        try simp only [Act.put, List.setIfInBounds_toArray, List.set_cons_zero, List.set_cons_succ, List.getElem_toArray, List.getElem_cons_succ, List.getElem_cons_zero]
        refine' wpAnyH_take (i := 2) (v := _) rfl (by kernel_rfl) (by kernel_rfl) (by kernel_rfl) (fun _ _ _ h => h) (Or.inl ⟨by rfl, ?hyew42⟩) hHeld ?restew42
        case hyew42 => (intro w' hSw; (try dsimp only at hSw); go_simp; (try with_reducible rfl))
        try simp only [Act.put, List.setIfInBounds_toArray, List.set_cons_zero, List.set_cons_succ, List.getElem_toArray, List.getElem_cons_succ, List.getElem_cons_zero]
        refine' wpAnyH_take (i := 3) (v := _) rfl (by kernel_rfl) (by kernel_rfl) (by kernel_rfl) (fun _ _ _ h => h) (Or.inl ⟨by rfl, ?hyew43⟩) hHeld ?restew43
        case hyew43 => (intro w' hSw; (try dsimp only at hSw); go_simp; (try with_reducible rfl))
        try simp only [Act.put, List.setIfInBounds_toArray, List.set_cons_zero, List.set_cons_succ, List.getElem_toArray, List.getElem_cons_succ, List.getElem_cons_zero]
        refine' wpAnyH_take (i := 4) (v := _) rfl (by kernel_rfl) (by kernel_rfl) (by kernel_rfl) (fun _ _ _ h => h) (Or.inl ⟨by rfl, ?hyew44⟩) hHeld ?restew44
        case hyew44 => (intro w' hSw; (try dsimp only at hSw); go_simp; (try with_reducible rfl))
        try simp only [Act.put, List.setIfInBounds_toArray, List.set_cons_zero, List.set_cons_succ, List.getElem_toArray, List.getElem_cons_succ, List.getElem_cons_zero]
        refine' wpAnyH_take (i := 5) (v := _) rfl (by kernel_rfl) (by kernel_rfl) (by kernel_rfl) (fun _ _ _ h => h) (Or.inl ⟨by rfl, ?hyew45⟩) hHeld ?restew45
        case hyew45 => (intro w' hSw; (try dsimp only at hSw); go_simp; (try with_reducible rfl))
        try simp only [Act.put, List.setIfInBounds_toArray, List.set_cons_zero, List.set_cons_succ, List.getElem_toArray, List.getElem_cons_succ, List.getElem_cons_zero]
        refine' wpAnyH_take (i := 6) (v := _) rfl (by kernel_rfl) (by kernel_rfl) (by kernel_rfl) (fun _ _ _ h => h) (Or.inl ⟨by rfl, ?hyew46⟩) hHeld ?restew46
        case hyew46 => (intro w' hSw; (try dsimp only at hSw); go_simp; (try with_reducible rfl))
        try simp only [Act.put, List.setIfInBounds_toArray, List.set_cons_zero, List.set_cons_succ, List.getElem_toArray, List.getElem_cons_succ, List.getElem_cons_zero]
        refine' wpAnyH_take (i := 7) (v := _) rfl (by kernel_rfl) (by kernel_rfl) (by kernel_rfl) (fun _ _ _ h => h) (Or.inl ⟨by rfl, ?hyew47⟩) hHeld ?restew47
        case hyew47 => (intro w' hSw; (try dsimp only at hSw); go_simp; (try with_reducible rfl))
        try simp only [Act.put, List.setIfInBounds_toArray, List.set_cons_zero, List.set_cons_succ, List.getElem_toArray, List.getElem_cons_succ, List.getElem_cons_zero]
        refine' wpAnyH_take (i := 8) (v := _) rfl (by kernel_rfl) (by kernel_rfl) (by kernel_rfl) (fun _ _ _ h => h) (Or.inl ⟨by rfl, ?hyew48⟩) hHeld ?restew48
        case hyew48 => (intro w' hSw; (try dsimp only at hSw); go_simp; (try with_reducible rfl))
        try simp only [Act.put, List.setIfInBounds_toArray, List.set_cons_zero, List.set_cons_succ, List.getElem_toArray, List.getElem_cons_succ, List.getElem_cons_zero]
        refine' wpAnyH_take (i := 9) (v := _) rfl (by kernel_rfl) (by kernel_rfl) (by kernel_rfl) (fun _ _ _ h => h) (Or.inl ⟨by rfl, ?hyew49⟩) hHeld ?restew49
        case hyew49 => (intro w' hSw; (try dsimp only at hSw); go_simp; (try with_reducible rfl))
        try simp only [Act.put, List.setIfInBounds_toArray, List.set_cons_zero, List.set_cons_succ, List.getElem_toArray, List.getElem_cons_succ, List.getElem_cons_zero]
        refine' wpAnyH_take (i := 10) (v := _) rfl (by kernel_rfl) (by kernel_rfl) (by kernel_rfl) (fun _ _ _ h => h) (Or.inl ⟨by rfl, ?hyew410⟩) hHeld ?restew410
        case hyew410 => (intro w' hSw; (try dsimp only at hSw); go_simp; (try with_reducible rfl))
        try simp only [Act.put, List.setIfInBounds_toArray, List.set_cons_zero, List.set_cons_succ, List.getElem_toArray, List.getElem_cons_succ, List.getElem_cons_zero]
        refine' wpAnyH_take (i := 11) (v := _) rfl (by kernel_rfl) (by kernel_rfl) (by kernel_rfl) (fun _ _ _ h => h) (Or.inl ⟨by rfl, ?hyew411⟩) hHeld ?restew411
        case hyew411 => (intro w' hSw; (try dsimp only at hSw); go_simp; (try with_reducible rfl))
        try simp only [Act.put, List.setIfInBounds_toArray, List.set_cons_zero, List.set_cons_succ, List.getElem_toArray, List.getElem_cons_succ, List.getElem_cons_zero]
        refine' wpAnyH_take (i := 12) (v := _) rfl (by kernel_rfl) (by kernel_rfl) (by kernel_rfl) (fun _ _ _ h => h) (Or.inl ⟨by rfl, ?hyew412⟩) hHeld ?restew412
        case hyew412 => (intro w' hSw; (try dsimp only at hSw); go_simp; (try with_reducible rfl))
        try simp only [Act.put, List.setIfInBounds_toArray, List.set_cons_zero, List.set_cons_succ, List.getElem_toArray, List.getElem_cons_succ, List.getElem_cons_zero]
        refine' wpAnyH_take (i := 13) (v := _) rfl (by kernel_rfl) (by kernel_rfl) (by kernel_rfl) (fun _ _ _ h => h) (Or.inl ⟨by rfl, ?hyew413⟩) hHeld ?restew413
        case hyew413 => (intro w' hSw; (try dsimp only at hSw); go_simp; (try with_reducible rfl))
        try simp only [Act.put, List.setIfInBounds_toArray, List.set_cons_zero, List.set_cons_succ, List.getElem_toArray, List.getElem_cons_succ, List.getElem_cons_zero]
        refine wpAnyH_done (by kernel_rfl) ?_ _
        go_wp2_with fail
        go_roundw
        case rel => exact ⟨k + 1, by go_num, by omega, Lib.hid ⟨HX.out.trans ((Ext.refl _).alloc _).drew, HNEXT.out HT.out⟩⟩
        case measure => simp [intOf]; omega
    · obtain rfl : cs.length = k := by omega
      have HJC := Lib.hid HJ.out
      have HXC := Lib.hid HX.out
      have dw3 := (HX.out.cell (p := ⟨b, 3, none⟩) hbl).trans D3.out
      clear HJ HX
      obtain ⟨w1, hw1⟩ : ∃ v, v = wr := ⟨_, rfl⟩
      subst hw1
      go_wp2_with fail
      clear dw3
      go_loopw [38] (fun v wr => ∃ k : Nat, v = .int .i64 (k : Int) ∧ k ≤ ks.length ∧ Hid (Ext w wr ∧ ∀ (j : Nat) (c : Kn), j < k → ks[j]? = some c → cohK lg t c = true)) (fun v _ => ks.length - (intOf v).toNat)
      case atStart => exact ⟨0, rfl, Nat.zero_le _, Lib.hid ⟨HXC.out, fun j n hj => absurd hj (by omega)⟩⟩
      case round =>
        obtain ⟨k, rfl, hk, HREL⟩ := hrel
        have HX := Lib.hid HREL.out.1
        have HJ := Lib.hid HREL.out.2
        clear HREL
        by_cases hlt2 : k < ks.length
        · have hk1 : (k : Int) < (ks.length : Int) := by omega
          obtain ⟨n, hn⟩ : ∃ n, ks[k]? = some n := ⟨_, List.getElem?_eq_getElem hlt2⟩
          obtain ⟨hpl, hhl⟩ := HKS.out n (List.mem_of_getElem? hn)
          obtain ⟨ad, rfl, hblk, hat⟩ := kn_get HK.out hn
          obtain ⟨vh, c0, c1, c2, hbo⟩ := hat.ext HX.out (by rw [block_of_add]; exact hblk)
          obtain ⟨Ah, ch, rfl, hbo⟩ := hbo
          have hhc := hbo.1
          have hch := hbo.2.1
          unfold maxLen at hch
          obtain ⟨ah, rfl, hhb, hcell⟩ := bools_get hbo hhl
          have hblk2 : (ad.add (k * 3)).block < wr.heap.size := by rw [block_of_add]; exact Nat.lt_of_lt_of_le hblk HX.out.size
          have hhb2 : (ah.add t).block < wr.heap.size := by rw [block_of_add]; exact hhb
          have hlen1 : (t : Int) < (n.holds.length : Int) := by omega
          have dl0 := (HX.out.cell (p := ⟨b, 0, none⟩) hbl).trans D0.out
          have hbl2 : b < wr.heap.size := Nat.lt_of_lt_of_le hbl HX.out.size
          have HN := Lib.hid hn
          have HNEXT := Lib.hid (show cohK lg t n = true → ∀ (j : Nat) (m : Kn), j < k + 1 → ks[j]? = some m → cohK lg t m = true from fun hc j m hj hm => by
            by_cases e : j < k
            · exact HJ.out j m e hm
            · have : j = k := by omega
              subst this
              rw [hn] at hm
              injection hm with hm
              rw [← hm]; exact hc)
          have hb1 := shr_and_one t n.place (by omega)
          obtain ⟨ph, hph⟩ : ∃ x, x = n.holds.getD t false := ⟨_, rfl⟩
          obtain ⟨p1, hp1⟩ : ∃ x, x = t.testBit n.place := ⟨_, rfl⟩
          obtain ⟨pr, hpr⟩ : ∃ x, x = reflN lg := ⟨_, rfl⟩
          have HCO := Lib.hid (show cohK lg t n = !(pr && (p1 && !ph)) by rw [hph, hp1, hpr]; rfl)
          have HRF := Lib.hid (show ∀ W, W.cell? ⟨b, 0, none⟩ = some (.int .i64 lg) → Calls Try.prog 97 #[.pointer (some ⟨b, 0, none⟩)] W fun e w' => e = .returned (.bool pr) ∧ W = w' from fun W hW => hpr ▸ reflexive_any b lg W hW)
          rw [← hph] at hcell
          rw [← hp1] at hb1
          clear hn hat hbo hph hp1 hpr
          obtain ⟨wq, hwq⟩ : ∃ v, v = wr := ⟨_, rfl⟩
          subst hwq
          cases pr
          · go_wp2_with fail
            refine (HRF.out _ ((((Ext.refl wq).alloc _).cell (p := ⟨b, 0, none⟩) hbl2).trans dl0)).mono ?_
            rintro e w3 ⟨rfl, rfl⟩
            go_wp2_with fail
            go_roundw
            case rel => exact ⟨k + 1, by go_num, by omega, Lib.hid ⟨HX.out.trans ((Ext.refl _).alloc _), HNEXT.out (by rw [HCO.out]; rfl)⟩⟩
            case measure => simp [intOf]; omega
          · cases p1
            · go_wp2_with fail
              refine (HRF.out _ ((((Ext.refl wq).alloc _).cell (p := ⟨b, 0, none⟩) hbl2).trans dl0)).mono ?_
              rintro e w3 ⟨rfl, rfl⟩
              go_wp2_with fail
              go_roundw
              case rel => exact ⟨k + 1, by go_num, by omega, Lib.hid ⟨HX.out.trans ((Ext.refl _).alloc _), HNEXT.out (by rw [HCO.out]; rfl)⟩⟩
              case measure => simp [intOf]; omega
            · cases ph
              · have HE := Lib.hid (show coherentN lg ks cs t = false from coh_k HN.out (by rw [HCO.out]; rfl))
                go_wp2_with fail
                refine (HRF.out _ ((((Ext.refl wq).alloc _).cell (p := ⟨b, 0, none⟩) hbl2).trans dl0)).mono ?_
                rintro e w3 ⟨rfl, rfl⟩
                go_wp2_with fail
                go_ret
                exact ⟨by rw [HE.out] <;> rfl, HX.out.trans ((Ext.refl _).alloc _)⟩
              · go_wp2_with fail
                refine (HRF.out _ ((((Ext.refl wq).alloc _).cell (p := ⟨b, 0, none⟩) hbl2).trans dl0)).mono ?_
                rintro e w3 ⟨rfl, rfl⟩
                go_wp2_with fail
                go_roundw
                case rel => exact ⟨k + 1, by go_num, by omega, Lib.hid ⟨HX.out.trans ((Ext.refl _).alloc _), HNEXT.out (by rw [HCO.out]; rfl)⟩⟩
                case measure => simp [intOf]; omega
        · obtain rfl : ks.length = k := by omega
          have HE := Lib.hid (coh_all HJC.out HJ.out)
          go_wp2_with fail
          go_ret
          exact ⟨by rw [HE.out] <;> rfl, HX.out⟩
end Go.Proofs.Ytjonmmgpnfgomaa

/- types' circuitOf: the walk. -/

namespace Go.Proofs.Ytjonmmgpnfgomaa
open Go.RowKit

theorem tInfoI : (Try.prog.info? 3).map (fun i => (i.zero, i.size, i.bytes)) = some (some (.int .i64 0), 1, 8) := by kernel_rfl
/-- The circuit while its places are laid. -/
structure Cir (w wr : World) (B : Nat) (vf vo : Value) (out : List Int) : Prop where
  ext : Ext w wr
  blk : wr.heap[B]? = some (.cells #[vf, vo] 105 (0, 0))
  row : wr.ownsRow (B + 1) 3 1 vo out.length (out.map (Value.int .i64))
  res : wr.heap[B - 1]? = some (.cells #[.slice none 0 0, .slice none 0 0] 105 (0, 0))
section
variable {w wr : World} {B : Nat} {vf vo : Value} {out : List Int}
theorem Cir.next {w4 : World} (h : Cir w wr B vf vo out) (he : Ext wr w4) : Cir w w4 B vf vo out :=
  ⟨h.ext.trans he, (he.block (lt_heap h.blk)).trans h.blk, row_ext h.row he, (he.block (lt_heap h.res)).trans h.res⟩
theorem Cir.push {w7 : World} {v7 : Value} {z : Int} (h : Cir w wr B vf vo out) (hB : w.heap.size < B)
    (hown : w7.ownsRow (B + 1) 3 1 v7 (out.length + 1) (out.map (Value.int .i64) ++ [.int .i64 z])) (hg : wr.grownBy w7 vo.ownBlock) :
    Cir w (w7.setCell ⟨B, 1, none⟩ v7) B vf v7 (out ++ [z]) := by
  have hvo : ∀ g, vo.ownBlock = some g → B + 1 ≤ g := fun g hg' => (h.row.lt g hg').1
  have hb : w7.heap[B]? = wr.heap[B]? := hg.block B (lt_heap h.blk) (fun e => by have := hvo B e.symm; omega)
  have hv7 : v7.ownBlock ≠ some B := fun e => by have := (hown.lt B e).1; omega
  refine ⟨(h.ext.grown hg (fun g hg' => by have := hvo g hg'; omega)).setCell (Nat.le_of_lt hB) _, set_second (hb.trans h.blk) v7, ?_, ?_⟩
  · have hr : w7.ownsRow (B + 1) 3 1 v7 (out ++ [z]).length ((out ++ [z]).map (Value.int .i64)) := by
      rw [List.length_append, List.map_append]
      exact hown
    exact ownsRow_setCell_other (a := ⟨B, 1, none⟩) hr hv7 _
  · rw [Below.heap_setCell _ _ _ _ (show B - 1 ≠ B by omega), hg.block _ (lt_heap h.res) (fun e => by have := hvo _ e.symm; omega)]
    exact h.res
end
theorem places_step {base : List (List Nd)} {f : List Nd} {k : Nat} {n : Nd} (hn : f[k]? = some n) : (placesN base f).take (k + 1) = (placesN base f).take k ++ [bif isBase n then placeN base (subN f (k : Int)) else -1] := take_succ_eq (places_get hn)
set_option maxRecDepth 100000 in
set_option maxHeartbeats 8000000 in
theorem circuitOf_any (vb vf : Value) (base : List (List Nd)) (f : List Nd) (w : World) (hb : Fmls w vb base) (hf : Fml w vf f) (hl : f.length ≤ 200) :
    Calls Try.prog 95 #[vb, vf] w fun e w' => ∃ ui, e = .returned (.agg #[vf, ui]) ∧ Ext w w' ∧ Ints w' ui (placesN base f) := by
  have HB := Lib.hid hb
  have HF := Lib.hid hf
  obtain ⟨iI, hiI, hzI0, hzI1, hzI2⟩ := info_parts tInfoI
  obtain ⟨Ab, cb, rfl, _⟩ := hb
  obtain ⟨⟨Af, cf, rfl, hcap, hmax, hread⟩, hok⟩ := hf
  unfold maxLen at hmax
  have HREAD := Lib.hid hread
  clear hread hok
  go_enter Try.func95, Try.ntmps95
  go_wp2_with fail
  go_loopw [13] (fun vi wr => ∃ k : Nat, vi = .int .i64 (k : Int) ∧ k ≤ f.length ∧ Hid (∃ vo out, out = (placesN base f).take k ∧ Cir w wr (w.heap.size + 1) (.slice Af f.length cf) vo out)) (fun v _ => f.length - (intOf v).toNat)
  case atStart => exact ⟨0, rfl, Nat.zero_le _, Lib.hid ⟨.slice none 0 0, [], rfl, ((Ext.refl _).alloc _).alloc _, (by have := heap_alloc_new (w.alloc (.cells #[.slice none 0 0, .slice none 0 0] 105)) (.cells #[.slice Af f.length cf, .slice none 0 0] 105); simpa using this), World.ownsRow_nil _ _ _ _, (((Ext.refl _).alloc _).block (by simp)).trans (heap_alloc_new _ _)⟩⟩
  case round =>
    obtain ⟨k, rfl, hk, HREL⟩ := hrel
    obtain ⟨vo, out, hol, hcir⟩ := HREL.out
    have HOL := Lib.hid hol
    have HC := Lib.hid hcir
    obtain ⟨Ao, co, rfl⟩ := slice_of_row hcir.row
    have hol2 : out.length ≤ 200 := by rw [hol, List.length_take]; omega
    obtain ⟨d0, d1, df, dl⟩ := cells2 hcir.blk
    clear HREL hol hcir
    by_cases hlt2 : k < f.length
    · have hk1 : (k : Int) < (f.length : Int) := by omega
      obtain ⟨n, hn⟩ : ∃ n, f[k]? = some n := ⟨_, List.getElem?_eq_getElem hlt2⟩
      obtain ⟨ad, rfl, hblk, hcells⟩ := HREAD.out (by intro e; rw [e] at hlt2; simp at hlt2)
      obtain ⟨c0, c1, c2, c3, c4, c5⟩ := (hcells k n hn).keep fun p hp => HC.out.ext.cell (p := p) (by rw [hp, block_of_add]; exact hblk)
      have hblk2 : (ad.add (k * 6)).block < wr.heap.size := by rw [block_of_add]; exact Nat.lt_of_lt_of_le hblk HC.out.ext.size
      have HN := Lib.hid hn
      clear hn hcells
      obtain ⟨wq, hwq⟩ : ∃ v, v = wr := ⟨_, rfl⟩
      subst hwq
      have hc3 : out.length + 1 ≤ maxLen := by unfold maxLen; omega
      have hc4 : (out.length + 1) * 8 ≤ 140737488355328 := by omega
      have HX0 := Lib.hid (show Ext wq (wq.alloc (.cells #[.int .i64 n.op, .int .i64 n.i, .int .i64 n.e, .int .i64 n.g, .int .i64 n.x, .int .i64 n.y] 52)) from (Ext.refl _).alloc _)
      rcases base_cases n with hop | ⟨t3, t9, t13⟩
      · have HBB := Lib.hid (show (bif isBase n then placeN base (subN f (k : Int)) else -1) = placeN base (subN f (k : Int)) by rw [show isBase n = true by unfold isBase; rcases hop with e | e | e <;> rw [e] <;> rfl]; rfl)
        have HTT := Lib.hid (show ((n.op == 3) = true) ∨ ((n.op == 3) = false ∧ (n.op == 9) = true) ∨ ((n.op == 3) = false ∧ (n.op == 9) = false ∧ (n.op == 13) = true) by rcases hop with e | e | e <;> rw [e] <;> simp)
        clear hop
        rcases HTT.out with t3 | ⟨t3, t9⟩ | ⟨t3, t9, t13⟩
        all_goals
          go_wp2_with fail
          refine (sub_any _ f (k : Int) _ (HF.out.ext (HC.out.ext.trans HX0.out))).mono ?_
          rintro e w2 ⟨u2, rfl, hm2⟩
          have HM2 := Lib.hid hm2
          clear hm2
          go_wp2_with fail
          refine (index_any _ _ base _ _ (HB.out.ext (HC.out.ext.trans (HX0.out.trans HM2.out.ext))) HM2.out.fml).mono ?_
          rintro e w3 ⟨rfl, hx3⟩
          have HC4 := Lib.hid (HC.out.next (HX0.out.trans (HM2.out.ext.trans hx3)))
          obtain ⟨q0, q1, qf, qb⟩ := cells2 HC4.out.blk
          clear hx3 d0 d1 df dl
          go_wp2_with (at_builtin; refine wpList_append_own_at _ rfl _ _ 47 rfl (w.heap.size + 1 + 1) 3 iI (.int .i64 0) 1 8 Try.underlying47 hiI hzI0 hzI1 hzI2 rfl (by decide) _ out.length (out.map (Value.int .i64)) rfl (HC4.out.next ((Ext.refl _).alloc _)).row ⟨_, 0, none⟩ 1 1 [.int .i64 (placeN base (subN f (k : Int)))] rfl rfl (row_new_at _ _ _ (by simp)) (fun u hu => by rw [List.mem_singleton.1 hu]; rfl) hc3 hc4 (by have := qb; simp; omega) ?_)
          intro v7 w7 hown7 hgrow7 _ hat7
          obtain ⟨d0, d1, df, dl⟩ := cells2 ((hgrow7.block (w.heap.size + 1) (by simp; omega) (fun e => by have := (HC4.out.row.lt _ e.symm).1; omega)).trans ((HC4.out.next ((Ext.refl _).alloc (.cells #[.int .i64 (placeN base (subN f (k : Int)))] 3))).blk))
          have HP := Lib.hid (Cir.push (HC4.out.next ((Ext.refl _).alloc _)) (by omega) hown7 hgrow7)
          obtain ⟨A7, c7, rfl⟩ := slice_of_row hown7
          clear hown7 hgrow7 hat7
          go_wp2_with fail
          go_roundw
          case rel => exact ⟨k + 1, by go_num, by omega, Lib.hid ⟨_, _, by rw [places_step HN.out, ← HOL.out, HBB.out], HP.out⟩⟩
          case measure => simp [intOf]; omega
      · have HBB := Lib.hid (show (bif isBase n then placeN base (subN f (k : Int)) else -1) = -1 by rw [show isBase n = false by unfold isBase; rw [t3, t9, t13]; rfl]; rfl)
        have HC4 := Lib.hid (HC.out.next HX0.out)
        have qb := lt_heap HC4.out.blk
        go_wp2_with (at_builtin; refine wpList_append_own_at _ rfl _ _ 47 rfl (w.heap.size + 1 + 1) 3 iI (.int .i64 0) 1 8 Try.underlying47 hiI hzI0 hzI1 hzI2 rfl (by decide) _ out.length (out.map (Value.int .i64)) rfl (HC4.out.next ((Ext.refl _).alloc _)).row ⟨_, 0, none⟩ 1 1 [.int .i64 (-1)] rfl rfl (row_new_at _ _ _ (by simp)) (fun u hu => by rw [List.mem_singleton.1 hu]; rfl) hc3 hc4 (by have := qb; simp; omega) ?_)
        intro v7 w7 hown7 hgrow7 _ hat7
        obtain ⟨q0, q1, qf, ql⟩ := cells2 ((hgrow7.block (w.heap.size + 1) (by simp; omega) (fun e => by have := (HC4.out.row.lt _ e.symm).1; omega)).trans ((HC4.out.next ((Ext.refl _).alloc (.cells #[.int .i64 (-1)] 3))).blk))
        have HP := Lib.hid (Cir.push (HC4.out.next ((Ext.refl _).alloc _)) (by omega) hown7 hgrow7)
        obtain ⟨A7, c7, rfl⟩ := slice_of_row hown7
        clear hown7 hgrow7 hat7
        go_wp2_with fail
        go_roundw
        case rel => exact ⟨k + 1, by go_num, by omega, Lib.hid ⟨_, _, by rw [places_step HN.out, ← HOL.out, HBB.out], HP.out⟩⟩
        case measure => simp [intOf]; omega
    · obtain rfl : f.length = k := by omega
      have HR := Lib.hid (show wr.heap[w.heap.size]? = some (.cells #[.slice none 0 0, .slice none 0 0] 105 (0, 0)) by have := HC.out.res; rw [Nat.add_sub_cancel] at this; exact this)
      obtain ⟨r0, r1, rf, rl⟩ := cells2 HR.out
      have HE := Lib.hid (show out = placesN base f by rw [HOL.out, List.take_of_length_le (by rw [places_len]; exact Nat.le_refl _)])
      have HS := Lib.hid (set_second (set_first HR.out (.slice Af f.length cf)) (.slice Ao out.length co))
      go_wp2_with fail
      (try simp only [Exit.inBlock, Exit.then])
      refine bodyPost_ret (results_cell Try.results95 _ _ rfl (range_of HS.out) Try.underlying105 rfl (by kernel_rfl)) rfl ?_
      have hne : (Value.slice Ao out.length co).ownBlock ≠ some w.heap.size := fun e => by have := (HC.out.row.lt _ e).1; omega
      exact ⟨_, rfl, (HC.out.ext.setCell (by simp) _).setCell (by simp) _, by rw [← HE.out]; exact ints_of_row (ownsRow_setCell_other (a := ⟨w.heap.size, 1, none⟩) (ownsRow_setCell_other (a := ⟨w.heap.size, 0, none⟩) HC.out.row hne _) hne _)⟩
end Go.Proofs.Ytjonmmgpnfgomaa
