/- CountermodelNumbers: numbered models are the specified ones, or the specified error is returned; and different numbers give different models: for every size and numbers. -/
import Derived.Below
import Derived.BigQuiet
import Derived.ChangeSame
import Derived.Deep.AppendLies
import Derived.Deep.Cut
import Derived.Deep.CutBlock
import Derived.Deep.DeepCutAuto
import Derived.Deep.Draws
import Derived.Deep.Fields
import Derived.Deep.MidRow
import Derived.Deep.QuietTactic
import Derived.Deep.RegionHeld
import Derived.Deep.RegionHeld3
import Derived.Deep.RegionLaw
import Derived.Deep.RegionWith
import Derived.Deep.Slices
import Derived.DeepKeys4
import Derived.LaidMore
import Derived.Laws.Bits64b
import Derived.Laws.BitsAllLaws
import Derived.Laws.BitsLemmas
import Derived.Laws.EntriesVeiled
import Derived.Laws.IdiomArrays
import Derived.Laws.OwnMore
import Derived.Laws.StructEq
import Derived.Laws.Tables
import Derived.Lib.BitFns
import Derived.Lib.Hide
import Derived.Lib.Slices
import Derived.Lib.Small
import Derived.Lib.SmallJoins
import Derived.Lib.Strings
import Derived.Lib.Walk
import Derived.LoopIn
import Derived.LoopNIn
import Derived.MakeChecks
import Derived.Maps.AppendAt
import Derived.Maps.OwnOps
import Derived.Maps.OwnSet
import Derived.OneCell
import Derived.OpenShut
import Derived.OrdersHeld
import Derived.OrdersIn
import Derived.Outline
import Derived.OwnWalkIn
import Derived.ProofKit
import Derived.RangeFuncBox
import Derived.RangeFuncCalls
import Derived.RangeFuncFrom
import Derived.RangeFuncLeaves
import Derived.RegionTactic
import Derived.SevenTiedAt
import Derived.Shelf.Abstract
import Derived.Shelf.RegionOpen
import Derived.Stop.Joined
import Derived.TacticsInMore
import Derived.Test.YtkmclcmnoicagaaGreatDoorM01
import Derived.Test.YtkmclcmnoicagaaGreatDoorM02
import Derived.Test.YtkmclcmnoicagaaGreatDoorM03
import Derived.Test.YtkmclcmnoicagaaGreatDoorM04
import Derived.Test.YtkmclcmnoicagaaGreatDoorM05
import Derived.Test.YtkmclcmnoicagaaGreatDoorM06
import Derived.Test.YtkmclcmnoicagaaGreatDoorM07
import Derived.Test.YtkmclcmnoicagaaGreatDoorM08
import Derived.Test.YtkmclcmnoicagaaGreatDoorM09
import Derived.Test.YtkmclcmnoicagaaGreatDoorM10
import Derived.Test.YtkmclcmnoicagaaGreatDoorM11
import Derived.Test.YtkmclcmnoicagaaGreatDoorM12
import Derived.Test.YtkmclcmnoicagaaGreatDoorM13
import Derived.Test.YtkmclcmnoicagaaGreatDoorM14
import Derived.Test.YtkmclcmnoicagaaGreatDoorM15
import Derived.Test.YtkmclcmnoicagaaGreatDoorM16
import Derived.Test.YtkmclcmnoicagaaGreatDoorM17
import Derived.Test.YtkmclcmnoicagaaGreatDoorM18
import Derived.Test.YtkmclcmnoicagaaGreatDoorM19
import Derived.Test.YtkmclcmnoicagaaGreatDoorM20
import Derived.Test.YtkmclcmnoicagaaGreatDoorM21
import Derived.Test.YtkmclcmnoicagaaGreatDoorM22
import Derived.Test.YtkmclcmnoicagaaGreatDoorM23
import Derived.Test.YtkmclcmnoicagaaGreatDoorM24
import Derived.Test.YtkmclcmnoicagaaGreatDoorM25
import Derived.Test.YtkmclcmnoicagaaGreatDoorM26
import Derived.Test.YtkmclcmnoicagaaGreatDoorM27
import Derived.Test.YtkmclcmnoicagaaGreatDoorM28
import Derived.Test.YtkmclcmnoicagaaGreatDoorM29
import Derived.Test.YtkmclcmnoicagaaGreatDoorM30
import Derived.Test.YtkmclcmnoicagaaGreatDoorM31
import Derived.Test.YtkmclcmnoicagaaGreatDoorM32
import Derived.Test.YtkmclcmnoicagaaGreatDoorM33
import Derived.Test.YtkmclcmnoicagaaGreatDoorM34
import Derived.Test.YtkmclcmnoicagaaGreatDoorM35
import Derived.Test.YtkmclcmnoicagaaGreatDoorM36
import Derived.Test.YtkmclcmnoicagaaGreatDoorM37
import Derived.Test.YtkmclcmnoicagaaGreatDoorM38
import Derived.Test.YtkmclcmnoicagaaGreatDoorM39
import Derived.Test.YtkmclcmnoicagaaGreatDoorM40
import Derived.Test.YtkmclcmnoicagaaGreatDoorM41
import Derived.Test.YtkmclcmnoicagaaGreatDoorM42
import Derived.Test.YtkmclcmnoicagaaGreatDoorM43
import Derived.Test.YtkmclcmnoicagaaGreatDoorM44
import Derived.Test.YtkmclcmnoicagaaGreatDoorM45
import Derived.Test.YtkmclcmnoicagaaGreatDoorM46
import Derived.Test.YtkmclcmnoicagaaGreatDoorM47
import Derived.Test.YtkmclcmnoicagaaGreatDoorM48
import Derived.Test.YtkmclcmnoicagaaGreatDoorM49
import Derived.Test.YtkmclcmnoicagaaGreatDoorM50
import Derived.WalkKit
import Derived.WalkLawsBesides
import Derived.WalkSpells
namespace Go.Proofs.YtkmclcmnoicagaaGreatDoor
open Go.RowKit
section
open Go.ChangeShapes Go.WideShapes Go.ChangeAt Go.RowKit Go.Deep Go.Joins

section
variable {H : Type} {enc : TypeId × Value → H} {w : World} {spare : Nat → Bool} {held : Bool}
set_option maxRecDepth 100000 in
theorem q3_of_arg {r : Reach} {b0 : Nat} {v : Value} {d : DataW H} {p : List MemPlace} (hv : Value.okWide Tryz.prog w r b0 59 v) (h : DataW.Trod enc Tryz.prog w 0 spare held 59 v d p) : ∃ a b c, v = .agg #[.int .i64 a, .int .i64 b, .int .i64 c] := by
  have hs : ∃ cs, v = .agg cs ∧ cs.size = Tryz.prog.cellsOf 59 := by
    simp only [Value.okWide, Tryz.underlying59] at hv
    obtain ⟨cs, h1, h2, _⟩ := hv
    exact ⟨cs, h1, h2⟩
  obtain ⟨cs, rfl, hsz⟩ := hs
  obtain ⟨c0, c1, c2, rfl⟩ := array3 (hsz.trans (show Tryz.prog.cellsOf 59 = 3 by kernel_rfl))
  obtain ⟨fuel, hf⟩ := h
  obtain ⟨y0, y1, y2, n, _, h0, h1, h2⟩ := trod_array3 Tryz.underlying59 (show Tryz.prog.cellsOf 3 = 1 by kernel_rfl) (c0 := c0) (c1 := c1) (c2 := c2) (by simpa [Value.cells] using hf)
  obtain ⟨a, rfl, _⟩ := Gf h0
  obtain ⟨b, rfl, _⟩ := Gf h1
  obtain ⟨c, rfl, _⟩ := Gf h2
  exact ⟨a, b, c, rfl⟩
end
end
section
/-- Different numbers give different models. -/
theorem num_inj {n a v k l : Nat} (hn : 1 ≤ n) (hk : k < 2 ^ Jo n a v) (hl : l < 2 ^ Jo n a v) (h : Ur n a v k = Ur n a v l) : k = l := by
  have hval : (List.range v).map (fun j => Xl n k j) = (List.range v).map (fun j => Xl n l j) := congrArg Md.val h
  have hrel : (List.range a).map (fun i => (List.range n).map fun u => Xl n k (v + (n * i + u))) = (List.range a).map (fun i => (List.range n).map fun u => Xl n l (v + (n * i + u))) := congrArg Md.rel h
  have hd : ∀ j, j < v + n * a → Xl n k j = Xl n l j := fun j hj => by
    by_cases hv : j < v
    · exact List.map_inj_left.1 hval j (List.mem_range.2 hv)
    · have hi : (j - v) / n < a := by rw [Nat.div_lt_iff_lt_mul hn, Nat.mul_comm]; omega
      have h1 := List.map_inj_left.1 hrel _ (List.mem_range.2 hi)
      have h2 := List.map_inj_left.1 h1 ((j - v) % n) (List.mem_range.2 (Nat.mod_lt _ hn))
      rw [Nat.div_add_mod, show v + (j - v) = j by omega] at h2
      exact h2
  refine Nat.eq_of_testBit_eq fun p => ?_
  by_cases hp : p < Jo n a v
  · have hj : p / n < v + n * a := by
      rw [Nat.div_lt_iff_lt_mul hn, Nat.add_mul, Nat.mul_comm v n, Nat.mul_right_comm]
      exact hp
    have h1 := congrArg (fun z => z.testBit (p % n)) (hd _ hj)
    simp only [Qey, decide_eq_true (Nat.mod_lt p hn), Bool.true_and, Nat.div_add_mod] at h1
    exact h1
  · rw [Nat.testBit_lt_two_pow (Nat.lt_of_lt_of_le hk (Nat.pow_le_pow_right (by decide) (by omega))), Nat.testBit_lt_two_pow (Nat.lt_of_lt_of_le hl (Nat.pow_le_pow_right (by decide) (by omega)))]
end
section
open Go.RowKit

theorem key4 {α β : World → Nat → Nat → Nat → Prop} {E : World → Prop} {goal : Prop} (main : (∀ y a b c, E y → α y a b c → β y a b c) → goal) (key : ∀ y a b c, E y → α y a b c → β y a b c) : goal := main key
end
section
open Go.RowKit

def ptsK (s k : Nat) : List Nat := (List.range k).filter fun i => s.testBit i
end
section
open Go.RowKit

set_option maxRecDepth 100000 in
set_option maxHeartbeats 4000000 in
theorem bits48_any (n a v : Nat) (hn : n ≤ 64) (ha : a ≤ 4) (hv : v ≤ 8) (w : World) :
    Calls Tryz.prog 92 #[.int .i64 (n : Int), .int .i64 (a : Int), .int .i64 (v : Int)] w fun e w' => e = .returned (.int .i64 ((Jo n a v : Nat) : Int)) ∧ w = w' := by
  obtain ⟨b1, b2, b3⟩ := Ql7 hn ha hv
  obtain ⟨p, hp⟩ : ∃ z, z = n * v := ⟨_, rfl⟩
  obtain ⟨q, hq⟩ : ∃ z, z = n * n := ⟨_, rfl⟩
  obtain ⟨r, hr⟩ : ∃ z, z = n * n * a := ⟨_, rfl⟩
  rw [← hp] at b1
  rw [← hq] at b2
  rw [← hr] at b3
  have f1 : wrap64 ((n : Int) * (v : Int)) = (p : Int) := by
    rw [show (n : Int) * (v : Int) = ((n * v : Nat) : Int) by simp, ← hp]; exact Tc (by omega)
  have f2 : wrap64 ((n : Int) * (n : Int)) = (q : Int) := by
    rw [show (n : Int) * (n : Int) = ((n * n : Nat) : Int) by simp, ← hq]; exact Tc (by omega)
  have f3 : wrap64 ((q : Int) * (a : Int)) = (r : Int) := by
    rw [show (q : Int) * (a : Int) = ((q * a : Nat) : Int) by simp, hq, ← hr]; exact Tc (by omega)
  have HL := Lib.hid (show p + r = Jo n a v by rw [hp, hr]; rfl)
  clear hn ha hv hp hq hr
  go_enter Tryz.func92, Tryz.ntmps92
  go_wp2_with fail
  go_ret
  exact ⟨by rw [← HL.out] <;> first | rfl | simp, rfl⟩
theorem rem_nat (x y : Nat) : ((x : Nat) : Int).tmod ((y : Nat) : Int) = ((x % y : Nat) : Int) := rfl
set_option maxRecDepth 100000 in
set_option maxHeartbeats 64000000 in
theorem numbered13_ok (N A V K : Nat) (w : World) (hN1 : 1 ≤ N) (hN : N ≤ 64) (hA : A ≤ 4) (hV : V ≤ 8) (hL : Jo N A V ≤ 12) (hKL : K < 2 ^ Jo N A V) :
    Calls Tryz.prog 35 #[.int .i64 (N : Int), .int .i64 (A : Int), .int .i64 (V : Int), .int .i64 (K : Int)] w fun e w' => ∃ u, e = .returned (.tuple #[u, .int .i64 0]) ∧ Ext w w' ∧ Frz (fun q => q < w.heap.size) w' (fun W => MdV W u (Ur N A V K)) := by
  obtain ⟨iU, hiU, hzU0, hzU1, hzU2⟩ := info_parts Ej
  obtain ⟨iS, hiS, hzS0, hzS1, hzS2⟩ := info_parts Qbh
  obtain ⟨W0, hW0⟩ : ∃ W, W = w.alloc (.cells #[.int .i64 0, .slice none 0 0, .slice none 0 0] 26) := ⟨_, rfl⟩
  have X0 := Lib.hid (show Ext w W0 by rw [hW0]; exact (Ext.refl _).alloc _)
  obtain ⟨b, hb⟩ : ∃ b, b = w.heap.size := ⟨_, rfl⟩
  have B0 := Lib.hid (show W0.heap[b]? = some (.cells #[.int .i64 0, .slice none 0 0, .slice none 0 0] 26 (0, 0)) by rw [hW0, hb]; exact heap_alloc_new _ _)
  have HLO := Lib.hid (show w.heap.size ≤ b by omega)
  have HB1 := Lib.hid (show W0.heap.size = b + 1 by rw [hW0, hb]; simp)
  have h1 : ¬ (N : Int) < 1 := by omega
  have h2 : ¬ (64 : Int) < (N : Int) := by omega
  have h3 : ¬ (A : Int) < 0 := by omega
  have h4 : ¬ (4 : Int) < (A : Int) := by omega
  have h5 : ¬ (V : Int) < 0 := by omega
  have h6 : ¬ (8 : Int) < (V : Int) := by omega
  have HLA := Lib.hid (bits48_any N A V hN hA hV)
  have HNS := Lib.hid (show V ≠ 0 ∨ A ≠ 0 → N ≤ 12 from fun h => by
    have hl := hL
    unfold Jo at hl
    rcases h with h | h
    · have : N * 1 ≤ N * V := Nat.mul_le_mul_left N (by omega)
      omega
    · have h1 : N * N * 1 ≤ N * N * A := Nat.mul_le_mul_left _ (by omega)
      have h2 : N * 1 ≤ N * N := Nat.mul_le_mul_left N hN1
      omega)
  obtain ⟨L, hLL⟩ : ∃ z, z = Jo N A V := ⟨_, rfl⟩
  rw [← hLL] at HLA hL hKL
  clear hLL
  have hq : ¬ (12 : Int) < (L : Int) := by omega
  have hml : min L 64 = L := by omega
  have hwl : IntKind.u64.wrap (L : Int) = (L : Int) := by rw [IntKind.wrap_u64]; omega
  have hp2 : 2 ^ L ≤ 4096 := show 2 ^ L ≤ 2 ^ 12 from Nat.pow_le_pow_right (by decide) hL
  have hs2 : IntKind.i64.wrap ((2 : Int) ^ L) = ((2 ^ L : Nat) : Int) := Qb0 hL
  obtain ⟨P, hP⟩ : ∃ z, z = 2 ^ L := ⟨_, rfl⟩
  rw [← hP] at hs2 hp2 hKL
  clear hP hL
  have k1 : ¬ (K : Int) < 0 := by omega
  have k2 : ¬ (P : Int) ≤ (K : Int) := by omega
  have hK : K < 4096 := by omega
  have HKD := Lib.hid (show ∀ j : Nat, K / 2 ^ (N * j) < 4096 from fun j => Nat.lt_of_le_of_lt (Nat.div_le_self _ _) hK)
  have HDIG := Lib.hid (show ∀ j : Nat, K / 2 ^ (N * j) % 2 ^ N = Xl N K j from fun _ => rfl)
  have hd1 : decide (P ≤ K) = false := decide_eq_false (by omega)
  have hd2 : decide (((K : Nat) : Int) < 0) = false := decide_eq_false (by omega)
  clear hp2 hKL
  go_enter Tryz.func35, Tryz.ntmps35
  go_upto_region 1 with (fail)
  rw [← hW0, ← hb]
  clear hW0 hb
  go_wp2_with fail
  refine (HLA.out _).mono ?_
  rintro e w1 ⟨rfl, rfl⟩
  obtain ⟨W1, hW1⟩ : ∃ W, W = W0.alloc (.cells #[.int .i64 (N : Int), .slice none 0 0, .slice none 0 0] 26) := ⟨_, rfl⟩
  obtain ⟨mb, hmb⟩ : ∃ z, z = W0.heap.size := ⟨_, rfl⟩
  have HI0 := Lib.hid (show ArI W0 W1 mb (mb + 1) (N : Int) (.slice none 0 0) ((List.range 0).map fun i => Xl N K i) (.slice none 0 0) [] from ArI.start (by rw [hW1]; exact (Ext.refl _).alloc _) (by omega) (Nat.lt_succ_self _) (by rw [hW1, World.size_alloc, hmb]; exact Nat.le_refl _) (by rw [hW1, hmb]; exact heap_alloc_new _ _))
  have HMB := Lib.hid hmb
  go_upto_region 9 with (fail)
  rw [← hW1, ← hmb]
  clear hW1 hmb hs2 hml hwl k1 k2 h1 h2 hd1 hd2
  have HR0 := Lib.hid (show ((K : Nat) : Int) = ((K / 2 ^ (N * 0) : Nat) : Int) by rw [Nat.mul_zero, Nat.pow_zero, Nat.div_one])
  go_wp2_with fail
  go_loopw [12, 13] (fun vr vi wr => ∃ j r : Nat, vi = .int .i64 (j : Int) ∧ j ≤ V ∧ vr = .int .i64 (r : Int) ∧ Hid (r = K / 2 ^ (N * j) ∧ ∃ vx, ArI W0 wr mb (mb + 1) (N : Int) vx ((List.range j).map fun i => Xl N K i) (.slice none 0 0) [])) (fun _ vi _ => V - (intOf vi).toNat)
  case atStart => exact ⟨0, K, rfl, Nat.zero_le _, rfl, Lib.hid ⟨by rw [Nat.mul_zero, Nat.pow_zero, Nat.div_one], _, HI0.out⟩⟩
  case round =>
    clear HI0 HR0
    obtain ⟨j, r, rfl, hj, rfl, HREL⟩ := hrel
    obtain ⟨hr, vx, hai⟩ := HREL.out
    have HI := Lib.hid hai
    have HR := Lib.hid hr
    clear HREL hr
    by_cases hlt2 : j < V
    · have hk1 : (j : Int) < (V : Int) := by omega
      have hN12 := HNS.out (.inl (by omega))
      have hr4 : r < 4096 := by rw [HR.out]; exact HKD.out j
      have hwn : IntKind.u64.wrap (N : Int) = (N : Int) := by rw [IntKind.wrap_u64]; omega
      have hmn : min N 64 = N := by omega
      have HNX := Lib.hid (show (List.range (j + 1)).map (fun i => Xl N K i) = (List.range j).map (fun i => Xl N K i) ++ [r % 2 ^ N] from by rw [List.range_succ, List.map_append, HR.out, HDIG.out]; rfl)
      have HRN := Lib.hid (show r / 2 ^ N = K / 2 ^ (N * (j + 1)) by rw [HR.out, Qng])
      obtain ⟨PN, hPN⟩ : ∃ z, z = 2 ^ N := ⟨_, rfl⟩
      rw [← hPN] at HNX HRN
      have HPN := Lib.hid hPN
      clear hPN
      obtain ⟨d, hd⟩ : ∃ z, z = r % PN := ⟨_, rfl⟩
      obtain ⟨q, hqq⟩ : ∃ z, z = r / PN := ⟨_, rfl⟩
      have hrm := rem_nat r PN
      rw [← hd] at hrm HNX
      rw [← hqq] at HRN
      have hd4 : d < 4096 := by rw [hd]; exact Nat.lt_of_le_of_lt (Nat.mod_le _ _) hr4
      have hdw : IntKind.u64.wrap (d : Int) = (d : Int) := by rw [IntKind.wrap_u64]; omega
      have HQQ := Lib.hid hqq
      clear hd hqq
      obtain ⟨vs, hvs⟩ : ∃ z, z = (List.range j).map (fun i => Xl N K i) := ⟨_, rfl⟩
      have hvl : vs.length ≤ 8 := by rw [hvs, List.length_map, List.length_range]; omega
      rw [← hvs] at HI HNX
      obtain ⟨Ax, cx, rfl⟩ := Qt HI.out.val
      obtain ⟨⟨m0, m1, m2⟩, ⟨mf0, mf1, mf2⟩, ml⟩ := HI.out.cells
      have hc3 : vs.length + 1 ≤ maxLen := by unfold maxLen; omega
      have hc4 : (vs.length + 1) * 8 ≤ 140737488355328 := by omega
      have hpn : 0 < PN := by rw [HPN.out]; exact Nat.two_pow_pos N
      have hpz : ((PN : Int) == 0) = false := by rw [beq_eq_false_iff_ne]; omega
      have hpz2 : ¬ PN = 0 := by omega
      have hp : IntKind.i64.wrap ((2 : Int) ^ N) = (PN : Int) := by rw [HPN.out]; exact Qb0 hN12
      have hdv : (r : Int) / 2 ^ N = (q : Int) := by rw [HQQ.out, HPN.out]; exact Tm _ _
      clear hai hvs m0 m2 mf0 mf2
      go_upto_region 13 with (fail)
      refine Vx 11 (fun w' => w'.cell? (⟨mb, 1, none⟩) = some (.slice Ax vs.length cx)) (by kernel_rfl) (xd ml m1) (fun hHeld => ?_)
      refine utk 0 hHeld ?_
      refine utk 1 hHeld ?_
      refine utk 2 hHeld ?_
      refine utk 3 hHeld ?_
      refine utk 4 hHeld ?_
      refine utk 5 hHeld ?_
      refine utk 6 hHeld ?_
      refine utk 7 hHeld ?_
      refine Qs (rs := [8]) (by kernel_rfl) (by simp) ?_
      refine Ql.cons rfl (fun K hK => ?_) Ql.nil
      go_simp
      refine hK.out _ _ (xd ml m1) (fun hHeld => ?_)
      clear hK K
      try simp only [Act.put, List.setIfInBounds_toArray, List.set_cons_zero, List.set_cons_succ, List.getElem_toArray, List.getElem_cons_succ, List.getElem_cons_zero]
      refine Qs (rs := [9]) (by kernel_rfl) (by simp) ?_
      refine Ql.cons rfl (fun K hK => ?_) Ql.nil
      refine Di rfl (.tmp 66) (.tmp 73) 23 rfl (mb + 1) 41 iU (.int .u64 0) 1 8 Tryz.underlying23 hiU hzU0 hzU1 hzU2 rfl (by decide) (.slice Ax vs.length cx) vs.length (uV vs) (by simp [Act.eval]) (Zf HI.out.val xv) ⟨wr.heap.size, 0, none⟩ 1 1 [.int .u64 (d : Int)] (by simp [Act.eval]) rfl (by exact Jk _ _ _ (by simp)) (fun u hu => by rw [List.mem_singleton.1 hu]; rfl) hc3 hc4 (Nat.le_trans (show mb + 1 ≤ wr.heap.size from ml) (Ext.size (a := wr) xv)) ?_
      intro v7 w7 hown7 hgrow7 hat7
      have HP7 := Lib.hid (HI.out.pushVal (show Ext wr _ from xv) hown7 hgrow7)
      have HB7 := Lib.hid ((hgrow7.block mb (Nat.lt_of_lt_of_le ml (Ext.size (a := wr) xv)) (fun e => absurd (World.ownsRow.lt HI.out.val mb e.symm).1 (by omega))).trans ((Ext.block (a := wr) (k := mb) xv ml).trans HI.out.cell))
      obtain ⟨⟨_, p1, _⟩, ⟨_, pf1, _⟩, pl⟩ := Zt HB7.out
      obtain ⟨A7, c7, hv7⟩ := Qt hown7
      subst hv7
      clear hown7 hgrow7 hat7
      refine hK.out _ _ p1 (fun hHeld => ?_)
      clear hK K
      try simp only [Act.put, List.setIfInBounds_toArray, List.set_cons_zero, List.set_cons_succ, List.getElem_toArray, List.getElem_cons_succ, List.getElem_cons_zero]
      refine utk 10 hHeld ?_
      refine Jm (by kernel_rfl) rfl (fun K hK => ?_)
      go_simp
      refine hK.out _ _ ?_
      clear hK K
      try simp only [Act.put, List.setIfInBounds_toArray, List.set_cons_zero, List.set_cons_succ, List.getElem_toArray, List.getElem_cons_succ, List.getElem_cons_zero]
      refine Jl (by kernel_rfl) ?_ _
      go_wp2_with fail
      clear hp hdv hrm
      go_roundw
      case rel => exact ⟨j + 1, q, by go_num, by omega, rfl, Lib.hid ⟨HRN.out, _, by rw [HNX.out]; exact HP7.out⟩⟩
      case measure => simp [intOf]; omega
    · obtain rfl : V = j := by omega
      obtain ⟨vals, hvals⟩ : ∃ z, z = (List.range V).map (fun i => Xl N K i) := ⟨_, rfl⟩
      have HVALS := Lib.hid hvals
      rw [← hvals] at HI
      clear hai hvals
      go_wp2_with fail
      go_loopw [12, 14] (fun vr vi wr => ∃ i r : Nat, vi = .int .i64 (i : Int) ∧ i ≤ A ∧ vr = .int .i64 (r : Int) ∧ Hid (r = K / 2 ^ (N * (V + N * i)) ∧ ∃ vy, ArI W0 wr mb (mb + 1) (N : Int) vx vals vy ((List.range i).map fun i => (List.range N).map fun u => Xl N K (V + (N * i + u))))) (fun _ vi _ => A - (intOf vi).toNat)
      case atStart => exact ⟨0, r, rfl, Nat.zero_le _, rfl, Lib.hid ⟨by rw [Nat.mul_zero, Nat.add_zero]; exact HR.out, _, HI.out⟩⟩
      case round =>
        clear HI HR
        obtain ⟨i, r, rfl, hi, rfl, HREL⟩ := hrel
        obtain ⟨hr, vy, hai⟩ := HREL.out
        have HI := Lib.hid hai
        have HR := Lib.hid hr
        clear HREL hr
        by_cases hlt2 : i < A
        · have hk1 : (i : Int) < (A : Int) := by omega
          have hN12 := HNS.out (.inr (by omega))
          obtain ⟨rows, hrows⟩ : ∃ z, z = (List.range i).map (fun i => (List.range N).map fun u => Xl N K (V + (N * i + u))) := ⟨_, rfl⟩
          have HNX := Lib.hid (show (List.range (i + 1)).map (fun i => (List.range N).map fun u => Xl N K (V + (N * i + u))) = rows ++ [(List.range N).map fun u => Xl N K (V + (N * i + u))] from by rw [hrows, List.range_succ, List.map_append]; rfl)
          have hrowl : rows.length ≤ 4 := by rw [hrows, List.length_map, List.length_range]; omega
          rw [← hrows] at HI
          obtain ⟨wa, hwa⟩ : ∃ v, v = wr := ⟨_, rfl⟩
          subst hwa
          clear hai hrows
          go_wp2_with fail
          go_loopw [12, 15, 16] (fun vr v vi wr => ∃ u r : Nat, vi = .int .i64 (u : Int) ∧ u ≤ N ∧ vr = .int .i64 (r : Int) ∧ Hid (r = K / 2 ^ (N * (V + (N * i + u))) ∧ Ext wa wr ∧ Jn wa.heap.size wr v ((List.range u).map fun u => Xl N K (V + (N * i + u))))) (fun _ _ vi _ => N - (intOf vi).toNat)
          case atStart => exact ⟨0, r, rfl, Nat.zero_le _, rfl, Lib.hid ⟨by rw [Nat.add_zero]; exact HR.out, Ext.refl _, Jn.nil _ _⟩⟩
          case round =>
            clear HR
            obtain ⟨u, r, rfl, hu, rfl, HREL⟩ := hrel
            have HR := Lib.hid HREL.out.1
            have HXB := Lib.hid HREL.out.2.1
            have HMD := Lib.hid HREL.out.2.2
            clear HREL
            by_cases hlt3 : u < N
            · have hk2 : (u : Int) < (N : Int) := by omega
              have hr4 : r < 4096 := by rw [HR.out]; exact HKD.out _
              have hwn : IntKind.u64.wrap (N : Int) = (N : Int) := by rw [IntKind.wrap_u64]; omega
              have hmn : min N 64 = N := by omega
              have HN2 := Lib.hid (show (List.range (u + 1)).map (fun u => Xl N K (V + (N * i + u))) = (List.range u).map (fun u => Xl N K (V + (N * i + u))) ++ [r % 2 ^ N] from by rw [List.range_succ, List.map_append, HR.out, HDIG.out]; rfl)
              have HRN := Lib.hid (show r / 2 ^ N = K / 2 ^ (N * (V + (N * i + (u + 1)))) by rw [HR.out, Qng, Nat.add_assoc, Nat.add_assoc])
              obtain ⟨PN, hPN⟩ : ∃ z, z = 2 ^ N := ⟨_, rfl⟩
              rw [← hPN] at HN2 HRN
              have HPN := Lib.hid hPN
              clear hPN
              obtain ⟨d, hd⟩ : ∃ z, z = r % PN := ⟨_, rfl⟩
              obtain ⟨q, hqq⟩ : ∃ z, z = r / PN := ⟨_, rfl⟩
              have hrm := rem_nat r PN
              rw [← hd] at hrm HN2
              rw [← hqq] at HRN
              have hd4 : d < 4096 := by rw [hd]; exact Nat.lt_of_le_of_lt (Nat.mod_le _ _) hr4
              have hdw : IntKind.u64.wrap (d : Int) = (d : Int) := by rw [IntKind.wrap_u64]; omega
              have HQQ := Lib.hid hqq
              clear hd hqq
              obtain ⟨out, hout⟩ : ∃ z, z = (List.range u).map (fun u => Xl N K (V + (N * i + u))) := ⟨_, rfl⟩
              have hol : out.length ≤ 64 := by rw [hout, List.length_map, List.length_range]; omega
              rw [← hout] at HMD HN2
              have hc3 : out.length + 1 ≤ maxLen := by unfold maxLen; omega
              have hc4 : (out.length + 1) * 8 ≤ 140737488355328 := by omega
              obtain ⟨A1, c1, rfl⟩ := Qt HMD.out
              have hpn : 0 < PN := by rw [HPN.out]; exact Nat.two_pow_pos N
              have hpz : ((PN : Int) == 0) = false := by rw [beq_eq_false_iff_ne]; omega
              have hpz2 : ¬ PN = 0 := by omega
              have hp : IntKind.i64.wrap ((2 : Int) ^ N) = (PN : Int) := by rw [HPN.out]; exact Qb0 hN12
              have hdv : (r : Int) / 2 ^ N = (q : Int) := by rw [HQQ.out, HPN.out]; exact Tm _ _
              clear hout
              go_wp2_with (at_builtin; refine wpList_append_own_at _ rfl _ _ 23 rfl wa.heap.size 41 iU (.int .u64 0) 1 8 Tryz.underlying23 hiU hzU0 hzU1 hzU2 rfl (by decide) _ out.length (uV out) rfl (Zf HMD.out ((Ext.refl _).alloc _)) ⟨_, 0, none⟩ 1 1 [.int .u64 (d : Int)] rfl rfl (Jk _ _ _ (by simp)) (fun u hu => by rw [List.mem_singleton.1 hu]; rfl) hc3 hc4 (Nat.le_trans HXB.out.size (by simp)) ?_)
              intro v7 w7 hown7 hgrow7 _ _
              have HX7 := Lib.hid (show Ext wa w7 from (HXB.out.alloc _).grown hgrow7 (fun k hk => (World.ownsRow.lt HMD.out k hk).1))
              have HM7 := Lib.hid (Jn.snoc hown7)
              obtain ⟨A7, c7, rfl⟩ := Qt hown7
              clear hown7 hgrow7
              go_wp2_with fail
              clear hp hdv hrm
              go_roundw
              case rel => exact ⟨u + 1, q, by go_num, by omega, rfl, Lib.hid ⟨HRN.out, HX7.out, by rw [HN2.out]; exact HM7.out⟩⟩
              case measure => simp [intOf]; omega
            · obtain rfl : N = u := by omega
              have HRN := Lib.hid (show r = K / 2 ^ (N * (V + N * (i + 1))) by rw [HR.out, Nat.mul_succ])
              obtain ⟨rw1, hrw1⟩ : ∃ z, z = (List.range N).map (fun u => Xl N K (V + (N * i + u))) := ⟨_, rfl⟩
              have hrl64 : rw1.length ≤ 64 := by rw [hrw1, List.length_map, List.length_range]; omega
              rw [← hrw1] at HMD HNX
              have HIA := Lib.hid (HI.out.next HXB.out)
              obtain ⟨us, hus, hrow, hfz⟩ := HIA.out.rel
              have HVB := Lib.hid (show ∀ g, vy.ownBlock = some g → g < wa.heap.size from fun g hg => by obtain ⟨us2, _, h10, _⟩ := HI.out.rel; exact (h10.lt g hg).2)
              have HUS := Lib.hid hus
              have HROW := Lib.hid hrow
              have HFZ := Lib.hid hfz
              have hul4 : us.length ≤ 4 := by rw [hus]; exact hrowl
              obtain ⟨⟨m0, m1, m2⟩, ⟨mf0, mf1, mf2⟩, ml⟩ := HIA.out.cells
              obtain ⟨Av2, cv2, rfl⟩ := Qt hrow
              obtain ⟨A1, c1, rfl⟩ := Qt HMD.out
              have hc3 : us.length + 1 ≤ maxLen := by unfold maxLen; omega
              have hc4 : (us.length + 1) * 24 ≤ 140737488355328 := by omega
              clear hus hrow hfz m0 m1 hrw1 hrowl
              obtain ⟨wo, hwo⟩ : ∃ v, v = wr := ⟨_, rfl⟩
              subst hwo
              go_wp2_with (at_builtin; refine wpList_append_own_at _ rfl _ _ 24 rfl (mb + 1) 23 iS (.slice none 0 0) 1 24 Tryz.underlying24 hiS hzS0 hzS1 hzS2 rfl (by decide) _ us.length us rfl (Zf HROW.out ((Ext.refl _).alloc _)) ⟨_, 0, none⟩ 1 1 [.slice A1 rw1.length c1] rfl rfl (Jk _ _ _ (by simp)) (fun u hu => by rw [List.mem_singleton.1 hu]; rfl) hc3 hc4 (Nat.le_trans (show mb + 1 ≤ wo.heap.size from ml) (by simp)) ?_)
              intro v7 w7 hown7 hgrow7 hnew7 hat7
              have HP7 := Lib.hid (HIA.out.pushRow HUS.out HROW.out HFZ.out ((Ext.refl _).alloc _) (HMD.out.low (Nat.succ_le_of_lt HI.out.mlt)) (fun g hg hv => absurd (HVB.out g hv) (by have := (World.ownsRow.lt HMD.out g hg).1; omega)) hown7 hgrow7 (hat7.imp_right fun h => by rw [h]; simp))
              obtain ⟨⟨p0, p1, p2⟩, ⟨pf0, pf1, pf2⟩, pl⟩ := Zt ((hgrow7.block mb (Nat.lt_of_lt_of_le ml ((Ext.refl wo).alloc (.cells #[.slice A1 rw1.length c1] 23)).size) (fun e => absurd (World.ownsRow.lt HROW.out mb e.symm).1 (by omega))).trans ((((Ext.refl wo).alloc (.cells #[.slice A1 rw1.length c1] 23)).block ml).trans HIA.out.cell))
              obtain ⟨A7, c7, rfl⟩ := Qt hown7
              clear hown7 hgrow7 hnew7 hat7 m2 mf0 mf1 mf2 p0 p1 pf0 pf1
              go_wp2_with fail
              go_roundw
              case rel => exact ⟨i + 1, r, by go_num, by omega, rfl, Lib.hid ⟨HRN.out, _, by rw [HNX.out]; exact HP7.out⟩⟩
              case measure => simp [intOf]; omega
        · obtain rfl : A = i := by omega
          obtain ⟨us, -, hrow, -⟩ := HI.out.rel
          obtain ⟨Az, cz, rfl⟩ := Qt HI.out.val
          obtain ⟨Ay, cy, rfl⟩ := Qt hrow
          clear hrow
          obtain ⟨⟨m0, m1, m2⟩, ⟨mf0, mf1, mf2⟩, ml⟩ := HI.out.cells
          have HBR := Lib.hid ((hai.ext.block (Qf B0.out)).trans B0.out)
          obtain ⟨⟨q0, q1, q2⟩, ⟨f0, f1, f2⟩, ql⟩ := Zt HBR.out
          have HLO2 := Lib.hid (show b < mb by rw [HMB.out, HB1.out]; omega)
          have HX := Lib.hid (X0.out.trans hai.ext)
          have HEN := Lib.hid (show Ur N A V K = ⟨(N : Int), vals, (List.range A).map fun i => (List.range N).map fun u => Xl N K (V + (N * i + u))⟩ by rw [HVALS.out]; rfl)
          clear hai
          go_wp2_with fail
          (try simp only [Exit.inBlock, Exit.then])
          refine bodyPost_ret (Yv Tryz.results35 _ _ rfl (Zl (Jh HBR.out _ _ _)) Tryz.underlying26 rfl (by kernel_rfl)) rfl ?_
          refine ⟨_, rfl, Jc HX.out HLO.out _ _ _, fun W hW => ?_⟩
          rw [HEN.out]
          have h1 := HLO.out
          have h2 := HLO2.out
          exact HI.out.mdv ⟨Nat.le_trans (by simp [World.setCell]) hW.1, fun q hk hl => (hW.2 q (by omega) (by simpa [World.setCell] using hl)).trans (Vd (fun e => hk (by rw [e]; omega)) _ _ _)⟩
set_option maxRecDepth 100000 in
set_option maxHeartbeats 64000000 in
theorem numbered13_any (n a v k : Int) (w : World) :
    Calls Tryz.prog 35 #[.int .i64 n, .int .i64 a, .int .i64 v, .int .i64 k] w fun e w' => ∃ u, e = .returned (.tuple #[u, .int .i64 (nbE n a v k)]) ∧ Ext w w' ∧ Frz (fun q => q < w.heap.size) w' (fun W => MdV W u (nbN n a v k)) := by
  obtain ⟨er, her⟩ : ∃ z, z = nbE n a v k := ⟨_, rfl⟩
  have HER := Lib.hid her
  rw [← her]
  obtain ⟨W0, hW0⟩ : ∃ W, W = w.alloc (.cells #[.int .i64 0, .slice none 0 0, .slice none 0 0] 26) := ⟨_, rfl⟩
  have X0 := Lib.hid (show Ext w W0 by rw [hW0]; exact (Ext.refl _).alloc _)
  obtain ⟨b, hb⟩ : ∃ b, b = w.heap.size := ⟨_, rfl⟩
  have B0 := Lib.hid (show W0.heap[b]? = some (.cells #[.int .i64 0, .slice none 0 0, .slice none 0 0] 26 (0, 0)) by rw [hW0, hb]; exact heap_alloc_new _ _)
  have HLO := Lib.hid (show w.heap.size ≤ b by omega)
  have HZN := Lib.hid (fun (h : er ≠ 0) => show nbN n a v k = ⟨0, [], []⟩ from if_neg (by rw [← HER.out]; exact h))
  obtain ⟨⟨r0, r1, r2⟩, ⟨g0, g1, g2⟩, rl⟩ := Zt B0.out
  clear her
  by_cases hrange : n < 1 ∨ 64 < n ∨ a < 0 ∨ 4 < a ∨ v < 0 ∨ 8 < v
  · have HE := Lib.hid (show er = 2 by rw [HER.out]; unfold nbE; rw [if_pos hrange])
    have HZ := Lib.hid (HZN.out (by rw [HE.out]; decide))
    have key : ∀ e w', e = .returned (.tuple #[.agg #[.int .i64 0, .slice none 0 0, .slice none 0 0], .int .i64 2]) → Ext w w' → (∃ u, e = Ending.returned (.tuple #[u, .int .i64 er]) ∧ Ext w w' ∧ Frz (fun q => q < w.heap.size) w' (fun W => MdV W u (nbN n a v k))) :=
      fun e w' h1 h2 => ⟨.agg #[.int .i64 0, .slice none 0 0, .slice none 0 0], by rw [HE.out]; exact h1, h2, fun W _ => by rw [HZ.out]; exact Gk _⟩
    have KEY := Lib.hid key
    clear key
    have hsplit : n < 1 ∨ (¬ n < 1 ∧ 64 < n) ∨ (¬ n < 1 ∧ ¬ 64 < n ∧ a < 0) ∨ (¬ n < 1 ∧ ¬ 64 < n ∧ ¬ a < 0 ∧ 4 < a) ∨ (¬ n < 1 ∧ ¬ 64 < n ∧ ¬ a < 0 ∧ ¬ 4 < a ∧ v < 0) ∨ (¬ n < 1 ∧ ¬ 64 < n ∧ ¬ a < 0 ∧ ¬ 4 < a ∧ ¬ v < 0 ∧ 8 < v) := by omega
    clear hrange
    rcases hsplit with h1 | ⟨h1, h2⟩ | ⟨h1, h2, h3⟩ | ⟨h1, h2, h3, h4⟩ | ⟨h1, h2, h3, h4, h5⟩ | ⟨h1, h2, h3, h4, h5, h6⟩ <;>
    · go_enter Tryz.func35, Tryz.ntmps35
      go_upto_region 1 with (fail)
      rw [← hW0, ← hb]
      clear hW0 hb
      go_wp2_with fail
      (try simp only [Exit.inBlock, Exit.then])
      refine bodyPost_ret (Yv Tryz.results35 _ _ rfl (Zl (Jh B0.out _ _ _)) Tryz.underlying26 rfl (by kernel_rfl)) rfl ?_
      exact KEY.out _ _ rfl (Jc X0.out HLO.out _ _ _)
  have HERN := Lib.hid (show er = if 12 < Jo n.toNat a.toNat v.toNat then 8 else if k < 0 ∨ ((2 ^ Jo n.toNat a.toNat v.toNat : Nat) : Int) ≤ k then 2 else 0 by rw [HER.out]; unfold nbE; rw [if_neg hrange])
  obtain ⟨N, rfl⟩ := Int.eq_ofNat_of_zero_le (show 0 ≤ n by omega)
  obtain ⟨A, rfl⟩ := Int.eq_ofNat_of_zero_le (show 0 ≤ a by omega)
  obtain ⟨V, rfl⟩ := Int.eq_ofNat_of_zero_le (show 0 ≤ v by omega)
  rw [Int.toNat_natCast, Int.toNat_natCast, Int.toNat_natCast] at HERN
  have h1 : ¬ (N : Int) < 1 := fun h => hrange (.inl h)
  have h2 : ¬ (64 : Int) < (N : Int) := fun h => hrange (.inr (.inl h))
  have h3 : ¬ (A : Int) < 0 := by omega
  have h4 : ¬ (4 : Int) < (A : Int) := fun h => hrange (.inr (.inr (.inr (.inl h))))
  have h5 : ¬ (V : Int) < 0 := by omega
  have h6 : ¬ (8 : Int) < (V : Int) := fun h => hrange (.inr (.inr (.inr (.inr (.inr h)))))
  have hN1 : 1 ≤ N := by omega
  have hN : N ≤ 64 := by omega
  have hA : A ≤ 4 := by omega
  have hV : V ≤ 8 := by omega
  have HLA := Lib.hid (bits48_any N A V hN hA hV)
  obtain ⟨L, hL⟩ : ∃ z, z = Jo N A V := ⟨_, rfl⟩
  rw [← hL] at HLA HERN
  have HLL := Lib.hid hL
  clear hrange hL
  by_cases h12 : 12 < L
  · have hq : (12 : Int) < (L : Int) := by omega
    have HE := Lib.hid (show er = 8 by rw [HERN.out, if_pos h12])
    have HZ := Lib.hid (HZN.out (by rw [HE.out]; decide))
    clear h12
    go_enter Tryz.func35, Tryz.ntmps35
    go_upto_region 1 with (fail)
    rw [← hW0, ← hb]
    clear hW0 hb
    go_wp2_with fail
    refine (HLA.out _).mono ?_
    rintro e w1 ⟨rfl, rfl⟩
    go_wp2_with fail
    (try simp only [Exit.inBlock, Exit.then])
    refine bodyPost_ret (Yv Tryz.results35 _ _ rfl (Zl (Jh B0.out _ _ _)) Tryz.underlying26 rfl (by kernel_rfl)) rfl ?_
    exact ⟨_, by rw [HE.out] <;> rfl, Jc X0.out HLO.out _ _ _, fun W _ => by rw [HZ.out]; exact Gk _⟩
  have hL12 : L ≤ 12 := by omega
  have hq : ¬ (12 : Int) < (L : Int) := by omega
  have hml : min L 64 = L := by omega
  have hwl : IntKind.u64.wrap (L : Int) = (L : Int) := by rw [IntKind.wrap_u64]; omega
  have hp2 : 2 ^ L ≤ 4096 := show 2 ^ L ≤ 2 ^ 12 from Nat.pow_le_pow_right (by decide) hL12
  have hs1 : wrap64 ((2 : Int) ^ L) = ((2 ^ L : Nat) : Int) := by
    rw [show (2 : Int) ^ L = ((2 ^ L : Nat) : Int) by simp]; exact Tc (by omega)
  have hs2 : IntKind.i64.wrap ((2 : Int) ^ L) = ((2 ^ L : Nat) : Int) := Qb0 hL12
  rw [if_neg (by omega)] at HERN
  have HPL := Lib.hid (show ∀ K : Nat, K < 2 ^ L → K < 4096 from fun K h => Nat.lt_of_lt_of_le h hp2)
  obtain ⟨P, hP⟩ : ∃ z, z = 2 ^ L := ⟨_, rfl⟩
  rw [← hP] at hs1 hs2 HERN hp2 HPL
  have HPP := Lib.hid hP
  clear hP
  by_cases hk : k < 0 ∨ ((P : Nat) : Int) ≤ k
  · have HE := Lib.hid (show er = 2 by rw [HERN.out, if_pos hk])
    have HZ := Lib.hid (HZN.out (by rw [HE.out]; decide))
    have hsplit : k < 0 ∨ (¬ k < 0 ∧ (P : Int) ≤ k) := (Classical.em (k < 0)).elim Or.inl (fun h => .inr ⟨h, hk.resolve_left h⟩)
    clear hk hs1
    rcases hsplit with k1 | ⟨k1, k2⟩ <;>
    · go_enter Tryz.func35, Tryz.ntmps35
      go_upto_region 1 with (fail)
      rw [← hW0, ← hb]
      clear hW0 hb
      go_wp2_with fail
      refine (HLA.out _).mono ?_
      rintro e w1 ⟨rfl, rfl⟩
      go_wp2_with fail
      (try simp only [Exit.inBlock, Exit.then])
      refine bodyPost_ret (Yv Tryz.results35 _ _ rfl (Zl (Jh B0.out _ _ _)) Tryz.underlying26 rfl (by kernel_rfl)) rfl ?_
      exact ⟨_, by rw [HE.out] <;> rfl, Jc X0.out HLO.out _ _ _, fun W _ => by rw [HZ.out]; exact Gk _⟩
  have k1 : ¬ k < 0 := fun h => hk (.inl h)
  have k2 : ¬ (P : Int) ≤ k := fun h => hk (.inr h)
  have HE := Lib.hid (show er = 0 by rw [HERN.out, if_neg hk])
  obtain ⟨K, rfl⟩ := Int.eq_ofNat_of_zero_le (Int.not_lt.1 k1)
  have HZ := Lib.hid (show nbN (N : Int) (A : Int) (V : Int) (K : Int) = Ur N A V K by
    have h := HER.out
    unfold nbN
    rw [if_pos (by rw [← h]; exact HE.out), Int.toNat_natCast, Int.toNat_natCast, Int.toNat_natCast, Int.toNat_natCast])
  have hK2 : K < 2 ^ L := by rw [← HPP.out]; exact Int.ofNat_lt.1 (Int.not_le.1 k2)
  refine (numbered13_ok N A V K w hN1 hN hA hV (by rw [← HLL.out]; exact hL12) (by rw [← HLL.out]; exact hK2)).mono ?_
  rintro e w' ⟨u, rfl, hx, hf⟩
  exact ⟨u, by rw [HE.out], hx, by rw [HZ.out]; exact hf⟩
end
section
open Go.RowKit

/-- Different numbers give different models. -/
theorem nb_differ {q0 q1 q2 a b : Int} (h1 : nbE q0 q1 q2 a = 0) (h2 : nbE q0 q1 q2 b = 0) (hab : a ≠ b) : nbN q0 q1 q2 a ≠ nbN q0 q1 q2 b := by
  have hr : ∀ k, nbE q0 q1 q2 k = 0 → 1 ≤ q0 ∧ 0 ≤ k ∧ k.toNat < 2 ^ Jo q0.toNat q1.toNat q2.toNat := fun k h => by
    unfold nbE at h
    by_cases g1 : q0 < 1 ∨ 64 < q0 ∨ q1 < 0 ∨ 4 < q1 ∨ q2 < 0 ∨ 8 < q2
    · rw [if_pos g1] at h; cases h
    rw [if_neg g1] at h
    by_cases g2 : 12 < Jo q0.toNat q1.toNat q2.toNat
    · rw [if_pos g2] at h; cases h
    rw [if_neg g2] at h
    generalize Jo q0.toNat q1.toNat q2.toNat = L at h g2 ⊢
    generalize 2 ^ L = P at h ⊢
    by_cases g3 : k < 0 ∨ (P : Int) ≤ k
    · rw [if_pos g3] at h; cases h
    · omega
  obtain ⟨h3, h4, h5⟩ := hr a h1
  obtain ⟨_, h6, h7⟩ := hr b h2
  intro h
  unfold nbN at h
  rw [if_pos h1, if_pos h2] at h
  have := num_inj (by omega) h5 h7 h
  exact hab (by omega)
set_option maxRecDepth 100000 in
set_option maxHeartbeats 64000000 in
theorem numbers48_any {w : World} {q0 q1 q2 a b : Int} (hT : Vf w) :
    Calls Tryz.prog 7 #[.agg #[.int .i64 q0, .int .i64 q1, .int .i64 q2], .int .i64 a, .int .i64 b] w fun e w' => e = .returned (.bool true) ∧ Ext w w' := by
  have HT := Lib.hid hT
  obtain ⟨W0, hW0⟩ : ∃ z, z = w.alloc (.cells #[.int .i64 q0, .int .i64 q1, .int .i64 q2] 59) := ⟨_, rfl⟩
  obtain ⟨bl, hbl⟩ : ∃ z, z = w.heap.size := ⟨_, rfl⟩
  have X0 := Lib.hid (show Ext w W0 by rw [hW0]; exact (Ext.refl _).alloc _)
  have B0 := Lib.hid (show W0.heap[bl]? = some (.cells #[.int .i64 q0, .int .i64 q1, .int .i64 q2] 59 (0, 0)) by rw [hW0, hbl]; exact heap_alloc_new _ _)
  clear hT
  obtain ⟨e0, e1, e2, el⟩ := Zd B0.out
  go_enter Tryz.func7, Tryz.ntmps7
  go_upto_region 1 with (fail)
  rw [← hW0, ← hbl]
  clear hW0 hbl
  go_wp2_with fail
  refine (Qgv q0 q1 q2 a _).mono ?_
  rintro e w1 ⟨u1, rfl, hx, hfz⟩
  have HX1 := Lib.hid hx
  have HF1 := Lib.hid hfz
  obtain ⟨m1, Av1, la1, ca1, Ar1, lr1, cr1, rfl⟩ := Bb hfz.here
  clear hx hfz e0 e1 e2 el
  obtain ⟨z1, hz1⟩ : ∃ z, z = w1.alloc (.cells #[.int .i64 m1, .slice Av1 la1 ca1, .slice Ar1 lr1 cr1] 26) := ⟨_, rfl⟩
  obtain ⟨b1, hb1⟩ : ∃ z, z = w1.heap.size := ⟨_, rfl⟩
  have E1 := Lib.hid (show Ext w1 z1 by rw [hz1]; exact (Ext.refl _).alloc _)
  have B1 := Lib.hid (show z1.heap[b1]? = some (.cells #[.int .i64 m1, .slice Av1 la1 ca1, .slice Ar1 lr1 cr1] 26 (0, 0)) by rw [hz1, hb1]; exact heap_alloc_new _ _)
  go_upto_region 2 with (fail)
  rw [← hz1, ← hb1]
  clear hz1 hb1
  have X1 := Lib.hid (X0.out.trans (HX1.out.trans E1.out))
  have C1 := Lib.hid (((HX1.out.trans E1.out).block (Qf B0.out)).trans B0.out)
  have M1 := Lib.hid (HF1.out.here.ext E1.out)
  obtain ⟨e0, e1, e2, el⟩ := Zd C1.out
  go_wp2_with fail
  refine (numbered13_any q0 q1 q2 a _).mono ?_
  rintro e w2 ⟨u2, rfl, hx, hfz⟩
  have HX2 := Lib.hid hx
  have HF2 := Lib.hid hfz
  obtain ⟨m2, Av2, la2, ca2, Ar2, lr2, cr2, rfl⟩ := Bb hfz.here
  clear hx hfz e0 e1 e2 el
  obtain ⟨z2, hz2⟩ : ∃ z, z = w2.alloc (.cells #[.int .i64 m2, .slice Av2 la2 ca2, .slice Ar2 lr2 cr2] 26) := ⟨_, rfl⟩
  obtain ⟨b2, hb2⟩ : ∃ z, z = w2.heap.size := ⟨_, rfl⟩
  have E2 := Lib.hid (show Ext w2 z2 by rw [hz2]; exact (Ext.refl _).alloc _)
  have B2 := Lib.hid (show z2.heap[b2]? = some (.cells #[.int .i64 m2, .slice Av2 la2 ca2, .slice Ar2 lr2 cr2] 26 (0, 0)) by rw [hz2, hb2]; exact heap_alloc_new _ _)
  go_upto_region 3 with (fail)
  rw [← hz2, ← hb2]
  clear hz2 hb2
  have X2 := Lib.hid (X1.out.trans (HX2.out.trans E2.out))
  have C2 := Lib.hid (((HX2.out.trans E2.out).block (Qf C1.out)).trans C1.out)
  have M2 := Lib.hid (HF2.out.here.ext E2.out)
  have B1 := Lib.hid (((HX2.out.trans E2.out).block (Qf B1.out)).trans B1.out)
  have M1 := Lib.hid (M1.out.ext (HX2.out.trans E2.out))
  obtain ⟨e0, e1, e2, el⟩ := Zd C2.out
  go_wp2_with fail
  refine (Qgv q0 q1 q2 b _).mono ?_
  rintro e w3 ⟨u3, rfl, hx, hfz⟩
  have HX3 := Lib.hid hx
  have HF3 := Lib.hid hfz
  obtain ⟨m3, Av3, la3, ca3, Ar3, lr3, cr3, rfl⟩ := Bb hfz.here
  clear hx hfz e0 e1 e2 el
  obtain ⟨z3, hz3⟩ : ∃ z, z = w3.alloc (.cells #[.int .i64 m3, .slice Av3 la3 ca3, .slice Ar3 lr3 cr3] 26) := ⟨_, rfl⟩
  obtain ⟨b3, hb3⟩ : ∃ z, z = w3.heap.size := ⟨_, rfl⟩
  have E3 := Lib.hid (show Ext w3 z3 by rw [hz3]; exact (Ext.refl _).alloc _)
  have B3 := Lib.hid (show z3.heap[b3]? = some (.cells #[.int .i64 m3, .slice Av3 la3 ca3, .slice Ar3 lr3 cr3] 26 (0, 0)) by rw [hz3, hb3]; exact heap_alloc_new _ _)
  go_upto_region 4 with (fail)
  rw [← hz3, ← hb3]
  clear hz3 hb3
  have X3 := Lib.hid (X2.out.trans (HX3.out.trans E3.out))
  have C3 := Lib.hid (((HX3.out.trans E3.out).block (Qf C2.out)).trans C2.out)
  have M3 := Lib.hid (HF3.out.here.ext E3.out)
  have B1 := Lib.hid (((HX3.out.trans E3.out).block (Qf B1.out)).trans B1.out)
  have M1 := Lib.hid (M1.out.ext (HX3.out.trans E3.out))
  have B2 := Lib.hid (((HX3.out.trans E3.out).block (Qf B2.out)).trans B2.out)
  have M2 := Lib.hid (M2.out.ext (HX3.out.trans E3.out))
  obtain ⟨ea, hea⟩ : ∃ z, z = nbE q0 q1 q2 a := ⟨_, rfl⟩
  obtain ⟨eb, heb⟩ : ∃ z, z = nbE q0 q1 q2 b := ⟨_, rfl⟩
  rw [← hea, ← heb]
  have HEA := Lib.hid hea
  have HEB := Lib.hid heb
  clear hea heb
  obtain ⟨c0, c1, c2, cl⟩ := Zd B1.out
  obtain ⟨d0, d1, d2, dl⟩ := Zd B2.out
  have hee : (ea != ea) = false := by simp
  go_wp2_with fail
  refine (Km _ _ _ _ _ M1.out M2.out).mono ?_
  rintro e w6 ⟨rfl, hx⟩
  rw [Xd.2 rfl]
  have X6 := Lib.hid (X3.out.trans hx)
  have B1 := Lib.hid ((hx.block (Qf B1.out)).trans B1.out)
  have B3 := Lib.hid ((hx.block (Qf B3.out)).trans B3.out)
  have M1 := Lib.hid (M1.out.ext hx)
  have M3 := Lib.hid (M3.out.ext hx)
  clear hx c0 c1 c2 cl d0 d1 d2 dl
  obtain ⟨c0, c1, c2, cl⟩ := Zd B1.out
  obtain ⟨d0, d1, d2, dl⟩ := Zd B3.out
  by_cases ha : ea = 0
  case neg =>
    have hne : (ea != 0) = true := by simpa using ha
    clear ha hee
    go_wp2_with fail
    refine (Ja _ (HT.out.ext X6.out)).mono ?_
    rintro e wt ⟨rfl, hxt⟩
    have YT := Lib.hid (X6.out.trans hxt)
    clear hxt
    go_wp2_with fail
    go_ret
    exact ⟨rfl, YT.out⟩
  subst ha
  clear hee
  by_cases hb : eb = 0
  case neg =>
    have hne : (eb != 0) = true := by simpa using hb
    clear hb
    go_wp2_with fail
    refine (Ja _ (HT.out.ext X6.out)).mono ?_
    rintro e wt ⟨rfl, hxt⟩
    have YT := Lib.hid (X6.out.trans hxt)
    clear hxt
    go_wp2_with fail
    go_ret
    exact ⟨rfl, YT.out⟩
  subst hb
  by_cases hab : a = b
  · subst hab
    have haa : (a == a) = true := by simp
    go_wp2_with fail
    refine (Km _ _ _ _ _ M1.out M3.out).mono ?_
    rintro e w7 ⟨rfl, hx⟩
    rw [Xd.2 rfl]
    have X7 := Lib.hid (X6.out.trans hx)
    clear hx c0 c1 c2 cl d0 d1 d2 dl
    go_wp2_with fail
    refine (Ja _ (HT.out.ext X7.out)).mono ?_
    rintro e wt ⟨rfl, hxt⟩
    have YT := Lib.hid (X7.out.trans hxt)
    clear hxt
    go_wp2_with fail
    go_ret
    exact ⟨rfl, YT.out⟩
  · have haa : (a == b) = false := by rw [beq_eq_false_iff_ne]; exact hab
    have hsf : Hz (nbN q0 q1 q2 a) (nbN q0 q1 q2 b) = false := by
      rw [Bool.eq_false_iff]
      exact fun h => nb_differ HEA.out.symm HEB.out.symm hab (Xd.1 h)
    have HSF := Lib.hid hsf
    clear hsf hab
    go_wp2_with fail
    refine (Km _ _ _ _ _ M1.out M3.out).mono ?_
    rintro e w7 ⟨rfl, hx⟩
    rw [HSF.out]
    have X7 := Lib.hid (X6.out.trans hx)
    clear hx c0 c1 c2 cl d0 d1 d2 dl
    go_wp2_with fail
    refine (Ja _ (HT.out.ext X7.out)).mono ?_
    rintro e wt ⟨rfl, hxt⟩
    have YT := Lib.hid (X7.out.trans hxt)
    clear hxt
    go_wp2_with fail
    go_ret
    exact ⟨rfl, YT.out⟩
end
section
open Go.ChangeShapes Go.WideShapes Go.ChangeAt Go.RowKit Go.Joins

theorem Fw : laidOutB Tryz.prog = true := by kernel_rfl
theorem own : ownKnob Tryz.prog.godebug = none := by kernel_rfl
theorem Nt (os : Os) (args : Array Value) : laidMetH Tryz.prog [("math/bits.deBruijn64tab", Rows.laid_math_bits_deBruijn64tab)] ((World.doorLaid Tryz.prog 600 os).forCall (fun _ _ => 0) ⟨#[], args, []⟩).memory := by
  rw [Go.MakeChecks.laidMetH_plain _ _ _ rfl]
  exact laidMet_of_run' 8 (by kernel_rfl) (by kernel_rfl)
set_option maxRecDepth 100000 in
theorem countermodelNumbers_lifted (os : Os) (started : os.Started) (H : Type) (enc : TypeId × Value → H) :
    ReturnsInHanded {} Tryz.checked os 7 .any (fun w args => (Rows.countermodelNumbersSpec.pre enc Tryz.prog Tryz.f7 [] false w args ∧ laidMetH Tryz.prog [("math/bits.deBruijn64tab", Rows.laid_math_bits_deBruijn64tab)] w) ∧ sizedMet enc Tryz.prog Tryz.f7 (OpenSpec.ofChange Rows.countermodelNumbersSpec) false w args)
      (Rows.countermodelNumbersSpec.post enc Tryz.prog Tryz.f7 false true false false) := by
  refine returnsInHanded_of_change_and (C := Tryz.checked) (X := fun w _ => laidMetH Tryz.prog [("math/bits.deBruijn64tab", Rows.laid_math_bits_deBruijn64tab)] w) (fun _ _ _ hh h => h.of_heap hh) own started (by kernel_rfl) Tryz.func7
    (ChangeSpec.witness_shaped (enc := enc) (C := Tryz.checked) (os := os) (X := fun w _ => laidMetH Tryz.prog [("math/bits.deBruijn64tab", Rows.laid_math_bits_deBruijn64tab)] w) false (World.doorLaid Tryz.prog 600 os) #[.agg #[.int .i64 0, .int .i64 0, .int .i64 0], .int .i64 0, .int .i64 0] 8 rfl (World.shaped_of_RefB (by kernel_rfl) (by kernel_rfl)) (by kernel_rfl) (by kernel_rfl) (by kernel_rfl) (Nt os _)) ?_
  intro W base args ds gs before hval0 hW _ _ hL _
  have hval : ∀ (j : Nat) t v, Tryz.f7.params[j]? = some t → args[j]? = some v → Value.okWide Tryz.prog W .any base t v := hval0
  have hTAB := Sp hL
  have hW' := hW
  obtain ⟨p, q, hA0, hV, rfl, hfz, hnd⟩ := hW
  have hA : DataW.TrodAll enc Tryz.prog W 0 (fun _ => true) true Tryz.f7.params.toList args.toList ds p := hA0
  rw [Tryz.params7] at hA hval
  obtain ⟨v0, vs0, d0, ds0, p0, q0, hargs, rfl, rfl, h0, r0⟩ := trodAll_cons hA
  obtain ⟨v1, vs1, d1, ds1, p1, q1, rfl, rfl, rfl, h1, r1⟩ := trodAll_cons r0
  obtain ⟨v2, vs2, d2, ds2, p2, q2, rfl, rfl, rfl, h2, r2⟩ := trodAll_cons r1
  obtain ⟨rfl, rfl, rfl⟩ := trodAll_nil r2
  obtain rfl : args = #[v0, v1, v2] := by cases args; simp_all
  obtain ⟨rfl, rfl⟩ := trodVars_none hV
  obtain ⟨qa0, qb0, qc0, rfl⟩ := q3_of_arg (hval 0 59 v0 rfl rfl) h0
  obtain ⟨z1, rfl, rfl, rfl, wz1⟩ := open_int Tryz.underlying3 (hval 1 3 v1 rfl rfl) h1
  obtain ⟨z2, rfl, rfl, rfl, wz2⟩ := open_int Tryz.underlying3 (hval 2 3 v2 rfl rfl) h2
  simp only [List.append_nil] at hW'
  clear hA0 hval0
  refine (numbers48_any hTAB).mono ?_
  rintro e W' ⟨rfl, hx⟩
  have hlt : ∀ x ∈ p0, x.block < W.heap.size := fun x hx' => hW'.lt x hx'
  refine ⟨_, rfl, Nr (pa := p0) (pv := []) hW' (fun _ _ _ => trodAll_mk1 (shut_bool Tryz.underlying4 _)) (fun sp hsp => ?_) (fun _ _ => rfl) (by simp) hx (ok_one (by kernel_rfl) rfl (okWide_bool_mk Tryz.underlying4 _))⟩
  have ht := (trodAll_cons_mk (WideElems.Trod_stays Fw (by kernel_rfl) (of_decide_eq_true (by kernel_rfl)) h0 (fun x hx' => hx.same (hlt x hx')) (fun x hx' => hsp x hx')) (trodAll_cons_mk (shut_int Tryz.underlying3 wz1) (trodAll_cons_mk (shut_int Tryz.underlying3 wz2) trodAll_mk0)))
  simp only [List.append_nil] at ht
  exact ht
theorem countermodelNumbers_said : Rows.CountermodelNumbersSaid :=
  OpenClaim.holds_of_wide 7 Tryz.f7 rfl rfl rfl rfl rfl rfl rfl ⟨rfl, rfl, rfl, rfl, rfl⟩ rfl rfl rfl rfl rfl (by kernel_rfl) Tryz.func7 (by kernel_rfl)
    (of_decide_eq_true (by kernel_rfl)) (by unfold Func.isWrapper; first | (rw [if_pos (by decide +kernel)]; kernel_rfl) | (rw [if_neg (by decide +kernel)]; exact ⟨rfl, rfl⟩))
    (fun os started H enc _ => countermodelNumbers_lifted os started H enc)
theorem countermodelNumbers_plain (f : FuncId) (fn : Func) (hf : Tryz.pinned.checked.prog.funcNamed "witting/wittinglaw48.CountermodelNumbers" = some f) (hfn : Tryz.pinned.checked.prog.funcs[f]? = some fn) :
    false = Tryz.pinned.checked.prog.looks [] ∧ ∀ (j : Nat) t, fn.params[j]? = some t → Tryz.pinned.checked.prog.wantsStandIn t = false := by
  obtain rfl : f = 7 := Option.some.inj ((show Tryz.prog.funcNamed "witting/wittinglaw48.CountermodelNumbers" = some 7 by kernel_rfl).symm.trans hf) |>.symm
  obtain rfl : fn = Tryz.f7 := (Option.some.inj (Tryz.func7.symm.trans hfn)).symm
  refine ⟨by kernel_rfl, fun j t ht => ?_⟩
  rw [Tryz.params7] at ht
  have hm : t ∈ #[(59 : TypeId), (3 : TypeId), (3 : TypeId)] := Array.mem_of_getElem? ht
  simp only [List.mem_toArray, List.mem_cons, List.not_mem_nil, or_false] at hm
  rcases hm with rfl | rfl | rfl
  · exact (show Tryz.prog.wantsStandIn 59 = false by kernel_rfl)
  · exact (show Tryz.prog.wantsStandIn 3 = false by kernel_rfl)
  · exact (show Tryz.prog.wantsStandIn 3 = false by kernel_rfl)
/-- The card. -/
theorem countermodelNumbers_card : Rows.CountermodelNumbersCardSaid :=
  Claim7.holds_tied_plain_at .later [] _ _ _ _ countermodelNumbers_said (fun _ h => by cases h) (by kernel_rfl) (fun _ h => by cases h) countermodelNumbers_row_tie rfl ⟨rfl, rfl⟩ (by kernel_rfl) rfl countermodelNumbers_plain (by kernel_rfl)
end
end Go.Proofs.YtkmclcmnoicagaaGreatDoor
