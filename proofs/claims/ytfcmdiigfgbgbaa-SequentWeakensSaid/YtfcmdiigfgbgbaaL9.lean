/- The law's awake is true. -/
import Derived.Test.YtfcmdiigfgbgbaaGG
import Derived.Test.YtfcmdiigfgbgbaaGJ

namespace Go.Proofs.Ytfcmdiigfgbgbaa
open Go.RowKit

theorem k19i : ((CarryN 0 baseT 12 0 : Nat) : Int) = 1 := by rw [k19]; rfl
theorem k20i : ((CarryN 6 baseT 12 0 : Nat) : Int) = 13 := by rw [k20]; rfl
theorem two_of {l : List (List Nd)} (h : l.length = 2) : ∃ a b, l = [a, b] := by
  match l, h with
  | [a, b], _ => exact ⟨a, b, rfl⟩
theorem four (w : World) (o0 o1 o2 o3 : Obj) : ((((w.alloc o0).alloc o1).alloc o2).alloc o3).heap[w.heap.size]? = some o0 ∧ ((((w.alloc o0).alloc o1).alloc o2).alloc o3).heap[w.heap.size + 1]? = some o1 ∧
    ((((w.alloc o0).alloc o1).alloc o2).alloc o3).heap[w.heap.size + 1 + 1]? = some o2 ∧ ((((w.alloc o0).alloc o1).alloc o2).alloc o3).heap[w.heap.size + 1 + 1 + 1]? = some o3 := by
  refine ⟨?_, ?_, ?_, ?_⟩
  · rw [at_lt _ _ _ (by simp; omega), at_lt _ _ _ (by simp; omega), at_lt _ _ _ (by simp), at_eq _ _ _ (by simp)]
  · rw [at_lt _ _ _ (by simp), at_lt _ _ _ (by simp), at_eq _ _ _ (by simp)]
  · rw [at_lt _ _ _ (by simp), at_eq _ _ _ (by simp)]
  · rw [at_eq _ _ _ (by simp)]
theorem fml_ad {w : World} {A : Option Addr} {n c : Nat} {l : List Nd} (h : Fml w (.slice A n c) l) (hl : l ≠ []) : ∃ ad, A = some ad := by
  obtain ⟨_, _, e, _, _, hr⟩ := h.1
  injection e with e1 _ _
  obtain ⟨ad, hA, _⟩ := hr hl
  exact ⟨ad, e1.trans hA⟩
theorem i64ok0 : i64ok 0 := by unfold i64ok; decide
set_option maxRecDepth 100000 in
set_option maxHeartbeats 16000000 in
theorem awake_any (w : World) : Calls Try.prog 6 #[] w fun e w' => e = .returned (.bool true) ∧ Ext w w' := by
  go_enter Try.func6, Try.ntmps6
  go_wp2_with fail
  refine (truth_any 2 _).mono ?_
  rintro e w1 ⟨A1, A2, rfl, hx, hfb, hfs⟩
  have HX1 := Lib.hid hx
  have HB := Lib.hid hfb
  have HS := Lib.hid hfs
  have HB4 := Lib.hid (nds_take4 hfb)
  obtain ⟨ad1, hA1⟩ := fml_ad hfb (by decide)
  subst hA1
  have F := four w1 (.cells #[.int .i64 2, .slice (some ad1) 5 5, .slice A2 3 3] 25) (.cells #[.int .i64 0] 3) (.cells #[.int .u64 3, .int .i64 1, .int .i64 0, .int .i64 1, .slice none 0 0, .int .u64 12, .int .i64 6, .int .i64 3, .int .i64 0, .slice (some ⟨w1.heap.size + 1, 0, none⟩) 1 1] 34) (.cells #[.int .i64 0, .slice (some ad1) 4 5, .slice (some ⟨w1.heap.size + 1 + 1, 0, none⟩) 2 2] 25)
  have HBK := Lib.hid (HB4.out.ext (show Ext w1 ((((w1.alloc (.cells #[.int .i64 2, .slice (some ad1) 5 5, .slice A2 3 3] 25)).alloc (.cells #[.int .i64 0] 3)).alloc (.cells #[.int .u64 3, .int .i64 1, .int .i64 0, .int .i64 1, .slice none 0 0, .int .u64 12, .int .i64 6, .int .i64 3, .int .i64 0, .slice (some ⟨w1.heap.size + 1, 0, none⟩) 1 1] 34)).alloc (.cells #[.int .i64 0, .slice (some ad1) 4 5, .slice (some ⟨w1.heap.size + 1 + 1, 0, none⟩) 2 2] 25)) from (by repeat (first | exact Ext.refl _ | assumption | apply Ext.alloc | apply Ext.drew))))
  have HQK := Lib.hid (show Sps ((((w1.alloc (.cells #[.int .i64 2, .slice (some ad1) 5 5, .slice A2 3 3] 25)).alloc (.cells #[.int .i64 0] 3)).alloc (.cells #[.int .u64 3, .int .i64 1, .int .i64 0, .int .i64 1, .slice none 0 0, .int .u64 12, .int .i64 6, .int .i64 3, .int .i64 0, .slice (some ⟨w1.heap.size + 1, 0, none⟩) 1 1] 34)).alloc (.cells #[.int .i64 0, .slice (some ad1) 4 5, .slice (some ⟨w1.heap.size + 1 + 1, 0, none⟩) 2 2] 25)) (.slice (some ⟨w1.heap.size + 1 + 1, 0, none⟩) 2 2) stepsK from sps_of2 (s0 := ⟨3, 1, 0, 1, []⟩) (s1 := ⟨12, 6, 3, 0, [0]⟩) (u0 := .slice none 0 0) (u1 := .slice (some ⟨w1.heap.size + 1, 0, none⟩) 1 1) F.2.2.1 (Ints.none_ _) (ints_at (l := [0]) (cs := #[.int .i64 0]) F.2.1 (by decide) rfl) (by decide))
  obtain ⟨c0, c1, c2, _, clt⟩ := cells3 F.1
  obtain ⟨r0, r1, r2, _, rlt⟩ := cells3 F.2.2.2
  have C := Lib.hid (And.intro c0 (And.intro c1 c2))
  have RR := Lib.hid (And.intro r0 (And.intro r1 r2))
  have CLT := Lib.hid clt
  have RLT := Lib.hid rlt
  have X2 := Lib.hid (show Ext w1 ((((w1.alloc (.cells #[.int .i64 2, .slice (some ad1) 5 5, .slice A2 3 3] 25)).alloc (.cells #[.int .i64 0] 3)).alloc (.cells #[.int .u64 3, .int .i64 1, .int .i64 0, .int .i64 1, .slice none 0 0, .int .u64 12, .int .i64 6, .int .i64 3, .int .i64 0, .slice (some ⟨w1.heap.size + 1, 0, none⟩) 1 1] 34)).alloc (.cells #[.int .i64 0, .slice (some ad1) 4 5, .slice (some ⟨w1.heap.size + 1 + 1, 0, none⟩) 2 2] 25)) from (by repeat (first | exact Ext.refl _ | assumption | apply Ext.alloc | apply Ext.drew)))
  clear hx hfb hfs F c0 c1 c2 r0 r1 r2 clt rlt
  go_wp2_with fail
  refine (fact_any 0 i64ok0 _).mono ?_
  rintro e w3 ⟨up, rfl, hm⟩
  have HP := Lib.hid hm.fml
  have X3 := Lib.hid (show Ext ((((w1.alloc (.cells #[.int .i64 2, .slice (some ad1) 5 5, .slice A2 3 3] 25)).alloc (.cells #[.int .i64 0] 3)).alloc (.cells #[.int .u64 3, .int .i64 1, .int .i64 0, .int .i64 1, .slice none 0 0, .int .u64 12, .int .i64 6, .int .i64 3, .int .i64 0, .slice (some ⟨w1.heap.size + 1, 0, none⟩) 1 1] 34)).alloc (.cells #[.int .i64 0, .slice (some ad1) 4 5, .slice (some ⟨w1.heap.size + 1 + 1, 0, none⟩) 2 2] 25)) w3 from hm.2.2)
  obtain ⟨Ap, cp, rfl, _⟩ := fml_slice hm.fml
  clear hm
  go_wp2_with fail
  refine (know_any 0 i64ok0 _ pN _ HP.out).mono ?_
  rintro e w4 ⟨uk, rfl, hm⟩
  have HK := Lib.hid hm.fml
  have X4 := Lib.hid hm.2.2
  obtain ⟨Ak, ck, rfl, _⟩ := fml_slice hm.fml
  clear hm
  go_wp2_with fail
  refine (imp_any _ _ (knowN 0 pN) pN _ HK.out (HP.out.ext X4.out)).mono ?_
  rintro e w5 ⟨ua, rfl, hm⟩
  have HA := Lib.hid hm.fml
  have X5 := Lib.hid (X3.out.trans (X4.out.trans hm.2.2))
  obtain ⟨Aa, ca, rfl, _⟩ := fml_slice hm.fml
  have HP5 := Lib.hid (HP.out.ext (X4.out.trans hm.2.2))
  have r0 := (X5.out.cell (p := ⟨w1.heap.size + 1 + 1 + 1, 0, none⟩) RLT.out).trans RR.out.1
  have r1 := (X5.out.cell (p := ⟨w1.heap.size + 1 + 1 + 1, 1, none⟩) RLT.out).trans RR.out.2.1
  have r2 := (X5.out.cell (p := ⟨w1.heap.size + 1 + 1 + 1, 2, none⟩) RLT.out).trans RR.out.2.2
  clear hm
  go_wp2_with fail
  refine (refuted_any (lg := 0) (HBK.out.ext X5.out) (HQK.out.ext X5.out)).mono ?_
  rintro e w6 ⟨ul, rfl, hx, hl⟩
  rw [k14]
  have X6 := Lib.hid (X5.out.trans hx)
  obtain ⟨fa, fb, hfab⟩ := two_of k15
  have k16' := k16
  rw [hfab] at hl k16'
  have HSAME := Lib.hid (show sameN fa (knowN 0 pN) = true from k16')
  obtain ⟨Al, cl, rfl, hcl, hml, hrl⟩ := hl
  obtain ⟨adl, rfl, hltl, hcelll⟩ := hrl (by simp)
  obtain ⟨uf, huf, hff⟩ := hcelll 0 fa rfl
  have HFA := Lib.hid hff
  obtain ⟨Af, cf, rfl, _⟩ := fml_slice hff
  have e0 : adl.add 0 = adl := rfl
  rw [e0] at huf
  unfold maxLen at hml
  simp only [List.length_cons, List.length_nil, Nat.zero_add] at hcl ⊢
  have HPx := Lib.hid (HP5.out.ext hx)
  have HAx := Lib.hid (HA.out.ext hx)
  have XB := Lib.hid (X2.out.trans X6.out)
  have q0 := (X6.out.cell (p := ⟨w1.heap.size, 0, none⟩) CLT.out).trans C.out.1
  have q1 := (X6.out.cell (p := ⟨w1.heap.size, 1, none⟩) CLT.out).trans C.out.2.1
  have q2 := (X6.out.cell (p := ⟨w1.heap.size, 2, none⟩) CLT.out).trans C.out.2.2
  have s0 := (X6.out.cell (p := ⟨w1.heap.size + 1 + 1 + 1, 0, none⟩) RLT.out).trans RR.out.1
  have s1 := (X6.out.cell (p := ⟨w1.heap.size + 1 + 1 + 1, 1, none⟩) RLT.out).trans RR.out.2.1
  have s2 := (X6.out.cell (p := ⟨w1.heap.size + 1 + 1 + 1, 2, none⟩) RLT.out).trans RR.out.2.2
  have qlt : w1.heap.size < w6.heap.size := Nat.lt_of_lt_of_le CLT.out X6.out.size
  have slt : w1.heap.size + 1 + 1 + 1 < w6.heap.size := Nat.lt_of_lt_of_le RLT.out X6.out.size
  clear hx hff hcelll hrl k16' hfab r0 r1 r2
  go_wp2_with fail
  simp only [List.append_eq, List.cons_append, List.nil_append]
  refine wp_region_held_drew (S := fun w' => w'.cell? (⟨w1.heap.size, 0, none⟩) = some (.int .i64 2) ∧ w'.cell? (⟨w1.heap.size, 1, none⟩) = some (.slice (some ad1) 5 5) ∧ w'.cell? (⟨w1.heap.size, 2, none⟩) = some (.slice A2 3 3) ∧ w'.cell? (⟨w1.heap.size + 1 + 1 + 1, 0, none⟩) = some (.int .i64 0) ∧ w'.cell? (⟨w1.heap.size + 1 + 1 + 1, 1, none⟩) = some (.slice (some ad1) 4 5) ∧ w'.cell? (⟨w1.heap.size + 1 + 1 + 1, 2, none⟩) = some (.slice (some ⟨w1.heap.size + 1 + 1, 0, none⟩) 2 2) ∧ w'.cell? (adl) = some (.slice Af fa.length cf)) (by kernel_rfl) ⟨(Ext.cell (p := ⟨w1.heap.size, 0, none⟩) (by repeat (first | exact Ext.refl _ | assumption | apply Ext.alloc | apply Ext.drew)) qlt).trans q0, (Ext.cell (p := ⟨w1.heap.size, 1, none⟩) (by repeat (first | exact Ext.refl _ | assumption | apply Ext.alloc | apply Ext.drew)) qlt).trans q1, (Ext.cell (p := ⟨w1.heap.size, 2, none⟩) (by repeat (first | exact Ext.refl _ | assumption | apply Ext.alloc | apply Ext.drew)) qlt).trans q2, (Ext.cell (p := ⟨w1.heap.size + 1 + 1 + 1, 0, none⟩) (by repeat (first | exact Ext.refl _ | assumption | apply Ext.alloc | apply Ext.drew)) slt).trans s0, (Ext.cell (p := ⟨w1.heap.size + 1 + 1 + 1, 1, none⟩) (by repeat (first | exact Ext.refl _ | assumption | apply Ext.alloc | apply Ext.drew)) slt).trans s1, (Ext.cell (p := ⟨w1.heap.size + 1 + 1 + 1, 2, none⟩) (by repeat (first | exact Ext.refl _ | assumption | apply Ext.alloc | apply Ext.drew)) slt).trans s2, (Ext.cell (p := adl) (by repeat (first | exact Ext.refl _ | assumption | apply Ext.alloc | apply Ext.drew)) hltl).trans huf⟩ (fun hHeld => ?_)
  refine' wpAnyH_take (i := 0) (v := _) rfl (by kernel_rfl) (by kernel_rfl) (by kernel_rfl) (fun _ _ _ h => h) (Or.inl ⟨by rfl, ?hyb0⟩) hHeld ?restb0
  case hyb0 => (intro w' hSw; (try dsimp only at hSw); go_simp; (try with_reducible rfl))
  try simp only [Act.put, List.setIfInBounds_toArray, List.set_cons_zero, List.set_cons_succ, List.getElem_toArray, List.getElem_cons_zero]
  refine wpAnyH_ready (rs := [1]) (by kernel_rfl) (by simp) ?_
  refine AllReadyH.cons rfl (fun K hK => ?_) AllReadyH.nil
  go_simp
  (go_at_call 8; refine (checkS_any (lg := 2) (HB.out.ext (XB.out.trans (by exact (by repeat (first | exact Ext.refl _ | assumption | apply Ext.alloc | apply Ext.drew))))) (HS.out.ext (XB.out.trans (by exact (by repeat (first | exact Ext.refl _ | assumption | apply Ext.alloc | apply Ext.drew)))))).mono ?_; rintro e w11 ⟨rfl, hv⟩; rw [k1]; have hx11 : Ext w6 w11 := Ext.trans (by repeat (first | exact Ext.refl _ | assumption | apply Ext.alloc | apply Ext.drew)) hv; clear hv)
  go_wp2_with fail
  refine hK.out _ _ ⟨(Ext.cell (p := ⟨w1.heap.size, 0, none⟩) (by repeat (first | exact Ext.refl _ | assumption | apply Ext.alloc | apply Ext.drew)) qlt).trans q0, (Ext.cell (p := ⟨w1.heap.size, 1, none⟩) (by repeat (first | exact Ext.refl _ | assumption | apply Ext.alloc | apply Ext.drew)) qlt).trans q1, (Ext.cell (p := ⟨w1.heap.size, 2, none⟩) (by repeat (first | exact Ext.refl _ | assumption | apply Ext.alloc | apply Ext.drew)) qlt).trans q2, (Ext.cell (p := ⟨w1.heap.size + 1 + 1 + 1, 0, none⟩) (by repeat (first | exact Ext.refl _ | assumption | apply Ext.alloc | apply Ext.drew)) slt).trans s0, (Ext.cell (p := ⟨w1.heap.size + 1 + 1 + 1, 1, none⟩) (by repeat (first | exact Ext.refl _ | assumption | apply Ext.alloc | apply Ext.drew)) slt).trans s1, (Ext.cell (p := ⟨w1.heap.size + 1 + 1 + 1, 2, none⟩) (by repeat (first | exact Ext.refl _ | assumption | apply Ext.alloc | apply Ext.drew)) slt).trans s2, (Ext.cell (p := adl) (by repeat (first | exact Ext.refl _ | assumption | apply Ext.alloc | apply Ext.drew)) hltl).trans huf⟩ (fun hHeld => ?_)
  clear hK K
  try simp only [Act.put, List.setIfInBounds_toArray, List.set_cons_zero, List.set_cons_succ, List.getElem_toArray, List.getElem_cons_succ, List.getElem_cons_zero]
  refine' wpAnyH_take (i := 2) (v := _) rfl (by kernel_rfl) (by kernel_rfl) (by kernel_rfl) (fun _ _ _ h => h) (Or.inl ⟨by rfl, ?hyb2⟩) hHeld ?restb2
  case hyb2 => (intro w' hSw; (try dsimp only at hSw); go_simp; (try with_reducible rfl))
  try simp only [Act.put, List.setIfInBounds_toArray, List.set_cons_zero, List.set_cons_succ, List.getElem_toArray, List.getElem_cons_succ, List.getElem_cons_zero]
  refine' wpAnyH_take (i := 3) (v := _) rfl (by kernel_rfl) (by kernel_rfl) (by kernel_rfl) (fun _ _ _ h => h) (Or.inl ⟨by rfl, ?hyb3⟩) hHeld ?restb3
  case hyb3 => (intro w' hSw; (try dsimp only at hSw); go_simp; (try with_reducible rfl))
  try simp only [Act.put, List.setIfInBounds_toArray, List.set_cons_zero, List.set_cons_succ, List.getElem_toArray, List.getElem_cons_succ, List.getElem_cons_zero]
  refine' wpAnyH_take (i := 4) (v := _) rfl (by kernel_rfl) (by kernel_rfl) (by kernel_rfl) (fun _ _ _ h => h) (Or.inl ⟨by rfl, ?hyb4⟩) hHeld ?restb4
  case hyb4 => (intro w' hSw; (try dsimp only at hSw); go_simp; (try with_reducible rfl))
  try simp only [Act.put, List.setIfInBounds_toArray, List.set_cons_zero, List.set_cons_succ, List.getElem_toArray, List.getElem_cons_succ, List.getElem_cons_zero]
  refine' wpAnyH_take (i := 5) (v := _) rfl (by kernel_rfl) (by kernel_rfl) (by kernel_rfl) (fun _ _ _ h => h) (Or.inl ⟨by rfl, ?hyb5⟩) hHeld ?restb5
  case hyb5 => (intro w' hSw; (try dsimp only at hSw); go_simp; (try with_reducible rfl))
  try simp only [Act.put, List.setIfInBounds_toArray, List.set_cons_zero, List.set_cons_succ, List.getElem_toArray, List.getElem_cons_succ, List.getElem_cons_zero]
  refine wpAnyH_ready (rs := [6]) (by kernel_rfl) (by simp) ?_
  refine AllReadyH.cons rfl (fun K hK => ?_) AllReadyH.nil
  go_simp
  (go_at_call 16; refine (proves_any (lg := 2) (f := axN) (g := oppN axN) (HB.out.ext (XB.out.trans (by exact (by repeat (first | exact Ext.refl _ | assumption | apply Ext.alloc | apply Ext.drew))))) (HS.out.ext (XB.out.trans (by exact (by repeat (first | exact Ext.refl _ | assumption | apply Ext.alloc | apply Ext.drew))))) (by exact HAx.out.ext (by repeat (first | exact Ext.refl _ | assumption | apply Ext.alloc | apply Ext.drew))) k2 k3 k4 k5 k6).mono ?_; rintro e w12 ⟨rfl, hv⟩; rw [k21]; simp only [cond_true]; have hx12 : Ext w6 w12 := Ext.trans (by repeat (first | exact Ext.refl _ | assumption | apply Ext.alloc | apply Ext.drew)) hv; clear hv)
  go_wp2_with fail
  refine hK.out _ _ ⟨(Ext.cell (p := ⟨w1.heap.size, 0, none⟩) (by repeat (first | exact Ext.refl _ | assumption | apply Ext.alloc | apply Ext.drew)) qlt).trans q0, (Ext.cell (p := ⟨w1.heap.size, 1, none⟩) (by repeat (first | exact Ext.refl _ | assumption | apply Ext.alloc | apply Ext.drew)) qlt).trans q1, (Ext.cell (p := ⟨w1.heap.size, 2, none⟩) (by repeat (first | exact Ext.refl _ | assumption | apply Ext.alloc | apply Ext.drew)) qlt).trans q2, (Ext.cell (p := ⟨w1.heap.size + 1 + 1 + 1, 0, none⟩) (by repeat (first | exact Ext.refl _ | assumption | apply Ext.alloc | apply Ext.drew)) slt).trans s0, (Ext.cell (p := ⟨w1.heap.size + 1 + 1 + 1, 1, none⟩) (by repeat (first | exact Ext.refl _ | assumption | apply Ext.alloc | apply Ext.drew)) slt).trans s1, (Ext.cell (p := ⟨w1.heap.size + 1 + 1 + 1, 2, none⟩) (by repeat (first | exact Ext.refl _ | assumption | apply Ext.alloc | apply Ext.drew)) slt).trans s2, (Ext.cell (p := adl) (by repeat (first | exact Ext.refl _ | assumption | apply Ext.alloc | apply Ext.drew)) hltl).trans huf⟩ (fun hHeld => ?_)
  clear hK K
  try simp only [Act.put, List.setIfInBounds_toArray, List.set_cons_zero, List.set_cons_succ, List.getElem_toArray, List.getElem_cons_succ, List.getElem_cons_zero]
  refine' wpAnyH_take (i := 7) (v := _) rfl (by kernel_rfl) (by kernel_rfl) (by kernel_rfl) (fun _ _ _ h => h) (Or.inl ⟨by rfl, ?hyb7⟩) hHeld ?restb7
  case hyb7 => (intro w' hSw; (try dsimp only at hSw); go_simp; (try with_reducible rfl))
  try simp only [Act.put, List.setIfInBounds_toArray, List.set_cons_zero, List.set_cons_succ, List.getElem_toArray, List.getElem_cons_succ, List.getElem_cons_zero]
  refine' wpAnyH_take (i := 8) (v := _) rfl (by kernel_rfl) (by kernel_rfl) (by kernel_rfl) (fun _ _ _ h => h) (Or.inl ⟨by rfl, ?hyb8⟩) hHeld ?restb8
  case hyb8 => (intro w' hSw; (try dsimp only at hSw); go_simp; (try with_reducible rfl))
  try simp only [Act.put, List.setIfInBounds_toArray, List.set_cons_zero, List.set_cons_succ, List.getElem_toArray, List.getElem_cons_succ, List.getElem_cons_zero]
  refine' wpAnyH_take (i := 9) (v := _) rfl (by kernel_rfl) (by kernel_rfl) (by kernel_rfl) (fun _ _ _ h => h) (Or.inl ⟨by rfl, ?hyb9⟩) hHeld ?restb9
  case hyb9 => (intro w' hSw; (try dsimp only at hSw); go_simp; (try with_reducible rfl))
  try simp only [Act.put, List.setIfInBounds_toArray, List.set_cons_zero, List.set_cons_succ, List.getElem_toArray, List.getElem_cons_succ, List.getElem_cons_zero]
  refine' wpAnyH_take (i := 10) (v := _) rfl (by kernel_rfl) (by kernel_rfl) (by kernel_rfl) (fun _ _ _ h => h) (Or.inl ⟨by rfl, ?hyb10⟩) hHeld ?restb10
  case hyb10 => (intro w' hSw; (try dsimp only at hSw); go_simp; (try with_reducible rfl))
  try simp only [Act.put, List.setIfInBounds_toArray, List.set_cons_zero, List.set_cons_succ, List.getElem_toArray, List.getElem_cons_succ, List.getElem_cons_zero]
  refine' wpAnyH_take (i := 11) (v := _) rfl (by kernel_rfl) (by kernel_rfl) (by kernel_rfl) (fun _ _ _ h => h) (Or.inl ⟨by rfl, ?hyb11⟩) hHeld ?restb11
  case hyb11 => (intro w' hSw; (try dsimp only at hSw); go_simp; (try with_reducible rfl))
  try simp only [Act.put, List.setIfInBounds_toArray, List.set_cons_zero, List.set_cons_succ, List.getElem_toArray, List.getElem_cons_succ, List.getElem_cons_zero]
  refine wpAnyH_ready (rs := [12]) (by kernel_rfl) (by simp) ?_
  refine AllReadyH.cons rfl (fun K hK => ?_) AllReadyH.nil
  go_simp
  (go_at_call 16; refine (proves_any (lg := 2) (f := pN) (g := oppN axN) (HB.out.ext (XB.out.trans (by exact (by repeat (first | exact Ext.refl _ | assumption | apply Ext.alloc | apply Ext.drew))))) (HS.out.ext (XB.out.trans (by exact (by repeat (first | exact Ext.refl _ | assumption | apply Ext.alloc | apply Ext.drew))))) (by exact HPx.out.ext (by repeat (first | exact Ext.refl _ | assumption | apply Ext.alloc | apply Ext.drew))) k2 k3 k7 k8 k9).mono ?_; rintro e w13 ⟨rfl, hv⟩; rw [k10]; simp only [cond_false]; have hx13 : Ext w6 w13 := Ext.trans (by repeat (first | exact Ext.refl _ | assumption | apply Ext.alloc | apply Ext.drew)) hv; clear hv)
  go_wp2_with fail
  refine hK.out _ _ ⟨(Ext.cell (p := ⟨w1.heap.size, 0, none⟩) (by repeat (first | exact Ext.refl _ | assumption | apply Ext.alloc | apply Ext.drew)) qlt).trans q0, (Ext.cell (p := ⟨w1.heap.size, 1, none⟩) (by repeat (first | exact Ext.refl _ | assumption | apply Ext.alloc | apply Ext.drew)) qlt).trans q1, (Ext.cell (p := ⟨w1.heap.size, 2, none⟩) (by repeat (first | exact Ext.refl _ | assumption | apply Ext.alloc | apply Ext.drew)) qlt).trans q2, (Ext.cell (p := ⟨w1.heap.size + 1 + 1 + 1, 0, none⟩) (by repeat (first | exact Ext.refl _ | assumption | apply Ext.alloc | apply Ext.drew)) slt).trans s0, (Ext.cell (p := ⟨w1.heap.size + 1 + 1 + 1, 1, none⟩) (by repeat (first | exact Ext.refl _ | assumption | apply Ext.alloc | apply Ext.drew)) slt).trans s1, (Ext.cell (p := ⟨w1.heap.size + 1 + 1 + 1, 2, none⟩) (by repeat (first | exact Ext.refl _ | assumption | apply Ext.alloc | apply Ext.drew)) slt).trans s2, (Ext.cell (p := adl) (by repeat (first | exact Ext.refl _ | assumption | apply Ext.alloc | apply Ext.drew)) hltl).trans huf⟩ (fun hHeld => ?_)
  clear hK K
  try simp only [Act.put, List.setIfInBounds_toArray, List.set_cons_zero, List.set_cons_succ, List.getElem_toArray, List.getElem_cons_succ, List.getElem_cons_zero]
  refine' wpAnyH_take (i := 13) (v := _) rfl (by kernel_rfl) (by kernel_rfl) (by kernel_rfl) (fun _ _ _ h => h) (Or.inl ⟨by rfl, ?hyb13⟩) hHeld ?restb13
  case hyb13 => (intro w' hSw; (try dsimp only at hSw); go_simp; (try with_reducible rfl))
  try simp only [Act.put, List.setIfInBounds_toArray, List.set_cons_zero, List.set_cons_succ, List.getElem_toArray, List.getElem_cons_succ, List.getElem_cons_zero]
  refine' wpAnyH_take (i := 14) (v := _) rfl (by kernel_rfl) (by kernel_rfl) (by kernel_rfl) (fun _ _ _ h => h) (Or.inl ⟨by rfl, ?hyb14⟩) hHeld ?restb14
  case hyb14 => (intro w' hSw; (try dsimp only at hSw); go_simp; (try with_reducible rfl))
  try simp only [Act.put, List.setIfInBounds_toArray, List.set_cons_zero, List.set_cons_succ, List.getElem_toArray, List.getElem_cons_succ, List.getElem_cons_zero]
  refine' wpAnyH_take (i := 15) (v := _) rfl (by kernel_rfl) (by kernel_rfl) (by kernel_rfl) (fun _ _ _ h => h) (Or.inl ⟨by rfl, ?hyb15⟩) hHeld ?restb15
  case hyb15 => (intro w' hSw; (try dsimp only at hSw); go_simp; (try with_reducible rfl))
  try simp only [Act.put, List.setIfInBounds_toArray, List.set_cons_zero, List.set_cons_succ, List.getElem_toArray, List.getElem_cons_succ, List.getElem_cons_zero]
  refine wpAnyH_ready (rs := [16]) (by kernel_rfl) (by simp) ?_
  refine AllReadyH.cons rfl (fun K hK => ?_) AllReadyH.nil
  go_simp
  (go_at_call 11; refine (truth_any 0 _).mono ?_; rintro e w14 ⟨B1, B2, rfl, hv, hb14, hs14⟩; have HB14 := Lib.hid hb14; have HS14 := Lib.hid hs14; clear hb14 hs14; have hx14 : Ext w6 w14 := Ext.trans (by repeat (first | exact Ext.refl _ | assumption | apply Ext.alloc | apply Ext.drew)) hv; clear hv)
  go_wp2_with fail
  refine hK.out _ _ ⟨(Ext.cell (p := ⟨w1.heap.size, 0, none⟩) (by repeat (first | exact Ext.refl _ | assumption | apply Ext.alloc | apply Ext.drew)) qlt).trans q0, (Ext.cell (p := ⟨w1.heap.size, 1, none⟩) (by repeat (first | exact Ext.refl _ | assumption | apply Ext.alloc | apply Ext.drew)) qlt).trans q1, (Ext.cell (p := ⟨w1.heap.size, 2, none⟩) (by repeat (first | exact Ext.refl _ | assumption | apply Ext.alloc | apply Ext.drew)) qlt).trans q2, (Ext.cell (p := ⟨w1.heap.size + 1 + 1 + 1, 0, none⟩) (by repeat (first | exact Ext.refl _ | assumption | apply Ext.alloc | apply Ext.drew)) slt).trans s0, (Ext.cell (p := ⟨w1.heap.size + 1 + 1 + 1, 1, none⟩) (by repeat (first | exact Ext.refl _ | assumption | apply Ext.alloc | apply Ext.drew)) slt).trans s1, (Ext.cell (p := ⟨w1.heap.size + 1 + 1 + 1, 2, none⟩) (by repeat (first | exact Ext.refl _ | assumption | apply Ext.alloc | apply Ext.drew)) slt).trans s2, (Ext.cell (p := adl) (by repeat (first | exact Ext.refl _ | assumption | apply Ext.alloc | apply Ext.drew)) hltl).trans huf⟩ (fun hHeld => ?_)
  clear hK K
  try simp only [Act.put, List.setIfInBounds_toArray, List.set_cons_zero, List.set_cons_succ, List.getElem_toArray, List.getElem_cons_succ, List.getElem_cons_zero]
  refine wpAnyH_ready (rs := [17]) (by kernel_rfl) (by simp) ?_
  refine AllReadyH.cons rfl (fun K hK => ?_) AllReadyH.nil
  go_simp
  (go_at_call 8; refine (checkS_any (lg := 0) (by exact HB14.out.ext (by repeat (first | exact Ext.refl _ | assumption | apply Ext.alloc | apply Ext.drew))) (by exact HS14.out.ext (by repeat (first | exact Ext.refl _ | assumption | apply Ext.alloc | apply Ext.drew)))).mono ?_; rintro e w15 ⟨rfl, hv⟩; rw [k11]; have hx15 : Ext w6 w15 := Ext.trans (by repeat (first | exact Ext.refl _ | assumption | apply Ext.alloc | apply Ext.drew)) hv; clear hv)
  go_wp2_with fail
  refine hK.out _ _ ⟨(Ext.cell (p := ⟨w1.heap.size, 0, none⟩) (by repeat (first | exact Ext.refl _ | assumption | apply Ext.alloc | apply Ext.drew)) qlt).trans q0, (Ext.cell (p := ⟨w1.heap.size, 1, none⟩) (by repeat (first | exact Ext.refl _ | assumption | apply Ext.alloc | apply Ext.drew)) qlt).trans q1, (Ext.cell (p := ⟨w1.heap.size, 2, none⟩) (by repeat (first | exact Ext.refl _ | assumption | apply Ext.alloc | apply Ext.drew)) qlt).trans q2, (Ext.cell (p := ⟨w1.heap.size + 1 + 1 + 1, 0, none⟩) (by repeat (first | exact Ext.refl _ | assumption | apply Ext.alloc | apply Ext.drew)) slt).trans s0, (Ext.cell (p := ⟨w1.heap.size + 1 + 1 + 1, 1, none⟩) (by repeat (first | exact Ext.refl _ | assumption | apply Ext.alloc | apply Ext.drew)) slt).trans s1, (Ext.cell (p := ⟨w1.heap.size + 1 + 1 + 1, 2, none⟩) (by repeat (first | exact Ext.refl _ | assumption | apply Ext.alloc | apply Ext.drew)) slt).trans s2, (Ext.cell (p := adl) (by repeat (first | exact Ext.refl _ | assumption | apply Ext.alloc | apply Ext.drew)) hltl).trans huf⟩ (fun hHeld => ?_)
  clear hK K
  try simp only [Act.put, List.setIfInBounds_toArray, List.set_cons_zero, List.set_cons_succ, List.getElem_toArray, List.getElem_cons_succ, List.getElem_cons_zero]
  refine' wpAnyH_take (i := 18) (v := _) rfl (by kernel_rfl) (by kernel_rfl) (by kernel_rfl) (fun _ _ _ h => h) (Or.inl ⟨by rfl, ?hyb18⟩) hHeld ?restb18
  case hyb18 => (intro w' hSw; (try dsimp only at hSw); go_simp; (try with_reducible rfl))
  try simp only [Act.put, List.setIfInBounds_toArray, List.set_cons_zero, List.set_cons_succ, List.getElem_toArray, List.getElem_cons_succ, List.getElem_cons_zero]
  refine' wpAnyH_take (i := 19) (v := _) rfl (by kernel_rfl) (by kernel_rfl) (by kernel_rfl) (fun _ _ _ h => h) (Or.inl ⟨by rfl, ?hyb19⟩) hHeld ?restb19
  case hyb19 => (intro w' hSw; (try dsimp only at hSw); go_simp; (try with_reducible rfl))
  try simp only [Act.put, List.setIfInBounds_toArray, List.set_cons_zero, List.set_cons_succ, List.getElem_toArray, List.getElem_cons_succ, List.getElem_cons_zero]
  refine' wpAnyH_take (i := 20) (v := _) rfl (by kernel_rfl) (by kernel_rfl) (by kernel_rfl) (fun _ _ _ h => h) (Or.inl ⟨by rfl, ?hyb20⟩) hHeld ?restb20
  case hyb20 => (intro w' hSw; (try dsimp only at hSw); go_simp; (try with_reducible rfl))
  try simp only [Act.put, List.setIfInBounds_toArray, List.set_cons_zero, List.set_cons_succ, List.getElem_toArray, List.getElem_cons_succ, List.getElem_cons_zero]
  refine wpAnyH_ready (rs := [21]) (by kernel_rfl) (by simp) ?_
  refine AllReadyH.cons rfl (fun K hK => ?_) AllReadyH.nil
  go_simp
  (go_at_call 11; refine (truth_any 0 _).mono ?_; rintro e w16 ⟨B3, B4, rfl, hv, hb16, hs16⟩; have HB16 := Lib.hid hb16; have HS16 := Lib.hid hs16; clear hb16 hs16; have hx16 : Ext w6 w16 := Ext.trans (by repeat (first | exact Ext.refl _ | assumption | apply Ext.alloc | apply Ext.drew)) hv; clear hv)
  go_wp2_with fail
  refine hK.out _ _ ⟨(Ext.cell (p := ⟨w1.heap.size, 0, none⟩) (by repeat (first | exact Ext.refl _ | assumption | apply Ext.alloc | apply Ext.drew)) qlt).trans q0, (Ext.cell (p := ⟨w1.heap.size, 1, none⟩) (by repeat (first | exact Ext.refl _ | assumption | apply Ext.alloc | apply Ext.drew)) qlt).trans q1, (Ext.cell (p := ⟨w1.heap.size, 2, none⟩) (by repeat (first | exact Ext.refl _ | assumption | apply Ext.alloc | apply Ext.drew)) qlt).trans q2, (Ext.cell (p := ⟨w1.heap.size + 1 + 1 + 1, 0, none⟩) (by repeat (first | exact Ext.refl _ | assumption | apply Ext.alloc | apply Ext.drew)) slt).trans s0, (Ext.cell (p := ⟨w1.heap.size + 1 + 1 + 1, 1, none⟩) (by repeat (first | exact Ext.refl _ | assumption | apply Ext.alloc | apply Ext.drew)) slt).trans s1, (Ext.cell (p := ⟨w1.heap.size + 1 + 1 + 1, 2, none⟩) (by repeat (first | exact Ext.refl _ | assumption | apply Ext.alloc | apply Ext.drew)) slt).trans s2, (Ext.cell (p := adl) (by repeat (first | exact Ext.refl _ | assumption | apply Ext.alloc | apply Ext.drew)) hltl).trans huf⟩ (fun hHeld => ?_)
  clear hK K
  try simp only [Act.put, List.setIfInBounds_toArray, List.set_cons_zero, List.set_cons_succ, List.getElem_toArray, List.getElem_cons_succ, List.getElem_cons_zero]
  refine wpAnyH_ready (rs := [22]) (by kernel_rfl) (by simp) ?_
  refine AllReadyH.cons rfl (fun K hK => ?_) AllReadyH.nil
  go_simp
  (go_at_call 10; refine (broken_any (lg := 0) (by exact HB16.out.ext (by repeat (first | exact Ext.refl _ | assumption | apply Ext.alloc | apply Ext.drew))) (by exact HS16.out.ext (by repeat (first | exact Ext.refl _ | assumption | apply Ext.alloc | apply Ext.drew)))).mono ?_; rintro e w17 ⟨rfl, hv⟩; rw [k12]; have hx17 : Ext w6 w17 := Ext.trans (by repeat (first | exact Ext.refl _ | assumption | apply Ext.alloc | apply Ext.drew)) hv; clear hv)
  go_wp2_with fail
  refine hK.out _ _ ⟨(Ext.cell (p := ⟨w1.heap.size, 0, none⟩) (by repeat (first | exact Ext.refl _ | assumption | apply Ext.alloc | apply Ext.drew)) qlt).trans q0, (Ext.cell (p := ⟨w1.heap.size, 1, none⟩) (by repeat (first | exact Ext.refl _ | assumption | apply Ext.alloc | apply Ext.drew)) qlt).trans q1, (Ext.cell (p := ⟨w1.heap.size, 2, none⟩) (by repeat (first | exact Ext.refl _ | assumption | apply Ext.alloc | apply Ext.drew)) qlt).trans q2, (Ext.cell (p := ⟨w1.heap.size + 1 + 1 + 1, 0, none⟩) (by repeat (first | exact Ext.refl _ | assumption | apply Ext.alloc | apply Ext.drew)) slt).trans s0, (Ext.cell (p := ⟨w1.heap.size + 1 + 1 + 1, 1, none⟩) (by repeat (first | exact Ext.refl _ | assumption | apply Ext.alloc | apply Ext.drew)) slt).trans s1, (Ext.cell (p := ⟨w1.heap.size + 1 + 1 + 1, 2, none⟩) (by repeat (first | exact Ext.refl _ | assumption | apply Ext.alloc | apply Ext.drew)) slt).trans s2, (Ext.cell (p := adl) (by repeat (first | exact Ext.refl _ | assumption | apply Ext.alloc | apply Ext.drew)) hltl).trans huf⟩ (fun hHeld => ?_)
  clear hK K
  try simp only [Act.put, List.setIfInBounds_toArray, List.set_cons_zero, List.set_cons_succ, List.getElem_toArray, List.getElem_cons_succ, List.getElem_cons_zero]
  refine' wpAnyH_take (i := 23) (v := _) rfl (by kernel_rfl) (by kernel_rfl) (by kernel_rfl) (fun _ _ _ h => h) (Or.inl ⟨by rfl, ?hyb23⟩) hHeld ?restb23
  case hyb23 => (intro w' hSw; (try dsimp only at hSw); go_simp; (try with_reducible rfl))
  try simp only [Act.put, List.setIfInBounds_toArray, List.set_cons_zero, List.set_cons_succ, List.getElem_toArray, List.getElem_cons_succ, List.getElem_cons_zero]
  refine' wpAnyH_take (i := 24) (v := _) rfl (by kernel_rfl) (by kernel_rfl) (by kernel_rfl) (fun _ _ _ h => h) (Or.inl ⟨by rfl, ?hyb24⟩) hHeld ?restb24
  case hyb24 => (intro w' hSw; (try dsimp only at hSw); go_simp; (try with_reducible rfl))
  try simp only [Act.put, List.setIfInBounds_toArray, List.set_cons_zero, List.set_cons_succ, List.getElem_toArray, List.getElem_cons_succ, List.getElem_cons_zero]
  refine' wpAnyH_take (i := 25) (v := _) rfl (by kernel_rfl) (by kernel_rfl) (by kernel_rfl) (fun _ _ _ h => h) (Or.inl ⟨by rfl, ?hyb25⟩) hHeld ?restb25
  case hyb25 => (intro w' hSw; (try dsimp only at hSw); go_simp; (try with_reducible rfl))
  try simp only [Act.put, List.setIfInBounds_toArray, List.set_cons_zero, List.set_cons_succ, List.getElem_toArray, List.getElem_cons_succ, List.getElem_cons_zero]
  refine' wpAnyH_take (i := 26) (v := _) rfl (by kernel_rfl) (by kernel_rfl) (by kernel_rfl) (fun _ _ _ h => h) (Or.inl ⟨by rfl, ?hyb26⟩) hHeld ?restb26
  case hyb26 => (intro w' hSw; (try dsimp only at hSw); go_simp; (try with_reducible rfl))
  try simp only [Act.put, List.setIfInBounds_toArray, List.set_cons_zero, List.set_cons_succ, List.getElem_toArray, List.getElem_cons_succ, List.getElem_cons_zero]
  refine wpAnyH_ready (rs := [27]) (by kernel_rfl) (by simp) ?_
  refine AllReadyH.cons rfl (fun K hK => ?_) AllReadyH.nil
  go_simp
  (go_at_call 8; refine (checkS_any (lg := 0) (HBK.out.ext (X6.out.trans (by exact (by repeat (first | exact Ext.refl _ | assumption | apply Ext.alloc | apply Ext.drew))))) (HQK.out.ext (X6.out.trans (by exact (by repeat (first | exact Ext.refl _ | assumption | apply Ext.alloc | apply Ext.drew)))))).mono ?_; rintro e w18 ⟨rfl, hv⟩; rw [k13]; have hx18 : Ext w6 w18 := Ext.trans (by repeat (first | exact Ext.refl _ | assumption | apply Ext.alloc | apply Ext.drew)) hv; clear hv)
  go_wp2_with fail
  refine hK.out _ _ ⟨(Ext.cell (p := ⟨w1.heap.size, 0, none⟩) (by repeat (first | exact Ext.refl _ | assumption | apply Ext.alloc | apply Ext.drew)) qlt).trans q0, (Ext.cell (p := ⟨w1.heap.size, 1, none⟩) (by repeat (first | exact Ext.refl _ | assumption | apply Ext.alloc | apply Ext.drew)) qlt).trans q1, (Ext.cell (p := ⟨w1.heap.size, 2, none⟩) (by repeat (first | exact Ext.refl _ | assumption | apply Ext.alloc | apply Ext.drew)) qlt).trans q2, (Ext.cell (p := ⟨w1.heap.size + 1 + 1 + 1, 0, none⟩) (by repeat (first | exact Ext.refl _ | assumption | apply Ext.alloc | apply Ext.drew)) slt).trans s0, (Ext.cell (p := ⟨w1.heap.size + 1 + 1 + 1, 1, none⟩) (by repeat (first | exact Ext.refl _ | assumption | apply Ext.alloc | apply Ext.drew)) slt).trans s1, (Ext.cell (p := ⟨w1.heap.size + 1 + 1 + 1, 2, none⟩) (by repeat (first | exact Ext.refl _ | assumption | apply Ext.alloc | apply Ext.drew)) slt).trans s2, (Ext.cell (p := adl) (by repeat (first | exact Ext.refl _ | assumption | apply Ext.alloc | apply Ext.drew)) hltl).trans huf⟩ (fun hHeld => ?_)
  clear hK K
  try simp only [Act.put, List.setIfInBounds_toArray, List.set_cons_zero, List.set_cons_succ, List.getElem_toArray, List.getElem_cons_succ, List.getElem_cons_zero]
  refine' wpAnyH_take (i := 28) (v := _) rfl (by kernel_rfl) (by kernel_rfl) (by kernel_rfl) (fun _ _ _ h => h) (Or.inl ⟨by rfl, ?hyb28⟩) hHeld ?restb28
  case hyb28 => (intro w' hSw; (try dsimp only at hSw); go_simp; (try with_reducible rfl))
  try simp only [Act.put, List.setIfInBounds_toArray, List.set_cons_zero, List.set_cons_succ, List.getElem_toArray, List.getElem_cons_succ, List.getElem_cons_zero]
  refine' wpAnyH_take (i := 29) (v := _) rfl (by kernel_rfl) (by kernel_rfl) (by kernel_rfl) (fun _ _ _ h => h) (Or.inl ⟨by rfl, ?hyb29⟩) hHeld ?restb29
  case hyb29 => (intro w' hSw; (try dsimp only at hSw); go_simp; (try with_reducible rfl))
  try simp only [Act.put, List.setIfInBounds_toArray, List.set_cons_zero, List.set_cons_succ, List.getElem_toArray, List.getElem_cons_succ, List.getElem_cons_zero]
  refine' wpAnyH_take (i := 30) (v := _) rfl (by kernel_rfl) (by kernel_rfl) (by kernel_rfl) (fun _ _ _ h => h) (Or.inl ⟨by rfl, ?hyb30⟩) hHeld ?restb30
  case hyb30 => (intro w' hSw; (try dsimp only at hSw); go_simp; (try with_reducible rfl))
  try simp only [Act.put, List.setIfInBounds_toArray, List.set_cons_zero, List.set_cons_succ, List.getElem_toArray, List.getElem_cons_succ, List.getElem_cons_zero]
  refine' wpAnyH_take (i := 31) (v := _) rfl (by kernel_rfl) (by kernel_rfl) (by kernel_rfl) (fun _ _ _ h => h) (Or.inl ⟨by rfl, ?hyb31⟩) hHeld ?restb31
  case hyb31 => (intro w' hSw; (try dsimp only at hSw); go_simp; (try with_reducible rfl))
  try simp only [Act.put, List.setIfInBounds_toArray, List.set_cons_zero, List.set_cons_succ, List.getElem_toArray, List.getElem_cons_succ, List.getElem_cons_zero]
  refine' wpAnyH_take (i := 32) (v := _) rfl (by kernel_rfl) (by kernel_rfl) (by kernel_rfl) (fun _ _ _ h => h) (Or.inl ⟨by rfl, ?hyb32⟩) hHeld ?restb32
  case hyb32 => (intro w' hSw; (try dsimp only at hSw); go_simp; (try with_reducible rfl))
  try simp only [Act.put, List.setIfInBounds_toArray, List.set_cons_zero, List.set_cons_succ, List.getElem_toArray, List.getElem_cons_succ, List.getElem_cons_zero]
  refine' wpAnyH_take (i := 33) (v := _) rfl (by kernel_rfl) (by kernel_rfl) (by kernel_rfl) (fun _ _ _ h => h) (Or.inl ⟨by rfl, ?hyb33⟩) hHeld ?restb33
  case hyb33 => (intro w' hSw; (try dsimp only at hSw); go_simp; (try with_reducible rfl))
  try simp only [Act.put, List.setIfInBounds_toArray, List.set_cons_zero, List.set_cons_succ, List.getElem_toArray, List.getElem_cons_succ, List.getElem_cons_zero]
  refine' wpAnyH_take (i := 34) (v := _) rfl (by kernel_rfl) (by kernel_rfl) (by kernel_rfl) (fun _ _ _ h => h) (Or.inl ⟨by rfl, ?hyb34⟩) hHeld ?restb34
  case hyb34 => (intro w' hSw; (try dsimp only at hSw); go_simp; (try with_reducible rfl))
  try simp only [Act.put, List.setIfInBounds_toArray, List.set_cons_zero, List.set_cons_succ, List.getElem_toArray, List.getElem_cons_succ, List.getElem_cons_zero]
  refine' wpAnyH_take (i := 35) (v := _) rfl (by kernel_rfl) (by kernel_rfl) (by kernel_rfl) (fun _ _ _ h => h) (Or.inl ⟨by rfl, ?hyb35⟩) hHeld ?restb35
  case hyb35 => (intro w' hSw; (try dsimp only at hSw); go_simp; (try with_reducible rfl))
  try simp only [Act.put, List.setIfInBounds_toArray, List.set_cons_zero, List.set_cons_succ, List.getElem_toArray, List.getElem_cons_succ, List.getElem_cons_zero]
  refine' wpAnyH_take (i := 36) (v := _) rfl (by kernel_rfl) (by kernel_rfl) (by kernel_rfl) (fun _ _ _ h => h) (Or.inl ⟨by rfl, ?hyb36⟩) hHeld ?restb36
  case hyb36 => (intro w' hSw; (try dsimp only at hSw); go_simp; (try with_reducible rfl))
  try simp only [Act.put, List.setIfInBounds_toArray, List.set_cons_zero, List.set_cons_succ, List.getElem_toArray, List.getElem_cons_succ, List.getElem_cons_zero]
  refine' wpAnyH_take (i := 37) (v := _) rfl (by kernel_rfl) (by kernel_rfl) (by kernel_rfl) (fun _ _ _ h => h) (Or.inl ⟨by rfl, ?hyb37⟩) hHeld ?restb37
  case hyb37 => (intro w' hSw; (try dsimp only at hSw); go_simp; (try with_reducible rfl))
  try simp only [Act.put, List.setIfInBounds_toArray, List.set_cons_zero, List.set_cons_succ, List.getElem_toArray, List.getElem_cons_succ, List.getElem_cons_zero]
  refine' wpAnyH_take (i := 38) (v := _) rfl (by kernel_rfl) (by kernel_rfl) (by kernel_rfl) (fun _ _ _ h => h) (Or.inl ⟨by rfl, ?hyb38⟩) hHeld ?restb38
  case hyb38 => (intro w' hSw; (try dsimp only at hSw); go_simp; (try with_reducible rfl))
  try simp only [Act.put, List.setIfInBounds_toArray, List.set_cons_zero, List.set_cons_succ, List.getElem_toArray, List.getElem_cons_succ, List.getElem_cons_zero]
  refine' wpAnyH_take (i := 39) (v := _) rfl (by kernel_rfl) (by kernel_rfl) (by kernel_rfl) (fun _ _ _ h => h) (Or.inl ⟨by rfl, ?hyb39⟩) hHeld ?restb39
  case hyb39 => (intro w' hSw; (try dsimp only at hSw); go_simp; (try with_reducible rfl))
  try simp only [Act.put, List.setIfInBounds_toArray, List.set_cons_zero, List.set_cons_succ, List.getElem_toArray, List.getElem_cons_succ, List.getElem_cons_zero]
  refine' wpAnyH_take (i := 40) (v := _) rfl (by kernel_rfl) (by kernel_rfl) (by kernel_rfl) (fun _ _ _ h => h) (Or.inl ⟨by rfl, ?hyb40⟩) hHeld ?restb40
  case hyb40 => (intro w' hSw; (try dsimp only at hSw); go_simp; (try with_reducible rfl))
  try simp only [Act.put, List.setIfInBounds_toArray, List.set_cons_zero, List.set_cons_succ, List.getElem_toArray, List.getElem_cons_succ, List.getElem_cons_zero]
  refine' wpAnyH_take (i := 41) (v := _) rfl (by kernel_rfl) (by kernel_rfl) (by kernel_rfl) (fun _ _ _ h => h) (Or.inl ⟨by rfl, ?hyb41⟩) hHeld ?restb41
  case hyb41 => (intro w' hSw; (try dsimp only at hSw); go_simp; (try with_reducible rfl))
  try simp only [Act.put, List.setIfInBounds_toArray, List.set_cons_zero, List.set_cons_succ, List.getElem_toArray, List.getElem_cons_succ, List.getElem_cons_zero]
  refine' wpAnyH_take (i := 42) (v := _) rfl (by kernel_rfl) (by kernel_rfl) (by kernel_rfl) (fun _ _ _ h => h) (Or.inl ⟨by rfl, ?hyb42⟩) hHeld ?restb42
  case hyb42 => (intro w' hSw; (try dsimp only at hSw); go_simp; (try with_reducible rfl))
  try simp only [Act.put, List.setIfInBounds_toArray, List.set_cons_zero, List.set_cons_succ, List.getElem_toArray, List.getElem_cons_succ, List.getElem_cons_zero]
  refine' wpAnyH_take (i := 43) (v := _) rfl (by kernel_rfl) (by kernel_rfl) (by kernel_rfl) (fun _ _ _ h => h) (Or.inl ⟨by rfl, ?hyb43⟩) hHeld ?restb43
  case hyb43 => (intro w' hSw; (try dsimp only at hSw); go_simp; (try with_reducible rfl))
  try simp only [Act.put, List.setIfInBounds_toArray, List.set_cons_zero, List.set_cons_succ, List.getElem_toArray, List.getElem_cons_succ, List.getElem_cons_zero]
  refine wpAnyH_ready (rs := [44]) (by kernel_rfl) (by simp) ?_
  refine AllReadyH.cons rfl (fun K hK => ?_) AllReadyH.nil
  go_simp
  (go_at_call 14; refine (know_any 0 i64ok0 _ pN _ (by exact HPx.out.ext (by repeat (first | exact Ext.refl _ | assumption | apply Ext.alloc | apply Ext.drew)))).mono ?_; rintro e w19 ⟨u44, rfl, hm44⟩; have HM44 := Lib.hid hm44.fml; have hv := hm44.2.2; obtain ⟨A44, c44, rfl, _⟩ := fml_slice hm44.fml; clear hm44; have hx19 : Ext w6 w19 := Ext.trans (by repeat (first | exact Ext.refl _ | assumption | apply Ext.alloc | apply Ext.drew)) hv; clear hv)
  go_wp2_with fail
  refine hK.out _ _ ⟨(Ext.cell (p := ⟨w1.heap.size, 0, none⟩) (by repeat (first | exact Ext.refl _ | assumption | apply Ext.alloc | apply Ext.drew)) qlt).trans q0, (Ext.cell (p := ⟨w1.heap.size, 1, none⟩) (by repeat (first | exact Ext.refl _ | assumption | apply Ext.alloc | apply Ext.drew)) qlt).trans q1, (Ext.cell (p := ⟨w1.heap.size, 2, none⟩) (by repeat (first | exact Ext.refl _ | assumption | apply Ext.alloc | apply Ext.drew)) qlt).trans q2, (Ext.cell (p := ⟨w1.heap.size + 1 + 1 + 1, 0, none⟩) (by repeat (first | exact Ext.refl _ | assumption | apply Ext.alloc | apply Ext.drew)) slt).trans s0, (Ext.cell (p := ⟨w1.heap.size + 1 + 1 + 1, 1, none⟩) (by repeat (first | exact Ext.refl _ | assumption | apply Ext.alloc | apply Ext.drew)) slt).trans s1, (Ext.cell (p := ⟨w1.heap.size + 1 + 1 + 1, 2, none⟩) (by repeat (first | exact Ext.refl _ | assumption | apply Ext.alloc | apply Ext.drew)) slt).trans s2, (Ext.cell (p := adl) (by repeat (first | exact Ext.refl _ | assumption | apply Ext.alloc | apply Ext.drew)) hltl).trans huf⟩ (fun hHeld => ?_)
  clear hK K
  try simp only [Act.put, List.setIfInBounds_toArray, List.set_cons_zero, List.set_cons_succ, List.getElem_toArray, List.getElem_cons_succ, List.getElem_cons_zero]
  refine wpAnyH_ready (rs := [45]) (by kernel_rfl) (by simp) ?_
  refine AllReadyH.cons rfl (fun K hK => ?_) AllReadyH.nil
  go_simp
  (go_at_call 17; refine (same_any _ _ fa (knowN 0 pN) _ (by exact HFA.out.ext (by repeat (first | exact Ext.refl _ | assumption | apply Ext.alloc | apply Ext.drew))) (by exact HM44.out.ext (by repeat (first | exact Ext.refl _ | assumption | apply Ext.alloc | apply Ext.drew)))).mono ?_; rintro e w20 ⟨rfl, hv⟩; rw [HSAME.out]; have hx20 : Ext w6 w20 := Ext.trans (by repeat (first | exact Ext.refl _ | assumption | apply Ext.alloc | apply Ext.drew)) hv; clear hv)
  go_wp2_with fail
  refine hK.out _ _ ⟨(Ext.cell (p := ⟨w1.heap.size, 0, none⟩) (by repeat (first | exact Ext.refl _ | assumption | apply Ext.alloc | apply Ext.drew)) qlt).trans q0, (Ext.cell (p := ⟨w1.heap.size, 1, none⟩) (by repeat (first | exact Ext.refl _ | assumption | apply Ext.alloc | apply Ext.drew)) qlt).trans q1, (Ext.cell (p := ⟨w1.heap.size, 2, none⟩) (by repeat (first | exact Ext.refl _ | assumption | apply Ext.alloc | apply Ext.drew)) qlt).trans q2, (Ext.cell (p := ⟨w1.heap.size + 1 + 1 + 1, 0, none⟩) (by repeat (first | exact Ext.refl _ | assumption | apply Ext.alloc | apply Ext.drew)) slt).trans s0, (Ext.cell (p := ⟨w1.heap.size + 1 + 1 + 1, 1, none⟩) (by repeat (first | exact Ext.refl _ | assumption | apply Ext.alloc | apply Ext.drew)) slt).trans s1, (Ext.cell (p := ⟨w1.heap.size + 1 + 1 + 1, 2, none⟩) (by repeat (first | exact Ext.refl _ | assumption | apply Ext.alloc | apply Ext.drew)) slt).trans s2, (Ext.cell (p := adl) (by repeat (first | exact Ext.refl _ | assumption | apply Ext.alloc | apply Ext.drew)) hltl).trans huf⟩ (fun hHeld => ?_)
  clear hK K
  try simp only [Act.put, List.setIfInBounds_toArray, List.set_cons_zero, List.set_cons_succ, List.getElem_toArray, List.getElem_cons_succ, List.getElem_cons_zero]
  refine' wpAnyH_take (i := 46) (v := _) rfl (by kernel_rfl) (by kernel_rfl) (by kernel_rfl) (fun _ _ _ h => h) (Or.inl ⟨by rfl, ?hyb46⟩) hHeld ?restb46
  case hyb46 => (intro w' hSw; (try dsimp only at hSw); go_simp; (try with_reducible rfl))
  try simp only [Act.put, List.setIfInBounds_toArray, List.set_cons_zero, List.set_cons_succ, List.getElem_toArray, List.getElem_cons_succ, List.getElem_cons_zero]
  refine' wpAnyH_take (i := 47) (v := _) rfl (by kernel_rfl) (by kernel_rfl) (by kernel_rfl) (fun _ _ _ h => h) (Or.inl ⟨by rfl, ?hyb47⟩) hHeld ?restb47
  case hyb47 => (intro w' hSw; (try dsimp only at hSw); go_simp; (try with_reducible rfl))
  try simp only [Act.put, List.setIfInBounds_toArray, List.set_cons_zero, List.set_cons_succ, List.getElem_toArray, List.getElem_cons_succ, List.getElem_cons_zero]
  refine' wpAnyH_take (i := 48) (v := _) rfl (by kernel_rfl) (by kernel_rfl) (by kernel_rfl) (fun _ _ _ h => h) (Or.inl ⟨by rfl, ?hyb48⟩) hHeld ?restb48
  case hyb48 => (intro w' hSw; (try dsimp only at hSw); go_simp; (try with_reducible rfl))
  try simp only [Act.put, List.setIfInBounds_toArray, List.set_cons_zero, List.set_cons_succ, List.getElem_toArray, List.getElem_cons_succ, List.getElem_cons_zero]
  refine' wpAnyH_take (i := 49) (v := _) rfl (by kernel_rfl) (by kernel_rfl) (by kernel_rfl) (fun _ _ _ h => h) (Or.inl ⟨by rfl, ?hyb49⟩) hHeld ?restb49
  case hyb49 => (intro w' hSw; (try dsimp only at hSw); go_simp; (try with_reducible rfl))
  try simp only [Act.put, List.setIfInBounds_toArray, List.set_cons_zero, List.set_cons_succ, List.getElem_toArray, List.getElem_cons_succ, List.getElem_cons_zero]
  refine wpAnyH_ready (rs := [50]) (by kernel_rfl) (by simp) ?_
  refine AllReadyH.cons rfl (fun K hK => ?_) AllReadyH.nil
  go_simp
  (go_at_call 18; refine (Negation_any _ baseT 2 _ (HB.out.ext (XB.out.trans (by exact (by repeat (first | exact Ext.refl _ | assumption | apply Ext.alloc | apply Ext.drew)))))).mono ?_; rintro e w21 ⟨rfl, hv⟩; rw [k17]; have hx21 : Ext w6 w21 := Ext.trans (by repeat (first | exact Ext.refl _ | assumption | apply Ext.alloc | apply Ext.drew)) hv; clear hv)
  go_wp2_with fail
  refine hK.out _ _ ⟨(Ext.cell (p := ⟨w1.heap.size, 0, none⟩) (by repeat (first | exact Ext.refl _ | assumption | apply Ext.alloc | apply Ext.drew)) qlt).trans q0, (Ext.cell (p := ⟨w1.heap.size, 1, none⟩) (by repeat (first | exact Ext.refl _ | assumption | apply Ext.alloc | apply Ext.drew)) qlt).trans q1, (Ext.cell (p := ⟨w1.heap.size, 2, none⟩) (by repeat (first | exact Ext.refl _ | assumption | apply Ext.alloc | apply Ext.drew)) qlt).trans q2, (Ext.cell (p := ⟨w1.heap.size + 1 + 1 + 1, 0, none⟩) (by repeat (first | exact Ext.refl _ | assumption | apply Ext.alloc | apply Ext.drew)) slt).trans s0, (Ext.cell (p := ⟨w1.heap.size + 1 + 1 + 1, 1, none⟩) (by repeat (first | exact Ext.refl _ | assumption | apply Ext.alloc | apply Ext.drew)) slt).trans s1, (Ext.cell (p := ⟨w1.heap.size + 1 + 1 + 1, 2, none⟩) (by repeat (first | exact Ext.refl _ | assumption | apply Ext.alloc | apply Ext.drew)) slt).trans s2, (Ext.cell (p := adl) (by repeat (first | exact Ext.refl _ | assumption | apply Ext.alloc | apply Ext.drew)) hltl).trans huf⟩ (fun hHeld => ?_)
  clear hK K
  try simp only [Act.put, List.setIfInBounds_toArray, List.set_cons_zero, List.set_cons_succ, List.getElem_toArray, List.getElem_cons_succ, List.getElem_cons_zero]
  refine' wpAnyH_take (i := 51) (v := _) rfl (by kernel_rfl) (by kernel_rfl) (by kernel_rfl) (fun _ _ _ h => h) (Or.inl ⟨by rfl, ?hyb51⟩) hHeld ?restb51
  case hyb51 => (intro w' hSw; (try dsimp only at hSw); go_simp; (try with_reducible rfl))
  try simp only [Act.put, List.setIfInBounds_toArray, List.set_cons_zero, List.set_cons_succ, List.getElem_toArray, List.getElem_cons_succ, List.getElem_cons_zero]
  refine' wpAnyH_take (i := 52) (v := _) rfl (by kernel_rfl) (by kernel_rfl) (by kernel_rfl) (fun _ _ _ h => h) (Or.inl ⟨by rfl, ?hyb52⟩) hHeld ?restb52
  case hyb52 => (intro w' hSw; (try dsimp only at hSw); go_simp; (try with_reducible rfl))
  try simp only [Act.put, List.setIfInBounds_toArray, List.set_cons_zero, List.set_cons_succ, List.getElem_toArray, List.getElem_cons_succ, List.getElem_cons_zero]
  refine' wpAnyH_take (i := 53) (v := _) rfl (by kernel_rfl) (by kernel_rfl) (by kernel_rfl) (fun _ _ _ h => h) (Or.inl ⟨by rfl, ?hyb53⟩) hHeld ?restb53
  case hyb53 => (intro w' hSw; (try dsimp only at hSw); go_simp; (try with_reducible rfl))
  try simp only [Act.put, List.setIfInBounds_toArray, List.set_cons_zero, List.set_cons_succ, List.getElem_toArray, List.getElem_cons_succ, List.getElem_cons_zero]
  refine' wpAnyH_take (i := 54) (v := _) rfl (by kernel_rfl) (by kernel_rfl) (by kernel_rfl) (fun _ _ _ h => h) (Or.inl ⟨by rfl, ?hyb54⟩) hHeld ?restb54
  case hyb54 => (intro w' hSw; (try dsimp only at hSw); go_simp; (try with_reducible rfl))
  try simp only [Act.put, List.setIfInBounds_toArray, List.set_cons_zero, List.set_cons_succ, List.getElem_toArray, List.getElem_cons_succ, List.getElem_cons_zero]
  refine' wpAnyH_take (i := 55) (v := _) rfl (by kernel_rfl) (by kernel_rfl) (by kernel_rfl) (fun _ _ _ h => h) (Or.inl ⟨by rfl, ?hyb55⟩) hHeld ?restb55
  case hyb55 => (intro w' hSw; (try dsimp only at hSw); go_simp; (try with_reducible rfl))
  try simp only [Act.put, List.setIfInBounds_toArray, List.set_cons_zero, List.set_cons_succ, List.getElem_toArray, List.getElem_cons_succ, List.getElem_cons_zero]
  refine wpAnyH_ready (rs := [56]) (by kernel_rfl) (by simp) ?_
  refine AllReadyH.cons rfl (fun K hK => ?_) AllReadyH.nil
  go_simp
  (go_at_call 18; refine (Negation_any _ baseT 4 _ (HB.out.ext (XB.out.trans (by exact (by repeat (first | exact Ext.refl _ | assumption | apply Ext.alloc | apply Ext.drew)))))).mono ?_; rintro e w22 ⟨rfl, hv⟩; rw [k18]; have hx22 : Ext w6 w22 := Ext.trans (by repeat (first | exact Ext.refl _ | assumption | apply Ext.alloc | apply Ext.drew)) hv; clear hv)
  go_wp2_with fail
  refine hK.out _ _ ⟨(Ext.cell (p := ⟨w1.heap.size, 0, none⟩) (by repeat (first | exact Ext.refl _ | assumption | apply Ext.alloc | apply Ext.drew)) qlt).trans q0, (Ext.cell (p := ⟨w1.heap.size, 1, none⟩) (by repeat (first | exact Ext.refl _ | assumption | apply Ext.alloc | apply Ext.drew)) qlt).trans q1, (Ext.cell (p := ⟨w1.heap.size, 2, none⟩) (by repeat (first | exact Ext.refl _ | assumption | apply Ext.alloc | apply Ext.drew)) qlt).trans q2, (Ext.cell (p := ⟨w1.heap.size + 1 + 1 + 1, 0, none⟩) (by repeat (first | exact Ext.refl _ | assumption | apply Ext.alloc | apply Ext.drew)) slt).trans s0, (Ext.cell (p := ⟨w1.heap.size + 1 + 1 + 1, 1, none⟩) (by repeat (first | exact Ext.refl _ | assumption | apply Ext.alloc | apply Ext.drew)) slt).trans s1, (Ext.cell (p := ⟨w1.heap.size + 1 + 1 + 1, 2, none⟩) (by repeat (first | exact Ext.refl _ | assumption | apply Ext.alloc | apply Ext.drew)) slt).trans s2, (Ext.cell (p := adl) (by repeat (first | exact Ext.refl _ | assumption | apply Ext.alloc | apply Ext.drew)) hltl).trans huf⟩ (fun hHeld => ?_)
  clear hK K
  try simp only [Act.put, List.setIfInBounds_toArray, List.set_cons_zero, List.set_cons_succ, List.getElem_toArray, List.getElem_cons_succ, List.getElem_cons_zero]
  refine' wpAnyH_take (i := 57) (v := _) rfl (by kernel_rfl) (by kernel_rfl) (by kernel_rfl) (fun _ _ _ h => h) (Or.inl ⟨by rfl, ?hyb57⟩) hHeld ?restb57
  case hyb57 => (intro w' hSw; (try dsimp only at hSw); go_simp; (try with_reducible rfl))
  try simp only [Act.put, List.setIfInBounds_toArray, List.set_cons_zero, List.set_cons_succ, List.getElem_toArray, List.getElem_cons_succ, List.getElem_cons_zero]
  refine' wpAnyH_take (i := 58) (v := _) rfl (by kernel_rfl) (by kernel_rfl) (by kernel_rfl) (fun _ _ _ h => h) (Or.inl ⟨by rfl, ?hyb58⟩) hHeld ?restb58
  case hyb58 => (intro w' hSw; (try dsimp only at hSw); go_simp; (try with_reducible rfl))
  try simp only [Act.put, List.setIfInBounds_toArray, List.set_cons_zero, List.set_cons_succ, List.getElem_toArray, List.getElem_cons_succ, List.getElem_cons_zero]
  refine' wpAnyH_take (i := 59) (v := _) rfl (by kernel_rfl) (by kernel_rfl) (by kernel_rfl) (fun _ _ _ h => h) (Or.inl ⟨by rfl, ?hyb59⟩) hHeld ?restb59
  case hyb59 => (intro w' hSw; (try dsimp only at hSw); go_simp; (try with_reducible rfl))
  try simp only [Act.put, List.setIfInBounds_toArray, List.set_cons_zero, List.set_cons_succ, List.getElem_toArray, List.getElem_cons_succ, List.getElem_cons_zero]
  refine' wpAnyH_take (i := 60) (v := _) rfl (by kernel_rfl) (by kernel_rfl) (by kernel_rfl) (fun _ _ _ h => h) (Or.inl ⟨by rfl, ?hyb60⟩) hHeld ?restb60
  case hyb60 => (intro w' hSw; (try dsimp only at hSw); go_simp; (try with_reducible rfl))
  try simp only [Act.put, List.setIfInBounds_toArray, List.set_cons_zero, List.set_cons_succ, List.getElem_toArray, List.getElem_cons_succ, List.getElem_cons_zero]
  refine' wpAnyH_take (i := 61) (v := _) rfl (by kernel_rfl) (by kernel_rfl) (by kernel_rfl) (fun _ _ _ h => h) (Or.inl ⟨by rfl, ?hyb61⟩) hHeld ?restb61
  case hyb61 => (intro w' hSw; (try dsimp only at hSw); go_simp; (try with_reducible rfl))
  try simp only [Act.put, List.setIfInBounds_toArray, List.set_cons_zero, List.set_cons_succ, List.getElem_toArray, List.getElem_cons_succ, List.getElem_cons_zero]
  refine wpAnyH_ready (rs := [62]) (by kernel_rfl) (by simp) ?_
  refine AllReadyH.cons rfl (fun K hK => ?_) AllReadyH.nil
  go_simp
  (go_at_call 19; refine (Carry_any 0 _ baseT 12 0 _ (HB.out.ext (XB.out.trans (by exact (by repeat (first | exact Ext.refl _ | assumption | apply Ext.alloc | apply Ext.drew))))) (by decide)).mono ?_; rintro e w23 ⟨rfl, hv⟩; rw [k19i]; have hx23 : Ext w6 w23 := Ext.trans (by repeat (first | exact Ext.refl _ | assumption | apply Ext.alloc | apply Ext.drew)) hv; clear hv)
  go_wp2_with fail
  refine hK.out _ _ ⟨(Ext.cell (p := ⟨w1.heap.size, 0, none⟩) (by repeat (first | exact Ext.refl _ | assumption | apply Ext.alloc | apply Ext.drew)) qlt).trans q0, (Ext.cell (p := ⟨w1.heap.size, 1, none⟩) (by repeat (first | exact Ext.refl _ | assumption | apply Ext.alloc | apply Ext.drew)) qlt).trans q1, (Ext.cell (p := ⟨w1.heap.size, 2, none⟩) (by repeat (first | exact Ext.refl _ | assumption | apply Ext.alloc | apply Ext.drew)) qlt).trans q2, (Ext.cell (p := ⟨w1.heap.size + 1 + 1 + 1, 0, none⟩) (by repeat (first | exact Ext.refl _ | assumption | apply Ext.alloc | apply Ext.drew)) slt).trans s0, (Ext.cell (p := ⟨w1.heap.size + 1 + 1 + 1, 1, none⟩) (by repeat (first | exact Ext.refl _ | assumption | apply Ext.alloc | apply Ext.drew)) slt).trans s1, (Ext.cell (p := ⟨w1.heap.size + 1 + 1 + 1, 2, none⟩) (by repeat (first | exact Ext.refl _ | assumption | apply Ext.alloc | apply Ext.drew)) slt).trans s2, (Ext.cell (p := adl) (by repeat (first | exact Ext.refl _ | assumption | apply Ext.alloc | apply Ext.drew)) hltl).trans huf⟩ (fun hHeld => ?_)
  clear hK K
  try simp only [Act.put, List.setIfInBounds_toArray, List.set_cons_zero, List.set_cons_succ, List.getElem_toArray, List.getElem_cons_succ, List.getElem_cons_zero]
  refine' wpAnyH_take (i := 63) (v := _) rfl (by kernel_rfl) (by kernel_rfl) (by kernel_rfl) (fun _ _ _ h => h) (Or.inl ⟨by rfl, ?hyb63⟩) hHeld ?restb63
  case hyb63 => (intro w' hSw; (try dsimp only at hSw); go_simp; (try with_reducible rfl))
  try simp only [Act.put, List.setIfInBounds_toArray, List.set_cons_zero, List.set_cons_succ, List.getElem_toArray, List.getElem_cons_succ, List.getElem_cons_zero]
  refine' wpAnyH_take (i := 64) (v := _) rfl (by kernel_rfl) (by kernel_rfl) (by kernel_rfl) (fun _ _ _ h => h) (Or.inl ⟨by rfl, ?hyb64⟩) hHeld ?restb64
  case hyb64 => (intro w' hSw; (try dsimp only at hSw); go_simp; (try with_reducible rfl))
  try simp only [Act.put, List.setIfInBounds_toArray, List.set_cons_zero, List.set_cons_succ, List.getElem_toArray, List.getElem_cons_succ, List.getElem_cons_zero]
  refine' wpAnyH_take (i := 65) (v := _) rfl (by kernel_rfl) (by kernel_rfl) (by kernel_rfl) (fun _ _ _ h => h) (Or.inl ⟨by rfl, ?hyb65⟩) hHeld ?restb65
  case hyb65 => (intro w' hSw; (try dsimp only at hSw); go_simp; (try with_reducible rfl))
  try simp only [Act.put, List.setIfInBounds_toArray, List.set_cons_zero, List.set_cons_succ, List.getElem_toArray, List.getElem_cons_succ, List.getElem_cons_zero]
  refine' wpAnyH_take (i := 66) (v := _) rfl (by kernel_rfl) (by kernel_rfl) (by kernel_rfl) (fun _ _ _ h => h) (Or.inl ⟨by rfl, ?hyb66⟩) hHeld ?restb66
  case hyb66 => (intro w' hSw; (try dsimp only at hSw); go_simp; (try with_reducible rfl))
  try simp only [Act.put, List.setIfInBounds_toArray, List.set_cons_zero, List.set_cons_succ, List.getElem_toArray, List.getElem_cons_succ, List.getElem_cons_zero]
  refine' wpAnyH_take (i := 67) (v := _) rfl (by kernel_rfl) (by kernel_rfl) (by kernel_rfl) (fun _ _ _ h => h) (Or.inl ⟨by rfl, ?hyb67⟩) hHeld ?restb67
  case hyb67 => (intro w' hSw; (try dsimp only at hSw); go_simp; (try with_reducible rfl))
  try simp only [Act.put, List.setIfInBounds_toArray, List.set_cons_zero, List.set_cons_succ, List.getElem_toArray, List.getElem_cons_succ, List.getElem_cons_zero]
  refine wpAnyH_ready (rs := [68]) (by kernel_rfl) (by simp) ?_
  refine AllReadyH.cons rfl (fun K hK => ?_) AllReadyH.nil
  go_simp
  (go_at_call 19; refine (Carry_any 6 _ baseT 12 0 _ (HB.out.ext (XB.out.trans (by exact (by repeat (first | exact Ext.refl _ | assumption | apply Ext.alloc | apply Ext.drew))))) (by decide)).mono ?_; rintro e w24 ⟨rfl, hv⟩; rw [k20i]; have hx24 : Ext w6 w24 := Ext.trans (by repeat (first | exact Ext.refl _ | assumption | apply Ext.alloc | apply Ext.drew)) hv; clear hv)
  go_wp2_with fail
  refine hK.out _ _ ⟨(Ext.cell (p := ⟨w1.heap.size, 0, none⟩) (by repeat (first | exact Ext.refl _ | assumption | apply Ext.alloc | apply Ext.drew)) qlt).trans q0, (Ext.cell (p := ⟨w1.heap.size, 1, none⟩) (by repeat (first | exact Ext.refl _ | assumption | apply Ext.alloc | apply Ext.drew)) qlt).trans q1, (Ext.cell (p := ⟨w1.heap.size, 2, none⟩) (by repeat (first | exact Ext.refl _ | assumption | apply Ext.alloc | apply Ext.drew)) qlt).trans q2, (Ext.cell (p := ⟨w1.heap.size + 1 + 1 + 1, 0, none⟩) (by repeat (first | exact Ext.refl _ | assumption | apply Ext.alloc | apply Ext.drew)) slt).trans s0, (Ext.cell (p := ⟨w1.heap.size + 1 + 1 + 1, 1, none⟩) (by repeat (first | exact Ext.refl _ | assumption | apply Ext.alloc | apply Ext.drew)) slt).trans s1, (Ext.cell (p := ⟨w1.heap.size + 1 + 1 + 1, 2, none⟩) (by repeat (first | exact Ext.refl _ | assumption | apply Ext.alloc | apply Ext.drew)) slt).trans s2, (Ext.cell (p := adl) (by repeat (first | exact Ext.refl _ | assumption | apply Ext.alloc | apply Ext.drew)) hltl).trans huf⟩ (fun hHeld => ?_)
  clear hK K
  try simp only [Act.put, List.setIfInBounds_toArray, List.set_cons_zero, List.set_cons_succ, List.getElem_toArray, List.getElem_cons_succ, List.getElem_cons_zero]
  refine' wpAnyH_take (i := 69) (v := _) rfl (by kernel_rfl) (by kernel_rfl) (by kernel_rfl) (fun _ _ _ h => h) (Or.inl ⟨by rfl, ?hyb69⟩) hHeld ?restb69
  case hyb69 => (intro w' hSw; (try dsimp only at hSw); go_simp; (try with_reducible rfl))
  try simp only [Act.put, List.setIfInBounds_toArray, List.set_cons_zero, List.set_cons_succ, List.getElem_toArray, List.getElem_cons_succ, List.getElem_cons_zero]
  refine' wpAnyH_take (i := 70) (v := _) rfl (by kernel_rfl) (by kernel_rfl) (by kernel_rfl) (fun _ _ _ h => h) (Or.inl ⟨by rfl, ?hyb70⟩) hHeld ?restb70
  case hyb70 => (intro w' hSw; (try dsimp only at hSw); go_simp; (try with_reducible rfl))
  try simp only [Act.put, List.setIfInBounds_toArray, List.set_cons_zero, List.set_cons_succ, List.getElem_toArray, List.getElem_cons_succ, List.getElem_cons_zero]
  refine' wpAnyH_take (i := 71) (v := _) rfl (by kernel_rfl) (by kernel_rfl) (by kernel_rfl) (fun _ _ _ h => h) (Or.inl ⟨by rfl, ?hyb71⟩) hHeld ?restb71
  case hyb71 => (intro w' hSw; (try dsimp only at hSw); go_simp; (try with_reducible rfl))
  try simp only [Act.put, List.setIfInBounds_toArray, List.set_cons_zero, List.getElem_toArray, List.getElem_cons_succ, List.getElem_cons_zero]
  refine wpAnyH_done (by kernel_rfl) ?_ _
  go_wp2_with fail
  go_ret
  exact ⟨rfl, (HX1.out.trans XB.out).trans (by repeat (first | exact Ext.refl _ | assumption | apply Ext.alloc | apply Ext.drew))⟩
end Go.Proofs.Ytfcmdiigfgbgbaa
