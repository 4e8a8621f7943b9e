/- The law's awake is true. -/
import Derived.Test.YtdpblciohodgcaaGreatDoorS13
import Derived.Test.YtdpblciohodgcaaGreatDoorS17
import Derived.Test.YtdpblciohodgcaaGreatDoorS27

namespace Go.Proofs.YtdpblciohodgcaaGreatDoor
open Go.RowKit

theorem k19i : ((CarryN 0 baseT 12 0 : Nat) : Int) = 1 := by rw [k19]; rfl
theorem k20i : ((CarryN 6 baseT 12 0 : Nat) : Int) = 13 := by rw [k20]; rfl
theorem two_of {l : List (List Nd)} (h : l.length = 2) : ∃ a b, l = [a, b] := by
  match l, h with
  | [a, b], _ => exact ⟨a, b, rfl⟩
theorem four (w : World) (o0 o1 o2 o3 : Obj) : ((((w.alloc o0).alloc o1).alloc o2).alloc o3).heap[w.heap.size]? = some o0 ∧ ((((w.alloc o0).alloc o1).alloc o2).alloc o3).heap[w.heap.size + 1]? = some o1 ∧
    ((((w.alloc o0).alloc o1).alloc o2).alloc o3).heap[w.heap.size + 1 + 1]? = some o2 ∧ ((((w.alloc o0).alloc o1).alloc o2).alloc o3).heap[w.heap.size + 1 + 1 + 1]? = some o3 := by
  refine ⟨?_, ?_, ?_, ?_⟩
  · rw [at_lt _ _ _ (by simp; omega), at_lt _ _ _ (by simp; omega), at_lt _ _ _ (by simp), at_eq _ _ _ (by simp)]
  · rw [at_lt _ _ _ (by simp), at_lt _ _ _ (by simp), at_eq _ _ _ (by simp)]
  · rw [at_lt _ _ _ (by simp), at_eq _ _ _ (by simp)]
  · rw [at_eq _ _ _ (by simp)]
theorem fml_ad {w : World} {A : Option Addr} {n c : Nat} {l : List Nd} (h : Fml w (.slice A n c) l) (hl : l ≠ []) : ∃ ad, A = some ad := by
  obtain ⟨_, _, e, _, _, hr⟩ := h.1
  injection e with e1 _ _
  obtain ⟨ad, hA, _⟩ := hr hl
  exact ⟨ad, e1.trans hA⟩
theorem i64ok0 : i64ok 0 := by unfold i64ok; decide
set_option maxRecDepth 100000 in
set_option maxHeartbeats 16000000 in
theorem awake_any (w : World) : Calls Tryz.prog 5 #[] w fun e w' => e = .returned (.bool true) ∧ Ext w w' := by
  go_enter Tryz.func5, Tryz.ntmps5
  go_wp2_with fail
  refine (truth_any 2 _).mono ?_
  rintro e w1 ⟨A1, A2, rfl, hx, hfb, hfs⟩
  have HX1 := Lib.hid hx
  have HB := Lib.hid hfb
  have HS := Lib.hid hfs
  have HB4 := Lib.hid (nds_take4 hfb)
  obtain ⟨ad1, hA1⟩ := fml_ad hfb (by decide)
  subst hA1
  have F := four w1 (.cells #[.int .i64 2, .slice (some ad1) 5 5, .slice A2 3 3] 25) (.cells #[.int .i64 0] 3) (.cells #[.int .u64 3, .int .i64 1, .int .i64 0, .int .i64 1, .slice none 0 0, .int .u64 12, .int .i64 6, .int .i64 3, .int .i64 0, .slice (some ⟨w1.heap.size + 1, 0, none⟩) 1 1] 49) (.cells #[.int .i64 0, .slice (some ad1) 4 5, .slice (some ⟨w1.heap.size + 1 + 1, 0, none⟩) 2 2] 25)
  have HBK := Lib.hid (HB4.out.ext (show Ext w1 ((((w1.alloc (.cells #[.int .i64 2, .slice (some ad1) 5 5, .slice A2 3 3] 25)).alloc (.cells #[.int .i64 0] 3)).alloc (.cells #[.int .u64 3, .int .i64 1, .int .i64 0, .int .i64 1, .slice none 0 0, .int .u64 12, .int .i64 6, .int .i64 3, .int .i64 0, .slice (some ⟨w1.heap.size + 1, 0, none⟩) 1 1] 49)).alloc (.cells #[.int .i64 0, .slice (some ad1) 4 5, .slice (some ⟨w1.heap.size + 1 + 1, 0, none⟩) 2 2] 25)) from xw))
  have HQK := Lib.hid (show Sps ((((w1.alloc (.cells #[.int .i64 2, .slice (some ad1) 5 5, .slice A2 3 3] 25)).alloc (.cells #[.int .i64 0] 3)).alloc (.cells #[.int .u64 3, .int .i64 1, .int .i64 0, .int .i64 1, .slice none 0 0, .int .u64 12, .int .i64 6, .int .i64 3, .int .i64 0, .slice (some ⟨w1.heap.size + 1, 0, none⟩) 1 1] 49)).alloc (.cells #[.int .i64 0, .slice (some ad1) 4 5, .slice (some ⟨w1.heap.size + 1 + 1, 0, none⟩) 2 2] 25)) (.slice (some ⟨w1.heap.size + 1 + 1, 0, none⟩) 2 2) stepsK from sps_of2 (s0 := ⟨3, 1, 0, 1, []⟩) (s1 := ⟨12, 6, 3, 0, [0]⟩) (u0 := .slice none 0 0) (u1 := .slice (some ⟨w1.heap.size + 1, 0, none⟩) 1 1) F.2.2.1 (Ints.none_ _) (ints_at (l := [0]) (cs := #[.int .i64 0]) F.2.1 (by decide) rfl) (by decide))
  obtain ⟨c0, c1, c2, _, clt⟩ := cells3 F.1
  obtain ⟨r0, r1, r2, _, rlt⟩ := cells3 F.2.2.2
  have C := Lib.hid (And.intro c0 (And.intro c1 c2))
  have RR := Lib.hid (And.intro r0 (And.intro r1 r2))
  have CLT := Lib.hid clt
  have RLT := Lib.hid rlt
  have X2 := Lib.hid (show Ext w1 ((((w1.alloc (.cells #[.int .i64 2, .slice (some ad1) 5 5, .slice A2 3 3] 25)).alloc (.cells #[.int .i64 0] 3)).alloc (.cells #[.int .u64 3, .int .i64 1, .int .i64 0, .int .i64 1, .slice none 0 0, .int .u64 12, .int .i64 6, .int .i64 3, .int .i64 0, .slice (some ⟨w1.heap.size + 1, 0, none⟩) 1 1] 49)).alloc (.cells #[.int .i64 0, .slice (some ad1) 4 5, .slice (some ⟨w1.heap.size + 1 + 1, 0, none⟩) 2 2] 25)) from xw)
  clear hx hfb hfs F c0 c1 c2 r0 r1 r2 clt rlt
  go_wp2_with fail
  refine (fact_any 0 i64ok0 _).mono ?_
  rintro e w3 ⟨up, rfl, hm⟩
  have HP := Lib.hid hm.fml
  have X3 := Lib.hid (show Ext ((((w1.alloc (.cells #[.int .i64 2, .slice (some ad1) 5 5, .slice A2 3 3] 25)).alloc (.cells #[.int .i64 0] 3)).alloc (.cells #[.int .u64 3, .int .i64 1, .int .i64 0, .int .i64 1, .slice none 0 0, .int .u64 12, .int .i64 6, .int .i64 3, .int .i64 0, .slice (some ⟨w1.heap.size + 1, 0, none⟩) 1 1] 49)).alloc (.cells #[.int .i64 0, .slice (some ad1) 4 5, .slice (some ⟨w1.heap.size + 1 + 1, 0, none⟩) 2 2] 25)) w3 from hm.2.2)
  obtain ⟨Ap, cp, rfl, _⟩ := fml_slice hm.fml
  clear hm
  go_wp2_with fail
  refine (know_any 0 i64ok0 _ pN _ HP.out).mono ?_
  rintro e w4 ⟨uk, rfl, hm⟩
  have HK := Lib.hid hm.fml
  have X4 := Lib.hid hm.2.2
  obtain ⟨Ak, ck, rfl, _⟩ := fml_slice hm.fml
  clear hm
  go_wp2_with fail
  refine (imp_any _ _ (knowN 0 pN) pN _ HK.out (HP.out.ext X4.out)).mono ?_
  rintro e w5 ⟨ua, rfl, hm⟩
  have HA := Lib.hid hm.fml
  have X5 := Lib.hid (X3.out.trans (X4.out.trans hm.2.2))
  obtain ⟨Aa, ca, rfl, _⟩ := fml_slice hm.fml
  have HP5 := Lib.hid (HP.out.ext (X4.out.trans hm.2.2))
  have r0 := (X5.out.cell (p := ⟨w1.heap.size + 1 + 1 + 1, 0, none⟩) RLT.out).trans RR.out.1
  have r1 := (X5.out.cell (p := ⟨w1.heap.size + 1 + 1 + 1, 1, none⟩) RLT.out).trans RR.out.2.1
  have r2 := (X5.out.cell (p := ⟨w1.heap.size + 1 + 1 + 1, 2, none⟩) RLT.out).trans RR.out.2.2
  clear hm
  go_wp2_with fail
  refine (refuted_any (lg := 0) (HBK.out.ext X5.out) (HQK.out.ext X5.out)).mono ?_
  rintro e w6 ⟨ul, rfl, hx, hl⟩
  rw [k14]
  have X6 := Lib.hid (X5.out.trans hx)
  obtain ⟨fa, fb, hfab⟩ := two_of k15
  have k16' := k16
  rw [hfab] at hl k16'
  have HSAME := Lib.hid (show sameN fa (knowN 0 pN) = true from k16')
  obtain ⟨Al, cl, rfl, hcl, hml, hrl⟩ := hl
  obtain ⟨adl, rfl, hltl, hcelll⟩ := hrl (by simp)
  obtain ⟨uf, huf, hff⟩ := hcelll 0 fa rfl
  have HFA := Lib.hid hff
  obtain ⟨Af, cf, rfl, _⟩ := fml_slice hff
  have e0 : adl.add 0 = adl := rfl
  rw [e0] at huf
  unfold maxLen at hml
  simp only [List.length_cons, List.length_nil, Nat.zero_add] at hcl ⊢
  have HPx := Lib.hid (HP5.out.ext hx)
  have HAx := Lib.hid (HA.out.ext hx)
  have XB := Lib.hid (X2.out.trans X6.out)
  have q0 := (X6.out.cell (p := ⟨w1.heap.size, 0, none⟩) CLT.out).trans C.out.1
  have q1 := (X6.out.cell (p := ⟨w1.heap.size, 1, none⟩) CLT.out).trans C.out.2.1
  have q2 := (X6.out.cell (p := ⟨w1.heap.size, 2, none⟩) CLT.out).trans C.out.2.2
  have s0 := (X6.out.cell (p := ⟨w1.heap.size + 1 + 1 + 1, 0, none⟩) RLT.out).trans RR.out.1
  have s1 := (X6.out.cell (p := ⟨w1.heap.size + 1 + 1 + 1, 1, none⟩) RLT.out).trans RR.out.2.1
  have s2 := (X6.out.cell (p := ⟨w1.heap.size + 1 + 1 + 1, 2, none⟩) RLT.out).trans RR.out.2.2
  have qlt : w1.heap.size < w6.heap.size := Nat.lt_of_lt_of_le CLT.out X6.out.size
  have slt : w1.heap.size + 1 + 1 + 1 < w6.heap.size := Nat.lt_of_lt_of_le RLT.out X6.out.size
  clear hx hff hcelll hrl k16' hfab r0 r1 r2
  go_wp2_with fail
  simp only [List.append_eq, List.cons_append, List.nil_append]
  refine wp_region_held_drew (S := fun w' => w'.cell? (⟨w1.heap.size, 0, none⟩) = some (.int .i64 2) ∧ w'.cell? (⟨w1.heap.size, 1, none⟩) = some (.slice (some ad1) 5 5) ∧ w'.cell? (⟨w1.heap.size, 2, none⟩) = some (.slice A2 3 3) ∧ w'.cell? (⟨w1.heap.size + 1 + 1 + 1, 0, none⟩) = some (.int .i64 0) ∧ w'.cell? (⟨w1.heap.size + 1 + 1 + 1, 1, none⟩) = some (.slice (some ad1) 4 5) ∧ w'.cell? (⟨w1.heap.size + 1 + 1 + 1, 2, none⟩) = some (.slice (some ⟨w1.heap.size + 1 + 1, 0, none⟩) 2 2) ∧ w'.cell? (adl) = some (.slice Af fa.length cf)) (by kernel_rfl) ⟨xc qlt q0, xc qlt q1, xc qlt q2, xc slt s0, xc slt s1, xc slt s2, xc hltl huf⟩ (fun hHeld => ?_)
  refine tk 0 hHeld ?_
  refine wpAnyH_ready (rs := [1]) (by kernel_rfl) (by simp) ?_
  refine AllReadyH.cons rfl (fun K hK => ?_) AllReadyH.nil
  go_simp
  (go_at_call 19; refine (checkS_any (lg := 2) (HB.out.ext (XB.out.trans xw)) (HS.out.ext (XB.out.trans xw))).mono ?_; rintro e w11 ⟨rfl, hv⟩; rw [k1]; have hx11 : Ext w6 w11 := xt hv; clear hv)
  go_wp2_with fail
  refine hK.out _ _ ⟨xc qlt q0, xc qlt q1, xc qlt q2, xc slt s0, xc slt s1, xc slt s2, xc hltl huf⟩ (fun hHeld => ?_)
  clear hK K
  try simp only [Act.put, List.setIfInBounds_toArray, List.set_cons_zero, List.set_cons_succ, List.getElem_toArray, List.getElem_cons_succ, List.getElem_cons_zero]
  refine tk 2 hHeld ?_
  refine tk 3 hHeld ?_
  refine tk 4 hHeld ?_
  refine tk 5 hHeld ?_
  refine wpAnyH_ready (rs := [6]) (by kernel_rfl) (by simp) ?_
  refine AllReadyH.cons rfl (fun K hK => ?_) AllReadyH.nil
  go_simp
  (go_at_call 13; refine (proves_any (lg := 2) (f := axN) (g := oppN axN) (HB.out.ext (XB.out.trans xw)) (HS.out.ext (XB.out.trans xw)) (by exact HAx.out.ext xw) k2 k3 k4 k5 k6).mono ?_; rintro e w12 ⟨rfl, hv⟩; rw [k21]; simp only [cond_true]; have hx12 : Ext w6 w12 := xt hv; clear hv)
  go_wp2_with fail
  refine hK.out _ _ ⟨xc qlt q0, xc qlt q1, xc qlt q2, xc slt s0, xc slt s1, xc slt s2, xc hltl huf⟩ (fun hHeld => ?_)
  clear hK K
  try simp only [Act.put, List.setIfInBounds_toArray, List.set_cons_zero, List.set_cons_succ, List.getElem_toArray, List.getElem_cons_succ, List.getElem_cons_zero]
  refine tk 7 hHeld ?_
  refine tk 8 hHeld ?_
  refine tk 9 hHeld ?_
  refine tk 10 hHeld ?_
  refine tk 11 hHeld ?_
  refine wpAnyH_ready (rs := [12]) (by kernel_rfl) (by simp) ?_
  refine AllReadyH.cons rfl (fun K hK => ?_) AllReadyH.nil
  go_simp
  (go_at_call 13; refine (proves_any (lg := 2) (f := pN) (g := oppN axN) (HB.out.ext (XB.out.trans xw)) (HS.out.ext (XB.out.trans xw)) (by exact HPx.out.ext xw) k2 k3 k7 k8 k9).mono ?_; rintro e w13 ⟨rfl, hv⟩; rw [k10]; simp only [cond_false]; have hx13 : Ext w6 w13 := xt hv; clear hv)
  go_wp2_with fail
  refine hK.out _ _ ⟨xc qlt q0, xc qlt q1, xc qlt q2, xc slt s0, xc slt s1, xc slt s2, xc hltl huf⟩ (fun hHeld => ?_)
  clear hK K
  try simp only [Act.put, List.setIfInBounds_toArray, List.set_cons_zero, List.set_cons_succ, List.getElem_toArray, List.getElem_cons_succ, List.getElem_cons_zero]
  refine tk 13 hHeld ?_
  refine tk 14 hHeld ?_
  refine tk 15 hHeld ?_
  refine wpAnyH_ready (rs := [16]) (by kernel_rfl) (by simp) ?_
  refine AllReadyH.cons rfl (fun K hK => ?_) AllReadyH.nil
  go_simp
  (go_at_call 15; refine (truth_any 0 _).mono ?_; rintro e w14 ⟨B1, B2, rfl, hv, hb14, hs14⟩; have HB14 := Lib.hid hb14; have HS14 := Lib.hid hs14; clear hb14 hs14; have hx14 : Ext w6 w14 := xt hv; clear hv)
  go_wp2_with fail
  refine hK.out _ _ ⟨xc qlt q0, xc qlt q1, xc qlt q2, xc slt s0, xc slt s1, xc slt s2, xc hltl huf⟩ (fun hHeld => ?_)
  clear hK K
  try simp only [Act.put, List.setIfInBounds_toArray, List.set_cons_zero, List.set_cons_succ, List.getElem_toArray, List.getElem_cons_succ, List.getElem_cons_zero]
  refine wpAnyH_ready (rs := [17]) (by kernel_rfl) (by simp) ?_
  refine AllReadyH.cons rfl (fun K hK => ?_) AllReadyH.nil
  go_simp
  (go_at_call 19; refine (checkS_any (lg := 0) (by exact HB14.out.ext xw) (by exact HS14.out.ext xw)).mono ?_; rintro e w15 ⟨rfl, hv⟩; rw [k11]; have hx15 : Ext w6 w15 := xt hv; clear hv)
  go_wp2_with fail
  refine hK.out _ _ ⟨xc qlt q0, xc qlt q1, xc qlt q2, xc slt s0, xc slt s1, xc slt s2, xc hltl huf⟩ (fun hHeld => ?_)
  clear hK K
  try simp only [Act.put, List.setIfInBounds_toArray, List.set_cons_zero, List.set_cons_succ, List.getElem_toArray, List.getElem_cons_succ, List.getElem_cons_zero]
  refine tk 18 hHeld ?_
  refine tk 19 hHeld ?_
  refine tk 20 hHeld ?_
  refine wpAnyH_ready (rs := [21]) (by kernel_rfl) (by simp) ?_
  refine AllReadyH.cons rfl (fun K hK => ?_) AllReadyH.nil
  go_simp
  (go_at_call 15; refine (truth_any 0 _).mono ?_; rintro e w16 ⟨B3, B4, rfl, hv, hb16, hs16⟩; have HB16 := Lib.hid hb16; have HS16 := Lib.hid hs16; clear hb16 hs16; have hx16 : Ext w6 w16 := xt hv; clear hv)
  go_wp2_with fail
  refine hK.out _ _ ⟨xc qlt q0, xc qlt q1, xc qlt q2, xc slt s0, xc slt s1, xc slt s2, xc hltl huf⟩ (fun hHeld => ?_)
  clear hK K
  try simp only [Act.put, List.setIfInBounds_toArray, List.set_cons_zero, List.set_cons_succ, List.getElem_toArray, List.getElem_cons_succ, List.getElem_cons_zero]
  refine wpAnyH_ready (rs := [22]) (by kernel_rfl) (by simp) ?_
  refine AllReadyH.cons rfl (fun K hK => ?_) AllReadyH.nil
  go_simp
  (go_at_call 20; refine (broken_any (lg := 0) (by exact HB16.out.ext xw) (by exact HS16.out.ext xw)).mono ?_; rintro e w17 ⟨rfl, hv⟩; rw [k12]; have hx17 : Ext w6 w17 := xt hv; clear hv)
  go_wp2_with fail
  refine hK.out _ _ ⟨xc qlt q0, xc qlt q1, xc qlt q2, xc slt s0, xc slt s1, xc slt s2, xc hltl huf⟩ (fun hHeld => ?_)
  clear hK K
  try simp only [Act.put, List.setIfInBounds_toArray, List.set_cons_zero, List.set_cons_succ, List.getElem_toArray, List.getElem_cons_succ, List.getElem_cons_zero]
  refine tk 23 hHeld ?_
  refine tk 24 hHeld ?_
  refine tk 25 hHeld ?_
  refine tk 26 hHeld ?_
  refine wpAnyH_ready (rs := [27]) (by kernel_rfl) (by simp) ?_
  refine AllReadyH.cons rfl (fun K hK => ?_) AllReadyH.nil
  go_simp
  (go_at_call 19; refine (checkS_any (lg := 0) (HBK.out.ext (X6.out.trans xw)) (HQK.out.ext (X6.out.trans xw))).mono ?_; rintro e w18 ⟨rfl, hv⟩; rw [k13]; have hx18 : Ext w6 w18 := xt hv; clear hv)
  go_wp2_with fail
  refine hK.out _ _ ⟨xc qlt q0, xc qlt q1, xc qlt q2, xc slt s0, xc slt s1, xc slt s2, xc hltl huf⟩ (fun hHeld => ?_)
  clear hK K
  try simp only [Act.put, List.setIfInBounds_toArray, List.set_cons_zero, List.set_cons_succ, List.getElem_toArray, List.getElem_cons_succ, List.getElem_cons_zero]
  refine tk 28 hHeld ?_
  refine tk 29 hHeld ?_
  refine tk 30 hHeld ?_
  refine tk 31 hHeld ?_
  refine tk 32 hHeld ?_
  refine tk 33 hHeld ?_
  refine tk 34 hHeld ?_
  refine tk 35 hHeld ?_
  refine tk 36 hHeld ?_
  refine tk 37 hHeld ?_
  refine tk 38 hHeld ?_
  refine tk 39 hHeld ?_
  refine tk 40 hHeld ?_
  refine tk 41 hHeld ?_
  refine tk 42 hHeld ?_
  refine tk 43 hHeld ?_
  refine wpAnyH_ready (rs := [44]) (by kernel_rfl) (by simp) ?_
  refine AllReadyH.cons rfl (fun K hK => ?_) AllReadyH.nil
  go_simp
  (go_at_call 18; refine (know_any 0 i64ok0 _ pN _ (by exact HPx.out.ext xw)).mono ?_; rintro e w19 ⟨u44, rfl, hm44⟩; have HM44 := Lib.hid hm44.fml; have hv := hm44.2.2; obtain ⟨A44, c44, rfl, _⟩ := fml_slice hm44.fml; clear hm44; have hx19 : Ext w6 w19 := xt hv; clear hv)
  go_wp2_with fail
  refine hK.out _ _ ⟨xc qlt q0, xc qlt q1, xc qlt q2, xc slt s0, xc slt s1, xc slt s2, xc hltl huf⟩ (fun hHeld => ?_)
  clear hK K
  try simp only [Act.put, List.setIfInBounds_toArray, List.set_cons_zero, List.set_cons_succ, List.getElem_toArray, List.getElem_cons_succ, List.getElem_cons_zero]
  refine wpAnyH_ready (rs := [45]) (by kernel_rfl) (by simp) ?_
  refine AllReadyH.cons rfl (fun K hK => ?_) AllReadyH.nil
  go_simp
  (go_at_call 21; refine (same_any _ _ fa (knowN 0 pN) _ (by exact HFA.out.ext xw) (by exact HM44.out.ext xw)).mono ?_; rintro e w20 ⟨rfl, hv⟩; rw [HSAME.out]; have hx20 : Ext w6 w20 := xt hv; clear hv)
  go_wp2_with fail
  refine hK.out _ _ ⟨xc qlt q0, xc qlt q1, xc qlt q2, xc slt s0, xc slt s1, xc slt s2, xc hltl huf⟩ (fun hHeld => ?_)
  clear hK K
  try simp only [Act.put, List.setIfInBounds_toArray, List.set_cons_zero, List.set_cons_succ, List.getElem_toArray, List.getElem_cons_succ, List.getElem_cons_zero]
  refine tk 46 hHeld ?_
  refine tk 47 hHeld ?_
  refine tk 48 hHeld ?_
  refine tk 49 hHeld ?_
  refine wpAnyH_ready (rs := [50]) (by kernel_rfl) (by simp) ?_
  refine AllReadyH.cons rfl (fun K hK => ?_) AllReadyH.nil
  go_simp
  (go_at_call 22; refine (Negation_any _ baseT 2 _ (HB.out.ext (XB.out.trans xw))).mono ?_; rintro e w21 ⟨rfl, hv⟩; rw [k17]; have hx21 : Ext w6 w21 := xt hv; clear hv)
  go_wp2_with fail
  refine hK.out _ _ ⟨xc qlt q0, xc qlt q1, xc qlt q2, xc slt s0, xc slt s1, xc slt s2, xc hltl huf⟩ (fun hHeld => ?_)
  clear hK K
  try simp only [Act.put, List.setIfInBounds_toArray, List.set_cons_zero, List.set_cons_succ, List.getElem_toArray, List.getElem_cons_succ, List.getElem_cons_zero]
  refine tk 51 hHeld ?_
  refine tk 52 hHeld ?_
  refine tk 53 hHeld ?_
  refine tk 54 hHeld ?_
  refine tk 55 hHeld ?_
  refine wpAnyH_ready (rs := [56]) (by kernel_rfl) (by simp) ?_
  refine AllReadyH.cons rfl (fun K hK => ?_) AllReadyH.nil
  go_simp
  (go_at_call 22; refine (Negation_any _ baseT 4 _ (HB.out.ext (XB.out.trans xw))).mono ?_; rintro e w22 ⟨rfl, hv⟩; rw [k18]; have hx22 : Ext w6 w22 := xt hv; clear hv)
  go_wp2_with fail
  refine hK.out _ _ ⟨xc qlt q0, xc qlt q1, xc qlt q2, xc slt s0, xc slt s1, xc slt s2, xc hltl huf⟩ (fun hHeld => ?_)
  clear hK K
  try simp only [Act.put, List.setIfInBounds_toArray, List.set_cons_zero, List.set_cons_succ, List.getElem_toArray, List.getElem_cons_succ, List.getElem_cons_zero]
  refine tk 57 hHeld ?_
  refine tk 58 hHeld ?_
  refine tk 59 hHeld ?_
  refine tk 60 hHeld ?_
  refine tk 61 hHeld ?_
  refine wpAnyH_ready (rs := [62]) (by kernel_rfl) (by simp) ?_
  refine AllReadyH.cons rfl (fun K hK => ?_) AllReadyH.nil
  go_simp
  (go_at_call 23; refine (Carry_any 0 _ baseT 12 0 _ (HB.out.ext (XB.out.trans xw)) (by decide)).mono ?_; rintro e w23 ⟨rfl, hv⟩; rw [k19i]; have hx23 : Ext w6 w23 := xt hv; clear hv)
  go_wp2_with fail
  refine hK.out _ _ ⟨xc qlt q0, xc qlt q1, xc qlt q2, xc slt s0, xc slt s1, xc slt s2, xc hltl huf⟩ (fun hHeld => ?_)
  clear hK K
  try simp only [Act.put, List.setIfInBounds_toArray, List.set_cons_zero, List.set_cons_succ, List.getElem_toArray, List.getElem_cons_succ, List.getElem_cons_zero]
  refine tk 63 hHeld ?_
  refine tk 64 hHeld ?_
  refine tk 65 hHeld ?_
  refine tk 66 hHeld ?_
  refine tk 67 hHeld ?_
  refine wpAnyH_ready (rs := [68]) (by kernel_rfl) (by simp) ?_
  refine AllReadyH.cons rfl (fun K hK => ?_) AllReadyH.nil
  go_simp
  (go_at_call 23; refine (Carry_any 6 _ baseT 12 0 _ (HB.out.ext (XB.out.trans xw)) (by decide)).mono ?_; rintro e w24 ⟨rfl, hv⟩; rw [k20i]; have hx24 : Ext w6 w24 := xt hv; clear hv)
  go_wp2_with fail
  refine hK.out _ _ ⟨xc qlt q0, xc qlt q1, xc qlt q2, xc slt s0, xc slt s1, xc slt s2, xc hltl huf⟩ (fun hHeld => ?_)
  clear hK K
  try simp only [Act.put, List.setIfInBounds_toArray, List.set_cons_zero, List.set_cons_succ, List.getElem_toArray, List.getElem_cons_succ, List.getElem_cons_zero]
  refine tk 69 hHeld ?_
  refine tk 70 hHeld ?_
  refine tk 71 hHeld ?_
  refine wpAnyH_done (by kernel_rfl) ?_ _
  go_wp2_with fail
  go_ret
  exact ⟨rfl, (HX1.out.trans XB.out).trans xw⟩
end Go.Proofs.YtdpblciohodgcaaGreatDoor
