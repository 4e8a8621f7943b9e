/- The program's Valid, from what Sets says. -/
import Derived.Test.YtdpblciohodgcaaGreatDoorS38
import Derived.Test.YtdpblciohodgcaaGreatDoorS27
import Derived.Test.YtdpblciohodgcaaGreatDoorS40
import Derived.Test.YtdpblciohodgcaaGreatDoorS28
import Derived.Test.YtdpblciohodgcaaGreatDoorS35
import Derived.Test.YtdpblciohodgcaaGreatDoorS39
import Derived.Test.YtdpblciohodgcaaGreatDoorS41
import Derived.Test.YtdpblciohodgcaaGreatDoorS11
import Derived.Test.YtdpblciohodgcaaGreatDoorS13
import Derived.LaidMore
import Derived.SevenTiedAt
import Derived.Stop.Joined
import Derived.Below

namespace Go.Proofs.YtdpblciohodgcaaGreatDoor
open Go.RowKit

set_option maxRecDepth 100000 in
set_option maxHeartbeats 4000000 in
theorem pValid_of (HSS : SetsSaid) (vm v : Value) (md : Md) (f : List Nd) (w : World) (hm : MdV w vm md) (hok : md.ok) (h : Fml w v f) :
    Calls Tryz.prog 14 #[vm, v] w fun e w' => e = .returned (.tuple #[.bool (decide (chk17 md f = 0) && (((holdP md f : Nat) : Int) == ((allW md.n.toNat : Nat) : Int))), .int .i64 (chk17 md f)]) ∧ Ext w w' := by
  have HM := Lib.hid hm
  have HF := Lib.hid h
  have HS := Lib.hid (fun w hm h => pHolds_of HSS vm v md f w hm hok h)
  obtain ⟨vv, vr, rfl, hv, hr⟩ := hm
  obtain ⟨c1, hc1⟩ : ∃ z, z = chk17 md f := ⟨_, rfl⟩
  have HC1 := Lib.hid hc1
  rw [← hc1] at HS ⊢
  clear h hok HSS hv hr hc1
  by_cases h1 : c1 = 0
  · subst h1
    obtain ⟨hck, _, _, _⟩ := chk17_zero HC1.out.symm
    obtain ⟨hn1, hn64, _⟩ := checkM_zero hck
    obtain ⟨N, hNN⟩ := Int.eq_ofNat_of_zero_le (show 0 ≤ md.n by omega)
    have hNt : md.n.toNat = N := by rw [hNN]; exact Int.toNat_natCast N
    have hN64 : N ≤ 64 := by omega
    have HALL := Lib.hid (all_shr hN64)
    rw [hNt]
    rw [hNN] at HS HM ⊢
    obtain ⟨s, hs⟩ : ∃ s, s = holdP md f := ⟨_, rfl⟩
    rw [← hs] at HS ⊢
    clear hck hn1 hn64 hNN hNt hs
    go_enter Tryz.func14, Tryz.ntmps14
    go_wp2_with fail
    refine (HS.out _ (HM.out.ext ((Ext.refl w).alloc _)) (HF.out.ext ((Ext.refl w).alloc _))).mono ?_
    rintro e w2 ⟨rfl, hx⟩
    have HX := Lib.hid (((Ext.refl w).alloc _).trans hx)
    have c0 : w2.cell? ⟨w.heap.size, 0, none⟩ = some (.int .i64 (N : Int)) := (hx.cell (p := ⟨w.heap.size, 0, none⟩) (by simp)).trans (by simp)
    clear hx
    go_wp2_with fail
    go_ret2
    exact ⟨by rw [← HALL.out] <;> rfl, HX.out⟩
  · have hne : (c1 == 0) = false := by simpa using h1
    have hdc := decide_eq_false h1
    obtain ⟨q, hq⟩ : ∃ q, q = (if c1 = 0 then holdP md f else 0) := ⟨_, rfl⟩
    rw [← hq] at HS
    rw [hdc, Bool.false_and]
    clear h1 hq hdc
    go_enter Tryz.func14, Tryz.ntmps14
    go_wp2_with fail
    refine (HS.out _ (HM.out.ext ((Ext.refl w).alloc _)) (HF.out.ext ((Ext.refl w).alloc _))).mono ?_
    rintro e w2 ⟨rfl, hx⟩
    have HX := Lib.hid (((Ext.refl w).alloc _).trans hx)
    clear hx
    go_wp2_with fail
    go_ret2
    exact ⟨rfl, HX.out⟩
end Go.Proofs.YtdpblciohodgcaaGreatDoor

/- sequent.Proves, all roads. -/

namespace Go.Proofs.YtdpblciohodgcaaGreatDoor
open Go.RowKit

theorem know_all : (List.range 512).all (fun m => (bits .andNot .i64 (m : Int) 1 == 0) == !decide (2 ≤ m)) = true := by kernel_rfl
theorem know_test (f : List Nd) : (bits .andNot .i64 ((fragsN f : Nat) : Int) 1 == 0) = !decide (2 ≤ fragsN f) := by
  have h := List.all_eq_true.1 know_all (fragsN f) (List.mem_range.2 (fragMask_lt (compactN f)))
  exact beq_iff_eq.1 h
theorem provesS_1 {lg : Int} {base : List Nd} {steps : List Stp} {f : List Nd} (h : (refutedS lg base steps).2 ≠ 0) : provesS lg base steps f = (refutedS lg base steps).2 := by
  unfold provesS
  rw [show ((refutedS lg base steps).2 != 0) = true by simpa using h]; rfl
theorem provesS_2 {lg : Int} {base : List Nd} {steps : List Stp} {f : List Nd} (h : (refutedS lg base steps).2 = 0) (hc : check f ≠ 0) : provesS lg base steps f = check f := by
  unfold provesS
  rw [show ((refutedS lg base steps).2 != 0) = false by rw [h]; rfl, cond_false, show (check f != 0) = true by simpa using hc]; rfl
theorem provesS_3 {lg : Int} {base : List Nd} {steps : List Stp} {f : List Nd} (h : (refutedS lg base steps).2 = 0) (hc : check f = 0) (hf : decide (2 ≤ fragsN f) = true) : provesS lg base steps f = 10 := by
  unfold provesS
  rw [show ((refutedS lg base steps).2 != 0) = false by rw [h]; rfl, cond_false, show (check f != 0) = false by rw [hc]; rfl, cond_false, hf]; rfl
theorem provesS_4 {lg : Int} {base : List Nd} {steps : List Stp} {f : List Nd} (h : (refutedS lg base steps).2 = 0) (hc : check f = 0) (hf : decide (2 ≤ fragsN f) = false) : provesS lg base steps f = bif !decide ((refutedS lg base steps).1 = [oppN f]) then 13 else 0 := by
  unfold provesS
  rw [show ((refutedS lg base steps).2 != 0) = false by rw [h]; rfl, cond_false, show (check f != 0) = false by rw [hc]; rfl, cond_false, hf]; rfl
set_option maxRecDepth 100000 in
set_option maxHeartbeats 16000000 in
theorem provesG_any {w : World} {lg : Int} {vb vs vf : Value} {base : List Nd} {steps : List Stp} {f : List Nd} (hb : Fml w vb base) (hs : Sps w vs steps) (hf : Fml w vf f) :
    Calls Tryz.prog 13 #[.agg #[.int .i64 lg, vb, vs], vf] w fun e w' => e = .returned (.int .i64 (provesS lg base steps f)) ∧ Ext w w' := by
  obtain ⟨er, her⟩ : ∃ z, z = (refutedS lg base steps).2 := ⟨_, rfl⟩
  obtain ⟨l, hl⟩ : ∃ z, z = (refutedS lg base steps).1 := ⟨_, rfl⟩
  obtain ⟨cf, hcf⟩ : ∃ z, z = check f := ⟨_, rfl⟩
  obtain ⟨kf, hkf⟩ : ∃ z, z = decide (2 ≤ fragsN f) := ⟨_, rfl⟩
  by_cases hlong : (er = 0 ∧ cf = 0 ∧ kf = false) ∧ l.length = 1
  · obtain ⟨⟨h1, h2, h3⟩, h4⟩ := hlong
    obtain ⟨g, hg⟩ : ∃ g, l = [g] := by
      match l, h4 with
      | [a], _ => exact ⟨a, rfl⟩
    have hc : check f = 0 := by rw [← hcf]; exact h2
    have hfr : decide (2 ≤ fragsN f) = false := by rw [← hkf]; exact h3
    have hfl : fragsN f < 2 := by have := of_decide_eq_false hfr; omega
    rw [provesS_4 (by rw [← her]; exact h1) hc hfr, ← hl, hg]
    have e : (bif !decide ([g] = [oppN f]) then (13 : Int) else 0) = bif decide (g = oppN f) then 0 else 13 := by
      by_cases hgo : g = oppN f
      · rw [decide_eq_true hgo, decide_eq_true (by rw [hgo])]; rfl
      · rw [decide_eq_false hgo, decide_eq_false (fun hh => hgo (by injection hh))]; rfl
    rw [e]
    exact proves_any hb hs hf (by rw [← her]; exact h1) (by rw [← hl]; exact hg) hc (by rw [know_test, hfr]; rfl) (few_not (fun _ => few_frag hc hfl))
  · have H := Lib.hid hb
    have HS := Lib.hid hs
    have HF := Lib.hid hf
    obtain ⟨Ab, cb, rfl, _⟩ := fml_slice hb
    obtain ⟨As, cs, rfl, _⟩ := hs
    obtain ⟨Af, cff, rfl, _⟩ := fml_slice hf
    have HER := Lib.hid her
    have HL := Lib.hid hl
    have HCF := Lib.hid hcf
    have HKF := Lib.hid hkf
    have X0 := Lib.hid ((Ext.refl w).alloc (.cells #[.int .i64 lg, .slice Ab base.length cb, .slice As steps.length cs] 25))
    clear hb hf her hl hcf hkf
    by_cases h1 : er = 0
    · subst h1
      go_enter Tryz.func13, Tryz.ntmps13
      go_wp2_with fail
      refine (refuted_any (lg := lg) (H.out.ext X0.out) (HS.out.ext X0.out)).mono ?_
      rintro e w1 ⟨u, rfl, hx, hfm⟩
      rw [← HER.out]
      rw [← HL.out] at hfm
      have X1 := Lib.hid (X0.out.trans hx)
      obtain ⟨A1, c1, rfl, hc1, hm1, hr1⟩ := hfm
      unfold maxLen at hm1
      clear hx hr1
      go_wp2_with fail
      refine (check_any _ f _ (HF.out.ext X1.out).1).mono ?_
      rintro e w2 ⟨rfl, hx⟩
      rw [← HCF.out]
      have X2 := Lib.hid (X1.out.trans hx)
      clear hx
      by_cases h2 : cf = 0
      · subst h2
        go_wp2_with fail
        refine (frags_any _ f _ (HF.out.ext X2.out)).mono ?_
        rintro e w3 ⟨rfl, hx⟩
        have X3 := Lib.hid (X2.out.trans hx)
        clear hx
        have hkt := know_test f
        rw [← HKF.out] at hkt
        cases kf
        · have hkt2 : (bits .andNot .i64 ((fragsN f : Nat) : Int) 1 != 0) = false := by rw [bne, hkt]; rfl
          have hln : l.length ≠ 1 := fun e => hlong ⟨by simp, e⟩
          have hlb : ((l.length : Int) != 1) = true := by simp only [bne_iff_ne, ne_eq]; omega
          have HE := Lib.hid (show provesS lg base steps f = 13 by
            rw [provesS_4 HER.out.symm HCF.out.symm HKF.out.symm, ← HL.out, decide_eq_false (fun e => hln (by rw [e]; rfl))]; rfl)
          clear hlong hln
          go_wp2_with fail
          refine wp_region_held_drew (S := fun w' => True) (by kernel_rfl) trivial (fun hHeld => ?_)
          refine' wpAnyH_take (i := 0) (v := _) rfl (by kernel_rfl) (by kernel_rfl) (by kernel_rfl) (fun _ _ _ h => h) (Or.inl ⟨by rfl, ?hybw10⟩) hHeld ?restbw10
          case hybw10 => (intro w' hSw; (try dsimp only at hSw); go_simp; (try with_reducible rfl))
          try simp only [Act.put, List.setIfInBounds_toArray, List.set_cons_zero, List.set_cons_succ, List.getElem_toArray, List.getElem_cons_zero]
          refine' wpAnyH_take (i := 1) (v := _) rfl (by kernel_rfl) (by kernel_rfl) (by kernel_rfl) (fun _ _ _ h => h) (Or.inl ⟨by rfl, ?hybw11⟩) hHeld ?restbw11
          case hybw11 => (intro w' hSw; (try dsimp only at hSw); go_simp; (try with_reducible rfl))
          try simp only [Act.put, List.setIfInBounds_toArray, List.set_cons_zero, List.set_cons_succ, List.getElem_toArray, List.getElem_cons_succ, List.getElem_cons_zero]
          refine' wpAnyH_take (i := 2) (v := _) rfl (by kernel_rfl) (by kernel_rfl) (by kernel_rfl) (fun _ _ _ h => h) (Or.inl ⟨by rfl, ?hybw12⟩) hHeld ?restbw12
          case hybw12 => (intro w' hSw; (try dsimp only at hSw); go_simp; (try with_reducible rfl))
          try simp only [Act.put, List.setIfInBounds_toArray, List.set_cons_zero, List.set_cons_succ, List.getElem_toArray, List.getElem_cons_succ, List.getElem_cons_zero]
          refine' wpAnyH_take (i := 3) (v := _) rfl (by kernel_rfl) (by kernel_rfl) (by kernel_rfl) (fun _ _ _ h => h) (Or.inl ⟨by rfl, ?hybw13⟩) hHeld ?restbw13
          case hybw13 => (intro w' hSw; (try dsimp only at hSw); go_simp; (try with_reducible rfl))
          try simp only [Act.put, List.setIfInBounds_toArray, List.set_cons_zero, List.set_cons_succ, List.getElem_toArray, List.getElem_cons_succ, List.getElem_cons_zero]
          refine wpAnyH_take (i := 4) (v := undef) rfl (by kernel_rfl) (by kernel_rfl) (by kernel_rfl) (fun _ _ _ h => h) (Or.inr ⟨by rfl, rfl⟩) hHeld ?_
          try simp only [Act.put, List.setIfInBounds_toArray, List.set_cons_zero, List.set_cons_succ, List.getElem_toArray, List.getElem_cons_succ, List.getElem_cons_zero]
          refine wpAnyH_take (i := 5) (v := undef) rfl (by kernel_rfl) (by kernel_rfl) (by kernel_rfl) (fun _ _ _ h => h) (Or.inr ⟨by rfl, rfl⟩) hHeld ?_
          try simp only [Act.put, List.setIfInBounds_toArray, List.set_cons_zero, List.set_cons_succ, List.getElem_toArray, List.getElem_cons_succ, List.getElem_cons_zero]
          refine wpAnyH_take (i := 6) (v := undef) rfl (by kernel_rfl) (by kernel_rfl) (by kernel_rfl) (fun _ _ _ h => h) (Or.inr ⟨by rfl, rfl⟩) hHeld ?_
          try simp only [Act.put, List.setIfInBounds_toArray, List.set_cons_zero, List.set_cons_succ, List.getElem_toArray, List.getElem_cons_succ, List.getElem_cons_zero]
          refine wpAnyH_take (i := 7) (v := undef) rfl (by kernel_rfl) (by kernel_rfl) (by kernel_rfl) (fun _ _ _ h => h) (Or.inr ⟨by rfl, rfl⟩) hHeld ?_
          try simp only [Act.put, List.setIfInBounds_toArray, List.set_cons_zero, List.set_cons_succ, List.getElem_toArray, List.getElem_cons_succ, List.getElem_cons_zero]
          refine wpAnyH_take (i := 8) (v := undef) rfl (by kernel_rfl) (by kernel_rfl) (by kernel_rfl) (fun _ _ _ h => h) (Or.inr ⟨by rfl, rfl⟩) hHeld ?_
          try simp only [Act.put, List.setIfInBounds_toArray, List.set_cons_zero, List.set_cons_succ, List.getElem_toArray, List.getElem_cons_succ, List.getElem_cons_zero]
          refine wpAnyH_take (i := 9) (v := undef) rfl (by kernel_rfl) (by kernel_rfl) (by kernel_rfl) (fun _ _ _ h => h) (Or.inr ⟨by rfl, rfl⟩) hHeld ?_
          try simp only [Act.put, List.setIfInBounds_toArray, List.set_cons_zero, List.set_cons_succ, List.getElem_toArray, List.getElem_cons_succ, List.getElem_cons_zero]
          refine wpAnyH_take (i := 10) (v := undef) rfl (by kernel_rfl) (by kernel_rfl) (by kernel_rfl) (fun _ _ _ h => h) (Or.inr ⟨by rfl, rfl⟩) hHeld ?_
          try simp only [Act.put, List.setIfInBounds_toArray, List.set_cons_zero, List.set_cons_succ, List.getElem_toArray, List.getElem_cons_succ, List.getElem_cons_zero]
          refine' wpAnyH_take (i := 11) (v := _) rfl (by kernel_rfl) (by kernel_rfl) (by kernel_rfl) (fun _ _ _ h => h) (Or.inl ⟨by rfl, ?hybw111⟩) hHeld ?restbw111
          case hybw111 => (intro w' hSw; (try dsimp only at hSw); go_simp; (try with_reducible rfl))
          try simp only [Act.put, List.setIfInBounds_toArray, List.set_cons_zero, List.set_cons_succ, List.getElem_toArray, List.getElem_cons_succ, List.getElem_cons_zero]
          refine wpAnyH_done (by kernel_rfl) ?_ _
          go_wp2_with fail
          go_ret
          exact ⟨by rw [HE.out] <;> rfl, X3.out.drew⟩
        · have hkt2 : (bits .andNot .i64 ((fragsN f : Nat) : Int) 1 != 0) = true := by rw [bne, hkt]; rfl
          have HE := Lib.hid (provesS_3 HER.out.symm HCF.out.symm HKF.out.symm)
          clear hlong
          go_wp2_with fail
          go_ret
          exact ⟨by rw [HE.out] <;> rfl, X3.out⟩
      · have hne : (cf != 0) = true := by simpa using h2
        have HE := Lib.hid (provesS_2 HER.out.symm (by rw [← HCF.out]; exact h2))
        rw [← HCF.out] at HE
        clear hlong h2
        go_wp2_with fail
        go_ret
        exact ⟨by rw [HE.out] <;> rfl, X2.out⟩
    · have hne : (er != 0) = true := by simpa using h1
      have HE := Lib.hid (provesS_1 (f := f) (by rw [← HER.out]; exact h1))
      rw [← HER.out] at HE
      clear hlong h1
      go_enter Tryz.func13, Tryz.ntmps13
      go_wp2_with fail
      refine (refuted_any (lg := lg) (H.out.ext X0.out) (HS.out.ext X0.out)).mono ?_
      rintro e w1 ⟨u, rfl, hx, hfm⟩
      rw [← HER.out]
      have X1 := Lib.hid (X0.out.trans hx)
      obtain ⟨A1, c1, rfl, _⟩ := hfm
      clear hx
      go_wp2_with fail
      go_ret
      exact ⟨by rw [HE.out] <;> rfl, X1.out⟩
end Go.Proofs.YtdpblciohodgcaaGreatDoor

/- The law SequentValid. -/

namespace Go.Proofs.YtdpblciohodgcaaGreatDoor
open Go.RowKit

set_option maxRecDepth 100000 in
set_option maxHeartbeats 64000000 in
theorem valid_any {w : World} {lg : Int} {vb vs vf vm : Value} {base : List Nd} {steps : List Stp} {f : List Nd} {md : Md} (hb : Fml w vb base) (hs : Sps w vs steps) (hf : Fml w vf f) (hm : MdV w vm md) (hok : md.ok) (hT : TabZ w) :
    Calls Tryz.prog 4 #[.agg #[.int .i64 lg, vb, vs], vf, vm] w fun e w' => e = .returned (.bool true) ∧ Ext w w' := by
  have H := Lib.hid hb
  have HS := Lib.hid hs
  have HM := Lib.hid hm
  have HMOK := Lib.hid hok
  have HTZ := Lib.hid hT
  obtain ⟨Ab, cb, rfl, _⟩ := fml_slice hb
  obtain ⟨As, cs, rfl, _⟩ := hs
  obtain ⟨vv, vr, rfl, ⟨Av, cv, rfl, _⟩, ⟨Ar, cr, rfl, _⟩⟩ := hm
  obtain ⟨er, her⟩ : ∃ z, z = checkM md := ⟨_, rfl⟩
  have HER := Lib.hid her
  obtain ⟨fw, hfw⟩ : ∃ z, z = fewS base steps := ⟨_, rfl⟩
  have HFW := Lib.hid hfw
  obtain ⟨mn, hmn⟩ : ∃ z, z = md.n := ⟨_, rfl⟩
  have HMN := Lib.hid hmn
  rw [← hmn] at HM ⊢
  have X0 := Lib.hid (show Ext w ((w.alloc (.cells #[.int .i64 lg, .slice Ab base.length cb, .slice As steps.length cs] 25)).alloc (.cells #[.int .i64 mn, .slice Av md.val.length cv, .slice Ar md.rel.length cr] 29)) from ((Ext.refl _).alloc _).alloc _)
  have BR := Lib.hid (show ((w.alloc (.cells #[.int .i64 lg, .slice Ab base.length cb, .slice As steps.length cs] 25)).alloc (.cells #[.int .i64 mn, .slice Av md.val.length cv, .slice Ar md.rel.length cr] 29)).heap[w.heap.size]? = some (.cells #[.int .i64 lg, .slice Ab base.length cb, .slice As steps.length cs] 25 (0, 0)) from (((Ext.refl (w.alloc (.cells #[.int .i64 lg, .slice Ab base.length cb, .slice As steps.length cs] 25))).alloc _).block (by simp)).trans (heap_alloc_new _ _))
  have BM := Lib.hid (show ((w.alloc (.cells #[.int .i64 lg, .slice Ab base.length cb, .slice As steps.length cs] 25)).alloc (.cells #[.int .i64 mn, .slice Av md.val.length cv, .slice Ar md.rel.length cr] 29)).heap[w.heap.size + 1]? = some (.cells #[.int .i64 mn, .slice Av md.val.length cv, .slice Ar md.rel.length cr] 29 (0, 0)) by
    have h1 := heap_alloc_new (w.alloc (.cells #[.int .i64 lg, .slice Ab base.length cb, .slice As steps.length cs] 25)) (.cells #[.int .i64 mn, .slice Av md.val.length cv, .slice Ar md.rel.length cr] 29)
    rw [World.size_alloc] at h1
    exact h1)
  have BRL := Lib.hid (lt_heap BR.out)
  have BML := Lib.hid (lt_heap BM.out)
  clear hb hok hT her hfw hmn
  have HF := Lib.hid hf
  obtain ⟨Af, cf, rfl, _⟩ := fml_slice hf
  clear hf
  go_enter Tryz.func4, Tryz.ntmps4
  go_wp2_with fail
  refine (awake_any _).mono ?_
  rintro e w1 ⟨rfl, hx⟩
  have Y1 := Lib.hid (show Ext ((w.alloc (.cells #[.int .i64 lg, .slice Ab base.length cb, .slice As steps.length cs] 25)).alloc (.cells #[.int .i64 mn, .slice Av md.val.length cv, .slice Ar md.rel.length cr] 29)) w1 from hx)
  clear hx
  obtain ⟨z0, z1, z2, _, zl⟩ := cells3 ((Y1.out.block BRL.out).trans BR.out)
  obtain ⟨n0, n1, n2, nl⟩ := cells3p ((Y1.out.block BML.out).trans BM.out)
  go_wp2_with fail
  refine (fewS_any (lg := lg) (H.out.ext (X0.out.trans Y1.out)) (HS.out.ext (X0.out.trans Y1.out))).mono ?_
  rintro e w2 ⟨rfl, hx⟩
  rw [← HFW.out]
  have Y2 := Lib.hid (Y1.out.trans hx)
  clear hx z0 z1 z2 zl n0 n1 n2 nl
  obtain ⟨z0, z1, z2, _, zl⟩ := cells3 ((Y2.out.block BRL.out).trans BR.out)
  obtain ⟨n0, n1, n2, nl⟩ := cells3p ((Y2.out.block BML.out).trans BM.out)
  cases fw
  · skip
    go_wp2_with fail
    refine (awake_any _).mono ?_
    rintro e wt ⟨rfl, hxt⟩
    have YT := Lib.hid (Y2.out.trans hxt)
    clear hxt
    go_wp2_with fail
    go_ret
    exact ⟨rfl, X0.out.trans YT.out⟩
  · by_cases h60 : 60 < f.length
    · have h60a : (60 : Int) < (f.length : Int) := by omega
      go_wp2_with fail
      refine (awake_any _).mono ?_
      rintro e wt ⟨rfl, hxt⟩
      have YT := Lib.hid (Y2.out.trans hxt)
      clear hxt
      go_wp2_with fail
      go_ret
      exact ⟨rfl, X0.out.trans YT.out⟩
    · have h60a : ¬ (60 : Int) < (f.length : Int) := by omega
      go_wp2_with fail
      refine (few13_any _ md 10 _ (HM.out.ext (X0.out.trans Y2.out))).mono ?_
      rintro e w3 ⟨fb, rfl, hx⟩
      have Y3 := Lib.hid (Y2.out.trans hx)
      clear hx z0 z1 z2 zl n0 n1 n2 nl
      obtain ⟨z0, z1, z2, _, zl⟩ := cells3 ((Y3.out.block BRL.out).trans BR.out)
      obtain ⟨n0, n1, n2, nl⟩ := cells3p ((Y3.out.block BML.out).trans BM.out)
      cases fb
      · skip
        go_wp2_with fail
        refine (awake_any _).mono ?_
        rintro e wt ⟨rfl, hxt⟩
        have YT := Lib.hid (Y3.out.trans hxt)
        clear hxt
        go_wp2_with fail
        go_ret
        exact ⟨rfl, X0.out.trans YT.out⟩
      · skip
        go_wp2_with fail
        refine (check13_any _ md _ (HM.out.ext (X0.out.trans Y3.out)) HMOK.out).mono ?_
        rintro e w4 ⟨rfl, hx⟩
        rw [← HER.out]
        have Y4 := Lib.hid (Y3.out.trans hx)
        clear hx z0 z1 z2 zl n0 n1 n2 nl
        obtain ⟨z0, z1, z2, _, zl⟩ := cells3 ((Y4.out.block BRL.out).trans BR.out)
        obtain ⟨n0, n1, n2, nl⟩ := cells3p ((Y4.out.block BML.out).trans BM.out)
        by_cases hz : er = 0
        · subst hz
          have HCK := Lib.hid HER.out.symm
          obtain ⟨ib, hib⟩ : ∃ z, z = inAll md lg := ⟨_, rfl⟩
          have HIB := Lib.hid hib
          clear hib
          go_wp2_with fail
          refine (inAll_any _ md lg _ (HTZ.out.ext (X0.out.trans Y4.out)) (HM.out.ext (X0.out.trans Y4.out)) HMOK.out HCK.out).mono ?_
          rintro e w5 ⟨rfl, hx⟩
          rw [← HIB.out]
          have Y5 := Lib.hid (Y4.out.trans hx)
          clear hx z0 z1 z2 zl n0 n1 n2 nl
          obtain ⟨z0, z1, z2, _, zl⟩ := cells3 ((Y5.out.block BRL.out).trans BR.out)
          obtain ⟨n0, n1, n2, nl⟩ := cells3p ((Y5.out.block BML.out).trans BM.out)
          cases ib
          · skip
            go_wp2_with fail
            refine (awake_any _).mono ?_
            rintro e wt ⟨rfl, hxt⟩
            have YT := Lib.hid (Y5.out.trans hxt)
            clear hxt
            go_wp2_with fail
            go_ret
            exact ⟨rfl, X0.out.trans YT.out⟩
          · have HGM := Lib.hid (inAll_good HCK.out HIB.out.symm)
            obtain ⟨eg, heg⟩ : ∃ z, z = provesS lg base steps f := ⟨_, rfl⟩
            have HEG := Lib.hid heg
            clear heg
            go_wp2_with fail
            refine (provesG_any (lg := lg) (H.out.ext (X0.out.trans Y5.out)) (HS.out.ext (X0.out.trans Y5.out)) (HF.out.ext (X0.out.trans Y5.out))).mono ?_
            rintro e w6 ⟨rfl, hx⟩
            rw [← HEG.out]
            have Y6 := Lib.hid (Y5.out.trans hx)
            clear hx z0 z1 z2 zl n0 n1 n2 nl
            obtain ⟨z0, z1, z2, _, zl⟩ := cells3 ((Y6.out.block BRL.out).trans BR.out)
            obtain ⟨n0, n1, n2, nl⟩ := cells3p ((Y6.out.block BML.out).trans BM.out)
            by_cases hg : eg = 0
            · subst hg
              obtain ⟨hcf0, hF, _⟩ := proves_sound (M := kmOf md) (kmOf_in HGM.out) HEG.out.symm ⟨0, by obtain ⟨h1, _⟩ := checkM_zero HCK.out; show 0 < md.n.toNat; omega⟩
              have HC02 := Lib.hid (chk_02 HCK.out hcf0 hF)
              clear hF hcf0
              obtain ⟨g, hgg⟩ : ∃ z, z = chk17 md f := ⟨_, rfl⟩
              have HGG := Lib.hid hgg
              clear hgg
              go_wp2_with fail
              refine (pValid_of sets_said _ _ md f _ (HM.out.ext (X0.out.trans Y6.out)) HMOK.out (HF.out.ext (X0.out.trans Y6.out))).mono ?_
              rintro e w7 ⟨rfl, hx⟩
              rw [← HGG.out]
              have Y7 := Lib.hid (Y6.out.trans hx)
              clear hx z0 z1 z2 zl n0 n1 n2 nl
              by_cases hg2 : g = 2
              · subst hg2
                rw [show (decide ((2 : Int) = 0) && (((holdP md f : Nat) : Int) == ((allW md.n.toNat : Nat) : Int))) = false by rfl]
                go_wp2_with fail
                go_ret
                exact ⟨rfl, X0.out.trans Y7.out⟩
              · have hg0 : g = 0 := by
                  rcases HC02.out with h | h
                  · rw [HGG.out]; exact h
                  · exact absurd (by rw [HGG.out]; exact h) hg2
                subst hg0
                have hall : holdP md f = allW md.n.toNat := all_eq (holdP_low HCK.out f) (fun i hi => valid_all HGM.out HEG.out.symm HGG.out.symm hi)
                rw [show (decide ((0 : Int) = 0) && (((holdP md f : Nat) : Int) == ((allW md.n.toNat : Nat) : Int))) = true by rw [hall]; simp]
                clear hall hg2
                go_wp2_with fail
                go_ret
                exact ⟨rfl, X0.out.trans Y7.out⟩
            · have hge : (eg != 0) = true := by simpa using hg
              clear hg
              go_wp2_with fail
              go_ret
              exact ⟨rfl, X0.out.trans Y6.out⟩
        · have hzb : (er != 0) = true := by simpa using hz
          clear hz
          go_wp2_with fail
          refine (awake_any _).mono ?_
          rintro e wt ⟨rfl, hxt⟩
          have YT := Lib.hid (Y4.out.trans hxt)
          clear hxt
          go_wp2_with fail
          go_ret
          exact ⟨rfl, X0.out.trans YT.out⟩
end Go.Proofs.YtdpblciohodgcaaGreatDoor

/- SequentValid: a formula that is proved holds at all worlds of every model with the conditions of the logic: for every refutation, formula and model. The row, and its tied card. -/

namespace Go.Proofs.YtdpblciohodgcaaGreatDoor
open Go.ChangeShapes Go.WideShapes Go.ChangeAt Go.RowKit Go.Joins

theorem fml_of_arg {H : Type} {enc : TypeId × Value → H} {w : World} {spare : Nat → Bool} {held : Bool} {v : Value} {d : DataW H} {p : List MemPlace} (h : DataW.Trod enc Tryz.prog w 0 spare held 22 v d p) (hv : ∃ a len cap, v = .slice a len cap) : ∃ l, Fml w v l := by
  obtain ⟨a, len, cap, rfl⟩ := hv
  obtain ⟨fuel, hf⟩ := h
  exact fml_of_trod hf
theorem laidOutP : laidOutB Tryz.prog = true := by kernel_rfl
theorem own : ownKnob Tryz.prog.godebug = none := by kernel_rfl
theorem door_met (os : Os) (args : Array Value) : laidMetH Tryz.prog [("math/bits.deBruijn64tab", Rows.laid_math_bits_deBruijn64tab)] ((World.doorLaid Tryz.prog 600 os).forCall (fun _ _ => 0) ⟨#[], args, []⟩).memory := by
  rw [Go.MakeChecks.laidMetH_plain _ _ _ rfl]
  exact laidMet_of_run' 8 (by kernel_rfl) (by kernel_rfl)
set_option maxRecDepth 100000 in
theorem sequentValid_lifted (os : Os) (started : os.Started) (H : Type) (enc : TypeId × Value → H) :
    ReturnsInHanded {} Tryz.checked os 4 .any (fun w args => (Rows.sequentValidSpec.pre enc Tryz.prog Tryz.f4 [] false w args ∧ laidMetH Tryz.prog [("math/bits.deBruijn64tab", Rows.laid_math_bits_deBruijn64tab)] w) ∧ sizedMet enc Tryz.prog Tryz.f4 (OpenSpec.ofChange Rows.sequentValidSpec) false w args)
      (Rows.sequentValidSpec.post enc Tryz.prog Tryz.f4 false true false false) := by
  refine returnsInHanded_of_change_and (C := Tryz.checked) (X := fun w _ => laidMetH Tryz.prog [("math/bits.deBruijn64tab", Rows.laid_math_bits_deBruijn64tab)] w) (fun _ _ _ hh h => h.of_heap hh) own started (by kernel_rfl) Tryz.func4
    (ChangeSpec.witness_shaped (enc := enc) (C := Tryz.checked) (os := os) (X := fun w _ => laidMetH Tryz.prog [("math/bits.deBruijn64tab", Rows.laid_math_bits_deBruijn64tab)] w) false (World.doorLaid Tryz.prog 600 os) #[.agg #[.int .i64 0, .slice none 0 0, .slice none 0 0], .slice none 0 0, .agg #[.int .i64 0, .slice none 0 0, .slice none 0 0]] 8 rfl (World.shaped_of_RefB (by kernel_rfl) (by kernel_rfl)) (by kernel_rfl) (by kernel_rfl) (by kernel_rfl) (door_met os _)) ?_
  intro W base args ds gs before hval0 hW _ _ hL _
  have hval : ∀ (j : Nat) t v, Tryz.f4.params[j]? = some t → args[j]? = some v → Value.okWide Tryz.prog W .any base t v := hval0
  have hTAB := tabz_of_laid hL
  have hW' := hW
  obtain ⟨p, q, hA0, hV, rfl, hfz, hnd⟩ := hW
  have hA : DataW.TrodAll enc Tryz.prog W 0 (fun _ => true) true Tryz.f4.params.toList args.toList ds p := hA0
  rw [Tryz.params4] at hA hval
  obtain ⟨v0, vs0, d0, ds0, p0, q0, hargs, rfl, rfl, h0, r0⟩ := trodAll_cons hA
  obtain ⟨v1, vs1, d1, ds1, p1, q1, rfl, rfl, rfl, h1, r1⟩ := trodAll_cons r0
  obtain ⟨v2, vs2, d2, ds2, p2, q2, rfl, rfl, rfl, h2, r2⟩ := trodAll_cons r1
  obtain ⟨rfl, rfl, rfl⟩ := trodAll_nil r2
  obtain rfl : args = #[v0, v1, v2] := by cases args; simp_all
  obtain ⟨rfl, rfl⟩ := trodVars_none hV
  obtain ⟨u0a, u0b, u0c, y0a, y0b, y0c, n0, rfl, hd0, hp0, t0a, t0b, t0c⟩ := open_agg3 Tryz.underlying25 (by kernel_rfl) (by kernel_rfl) (hval 0 25 v0 rfl rfl) h0
  obtain ⟨lg0, rfl, _⟩ := int_of_trod t0a
  obtain ⟨bs0, hbs0⟩ := fml_of_trod t0b
  obtain ⟨ls0, hls0⟩ := sps_of_trod t0c
  obtain ⟨f1, hf1⟩ := fml_of_arg h1 (okWide_slice Tryz.underlying22 (hval 1 22 v1 rfl rfl))
  obtain ⟨md2, hm2, mo2⟩ := md_of_arg (hval 2 29 v2 rfl rfl) h2
  simp only [List.append_nil] at hW'
  clear hA0 hval0
  refine (valid_any (lg := lg0) hbs0 hls0 hf1 hm2 mo2 hTAB).mono ?_
  rintro e W' ⟨rfl, hx⟩
  have hlt : ∀ x ∈ p0 ++ (p1 ++ p2), x.block < W.heap.size := fun x hx' => hW'.lt x hx'
  refine ⟨_, rfl, post_of_below (pa := p0 ++ (p1 ++ p2)) (pv := []) hW' (fun _ _ _ => trodAll_mk1 (shut_bool Tryz.underlying4 _)) (fun sp hsp => ?_) (fun _ _ => rfl) (by simp) hx (ok_one (by kernel_rfl) rfl (okWide_bool_mk Tryz.underlying4 _))⟩
  have ht := (trodAll_cons_mk (WideElems.Trod_stays laidOutP (by kernel_rfl) (of_decide_eq_true (by kernel_rfl)) h0 (fun x hx' => hx.same (hlt x (List.mem_append.2 (Or.inl hx')))) (fun x hx' => hsp x (List.mem_append.2 (Or.inl hx')))) (trodAll_cons_mk (WideElems.Trod_stays laidOutP (by kernel_rfl) (of_decide_eq_true (by kernel_rfl)) h1 (fun x hx' => hx.same (hlt x (List.mem_append.2 (Or.inr (List.mem_append.2 (Or.inl hx')))))) (fun x hx' => hsp x (List.mem_append.2 (Or.inr (List.mem_append.2 (Or.inl hx')))))) (trodAll_cons_mk (WideElems.Trod_stays laidOutP (by kernel_rfl) (of_decide_eq_true (by kernel_rfl)) h2 (fun x hx' => hx.same (hlt x (List.mem_append.2 (Or.inr (List.mem_append.2 (Or.inr hx')))))) (fun x hx' => hsp x (List.mem_append.2 (Or.inr (List.mem_append.2 (Or.inr hx')))))) trodAll_mk0)))
  simp only [List.append_nil] at ht
  exact ht
theorem sequentValid_said : Rows.SequentValidSaid :=
  OpenClaim.holds_of_wide 4 Tryz.f4 rfl rfl rfl rfl rfl rfl rfl ⟨rfl, rfl, rfl, rfl, rfl⟩ rfl rfl rfl rfl rfl (by kernel_rfl) Tryz.func4 (by kernel_rfl)
    (of_decide_eq_true (by kernel_rfl)) (by unfold Func.isWrapper; first | (rw [if_pos (by decide +kernel)]; kernel_rfl) | (rw [if_neg (by decide +kernel)]; exact ⟨rfl, rfl⟩))
    (fun os started H enc _ => sequentValid_lifted os started H enc)
theorem sequentValid_plain (f : FuncId) (fn : Func) (hf : Tryz.pinned.checked.prog.funcNamed "witting/wittinglaw46.SequentValid" = some f) (hfn : Tryz.pinned.checked.prog.funcs[f]? = some fn) :
    false = Tryz.pinned.checked.prog.looks [] ∧ ∀ (j : Nat) t, fn.params[j]? = some t → Tryz.pinned.checked.prog.wantsStandIn t = false := by
  obtain rfl : f = 4 := Option.some.inj ((show Tryz.prog.funcNamed "witting/wittinglaw46.SequentValid" = some 4 by kernel_rfl).symm.trans hf) |>.symm
  obtain rfl : fn = Tryz.f4 := (Option.some.inj (Tryz.func4.symm.trans hfn)).symm
  refine ⟨by kernel_rfl, fun j t ht => ?_⟩
  rw [Tryz.params4] at ht
  have hm : t ∈ #[(25 : TypeId), (22 : TypeId), (29 : TypeId)] := Array.mem_of_getElem? ht
  simp only [List.mem_toArray, List.mem_cons, List.not_mem_nil, or_false] at hm
  rcases hm with rfl | rfl | rfl
  · exact (show Tryz.prog.wantsStandIn 25 = false by kernel_rfl)
  · exact (show Tryz.prog.wantsStandIn 22 = false by kernel_rfl)
  · exact (show Tryz.prog.wantsStandIn 29 = false by kernel_rfl)
/-- The card. -/
theorem sequentValid_card : Rows.SequentValidCardSaid :=
  Claim7.holds_tied_plain_at .later [] _ _ _ _ sequentValid_said (fun _ h => by cases h) (by kernel_rfl) (fun _ h => by cases h) sequentValid_row_tie rfl ⟨rfl, rfl⟩ (by kernel_rfl) rfl sequentValid_plain (by kernel_rfl)
end Go.Proofs.YtdpblciohodgcaaGreatDoor
