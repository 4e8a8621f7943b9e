/- The law SequentSound. -/
import Derived.Test.YtdpblciohodgcaaGreatDoorS28
import Derived.Test.YtdpblciohodgcaaGreatDoorS35
import Derived.Test.YtdpblciohodgcaaGreatDoorS39
import Derived.Test.YtdpblciohodgcaaGreatDoorS40
import Derived.Test.YtdpblciohodgcaaGreatDoorS41
import Derived.Test.YtdpblciohodgcaaGreatDoorS11
import Derived.Test.YtdpblciohodgcaaGreatDoorS13
import Derived.LaidMore
import Derived.SevenTiedAt
import Derived.Stop.Joined
import Derived.Below

namespace Go.Proofs.YtdpblciohodgcaaGreatDoor
open Go.RowKit

theorem refuted_err {lg : Int} {base : List Nd} {steps : List Stp} (h : (refutedS lg base steps).2 ≠ 0) : (refutedS lg base steps).1 = [] := by
  unfold refutedS at h ⊢
  cases e : checkS lg base steps != 0
  · rw [e] at h; exact absurd rfl h
  · rfl
theorem refuted_ok {lg : Int} {base : List Nd} {steps : List Stp} (h : (refutedS lg base steps).2 = 0) : checkS lg base steps = 0 := by
  unfold refutedS at h
  cases e : checkS lg base steps != 0
  · simpa using e
  · rw [e] at h; exact h
theorem meet_snoc {md : Md} (l : List (List Nd)) (f : List Nd) (s : Nat) : meetP md (l ++ [f]) s = meetP md l s &&& holdP md f := by
  unfold meetP
  rw [List.foldl_append]; rfl
theorem and_wordM {a b : Nat} (ha : word a) : word (a &&& b) := Nat.lt_of_le_of_lt Nat.and_le_left ha
theorem meet_word {md : Md} (l : List (List Nd)) {s : Nat} (hs : word s) : word (meetP md l s) := by
  unfold meetP
  induction l generalizing s with
  | nil => exact hs
  | cons a r ih => exact ih (and_wordM hs)
theorem take_snocM {α : Type} {l : List α} {k : Nat} {x : α} (h : l[k]? = some x) : l.take (k + 1) = l.take k ++ [x] := by
  rw [List.take_add_one, h]; rfl
set_option maxRecDepth 100000 in
set_option maxHeartbeats 64000000 in
theorem sound_any {w : World} {lg : Int} {vb vs vm : Value} {base : List Nd} {steps : List Stp} {md : Md} (hb : Fml w vb base) (hs : Sps w vs steps) (hm : MdV w vm md) (hok : md.ok) (hT : TabZ w) :
    Calls Tryz.prog 3 #[.agg #[.int .i64 lg, vb, vs], vm] w fun e w' => e = .returned (.bool true) ∧ Ext w w' := by
  have H := Lib.hid hb
  have HS := Lib.hid hs
  have HM := Lib.hid hm
  have HMOK := Lib.hid hok
  have HTZ := Lib.hid hT
  obtain ⟨Ab, cb, rfl, _⟩ := fml_slice hb
  obtain ⟨As, cs, rfl, _⟩ := hs
  obtain ⟨vv, vr, rfl, ⟨Av, cv, rfl, _⟩, ⟨Ar, cr, rfl, _⟩⟩ := hm
  obtain ⟨er, her⟩ : ∃ z, z = checkM md := ⟨_, rfl⟩
  have HER := Lib.hid her
  obtain ⟨fw, hfw⟩ : ∃ z, z = fewS base steps := ⟨_, rfl⟩
  have HFW := Lib.hid hfw
  obtain ⟨mn, hmn⟩ : ∃ z, z = md.n := ⟨_, rfl⟩
  have HMN := Lib.hid hmn
  rw [← hmn] at HM ⊢
  have X0 := Lib.hid (show Ext w ((w.alloc (.cells #[.int .i64 lg, .slice Ab base.length cb, .slice As steps.length cs] 25)).alloc (.cells #[.int .i64 mn, .slice Av md.val.length cv, .slice Ar md.rel.length cr] 29)) from ((Ext.refl _).alloc _).alloc _)
  have BR := Lib.hid (show ((w.alloc (.cells #[.int .i64 lg, .slice Ab base.length cb, .slice As steps.length cs] 25)).alloc (.cells #[.int .i64 mn, .slice Av md.val.length cv, .slice Ar md.rel.length cr] 29)).heap[w.heap.size]? = some (.cells #[.int .i64 lg, .slice Ab base.length cb, .slice As steps.length cs] 25 (0, 0)) from (((Ext.refl (w.alloc (.cells #[.int .i64 lg, .slice Ab base.length cb, .slice As steps.length cs] 25))).alloc _).block (by simp)).trans (heap_alloc_new _ _))
  have BM := Lib.hid (show ((w.alloc (.cells #[.int .i64 lg, .slice Ab base.length cb, .slice As steps.length cs] 25)).alloc (.cells #[.int .i64 mn, .slice Av md.val.length cv, .slice Ar md.rel.length cr] 29)).heap[w.heap.size + 1]? = some (.cells #[.int .i64 mn, .slice Av md.val.length cv, .slice Ar md.rel.length cr] 29 (0, 0)) by
    have h1 := heap_alloc_new (w.alloc (.cells #[.int .i64 lg, .slice Ab base.length cb, .slice As steps.length cs] 25)) (.cells #[.int .i64 mn, .slice Av md.val.length cv, .slice Ar md.rel.length cr] 29)
    rw [World.size_alloc] at h1
    exact h1)
  have BRL := Lib.hid (lt_heap BR.out)
  have BML := Lib.hid (lt_heap BM.out)
  clear hb hok hT her hfw hmn
  go_enter Tryz.func3, Tryz.ntmps3
  go_wp2_with fail
  refine (awake_any _).mono ?_
  rintro e w1 ⟨rfl, hx⟩
  have Y1 := Lib.hid (show Ext ((w.alloc (.cells #[.int .i64 lg, .slice Ab base.length cb, .slice As steps.length cs] 25)).alloc (.cells #[.int .i64 mn, .slice Av md.val.length cv, .slice Ar md.rel.length cr] 29)) w1 from hx)
  clear hx
  obtain ⟨z0, z1, z2, _, zl⟩ := cells3 ((Y1.out.block BRL.out).trans BR.out)
  obtain ⟨n0, n1, n2, nl⟩ := cells3p ((Y1.out.block BML.out).trans BM.out)
  go_wp2_with fail
  refine (fewS_any (lg := lg) (H.out.ext (X0.out.trans Y1.out)) (HS.out.ext (X0.out.trans Y1.out))).mono ?_
  rintro e w2 ⟨rfl, hx⟩
  rw [← HFW.out]
  have Y2 := Lib.hid (Y1.out.trans hx)
  clear hx z0 z1 z2 zl n0 n1 n2 nl
  obtain ⟨z0, z1, z2, _, zl⟩ := cells3 ((Y2.out.block BRL.out).trans BR.out)
  obtain ⟨n0, n1, n2, nl⟩ := cells3p ((Y2.out.block BML.out).trans BM.out)
  cases fw
  · skip
    go_wp2_with fail
    refine (awake_any _).mono ?_
    rintro e wt ⟨rfl, hxt⟩
    have YT := Lib.hid (Y2.out.trans hxt)
    clear hxt
    go_wp2_with fail
    go_ret
    exact ⟨rfl, X0.out.trans YT.out⟩
  · skip
    go_wp2_with fail
    refine (few13_any _ md 10 _ (HM.out.ext (X0.out.trans Y2.out))).mono ?_
    rintro e w3 ⟨fb, rfl, hx⟩
    have Y3 := Lib.hid (Y2.out.trans hx)
    clear hx z0 z1 z2 zl n0 n1 n2 nl
    obtain ⟨z0, z1, z2, _, zl⟩ := cells3 ((Y3.out.block BRL.out).trans BR.out)
    obtain ⟨n0, n1, n2, nl⟩ := cells3p ((Y3.out.block BML.out).trans BM.out)
    cases fb
    · skip
      go_wp2_with fail
      refine (awake_any _).mono ?_
      rintro e wt ⟨rfl, hxt⟩
      have YT := Lib.hid (Y3.out.trans hxt)
      clear hxt
      go_wp2_with fail
      go_ret
      exact ⟨rfl, X0.out.trans YT.out⟩
    · skip
      go_wp2_with fail
      refine (check13_any _ md _ (HM.out.ext (X0.out.trans Y3.out)) HMOK.out).mono ?_
      rintro e w4 ⟨rfl, hx⟩
      rw [← HER.out]
      have Y4 := Lib.hid (Y3.out.trans hx)
      clear hx z0 z1 z2 zl n0 n1 n2 nl
      obtain ⟨z0, z1, z2, _, zl⟩ := cells3 ((Y4.out.block BRL.out).trans BR.out)
      obtain ⟨n0, n1, n2, nl⟩ := cells3p ((Y4.out.block BML.out).trans BM.out)
      by_cases hz : er = 0
      · subst hz
        have HCK := Lib.hid HER.out.symm
        obtain ⟨ib, hib⟩ : ∃ z, z = inAll md lg := ⟨_, rfl⟩
        have HIB := Lib.hid hib
        clear hib
        go_wp2_with fail
        refine (inAll_any _ md lg _ (HTZ.out.ext (X0.out.trans Y4.out)) (HM.out.ext (X0.out.trans Y4.out)) HMOK.out HCK.out).mono ?_
        rintro e w5 ⟨rfl, hx⟩
        rw [← HIB.out]
        have Y5 := Lib.hid (Y4.out.trans hx)
        clear hx z0 z1 z2 zl n0 n1 n2 nl
        obtain ⟨z0, z1, z2, _, zl⟩ := cells3 ((Y5.out.block BRL.out).trans BR.out)
        obtain ⟨n0, n1, n2, nl⟩ := cells3p ((Y5.out.block BML.out).trans BM.out)
        cases ib
        · skip
          go_wp2_with fail
          refine (awake_any _).mono ?_
          rintro e wt ⟨rfl, hxt⟩
          have YT := Lib.hid (Y5.out.trans hxt)
          clear hxt
          go_wp2_with fail
          go_ret
          exact ⟨rfl, X0.out.trans YT.out⟩
        · have HGM := Lib.hid (inAll_good HCK.out HIB.out.symm)
          obtain ⟨eg, heg⟩ : ∃ z, z = (refutedS lg base steps).2 := ⟨_, rfl⟩
          have HEG := Lib.hid heg
          obtain ⟨l, hl⟩ : ∃ z, z = (refutedS lg base steps).1 := ⟨_, rfl⟩
          have HL := Lib.hid hl
          clear heg hl
          go_wp2_with fail
          refine (refuted_any (lg := lg) (H.out.ext (X0.out.trans Y5.out)) (HS.out.ext (X0.out.trans Y5.out))).mono ?_
          rintro e w6 ⟨u, rfl, hx, hfm⟩
          rw [← HEG.out]
          rw [← HL.out] at hfm
          have Y6 := Lib.hid (Y5.out.trans hx)
          clear hx z0 z1 z2 zl n0 n1 n2 nl
          obtain ⟨z0, z1, z2, _, zl⟩ := cells3 ((Y6.out.block BRL.out).trans BR.out)
          obtain ⟨n0, n1, n2, nl⟩ := cells3p ((Y6.out.block BML.out).trans BM.out)
          have HFM := Lib.hid hfm
          obtain ⟨A1, c1, rfl, hc1, hm1, hr1⟩ := hfm
          have HR1 := Lib.hid hr1
          unfold maxLen at hm1
          clear hr1
          by_cases hg : eg = 0
          · subst hg
            have HCS := Lib.hid (refuted_ok HEG.out.symm)
            obtain ⟨hn1, hn64, _⟩ := checkM_zero HCK.out
            obtain ⟨N, hN⟩ := Int.eq_ofNat_of_zero_le (show 0 ≤ md.n by omega)
            have hmnN : mn = (N : Int) := by rw [HMN.out]; exact hN
            subst hmnN
            have hN64 : N ≤ 64 := by omega
            have HNT := Lib.hid (show md.n.toNat = N by rw [hN]; exact Int.toNat_natCast N)
            have HAW := Lib.hid (allw_word hN64)
            clear hN hn1 hn64
            go_wp2_with fail
            refine (rAll13_any N hN64 _).mono ?_
            rintro e w7 ⟨rfl, rfl⟩
            go_wp2_with fail
            clear z0 z1 z2 zl n0 n1 n2 nl
            obtain ⟨w7, hw7⟩ : ∃ z, z = w6 := ⟨_, rfl⟩
            subst hw7
            go_loopw [7, 52] (fun vs vi wr => ∃ k s : Nat, vi = .int .i64 (k : Int) ∧ vs = .int .u64 (s : Int) ∧ k ≤ l.length ∧ Hid (Ext w7 wr ∧ s = meetP md (l.take k) (allW N) ∧ ∀ f ∈ l.take k, chk17 md f = 0)) (fun _ v _ => l.length - (intOf v).toNat)
            case atStart => exact ⟨0, allW N, rfl, rfl, Nat.zero_le _, Lib.hid ⟨Ext.refl _, rfl, fun f hf => by simp at hf⟩⟩
            case round =>
              obtain ⟨k, s, rfl, rfl, hk, HREL⟩ := hrel
              have HX := Lib.hid HREL.out.1
              have HSM := Lib.hid HREL.out.2.1
              have HAL := Lib.hid HREL.out.2.2
              have YR := Lib.hid (Y6.out.trans HX.out)
              clear HREL
              by_cases hlt2 : k < l.length
              · have hk1 : (k : Int) < (l.length : Int) := by omega
                obtain ⟨f, hfk⟩ : ∃ f, l[k]? = some f := ⟨_, List.getElem?_eq_getElem hlt2⟩
                obtain ⟨ad, rfl, hadl, hcell⟩ := HR1.out (by intro e; rw [e] at hlt2; simp at hlt2)
                obtain ⟨uk, huk, hff⟩ := hcell k f hfk
                have a0 := (HX.out.cell (p := ad.add k) (by rw [block_of_add]; exact hadl)).trans huk
                have HFF := Lib.hid (hff.ext HX.out)
                have HTS := Lib.hid (take_snocM hfk)
                obtain ⟨hck, hfew⟩ := refuted_mem HCS.out (by rw [← HL.out]; exact List.mem_of_getElem? hfk)
                have HC02 := Lib.hid (chk_02 HCK.out hck hfew)
                clear hcell huk hff hfk hck hfew
                obtain ⟨Af, cf, rfl, _⟩ := fml_slice HFF.out
                obtain ⟨z0, z1, z2, _, zl⟩ := cells3 ((YR.out.block BRL.out).trans BR.out)
                obtain ⟨n0, n1, n2, nl⟩ := cells3p ((YR.out.block BML.out).trans BM.out)
                obtain ⟨g, hgg⟩ : ∃ z, z = chk17 md f := ⟨_, rfl⟩
                have HGG := Lib.hid hgg
                obtain ⟨x, hxx⟩ : ∃ z, z = (if chk17 md f = 0 then holdP md f else 0) := ⟨_, rfl⟩
                have HXX := Lib.hid hxx
                clear hgg hxx
                go_wp2_with fail
                refine (pHolds_of sets_said _ _ md f _ (HM.out.ext (X0.out.trans YR.out)) HMOK.out HFF.out).mono ?_
                rintro e w8 ⟨rfl, hx⟩
                rw [← HXX.out, ← HGG.out]
                have HX8 := Lib.hid (HX.out.trans hx)
                have Y8 := Lib.hid (YR.out.trans hx)
                clear hx z0 z1 z2 zl n0 n1 n2 nl a0
                by_cases hg2 : g = 2
                · subst hg2
                  go_wp2_with fail
                  go_ret
                  exact ⟨rfl, X0.out.trans Y8.out⟩
                · have hg0 : g = 0 := by
                    rcases HC02.out with h | h
                    · rw [HGG.out]; exact h
                    · exact absurd (by rw [HGG.out]; exact h) hg2
                  subst hg0
                  have HXH := Lib.hid (show x = holdP md f by rw [HXX.out, if_pos HGG.out.symm])
                  have hand : bits .and .u64 (s : Int) (x : Int) = ((s &&& x : Nat) : Int) := bits_and (by rw [HSM.out]; exact meet_word _ HAW.out) (by rw [HXH.out]; exact Nat.lt_of_lt_of_le (holdP_low HCK.out f) (two64 (by rw [HNT.out]; exact hN64)))
                  have HSN := Lib.hid (show (s &&& x) = meetP md (l.take (k + 1)) (allW N) by rw [HTS.out, meet_snoc, ← HSM.out, HXH.out])
                  have HAN := Lib.hid (show ∀ f ∈ l.take (k + 1), chk17 md f = 0 from fun f' hf' => by
                    rw [HTS.out] at hf'
                    rcases List.mem_append.1 hf' with h | h
                    · exact HAL.out f' h
                    · rw [List.mem_singleton.1 h]; exact HGG.out.symm)
                  obtain ⟨t, ht⟩ : ∃ z, z = s &&& x := ⟨_, rfl⟩
                  rw [← ht] at hand HSN
                  clear hg2 ht
                  go_wp2_with fail
                  go_roundw
                  case rel => exact ⟨k + 1, t, by go_num, rfl, by omega, Lib.hid ⟨HX8.out, HSN.out, HAN.out⟩⟩
                  case measure => simp [intOf]; omega
              · obtain rfl : l.length = k := by omega
                have hs0 : s = 0 := by
                  rw [HSM.out, List.take_length, HL.out, ← HNT.out]
                  exact sound_zero HGM.out HCS.out (fun f hf => HAL.out f (by rw [List.take_length, HL.out]; exact hf))
                subst hs0
                go_wp2_with fail
                go_ret
                exact ⟨rfl, X0.out.trans YR.out⟩
          · have hge : (eg != 0) = true := by simpa using hg
            have hl0 : l = [] := by rw [HL.out]; exact refuted_err (by rw [← HEG.out]; exact hg)
            subst hl0
            clear hg
            go_wp2_with fail
            go_ret
            exact ⟨rfl, X0.out.trans Y6.out⟩
      · have hzb : (er != 0) = true := by simpa using hz
        clear hz
        go_wp2_with fail
        refine (awake_any _).mono ?_
        rintro e wt ⟨rfl, hxt⟩
        have YT := Lib.hid (Y4.out.trans hxt)
        clear hxt
        go_wp2_with fail
        go_ret
        exact ⟨rfl, X0.out.trans YT.out⟩
end Go.Proofs.YtdpblciohodgcaaGreatDoor

/- SequentSound: if a refutation is accepted, its formulas hold together at no world of a model with the conditions of the logic: for every refutation and model. The row, and its tied card. -/

namespace Go.Proofs.YtdpblciohodgcaaGreatDoor
open Go.ChangeShapes Go.WideShapes Go.ChangeAt Go.RowKit Go.Joins

theorem laidOutP : laidOutB Tryz.prog = true := by kernel_rfl
theorem own : ownKnob Tryz.prog.godebug = none := by kernel_rfl
theorem door_met (os : Os) (args : Array Value) : laidMetH Tryz.prog [("math/bits.deBruijn64tab", Rows.laid_math_bits_deBruijn64tab)] ((World.doorLaid Tryz.prog 600 os).forCall (fun _ _ => 0) ⟨#[], args, []⟩).memory := by
  rw [Go.MakeChecks.laidMetH_plain _ _ _ rfl]
  exact laidMet_of_run' 8 (by kernel_rfl) (by kernel_rfl)
set_option maxRecDepth 100000 in
theorem sequentSound_lifted (os : Os) (started : os.Started) (H : Type) (enc : TypeId × Value → H) :
    ReturnsInHanded {} Tryz.checked os 3 .any (fun w args => (Rows.sequentSoundSpec.pre enc Tryz.prog Tryz.f3 [] false w args ∧ laidMetH Tryz.prog [("math/bits.deBruijn64tab", Rows.laid_math_bits_deBruijn64tab)] w) ∧ sizedMet enc Tryz.prog Tryz.f3 (OpenSpec.ofChange Rows.sequentSoundSpec) false w args)
      (Rows.sequentSoundSpec.post enc Tryz.prog Tryz.f3 false true false false) := by
  refine returnsInHanded_of_change_and (C := Tryz.checked) (X := fun w _ => laidMetH Tryz.prog [("math/bits.deBruijn64tab", Rows.laid_math_bits_deBruijn64tab)] w) (fun _ _ _ hh h => h.of_heap hh) own started (by kernel_rfl) Tryz.func3
    (ChangeSpec.witness_shaped (enc := enc) (C := Tryz.checked) (os := os) (X := fun w _ => laidMetH Tryz.prog [("math/bits.deBruijn64tab", Rows.laid_math_bits_deBruijn64tab)] w) false (World.doorLaid Tryz.prog 600 os) #[.agg #[.int .i64 0, .slice none 0 0, .slice none 0 0], .agg #[.int .i64 0, .slice none 0 0, .slice none 0 0]] 8 rfl (World.shaped_of_RefB (by kernel_rfl) (by kernel_rfl)) (by kernel_rfl) (by kernel_rfl) (by kernel_rfl) (door_met os _)) ?_
  intro W base args ds gs before hval0 hW _ _ hL _
  have hval : ∀ (j : Nat) t v, Tryz.f3.params[j]? = some t → args[j]? = some v → Value.okWide Tryz.prog W .any base t v := hval0
  have hTAB := tabz_of_laid hL
  have hW' := hW
  obtain ⟨p, q, hA0, hV, rfl, hfz, hnd⟩ := hW
  have hA : DataW.TrodAll enc Tryz.prog W 0 (fun _ => true) true Tryz.f3.params.toList args.toList ds p := hA0
  rw [Tryz.params3] at hA hval
  obtain ⟨v0, vs0, d0, ds0, p0, q0, hargs, rfl, rfl, h0, r0⟩ := trodAll_cons hA
  obtain ⟨v1, vs1, d1, ds1, p1, q1, rfl, rfl, rfl, h1, r1⟩ := trodAll_cons r0
  obtain ⟨rfl, rfl, rfl⟩ := trodAll_nil r1
  obtain rfl : args = #[v0, v1] := by cases args; simp_all
  obtain ⟨rfl, rfl⟩ := trodVars_none hV
  obtain ⟨u0a, u0b, u0c, y0a, y0b, y0c, n0, rfl, hd0, hp0, t0a, t0b, t0c⟩ := open_agg3 Tryz.underlying25 (by kernel_rfl) (by kernel_rfl) (hval 0 25 v0 rfl rfl) h0
  obtain ⟨lg0, rfl, _⟩ := int_of_trod t0a
  obtain ⟨bs0, hbs0⟩ := fml_of_trod t0b
  obtain ⟨ls0, hls0⟩ := sps_of_trod t0c
  obtain ⟨md1, hm1, mo1⟩ := md_of_arg (hval 1 29 v1 rfl rfl) h1
  simp only [List.append_nil] at hW'
  clear hA0 hval0
  refine (sound_any (lg := lg0) hbs0 hls0 hm1 mo1 hTAB).mono ?_
  rintro e W' ⟨rfl, hx⟩
  have hlt : ∀ x ∈ p0 ++ p1, x.block < W.heap.size := fun x hx' => hW'.lt x hx'
  refine ⟨_, rfl, post_of_below (pa := p0 ++ p1) (pv := []) hW' (fun _ _ _ => trodAll_mk1 (shut_bool Tryz.underlying4 _)) (fun sp hsp => ?_) (fun _ _ => rfl) (by simp) hx (ok_one (by kernel_rfl) rfl (okWide_bool_mk Tryz.underlying4 _))⟩
  have ht := (trodAll_cons_mk (WideElems.Trod_stays laidOutP (by kernel_rfl) (of_decide_eq_true (by kernel_rfl)) h0 (fun x hx' => hx.same (hlt x (List.mem_append.2 (Or.inl hx')))) (fun x hx' => hsp x (List.mem_append.2 (Or.inl hx')))) (trodAll_cons_mk (WideElems.Trod_stays laidOutP (by kernel_rfl) (of_decide_eq_true (by kernel_rfl)) h1 (fun x hx' => hx.same (hlt x (List.mem_append.2 (Or.inr hx')))) (fun x hx' => hsp x (List.mem_append.2 (Or.inr hx')))) trodAll_mk0))
  simp only [List.append_nil] at ht
  exact ht
theorem sequentSound_said : Rows.SequentSoundSaid :=
  OpenClaim.holds_of_wide 3 Tryz.f3 rfl rfl rfl rfl rfl rfl rfl ⟨rfl, rfl, rfl, rfl, rfl⟩ rfl rfl rfl rfl rfl (by kernel_rfl) Tryz.func3 (by kernel_rfl)
    (of_decide_eq_true (by kernel_rfl)) (by unfold Func.isWrapper; first | (rw [if_pos (by decide +kernel)]; kernel_rfl) | (rw [if_neg (by decide +kernel)]; exact ⟨rfl, rfl⟩))
    (fun os started H enc _ => sequentSound_lifted os started H enc)
theorem sequentSound_plain (f : FuncId) (fn : Func) (hf : Tryz.pinned.checked.prog.funcNamed "witting/wittinglaw46.SequentSound" = some f) (hfn : Tryz.pinned.checked.prog.funcs[f]? = some fn) :
    false = Tryz.pinned.checked.prog.looks [] ∧ ∀ (j : Nat) t, fn.params[j]? = some t → Tryz.pinned.checked.prog.wantsStandIn t = false := by
  obtain rfl : f = 3 := Option.some.inj ((show Tryz.prog.funcNamed "witting/wittinglaw46.SequentSound" = some 3 by kernel_rfl).symm.trans hf) |>.symm
  obtain rfl : fn = Tryz.f3 := (Option.some.inj (Tryz.func3.symm.trans hfn)).symm
  refine ⟨by kernel_rfl, fun j t ht => ?_⟩
  rw [Tryz.params3] at ht
  have hm : t ∈ #[(25 : TypeId), (29 : TypeId)] := Array.mem_of_getElem? ht
  simp only [List.mem_toArray, List.mem_cons, List.not_mem_nil, or_false] at hm
  rcases hm with rfl | rfl
  · exact (show Tryz.prog.wantsStandIn 25 = false by kernel_rfl)
  · exact (show Tryz.prog.wantsStandIn 29 = false by kernel_rfl)
/-- The card. -/
theorem sequentSound_card : Rows.SequentSoundCardSaid :=
  Claim7.holds_tied_plain_at .later [] _ _ _ _ sequentSound_said (fun _ h => by cases h) (by kernel_rfl) (fun _ h => by cases h) sequentSound_row_tie rfl ⟨rfl, rfl⟩ (by kernel_rfl) rfl sequentSound_plain (by kernel_rfl)
end Go.Proofs.YtdpblciohodgcaaGreatDoor
