/- The rules: iff. -/
import Derived.Test.YtdpblciohodgcaaDoorS09
import Derived.Deep.RegionHeld3

namespace Go.Proofs.YtdpblciohodgcaaDoor
open Go.RowKit

set_option maxRecDepth 100000 in
set_option maxHeartbeats 4000000 in
theorem iff_any {w : World} {b : Nat} {lg : Int} {ls : List Ln} {fs : List (List Nd)} {st : List (List Int)} {i : Nat} {n : Ln} {fi : List Nd} (h : Chk w b lg ls fs st) (ok : CkOk ls fs st i n fi) :
    Calls Tryd.prog 112 #[.pointer (some ⟨b, 0, none⟩), .int .i64 i] w fun e w' => e = .returned (.bool (iffL lg ls fs st i n fi)) ∧ Ext w w' := by
  have H := Lib.hid h
  have OK := Lib.hid ok
  have HX0 := Lib.hid (Ext.refl w)
  clear h ok
  go_enter Tryd.func112, Tryd.ntmps112
  go_wp2_with fail
  refine (two_any (H.out.ext HX0.out) OK.out).mono ?_
  rintro e w1 ⟨ur0, ur1, rfl, hx, hf⟩
  have HX1 := Lib.hid (HX0.out.trans hx)
  have HS1 := Lib.hid hx
  clear hx
  have HF1 := Lib.hid hf
  clear hf
  cases hd : twoL ls fs st i n with
  | none =>
    have D2 := Lib.hid hd
    clear hd
    go_wp2_with fail
    refine (one_any (H.out.ext HX1.out) OK.out.st_ok i n OK.out.n_at OK.out.st_lt OK.out.fs_le).mono ?_
    rintro e w2 ⟨ux0, rfl, hx, hf⟩
    have HX2 := Lib.hid (HX1.out.trans hx)
    have HS2 := Lib.hid hx
    clear hx
    have HF3 := Lib.hid hf
    clear hf
    cases hd : oneL ls fs st i n with
    | none =>
      have D4 := Lib.hid hd
      clear hd
      go_wp2_with fail
      go_ret
      exact ⟨same_of (by simp only [iffL, D2.out, D4.out] <;> rfl), HX2.out⟩
    | some x =>
      have D4 := Lib.hid hd
      have Vx := Lib.hid (HF3.out _ hd)
      clear hd
      go_wp2_with fail
      refine (part_any ux0 x 8 _ (Vx.out.ext (Ext.refl _)) (OK.out.fs_ok _ (oneL_mem D4.out OK.out.fs_le)).1).mono ?_
      rintro e w3 ⟨us0, us1, rfl, hx, hf⟩
      have HX3 := Lib.hid (HX2.out.trans hx)
      have HS3 := Lib.hid hx
      clear hx
      have HF5 := Lib.hid hf
      clear hf
      cases hd : partL x 8 with
      | none =>
        have D6 := Lib.hid hd
        clear hd
        go_wp2_with fail
        go_quiet (fail)
        go_wp2_with fail
        go_ret
        exact ⟨same_of (by simp only [iffL, D2.out, D4.out, D6.out] <;> rfl), HX3.out.drewN _⟩
      | some s =>
        have D6 := Lib.hid hd
        have Vs := Lib.hid (HF5.out _ hd)
        clear hd
        cases hd : eqN (impN s.1 s.2) fi
        case false =>
          have D7 := Lib.hid hd
          clear hd
          obtain ⟨ad, c, vl, vs, Ai, ci, g1, g2, g3, g4, g5, g6, g7, g8, g9⟩ := (H.out.ext HX3.out).form OK.out.f_at
          have GB := (H.out.ext HX3.out).blt
          have GI : i < fs.length := (List.getElem?_eq_some_iff.1 OK.out.f_at).1
          have GF := Lib.hid g9
          clear g4 g5 g7 g9
          go_wp2_with fail
          go_region_held3 (fun w' => w'.cell? ⟨b, 2, none⟩ = some (.slice (some ad) fs.length c) ∧ w'.cell? (ad.add i) = some (.slice Ai fi.length ci)) (first | exact ⟨g6, g8⟩ | exact ⟨g6a, g8a⟩ | exact ⟨g6b, g8b⟩ | exact ⟨g6c, g8c⟩ | exact ⟨g6d, g8d⟩ | go_keep) (first | (go_at_call 48; refine (equal_any _ _ (impN s.1 s.2) fi _ (by exact (MA.out.fml.ext (by repeat (first | exact Ext.refl _ | assumption | apply Ext.alloc | apply Ext.drew))).1) (by exact (GF.out.ext (by repeat (first | exact Ext.refl _ | assumption | apply Ext.alloc | apply Ext.drew))).1)).mono ?_; rintro e wb ⟨rfl, hxb0⟩; rw [D7.out]; have hxb : Ext w3 wb := Ext.trans (by repeat (first | exact Ext.refl _ | assumption | apply Ext.alloc | apply Ext.drew)) hxb0; have g6b := (hxb.cell (p := ⟨b, 2, none⟩) GB).trans g6; have g8b := (hxb.cell (p := ad.add i) (by rw [block_of_add]; exact g3)).trans g8; clear hxb0) | (go_at_call 48; refine (equal_any _ _ (impN s.2 s.1) fi _ (by exact (MC.out.fml.ext (by repeat (first | exact Ext.refl _ | assumption | apply Ext.alloc | apply Ext.drew))).1) (by exact (GF.out.ext (by repeat (first | exact Ext.refl _ | assumption | apply Ext.alloc | apply Ext.drew))).1)).mono ?_; rintro e wd ⟨rfl, hxd0⟩; have hxd : Ext w3 wd := Ext.trans (by repeat (first | exact Ext.refl _ | assumption | apply Ext.alloc | apply Ext.drew)) hxd0; have g6d := (hxd.cell (p := ⟨b, 2, none⟩) GB).trans g6; have g8d := (hxd.cell (p := ad.add i) (by rw [block_of_add]; exact g3)).trans g8; clear hxd0) | (go_at_call 13; refine (imp_any us0 us1 s.1 s.2 _ (by exact Vs.out.1.ext (by repeat (first | exact Ext.refl _ | assumption | apply Ext.alloc | apply Ext.drew))) (by exact Vs.out.2.ext (by repeat (first | exact Ext.refl _ | assumption | apply Ext.alloc | apply Ext.drew)))).mono ?_; rintro e wa ⟨ua, rfl, hma⟩; have MA := Lib.hid hma; have hxa : Ext w3 wa := Ext.trans (by repeat (first | exact Ext.refl _ | assumption | apply Ext.alloc | apply Ext.drew)) hma.2.2; have g6a := (hxa.cell (p := ⟨b, 2, none⟩) GB).trans g6; have g8a := (hxa.cell (p := ad.add i) (by rw [block_of_add]; exact g3)).trans g8; clear hma) | (go_at_call 13; refine (imp_any us1 us0 s.2 s.1 _ (by exact Vs.out.2.ext (by repeat (first | exact Ext.refl _ | assumption | apply Ext.alloc | apply Ext.drew))) (by exact Vs.out.1.ext (by repeat (first | exact Ext.refl _ | assumption | apply Ext.alloc | apply Ext.drew)))).mono ?_; rintro e wc ⟨uc, rfl, hmc⟩; have MC := Lib.hid hmc; have hxc : Ext w3 wc := Ext.trans (by repeat (first | exact Ext.refl _ | assumption | apply Ext.alloc | apply Ext.drew)) hmc.2.2; have g6c := (hxc.cell (p := ⟨b, 2, none⟩) GB).trans g6; have g8c := (hxc.cell (p := ad.add i) (by rw [block_of_add]; exact g3)).trans g8; clear hmc))
          all_goals
            go_wp2_with fail
            go_ret
            exact ⟨same_of (by simp only [iffL, D2.out, D4.out, D6.out, D7.out] <;> rfl), HX3.out.trans hxd⟩
        case true =>
          have D7 := Lib.hid hd
          clear hd
          obtain ⟨ad, c, vl, vs, Ai, ci, g1, g2, g3, g4, g5, g6, g7, g8, g9⟩ := (H.out.ext HX3.out).form OK.out.f_at
          have GB := (H.out.ext HX3.out).blt
          have GI : i < fs.length := (List.getElem?_eq_some_iff.1 OK.out.f_at).1
          have GF := Lib.hid g9
          clear g4 g5 g7 g9
          go_wp2_with fail
          refine wp_region_held_drew (S := fun w' => w'.cell? ⟨b, 2, none⟩ = some (.slice (some ad) fs.length c) ∧ w'.cell? (ad.add i) = some (.slice Ai fi.length ci)) (by kernel_rfl) ⟨g6, g8⟩ (fun hHeld => ?_)
          refine' wpAnyH_take (i := 0) (v := _) rfl (by kernel_rfl) (by kernel_rfl) (by kernel_rfl) (fun _ _ _ h => h) (Or.inl ⟨by rfl, ?hy0⟩) ⟨g6, g8⟩ ?rest0
          case hy0 => (intro w' hSw; (try dsimp only at hSw); go_simp; (try with_reducible rfl))
          try simp only [Act.put, List.setIfInBounds_toArray, List.set_cons_zero, List.set_cons_succ, List.getElem_toArray, List.getElem_cons_zero]
          refine' wpAnyH_take (i := 1) (v := _) rfl (by kernel_rfl) (by kernel_rfl) (by kernel_rfl) (fun _ _ _ h => h) (Or.inl ⟨by rfl, ?hy1⟩) ⟨g6, g8⟩ ?rest1
          case hy1 => (intro w' hSw; (try dsimp only at hSw); go_simp; (try with_reducible rfl))
          try simp only [Act.put, List.setIfInBounds_toArray, List.set_cons_zero, List.set_cons_succ, List.getElem_toArray, List.getElem_cons_succ, List.getElem_cons_zero]
          refine' wpAnyH_take (i := 2) (v := _) rfl (by kernel_rfl) (by kernel_rfl) (by kernel_rfl) (fun _ _ _ h => h) (Or.inl ⟨by rfl, ?hy2⟩) ⟨g6, g8⟩ ?rest2
          case hy2 => (intro w' hSw; (try dsimp only at hSw); go_simp; (try with_reducible rfl))
          try simp only [Act.put, List.setIfInBounds_toArray, List.set_cons_zero, List.set_cons_succ, List.getElem_toArray, List.getElem_cons_succ, List.getElem_cons_zero]
          refine' wpAnyH_take (i := 3) (v := _) rfl (by kernel_rfl) (by kernel_rfl) (by kernel_rfl) (fun _ _ _ h => h) (Or.inl ⟨by rfl, ?hy3⟩) ⟨g6, g8⟩ ?rest3
          case hy3 => (intro w' hSw; (try dsimp only at hSw); go_simp; (try with_reducible rfl))
          try simp only [Act.put, List.setIfInBounds_toArray, List.set_cons_zero, List.set_cons_succ, List.getElem_toArray, List.getElem_cons_succ, List.getElem_cons_zero]
          refine' wpAnyH_take (i := 5) (v := _) rfl (by kernel_rfl) (by kernel_rfl) (by kernel_rfl) (fun _ _ _ h => h) (Or.inl ⟨by rfl, ?hy5⟩) ⟨g6, g8⟩ ?rest5
          case hy5 => (intro w' hSw; (try dsimp only at hSw); go_simp; (try with_reducible rfl))
          try simp only [Act.put, List.setIfInBounds_toArray, List.set_cons_zero, List.set_cons_succ, List.getElem_toArray, List.getElem_cons_succ, List.getElem_cons_zero]
          refine' wpAnyH_take (i := 6) (v := _) rfl (by kernel_rfl) (by kernel_rfl) (by kernel_rfl) (fun _ _ _ h => h) (Or.inl ⟨by rfl, ?hy6⟩) ⟨g6, g8⟩ ?rest6
          case hy6 => (intro w' hSw; (try dsimp only at hSw); go_simp; (try with_reducible rfl))
          try simp only [Act.put, List.setIfInBounds_toArray, List.set_cons_zero, List.set_cons_succ, List.getElem_toArray, List.getElem_cons_succ, List.getElem_cons_zero]
          refine' wpAnyH_take (i := 7) (v := _) rfl (by kernel_rfl) (by kernel_rfl) (by kernel_rfl) (fun _ _ _ h => h) (Or.inl ⟨by rfl, ?hy7⟩) ⟨g6, g8⟩ ?rest7
          case hy7 => (intro w' hSw; (try dsimp only at hSw); go_simp; (try with_reducible rfl))
          try simp only [Act.put, List.setIfInBounds_toArray, List.set_cons_zero, List.set_cons_succ, List.getElem_toArray, List.getElem_cons_succ, List.getElem_cons_zero]
          refine' wpAnyH_take (i := 8) (v := _) rfl (by kernel_rfl) (by kernel_rfl) (by kernel_rfl) (fun _ _ _ h => h) (Or.inl ⟨by rfl, ?hy8⟩) ⟨g6, g8⟩ ?rest8
          case hy8 => (intro w' hSw; (try dsimp only at hSw); go_simp; (try with_reducible rfl))
          try simp only [Act.put, List.setIfInBounds_toArray, List.set_cons_zero, List.set_cons_succ, List.getElem_toArray, List.getElem_cons_succ, List.getElem_cons_zero]
          refine' wpAnyH_take (i := 9) (v := _) rfl (by kernel_rfl) (by kernel_rfl) (by kernel_rfl) (fun _ _ _ h => h) (Or.inl ⟨by rfl, ?hy9⟩) ⟨g6, g8⟩ ?rest9
          case hy9 => (intro w' hSw; (try dsimp only at hSw); go_simp; (try with_reducible rfl))
          try simp only [Act.put, List.setIfInBounds_toArray, List.set_cons_zero, List.set_cons_succ, List.getElem_toArray, List.getElem_cons_succ, List.getElem_cons_zero]
          refine' wpAnyH_take (i := 10) (v := _) rfl (by kernel_rfl) (by kernel_rfl) (by kernel_rfl) (fun _ _ _ h => h) (Or.inl ⟨by rfl, ?hy10⟩) ⟨g6, g8⟩ ?rest10
          case hy10 => (intro w' hSw; (try dsimp only at hSw); go_simp; (try with_reducible rfl))
          try simp only [Act.put, List.setIfInBounds_toArray, List.set_cons_zero, List.set_cons_succ, List.getElem_toArray, List.getElem_cons_succ, List.getElem_cons_zero]
          refine' wpAnyH_take (i := 11) (v := _) rfl (by kernel_rfl) (by kernel_rfl) (by kernel_rfl) (fun _ _ _ h => h) (Or.inl ⟨by rfl, ?hy11⟩) ⟨g6, g8⟩ ?rest11
          case hy11 => (intro w' hSw; (try dsimp only at hSw); go_simp; (try with_reducible rfl))
          try simp only [Act.put, List.setIfInBounds_toArray, List.set_cons_zero, List.set_cons_succ, List.getElem_toArray, List.getElem_cons_succ, List.getElem_cons_zero]
          refine wpAnyH_ready (rs := [4]) (by kernel_rfl) (by simp) ?_
          refine AllReadyH.cons rfl (fun K hK => ?_) AllReadyH.nil
          go_simp
          (go_at_call 13; refine (imp_any _ _ s.1 s.2 _ (by exact Vs.out.1.ext (by repeat (first | exact Ext.refl _ | assumption | apply Ext.alloc | apply Ext.drew))) (by exact Vs.out.2.ext (by repeat (first | exact Ext.refl _ | assumption | apply Ext.alloc | apply Ext.drew)))).mono ?_; rintro e wa ⟨ua, rfl, hma⟩; have MA := Lib.hid hma; have hxa : Ext w3 wa := Ext.trans (by repeat (first | exact Ext.refl _ | assumption | apply Ext.alloc | apply Ext.drew)) hma.2.2; have g6a := (hxa.cell (p := ⟨b, 2, none⟩) GB).trans g6; have g8a := (hxa.cell (p := (ad.add i)) (by rw [block_of_add]; exact g3)).trans g8; clear hma)
          go_wp2_with fail
          refine hK.out _ _ ⟨g6a, g8a⟩ (fun hHeld => ?_)
          clear hK K hHeld
          try simp only [Act.put, List.setIfInBounds_toArray, List.set_cons_zero, List.set_cons_succ, List.getElem_toArray, List.getElem_cons_succ, List.getElem_cons_zero]
          refine wpAnyH_ready (rs := [12]) (by kernel_rfl) (by simp) ?_
          refine AllReadyH.cons rfl (fun K hK => ?_) AllReadyH.nil
          go_simp
          (go_at_call 48; refine (equal_any _ _ (impN s.1 s.2) fi _ (by exact (MA.out.fml.ext (by repeat (first | exact Ext.refl _ | assumption | apply Ext.alloc | apply Ext.drew))).1) (by exact (GF.out.ext (by repeat (first | exact Ext.refl _ | assumption | apply Ext.alloc | apply Ext.drew))).1)).mono ?_; rintro e wd ⟨rfl, hvd⟩; rw [D7.out]; have hxd : Ext w3 wd := Ext.trans (by repeat (first | exact Ext.refl _ | assumption | apply Ext.alloc | apply Ext.drew)) hvd; have g6d := (hxd.cell (p := ⟨b, 2, none⟩) GB).trans g6; have g8d := (hxd.cell (p := (ad.add i)) (by rw [block_of_add]; exact g3)).trans g8; clear hvd)
          go_wp2_with fail
          refine hK.out _ _ ⟨g6d, g8d⟩ (fun hHeld => ?_)
          clear hK K hHeld
          try simp only [Act.put, List.setIfInBounds_toArray, List.set_cons_zero, List.set_cons_succ, List.getElem_toArray, List.getElem_cons_succ, List.getElem_cons_zero]
          refine' wpAnyH_take (i := 13) (v := _) rfl (by kernel_rfl) (by kernel_rfl) (by kernel_rfl) (fun _ _ _ h => h) (Or.inl ⟨by rfl, ?hy13⟩) ⟨g6d, g8d⟩ ?rest13
          case hy13 => (intro w' hSw; (try dsimp only at hSw); go_simp; (try with_reducible rfl))
          try simp only [Act.put, List.setIfInBounds_toArray, List.set_cons_zero, List.set_cons_succ, List.getElem_toArray, List.getElem_cons_succ, List.getElem_cons_zero]
          refine wpAnyH_take (i := 14) (v := undef) rfl (by kernel_rfl) (by kernel_rfl) (by kernel_rfl) (fun _ _ _ h => h) (Or.inr ⟨by rfl, rfl⟩) ⟨g6d, g8d⟩ ?_
          try simp only [Act.put, List.setIfInBounds_toArray, List.set_cons_zero, List.set_cons_succ, List.getElem_toArray, List.getElem_cons_succ, List.getElem_cons_zero]
          refine wpAnyH_take (i := 15) (v := undef) rfl (by kernel_rfl) (by kernel_rfl) (by kernel_rfl) (fun _ _ _ h => h) (Or.inr ⟨by rfl, rfl⟩) ⟨g6d, g8d⟩ ?_
          try simp only [Act.put, List.setIfInBounds_toArray, List.set_cons_zero, List.set_cons_succ, List.getElem_toArray, List.getElem_cons_succ, List.getElem_cons_zero]
          refine wpAnyH_take (i := 16) (v := undef) rfl (by kernel_rfl) (by kernel_rfl) (by kernel_rfl) (fun _ _ _ h => h) (Or.inr ⟨by rfl, rfl⟩) ⟨g6d, g8d⟩ ?_
          try simp only [Act.put, List.setIfInBounds_toArray, List.set_cons_zero, List.set_cons_succ, List.getElem_toArray, List.getElem_cons_succ, List.getElem_cons_zero]
          refine wpAnyH_take (i := 17) (v := undef) rfl (by kernel_rfl) (by kernel_rfl) (by kernel_rfl) (fun _ _ _ h => h) (Or.inr ⟨by rfl, rfl⟩) ⟨g6d, g8d⟩ ?_
          try simp only [Act.put, List.setIfInBounds_toArray, List.set_cons_zero, List.set_cons_succ, List.getElem_toArray, List.getElem_cons_succ, List.getElem_cons_zero]
          refine wpAnyH_take (i := 18) (v := undef) rfl (by kernel_rfl) (by kernel_rfl) (by kernel_rfl) (fun _ _ _ h => h) (Or.inr ⟨by rfl, rfl⟩) ⟨g6d, g8d⟩ ?_
          try simp only [Act.put, List.setIfInBounds_toArray, List.set_cons_zero, List.set_cons_succ, List.getElem_toArray, List.getElem_cons_succ, List.getElem_cons_zero]
          refine wpAnyH_take (i := 19) (v := undef) rfl (by kernel_rfl) (by kernel_rfl) (by kernel_rfl) (fun _ _ _ h => h) (Or.inr ⟨by rfl, rfl⟩) ⟨g6d, g8d⟩ ?_
          try simp only [Act.put, List.setIfInBounds_toArray, List.set_cons_zero, List.set_cons_succ, List.getElem_toArray, List.getElem_cons_succ, List.getElem_cons_zero]
          refine wpAnyH_take (i := 20) (v := undef) rfl (by kernel_rfl) (by kernel_rfl) (by kernel_rfl) (fun _ _ _ h => h) (Or.inr ⟨by rfl, rfl⟩) ⟨g6d, g8d⟩ ?_
          try simp only [Act.put, List.setIfInBounds_toArray, List.set_cons_zero, List.set_cons_succ, List.getElem_toArray, List.getElem_cons_succ, List.getElem_cons_zero]
          refine wpAnyH_take (i := 21) (v := undef) rfl (by kernel_rfl) (by kernel_rfl) (by kernel_rfl) (fun _ _ _ h => h) (Or.inr ⟨by rfl, rfl⟩) ⟨g6d, g8d⟩ ?_
          try simp only [Act.put, List.setIfInBounds_toArray, List.set_cons_zero, List.set_cons_succ, List.getElem_toArray, List.getElem_cons_succ, List.getElem_cons_zero]
          refine wpAnyH_take (i := 22) (v := undef) rfl (by kernel_rfl) (by kernel_rfl) (by kernel_rfl) (fun _ _ _ h => h) (Or.inr ⟨by rfl, rfl⟩) ⟨g6d, g8d⟩ ?_
          try simp only [Act.put, List.setIfInBounds_toArray, List.set_cons_zero, List.set_cons_succ, List.getElem_toArray, List.getElem_cons_succ, List.getElem_cons_zero]
          refine wpAnyH_take (i := 23) (v := undef) rfl (by kernel_rfl) (by kernel_rfl) (by kernel_rfl) (fun _ _ _ h => h) (Or.inr ⟨by rfl, rfl⟩) ⟨g6d, g8d⟩ ?_
          try simp only [Act.put, List.setIfInBounds_toArray, List.set_cons_zero, List.set_cons_succ, List.getElem_toArray, List.getElem_cons_succ, List.getElem_cons_zero]
          refine wpAnyH_take (i := 24) (v := undef) rfl (by kernel_rfl) (by kernel_rfl) (by kernel_rfl) (fun _ _ _ h => h) (Or.inr ⟨by rfl, rfl⟩) ⟨g6d, g8d⟩ ?_
          try simp only [Act.put, List.setIfInBounds_toArray, List.set_cons_zero, List.set_cons_succ, List.getElem_toArray, List.getElem_cons_succ, List.getElem_cons_zero]
          refine' wpAnyH_take (i := 25) (v := _) rfl (by kernel_rfl) (by kernel_rfl) (by kernel_rfl) (fun _ _ _ h => h) (Or.inl ⟨by rfl, ?hy25⟩) ⟨g6d, g8d⟩ ?rest25
          case hy25 => (intro w' hSw; (try dsimp only at hSw); go_simp; (try with_reducible rfl))
          try simp only [Act.put, List.setIfInBounds_toArray, List.set_cons_zero, List.set_cons_succ, List.getElem_toArray, List.getElem_cons_succ, List.getElem_cons_zero]
          refine' wpAnyH_take (i := 26) (v := _) rfl (by kernel_rfl) (by kernel_rfl) (by kernel_rfl) (fun _ _ _ h => h) (Or.inl ⟨by rfl, ?hy26⟩) ⟨g6d, g8d⟩ ?rest26
          case hy26 => (intro w' hSw; (try dsimp only at hSw); go_simp; (try with_reducible rfl))
          try simp only [Act.put, List.setIfInBounds_toArray, List.set_cons_zero, List.set_cons_succ, List.getElem_toArray, List.getElem_cons_succ, List.getElem_cons_zero]
          refine' wpAnyH_take (i := 27) (v := _) rfl (by kernel_rfl) (by kernel_rfl) (by kernel_rfl) (fun _ _ _ h => h) (Or.inl ⟨by rfl, ?hy27⟩) ⟨g6d, g8d⟩ ?rest27
          case hy27 => (intro w' hSw; (try dsimp only at hSw); go_simp; (try with_reducible rfl))
          try simp only [Act.put, List.setIfInBounds_toArray, List.set_cons_zero, List.set_cons_succ, List.getElem_toArray, List.getElem_cons_succ, List.getElem_cons_zero]
          refine wpAnyH_done (by kernel_rfl) ?_ _
          go_wp2_with fail
          go_ret
          exact ⟨same_of (by simp only [iffL, D2.out, D4.out, D6.out, D7.out] <;> rfl), HX3.out.trans hxd⟩
  | some r =>
    have D2 := Lib.hid hd
    have Vr := Lib.hid (HF1.out _ hd)
    clear hd
    obtain ⟨ad, c, vl, vs, Ai, ci, g1, g2, g3, g4, g5, g6, g7, g8, g9⟩ := (H.out.ext HX1.out).form OK.out.f_at
    have GB := (H.out.ext HX1.out).blt
    have GI : i < fs.length := (List.getElem?_eq_some_iff.1 OK.out.f_at).1
    have GF := Lib.hid g9
    clear g4 g5 g7 g9
    go_wp2_with fail
    refine (part_any _ fi 8 _ (GF.out.ext (Ext.refl _)) (OK.out.fs_ok _ (List.mem_of_getElem? OK.out.f_at)).1).mono ?_
    rintro e w2 ⟨us0, us1, rfl, hx, hf⟩
    have HX2 := Lib.hid (HX1.out.trans hx)
    have HS2 := Lib.hid hx
    clear hx
    have HF8 := Lib.hid hf
    clear hf
    cases hd : partL fi 8 with
    | none =>
      have D9 := Lib.hid hd
      clear hd
      go_wp2_with fail
      go_ret
      exact ⟨same_of (by simp only [iffL, D2.out, D9.out] <;> rfl), HX2.out⟩
    | some s =>
      have D9 := Lib.hid hd
      have Vs := Lib.hid (HF8.out _ hd)
      clear hd
      go_wp2_with fail
      refine (imp_any _ _ s.1 s.2 _ (Vs.out.1.ext (Ext.refl _)) (Vs.out.2.ext (Ext.refl _))).mono ?_
      rintro e w3 ⟨um, rfl, hm⟩
      have Mm := Lib.hid hm
      have HX3 := Lib.hid (HX2.out.trans hm.2.2)
      have HS3 := Lib.hid hm.2.2
      clear hm
      go_wp2_with fail
      refine (equal_any _ ur0 (impN s.1 s.2) r.1 _ (Mm.out.fml.ext (Ext.refl _)).1 (Vr.out.1.ext (Ext.trans (Ext.trans (Ext.refl _) HS2.out) HS3.out)).1).mono ?_
      rintro e w4 ⟨rfl, hx⟩
      have HX4 := Lib.hid (HX3.out.trans hx)
      have HS4 := Lib.hid hx
      clear hx
      cases hd : eqN (impN s.1 s.2) r.1
      case false =>
        have D10 := Lib.hid hd
        clear hd
        go_wp2_with fail
        go_ret
        exact ⟨same_of (by simp only [iffL, D2.out, D9.out, D10.out] <;> rfl), HX4.out⟩
      case true =>
        have D10 := Lib.hid hd
        clear hd
        go_wp2_with fail
        refine (imp_any _ _ s.2 s.1 _ (Vs.out.2.ext (Ext.trans (Ext.trans (Ext.refl _) HS3.out) HS4.out)) (Vs.out.1.ext (Ext.trans (Ext.trans (Ext.refl _) HS3.out) HS4.out))).mono ?_
        rintro e w5 ⟨uo, rfl, hm⟩
        have Mo := Lib.hid hm
        have HX5 := Lib.hid (HX4.out.trans hm.2.2)
        have HS5 := Lib.hid hm.2.2
        clear hm
        go_wp2_with fail
        refine (equal_any _ ur1 (impN s.2 s.1) r.2 _ (Mo.out.fml.ext (Ext.refl _)).1 (Vr.out.2.ext (Ext.trans (Ext.trans (Ext.trans (Ext.trans (Ext.refl _) HS2.out) HS3.out) HS4.out) HS5.out)).1).mono ?_
        rintro e w6 ⟨rfl, hx⟩
        have HX6 := Lib.hid (HX5.out.trans hx)
        have HS6 := Lib.hid hx
        clear hx
        go_wp2_with fail
        go_ret
        exact ⟨same_of (by simp only [iffL, D2.out, D9.out, D10.out] <;> rfl), HX6.out⟩
end Go.Proofs.YtdpblciohodgcaaDoor
