/- The rules: knowT, dual. -/
import Derived.Test.YtdpblciohodgcaaDoorS16
import Derived.Deep.RegionHeld3

namespace Go.Proofs.YtdpblciohodgcaaDoor
open Go.RowKit

set_option maxRecDepth 100000 in
set_option maxHeartbeats 4000000 in
theorem knowT_any {w : World} {b : Nat} {lg : Int} {ls : List Ln} {fs : List (List Nd)} {st : List (List Int)} {i : Nat} {n : Ln} {fi : List Nd} (h : Chk w b lg ls fs st) (ok : CkOk ls fs st i n fi) :
    Calls Tryd.prog 115 #[.pointer (some ⟨b, 0, none⟩), .int .i64 i] w fun e w' => e = .returned (.bool (knowTL lg ls fs st i n fi)) ∧ Ext w w' := by
  have H := Lib.hid h
  have OK := Lib.hid ok
  have HX0 := Lib.hid (Ext.refl w)
  clear h ok
  go_enter Tryd.func115, Tryd.ntmps115
  go_wp2_with fail
  refine (one_any (H.out.ext HX0.out) OK.out.st_ok i n OK.out.n_at OK.out.st_lt OK.out.fs_le).mono ?_
  rintro e w1 ⟨ux0, rfl, hx, hf⟩
  have HX1 := Lib.hid (HX0.out.trans hx)
  have HS1 := Lib.hid hx
  clear hx
  have HF1 := Lib.hid hf
  clear hf
  cases hd : oneL ls fs st i n with
  | none =>
    have D2 := Lib.hid hd
    clear hd
    go_wp2_with fail
    go_ret
    exact ⟨same_of (by simp only [knowTL, D2.out] <;> rfl), HX1.out⟩
  | some x =>
    have D2 := Lib.hid hd
    have Vx := Lib.hid (HF1.out _ hd)
    clear hd
    go_wp2_with fail
    refine (logic_any ((H.out.ext HX1.out).ext ((Ext.refl _).alloc _)) _ [2, 4, 6] (ints_new _ [2, 4, 6] (by decide))).mono ?_
    rintro e w2 ⟨rfl, hx⟩
    have HS2 := Lib.hid (Ext.trans (show Ext w1 _ from (Ext.refl _).alloc _) hx)
    have HX2 := Lib.hid (HX1.out.trans HS2.out)
    clear hx
    cases hd : inL [2, 4, 6] lg
    case false =>
      have D3 := Lib.hid hd
      clear hd
      go_wp2_with fail
      go_ret
      exact ⟨same_of (by simp only [knowTL, D2.out, D3.out] <;> rfl), HX2.out⟩
    case true =>
      have D3 := Lib.hid hd
      clear hd
      go_wp2_with fail
      refine (part_any ux0 x 9 _ (Vx.out.ext (Ext.trans (Ext.refl _) HS2.out)) (OK.out.fs_ok _ (oneL_mem D2.out OK.out.fs_le)).1).mono ?_
      rintro e w3 ⟨ur0, ur1, rfl, hx, hf⟩
      have HX3 := Lib.hid (HX2.out.trans hx)
      have HS3 := Lib.hid hx
      clear hx
      have HF4 := Lib.hid hf
      clear hf
      cases hd : partL x 9 with
      | none =>
        have D5 := Lib.hid hd
        clear hd
        go_wp2_with fail
        go_ret
        exact ⟨same_of (by simp only [knowTL, D2.out, D3.out, D5.out] <;> rfl), HX3.out⟩
      | some r =>
        have D5 := Lib.hid hd
        have Vr := Lib.hid (HF4.out _ hd)
        clear hd
        obtain ⟨ad, c, vl, vs, Ai, ci, g1, g2, g3, g4, g5, g6, g7, g8, g9⟩ := (H.out.ext HX3.out).form OK.out.f_at
        have GB := (H.out.ext HX3.out).blt
        have GI : i < fs.length := (List.getElem?_eq_some_iff.1 OK.out.f_at).1
        have GF := Lib.hid g9
        clear g4 g5 g7 g9
        go_wp2_with fail
        refine (equal_any ur0 _ r.1 fi _ (Vr.out.1.ext (Ext.refl _)).1 ((GF.out.ext (Ext.refl _))).1).mono ?_
        rintro e w4 ⟨rfl, hx⟩
        have HX4 := Lib.hid (HX3.out.trans hx)
        have HS4 := Lib.hid hx
        clear hx
        go_wp2_with fail
        go_ret
        exact ⟨same_of (by simp only [knowTL, D2.out, D3.out, D5.out] <;> rfl), HX4.out⟩

set_option maxRecDepth 100000 in
set_option maxHeartbeats 4000000 in
theorem dual_any {w : World} {b : Nat} {lg : Int} {ls : List Ln} {fs : List (List Nd)} {st : List (List Int)} {i : Nat} {n : Ln} {fi : List Nd} (h : Chk w b lg ls fs st) (ok : CkOk ls fs st i n fi) :
    Calls Tryd.prog 116 #[.pointer (some ⟨b, 0, none⟩), .int .i64 i] w fun e w' => e = .returned (.bool (dualL lg ls fs st i n fi)) ∧ Ext w w' := by
  have H := Lib.hid h
  have OK := Lib.hid ok
  have HX0 := Lib.hid (Ext.refl w)
  clear h ok
  go_enter Tryd.func116, Tryd.ntmps116
  go_wp2_with fail
  refine (one_any (H.out.ext HX0.out) OK.out.st_ok i n OK.out.n_at OK.out.st_lt OK.out.fs_le).mono ?_
  rintro e w1 ⟨ux0, rfl, hx, hf⟩
  have HX1 := Lib.hid (HX0.out.trans hx)
  have HS1 := Lib.hid hx
  clear hx
  have HF1 := Lib.hid hf
  clear hf
  cases hd : oneL ls fs st i n with
  | none =>
    have D2 := Lib.hid hd
    clear hd
    go_wp2_with fail
    go_ret
    exact ⟨same_of (by simp only [dualL, D2.out] <;> rfl), HX1.out⟩
  | some x =>
    have D2 := Lib.hid hd
    have Vx := Lib.hid (HF1.out _ hd)
    clear hd
    obtain ⟨ad, c, vl, vs, Ai, ci, g1, g2, g3, g4, g5, g6, g7, g8, g9⟩ := (H.out.ext HX1.out).form OK.out.f_at
    have GB := (H.out.ext HX1.out).blt
    have GI : i < fs.length := (List.getElem?_eq_some_iff.1 OK.out.f_at).1
    have GF := Lib.hid g9
    clear g4 g5 g7 g9
    go_wp2_with fail
    refine (isDual_any _ x _ fi _ (Vx.out.ext (Ext.refl _)) (GF.out.ext (Ext.refl _)) (OK.out.fs_ok _ (oneL_mem D2.out OK.out.fs_le)).1).mono ?_
    rintro e w2 ⟨rfl, hx⟩
    have HX2 := Lib.hid (HX1.out.trans hx)
    have HS2 := Lib.hid hx
    clear hx
    cases hd : isDualL x fi
    case false =>
      have D3 := Lib.hid hd
      clear hd
      clear g1 g2 g3 g6 g8 GB GF GI
      obtain ⟨ad, c, vl, vs, Ai, ci, g1, g2, g3, g4, g5, g6, g7, g8, g9⟩ := (H.out.ext HX2.out).form OK.out.f_at
      have GB := (H.out.ext HX2.out).blt
      have GI : i < fs.length := (List.getElem?_eq_some_iff.1 OK.out.f_at).1
      have GF := Lib.hid g9
      clear g4 g5 g7 g9
      go_wp2_with fail
      refine (isDual_any _ fi _ x _ (GF.out.ext (Ext.refl _)) (Vx.out.ext (Ext.trans (Ext.refl _) HS2.out)) (OK.out.fs_ok _ (List.mem_of_getElem? OK.out.f_at)).1).mono ?_
      rintro e w3 ⟨rfl, hx⟩
      have HX3 := Lib.hid (HX2.out.trans hx)
      have HS3 := Lib.hid hx
      clear hx
      go_wp2_with fail
      go_ret
      exact ⟨same_of (by simp only [dualL, D2.out, D3.out] <;> rfl), HX3.out⟩
    case true =>
      have D3 := Lib.hid hd
      clear hd
      go_wp2_with fail
      go_ret
      exact ⟨same_of (by simp only [dualL, D2.out, D3.out] <;> rfl), HX2.out⟩
end Go.Proofs.YtdpblciohodgcaaDoor

/- The rule isTrue. -/

namespace Go.Proofs.YtdpblciohodgcaaDoor
open Go.RowKit

set_option maxRecDepth 100000 in
set_option maxHeartbeats 4000000 in
theorem isTrue_any {w : World} {b : Nat} {lg : Int} {ls : List Ln} {fs : List (List Nd)} {st : List (List Int)} {i : Nat} {n : Ln} {fi : List Nd} (h : Chk w b lg ls fs st) (ok : CkOk ls fs st i n fi) :
    Calls Tryd.prog 111 #[.pointer (some ⟨b, 0, none⟩), .int .i64 i] w fun e w' => e = .returned (.bool (isTrueL lg ls fs st i n fi)) ∧ Ext w w' := by
  have H := Lib.hid h
  have OK := Lib.hid ok
  have HX0 := Lib.hid (Ext.refl w)
  clear h ok
  obtain ⟨ad, c, vl, vs, Ai, ci, g1, g2, g3, g4, g5, g6, g7, g8, g9⟩ := H.out.form OK.out.f_at
  have GB := H.out.blt
  have GI : i < fs.length := (List.getElem?_eq_some_iff.1 OK.out.f_at).1
  have GF := Lib.hid g9
  clear g4 g5 g7 g9
  cases hd : decide (n.from_.length = 0)
  case false =>
    have D1 := Lib.hid hd
    have HQ := Lib.hid (fun nq => named_q (H.out.ext ((Ext.refl w).drewN nq)) i n 0 OK.out.n_at)
    rw [hd] at HQ
    clear hd
    go_enter Tryd.func111, Tryd.ntmps111
    go_wp2_with fail
    go_quiet ((go_at_call 118; exact Calls.quiet_of (HQ.out _)))
    go_wp2_with fail
    go_ret
    exact ⟨same_of (by simp only [isTrueL, D1.out] <;> rfl), (Ext.refl _).drewN _⟩
  case true =>
    have D1 := Lib.hid hd
    clear hd
    go_enter Tryd.func111, Tryd.ntmps111
    go_wp2_with fail
    go_region_held3 (fun w' => w'.cell? ⟨b, 2, none⟩ = some (.slice (some ad) fs.length c) ∧ w'.cell? (ad.add i) = some (.slice Ai fi.length ci)) (first | exact ⟨g6, g8⟩ | exact ⟨g6n, g8n⟩ | exact ⟨g6a, g8a⟩ | exact ⟨g6d, g8d⟩ | go_keep) (first | (go_at_call 118; refine (named_any (by exact H.out.ext (by repeat (first | exact Ext.refl _ | assumption | apply Ext.alloc | apply Ext.drew))) i n 0 OK.out.n_at).mono ?_; rintro e wn ⟨rfl, hvn⟩; rw [D1.out]; have hxn : Ext w wn := Ext.trans (by repeat (first | exact Ext.refl _ | assumption | apply Ext.alloc | apply Ext.drew)) hvn; have g6n := (hxn.cell (p := ⟨b, 2, none⟩) GB).trans g6; have g8n := (hxn.cell (p := (ad.add i)) (by rw [block_of_add]; exact g3)).trans g8; clear hvn) | (go_at_call 31; refine (true_any _).mono ?_; rintro e wa ⟨ua, rfl, hma⟩; have MA := Lib.hid hma; have hxa : Ext w wa := Ext.trans (by repeat (first | exact Ext.refl _ | assumption | apply Ext.alloc | apply Ext.drew)) hma.2.2; have g6a := (hxa.cell (p := ⟨b, 2, none⟩) GB).trans g6; have g8a := (hxa.cell (p := (ad.add i)) (by rw [block_of_add]; exact g3)).trans g8; clear hma) | (go_at_call 48; refine (equal_any _ _ fi trueN _ (by exact (GF.out.ext (by repeat (first | exact Ext.refl _ | assumption | apply Ext.alloc | apply Ext.drew))).1) (by exact (MA.out.fml.ext (by repeat (first | exact Ext.refl _ | assumption | apply Ext.alloc | apply Ext.drew))).1)).mono ?_; rintro e wd ⟨rfl, hvd⟩; have hxd : Ext w wd := Ext.trans (by repeat (first | exact Ext.refl _ | assumption | apply Ext.alloc | apply Ext.drew)) hvd; have g6d := (hxd.cell (p := ⟨b, 2, none⟩) GB).trans g6; have g8d := (hxd.cell (p := (ad.add i)) (by rw [block_of_add]; exact g3)).trans g8; clear hvd))
    all_goals
      go_wp2_with fail
      go_ret
      exact ⟨same_of (by simp only [isTrueL, D1.out] <;> rfl), hxd⟩
end Go.Proofs.YtdpblciohodgcaaDoor
