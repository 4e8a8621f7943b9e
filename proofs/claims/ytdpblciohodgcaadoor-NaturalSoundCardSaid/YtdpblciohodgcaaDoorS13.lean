/- The rules: copied, andIn, andOut. -/
import Derived.Test.YtdpblciohodgcaaDoorS09

namespace Go.Proofs.YtdpblciohodgcaaDoor
open Go.RowKit

set_option maxRecDepth 100000 in
set_option maxHeartbeats 4000000 in
theorem copied_any {w : World} {b : Nat} {lg : Int} {ls : List Ln} {fs : List (List Nd)} {st : List (List Int)} {i : Nat} {n : Ln} {fi : List Nd} (h : Chk w b lg ls fs st) (ok : CkOk ls fs st i n fi) :
    Calls Tryd.prog 100 #[.pointer (some ⟨b, 0, none⟩), .int .i64 i] w fun e w' => e = .returned (.bool (copiedL lg ls fs st i n fi)) ∧ Ext w w' := by
  have H := Lib.hid h
  have OK := Lib.hid ok
  have HX0 := Lib.hid (Ext.refl w)
  clear h ok
  go_enter Tryd.func100, Tryd.ntmps100
  go_wp2_with fail
  refine (named_any (H.out.ext HX0.out) i n 1 OK.out.n_at).mono ?_
  rintro e w1 ⟨rfl, hx⟩
  have HX1 := Lib.hid (HX0.out.trans hx)
  have HS1 := Lib.hid hx
  clear hx
  cases hd : decide (n.from_.length = 1)
  case false =>
    have D1 := Lib.hid hd
    clear hd
    have OD1 : Hid (oneL ls fs st i n = none) := Lib.hid (oneL_no D1.out)
    go_wp2_with fail
    go_ret
    exact ⟨same_of (by simp only [copiedL, OD1.out] <;> rfl), HX1.out⟩
  case true =>
    have D1 := Lib.hid hd
    clear hd
    have D1p := Lib.hid (oneL_yes (ls := ls) (fs := fs) (st := st) (i := i) D1.out)
    go_wp2_with fail
    refine (line_any (H.out.ext HX1.out) OK.out.st_ok i 0 n _ OK.out.n_at D1p.out.1 OK.out.st_lt OK.out.fs_le).mono ?_
    rintro e w2 ⟨ux0, rfl, hx, hf⟩
    have HX2 := Lib.hid (HX1.out.trans hx)
    have HS2 := Lib.hid hx
    clear hx
    have HF2 := Lib.hid hf
    clear hf
    cases hd : lineL ls fs st i (fromAt n 0) with
    | none =>
      have D3 := Lib.hid hd
      clear hd
      have OD3 : Hid (oneL ls fs st i n = none) := Lib.hid (D1p.out.2.trans D3.out)
      go_wp2_with fail
      go_ret
      exact ⟨same_of (by simp only [copiedL, OD3.out] <;> rfl), HX2.out⟩
    | some x =>
      have D3 := Lib.hid hd
      have Vx := Lib.hid (HF2.out _ hd)
      clear hd
      have OD3 : Hid (oneL ls fs st i n = some x) := Lib.hid (D1p.out.2.trans D3.out)
      obtain ⟨ad, c, vl, vs, Ai, ci, g1, g2, g3, g4, g5, g6, g7, g8, g9⟩ := (H.out.ext HX2.out).form OK.out.f_at
      have GB := (H.out.ext HX2.out).blt
      have GI : i < fs.length := (List.getElem?_eq_some_iff.1 OK.out.f_at).1
      have GF := Lib.hid g9
      clear g4 g5 g7 g9
      go_wp2_with fail
      refine (equal_any ux0 _ x fi _ (Vx.out.ext (Ext.refl _)).1 ((GF.out.ext (Ext.refl _))).1).mono ?_
      rintro e w3 ⟨rfl, hx⟩
      have HX3 := Lib.hid (HX2.out.trans hx)
      have HS3 := Lib.hid hx
      clear hx
      go_wp2_with fail
      go_ret
      exact ⟨same_of (by simp only [copiedL, OD3.out] <;> rfl), HX3.out⟩

set_option maxRecDepth 100000 in
set_option maxHeartbeats 4000000 in
theorem andIn_any {w : World} {b : Nat} {lg : Int} {ls : List Ln} {fs : List (List Nd)} {st : List (List Int)} {i : Nat} {n : Ln} {fi : List Nd} (h : Chk w b lg ls fs st) (ok : CkOk ls fs st i n fi) :
    Calls Tryd.prog 101 #[.pointer (some ⟨b, 0, none⟩), .int .i64 i] w fun e w' => e = .returned (.bool (andInL lg ls fs st i n fi)) ∧ Ext w w' := by
  have H := Lib.hid h
  have OK := Lib.hid ok
  have HX0 := Lib.hid (Ext.refl w)
  clear h ok
  go_enter Tryd.func101, Tryd.ntmps101
  go_wp2_with fail
  refine (two_any (H.out.ext HX0.out) OK.out).mono ?_
  rintro e w1 ⟨ur0, ur1, rfl, hx, hf⟩
  have HX1 := Lib.hid (HX0.out.trans hx)
  have HS1 := Lib.hid hx
  clear hx
  have HF1 := Lib.hid hf
  clear hf
  cases hd : twoL ls fs st i n with
  | none =>
    have D2 := Lib.hid hd
    clear hd
    go_wp2_with fail
    go_quiet (fail)
    go_wp2_with fail
    go_ret
    exact ⟨same_of (by simp only [andInL, D2.out] <;> rfl), HX1.out.drewN _⟩
  | some r =>
    have D2 := Lib.hid hd
    have Vr := Lib.hid (HF1.out _ hd)
    clear hd
    obtain ⟨ad, c, vl, vs, Ai, ci, g1, g2, g3, g4, g5, g6, g7, g8, g9⟩ := (H.out.ext HX1.out).form OK.out.f_at
    have GB := (H.out.ext HX1.out).blt
    have GI : i < fs.length := (List.getElem?_eq_some_iff.1 OK.out.f_at).1
    have GF := Lib.hid g9
    clear g4 g5 g7 g9
    go_wp2_with fail
    go_region_with (first | (go_at_call 121; refine (and_any _ _ r.1 r.2 _ (by exact Vr.out.1.ext (by repeat (first | exact Ext.refl _ | assumption | apply Ext.alloc | apply Ext.drew))) (by exact Vr.out.2.ext (by repeat (first | exact Ext.refl _ | assumption | apply Ext.alloc | apply Ext.drew)))).mono ?_; rintro e wa ⟨ua, rfl, hma⟩; have MA := Lib.hid hma; have hxa : Ext w1 wa := Ext.trans (by repeat (first | exact Ext.refl _ | assumption | apply Ext.alloc | apply Ext.drew)) hma.2.2; have g6a := (hxa.cell (p := ⟨b, 2, none⟩) GB).trans g6; have g8a := (hxa.cell (p := ad.add i) (by rw [block_of_add]; exact g3)).trans g8; clear hma) | (go_at_call 48; refine (equal_any _ _ (andN r.1 r.2) fi _ (by exact (MA.out.fml.ext (by repeat (first | exact Ext.refl _ | assumption | apply Ext.alloc | apply Ext.drew))).1) (by exact (GF.out.ext (by repeat (first | exact Ext.refl _ | assumption | apply Ext.alloc | apply Ext.drew))).1)).mono ?_; rintro e wb ⟨rfl, hxb⟩; have hyb : Ext w1 wb := Ext.trans (by repeat (first | exact Ext.refl _ | assumption | apply Ext.alloc | apply Ext.drew)) hxb))
    all_goals
      go_wp2_with fail
      go_ret
      exact ⟨same_of (by simp only [andInL, D2.out] <;> rfl), HX1.out.trans hyb⟩

set_option maxRecDepth 100000 in
set_option maxHeartbeats 4000000 in
theorem andOut_any {w : World} {b : Nat} {lg : Int} {ls : List Ln} {fs : List (List Nd)} {st : List (List Int)} {i : Nat} {n : Ln} {fi : List Nd} (h : Chk w b lg ls fs st) (ok : CkOk ls fs st i n fi) :
    Calls Tryd.prog 102 #[.pointer (some ⟨b, 0, none⟩), .int .i64 i] w fun e w' => e = .returned (.bool (andOutL lg ls fs st i n fi)) ∧ Ext w w' := by
  have H := Lib.hid h
  have OK := Lib.hid ok
  have HX0 := Lib.hid (Ext.refl w)
  clear h ok
  go_enter Tryd.func102, Tryd.ntmps102
  go_wp2_with fail
  refine (one_any (H.out.ext HX0.out) OK.out.st_ok i n OK.out.n_at OK.out.st_lt OK.out.fs_le).mono ?_
  rintro e w1 ⟨ux0, rfl, hx, hf⟩
  have HX1 := Lib.hid (HX0.out.trans hx)
  have HS1 := Lib.hid hx
  clear hx
  have HF1 := Lib.hid hf
  clear hf
  cases hd : oneL ls fs st i n with
  | none =>
    have D2 := Lib.hid hd
    clear hd
    go_wp2_with fail
    go_ret
    exact ⟨same_of (by simp only [andOutL, D2.out] <;> rfl), HX1.out⟩
  | some x =>
    have D2 := Lib.hid hd
    have Vx := Lib.hid (HF1.out _ hd)
    clear hd
    go_wp2_with fail
    refine (part_any ux0 x 5 _ (Vx.out.ext (Ext.refl _)) (OK.out.fs_ok _ (oneL_mem D2.out OK.out.fs_le)).1).mono ?_
    rintro e w2 ⟨ur0, ur1, rfl, hx, hf⟩
    have HX2 := Lib.hid (HX1.out.trans hx)
    have HS2 := Lib.hid hx
    clear hx
    have HF3 := Lib.hid hf
    clear hf
    cases hd : partL x 5 with
    | none =>
      have D4 := Lib.hid hd
      clear hd
      go_wp2_with fail
      go_ret
      exact ⟨same_of (by simp only [andOutL, D2.out, D4.out] <;> rfl), HX2.out⟩
    | some r =>
      have D4 := Lib.hid hd
      have Vr := Lib.hid (HF3.out _ hd)
      clear hd
      obtain ⟨ad, c, vl, vs, Ai, ci, g1, g2, g3, g4, g5, g6, g7, g8, g9⟩ := (H.out.ext HX2.out).form OK.out.f_at
      have GB := (H.out.ext HX2.out).blt
      have GI : i < fs.length := (List.getElem?_eq_some_iff.1 OK.out.f_at).1
      have GF := Lib.hid g9
      clear g4 g5 g7 g9
      go_wp2_with fail
      refine (equal_any ur0 _ r.1 fi _ (Vr.out.1.ext (Ext.refl _)).1 ((GF.out.ext (Ext.refl _))).1).mono ?_
      rintro e w3 ⟨rfl, hx⟩
      have HX3 := Lib.hid (HX2.out.trans hx)
      have HS3 := Lib.hid hx
      clear hx
      cases hd : eqN r.1 fi
      case false =>
        have D5 := Lib.hid hd
        clear hd
        clear g1 g2 g3 g6 g8 GB GF GI
        obtain ⟨ad, c, vl, vs, Ai, ci, g1, g2, g3, g4, g5, g6, g7, g8, g9⟩ := (H.out.ext HX3.out).form OK.out.f_at
        have GB := (H.out.ext HX3.out).blt
        have GI : i < fs.length := (List.getElem?_eq_some_iff.1 OK.out.f_at).1
        have GF := Lib.hid g9
        clear g4 g5 g7 g9
        go_wp2_with fail
        refine (equal_any ur1 _ r.2 fi _ (Vr.out.2.ext (Ext.trans (Ext.refl _) HS3.out)).1 ((GF.out.ext (Ext.refl _))).1).mono ?_
        rintro e w4 ⟨rfl, hx⟩
        have HX4 := Lib.hid (HX3.out.trans hx)
        have HS4 := Lib.hid hx
        clear hx
        go_wp2_with fail
        go_ret
        exact ⟨same_of (by simp only [andOutL, D2.out, D4.out, D5.out] <;> rfl), HX4.out⟩
      case true =>
        have D5 := Lib.hid hd
        clear hd
        go_wp2_with fail
        go_ret
        exact ⟨same_of (by simp only [andOutL, D2.out, D4.out, D5.out] <;> rfl), HX3.out⟩
end Go.Proofs.YtdpblciohodgcaaDoor
