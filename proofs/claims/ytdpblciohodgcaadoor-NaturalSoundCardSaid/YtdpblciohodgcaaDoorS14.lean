/- The rules: orIn, impOut, fromFalse. -/
import Derived.Test.YtdpblciohodgcaaDoorS09

namespace Go.Proofs.YtdpblciohodgcaaDoor
open Go.RowKit

set_option maxRecDepth 100000 in
set_option maxHeartbeats 4000000 in
theorem orIn_any {w : World} {b : Nat} {lg : Int} {ls : List Ln} {fs : List (List Nd)} {st : List (List Int)} {i : Nat} {n : Ln} {fi : List Nd} (h : Chk w b lg ls fs st) (ok : CkOk ls fs st i n fi) :
    Calls Tryd.prog 103 #[.pointer (some ⟨b, 0, none⟩), .int .i64 i] w fun e w' => e = .returned (.bool (orInL lg ls fs st i n fi)) ∧ Ext w w' := by
  have H := Lib.hid h
  have OK := Lib.hid ok
  have HX0 := Lib.hid (Ext.refl w)
  clear h ok
  go_enter Tryd.func103, Tryd.ntmps103
  go_wp2_with fail
  refine (one_any (H.out.ext HX0.out) OK.out.st_ok i n OK.out.n_at OK.out.st_lt OK.out.fs_le).mono ?_
  rintro e w1 ⟨ux0, rfl, hx, hf⟩
  have HX1 := Lib.hid (HX0.out.trans hx)
  have HS1 := Lib.hid hx
  clear hx
  have HF1 := Lib.hid hf
  clear hf
  cases hd : oneL ls fs st i n with
  | none =>
    have D2 := Lib.hid hd
    clear hd
    go_wp2_with fail
    go_ret
    exact ⟨same_of (by simp only [orInL, D2.out] <;> rfl), HX1.out⟩
  | some x =>
    have D2 := Lib.hid hd
    have Vx := Lib.hid (HF1.out _ hd)
    clear hd
    obtain ⟨ad, c, vl, vs, Ai, ci, g1, g2, g3, g4, g5, g6, g7, g8, g9⟩ := (H.out.ext HX1.out).form OK.out.f_at
    have GB := (H.out.ext HX1.out).blt
    have GI : i < fs.length := (List.getElem?_eq_some_iff.1 OK.out.f_at).1
    have GF := Lib.hid g9
    clear g4 g5 g7 g9
    go_wp2_with fail
    refine (part_any _ fi 6 _ (GF.out.ext (Ext.refl _)) (OK.out.fs_ok _ (List.mem_of_getElem? OK.out.f_at)).1).mono ?_
    rintro e w2 ⟨ur0, ur1, rfl, hx, hf⟩
    have HX2 := Lib.hid (HX1.out.trans hx)
    have HS2 := Lib.hid hx
    clear hx
    have HF3 := Lib.hid hf
    clear hf
    cases hd : partL fi 6 with
    | none =>
      have D4 := Lib.hid hd
      clear hd
      go_wp2_with fail
      go_ret
      exact ⟨same_of (by simp only [orInL, D2.out, D4.out] <;> rfl), HX2.out⟩
    | some r =>
      have D4 := Lib.hid hd
      have Vr := Lib.hid (HF3.out _ hd)
      clear hd
      go_wp2_with fail
      refine (equal_any ur0 ux0 r.1 x _ (Vr.out.1.ext (Ext.refl _)).1 (Vx.out.ext (Ext.trans (Ext.refl _) HS2.out)).1).mono ?_
      rintro e w3 ⟨rfl, hx⟩
      have HX3 := Lib.hid (HX2.out.trans hx)
      have HS3 := Lib.hid hx
      clear hx
      cases hd : eqN r.1 x
      case false =>
        have D5 := Lib.hid hd
        clear hd
        go_wp2_with fail
        refine (equal_any ur1 ux0 r.2 x _ (Vr.out.2.ext (Ext.trans (Ext.refl _) HS3.out)).1 (Vx.out.ext (Ext.trans (Ext.trans (Ext.refl _) HS2.out) HS3.out)).1).mono ?_
        rintro e w4 ⟨rfl, hx⟩
        have HX4 := Lib.hid (HX3.out.trans hx)
        have HS4 := Lib.hid hx
        clear hx
        go_wp2_with fail
        go_ret
        exact ⟨same_of (by simp only [orInL, D2.out, D4.out, D5.out] <;> rfl), HX4.out⟩
      case true =>
        have D5 := Lib.hid hd
        clear hd
        go_wp2_with fail
        go_ret
        exact ⟨same_of (by simp only [orInL, D2.out, D4.out, D5.out] <;> rfl), HX3.out⟩

set_option maxRecDepth 100000 in
set_option maxHeartbeats 4000000 in
theorem impOut_any {w : World} {b : Nat} {lg : Int} {ls : List Ln} {fs : List (List Nd)} {st : List (List Int)} {i : Nat} {n : Ln} {fi : List Nd} (h : Chk w b lg ls fs st) (ok : CkOk ls fs st i n fi) :
    Calls Tryd.prog 106 #[.pointer (some ⟨b, 0, none⟩), .int .i64 i] w fun e w' => e = .returned (.bool (impOutL lg ls fs st i n fi)) ∧ Ext w w' := by
  have H := Lib.hid h
  have OK := Lib.hid ok
  have HX0 := Lib.hid (Ext.refl w)
  clear h ok
  go_enter Tryd.func106, Tryd.ntmps106
  go_wp2_with fail
  refine (two_any (H.out.ext HX0.out) OK.out).mono ?_
  rintro e w1 ⟨ur0, ur1, rfl, hx, hf⟩
  have HX1 := Lib.hid (HX0.out.trans hx)
  have HS1 := Lib.hid hx
  clear hx
  have HF1 := Lib.hid hf
  clear hf
  cases hd : twoL ls fs st i n with
  | none =>
    have D2 := Lib.hid hd
    clear hd
    go_wp2_with fail
    go_ret
    exact ⟨same_of (by simp only [impOutL, D2.out] <;> rfl), HX1.out⟩
  | some r =>
    have D2 := Lib.hid hd
    have Vr := Lib.hid (HF1.out _ hd)
    clear hd
    obtain ⟨ad, c, vl, vs, Ai, ci, g1, g2, g3, g4, g5, g6, g7, g8, g9⟩ := (H.out.ext HX1.out).form OK.out.f_at
    have GB := (H.out.ext HX1.out).blt
    have GI : i < fs.length := (List.getElem?_eq_some_iff.1 OK.out.f_at).1
    have GF := Lib.hid g9
    clear g4 g5 g7 g9
    go_wp2_with fail
    refine (imp_any _ _ r.1 fi _ (Vr.out.1.ext (Ext.refl _)) (GF.out.ext (Ext.refl _))).mono ?_
    rintro e w2 ⟨um, rfl, hm⟩
    have Mm := Lib.hid hm
    have HX2 := Lib.hid (HX1.out.trans hm.2.2)
    have HS2 := Lib.hid hm.2.2
    clear hm
    go_wp2_with fail
    refine (equal_any _ ur1 (impN r.1 fi) r.2 _ (Mm.out.fml.ext (Ext.refl _)).1 (Vr.out.2.ext (Ext.trans (Ext.refl _) HS2.out)).1).mono ?_
    rintro e w3 ⟨rfl, hx⟩
    have HX3 := Lib.hid (HX2.out.trans hx)
    have HS3 := Lib.hid hx
    clear hx
    go_wp2_with fail
    go_ret
    exact ⟨same_of (by simp only [impOutL, D2.out] <;> rfl), HX3.out⟩

set_option maxRecDepth 100000 in
set_option maxHeartbeats 4000000 in
theorem fromFalse_any {w : World} {b : Nat} {lg : Int} {ls : List Ln} {fs : List (List Nd)} {st : List (List Int)} {i : Nat} {n : Ln} {fi : List Nd} (h : Chk w b lg ls fs st) (ok : CkOk ls fs st i n fi) :
    Calls Tryd.prog 110 #[.pointer (some ⟨b, 0, none⟩), .int .i64 i] w fun e w' => e = .returned (.bool (fromFalseL lg ls fs st i n fi)) ∧ Ext w w' := by
  have H := Lib.hid h
  have OK := Lib.hid ok
  have HX0 := Lib.hid (Ext.refl w)
  clear h ok
  go_enter Tryd.func110, Tryd.ntmps110
  go_wp2_with fail
  refine (one_any (H.out.ext HX0.out) OK.out.st_ok i n OK.out.n_at OK.out.st_lt OK.out.fs_le).mono ?_
  rintro e w1 ⟨ux0, rfl, hx, hf⟩
  have HX1 := Lib.hid (HX0.out.trans hx)
  have HS1 := Lib.hid hx
  clear hx
  have HF1 := Lib.hid hf
  clear hf
  cases hd : oneL ls fs st i n with
  | none =>
    have D2 := Lib.hid hd
    clear hd
    go_wp2_with fail
    go_ret
    exact ⟨same_of (by simp only [fromFalseL, D2.out] <;> rfl), HX1.out⟩
  | some x =>
    have D2 := Lib.hid hd
    have Vx := Lib.hid (HF1.out _ hd)
    clear hd
    go_wp2_with fail
    refine (false_any _).mono ?_
    rintro e w2 ⟨um, rfl, hm⟩
    have Mm := Lib.hid hm
    have HX2 := Lib.hid (HX1.out.trans hm.2.2)
    have HS2 := Lib.hid hm.2.2
    clear hm
    go_wp2_with fail
    refine (equal_any ux0 _ x falseN _ (Vx.out.ext (Ext.trans (Ext.refl _) HS2.out)).1 (Mm.out.fml.ext (Ext.refl _)).1).mono ?_
    rintro e w3 ⟨rfl, hx⟩
    have HX3 := Lib.hid (HX2.out.trans hx)
    have HS3 := Lib.hid hx
    clear hx
    go_wp2_with fail
    go_ret
    exact ⟨same_of (by simp only [fromFalseL, D2.out] <;> rfl), HX3.out⟩
end Go.Proofs.YtdpblciohodgcaaDoor
