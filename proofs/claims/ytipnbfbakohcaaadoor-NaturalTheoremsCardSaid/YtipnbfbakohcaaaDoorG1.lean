/- The rules: copied, andIn, andOut. -/
import Derived.Test.YtipnbfbakohcaaaDoorF8
import Derived.Test.YtipnbfbakohcaaaDoorK9
import Derived.Deep.RegionHeld3

namespace Go.Proofs.YtipnbfbakohcaaaDoor
open Go.RowKit

set_option maxRecDepth 100000 in
set_option maxHeartbeats 4000000 in
theorem copied_any {w : World} {b : Nat} {lg : Int} {ls : List Ln} {fs : List (List Nd)} {st : List (List Int)} {i : Nat} {n : Ln} {fi : List Nd} (h : Chk w b lg ls fs st) (ok : CkOk ls fs st i n fi) :
    Calls Tryd.prog 97 #[.pointer (some ⟨b, 0, none⟩), .int .i64 i] w fun e w' => e = .returned (.bool (copiedL lg ls fs st i n fi)) ∧ Ext w w' := by
  have H := Lib.hid h
  have OK := Lib.hid ok
  have HX0 := Lib.hid (Ext.refl w)
  clear h ok
  go_enter Tryd.func97, Tryd.ntmps97
  go_wp2_with fail
  refine (named_any (H.out.ext HX0.out) i n 1 OK.out.n_at).mono ?_
  rintro e w1 ⟨rfl, hx⟩
  have HX1 := Lib.hid (HX0.out.trans hx)
  have HS1 := Lib.hid hx
  clear hx
  cases hd : decide (n.from_.length = 1)
  case false =>
    have D1 := Lib.hid hd
    clear hd
    have OD1 : Hid (oneL ls fs st i n = none) := Lib.hid (oneL_no D1.out)
    go_wp2_with fail
    go_ret
    exact ⟨same_of (by simp only [copiedL, OD1.out] <;> rfl), HX1.out⟩
  case true =>
    have D1 := Lib.hid hd
    clear hd
    have D1p := Lib.hid (oneL_yes (ls := ls) (fs := fs) (st := st) (i := i) D1.out)
    go_wp2_with fail
    refine (line_any (H.out.ext HX1.out) OK.out.st_ok i 0 n _ OK.out.n_at D1p.out.1 OK.out.st_lt OK.out.fs_le).mono ?_
    rintro e w2 ⟨ux0, rfl, hx, hf⟩
    have HX2 := Lib.hid (HX1.out.trans hx)
    have HS2 := Lib.hid hx
    clear hx
    have HF2 := Lib.hid hf
    clear hf
    cases hd : lineL ls fs st i (fromAt n 0) with
    | none =>
      have D3 := Lib.hid hd
      clear hd
      have OD3 : Hid (oneL ls fs st i n = none) := Lib.hid (D1p.out.2.trans D3.out)
      go_wp2_with fail
      go_ret
      exact ⟨same_of (by simp only [copiedL, OD3.out] <;> rfl), HX2.out⟩
    | some x =>
      have D3 := Lib.hid hd
      have Vx := Lib.hid (HF2.out _ hd)
      clear hd
      have OD3 : Hid (oneL ls fs st i n = some x) := Lib.hid (D1p.out.2.trans D3.out)
      obtain ⟨ad, c, vl, vs, Ai, ci, g1, g2, g3, g4, g5, g6, g7, g8, g9⟩ := (H.out.ext HX2.out).form OK.out.f_at
      have GB := (H.out.ext HX2.out).blt
      have GI : i < fs.length := (List.getElem?_eq_some_iff.1 OK.out.f_at).1
      have GF := Lib.hid g9
      clear g4 g5 g7 g9
      go_wp2_with fail
      refine (equal_any ux0 _ x fi _ (Vx.out.ext (Ext.refl _)).1 ((GF.out.ext (Ext.refl _))).1).mono ?_
      rintro e w3 ⟨rfl, hx⟩
      have HX3 := Lib.hid (HX2.out.trans hx)
      have HS3 := Lib.hid hx
      clear hx
      go_wp2_with fail
      go_ret
      exact ⟨same_of (by simp only [copiedL, OD3.out] <;> rfl), HX3.out⟩

set_option maxRecDepth 100000 in
set_option maxHeartbeats 4000000 in
theorem andIn_any {w : World} {b : Nat} {lg : Int} {ls : List Ln} {fs : List (List Nd)} {st : List (List Int)} {i : Nat} {n : Ln} {fi : List Nd} (h : Chk w b lg ls fs st) (ok : CkOk ls fs st i n fi) :
    Calls Tryd.prog 98 #[.pointer (some ⟨b, 0, none⟩), .int .i64 i] w fun e w' => e = .returned (.bool (andInL lg ls fs st i n fi)) ∧ Ext w w' := by
  have H := Lib.hid h
  have OK := Lib.hid ok
  have HX0 := Lib.hid (Ext.refl w)
  clear h ok
  go_enter Tryd.func98, Tryd.ntmps98
  go_wp2_with fail
  refine (two_any (H.out.ext HX0.out) OK.out).mono ?_
  rintro e w1 ⟨ur0, ur1, rfl, hx, hf⟩
  have HX1 := Lib.hid (HX0.out.trans hx)
  have HS1 := Lib.hid hx
  clear hx
  have HF1 := Lib.hid hf
  clear hf
  cases hd : twoL ls fs st i n with
  | none =>
    have D2 := Lib.hid hd
    clear hd
    go_wp2_with fail
    go_quiet (fail)
    go_wp2_with fail
    go_ret
    exact ⟨same_of (by simp only [andInL, D2.out] <;> rfl), HX1.out.drewN _⟩
  | some r =>
    have D2 := Lib.hid hd
    have Vr := Lib.hid (HF1.out _ hd)
    clear hd
    obtain ⟨ad, c, vl, vs, Ai, ci, g1, g2, g3, g4, g5, g6, g7, g8, g9⟩ := (H.out.ext HX1.out).form OK.out.f_at
    have GB := (H.out.ext HX1.out).blt
    have GI : i < fs.length := (List.getElem?_eq_some_iff.1 OK.out.f_at).1
    have GF := Lib.hid g9
    clear g4 g5 g7 g9
    go_wp2_with fail
    go_region_with (first | (go_at_call 118; refine (and_any _ _ r.1 r.2 _ (by exact Vr.out.1.ext (by repeat (first | exact Ext.refl _ | assumption | apply Ext.alloc | apply Ext.drew))) (by exact Vr.out.2.ext (by repeat (first | exact Ext.refl _ | assumption | apply Ext.alloc | apply Ext.drew)))).mono ?_; rintro e wa ⟨ua, rfl, hma⟩; have MA := Lib.hid hma; have hxa : Ext w1 wa := Ext.trans (by repeat (first | exact Ext.refl _ | assumption | apply Ext.alloc | apply Ext.drew)) hma.2.2; have g6a := (hxa.cell (p := ⟨b, 2, none⟩) GB).trans g6; have g8a := (hxa.cell (p := ad.add i) (by rw [block_of_add]; exact g3)).trans g8; clear hma) | (go_at_call 45; refine (equal_any _ _ (andN r.1 r.2) fi _ (by exact (MA.out.fml.ext (by repeat (first | exact Ext.refl _ | assumption | apply Ext.alloc | apply Ext.drew))).1) (by exact (GF.out.ext (by repeat (first | exact Ext.refl _ | assumption | apply Ext.alloc | apply Ext.drew))).1)).mono ?_; rintro e wb ⟨rfl, hxb⟩; have hyb : Ext w1 wb := Ext.trans (by repeat (first | exact Ext.refl _ | assumption | apply Ext.alloc | apply Ext.drew)) hxb))
    all_goals
      go_wp2_with fail
      go_ret
      exact ⟨same_of (by simp only [andInL, D2.out] <;> rfl), HX1.out.trans hyb⟩

set_option maxRecDepth 100000 in
set_option maxHeartbeats 4000000 in
theorem andOut_any {w : World} {b : Nat} {lg : Int} {ls : List Ln} {fs : List (List Nd)} {st : List (List Int)} {i : Nat} {n : Ln} {fi : List Nd} (h : Chk w b lg ls fs st) (ok : CkOk ls fs st i n fi) :
    Calls Tryd.prog 99 #[.pointer (some ⟨b, 0, none⟩), .int .i64 i] w fun e w' => e = .returned (.bool (andOutL lg ls fs st i n fi)) ∧ Ext w w' := by
  have H := Lib.hid h
  have OK := Lib.hid ok
  have HX0 := Lib.hid (Ext.refl w)
  clear h ok
  go_enter Tryd.func99, Tryd.ntmps99
  go_wp2_with fail
  refine (one_any (H.out.ext HX0.out) OK.out.st_ok i n OK.out.n_at OK.out.st_lt OK.out.fs_le).mono ?_
  rintro e w1 ⟨ux0, rfl, hx, hf⟩
  have HX1 := Lib.hid (HX0.out.trans hx)
  have HS1 := Lib.hid hx
  clear hx
  have HF1 := Lib.hid hf
  clear hf
  cases hd : oneL ls fs st i n with
  | none =>
    have D2 := Lib.hid hd
    clear hd
    go_wp2_with fail
    go_ret
    exact ⟨same_of (by simp only [andOutL, D2.out] <;> rfl), HX1.out⟩
  | some x =>
    have D2 := Lib.hid hd
    have Vx := Lib.hid (HF1.out _ hd)
    clear hd
    go_wp2_with fail
    refine (part_any ux0 x 5 _ (Vx.out.ext (Ext.refl _)) (OK.out.fs_ok _ (oneL_mem D2.out OK.out.fs_le)).1).mono ?_
    rintro e w2 ⟨ur0, ur1, rfl, hx, hf⟩
    have HX2 := Lib.hid (HX1.out.trans hx)
    have HS2 := Lib.hid hx
    clear hx
    have HF3 := Lib.hid hf
    clear hf
    cases hd : partL x 5 with
    | none =>
      have D4 := Lib.hid hd
      clear hd
      go_wp2_with fail
      go_ret
      exact ⟨same_of (by simp only [andOutL, D2.out, D4.out] <;> rfl), HX2.out⟩
    | some r =>
      have D4 := Lib.hid hd
      have Vr := Lib.hid (HF3.out _ hd)
      clear hd
      obtain ⟨ad, c, vl, vs, Ai, ci, g1, g2, g3, g4, g5, g6, g7, g8, g9⟩ := (H.out.ext HX2.out).form OK.out.f_at
      have GB := (H.out.ext HX2.out).blt
      have GI : i < fs.length := (List.getElem?_eq_some_iff.1 OK.out.f_at).1
      have GF := Lib.hid g9
      clear g4 g5 g7 g9
      go_wp2_with fail
      refine (equal_any ur0 _ r.1 fi _ (Vr.out.1.ext (Ext.refl _)).1 ((GF.out.ext (Ext.refl _))).1).mono ?_
      rintro e w3 ⟨rfl, hx⟩
      have HX3 := Lib.hid (HX2.out.trans hx)
      have HS3 := Lib.hid hx
      clear hx
      cases hd : eqN r.1 fi
      case false =>
        have D5 := Lib.hid hd
        clear hd
        clear g1 g2 g3 g6 g8 GB GF GI
        obtain ⟨ad, c, vl, vs, Ai, ci, g1, g2, g3, g4, g5, g6, g7, g8, g9⟩ := (H.out.ext HX3.out).form OK.out.f_at
        have GB := (H.out.ext HX3.out).blt
        have GI : i < fs.length := (List.getElem?_eq_some_iff.1 OK.out.f_at).1
        have GF := Lib.hid g9
        clear g4 g5 g7 g9
        go_wp2_with fail
        refine (equal_any ur1 _ r.2 fi _ (Vr.out.2.ext (Ext.trans (Ext.refl _) HS3.out)).1 ((GF.out.ext (Ext.refl _))).1).mono ?_
        rintro e w4 ⟨rfl, hx⟩
        have HX4 := Lib.hid (HX3.out.trans hx)
        have HS4 := Lib.hid hx
        clear hx
        go_wp2_with fail
        go_ret
        exact ⟨same_of (by simp only [andOutL, D2.out, D4.out, D5.out] <;> rfl), HX4.out⟩
      case true =>
        have D5 := Lib.hid hd
        clear hd
        go_wp2_with fail
        go_ret
        exact ⟨same_of (by simp only [andOutL, D2.out, D4.out, D5.out] <;> rfl), HX3.out⟩
end Go.Proofs.YtipnbfbakohcaaaDoor

/- The rules: orIn, impOut, fromFalse. -/

namespace Go.Proofs.YtipnbfbakohcaaaDoor
open Go.RowKit

set_option maxRecDepth 100000 in
set_option maxHeartbeats 4000000 in
theorem orIn_any {w : World} {b : Nat} {lg : Int} {ls : List Ln} {fs : List (List Nd)} {st : List (List Int)} {i : Nat} {n : Ln} {fi : List Nd} (h : Chk w b lg ls fs st) (ok : CkOk ls fs st i n fi) :
    Calls Tryd.prog 100 #[.pointer (some ⟨b, 0, none⟩), .int .i64 i] w fun e w' => e = .returned (.bool (orInL lg ls fs st i n fi)) ∧ Ext w w' := by
  have H := Lib.hid h
  have OK := Lib.hid ok
  have HX0 := Lib.hid (Ext.refl w)
  clear h ok
  go_enter Tryd.func100, Tryd.ntmps100
  go_wp2_with fail
  refine (one_any (H.out.ext HX0.out) OK.out.st_ok i n OK.out.n_at OK.out.st_lt OK.out.fs_le).mono ?_
  rintro e w1 ⟨ux0, rfl, hx, hf⟩
  have HX1 := Lib.hid (HX0.out.trans hx)
  have HS1 := Lib.hid hx
  clear hx
  have HF1 := Lib.hid hf
  clear hf
  cases hd : oneL ls fs st i n with
  | none =>
    have D2 := Lib.hid hd
    clear hd
    go_wp2_with fail
    go_ret
    exact ⟨same_of (by simp only [orInL, D2.out] <;> rfl), HX1.out⟩
  | some x =>
    have D2 := Lib.hid hd
    have Vx := Lib.hid (HF1.out _ hd)
    clear hd
    obtain ⟨ad, c, vl, vs, Ai, ci, g1, g2, g3, g4, g5, g6, g7, g8, g9⟩ := (H.out.ext HX1.out).form OK.out.f_at
    have GB := (H.out.ext HX1.out).blt
    have GI : i < fs.length := (List.getElem?_eq_some_iff.1 OK.out.f_at).1
    have GF := Lib.hid g9
    clear g4 g5 g7 g9
    go_wp2_with fail
    refine (part_any _ fi 6 _ (GF.out.ext (Ext.refl _)) (OK.out.fs_ok _ (List.mem_of_getElem? OK.out.f_at)).1).mono ?_
    rintro e w2 ⟨ur0, ur1, rfl, hx, hf⟩
    have HX2 := Lib.hid (HX1.out.trans hx)
    have HS2 := Lib.hid hx
    clear hx
    have HF3 := Lib.hid hf
    clear hf
    cases hd : partL fi 6 with
    | none =>
      have D4 := Lib.hid hd
      clear hd
      go_wp2_with fail
      go_ret
      exact ⟨same_of (by simp only [orInL, D2.out, D4.out] <;> rfl), HX2.out⟩
    | some r =>
      have D4 := Lib.hid hd
      have Vr := Lib.hid (HF3.out _ hd)
      clear hd
      go_wp2_with fail
      refine (equal_any ur0 ux0 r.1 x _ (Vr.out.1.ext (Ext.refl _)).1 (Vx.out.ext (Ext.trans (Ext.refl _) HS2.out)).1).mono ?_
      rintro e w3 ⟨rfl, hx⟩
      have HX3 := Lib.hid (HX2.out.trans hx)
      have HS3 := Lib.hid hx
      clear hx
      cases hd : eqN r.1 x
      case false =>
        have D5 := Lib.hid hd
        clear hd
        go_wp2_with fail
        refine (equal_any ur1 ux0 r.2 x _ (Vr.out.2.ext (Ext.trans (Ext.refl _) HS3.out)).1 (Vx.out.ext (Ext.trans (Ext.trans (Ext.refl _) HS2.out) HS3.out)).1).mono ?_
        rintro e w4 ⟨rfl, hx⟩
        have HX4 := Lib.hid (HX3.out.trans hx)
        have HS4 := Lib.hid hx
        clear hx
        go_wp2_with fail
        go_ret
        exact ⟨same_of (by simp only [orInL, D2.out, D4.out, D5.out] <;> rfl), HX4.out⟩
      case true =>
        have D5 := Lib.hid hd
        clear hd
        go_wp2_with fail
        go_ret
        exact ⟨same_of (by simp only [orInL, D2.out, D4.out, D5.out] <;> rfl), HX3.out⟩

set_option maxRecDepth 100000 in
set_option maxHeartbeats 4000000 in
theorem impOut_any {w : World} {b : Nat} {lg : Int} {ls : List Ln} {fs : List (List Nd)} {st : List (List Int)} {i : Nat} {n : Ln} {fi : List Nd} (h : Chk w b lg ls fs st) (ok : CkOk ls fs st i n fi) :
    Calls Tryd.prog 103 #[.pointer (some ⟨b, 0, none⟩), .int .i64 i] w fun e w' => e = .returned (.bool (impOutL lg ls fs st i n fi)) ∧ Ext w w' := by
  have H := Lib.hid h
  have OK := Lib.hid ok
  have HX0 := Lib.hid (Ext.refl w)
  clear h ok
  go_enter Tryd.func103, Tryd.ntmps103
  go_wp2_with fail
  refine (two_any (H.out.ext HX0.out) OK.out).mono ?_
  rintro e w1 ⟨ur0, ur1, rfl, hx, hf⟩
  have HX1 := Lib.hid (HX0.out.trans hx)
  have HS1 := Lib.hid hx
  clear hx
  have HF1 := Lib.hid hf
  clear hf
  cases hd : twoL ls fs st i n with
  | none =>
    have D2 := Lib.hid hd
    clear hd
    go_wp2_with fail
    go_ret
    exact ⟨same_of (by simp only [impOutL, D2.out] <;> rfl), HX1.out⟩
  | some r =>
    have D2 := Lib.hid hd
    have Vr := Lib.hid (HF1.out _ hd)
    clear hd
    obtain ⟨ad, c, vl, vs, Ai, ci, g1, g2, g3, g4, g5, g6, g7, g8, g9⟩ := (H.out.ext HX1.out).form OK.out.f_at
    have GB := (H.out.ext HX1.out).blt
    have GI : i < fs.length := (List.getElem?_eq_some_iff.1 OK.out.f_at).1
    have GF := Lib.hid g9
    clear g4 g5 g7 g9
    go_wp2_with fail
    refine (imp_any _ _ r.1 fi _ (Vr.out.1.ext (Ext.refl _)) (GF.out.ext (Ext.refl _))).mono ?_
    rintro e w2 ⟨um, rfl, hm⟩
    have Mm := Lib.hid hm
    have HX2 := Lib.hid (HX1.out.trans hm.2.2)
    have HS2 := Lib.hid hm.2.2
    clear hm
    go_wp2_with fail
    refine (equal_any _ ur1 (impN r.1 fi) r.2 _ (Mm.out.fml.ext (Ext.refl _)).1 (Vr.out.2.ext (Ext.trans (Ext.refl _) HS2.out)).1).mono ?_
    rintro e w3 ⟨rfl, hx⟩
    have HX3 := Lib.hid (HX2.out.trans hx)
    have HS3 := Lib.hid hx
    clear hx
    go_wp2_with fail
    go_ret
    exact ⟨same_of (by simp only [impOutL, D2.out] <;> rfl), HX3.out⟩

set_option maxRecDepth 100000 in
set_option maxHeartbeats 4000000 in
theorem fromFalse_any {w : World} {b : Nat} {lg : Int} {ls : List Ln} {fs : List (List Nd)} {st : List (List Int)} {i : Nat} {n : Ln} {fi : List Nd} (h : Chk w b lg ls fs st) (ok : CkOk ls fs st i n fi) :
    Calls Tryd.prog 107 #[.pointer (some ⟨b, 0, none⟩), .int .i64 i] w fun e w' => e = .returned (.bool (fromFalseL lg ls fs st i n fi)) ∧ Ext w w' := by
  have H := Lib.hid h
  have OK := Lib.hid ok
  have HX0 := Lib.hid (Ext.refl w)
  clear h ok
  go_enter Tryd.func107, Tryd.ntmps107
  go_wp2_with fail
  refine (one_any (H.out.ext HX0.out) OK.out.st_ok i n OK.out.n_at OK.out.st_lt OK.out.fs_le).mono ?_
  rintro e w1 ⟨ux0, rfl, hx, hf⟩
  have HX1 := Lib.hid (HX0.out.trans hx)
  have HS1 := Lib.hid hx
  clear hx
  have HF1 := Lib.hid hf
  clear hf
  cases hd : oneL ls fs st i n with
  | none =>
    have D2 := Lib.hid hd
    clear hd
    go_wp2_with fail
    go_ret
    exact ⟨same_of (by simp only [fromFalseL, D2.out] <;> rfl), HX1.out⟩
  | some x =>
    have D2 := Lib.hid hd
    have Vx := Lib.hid (HF1.out _ hd)
    clear hd
    go_wp2_with fail
    refine (false_any _).mono ?_
    rintro e w2 ⟨um, rfl, hm⟩
    have Mm := Lib.hid hm
    have HX2 := Lib.hid (HX1.out.trans hm.2.2)
    have HS2 := Lib.hid hm.2.2
    clear hm
    go_wp2_with fail
    refine (equal_any ux0 _ x falseN _ (Vx.out.ext (Ext.trans (Ext.refl _) HS2.out)).1 (Mm.out.fml.ext (Ext.refl _)).1).mono ?_
    rintro e w3 ⟨rfl, hx⟩
    have HX3 := Lib.hid (HX2.out.trans hx)
    have HS3 := Lib.hid hx
    clear hx
    go_wp2_with fail
    go_ret
    exact ⟨same_of (by simp only [fromFalseL, D2.out] <;> rfl), HX3.out⟩
end Go.Proofs.YtipnbfbakohcaaaDoor

/- The rules: serial. -/

namespace Go.Proofs.YtipnbfbakohcaaaDoor
open Go.RowKit

set_option maxRecDepth 100000 in
set_option maxHeartbeats 4000000 in
theorem serial_any {w : World} {b : Nat} {lg : Int} {ls : List Ln} {fs : List (List Nd)} {st : List (List Int)} {i : Nat} {n : Ln} {fi : List Nd} (h : Chk w b lg ls fs st) (ok : CkOk ls fs st i n fi) :
    Calls Tryd.prog 114 #[.pointer (some ⟨b, 0, none⟩), .int .i64 i] w fun e w' => e = .returned (.bool (serialL lg ls fs st i n fi)) ∧ Ext w w' := by
  have H := Lib.hid h
  have OK := Lib.hid ok
  have HX0 := Lib.hid (Ext.refl w)
  clear h ok
  go_enter Tryd.func114, Tryd.ntmps114
  go_wp2_with fail
  refine (one_any (H.out.ext HX0.out) OK.out.st_ok i n OK.out.n_at OK.out.st_lt OK.out.fs_le).mono ?_
  rintro e w1 ⟨ux0, rfl, hx, hf⟩
  have HX1 := Lib.hid (HX0.out.trans hx)
  have HS1 := Lib.hid hx
  clear hx
  have HF1 := Lib.hid hf
  clear hf
  cases hd : oneL ls fs st i n with
  | none =>
    have D2 := Lib.hid hd
    clear hd
    go_wp2_with fail
    go_ret
    exact ⟨same_of (by simp only [serialL, D2.out] <;> rfl), HX1.out⟩
  | some x =>
    have D2 := Lib.hid hd
    have Vx := Lib.hid (HF1.out _ hd)
    clear hd
    go_wp2_with fail
    refine (logic_any ((H.out.ext HX1.out).ext ((Ext.refl _).alloc _)) _ [1, 5] (ints_new _ [1, 5] (by decide))).mono ?_
    rintro e w2 ⟨rfl, hx⟩
    have HS2 := Lib.hid (Ext.trans (show Ext w1 _ from (Ext.refl _).alloc _) hx)
    have HX2 := Lib.hid (HX1.out.trans HS2.out)
    clear hx
    cases hd : inL [1, 5] lg
    case false =>
      have D3 := Lib.hid hd
      clear hd
      go_wp2_with fail
      go_ret
      exact ⟨same_of (by simp only [serialL, D2.out, D3.out] <;> rfl), HX2.out⟩
    case true =>
      have D3 := Lib.hid hd
      clear hd
      have hF := Vx.out.ext (Ext.trans (Ext.refl _) HS2.out)
      have HLF := Lib.hid hF
      obtain ⟨⟨AL, cL, rfl, hcapL, hmaxL, hreadL⟩, hokL⟩ := hF
      have h0L := (OK.out.fs_ok _ (oneL_mem D2.out OK.out.fs_le)).1
      unfold maxLen at hmaxL
      obtain ⟨adL, rfl, hltL, hcellsL⟩ := hreadL (by intro e; rw [e] at h0L; simp at h0L)
      have hlast := lastN_get h0L
      obtain ⟨n0, n1, n2, n3, n4, n5⟩ := hcellsL _ _ hlast
      have hi1L : ((x.length : Int) - 1) < (x.length : Int) := by omega
      have hi0L : (0 : Int) ≤ (x.length : Int) - 1 := by omega
      have e1L : ((x.length : Int) - 1).toNat = x.length - 1 := by omega
      have hniL := (hokL _ (List.mem_of_getElem? hlast)).2.1
      clear hreadL hokL hcellsL hlast
      obtain ⟨nn, hnn⟩ : ∃ nn, nn = lastN x := ⟨_, rfl⟩
      rw [← hnn] at n0 n1 n2 n3 n4 n5 hniL
      have HNN := Lib.hid hnn.symm
      have HNI := Lib.hid hniL
      clear hnn hniL
      cases hd : (nn.op == 9)
      case false =>
        have D4 := Lib.hid hd
        go_wp2_with fail
        go_quiet (fail)
        go_wp2_with fail
        go_ret
        exact ⟨same_of (by simp only [serialL, D2.out, D3.out, HNN.out, D4.out] <;> rfl), (HX2.out.alloc _).drewN _⟩
      case true =>
        have D4 := Lib.hid hd
        go_wp2_with fail
        generalize hW : World.alloc w2 _ = W
        have hW0 : Ext w2 W := by rw [← hW]; exact (Ext.refl _).alloc _
        obtain ⟨⟨s0, s1, s2, s3, s4, s5⟩, sfr, slt⟩ := cells6 (show W.heap[w2.heap.size]? = some (.cells #[.int .i64 nn.op, .int .i64 nn.i, .int .i64 nn.e, .int .i64 nn.g, .int .i64 nn.x, .int .i64 nn.y] 60 (0, 0)) by rw [← hW]; exact heap_alloc_new _ _)
        clear hW
        obtain ⟨ad, c, vl, vs, Ai, ci, g1, g2, g3, g4, g5, g6, g7, g8, g9⟩ := ((H.out.ext HX2.out).ext hW0).form OK.out.f_at
        have GB := ((H.out.ext HX2.out).ext hW0).blt
        have GI : i < fs.length := (List.getElem?_eq_some_iff.1 OK.out.f_at).1
        have GF := Lib.hid g9
        have HLW := Lib.hid (HLF.out.ext hW0)
        clear g4 g5 g7 g9
        go_region_held3 (fun w' => w'.cell? ⟨b, 2, none⟩ = some (.slice (some ad) fs.length c) ∧ w'.cell? (ad.add i) = some (.slice Ai fi.length ci) ∧ w'.cell? ⟨w2.heap.size, 0, none⟩ = some (.int .i64 nn.op) ∧ w'.cell? ⟨w2.heap.size, 1, none⟩ = some (.int .i64 nn.i) ∧ w'.cell? ⟨w2.heap.size, 4, none⟩ = some (.int .i64 nn.x)) (first | exact ⟨g6, g8, s0, s1, s4⟩ | exact ⟨g6a, g8a, s0a, s1a, s4a⟩ | exact ⟨g6b, g8b, s0b, s1b, s4b⟩ | exact ⟨g6d, g8d, s0d, s1d, s4d⟩ | go_keep) (first | (go_at_call 44; refine (sub_any _ x nn.x _ (by exact HLW.out.ext (by repeat (first | exact Ext.refl _ | assumption | apply Ext.alloc | apply Ext.drew)))).mono ?_; rintro e wa ⟨ua, rfl, hma⟩; have MA := Lib.hid hma; have hxa : Ext W wa := Ext.trans (by repeat (first | exact Ext.refl _ | assumption | apply Ext.alloc | apply Ext.drew)) hma.2.2; have g6a := (hxa.cell (p := ⟨b, 2, none⟩) GB).trans g6; have g8a := (hxa.cell (p := (ad.add i)) (by rw [block_of_add]; exact g3)).trans g8; have s0a := (hxa.cell (p := ⟨w2.heap.size, 0, none⟩) slt).trans s0; have s1a := (hxa.cell (p := ⟨w2.heap.size, 1, none⟩) slt).trans s1; have s4a := (hxa.cell (p := ⟨w2.heap.size, 4, none⟩) slt).trans s4; clear hma) | (go_at_call 24; refine (poss_any nn.i HNI.out _ (subN x nn.x) _ (by exact MA.out.fml.ext (by repeat (first | exact Ext.refl _ | assumption | apply Ext.alloc | apply Ext.drew)))).mono ?_; rintro e wb ⟨ub, rfl, hmb⟩; have MB := Lib.hid hmb; have hxb : Ext W wb := Ext.trans (by repeat (first | exact Ext.refl _ | assumption | apply Ext.alloc | apply Ext.drew)) hmb.2.2; have g6b := (hxb.cell (p := ⟨b, 2, none⟩) GB).trans g6; have g8b := (hxb.cell (p := (ad.add i)) (by rw [block_of_add]; exact g3)).trans g8; have s0b := (hxb.cell (p := ⟨w2.heap.size, 0, none⟩) slt).trans s0; have s1b := (hxb.cell (p := ⟨w2.heap.size, 1, none⟩) slt).trans s1; have s4b := (hxb.cell (p := ⟨w2.heap.size, 4, none⟩) slt).trans s4; clear hmb) | (go_at_call 45; refine (equal_any _ _ (possN nn.i (subN x nn.x)) fi _ (by exact (MB.out.fml.ext (by repeat (first | exact Ext.refl _ | assumption | apply Ext.alloc | apply Ext.drew))).1) (by exact (GF.out.ext (by repeat (first | exact Ext.refl _ | assumption | apply Ext.alloc | apply Ext.drew))).1)).mono ?_; rintro e wd ⟨rfl, hvd⟩; have hxd : Ext W wd := Ext.trans (by repeat (first | exact Ext.refl _ | assumption | apply Ext.alloc | apply Ext.drew)) hvd; have g6d := (hxd.cell (p := ⟨b, 2, none⟩) GB).trans g6; have g8d := (hxd.cell (p := (ad.add i)) (by rw [block_of_add]; exact g3)).trans g8; have s0d := (hxd.cell (p := ⟨w2.heap.size, 0, none⟩) slt).trans s0; have s1d := (hxd.cell (p := ⟨w2.heap.size, 1, none⟩) slt).trans s1; have s4d := (hxd.cell (p := ⟨w2.heap.size, 4, none⟩) slt).trans s4; clear hvd))
        all_goals
          go_wp2_with fail
          go_ret
          exact ⟨same_of (by simp only [serialL, D2.out, D3.out, HNN.out, D4.out] <;> rfl), (HX2.out.trans hW0).trans hxd⟩
end Go.Proofs.YtipnbfbakohcaaaDoor

/- The rules: notOut. -/

namespace Go.Proofs.YtipnbfbakohcaaaDoor
open Go.RowKit

set_option maxRecDepth 100000 in
set_option maxHeartbeats 4000000 in
theorem notOut_any {w : World} {b : Nat} {lg : Int} {ls : List Ln} {fs : List (List Nd)} {st : List (List Int)} {i : Nat} {n : Ln} {fi : List Nd} (h : Chk w b lg ls fs st) (ok : CkOk ls fs st i n fi) :
    Calls Tryd.prog 105 #[.pointer (some ⟨b, 0, none⟩), .int .i64 i] w fun e w' => e = .returned (.bool (notOutL lg ls fs st i n fi)) ∧ Ext w w' := by
  have H := Lib.hid h
  have OK := Lib.hid ok
  have HX0 := Lib.hid (Ext.refl w)
  clear h ok
  go_enter Tryd.func105, Tryd.ntmps105
  go_wp2_with fail
  refine (two_any (H.out.ext HX0.out) OK.out).mono ?_
  rintro e w1 ⟨ur0, ur1, rfl, hx, hf⟩
  have HX1 := Lib.hid (HX0.out.trans hx)
  have HS1 := Lib.hid hx
  clear hx
  have HF1 := Lib.hid hf
  clear hf
  cases hd : twoL ls fs st i n with
  | none =>
    have D2 := Lib.hid hd
    clear hd
    go_wp2_with fail
    go_quiet (fail)
    go_wp2_with fail
    go_ret
    exact ⟨same_of (by simp only [notOutL, D2.out] <;> rfl), HX1.out.drewN _⟩
  | some r =>
    have D2 := Lib.hid hd
    have Vr := Lib.hid (HF1.out _ hd)
    clear hd
    obtain ⟨ad, c, vl, vs, Ai, ci, g1, g2, g3, g4, g5, g6, g7, g8, g9⟩ := (H.out.ext HX1.out).form OK.out.f_at
    have GB := (H.out.ext HX1.out).blt
    have GI : i < fs.length := (List.getElem?_eq_some_iff.1 OK.out.f_at).1
    have GF := Lib.hid g9
    clear g4 g5 g7 g9
    cases hd : eqN (notN r.1) r.2
    case false =>
      have D3 := Lib.hid hd
      clear hd
      go_wp2_with fail
      refine wp_region_held_drew (S := fun w' => w'.cell? ⟨b, 2, none⟩ = some (.slice (some ad) fs.length c) ∧ w'.cell? (ad.add i) = some (.slice Ai fi.length ci)) (by kernel_rfl) ⟨g6, g8⟩ (fun hHeld => ?_)
      refine' wpAnyH_take (i := 0) (v := _) rfl (by kernel_rfl) (by kernel_rfl) (by kernel_rfl) (fun _ _ _ h => h) (Or.inl ⟨by rfl, ?hy0⟩) ⟨g6, g8⟩ ?rest0
      case hy0 => (intro w' hSw; (try dsimp only at hSw); go_simp; (try with_reducible rfl))
      try simp only [Act.put, List.setIfInBounds_toArray, List.set_cons_zero, List.set_cons_succ, List.getElem_toArray, List.getElem_cons_zero]
      refine' wpAnyH_take (i := 1) (v := _) rfl (by kernel_rfl) (by kernel_rfl) (by kernel_rfl) (fun _ _ _ h => h) (Or.inl ⟨by rfl, ?hy1⟩) ⟨g6, g8⟩ ?rest1
      case hy1 => (intro w' hSw; (try dsimp only at hSw); go_simp; (try with_reducible rfl))
      try simp only [Act.put, List.setIfInBounds_toArray, List.set_cons_zero, List.set_cons_succ, List.getElem_toArray, List.getElem_cons_succ, List.getElem_cons_zero]
      refine' wpAnyH_take (i := 2) (v := _) rfl (by kernel_rfl) (by kernel_rfl) (by kernel_rfl) (fun _ _ _ h => h) (Or.inl ⟨by rfl, ?hy2⟩) ⟨g6, g8⟩ ?rest2
      case hy2 => (intro w' hSw; (try dsimp only at hSw); go_simp; (try with_reducible rfl))
      try simp only [Act.put, List.setIfInBounds_toArray, List.set_cons_zero, List.set_cons_succ, List.getElem_toArray, List.getElem_cons_succ, List.getElem_cons_zero]
      refine' wpAnyH_take (i := 4) (v := _) rfl (by kernel_rfl) (by kernel_rfl) (by kernel_rfl) (fun _ _ _ h => h) (Or.inl ⟨by rfl, ?hy4⟩) ⟨g6, g8⟩ ?rest4
      case hy4 => (intro w' hSw; (try dsimp only at hSw); go_simp; (try with_reducible rfl))
      try simp only [Act.put, List.setIfInBounds_toArray, List.set_cons_zero, List.set_cons_succ, List.getElem_toArray, List.getElem_cons_succ, List.getElem_cons_zero]
      refine wpAnyH_ready (rs := [3]) (by kernel_rfl) (by simp) ?_
      refine AllReadyH.cons rfl (fun K hK => ?_) AllReadyH.nil
      go_simp
      (go_at_call 19; refine (not_any _ r.1 _ (by exact Vr.out.1.ext (by repeat (first | exact Ext.refl _ | assumption | apply Ext.alloc | apply Ext.drew)))).mono ?_; rintro e wa ⟨ua, rfl, hma⟩; have MA := Lib.hid hma; have hxa : Ext w1 wa := Ext.trans (by repeat (first | exact Ext.refl _ | assumption | apply Ext.alloc | apply Ext.drew)) hma.2.2; have g6a := (hxa.cell (p := ⟨b, 2, none⟩) GB).trans g6; have g8a := (hxa.cell (p := ad.add i) (by rw [block_of_add]; exact g3)).trans g8; clear hma)
      go_wp2_with fail
      refine hK.out _ _ ⟨g6a, g8a⟩ (fun hHeld => ?_)
      clear hK K hHeld
      try simp only [Act.put, List.setIfInBounds_toArray, List.set_cons_zero, List.set_cons_succ, List.getElem_toArray, List.getElem_cons_succ, List.getElem_cons_zero]
      refine wpAnyH_ready (rs := [5]) (by kernel_rfl) (by simp) ?_
      refine AllReadyH.cons rfl (fun K hK => ?_) AllReadyH.nil
      go_simp
      (go_at_call 45; refine (equal_any _ _ (notN r.1) r.2 _ (by exact (MA.out.fml.ext (by repeat (first | exact Ext.refl _ | assumption | apply Ext.alloc | apply Ext.drew))).1) (by exact (Vr.out.2.ext (by repeat (first | exact Ext.refl _ | assumption | apply Ext.alloc | apply Ext.drew))).1)).mono ?_; rintro e wb ⟨rfl, hxb0⟩; rw [D3.out]; have hxb : Ext w1 wb := Ext.trans (by repeat (first | exact Ext.refl _ | assumption | apply Ext.alloc | apply Ext.drew)) hxb0; have g6b := (hxb.cell (p := ⟨b, 2, none⟩) GB).trans g6; have g8b := (hxb.cell (p := ad.add i) (by rw [block_of_add]; exact g3)).trans g8; clear hxb0)
      go_wp2_with fail
      refine hK.out _ _ ⟨g6b, g8b⟩ (fun hHeld => ?_)
      clear hK K hHeld
      try simp only [Act.put, List.setIfInBounds_toArray, List.set_cons_zero, List.set_cons_succ, List.getElem_toArray, List.getElem_cons_succ, List.getElem_cons_zero]
      refine' wpAnyH_take (i := 6) (v := _) rfl (by kernel_rfl) (by kernel_rfl) (by kernel_rfl) (fun _ _ _ h => h) (Or.inl ⟨by rfl, ?hy6⟩) ⟨g6b, g8b⟩ ?rest6
      case hy6 => (intro w' hSw; (try dsimp only at hSw); go_simp; (try with_reducible rfl))
      try simp only [Act.put, List.setIfInBounds_toArray, List.set_cons_zero, List.set_cons_succ, List.getElem_toArray, List.getElem_cons_succ, List.getElem_cons_zero]
      refine' wpAnyH_take (i := 7) (v := _) rfl (by kernel_rfl) (by kernel_rfl) (by kernel_rfl) (fun _ _ _ h => h) (Or.inl ⟨by rfl, ?hy7⟩) ⟨g6b, g8b⟩ ?rest7
      case hy7 => (intro w' hSw; (try dsimp only at hSw); go_simp; (try with_reducible rfl))
      try simp only [Act.put, List.setIfInBounds_toArray, List.set_cons_zero, List.set_cons_succ, List.getElem_toArray, List.getElem_cons_succ, List.getElem_cons_zero]
      refine wpAnyH_take (i := 8) (v := undef) rfl (by kernel_rfl) (by kernel_rfl) (by kernel_rfl) (fun _ _ _ h => h) (Or.inr ⟨by rfl, rfl⟩) ⟨g6b, g8b⟩ ?_
      try simp only [Act.put, List.setIfInBounds_toArray, List.set_cons_zero, List.set_cons_succ, List.getElem_toArray, List.getElem_cons_succ, List.getElem_cons_zero]
      refine wpAnyH_take (i := 9) (v := undef) rfl (by kernel_rfl) (by kernel_rfl) (by kernel_rfl) (fun _ _ _ h => h) (Or.inr ⟨by rfl, rfl⟩) ⟨g6b, g8b⟩ ?_
      try simp only [Act.put, List.setIfInBounds_toArray, List.set_cons_zero, List.set_cons_succ, List.getElem_toArray, List.getElem_cons_succ, List.getElem_cons_zero]
      refine wpAnyH_take (i := 10) (v := undef) rfl (by kernel_rfl) (by kernel_rfl) (by kernel_rfl) (fun _ _ _ h => h) (Or.inr ⟨by rfl, rfl⟩) ⟨g6b, g8b⟩ ?_
      try simp only [Act.put, List.setIfInBounds_toArray, List.set_cons_zero, List.set_cons_succ, List.getElem_toArray, List.getElem_cons_succ, List.getElem_cons_zero]
      refine wpAnyH_take (i := 11) (v := undef) rfl (by kernel_rfl) (by kernel_rfl) (by kernel_rfl) (fun _ _ _ h => h) (Or.inr ⟨by rfl, rfl⟩) ⟨g6b, g8b⟩ ?_
      try simp only [Act.put, List.setIfInBounds_toArray, List.set_cons_zero, List.set_cons_succ, List.getElem_toArray, List.getElem_cons_succ, List.getElem_cons_zero]
      refine wpAnyH_take (i := 12) (v := undef) rfl (by kernel_rfl) (by kernel_rfl) (by kernel_rfl) (fun _ _ _ h => h) (Or.inr ⟨by rfl, rfl⟩) ⟨g6b, g8b⟩ ?_
      try simp only [Act.put, List.setIfInBounds_toArray, List.set_cons_zero, List.set_cons_succ, List.getElem_toArray, List.getElem_cons_succ, List.getElem_cons_zero]
      refine wpAnyH_take (i := 13) (v := undef) rfl (by kernel_rfl) (by kernel_rfl) (by kernel_rfl) (fun _ _ _ h => h) (Or.inr ⟨by rfl, rfl⟩) ⟨g6b, g8b⟩ ?_
      try simp only [Act.put, List.setIfInBounds_toArray, List.set_cons_zero, List.set_cons_succ, List.getElem_toArray, List.getElem_cons_succ, List.getElem_cons_zero]
      refine wpAnyH_take (i := 14) (v := undef) rfl (by kernel_rfl) (by kernel_rfl) (by kernel_rfl) (fun _ _ _ h => h) (Or.inr ⟨by rfl, rfl⟩) ⟨g6b, g8b⟩ ?_
      try simp only [Act.put, List.setIfInBounds_toArray, List.set_cons_zero, List.set_cons_succ, List.getElem_toArray, List.getElem_cons_succ, List.getElem_cons_zero]
      refine wpAnyH_take (i := 15) (v := undef) rfl (by kernel_rfl) (by kernel_rfl) (by kernel_rfl) (fun _ _ _ h => h) (Or.inr ⟨by rfl, rfl⟩) ⟨g6b, g8b⟩ ?_
      try simp only [Act.put, List.setIfInBounds_toArray, List.set_cons_zero, List.set_cons_succ, List.getElem_toArray, List.getElem_cons_succ, List.getElem_cons_zero]
      refine wpAnyH_take (i := 16) (v := undef) rfl (by kernel_rfl) (by kernel_rfl) (by kernel_rfl) (fun _ _ _ h => h) (Or.inr ⟨by rfl, rfl⟩) ⟨g6b, g8b⟩ ?_
      try simp only [Act.put, List.setIfInBounds_toArray, List.set_cons_zero, List.set_cons_succ, List.getElem_toArray, List.getElem_cons_succ, List.getElem_cons_zero]
      refine' wpAnyH_take (i := 17) (v := _) rfl (by kernel_rfl) (by kernel_rfl) (by kernel_rfl) (fun _ _ _ h => h) (Or.inl ⟨by rfl, ?hy17⟩) ⟨g6b, g8b⟩ ?rest17
      case hy17 => (intro w' hSw; (try dsimp only at hSw); go_simp; (try with_reducible rfl))
      try simp only [Act.put, List.setIfInBounds_toArray, List.set_cons_zero, List.set_cons_succ, List.getElem_toArray, List.getElem_cons_succ, List.getElem_cons_zero]
      refine' wpAnyH_take (i := 18) (v := _) rfl (by kernel_rfl) (by kernel_rfl) (by kernel_rfl) (fun _ _ _ h => h) (Or.inl ⟨by rfl, ?hy18⟩) ⟨g6b, g8b⟩ ?rest18
      case hy18 => (intro w' hSw; (try dsimp only at hSw); go_simp; (try with_reducible rfl))
      try simp only [Act.put, List.setIfInBounds_toArray, List.set_cons_zero, List.set_cons_succ, List.getElem_toArray, List.getElem_cons_succ, List.getElem_cons_zero]
      refine wpAnyH_done (by kernel_rfl) ?_ _
      go_wp2_with fail
      go_ret
      exact ⟨same_of (by simp only [notOutL, D2.out, D3.out] <;> rfl), HX1.out.trans hxb⟩
    case true =>
      have D3 := Lib.hid hd
      clear hd
      go_wp2_with fail
      go_region_held3 (fun w' => w'.cell? ⟨b, 2, none⟩ = some (.slice (some ad) fs.length c) ∧ w'.cell? (ad.add i) = some (.slice Ai fi.length ci)) (first | exact ⟨g6, g8⟩ | exact ⟨g6a, g8a⟩ | exact ⟨g6b, g8b⟩ | exact ⟨g6c, g8c⟩ | exact ⟨g6d, g8d⟩ | go_keep) (first | (go_at_call 19; refine (not_any _ r.1 _ (by exact Vr.out.1.ext (by repeat (first | exact Ext.refl _ | assumption | apply Ext.alloc | apply Ext.drew)))).mono ?_; rintro e wa ⟨ua, rfl, hma⟩; have MA := Lib.hid hma; have hxa : Ext w1 wa := Ext.trans (by repeat (first | exact Ext.refl _ | assumption | apply Ext.alloc | apply Ext.drew)) hma.2.2; have g6a := (hxa.cell (p := ⟨b, 2, none⟩) GB).trans g6; have g8a := (hxa.cell (p := ad.add i) (by rw [block_of_add]; exact g3)).trans g8; clear hma) | (go_at_call 45; refine (equal_any _ _ (notN r.1) r.2 _ (by exact (MA.out.fml.ext (by repeat (first | exact Ext.refl _ | assumption | apply Ext.alloc | apply Ext.drew))).1) (by exact (Vr.out.2.ext (by repeat (first | exact Ext.refl _ | assumption | apply Ext.alloc | apply Ext.drew))).1)).mono ?_; rintro e wb ⟨rfl, hxb0⟩; rw [D3.out]; have hxb : Ext w1 wb := Ext.trans (by repeat (first | exact Ext.refl _ | assumption | apply Ext.alloc | apply Ext.drew)) hxb0; have g6b := (hxb.cell (p := ⟨b, 2, none⟩) GB).trans g6; have g8b := (hxb.cell (p := ad.add i) (by rw [block_of_add]; exact g3)).trans g8; clear hxb0) | (go_at_call 123; refine (false_any _).mono ?_; rintro e wc ⟨uc, rfl, hmc⟩; have MC := Lib.hid hmc; have hxc : Ext w1 wc := Ext.trans (by repeat (first | exact Ext.refl _ | assumption | apply Ext.alloc | apply Ext.drew)) hmc.2.2; have g6c := (hxc.cell (p := ⟨b, 2, none⟩) GB).trans g6; have g8c := (hxc.cell (p := ad.add i) (by rw [block_of_add]; exact g3)).trans g8; clear hmc) | (go_at_call 45; refine (equal_any _ _ fi falseN _ (by exact (GF.out.ext (by repeat (first | exact Ext.refl _ | assumption | apply Ext.alloc | apply Ext.drew))).1) (by exact (MC.out.fml.ext (by repeat (first | exact Ext.refl _ | assumption | apply Ext.alloc | apply Ext.drew))).1)).mono ?_; rintro e wd ⟨rfl, hxd0⟩; have hxd : Ext w1 wd := Ext.trans (by repeat (first | exact Ext.refl _ | assumption | apply Ext.alloc | apply Ext.drew)) hxd0; have g6d := (hxd.cell (p := ⟨b, 2, none⟩) GB).trans g6; have g8d := (hxd.cell (p := ad.add i) (by rw [block_of_add]; exact g3)).trans g8; clear hxd0))
      all_goals
        go_wp2_with fail
        go_ret
        exact ⟨same_of (by simp only [notOutL, D2.out, D3.out] <;> rfl), HX1.out.trans hxd⟩
end Go.Proofs.YtipnbfbakohcaaaDoor
