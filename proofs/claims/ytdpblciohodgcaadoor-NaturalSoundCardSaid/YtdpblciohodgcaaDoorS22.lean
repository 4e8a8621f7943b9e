/- The rules: impIn. -/
import Derived.Test.YtdpblciohodgcaaDoorS19

namespace Go.Proofs.YtdpblciohodgcaaDoor
open Go.RowKit

set_option maxRecDepth 100000 in
set_option maxHeartbeats 4000000 in
theorem impIn_any {w : World} {b : Nat} {lg : Int} {ls : List Ln} {fs : List (List Nd)} {st : List (List Int)} {i : Nat} {n : Ln} {fi : List Nd} (h : Chk w b lg ls fs st) (ok : CkOk ls fs st i n fi) :
    Calls Tryd.prog 105 #[.pointer (some ⟨b, 0, none⟩), .int .i64 i] w fun e w' => e = .returned (.bool (impInL lg ls fs st i n fi)) ∧ Ext w w' := by
  have H := Lib.hid h
  have OK := Lib.hid ok
  have HX0 := Lib.hid (Ext.refl w)
  clear h ok
  go_enter Tryd.func105, Tryd.ntmps105
  go_wp2_with fail
  refine (named_any (H.out.ext HX0.out) i n 1 OK.out.n_at).mono ?_
  rintro e w1 ⟨rfl, hx⟩
  have HX1 := Lib.hid (HX0.out.trans hx)
  have HS1 := Lib.hid hx
  clear hx
  cases hd : decide (n.from_.length = 1)
  case false =>
    have D1 := Lib.hid hd
    clear hd
    have OD1 : Hid (asmL ls fs st i n = none) := Lib.hid (asmL_no D1.out)
    go_wp2_with fail
    go_ret
    exact ⟨same_of (by simp only [impInL, OD1.out] <;> rfl), HX1.out⟩
  case true =>
    have D1 := Lib.hid hd
    clear hd
    have D1p := Lib.hid (asmL_yes (ls := ls) (fs := fs) (st := st) (i := i) D1.out)
    go_wp2_with fail
    refine (assumed_any (H.out.ext HX1.out) OK.out 0 (fromAt n 0) D1p.out.1).mono ?_
    rintro e w2 ⟨ua0, ua1, rfl, hx, hf⟩
    have HX2 := Lib.hid (HX1.out.trans hx)
    have HS2 := Lib.hid hx
    clear hx
    have HF2 := Lib.hid hf
    clear hf
    cases hd : assumedL ls fs st i (fromAt n 0) with
    | none =>
      have D3 := Lib.hid hd
      clear hd
      have OD3 : Hid (asmL ls fs st i n = none) := Lib.hid (D1p.out.2.trans D3.out)
      go_wp2_with fail
      go_quiet (fail)
      go_wp2_with fail
      go_ret
      exact ⟨same_of (by simp only [impInL, OD3.out] <;> rfl), HX2.out.drewN _⟩
    | some a =>
      have D3 := Lib.hid hd
      have Va := Lib.hid (HF2.out _ hd)
      clear hd
      have OD3 : Hid (asmL ls fs st i n = some a) := Lib.hid (D1p.out.2.trans D3.out)
      obtain ⟨ad, c, vl, vs, Ai, ci, g1, g2, g3, g4, g5, g6, g7, g8, g9⟩ := (H.out.ext HX2.out).form OK.out.f_at
      have GB := (H.out.ext HX2.out).blt
      have GI : i < fs.length := (List.getElem?_eq_some_iff.1 OK.out.f_at).1
      have GF := Lib.hid g9
      clear g4 g5 g7 g9
      go_wp2_with fail
      go_region_with (first | (go_at_call 13; refine (imp_any _ _ a.1 a.2 _ (by exact Va.out.1.ext (by repeat (first | exact Ext.refl _ | assumption | apply Ext.alloc | apply Ext.drew))) (by exact Va.out.2.ext (by repeat (first | exact Ext.refl _ | assumption | apply Ext.alloc | apply Ext.drew)))).mono ?_; rintro e wa ⟨ua, rfl, hma⟩; have MA := Lib.hid hma; have hxa : Ext w2 wa := Ext.trans (by repeat (first | exact Ext.refl _ | assumption | apply Ext.alloc | apply Ext.drew)) hma.2.2; have g6a := (hxa.cell (p := ⟨b, 2, none⟩) GB).trans g6; have g8a := (hxa.cell (p := ad.add i) (by rw [block_of_add]; exact g3)).trans g8; clear hma) | (go_at_call 48; refine (equal_any _ _ (impN a.1 a.2) fi _ (by exact (MA.out.fml.ext (by repeat (first | exact Ext.refl _ | assumption | apply Ext.alloc | apply Ext.drew))).1) (by exact (GF.out.ext (by repeat (first | exact Ext.refl _ | assumption | apply Ext.alloc | apply Ext.drew))).1)).mono ?_; rintro e wb ⟨rfl, hxb⟩; have hyb : Ext w2 wb := Ext.trans (by repeat (first | exact Ext.refl _ | assumption | apply Ext.alloc | apply Ext.drew)) hxb))
      all_goals
        go_wp2_with fail
        go_ret
        exact ⟨same_of (by simp only [impInL, OD3.out] <;> rfl), HX2.out.trans hyb⟩
end Go.Proofs.YtdpblciohodgcaaDoor
