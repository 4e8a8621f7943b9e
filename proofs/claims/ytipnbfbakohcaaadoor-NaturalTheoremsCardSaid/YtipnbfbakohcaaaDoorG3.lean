/- natural's refutes. -/
import Derived.Test.YtipnbfbakohcaaaDoorL2
import Derived.Deep.RegionHeld3

namespace Go.Proofs.YtipnbfbakohcaaaDoor
open Go.RowKit

set_option maxRecDepth 100000 in
set_option maxHeartbeats 4000000 in
theorem refutes_any {w : World} {b : Nat} {lg : Int} {ls : List Ln} {fs : List (List Nd)} {st : List (List Int)} {i : Nat} {n : Ln} {fi : List Nd} (h : Chk w b lg ls fs st) (ok : CkOk ls fs st i n fi) :
    Calls Tryd.prog 122 #[.pointer (some ⟨b, 0, none⟩), .int .i64 i] w fun e w' => ∃ u, e = .returned (.tuple #[u, .bool (refutesL ls fs st i n).isSome]) ∧ Ext w w' ∧ ∀ r, refutesL ls fs st i n = some r → Fml w' u r := by
  have H := Lib.hid h
  have OK := Lib.hid ok
  have HX0 := Lib.hid (Ext.refl w)
  clear h ok
  go_enter Tryd.func122, Tryd.ntmps122
  go_wp2_with fail
  refine (named_any (H.out.ext HX0.out) i n 1 OK.out.n_at).mono ?_
  rintro e w1 ⟨rfl, hx⟩
  have HX1 := Lib.hid (HX0.out.trans hx)
  have HS1 := Lib.hid hx
  clear hx
  cases hd : decide (n.from_.length = 1)
  case false =>
    have D1 := Lib.hid hd
    clear hd
    have OD1 : Hid (asmL ls fs st i n = none) := Lib.hid (asmL_no D1.out)
    have HN : Hid (refutesL ls fs st i n = none) := Lib.hid (by simp only [refutesL, OD1.out] <;> rfl)
    go_wp2_with fail
    go_ret2
    exact ⟨.slice none 0 0, by rw [HN.out]; rfl, HX1.out, fun r hr => by rw [HN.out] at hr; cases hr⟩
  case true =>
    have D1 := Lib.hid hd
    clear hd
    have D1p := Lib.hid (asmL_yes (ls := ls) (fs := fs) (st := st) (i := i) D1.out)
    go_wp2_with fail
    refine (assumed_any (H.out.ext HX1.out) OK.out 0 (fromAt n 0) D1p.out.1).mono ?_
    rintro e w2 ⟨ua0, ua1, rfl, hx, hf⟩
    have HX2 := Lib.hid (HX1.out.trans hx)
    have HS2 := Lib.hid hx
    clear hx
    have HF2 := Lib.hid hf
    clear hf
    cases hd : assumedL ls fs st i (fromAt n 0) with
    | none =>
      have D3 := Lib.hid hd
      clear hd
      have OD3 : Hid (asmL ls fs st i n = none) := Lib.hid (D1p.out.2.trans D3.out)
      have HN : Hid (refutesL ls fs st i n = none) := Lib.hid (by simp only [refutesL, OD3.out] <;> rfl)
      go_wp2_with fail
      go_ret2
      exact ⟨ua0, by rw [HN.out]; rfl, HX2.out, fun r hr => by rw [HN.out] at hr; cases hr⟩
    | some a =>
      have D3 := Lib.hid hd
      have Va := Lib.hid (HF2.out _ hd)
      clear hd
      have OD3 : Hid (asmL ls fs st i n = some a) := Lib.hid (D1p.out.2.trans D3.out)
      go_wp2_with fail
      refine (false_any _).mono ?_
      rintro e w3 ⟨um, rfl, hm⟩
      have Mm := Lib.hid hm
      have HX3 := Lib.hid (HX2.out.trans hm.2.2)
      have HS3 := Lib.hid hm.2.2
      clear hm
      go_wp2_with fail
      refine (equal_any ua1 _ a.2 falseN _ (Va.out.2.ext (Ext.trans (Ext.refl _) HS3.out)).1 (Mm.out.fml.ext (Ext.refl _)).1).mono ?_
      rintro e w4 ⟨rfl, hx⟩
      have HX4 := Lib.hid (HX3.out.trans hx)
      have HS4 := Lib.hid hx
      clear hx
      cases hd : eqN a.2 falseN
      case false =>
        have D4 := Lib.hid hd
        clear hd
        have HN : Hid (refutesL ls fs st i n = none) := Lib.hid (by simp only [refutesL, OD3.out, D4.out] <;> rfl)
        go_wp2_with fail
        go_ret2
        exact ⟨ua0, by rw [HN.out]; rfl, HX4.out, fun r hr => by rw [HN.out] at hr; cases hr⟩
      case true =>
        have D4 := Lib.hid hd
        clear hd
        have HN : Hid (refutesL ls fs st i n = some a.1) := Lib.hid (by simp only [refutesL, OD3.out, D4.out] <;> rfl)
        go_wp2_with fail
        go_ret2
        exact ⟨ua0, by rw [HN.out]; rfl, HX4.out, fun r hr => by rw [HN.out] at hr; injection hr with hr; subst hr; exact Va.out.1.ext (Ext.trans (Ext.trans (Ext.refl _) HS3.out) HS4.out)⟩
end Go.Proofs.YtipnbfbakohcaaaDoor

/- The rules: orOut. -/

namespace Go.Proofs.YtipnbfbakohcaaaDoor
open Go.RowKit

set_option maxRecDepth 100000 in
set_option maxHeartbeats 4000000 in
theorem orOut_any {w : World} {b : Nat} {lg : Int} {ls : List Ln} {fs : List (List Nd)} {st : List (List Int)} {i : Nat} {n : Ln} {fi : List Nd} (h : Chk w b lg ls fs st) (ok : CkOk ls fs st i n fi) :
    Calls Tryd.prog 101 #[.pointer (some ⟨b, 0, none⟩), .int .i64 i] w fun e w' => e = .returned (.bool (orOutL lg ls fs st i n fi)) ∧ Ext w w' := by
  have H := Lib.hid h
  have OK := Lib.hid ok
  have HX0 := Lib.hid (Ext.refl w)
  clear h ok
  go_enter Tryd.func101, Tryd.ntmps101
  go_wp2_with fail
  refine (named_any (H.out.ext HX0.out) i n 3 OK.out.n_at).mono ?_
  rintro e w1 ⟨rfl, hx⟩
  have HX1 := Lib.hid (HX0.out.trans hx)
  have HS1 := Lib.hid hx
  clear hx
  cases hd : decide (n.from_.length = 3)
  case false =>
    have D1 := Lib.hid hd
    clear hd
    go_wp2_with fail
    go_ret
    exact ⟨same_of (by simp only [orOutL, D1.out] <;> rfl), HX1.out⟩
  case true =>
    have D1 := Lib.hid hd
    clear hd
    have HK0 := Lib.hid (from_at (k := 0) D1.out (by decide))
    have HK1 := Lib.hid (from_at (k := 1) D1.out (by decide))
    have HK2 := Lib.hid (from_at (k := 2) D1.out (by decide))
    go_wp2_with fail
    refine (line_any (H.out.ext HX1.out) OK.out.st_ok i 0 n _ OK.out.n_at HK0.out OK.out.st_lt OK.out.fs_le).mono ?_
    rintro e w2 ⟨ux0, rfl, hx, hf⟩
    have HX2 := Lib.hid (HX1.out.trans hx)
    have HS2 := Lib.hid hx
    clear hx
    have HF2 := Lib.hid hf
    clear hf
    cases hd : lineL ls fs st i (fromAt n 0) with
    | none =>
      have D3 := Lib.hid hd
      clear hd
      go_wp2_with fail
      go_ret
      exact ⟨same_of (by simp only [orOutL, D1.out, D3.out] <;> rfl), HX2.out⟩
    | some x =>
      have D3 := Lib.hid hd
      have Vx := Lib.hid (HF2.out _ hd)
      clear hd
      go_wp2_with fail
      refine (part_any ux0 x 6 _ (Vx.out.ext (Ext.refl _)) (OK.out.fs_ok _ (lineL_mem D3.out OK.out.fs_le)).1).mono ?_
      rintro e w3 ⟨ur0, ur1, rfl, hx, hfr⟩
      have HX3 := Lib.hid (HX2.out.trans hx)
      have HS3 := Lib.hid hx
      have HFR := Lib.hid hfr
      clear hx hfr
      go_wp2_with fail
      refine (assumed_any (H.out.ext HX3.out) OK.out 1 (fromAt n 1) HK1.out).mono ?_
      rintro e w4 ⟨ua0, ua1, rfl, hx, hfa⟩
      have HX4 := Lib.hid (HX3.out.trans hx)
      have HS4 := Lib.hid hx
      have HFA := Lib.hid hfa
      clear hx hfa
      go_wp2_with fail
      refine (assumed_any (H.out.ext HX4.out) OK.out 2 (fromAt n 2) HK2.out).mono ?_
      rintro e w5 ⟨ub0, ub1, rfl, hx, hfb⟩
      have HX5 := Lib.hid (HX4.out.trans hx)
      have HS5 := Lib.hid hx
      have HFB := Lib.hid hfb
      clear hx hfb
      cases hd : partL x 6 with
      | none =>
        have D4 := Lib.hid hd
        clear hd
        go_wp2_with fail
        go_ret
        exact ⟨same_of (by simp only [orOutL, D1.out, D3.out, D4.out] <;> rfl), HX5.out⟩
      | some r =>
        have D4 := Lib.hid hd
        have Vr := Lib.hid (HFR.out _ hd)
        clear hd
        cases hd : assumedL ls fs st i (fromAt n 1) with
        | none =>
          have D5 := Lib.hid hd
          clear hd
          go_wp2_with fail
          go_ret
          exact ⟨same_of (by simp only [orOutL, D1.out, D3.out, D4.out, D5.out] <;> rfl), HX5.out⟩
        | some a =>
          have D5 := Lib.hid hd
          have Va := Lib.hid (HFA.out _ hd)
          clear hd
          cases hd : assumedL ls fs st i (fromAt n 2) with
          | none =>
            have D6 := Lib.hid hd
            clear hd
            go_wp2_with fail
            go_ret
            exact ⟨same_of (by simp only [orOutL, D1.out, D3.out, D4.out, D5.out, D6.out] <;> rfl), HX5.out⟩
          | some bb =>
            have D6 := Lib.hid hd
            have Vbb := Lib.hid (HFB.out _ hd)
            clear hd
            go_wp2_with fail
            refine (equal_any ua0 ur0 a.1 r.1 _ (Va.out.1.ext (Ext.trans (Ext.refl _) HS5.out)).1 (Vr.out.1.ext (Ext.trans (Ext.trans (Ext.refl _) HS4.out) HS5.out)).1).mono ?_
            rintro e w6 ⟨rfl, hx⟩
            have HX6 := Lib.hid (HX5.out.trans hx)
            have HS6 := Lib.hid hx
            clear hx
            cases hd : eqN a.1 r.1
            case false =>
              have D7 := Lib.hid hd
              clear hd
              go_wp2_with fail
              go_ret
              exact ⟨same_of (by simp only [orOutL, D1.out, D3.out, D4.out, D5.out, D6.out, D7.out] <;> rfl), HX6.out⟩
            case true =>
              have D7 := Lib.hid hd
              clear hd
              go_wp2_with fail
              refine (equal_any ub0 ur1 bb.1 r.2 _ (Vbb.out.1.ext (Ext.trans (Ext.refl _) HS6.out)).1 (Vr.out.2.ext (Ext.trans (Ext.trans (Ext.trans (Ext.refl _) HS4.out) HS5.out) HS6.out)).1).mono ?_
              rintro e w7 ⟨rfl, hx⟩
              have HX7 := Lib.hid (HX6.out.trans hx)
              have HS7 := Lib.hid hx
              clear hx
              cases hd : eqN bb.1 r.2
              case false =>
                have D8 := Lib.hid hd
                clear hd
                go_wp2_with fail
                go_ret
                exact ⟨same_of (by simp only [orOutL, D1.out, D3.out, D4.out, D5.out, D6.out, D7.out, D8.out] <;> rfl), HX7.out⟩
              case true =>
                have D8 := Lib.hid hd
                clear hd
                obtain ⟨ad, c, vl, vs, Ai, ci, g1, g2, g3, g4, g5, g6, g7, g8, g9⟩ := (H.out.ext HX7.out).form OK.out.f_at
                have GB := (H.out.ext HX7.out).blt
                have GI : i < fs.length := (List.getElem?_eq_some_iff.1 OK.out.f_at).1
                have GF := Lib.hid g9
                clear g4 g5 g7 g9
                go_wp2_with fail
                refine (equal_any ua1 _ a.2 fi _ (Va.out.2.ext (Ext.trans (Ext.trans (Ext.trans (Ext.refl _) HS5.out) HS6.out) HS7.out)).1 ((GF.out.ext (Ext.refl _))).1).mono ?_
                rintro e w8 ⟨rfl, hx⟩
                have HX8 := Lib.hid (HX7.out.trans hx)
                have HS8 := Lib.hid hx
                clear hx
                cases hd : eqN a.2 fi
                case false =>
                  have D9 := Lib.hid hd
                  clear hd
                  go_wp2_with fail
                  go_ret
                  exact ⟨same_of (by simp only [orOutL, D1.out, D3.out, D4.out, D5.out, D6.out, D7.out, D8.out, D9.out] <;> rfl), HX8.out⟩
                case true =>
                  have D9 := Lib.hid hd
                  clear hd
                  clear g1 g2 g3 g6 g8 GB GF GI
                  obtain ⟨ad, c, vl, vs, Ai, ci, g1, g2, g3, g4, g5, g6, g7, g8, g9⟩ := (H.out.ext HX8.out).form OK.out.f_at
                  have GB := (H.out.ext HX8.out).blt
                  have GI : i < fs.length := (List.getElem?_eq_some_iff.1 OK.out.f_at).1
                  have GF := Lib.hid g9
                  clear g4 g5 g7 g9
                  go_wp2_with fail
                  refine (equal_any ub1 _ bb.2 fi _ (Vbb.out.2.ext (Ext.trans (Ext.trans (Ext.trans (Ext.refl _) HS6.out) HS7.out) HS8.out)).1 ((GF.out.ext (Ext.refl _))).1).mono ?_
                  rintro e w9 ⟨rfl, hx⟩
                  have HX9 := Lib.hid (HX8.out.trans hx)
                  have HS9 := Lib.hid hx
                  clear hx
                  go_wp2_with fail
                  go_ret
                  exact ⟨same_of (by simp only [orOutL, D1.out, D3.out, D4.out, D5.out, D6.out, D7.out, D8.out, D9.out] <;> rfl), HX9.out⟩
end Go.Proofs.YtipnbfbakohcaaaDoor

/- The rules: knowIn. -/

namespace Go.Proofs.YtipnbfbakohcaaaDoor
open Go.RowKit

set_option maxRecDepth 100000 in
set_option maxHeartbeats 4000000 in
theorem knowIn_any {w : World} {b : Nat} {lg : Int} {ls : List Ln} {fs : List (List Nd)} {st : List (List Int)} {i : Nat} {n : Ln} {fi : List Nd} (h : Chk w b lg ls fs st) (ok : CkOk ls fs st i n fi) :
    Calls Tryd.prog 110 #[.pointer (some ⟨b, 0, none⟩), .int .i64 i] w fun e w' => e = .returned (.bool (knowInL lg ls fs st i n fi)) ∧ Ext w w' := by
  have H := Lib.hid h
  have OK := Lib.hid ok
  have HX0 := Lib.hid (Ext.refl w)
  clear h ok
  go_enter Tryd.func110, Tryd.ntmps110
  go_wp2_with fail
  refine (named_any (H.out.ext HX0.out) i n 1 OK.out.n_at).mono ?_
  rintro e w1 ⟨rfl, hx⟩
  have HX1 := Lib.hid (HX0.out.trans hx)
  have HS1 := Lib.hid hx
  clear hx
  cases hd : decide (n.from_.length = 1)
  case false =>
    have D1 := Lib.hid hd
    clear hd
    go_wp2_with fail
    go_ret
    exact ⟨same_of (by simp only [knowInL, D1.out] <;> rfl), HX1.out⟩
  case true =>
    have D1 := Lib.hid hd
    clear hd
    have HK0 := Lib.hid (from_at (k := 0) D1.out (by decide))
    go_wp2_with fail
    refine (subproof_any (H.out.ext HX1.out) OK.out 0 (fromAt n 0) HK0.out).mono ?_
    rintro e w2 ⟨z, u, rfl, hx, hf⟩
    have HX2 := Lib.hid (HX1.out.trans hx)
    have HS2 := Lib.hid hx
    have HF := Lib.hid hf
    clear hx hf
    cases hd : subprL ls fs st i (fromAt n 0) with
    | none =>
      have D2 := Lib.hid hd
      clear hd
      go_wp2_with fail
      go_quiet (fail)
      go_wp2_with fail
      go_ret
      exact ⟨same_of (by simp only [knowInL, D1.out, D2.out] <;> rfl), HX2.out.drewN _⟩
    | some r =>
      have D2 := Lib.hid hd
      have Vr := Lib.hid (HF.out _ hd)
      clear hd
      obtain ⟨hz, hfm⟩ := Vr.out
      obtain ⟨h1, h2, h3⟩ := subprL_range D2.out
      have hzj := hz.trans h1
      have HR1 := Lib.hid (show lineAt ls r.1 = lineAt ls z by rw [hz])
      obtain ⟨zn, hzn⟩ := Int.eq_ofNat_of_zero_le h2
      rw [hzn] at hzj h3
      subst hzj
      have hzi : zn < i := by omega
      have hil : i < ls.length := (List.getElem?_eq_some_iff.1 OK.out.n_at).1
      have hfl := OK.out.fs_le
      have hm := lineAt_of (ls := ls) (o := (zn : Int)) (by omega) (by omega)
      rw [Int.toNat_natCast] at hm
      have HFM := Lib.hid hfm
      have hag := OK.out.ag zn _ (by omega) hm
      have hr0 : (0 : Int) ≤ (zn : Int) := by omega
      have hr1 : (zn : Int) < (ls.length : Int) := by omega
      obtain ⟨adl, cl, vf, vs', uf, ur, q1, q2, q3, q4, q5, q6, q7, d0, d1, d2, d3, d4, _, _⟩ := (H.out.ext HX2.out).line hm
      clear hz hfm h1 h2 h3 hzn q4 q6 q7 hm
      obtain ⟨m, hmm⟩ : ∃ m, lineAt ls (zn : Int) = m := ⟨_, rfl⟩
      rw [hmm] at d1 d3 hag HR1
      have HAG := Lib.hid hag
      clear hmm hag
      cases hd : (m.rule == 2)
      case false =>
        have D3 := Lib.hid hd
        have GB := (H.out.ext HX2.out).blt
        go_wp2_with fail
        go_quiet (fail)
        go_wp2_with fail
        go_ret
        exact ⟨same_of (by simp only [knowInL, D1.out, D2.out, HR1.out, D3.out] <;> rfl), HX2.out.drewN _⟩
      case true =>
        have D3 := Lib.hid hd
        obtain ⟨ad, c, vl, vs, Ai, ci, g1, g2, g3, g4, g5, g6, g7, g8, g9⟩ := (H.out.ext HX2.out).form OK.out.f_at
        have GB := (H.out.ext HX2.out).blt
        have GI : i < fs.length := (List.getElem?_eq_some_iff.1 OK.out.f_at).1
        have GF := Lib.hid g9
        clear g4 g5 g7 g9
        go_wp2_with fail
        go_region_held3 (fun w' => w'.cell? ⟨b, 2, none⟩ = some (.slice (some ad) fs.length c) ∧ w'.cell? (ad.add i) = some (.slice Ai fi.length ci) ∧ w'.cell? ⟨b, 1, none⟩ = some (.slice (some adl) ls.length cl) ∧ w'.cell? ⟨(adl.add (zn * 5)).block, (adl.add (zn * 5)).off + 3, none⟩ = some (.int .i64 m.agent) ∧ w'.cell? ⟨(adl.add (zn * 5)).block, (adl.add (zn * 5)).off + 1, none⟩ = some (.int .i64 m.rule)) (first | exact ⟨g6, g8, q5, d3, d1⟩ | exact ⟨g6a, g8a, q5a, d3a, d1a⟩ | exact ⟨g6d, g8d, q5d, d3d, d1d⟩ | go_keep) (first | (go_at_call 18; refine (know_any m.agent HAG.out _ r.2 _ (by exact HFM.out.ext (by repeat (first | exact Ext.refl _ | assumption | apply Ext.alloc | apply Ext.drew)))).mono ?_; rintro e wa ⟨ua, rfl, hma⟩; have MA := Lib.hid hma; have hxa : Ext w2 wa := Ext.trans (by repeat (first | exact Ext.refl _ | assumption | apply Ext.alloc | apply Ext.drew)) hma.2.2; have g6a := (hxa.cell (p := ⟨b, 2, none⟩) GB).trans g6; have g8a := (hxa.cell (p := (ad.add i)) (by rw [block_of_add]; exact g3)).trans g8; have q5a := (hxa.cell (p := ⟨b, 1, none⟩) GB).trans q5; have d3a := (hxa.cell (p := ⟨(adl.add (zn * 5)).block, (adl.add (zn * 5)).off + 3, none⟩) (by rw [block_of_add]; exact q3)).trans d3; have d1a := (hxa.cell (p := ⟨(adl.add (zn * 5)).block, (adl.add (zn * 5)).off + 1, none⟩) (by rw [block_of_add]; exact q3)).trans d1; clear hma) | (go_at_call 45; refine (equal_any _ _ (knowN m.agent r.2) fi _ (by exact (MA.out.fml.ext (by repeat (first | exact Ext.refl _ | assumption | apply Ext.alloc | apply Ext.drew))).1) (by exact (GF.out.ext (by repeat (first | exact Ext.refl _ | assumption | apply Ext.alloc | apply Ext.drew))).1)).mono ?_; rintro e wd ⟨rfl, hvd⟩; have hxd : Ext w2 wd := Ext.trans (by repeat (first | exact Ext.refl _ | assumption | apply Ext.alloc | apply Ext.drew)) hvd; have g6d := (hxd.cell (p := ⟨b, 2, none⟩) GB).trans g6; have g8d := (hxd.cell (p := (ad.add i)) (by rw [block_of_add]; exact g3)).trans g8; have q5d := (hxd.cell (p := ⟨b, 1, none⟩) GB).trans q5; have d3d := (hxd.cell (p := ⟨(adl.add (zn * 5)).block, (adl.add (zn * 5)).off + 3, none⟩) (by rw [block_of_add]; exact q3)).trans d3; have d1d := (hxd.cell (p := ⟨(adl.add (zn * 5)).block, (adl.add (zn * 5)).off + 1, none⟩) (by rw [block_of_add]; exact q3)).trans d1; clear hvd))
        all_goals
          go_wp2_with fail
          go_ret
          exact ⟨same_of (by simp only [knowInL, D1.out, D2.out, HR1.out, D3.out] <;> rfl), HX2.out.trans hxd⟩
end Go.Proofs.YtipnbfbakohcaaaDoor

/- The rules: impIn. -/

namespace Go.Proofs.YtipnbfbakohcaaaDoor
open Go.RowKit

set_option maxRecDepth 100000 in
set_option maxHeartbeats 4000000 in
theorem impIn_any {w : World} {b : Nat} {lg : Int} {ls : List Ln} {fs : List (List Nd)} {st : List (List Int)} {i : Nat} {n : Ln} {fi : List Nd} (h : Chk w b lg ls fs st) (ok : CkOk ls fs st i n fi) :
    Calls Tryd.prog 102 #[.pointer (some ⟨b, 0, none⟩), .int .i64 i] w fun e w' => e = .returned (.bool (impInL lg ls fs st i n fi)) ∧ Ext w w' := by
  have H := Lib.hid h
  have OK := Lib.hid ok
  have HX0 := Lib.hid (Ext.refl w)
  clear h ok
  go_enter Tryd.func102, Tryd.ntmps102
  go_wp2_with fail
  refine (named_any (H.out.ext HX0.out) i n 1 OK.out.n_at).mono ?_
  rintro e w1 ⟨rfl, hx⟩
  have HX1 := Lib.hid (HX0.out.trans hx)
  have HS1 := Lib.hid hx
  clear hx
  cases hd : decide (n.from_.length = 1)
  case false =>
    have D1 := Lib.hid hd
    clear hd
    have OD1 : Hid (asmL ls fs st i n = none) := Lib.hid (asmL_no D1.out)
    go_wp2_with fail
    go_ret
    exact ⟨same_of (by simp only [impInL, OD1.out] <;> rfl), HX1.out⟩
  case true =>
    have D1 := Lib.hid hd
    clear hd
    have D1p := Lib.hid (asmL_yes (ls := ls) (fs := fs) (st := st) (i := i) D1.out)
    go_wp2_with fail
    refine (assumed_any (H.out.ext HX1.out) OK.out 0 (fromAt n 0) D1p.out.1).mono ?_
    rintro e w2 ⟨ua0, ua1, rfl, hx, hf⟩
    have HX2 := Lib.hid (HX1.out.trans hx)
    have HS2 := Lib.hid hx
    clear hx
    have HF2 := Lib.hid hf
    clear hf
    cases hd : assumedL ls fs st i (fromAt n 0) with
    | none =>
      have D3 := Lib.hid hd
      clear hd
      have OD3 : Hid (asmL ls fs st i n = none) := Lib.hid (D1p.out.2.trans D3.out)
      go_wp2_with fail
      go_quiet (fail)
      go_wp2_with fail
      go_ret
      exact ⟨same_of (by simp only [impInL, OD3.out] <;> rfl), HX2.out.drewN _⟩
    | some a =>
      have D3 := Lib.hid hd
      have Va := Lib.hid (HF2.out _ hd)
      clear hd
      have OD3 : Hid (asmL ls fs st i n = some a) := Lib.hid (D1p.out.2.trans D3.out)
      obtain ⟨ad, c, vl, vs, Ai, ci, g1, g2, g3, g4, g5, g6, g7, g8, g9⟩ := (H.out.ext HX2.out).form OK.out.f_at
      have GB := (H.out.ext HX2.out).blt
      have GI : i < fs.length := (List.getElem?_eq_some_iff.1 OK.out.f_at).1
      have GF := Lib.hid g9
      clear g4 g5 g7 g9
      go_wp2_with fail
      go_region_with (first | (go_at_call 20; refine (imp_any _ _ a.1 a.2 _ (by exact Va.out.1.ext (by repeat (first | exact Ext.refl _ | assumption | apply Ext.alloc | apply Ext.drew))) (by exact Va.out.2.ext (by repeat (first | exact Ext.refl _ | assumption | apply Ext.alloc | apply Ext.drew)))).mono ?_; rintro e wa ⟨ua, rfl, hma⟩; have MA := Lib.hid hma; have hxa : Ext w2 wa := Ext.trans (by repeat (first | exact Ext.refl _ | assumption | apply Ext.alloc | apply Ext.drew)) hma.2.2; have g6a := (hxa.cell (p := ⟨b, 2, none⟩) GB).trans g6; have g8a := (hxa.cell (p := ad.add i) (by rw [block_of_add]; exact g3)).trans g8; clear hma) | (go_at_call 45; refine (equal_any _ _ (impN a.1 a.2) fi _ (by exact (MA.out.fml.ext (by repeat (first | exact Ext.refl _ | assumption | apply Ext.alloc | apply Ext.drew))).1) (by exact (GF.out.ext (by repeat (first | exact Ext.refl _ | assumption | apply Ext.alloc | apply Ext.drew))).1)).mono ?_; rintro e wb ⟨rfl, hxb⟩; have hyb : Ext w2 wb := Ext.trans (by repeat (first | exact Ext.refl _ | assumption | apply Ext.alloc | apply Ext.drew)) hxb))
      all_goals
        go_wp2_with fail
        go_ret
        exact ⟨same_of (by simp only [impInL, OD3.out] <;> rfl), HX2.out.trans hyb⟩
end Go.Proofs.YtipnbfbakohcaaaDoor

/- The rules: notIn, absurd. -/

namespace Go.Proofs.YtipnbfbakohcaaaDoor
open Go.RowKit

set_option maxRecDepth 100000 in
set_option maxHeartbeats 4000000 in
theorem notIn_any {w : World} {b : Nat} {lg : Int} {ls : List Ln} {fs : List (List Nd)} {st : List (List Int)} {i : Nat} {n : Ln} {fi : List Nd} (h : Chk w b lg ls fs st) (ok : CkOk ls fs st i n fi) :
    Calls Tryd.prog 104 #[.pointer (some ⟨b, 0, none⟩), .int .i64 i] w fun e w' => e = .returned (.bool (notInL lg ls fs st i n fi)) ∧ Ext w w' := by
  have H := Lib.hid h
  have OK := Lib.hid ok
  have HX0 := Lib.hid (Ext.refl w)
  clear h ok
  go_enter Tryd.func104, Tryd.ntmps104
  go_wp2_with fail
  refine (refutes_any (H.out.ext HX0.out) OK.out).mono ?_
  rintro e w1 ⟨ux0, rfl, hx, hf⟩
  have HX1 := Lib.hid (HX0.out.trans hx)
  have HS1 := Lib.hid hx
  clear hx
  have HF1 := Lib.hid hf
  clear hf
  cases hd : refutesL ls fs st i n with
  | none =>
    have D2 := Lib.hid hd
    clear hd
    go_wp2_with fail
    go_quiet (fail)
    go_wp2_with fail
    go_ret
    exact ⟨same_of (by simp only [notInL, D2.out] <;> rfl), HX1.out.drewN _⟩
  | some x =>
    have D2 := Lib.hid hd
    have Vx := Lib.hid (HF1.out _ hd)
    clear hd
    obtain ⟨ad, c, vl, vs, Ai, ci, g1, g2, g3, g4, g5, g6, g7, g8, g9⟩ := (H.out.ext HX1.out).form OK.out.f_at
    have GB := (H.out.ext HX1.out).blt
    have GI : i < fs.length := (List.getElem?_eq_some_iff.1 OK.out.f_at).1
    have GF := Lib.hid g9
    clear g4 g5 g7 g9
    go_wp2_with fail
    go_region_with (first | (go_at_call 19; refine (not_any _ x _ (by exact Vx.out.ext (by repeat (first | exact Ext.refl _ | assumption | apply Ext.alloc | apply Ext.drew)))).mono ?_; rintro e wa ⟨ua, rfl, hma⟩; have MA := Lib.hid hma; have hxa : Ext w1 wa := Ext.trans (by repeat (first | exact Ext.refl _ | assumption | apply Ext.alloc | apply Ext.drew)) hma.2.2; have g6a := (hxa.cell (p := ⟨b, 2, none⟩) GB).trans g6; have g8a := (hxa.cell (p := ad.add i) (by rw [block_of_add]; exact g3)).trans g8; clear hma) | (go_at_call 45; refine (equal_any _ _ (notN x) fi _ (by exact (MA.out.fml.ext (by repeat (first | exact Ext.refl _ | assumption | apply Ext.alloc | apply Ext.drew))).1) (by exact (GF.out.ext (by repeat (first | exact Ext.refl _ | assumption | apply Ext.alloc | apply Ext.drew))).1)).mono ?_; rintro e wb ⟨rfl, hxb⟩; have hyb : Ext w1 wb := Ext.trans (by repeat (first | exact Ext.refl _ | assumption | apply Ext.alloc | apply Ext.drew)) hxb))
    all_goals
      go_wp2_with fail
      go_ret
      exact ⟨same_of (by simp only [notInL, D2.out] <;> rfl), HX1.out.trans hyb⟩

set_option maxRecDepth 100000 in
set_option maxHeartbeats 4000000 in
theorem absurd_any {w : World} {b : Nat} {lg : Int} {ls : List Ln} {fs : List (List Nd)} {st : List (List Int)} {i : Nat} {n : Ln} {fi : List Nd} (h : Chk w b lg ls fs st) (ok : CkOk ls fs st i n fi) :
    Calls Tryd.prog 106 #[.pointer (some ⟨b, 0, none⟩), .int .i64 i] w fun e w' => e = .returned (.bool (absurdL lg ls fs st i n fi)) ∧ Ext w w' := by
  have H := Lib.hid h
  have OK := Lib.hid ok
  have HX0 := Lib.hid (Ext.refl w)
  clear h ok
  go_enter Tryd.func106, Tryd.ntmps106
  go_wp2_with fail
  refine (refutes_any (H.out.ext HX0.out) OK.out).mono ?_
  rintro e w1 ⟨ux0, rfl, hx, hf⟩
  have HX1 := Lib.hid (HX0.out.trans hx)
  have HS1 := Lib.hid hx
  clear hx
  have HF1 := Lib.hid hf
  clear hf
  cases hd : refutesL ls fs st i n with
  | none =>
    have D2 := Lib.hid hd
    clear hd
    go_wp2_with fail
    go_ret
    exact ⟨same_of (by simp only [absurdL, D2.out] <;> rfl), HX1.out⟩
  | some x =>
    have D2 := Lib.hid hd
    have Vx := Lib.hid (HF1.out _ hd)
    clear hd
    obtain ⟨ad, c, vl, vs, Ai, ci, g1, g2, g3, g4, g5, g6, g7, g8, g9⟩ := (H.out.ext HX1.out).form OK.out.f_at
    have GB := (H.out.ext HX1.out).blt
    have GI : i < fs.length := (List.getElem?_eq_some_iff.1 OK.out.f_at).1
    have GF := Lib.hid g9
    clear g4 g5 g7 g9
    go_wp2_with fail
    refine (not_any _ fi _ (GF.out.ext (Ext.refl _))).mono ?_
    rintro e w2 ⟨um, rfl, hm⟩
    have Mm := Lib.hid hm
    have HX2 := Lib.hid (HX1.out.trans hm.2.2)
    have HS2 := Lib.hid hm.2.2
    clear hm
    go_wp2_with fail
    refine (equal_any _ ux0 (notN fi) x _ (Mm.out.fml.ext (Ext.refl _)).1 (Vx.out.ext (Ext.trans (Ext.refl _) HS2.out)).1).mono ?_
    rintro e w3 ⟨rfl, hx⟩
    have HX3 := Lib.hid (HX2.out.trans hx)
    have HS3 := Lib.hid hx
    clear hx
    go_wp2_with fail
    go_ret
    exact ⟨same_of (by simp only [absurdL, D2.out] <;> rfl), HX3.out⟩
end Go.Proofs.YtipnbfbakohcaaaDoor
