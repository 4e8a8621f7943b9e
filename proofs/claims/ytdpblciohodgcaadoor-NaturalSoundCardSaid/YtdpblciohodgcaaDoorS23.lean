/- natural's refutes. -/
import Derived.Test.YtdpblciohodgcaaDoorS19
import Derived.Test.YtdpblciohodgcaaDoorS09
import Derived.Deep.RegionHeld3

namespace Go.Proofs.YtdpblciohodgcaaDoor
open Go.RowKit

set_option maxRecDepth 100000 in
set_option maxHeartbeats 4000000 in
theorem refutes_any {w : World} {b : Nat} {lg : Int} {ls : List Ln} {fs : List (List Nd)} {st : List (List Int)} {i : Nat} {n : Ln} {fi : List Nd} (h : Chk w b lg ls fs st) (ok : CkOk ls fs st i n fi) :
    Calls Tryd.prog 125 #[.pointer (some ⟨b, 0, none⟩), .int .i64 i] w fun e w' => ∃ u, e = .returned (.tuple #[u, .bool (refutesL ls fs st i n).isSome]) ∧ Ext w w' ∧ ∀ r, refutesL ls fs st i n = some r → Fml w' u r := by
  have H := Lib.hid h
  have OK := Lib.hid ok
  have HX0 := Lib.hid (Ext.refl w)
  clear h ok
  go_enter Tryd.func125, Tryd.ntmps125
  go_wp2_with fail
  refine (named_any (H.out.ext HX0.out) i n 1 OK.out.n_at).mono ?_
  rintro e w1 ⟨rfl, hx⟩
  have HX1 := Lib.hid (HX0.out.trans hx)
  have HS1 := Lib.hid hx
  clear hx
  cases hd : decide (n.from_.length = 1)
  case false =>
    have D1 := Lib.hid hd
    clear hd
    have OD1 : Hid (asmL ls fs st i n = none) := Lib.hid (asmL_no D1.out)
    have HN : Hid (refutesL ls fs st i n = none) := Lib.hid (by simp only [refutesL, OD1.out] <;> rfl)
    go_wp2_with fail
    go_ret2
    exact ⟨.slice none 0 0, by rw [HN.out]; rfl, HX1.out, fun r hr => by rw [HN.out] at hr; cases hr⟩
  case true =>
    have D1 := Lib.hid hd
    clear hd
    have D1p := Lib.hid (asmL_yes (ls := ls) (fs := fs) (st := st) (i := i) D1.out)
    go_wp2_with fail
    refine (assumed_any (H.out.ext HX1.out) OK.out 0 (fromAt n 0) D1p.out.1).mono ?_
    rintro e w2 ⟨ua0, ua1, rfl, hx, hf⟩
    have HX2 := Lib.hid (HX1.out.trans hx)
    have HS2 := Lib.hid hx
    clear hx
    have HF2 := Lib.hid hf
    clear hf
    cases hd : assumedL ls fs st i (fromAt n 0) with
    | none =>
      have D3 := Lib.hid hd
      clear hd
      have OD3 : Hid (asmL ls fs st i n = none) := Lib.hid (D1p.out.2.trans D3.out)
      have HN : Hid (refutesL ls fs st i n = none) := Lib.hid (by simp only [refutesL, OD3.out] <;> rfl)
      go_wp2_with fail
      go_ret2
      exact ⟨ua0, by rw [HN.out]; rfl, HX2.out, fun r hr => by rw [HN.out] at hr; cases hr⟩
    | some a =>
      have D3 := Lib.hid hd
      have Va := Lib.hid (HF2.out _ hd)
      clear hd
      have OD3 : Hid (asmL ls fs st i n = some a) := Lib.hid (D1p.out.2.trans D3.out)
      go_wp2_with fail
      refine (false_any _).mono ?_
      rintro e w3 ⟨um, rfl, hm⟩
      have Mm := Lib.hid hm
      have HX3 := Lib.hid (HX2.out.trans hm.2.2)
      have HS3 := Lib.hid hm.2.2
      clear hm
      go_wp2_with fail
      refine (equal_any ua1 _ a.2 falseN _ (Va.out.2.ext (Ext.trans (Ext.refl _) HS3.out)).1 (Mm.out.fml.ext (Ext.refl _)).1).mono ?_
      rintro e w4 ⟨rfl, hx⟩
      have HX4 := Lib.hid (HX3.out.trans hx)
      have HS4 := Lib.hid hx
      clear hx
      cases hd : eqN a.2 falseN
      case false =>
        have D4 := Lib.hid hd
        clear hd
        have HN : Hid (refutesL ls fs st i n = none) := Lib.hid (by simp only [refutesL, OD3.out, D4.out] <;> rfl)
        go_wp2_with fail
        go_ret2
        exact ⟨ua0, by rw [HN.out]; rfl, HX4.out, fun r hr => by rw [HN.out] at hr; cases hr⟩
      case true =>
        have D4 := Lib.hid hd
        clear hd
        have HN : Hid (refutesL ls fs st i n = some a.1) := Lib.hid (by simp only [refutesL, OD3.out, D4.out] <;> rfl)
        go_wp2_with fail
        go_ret2
        exact ⟨ua0, by rw [HN.out]; rfl, HX4.out, fun r hr => by rw [HN.out] at hr; injection hr with hr; subst hr; exact Va.out.1.ext (Ext.trans (Ext.trans (Ext.refl _) HS3.out) HS4.out)⟩
end Go.Proofs.YtdpblciohodgcaaDoor

/- The rules: notIn, absurd. -/

namespace Go.Proofs.YtdpblciohodgcaaDoor
open Go.RowKit

set_option maxRecDepth 100000 in
set_option maxHeartbeats 4000000 in
theorem notIn_any {w : World} {b : Nat} {lg : Int} {ls : List Ln} {fs : List (List Nd)} {st : List (List Int)} {i : Nat} {n : Ln} {fi : List Nd} (h : Chk w b lg ls fs st) (ok : CkOk ls fs st i n fi) :
    Calls Tryd.prog 107 #[.pointer (some ⟨b, 0, none⟩), .int .i64 i] w fun e w' => e = .returned (.bool (notInL lg ls fs st i n fi)) ∧ Ext w w' := by
  have H := Lib.hid h
  have OK := Lib.hid ok
  have HX0 := Lib.hid (Ext.refl w)
  clear h ok
  go_enter Tryd.func107, Tryd.ntmps107
  go_wp2_with fail
  refine (refutes_any (H.out.ext HX0.out) OK.out).mono ?_
  rintro e w1 ⟨ux0, rfl, hx, hf⟩
  have HX1 := Lib.hid (HX0.out.trans hx)
  have HS1 := Lib.hid hx
  clear hx
  have HF1 := Lib.hid hf
  clear hf
  cases hd : refutesL ls fs st i n with
  | none =>
    have D2 := Lib.hid hd
    clear hd
    go_wp2_with fail
    go_quiet (fail)
    go_wp2_with fail
    go_ret
    exact ⟨same_of (by simp only [notInL, D2.out] <;> rfl), HX1.out.drewN _⟩
  | some x =>
    have D2 := Lib.hid hd
    have Vx := Lib.hid (HF1.out _ hd)
    clear hd
    obtain ⟨ad, c, vl, vs, Ai, ci, g1, g2, g3, g4, g5, g6, g7, g8, g9⟩ := (H.out.ext HX1.out).form OK.out.f_at
    have GB := (H.out.ext HX1.out).blt
    have GI : i < fs.length := (List.getElem?_eq_some_iff.1 OK.out.f_at).1
    have GF := Lib.hid g9
    clear g4 g5 g7 g9
    go_wp2_with fail
    go_region_with (first | (go_at_call 126; refine (not_any _ x _ (by exact Vx.out.ext (by repeat (first | exact Ext.refl _ | assumption | apply Ext.alloc | apply Ext.drew)))).mono ?_; rintro e wa ⟨ua, rfl, hma⟩; have MA := Lib.hid hma; have hxa : Ext w1 wa := Ext.trans (by repeat (first | exact Ext.refl _ | assumption | apply Ext.alloc | apply Ext.drew)) hma.2.2; have g6a := (hxa.cell (p := ⟨b, 2, none⟩) GB).trans g6; have g8a := (hxa.cell (p := ad.add i) (by rw [block_of_add]; exact g3)).trans g8; clear hma) | (go_at_call 48; refine (equal_any _ _ (notN x) fi _ (by exact (MA.out.fml.ext (by repeat (first | exact Ext.refl _ | assumption | apply Ext.alloc | apply Ext.drew))).1) (by exact (GF.out.ext (by repeat (first | exact Ext.refl _ | assumption | apply Ext.alloc | apply Ext.drew))).1)).mono ?_; rintro e wb ⟨rfl, hxb⟩; have hyb : Ext w1 wb := Ext.trans (by repeat (first | exact Ext.refl _ | assumption | apply Ext.alloc | apply Ext.drew)) hxb))
    all_goals
      go_wp2_with fail
      go_ret
      exact ⟨same_of (by simp only [notInL, D2.out] <;> rfl), HX1.out.trans hyb⟩

set_option maxRecDepth 100000 in
set_option maxHeartbeats 4000000 in
theorem absurd_any {w : World} {b : Nat} {lg : Int} {ls : List Ln} {fs : List (List Nd)} {st : List (List Int)} {i : Nat} {n : Ln} {fi : List Nd} (h : Chk w b lg ls fs st) (ok : CkOk ls fs st i n fi) :
    Calls Tryd.prog 109 #[.pointer (some ⟨b, 0, none⟩), .int .i64 i] w fun e w' => e = .returned (.bool (absurdL lg ls fs st i n fi)) ∧ Ext w w' := by
  have H := Lib.hid h
  have OK := Lib.hid ok
  have HX0 := Lib.hid (Ext.refl w)
  clear h ok
  go_enter Tryd.func109, Tryd.ntmps109
  go_wp2_with fail
  refine (refutes_any (H.out.ext HX0.out) OK.out).mono ?_
  rintro e w1 ⟨ux0, rfl, hx, hf⟩
  have HX1 := Lib.hid (HX0.out.trans hx)
  have HS1 := Lib.hid hx
  clear hx
  have HF1 := Lib.hid hf
  clear hf
  cases hd : refutesL ls fs st i n with
  | none =>
    have D2 := Lib.hid hd
    clear hd
    go_wp2_with fail
    go_ret
    exact ⟨same_of (by simp only [absurdL, D2.out] <;> rfl), HX1.out⟩
  | some x =>
    have D2 := Lib.hid hd
    have Vx := Lib.hid (HF1.out _ hd)
    clear hd
    obtain ⟨ad, c, vl, vs, Ai, ci, g1, g2, g3, g4, g5, g6, g7, g8, g9⟩ := (H.out.ext HX1.out).form OK.out.f_at
    have GB := (H.out.ext HX1.out).blt
    have GI : i < fs.length := (List.getElem?_eq_some_iff.1 OK.out.f_at).1
    have GF := Lib.hid g9
    clear g4 g5 g7 g9
    go_wp2_with fail
    refine (not_any _ fi _ (GF.out.ext (Ext.refl _))).mono ?_
    rintro e w2 ⟨um, rfl, hm⟩
    have Mm := Lib.hid hm
    have HX2 := Lib.hid (HX1.out.trans hm.2.2)
    have HS2 := Lib.hid hm.2.2
    clear hm
    go_wp2_with fail
    refine (equal_any _ ux0 (notN fi) x _ (Mm.out.fml.ext (Ext.refl _)).1 (Vx.out.ext (Ext.trans (Ext.refl _) HS2.out)).1).mono ?_
    rintro e w3 ⟨rfl, hx⟩
    have HX3 := Lib.hid (HX2.out.trans hx)
    have HS3 := Lib.hid hx
    clear hx
    go_wp2_with fail
    go_ret
    exact ⟨same_of (by simp only [absurdL, D2.out] <;> rfl), HX3.out⟩
end Go.Proofs.YtdpblciohodgcaaDoor

/- The rules: notOut. -/

namespace Go.Proofs.YtdpblciohodgcaaDoor
open Go.RowKit

set_option maxRecDepth 100000 in
set_option maxHeartbeats 4000000 in
theorem notOut_any {w : World} {b : Nat} {lg : Int} {ls : List Ln} {fs : List (List Nd)} {st : List (List Int)} {i : Nat} {n : Ln} {fi : List Nd} (h : Chk w b lg ls fs st) (ok : CkOk ls fs st i n fi) :
    Calls Tryd.prog 108 #[.pointer (some ⟨b, 0, none⟩), .int .i64 i] w fun e w' => e = .returned (.bool (notOutL lg ls fs st i n fi)) ∧ Ext w w' := by
  have H := Lib.hid h
  have OK := Lib.hid ok
  have HX0 := Lib.hid (Ext.refl w)
  clear h ok
  go_enter Tryd.func108, Tryd.ntmps108
  go_wp2_with fail
  refine (two_any (H.out.ext HX0.out) OK.out).mono ?_
  rintro e w1 ⟨ur0, ur1, rfl, hx, hf⟩
  have HX1 := Lib.hid (HX0.out.trans hx)
  have HS1 := Lib.hid hx
  clear hx
  have HF1 := Lib.hid hf
  clear hf
  cases hd : twoL ls fs st i n with
  | none =>
    have D2 := Lib.hid hd
    clear hd
    go_wp2_with fail
    go_quiet (fail)
    go_wp2_with fail
    go_ret
    exact ⟨same_of (by simp only [notOutL, D2.out] <;> rfl), HX1.out.drewN _⟩
  | some r =>
    have D2 := Lib.hid hd
    have Vr := Lib.hid (HF1.out _ hd)
    clear hd
    obtain ⟨ad, c, vl, vs, Ai, ci, g1, g2, g3, g4, g5, g6, g7, g8, g9⟩ := (H.out.ext HX1.out).form OK.out.f_at
    have GB := (H.out.ext HX1.out).blt
    have GI : i < fs.length := (List.getElem?_eq_some_iff.1 OK.out.f_at).1
    have GF := Lib.hid g9
    clear g4 g5 g7 g9
    cases hd : eqN (notN r.1) r.2
    case false =>
      have D3 := Lib.hid hd
      clear hd
      go_wp2_with fail
      refine wp_region_held_drew (S := fun w' => w'.cell? ⟨b, 2, none⟩ = some (.slice (some ad) fs.length c) ∧ w'.cell? (ad.add i) = some (.slice Ai fi.length ci)) (by kernel_rfl) ⟨g6, g8⟩ (fun hHeld => ?_)
      refine' wpAnyH_take (i := 0) (v := _) rfl (by kernel_rfl) (by kernel_rfl) (by kernel_rfl) (fun _ _ _ h => h) (Or.inl ⟨by rfl, ?hy0⟩) ⟨g6, g8⟩ ?rest0
      case hy0 => (intro w' hSw; (try dsimp only at hSw); go_simp; (try with_reducible rfl))
      try simp only [Act.put, List.setIfInBounds_toArray, List.set_cons_zero, List.set_cons_succ, List.getElem_toArray, List.getElem_cons_zero]
      refine' wpAnyH_take (i := 1) (v := _) rfl (by kernel_rfl) (by kernel_rfl) (by kernel_rfl) (fun _ _ _ h => h) (Or.inl ⟨by rfl, ?hy1⟩) ⟨g6, g8⟩ ?rest1
      case hy1 => (intro w' hSw; (try dsimp only at hSw); go_simp; (try with_reducible rfl))
      try simp only [Act.put, List.setIfInBounds_toArray, List.set_cons_zero, List.set_cons_succ, List.getElem_toArray, List.getElem_cons_succ, List.getElem_cons_zero]
      refine' wpAnyH_take (i := 2) (v := _) rfl (by kernel_rfl) (by kernel_rfl) (by kernel_rfl) (fun _ _ _ h => h) (Or.inl ⟨by rfl, ?hy2⟩) ⟨g6, g8⟩ ?rest2
      case hy2 => (intro w' hSw; (try dsimp only at hSw); go_simp; (try with_reducible rfl))
      try simp only [Act.put, List.setIfInBounds_toArray, List.set_cons_zero, List.set_cons_succ, List.getElem_toArray, List.getElem_cons_succ, List.getElem_cons_zero]
      refine' wpAnyH_take (i := 4) (v := _) rfl (by kernel_rfl) (by kernel_rfl) (by kernel_rfl) (fun _ _ _ h => h) (Or.inl ⟨by rfl, ?hy4⟩) ⟨g6, g8⟩ ?rest4
      case hy4 => (intro w' hSw; (try dsimp only at hSw); go_simp; (try with_reducible rfl))
      try simp only [Act.put, List.setIfInBounds_toArray, List.set_cons_zero, List.set_cons_succ, List.getElem_toArray, List.getElem_cons_succ, List.getElem_cons_zero]
      refine wpAnyH_ready (rs := [3]) (by kernel_rfl) (by simp) ?_
      refine AllReadyH.cons rfl (fun K hK => ?_) AllReadyH.nil
      go_simp
      (go_at_call 126; refine (not_any _ r.1 _ (by exact Vr.out.1.ext (by repeat (first | exact Ext.refl _ | assumption | apply Ext.alloc | apply Ext.drew)))).mono ?_; rintro e wa ⟨ua, rfl, hma⟩; have MA := Lib.hid hma; have hxa : Ext w1 wa := Ext.trans (by repeat (first | exact Ext.refl _ | assumption | apply Ext.alloc | apply Ext.drew)) hma.2.2; have g6a := (hxa.cell (p := ⟨b, 2, none⟩) GB).trans g6; have g8a := (hxa.cell (p := ad.add i) (by rw [block_of_add]; exact g3)).trans g8; clear hma)
      go_wp2_with fail
      refine hK.out _ _ ⟨g6a, g8a⟩ (fun hHeld => ?_)
      clear hK K hHeld
      try simp only [Act.put, List.setIfInBounds_toArray, List.set_cons_zero, List.set_cons_succ, List.getElem_toArray, List.getElem_cons_succ, List.getElem_cons_zero]
      refine wpAnyH_ready (rs := [5]) (by kernel_rfl) (by simp) ?_
      refine AllReadyH.cons rfl (fun K hK => ?_) AllReadyH.nil
      go_simp
      (go_at_call 48; refine (equal_any _ _ (notN r.1) r.2 _ (by exact (MA.out.fml.ext (by repeat (first | exact Ext.refl _ | assumption | apply Ext.alloc | apply Ext.drew))).1) (by exact (Vr.out.2.ext (by repeat (first | exact Ext.refl _ | assumption | apply Ext.alloc | apply Ext.drew))).1)).mono ?_; rintro e wb ⟨rfl, hxb0⟩; rw [D3.out]; have hxb : Ext w1 wb := Ext.trans (by repeat (first | exact Ext.refl _ | assumption | apply Ext.alloc | apply Ext.drew)) hxb0; have g6b := (hxb.cell (p := ⟨b, 2, none⟩) GB).trans g6; have g8b := (hxb.cell (p := ad.add i) (by rw [block_of_add]; exact g3)).trans g8; clear hxb0)
      go_wp2_with fail
      refine hK.out _ _ ⟨g6b, g8b⟩ (fun hHeld => ?_)
      clear hK K hHeld
      try simp only [Act.put, List.setIfInBounds_toArray, List.set_cons_zero, List.set_cons_succ, List.getElem_toArray, List.getElem_cons_succ, List.getElem_cons_zero]
      refine' wpAnyH_take (i := 6) (v := _) rfl (by kernel_rfl) (by kernel_rfl) (by kernel_rfl) (fun _ _ _ h => h) (Or.inl ⟨by rfl, ?hy6⟩) ⟨g6b, g8b⟩ ?rest6
      case hy6 => (intro w' hSw; (try dsimp only at hSw); go_simp; (try with_reducible rfl))
      try simp only [Act.put, List.setIfInBounds_toArray, List.set_cons_zero, List.set_cons_succ, List.getElem_toArray, List.getElem_cons_succ, List.getElem_cons_zero]
      refine' wpAnyH_take (i := 7) (v := _) rfl (by kernel_rfl) (by kernel_rfl) (by kernel_rfl) (fun _ _ _ h => h) (Or.inl ⟨by rfl, ?hy7⟩) ⟨g6b, g8b⟩ ?rest7
      case hy7 => (intro w' hSw; (try dsimp only at hSw); go_simp; (try with_reducible rfl))
      try simp only [Act.put, List.setIfInBounds_toArray, List.set_cons_zero, List.set_cons_succ, List.getElem_toArray, List.getElem_cons_succ, List.getElem_cons_zero]
      refine wpAnyH_take (i := 8) (v := undef) rfl (by kernel_rfl) (by kernel_rfl) (by kernel_rfl) (fun _ _ _ h => h) (Or.inr ⟨by rfl, rfl⟩) ⟨g6b, g8b⟩ ?_
      try simp only [Act.put, List.setIfInBounds_toArray, List.set_cons_zero, List.set_cons_succ, List.getElem_toArray, List.getElem_cons_succ, List.getElem_cons_zero]
      refine wpAnyH_take (i := 9) (v := undef) rfl (by kernel_rfl) (by kernel_rfl) (by kernel_rfl) (fun _ _ _ h => h) (Or.inr ⟨by rfl, rfl⟩) ⟨g6b, g8b⟩ ?_
      try simp only [Act.put, List.setIfInBounds_toArray, List.set_cons_zero, List.set_cons_succ, List.getElem_toArray, List.getElem_cons_succ, List.getElem_cons_zero]
      refine wpAnyH_take (i := 10) (v := undef) rfl (by kernel_rfl) (by kernel_rfl) (by kernel_rfl) (fun _ _ _ h => h) (Or.inr ⟨by rfl, rfl⟩) ⟨g6b, g8b⟩ ?_
      try simp only [Act.put, List.setIfInBounds_toArray, List.set_cons_zero, List.set_cons_succ, List.getElem_toArray, List.getElem_cons_succ, List.getElem_cons_zero]
      refine wpAnyH_take (i := 11) (v := undef) rfl (by kernel_rfl) (by kernel_rfl) (by kernel_rfl) (fun _ _ _ h => h) (Or.inr ⟨by rfl, rfl⟩) ⟨g6b, g8b⟩ ?_
      try simp only [Act.put, List.setIfInBounds_toArray, List.set_cons_zero, List.set_cons_succ, List.getElem_toArray, List.getElem_cons_succ, List.getElem_cons_zero]
      refine wpAnyH_take (i := 12) (v := undef) rfl (by kernel_rfl) (by kernel_rfl) (by kernel_rfl) (fun _ _ _ h => h) (Or.inr ⟨by rfl, rfl⟩) ⟨g6b, g8b⟩ ?_
      try simp only [Act.put, List.setIfInBounds_toArray, List.set_cons_zero, List.set_cons_succ, List.getElem_toArray, List.getElem_cons_succ, List.getElem_cons_zero]
      refine wpAnyH_take (i := 13) (v := undef) rfl (by kernel_rfl) (by kernel_rfl) (by kernel_rfl) (fun _ _ _ h => h) (Or.inr ⟨by rfl, rfl⟩) ⟨g6b, g8b⟩ ?_
      try simp only [Act.put, List.setIfInBounds_toArray, List.set_cons_zero, List.set_cons_succ, List.getElem_toArray, List.getElem_cons_succ, List.getElem_cons_zero]
      refine wpAnyH_take (i := 14) (v := undef) rfl (by kernel_rfl) (by kernel_rfl) (by kernel_rfl) (fun _ _ _ h => h) (Or.inr ⟨by rfl, rfl⟩) ⟨g6b, g8b⟩ ?_
      try simp only [Act.put, List.setIfInBounds_toArray, List.set_cons_zero, List.set_cons_succ, List.getElem_toArray, List.getElem_cons_succ, List.getElem_cons_zero]
      refine wpAnyH_take (i := 15) (v := undef) rfl (by kernel_rfl) (by kernel_rfl) (by kernel_rfl) (fun _ _ _ h => h) (Or.inr ⟨by rfl, rfl⟩) ⟨g6b, g8b⟩ ?_
      try simp only [Act.put, List.setIfInBounds_toArray, List.set_cons_zero, List.set_cons_succ, List.getElem_toArray, List.getElem_cons_succ, List.getElem_cons_zero]
      refine wpAnyH_take (i := 16) (v := undef) rfl (by kernel_rfl) (by kernel_rfl) (by kernel_rfl) (fun _ _ _ h => h) (Or.inr ⟨by rfl, rfl⟩) ⟨g6b, g8b⟩ ?_
      try simp only [Act.put, List.setIfInBounds_toArray, List.set_cons_zero, List.set_cons_succ, List.getElem_toArray, List.getElem_cons_succ, List.getElem_cons_zero]
      refine' wpAnyH_take (i := 17) (v := _) rfl (by kernel_rfl) (by kernel_rfl) (by kernel_rfl) (fun _ _ _ h => h) (Or.inl ⟨by rfl, ?hy17⟩) ⟨g6b, g8b⟩ ?rest17
      case hy17 => (intro w' hSw; (try dsimp only at hSw); go_simp; (try with_reducible rfl))
      try simp only [Act.put, List.setIfInBounds_toArray, List.set_cons_zero, List.set_cons_succ, List.getElem_toArray, List.getElem_cons_succ, List.getElem_cons_zero]
      refine' wpAnyH_take (i := 18) (v := _) rfl (by kernel_rfl) (by kernel_rfl) (by kernel_rfl) (fun _ _ _ h => h) (Or.inl ⟨by rfl, ?hy18⟩) ⟨g6b, g8b⟩ ?rest18
      case hy18 => (intro w' hSw; (try dsimp only at hSw); go_simp; (try with_reducible rfl))
      try simp only [Act.put, List.setIfInBounds_toArray, List.set_cons_zero, List.set_cons_succ, List.getElem_toArray, List.getElem_cons_succ, List.getElem_cons_zero]
      refine wpAnyH_done (by kernel_rfl) ?_ _
      go_wp2_with fail
      go_ret
      exact ⟨same_of (by simp only [notOutL, D2.out, D3.out] <;> rfl), HX1.out.trans hxb⟩
    case true =>
      have D3 := Lib.hid hd
      clear hd
      go_wp2_with fail
      go_region_held3 (fun w' => w'.cell? ⟨b, 2, none⟩ = some (.slice (some ad) fs.length c) ∧ w'.cell? (ad.add i) = some (.slice Ai fi.length ci)) (first | exact ⟨g6, g8⟩ | exact ⟨g6a, g8a⟩ | exact ⟨g6b, g8b⟩ | exact ⟨g6c, g8c⟩ | exact ⟨g6d, g8d⟩ | go_keep) (first | (go_at_call 126; refine (not_any _ r.1 _ (by exact Vr.out.1.ext (by repeat (first | exact Ext.refl _ | assumption | apply Ext.alloc | apply Ext.drew)))).mono ?_; rintro e wa ⟨ua, rfl, hma⟩; have MA := Lib.hid hma; have hxa : Ext w1 wa := Ext.trans (by repeat (first | exact Ext.refl _ | assumption | apply Ext.alloc | apply Ext.drew)) hma.2.2; have g6a := (hxa.cell (p := ⟨b, 2, none⟩) GB).trans g6; have g8a := (hxa.cell (p := ad.add i) (by rw [block_of_add]; exact g3)).trans g8; clear hma) | (go_at_call 48; refine (equal_any _ _ (notN r.1) r.2 _ (by exact (MA.out.fml.ext (by repeat (first | exact Ext.refl _ | assumption | apply Ext.alloc | apply Ext.drew))).1) (by exact (Vr.out.2.ext (by repeat (first | exact Ext.refl _ | assumption | apply Ext.alloc | apply Ext.drew))).1)).mono ?_; rintro e wb ⟨rfl, hxb0⟩; rw [D3.out]; have hxb : Ext w1 wb := Ext.trans (by repeat (first | exact Ext.refl _ | assumption | apply Ext.alloc | apply Ext.drew)) hxb0; have g6b := (hxb.cell (p := ⟨b, 2, none⟩) GB).trans g6; have g8b := (hxb.cell (p := ad.add i) (by rw [block_of_add]; exact g3)).trans g8; clear hxb0) | (go_at_call 127; refine (false_any _).mono ?_; rintro e wc ⟨uc, rfl, hmc⟩; have MC := Lib.hid hmc; have hxc : Ext w1 wc := Ext.trans (by repeat (first | exact Ext.refl _ | assumption | apply Ext.alloc | apply Ext.drew)) hmc.2.2; have g6c := (hxc.cell (p := ⟨b, 2, none⟩) GB).trans g6; have g8c := (hxc.cell (p := ad.add i) (by rw [block_of_add]; exact g3)).trans g8; clear hmc) | (go_at_call 48; refine (equal_any _ _ fi falseN _ (by exact (GF.out.ext (by repeat (first | exact Ext.refl _ | assumption | apply Ext.alloc | apply Ext.drew))).1) (by exact (MC.out.fml.ext (by repeat (first | exact Ext.refl _ | assumption | apply Ext.alloc | apply Ext.drew))).1)).mono ?_; rintro e wd ⟨rfl, hxd0⟩; have hxd : Ext w1 wd := Ext.trans (by repeat (first | exact Ext.refl _ | assumption | apply Ext.alloc | apply Ext.drew)) hxd0; have g6d := (hxd.cell (p := ⟨b, 2, none⟩) GB).trans g6; have g8d := (hxd.cell (p := ad.add i) (by rw [block_of_add]; exact g3)).trans g8; clear hxd0))
      all_goals
        go_wp2_with fail
        go_ret
        exact ⟨same_of (by simp only [notOutL, D2.out, D3.out] <;> rfl), HX1.out.trans hxd⟩
end Go.Proofs.YtdpblciohodgcaaDoor
