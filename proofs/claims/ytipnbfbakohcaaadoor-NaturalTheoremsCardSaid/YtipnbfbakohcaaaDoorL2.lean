/- natural's checker: subproof, assumed, refutes. -/
import Derived.Test.YtipnbfbakohcaaaDoorL1

namespace Go.Proofs.YtipnbfbakohcaaaDoor
open Go.RowKit

theorem getD_some {α : Type} {l : List α} {k : Nat} {d : α} (h : k < l.length) : l[k]? = some (l.getD k d) := by
  rw [List.getD_eq_getElem?_getD, List.getElem?_eq_getElem h]; rfl
theorem subOk_iff {ls : List Ln} {st : List (List Int)} {i j : Nat} : subOk ls st i j = true ↔ SubGood ls st i j ((st.getD j []).length - 1) (st.getD i []) (st.getD j []) := by
  unfold subOk
  rw [Bool.and_eq_true, Bool.and_eq_true, Bool.and_eq_true, decide_eq_true_iff, decide_eq_true_iff, Bool.not_eq_true', decide_eq_false_iff_not, List.isEmpty_iff]
  exact ⟨fun h => ⟨h⟩, fun h => h.all⟩
theorem subproof_any {w : World} {b : Nat} {lg : Int} {ls : List Ln} {fs : List (List Nd)} {st : List (List Int)} {i : Nat} {n : Ln} {fi : List Nd} (h : Chk w b lg ls fs st) (ok : CkOk ls fs st i n fi) (k : Nat) (j : Int) (hk : n.from_[k]? = some j) :
    Calls Tryd.prog 124 #[.pointer (some ⟨b, 0, none⟩), .int .i64 i, .int .i64 (k : Int)] w fun e w' => ∃ z u, e = .returned (.tuple #[.int .i64 z, u, .bool (subprL ls fs st i j).isSome]) ∧ Ext w w' ∧ ∀ r, subprL ls fs st i j = some r → z = r.1 ∧ Fml w' u r.2 := by
  by_cases hj : j < 0 ∨ (i : Int) ≤ j
  · have hs : subprL ls fs st i j = none := by unfold subprL; rw [if_pos hj]
    refine (subpr_out h i k n j ok.n_at hk hj).mono ?_
    rintro e w' ⟨rfl, hx⟩
    exact ⟨0, .slice none 0 0, by rw [hs]; rfl, hx, fun r hr => by rw [hs] at hr; cases hr⟩
  · obtain ⟨jn, rfl⟩ := Int.eq_ofNat_of_zero_le (show 0 ≤ j by omega)
    have hji : jn < i := by omega
    have hil : i < ls.length := (List.getElem?_eq_some_iff.1 ok.n_at).1
    have hm := lineAt_of (ls := ls) (o := (jn : Int)) (by omega) (by omega)
    rw [Int.toNat_natCast] at hm
    have hs : subprL ls fs st i (jn : Int) = bif opensL (lineAt ls jn) && subOk ls st i jn then some ((jn : Int), fs.getD (lastL st jn i) []) else none := by
      unfold subprL
      rw [if_neg hj, Int.toNat_natCast]
    cases ho : opensL (lineAt ls jn)
    · refine (subpr_shut h i k n jn _ ok.n_at hk hji hm ho).mono ?_
      rintro e w' ⟨rfl, hx⟩
      rw [ho] at hs
      exact ⟨0, .slice none 0 0, by rw [hs]; rfl, hx, fun r hr => by rw [hs] at hr; cases hr⟩
    · rw [ho, Bool.true_and] at hs
      have hsi := getD_some (d := []) ok.st_lt
      have hsj := getD_some (l := st) (k := jn) (d := []) (by have := ok.st_lt; omega)
      refine (subpr_in h ok.st_ok i k n jn _ _ _ ok.n_at hk hji hm ho hsi hsj (ok.op jn _ _ hm hsj ho) ok.fs_le).mono ?_
      rintro e w' hp
      cases hp with
      | yes hg he hx hf =>
        rw [subOk_iff.2 hg] at hs
        exact ⟨_, _, by rw [hs]; exact he, hx, fun r hr => by rw [hs] at hr; injection hr with hr; subst hr; exact ⟨rfl, hf⟩⟩
      | no hg he hx =>
        have : subOk ls st i jn = false := by
          cases hb : subOk ls st i jn
          · rfl
          · exact absurd (subOk_iff.1 hb) hg
        rw [this] at hs
        exact ⟨_, _, by rw [hs]; exact he, hx, fun r hr => by rw [hs] at hr; cases hr⟩

theorem subprL_range {ls : List Ln} {fs : List (List Nd)} {st : List (List Int)} {i : Nat} {j : Int} {r : Int × List Nd} (h : subprL ls fs st i j = some r) : r.1 = j ∧ 0 ≤ j ∧ j < i := by
  unfold subprL at h
  split at h
  · cases h
  · rename_i hj
    cases hb : opensL (lineAt ls j) && subOk ls st i j.toNat
    · rw [hb] at h; cases h
    · rw [hb] at h
      injection h with h
      subst h
      exact ⟨rfl, by omega, by omega⟩

set_option maxRecDepth 100000 in
set_option maxHeartbeats 4000000 in
theorem assumed_any {w : World} {b : Nat} {lg : Int} {ls : List Ln} {fs : List (List Nd)} {st : List (List Int)} {i : Nat} {n : Ln} {fi : List Nd} (h : Chk w b lg ls fs st) (ok : CkOk ls fs st i n fi) (k : Nat) (j : Int) (hk : n.from_[k]? = some j) :
    Calls Tryd.prog 121 #[.pointer (some ⟨b, 0, none⟩), .int .i64 i, .int .i64 (k : Int)] w fun e w' => ∃ u1 u2, e = .returned (.tuple #[u1, u2, .bool (assumedL ls fs st i j).isSome]) ∧ Ext w w' ∧ ∀ r, assumedL ls fs st i j = some r → Fml w' u1 r.1 ∧ Fml w' u2 r.2 := by
  have H := Lib.hid h
  have OK := Lib.hid ok
  have HK := Lib.hid hk
  have hil : i < ls.length := (List.getElem?_eq_some_iff.1 ok.n_at).1
  have hfl := ok.fs_le
  clear h ok hk
  go_enter Tryd.func121, Tryd.ntmps121
  go_wp2_with fail
  refine (subproof_any H.out OK.out k j HK.out).mono ?_
  rintro e w1 ⟨z, u, rfl, hx, hf⟩
  have HX := Lib.hid hx
  have HF := Lib.hid hf
  clear hx hf
  cases hs : subprL ls fs st i j with
  | none =>
    have HA := Lib.hid (show assumedL ls fs st i j = none by unfold assumedL; rw [hs])
    clear HF hs
    go_wp2_with fail
    go_ret3
    exact ⟨.slice none 0 0, .slice none 0 0, by rw [HA.out]; rfl, HX.out, fun r hr => by rw [HA.out] at hr; cases hr⟩
  | some r =>
    obtain ⟨hz, hfm⟩ := HF.out r hs
    obtain ⟨h1, h2, h3⟩ := subprL_range hs
    have hzj := hz.trans h1
    subst hzj
    obtain ⟨zn, rfl⟩ := Int.eq_ofNat_of_zero_le h2
    have hzi : zn < i := by omega
    have hm := lineAt_of (ls := ls) (o := (zn : Int)) (by omega) (by omega)
    rw [Int.toNat_natCast] at hm
    have hff := getD_some (l := fs) (k := zn) (d := []) (by omega)
    have HFM := Lib.hid hfm
    have HS := Lib.hid hs
    have HR := Lib.hid h1
    have hr0 : (0 : Int) ≤ (zn : Int) := by omega
    have hr1 : (zn : Int) < (ls.length : Int) := by omega
    have hr2 : (zn : Int) < (fs.length : Int) := by omega
    obtain ⟨ad, c, vf, vs, uf, ur, q1, q2, q3, q4, q5, q6, q7, d0, d1, d2, d3, d4, _, _⟩ := (H.out.ext HX.out).line hm
    obtain ⟨ad2, c2, vl2, vs2, Ai, ci, g1, g2, g3, g4, g5, g6, g7, g8, g9⟩ := (H.out.ext HX.out).form hff
    have HF9 := Lib.hid g9
    have HL : Hid (lineAt ls r.1 = lineAt ls zn ∧ r.1.toNat = zn) := Lib.hid (by rw [h1]; exact ⟨rfl, Int.toNat_natCast _⟩)
    clear HF hs h1 h2 h3 hz hfm hm hff g9 g5 g7 q6 q7
    obtain ⟨ff, hfe⟩ : ∃ ff, fs.getD zn [] = ff := ⟨_, rfl⟩
    rw [hfe] at HF9 g8
    have HFN := Lib.hid hfe
    clear hfe
    generalize hmm : lineAt ls (zn : Int) = m at d0 d1 d2 d3 d4 HL
    have HMM := Lib.hid hmm
    clear hmm
    cases hb : (m.rule == 1)
    · have hb2 : (m.rule != 1) = true := by rw [bne, hb]; rfl
      have HA := Lib.hid (show assumedL ls fs st i (zn : Int) = none by unfold assumedL; rw [HS.out]; show (bif (lineAt ls r.1).rule == 1 then _ else _) = _; rw [HL.out.1, hb]; rfl)
      go_wp2_with fail
      go_ret3
      exact ⟨.slice none 0 0, .slice none 0 0, by rw [HA.out]; rfl, HX.out, fun r hr => by rw [HA.out] at hr; cases hr⟩
    · have hb2 : (m.rule != 1) = false := by rw [bne, hb]; rfl
      have HA := Lib.hid (show assumedL ls fs st i (zn : Int) = some (fs.getD zn [], r.2) by unfold assumedL; rw [HS.out]; show (bif (lineAt ls r.1).rule == 1 then _ else _) = _; rw [HL.out.1, hb, HL.out.2]; rfl)
      go_wp2_with fail
      go_ret3
      exact ⟨.slice Ai ff.length ci, u, by rw [HA.out]; rfl, HX.out, fun r' hr => by rw [HA.out] at hr; injection hr with hr; subst hr; exact ⟨by rw [HFN.out]; exact HF9.out, HFM.out⟩⟩
end Go.Proofs.YtipnbfbakohcaaaDoor
