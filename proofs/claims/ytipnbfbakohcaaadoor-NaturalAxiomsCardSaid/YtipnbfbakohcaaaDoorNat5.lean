/- natural's checker: one, two. -/
import Derived.Test.YtipnbfbakohcaaaDoorNat4
namespace Go.Proofs.YtipnbfbakohcaaaDoor
open Go.RowKit

def oneL (ls : List Ln) (fs : List (List Nd)) (st : List (List Int)) (i : Nat) (n : Ln) : Option (List Nd) :=
  bif decide (n.from_.length = 1) then lineL ls fs st i (n.from_.getD 0 0) else none
def twoL (ls : List Ln) (fs : List (List Nd)) (st : List (List Int)) (i : Nat) (n : Ln) : Option (List Nd × List Nd) :=
  bif decide (n.from_.length = 2) then
    match lineL ls fs st i (n.from_.getD 0 0), lineL ls fs st i (n.from_.getD 1 0) with
    | some x, some y => some (x, y)
    | _, _ => none
  else none
theorem from_get {n : Ln} {k : Nat} (h : k < n.from_.length) : n.from_[k]? = some (n.from_.getD k 0) := by
  rw [List.getD_eq_getElem?_getD, List.getElem?_eq_getElem h]; rfl

set_option maxRecDepth 100000 in
set_option maxHeartbeats 1000000 in
theorem one_any {w : World} {b : Nat} {lg : Int} {ls : List Ln} {fs : List (List Nd)} {st : List (List Int)} (h : Chk w b lg ls fs st) (hst : StOk ls st) (i : Nat) (n : Ln) (hi : ls[i]? = some n) (his : i < st.length) (hif : i ≤ fs.length) :
    Calls Tryd.prog 119 #[.pointer (some ⟨b, 0, none⟩), .int .i64 i] w fun e w' => ∃ u, e = .returned (.tuple #[u, .bool (oneL ls fs st i n).isSome]) ∧ Ext w w' ∧ ∀ f, oneL ls fs st i n = some f → Fml w' u f := by
  have H := Lib.hid h
  have HST := Lib.hid hst
  have HI := Lib.hid hi
  clear h hst hi
  have HN := Lib.hid (fun w (h : Chk w b lg ls fs st) => named_any h i n 1 HI.out)
  cases hd : decide (n.from_.length = 1)
  · have HO := Lib.hid (show oneL ls fs st i n = none by unfold oneL; rw [hd]; rfl)
    have HD := Lib.hid hd
    clear hd
    go_enter Tryd.func119, Tryd.ntmps119
    go_wp2_with fail
    refine (HN.out _ H.out).mono ?_
    rintro e w1 ⟨rfl, hx⟩
    rw [HD.out]
    go_wp2_with fail
    go_ret2
    exact ⟨_, by rw [HO.out]; rfl, hx, fun f hf => by rw [HO.out] at hf; cases hf⟩
  · obtain ⟨j, hj, ho⟩ : ∃ j, n.from_[0]? = some j ∧ oneL ls fs st i n = lineL ls fs st i j := ⟨_, from_get (n := n) (k := 0) (by have := of_decide_eq_true hd; omega), by unfold oneL; rw [hd]; rfl⟩
    have HO := Lib.hid ho
    have HK := Lib.hid hj
    clear ho hj
    have HD := Lib.hid hd
    clear hd
    go_enter Tryd.func119, Tryd.ntmps119
    go_wp2_with fail
    refine (HN.out _ H.out).mono ?_
    rintro e w1 ⟨rfl, hx⟩
    rw [HD.out]
    have HX := Lib.hid hx
    clear hx
    go_wp2_with fail
    refine (line_any (H.out.ext HX.out) HST.out i 0 n _ HI.out HK.out his hif).mono ?_
    rintro e w2 ⟨u, rfl, hx2, hf2⟩
    have HX2 := Lib.hid (HX.out.trans hx2)
    have HF2 := Lib.hid hf2
    clear hx2 hf2
    go_wp2_with fail
    go_ret2
    exact ⟨u, by rw [HO.out]; rfl, HX2.out, fun f hf => HF2.out f (by rw [← HO.out]; exact hf)⟩
/-- What a walk of a rule stands on: the checker's lists at line i. -/
structure CkOk (ls : List Ln) (fs : List (List Nd)) (st : List (List Int)) (i : Nat) (n : Ln) (fi : List Nd) : Prop where
  st_ok : StOk ls st
  n_at : ls[i]? = some n
  f_at : fs[i]? = some fi
  st_lt : i < st.length
  fs_ok : ∀ f ∈ fs, 0 < f.length ∧ Wf f
  ag : ∀ (k : Nat) (m : Ln), k < fs.length → ls[k]? = some m → i64ok m.agent
  op : ∀ (k : Nat) (m : Ln) (s : List Int), ls[k]? = some m → st[k]? = some s → opensL m = true → 0 < s.length
theorem CkOk.fs_le {ls : List Ln} {fs : List (List Nd)} {st : List (List Int)} {i : Nat} {n : Ln} {fi : List Nd} (h : CkOk ls fs st i n fi) : i ≤ fs.length := Nat.le_of_lt (List.getElem?_eq_some_iff.1 h.f_at).1

set_option maxRecDepth 100000 in
set_option maxHeartbeats 1000000 in
theorem two_any {w : World} {b : Nat} {lg : Int} {ls : List Ln} {fs : List (List Nd)} {st : List (List Int)} {i : Nat} {n : Ln} {fi : List Nd} (h : Chk w b lg ls fs st) (ok : CkOk ls fs st i n fi) :
    Calls Tryd.prog 117 #[.pointer (some ⟨b, 0, none⟩), .int .i64 i] w fun e w' => ∃ u1 u2, e = .returned (.tuple #[u1, u2, .bool (twoL ls fs st i n).isSome]) ∧ Ext w w' ∧ ∀ r, twoL ls fs st i n = some r → Fml w' u1 r.1 ∧ Fml w' u2 r.2 := by
  have H := Lib.hid h
  have OK := Lib.hid ok
  clear h ok
  cases hd : decide (n.from_.length = 2)
  · have HO := Lib.hid (show twoL ls fs st i n = none by unfold twoL; rw [hd]; rfl)
    have HD := Lib.hid hd
    clear hd
    go_enter Tryd.func117, Tryd.ntmps117
    go_wp2_with fail
    refine (named_any H.out i n 2 OK.out.n_at).mono ?_
    rintro e w1 ⟨rfl, hx⟩
    rw [HD.out]
    go_wp2_with fail
    go_ret3
    exact ⟨.slice none 0 0, .slice none 0 0, by rw [HO.out]; rfl, hx, fun f hf => by rw [HO.out] at hf; cases hf⟩
  · obtain ⟨j1, j2, hj1, hj2, ho⟩ : ∃ j1 j2, n.from_[0]? = some j1 ∧ n.from_[1]? = some j2 ∧ twoL ls fs st i n = (match lineL ls fs st i j1, lineL ls fs st i j2 with
        | some x, some y => some (x, y)
        | _, _ => none) := ⟨_, _, from_get (n := n) (k := 0) (by have := of_decide_eq_true hd; omega), from_get (n := n) (k := 1) (by have := of_decide_eq_true hd; omega), by unfold twoL; rw [hd]; rfl⟩
    have HO := Lib.hid ho
    have HK1 := Lib.hid hj1
    have HK2 := Lib.hid hj2
    have HD := Lib.hid hd
    clear ho hj1 hj2 hd
    go_enter Tryd.func117, Tryd.ntmps117
    go_wp2_with fail
    refine (named_any H.out i n 2 OK.out.n_at).mono ?_
    rintro e w1 ⟨rfl, hx⟩
    rw [HD.out]
    have HX := Lib.hid hx
    clear hx
    go_wp2_with fail
    refine (line_any (H.out.ext HX.out) OK.out.st_ok i 0 n _ OK.out.n_at HK1.out OK.out.st_lt OK.out.fs_le).mono ?_
    rintro e w2 ⟨u1, rfl, hx2, hf2⟩
    have HX2 := Lib.hid (HX.out.trans hx2)
    have HF2 := Lib.hid hf2
    clear hx2 hf2
    go_wp2_with fail
    refine (line_any (H.out.ext HX2.out) OK.out.st_ok i 1 n _ OK.out.n_at HK2.out OK.out.st_lt OK.out.fs_le).mono ?_
    rintro e w3 ⟨u2, rfl, hx3, hf3⟩
    have HX3 := Lib.hid (HX2.out.trans hx3)
    have HX23 := Lib.hid hx3
    have HF3 := Lib.hid hf3
    clear hx3 hf3
    cases e1 : lineL ls fs st i j1 with
    | none =>
      have HN : Hid (twoL ls fs st i n = none) := Lib.hid (by rw [HO.out, e1])
      clear HF2
      clear e1
      go_wp2_with fail
      go_ret3
      exact ⟨u1, u2, by rw [HN.out]; rfl, HX3.out, fun f hf => by rw [HN.out] at hf; cases hf⟩
    | some x =>
      have HFx := Lib.hid (HF2.out x e1)
      cases e2 : lineL ls fs st i j2 with
      | none =>
        have HN : Hid (twoL ls fs st i n = none) := Lib.hid (by rw [HO.out, e1, e2])
        clear HF2 HF3 e1 e2
        go_wp2_with fail
        go_ret3
        exact ⟨u1, u2, by rw [HN.out]; rfl, HX3.out, fun f hf => by rw [HN.out] at hf; cases hf⟩
      | some y =>
        have HFy := Lib.hid (HF3.out y e2)
        have HN : Hid (twoL ls fs st i n = some (x, y)) := Lib.hid (by rw [HO.out, e1, e2])
        clear HF2 HF3 e1 e2
        go_wp2_with fail
        go_ret3
        exact ⟨u1, u2, by rw [HN.out]; rfl, HX3.out, fun f hf => by rw [HN.out] at hf; injection hf with hf; subst hf; exact ⟨HFx.out.ext HX23.out, HFy.out⟩⟩
end Go.Proofs.YtipnbfbakohcaaaDoor
