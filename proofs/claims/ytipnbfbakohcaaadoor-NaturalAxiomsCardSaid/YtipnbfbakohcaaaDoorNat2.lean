/- natural's checker: within. -/
import Derived.Test.YtipnbfbakohcaaaDoorNat1
import Derived.Deep.DeepCutAuto
namespace Go.Proofs.YtipnbfbakohcaaaDoor
open Go.RowKit

theorem Ints.take_ {w : World} {A : Option Addr} {c n : Nat} {l : List Int} (h : IntsAt w A c l) (hn : n ≤ l.length) : Ints w (.slice A n c) (l.take n) := by
  have e : (l.take n).length = n := by simp; omega
  refine ⟨A, c, by rw [e], by rw [e]; exact Nat.le_trans hn h.1, h.2.1, fun hne => ?_⟩
  obtain ⟨ad, ea, hb, hc⟩ := h.2.2 (by intro e; rw [e] at hne; simp at hne)
  refine ⟨ad, ea, hb, fun k z hk => hc k z ?_⟩
  rw [List.getElem?_take] at hk
  split at hk
  · exact hk
  · cases hk
theorem Ints.drop_ {w : World} {A : Option Addr} {c n : Nat} {l : List Int} (h : IntsAt w A c l) (hn : n ≤ l.length) : Ints w (.slice (if c = n then A else A.map (·.add n)) (l.length - n) (c - n)) (l.drop n) := by
  have e : (l.drop n).length = l.length - n := by simp
  refine ⟨_, c - n, by rw [e], by rw [e]; have := h.1; omega, by have := h.2.1; omega, fun hne => ?_⟩
  have hlt : n < l.length := by
    by_cases h0 : n < l.length
    · exact h0
    · exact absurd (List.drop_eq_nil_of_le (by omega)) hne
  obtain ⟨ad, rfl, hb, hc⟩ := h.2.2 (by intro e; rw [e] at hlt; simp at hlt)
  rw [if_neg (by have := h.1; omega)]
  refine ⟨_, rfl, by rw [block_of_add]; exact hb, fun k z hk => ?_⟩
  rw [add_of_add]
  exact hc _ z (by rw [← hk, List.getElem?_drop])

/-- The subproofs that line i is in and line j is not. -/
def withinL (st : List (List Int)) (i : Nat) (j : Int) : Option (List Int) :=
  if j < 0 ∨ (i : Int) ≤ j then none else if (st.getD i []).take (st.getD j.toNat []).length = st.getD j.toNat [] then some ((st.getD i []).drop (st.getD j.toNat []).length) else none

theorem Chk.stack {w : World} {b : Nat} {lg : Int} {ls : List Ln} {fs : List (List Nd)} {st : List (List Int)} (h : Chk w b lg ls fs st) {i j : Nat} {si sj : List Int} (hi : st[i]? = some si) (hj : st[j]? = some sj) :
    ∃ (ad : Addr) (c : Nat) (vl vf : Value) (Ai Aj : Option Addr) (ci cj : Nat), st.length ≤ c ∧ c ≤ 9223372036854775807 ∧ ad.block < w.heap.size ∧ w.cell? ⟨b, 0, none⟩ = some (.int .i64 lg) ∧ w.cell? ⟨b, 1, none⟩ = some vl ∧ w.cell? ⟨b, 2, none⟩ = some vf ∧ w.cell? ⟨b, 3, none⟩ = some (.slice (some ad) st.length c) ∧
      w.cell? (ad.add i) = some (.slice Ai si.length ci) ∧ w.cell? (ad.add j) = some (.slice Aj sj.length cj) ∧ IntsAt w Ai ci si ∧ IntsAt w Aj cj sj := by
  obtain ⟨vl, vf, vs, hb, _, _, ⟨A, c, rfl, h1, h2, h3⟩⟩ := h.all
  obtain ⟨d0, d1, d2, d3, _, _⟩ := cells4 hb
  obtain ⟨ad, rfl, hlt, hc⟩ := h3 (by intro e; rw [e] at hi; simp at hi)
  obtain ⟨ui, hui, Ai, ci, rfl, hIi⟩ := hc i si hi
  obtain ⟨uj, huj, Aj, cj, rfl, hIj⟩ := hc j sj hj
  unfold maxLen at h2
  exact ⟨ad, c, vl, vf, Ai, Aj, ci, cj, h1, by omega, hlt, d0, d1, d2, d3, hui, huj, hIi, hIj⟩

set_option maxRecDepth 100000 in
set_option maxHeartbeats 2000000 in
theorem within_out {w : World} {b : Nat} (i : Nat) (j : Int) (hj : j < 0 ∨ (i : Int) ≤ j) :
    Calls Tryd.prog 125 #[.pointer (some ⟨b, 0, none⟩), .int .i64 i, .int .i64 j] w fun e w' => e = .returned (.tuple #[.slice none 0 0, .bool false]) ∧ Ext w w' := by
  by_cases h0 : j < 0
  · clear hj
    go_enter Tryd.func125, Tryd.ntmps125
    go_wp2_with fail
    go_ret2
    exact ⟨rfl, Ext.refl _⟩
  · have h1 : (i : Int) ≤ j := by omega
    clear hj
    go_enter Tryd.func125, Tryd.ntmps125
    go_wp2_with fail
    go_ret2
    exact ⟨rfl, Ext.refl _⟩

set_option maxRecDepth 100000 in
set_option maxHeartbeats 2000000 in
theorem within_in {w : World} {b : Nat} {lg : Int} {ls : List Ln} {fs : List (List Nd)} {st : List (List Int)} (h : Chk w b lg ls fs st) (i j : Nat) (si sj : List Int) (hi : st[i]? = some si) (hj : st[j]? = some sj) (hji : j < i) :
    Calls Tryd.prog 125 #[.pointer (some ⟨b, 0, none⟩), .int .i64 i, .int .i64 (j : Int)] w fun e w' => ∃ u, e = .returned (.tuple #[u, .bool (decide (si.take sj.length = sj))]) ∧ Ext w w' ∧ (si.take sj.length = sj → Ints w' u (si.drop sj.length)) := by
  obtain ⟨ad, c, vl, vf, Ai, Aj, ci, cj, hc1, hc2, hlt, d0, d1, d2, d3, hui, huj, hIi, hIj⟩ := h.stack hi hj
  have hil : i < st.length := (List.getElem?_eq_some_iff.1 hi).1
  have hjl : j < st.length := (List.getElem?_eq_some_iff.1 hj).1
  have HI := Lib.hid hIi
  have HJ := Lib.hid hIj
  have hci := hIi.1
  have hcim := hIi.2.1
  have hcjm := hIj.2.1
  have hcj := hIj.1
  unfold maxLen at hcim hcjm
  have hn0 : ¬ (j : Int) < 0 := by omega
  clear h hi hj hIi hIj
  by_cases hle : sj.length ≤ si.length
  · have hEQ := Lib.hid (fun (nq : Nat) => equalI_q (.slice Ai sj.length ci) (.slice Aj sj.length cj) (si.take sj.length) sj (w.drewN nq) ((Ints.take_ HI.out hle).ext ((Ext.refl _).drewN nq)) ⟨_, _, rfl, HJ.out.ext ((Ext.refl _).drewN nq)⟩)
    have hg : decide (si.length < sj.length) = false := by simp; omega
    have hsl : (sj.length : Int) ≤ (ci : Int) := by omega
    by_cases heq : si.take sj.length = sj
    · have hd : decide (si.take sj.length = sj) = true := by simpa using heq
      have HQ := Lib.hid heq
      rw [hd] at hEQ ⊢
      clear heq hd
      by_cases hcn : ci = sj.length
      · have HD := Lib.hid (Ints.drop_ HI.out hle)
        rw [if_pos hcn, hcn, Nat.sub_self] at HD
        subst hcn
        go_enter Tryd.func125, Tryd.ntmps125
        go_wp2_with fail
        go_quiet ((go_at_call 129; exact Calls.quiet_of (hEQ.out _)))
        go_wp2_with fail
        go_ret2
        refine ⟨.slice Ai (si.length - sj.length) 0, ?_, (Ext.refl _).drewN _, fun _ => HD.out.ext ((Ext.refl _).drewN _)⟩
        simp
        omega
      · have HD := Lib.hid (Ints.drop_ HI.out hle)
        rw [if_neg hcn] at HD
        go_enter Tryd.func125, Tryd.ntmps125
        go_wp2_with fail
        go_quiet ((go_at_call 129; exact Calls.quiet_of (hEQ.out _)))
        go_wp2_with fail
        go_ret2
        exact ⟨_, rfl, (Ext.refl _).drewN _, fun _ => HD.out.ext ((Ext.refl _).drewN _)⟩
    · have hd : decide (si.take sj.length = sj) = false := by simpa using heq
      have HQ := Lib.hid heq
      rw [hd] at hEQ ⊢
      clear heq hd
      go_enter Tryd.func125, Tryd.ntmps125
      go_wp2_with fail
      go_quiet ((go_at_call 129; exact Calls.quiet_of (hEQ.out _)))
      go_wp2_with fail
      go_ret2
      exact ⟨_, rfl, (Ext.refl _).drewN _, fun e => absurd e HQ.out⟩
  · have hg : decide (si.length < sj.length) = true := by simp; omega
    have HQ := Lib.hid (show ¬ si.take sj.length = sj from fun e => by
      have := congrArg List.length e
      simp at this
      omega)
    have hd : decide (si.take sj.length = sj) = false := by simpa using HQ.out
    rw [hd]
    clear hd
    go_enter Tryd.func125, Tryd.ntmps125
    go_wp2_with fail
    go_quiet (fail)
    go_wp2_with fail
    go_ret2
    exact ⟨_, rfl, (Ext.refl _).drewN _, fun e => absurd e HQ.out⟩

theorem within_any {w : World} {b : Nat} {lg : Int} {ls : List Ln} {fs : List (List Nd)} {st : List (List Int)} (h : Chk w b lg ls fs st) (i : Nat) (j : Int) (hi : i < st.length) :
    Calls Tryd.prog 125 #[.pointer (some ⟨b, 0, none⟩), .int .i64 i, .int .i64 j] w fun e w' => ∃ u, e = .returned (.tuple #[u, .bool (withinL st i j).isSome]) ∧ Ext w w' ∧ ∀ r, withinL st i j = some r → Ints w' u r := by
  by_cases hj : j < 0 ∨ (i : Int) ≤ j
  · refine (within_out (b := b) i j hj).mono ?_
    rintro e w' ⟨rfl, hx⟩
    have hw : withinL st i j = none := by unfold withinL; rw [if_pos hj]
    exact ⟨_, by rw [hw]; rfl, hx, fun r hr => by rw [hw] at hr; cases hr⟩
  · obtain ⟨jn, rfl⟩ := Int.eq_ofNat_of_zero_le (show 0 ≤ j by omega)
    have hji : jn < i := by omega
    have e1 : st[i]? = some (st.getD i []) := by rw [List.getD_eq_getElem?_getD, List.getElem?_eq_getElem hi]; rfl
    have e2 : st[jn]? = some (st.getD jn []) := by rw [List.getD_eq_getElem?_getD, List.getElem?_eq_getElem (show jn < st.length by omega)]; rfl
    refine (within_in h i jn _ _ e1 e2 hji).mono ?_
    rintro e w' ⟨u, rfl, hx, hr⟩
    have hw : withinL st i (jn : Int) = if (st.getD i []).take (st.getD jn []).length = st.getD jn [] then some ((st.getD i []).drop (st.getD jn []).length) else none := by
      unfold withinL
      rw [if_neg hj, Int.toNat_natCast]
    by_cases hq : (st.getD i []).take (st.getD jn []).length = st.getD jn []
    · rw [if_pos hq] at hw
      refine ⟨u, by rw [hw, decide_eq_true hq]; rfl, hx, fun r hr' => ?_⟩
      rw [hw] at hr'
      injection hr' with hr'
      subst hr'
      exact hr hq
    · rw [if_neg hq] at hw
      exact ⟨u, by rw [hw, decide_eq_false hq]; rfl, hx, fun r hr' => by rw [hw] at hr'; cases hr'⟩
end Go.Proofs.YtipnbfbakohcaaaDoor
