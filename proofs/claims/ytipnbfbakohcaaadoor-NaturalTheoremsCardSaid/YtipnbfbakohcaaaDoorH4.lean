/- The reference's follows. -/
import Derived.Test.YtipnbfbakohcaaaDoorL3
import Derived.Test.YtipnbfbakohcaaaDoorH3
import Derived.Test.YtipnbfbakohcaaaDoorL4
import Derived.Test.YtipnbfbakohcaaaDoorH2
import Derived.Laws.AppendOwnNone
import Derived.Test.YtipnbfbakohcaaaDoorG9

namespace Go.Proofs.YtipnbfbakohcaaaDoor
open Go.RowKit

theorem followsR_at {lg : Int} {ls : List Ln} {s : List (List Int)} {i : Nat} {n : Ln} (hg : ls.getD i Ln.zero = n) : followsR lg ls s i =
    bif n.rule != 2 && n.agent != 0 then false else bif n.rule == 1 then decide (n.from_.length = 0) else bif n.rule == 2 then decide (n.from_.length = 0) && (lastN n.f).op == 1 else bif n.rule == 17 then importR lg ls s i else propR ls s i || (closR ls s i || modalR lg ls s i) := by
  unfold followsR
  rw [hg]
set_option maxRecDepth 100000 in
set_option maxHeartbeats 8000000 in
theorem rfollows_any {w : World} {b : Nat} {lg : Int} {ls : List Ln} {s : List (List Int)} {i : Nat} {n : Ln} (h : Prf w b lg ls s) (ok : RefOk ls s i n) (hlg : 0 ≤ lg ∧ lg ≤ 6) :
    Calls Tryd.prog 33 #[.pointer (some ⟨b, 0, none⟩), .int .i64 i] w fun e w' => e = .returned (.bool (followsR lg ls s i)) ∧ Ext w w' := by
  have hi := ok.n_at
  have hgn : ls.getD i Ln.zero = n := by rw [List.getD_eq_getElem?_getD, hi]; rfl
  have HP := Lib.hid (followsR_at (lg := lg) (s := s) hgn)
  obtain ⟨ad, c, vs, uf, ur, hc1, hc2, hlt, d0, d1, d2, q0, q1, q2, q3, q4, hff, ⟨Ar, cr, rfl, hir⟩⟩ := h.line hi
  obtain ⟨Af, cf, rfl, _⟩ := fml_slice hff
  have hil : i < ls.length := (List.getElem?_eq_some_iff.1 hi).1
  have hil0 : (0 : Int) ≤ (i : Int) := by omega
  have hil1 : (i : Int) < (ls.length : Int) := by omega
  have H := Lib.hid h
  have OK := Lib.hid ok
  have HF0 := Lib.hid hff
  have HLG := Lib.hid hlg
  have X0 := Lib.hid ((Ext.refl w).alloc (.cells #[.int .i64 n.depth, .int .i64 n.rule, .slice Af n.f.length cf, .int .i64 n.agent, .slice Ar n.from_.length cr] 45))
  clear h ok hi hgn hff hir hlg d0 d2
  cases h2 : n.rule == 2
  · have h2' : (n.rule != 2) = true := by rw [bne, h2]; rfl
    cases ha : n.agent != 0
    · cases h1 : n.rule == 1
      · cases h17 : n.rule == 17
        · have HQ := Lib.hid (show followsR lg ls s i = (propR ls s i || (closR ls s i || modalR lg ls s i)) by rw [HP.out, h2', ha, h1, h2, h17] <;> rfl)
          clear HP
          go_enter Tryd.func33, Tryd.ntmps33
          go_wp2_with fail
          refine (prop_any (H.out.ext X0.out) OK.out).mono ?_
          rintro e w1 ⟨rfl, hx⟩
          have X1 := Lib.hid (X0.out.trans hx)
          clear hx
          cases p1 : propR ls s i
          · go_wp2_with fail
            refine (clos_any (H.out.ext X1.out) OK.out).mono ?_
            rintro e w2 ⟨rfl, hx⟩
            have X2 := Lib.hid (X1.out.trans hx)
            clear hx
            cases p2 : closR ls s i
            · have HE := Lib.hid (show followsR lg ls s i = modalR lg ls s i by rw [HQ.out, p1, p2] <;> rfl)
              go_wp2_with fail
              refine (modal_any (H.out.ext X2.out) OK.out HLG.out).mono ?_
              rintro e w3 ⟨rfl, hx⟩
              have X3 := Lib.hid (X2.out.trans hx)
              clear hx
              go_wp2_with fail
              go_ret
              exact ⟨by rw [HE.out] <;> rfl, X3.out⟩
            · have HE := Lib.hid (show followsR lg ls s i = true by rw [HQ.out, p1, p2] <;> rfl)
              go_wp2_with fail
              go_ret
              exact ⟨by rw [HE.out] <;> rfl, X2.out⟩
          · have HE := Lib.hid (show followsR lg ls s i = true by rw [HQ.out, p1] <;> rfl)
            go_wp2_with fail
            go_ret
            exact ⟨by rw [HE.out] <;> rfl, X1.out⟩
        · have HE := Lib.hid (show followsR lg ls s i = importR lg ls s i by rw [HP.out, h2', ha, h1, h2, h17] <;> rfl)
          clear HP
          go_enter Tryd.func33, Tryd.ntmps33
          go_wp2_with fail
          refine (rimported_any (H.out.ext X0.out) OK.out HLG.out).mono ?_
          rintro e w1 ⟨rfl, hx⟩
          have X1 := Lib.hid (X0.out.trans hx)
          clear hx
          go_wp2_with fail
          go_ret
          exact ⟨by rw [HE.out] <;> rfl, X1.out⟩
      · have HE := Lib.hid (show followsR lg ls s i = decide (n.from_.length = 0) by rw [HP.out, h2', ha, h1] <;> rfl)
        clear HP
        by_cases hm : n.from_.length = 0
        · rw [decide_eq_true hm] at HE
          have tm : ((n.from_.length : Int) == 0) = true := by rw [beq_iff_eq]; omega
          clear hm
          go_enter Tryd.func33, Tryd.ntmps33
          go_wp2_with fail
          go_ret
          exact ⟨by rw [HE.out] <;> rfl, X0.out⟩
        · rw [decide_eq_false hm] at HE
          have tm : ((n.from_.length : Int) == 0) = false := by rw [beq_eq_false_iff_ne]; omega
          clear hm
          go_enter Tryd.func33, Tryd.ntmps33
          go_wp2_with fail
          go_ret
          exact ⟨by rw [HE.out] <;> rfl, X0.out⟩
    · have HE := Lib.hid (show followsR lg ls s i = false by rw [HP.out, h2', ha] <;> rfl)
      clear HP
      go_enter Tryd.func33, Tryd.ntmps33
      go_wp2_with fail
      go_ret
      exact ⟨by rw [HE.out] <;> rfl, X0.out⟩
  · have h2' : (n.rule != 2) = false := by rw [bne, h2]; rfl
    have hr2 : n.rule = 2 := by simpa using h2
    have HE := Lib.hid (show followsR lg ls s i = (decide (n.from_.length = 0) && (lastN n.f).op == 1) by rw [HP.out, h2', show (n.rule == 1) = false by rw [hr2]; rfl, h2] <;> rfl)
    clear HP h2 h2'
    rw [hr2] at q1 X0
    by_cases hm : n.from_.length = 0
    · rw [decide_eq_true hm] at HE
      have tm : ((n.from_.length : Int) == 0) = true := by rw [beq_iff_eq]; omega
      clear hm
      go_enter Tryd.func33, Tryd.ntmps33
      go_wp2_with fail
      refine (top_any _ n.f _ (HF0.out.ext X0.out)).mono ?_
      rintro e w1 ⟨rfl, hx⟩
      have X1 := Lib.hid (X0.out.trans hx)
      clear hx
      obtain ⟨fa, fb⟩ := node_field (lastN n.f) w1
      unfold Nd.val
      cases p1 : (lastN n.f).op == 1
      · have HE2 := Lib.hid (show followsR lg ls s i = false by rw [HE.out, p1] <;> rfl)
        go_wp2_with fail
        go_ret
        exact ⟨by rw [HE2.out] <;> rfl, X1.out⟩
      · have HE2 := Lib.hid (show followsR lg ls s i = true by rw [HE.out, p1] <;> rfl)
        go_wp2_with fail
        go_ret
        exact ⟨by rw [HE2.out] <;> rfl, X1.out⟩
    · rw [decide_eq_false hm] at HE
      have HE2 := Lib.hid (show followsR lg ls s i = false by rw [HE.out] <;> rfl)
      have tm : ((n.from_.length : Int) == 0) = false := by rw [beq_eq_false_iff_ne]; omega
      clear hm
      go_enter Tryd.func33, Tryd.ntmps33
      go_wp2_with fail
      go_ret
      exact ⟨by rw [HE2.out] <;> rfl, X0.out⟩
end Go.Proofs.YtipnbfbakohcaaaDoor

/- The reference's stacks. -/

namespace Go.Proofs.YtipnbfbakohcaaaDoor
open Go.RowKit

theorem ropens_at (dep : Int) (n : Ln) (uf ur : Value) (w : World) :
    Calls Tryd.prog 46 #[.agg #[.int .i64 dep, .int .i64 n.rule, uf, .int .i64 n.agent, ur]] w fun e w' => e = .returned (.bool (opensL n)) ∧ Ext w w' :=
  ropens_any { n with depth := dep } uf ur w
theorem stk_bad_open {n : Ln} {r : List Ln} {now : List Int} {out : List (List Int)} {i : Nat} (ho : opensL n = true) (h : n.depth < 1 ∨ (now.length : Int) + 1 < n.depth) : stacksR (n :: r) now out i = (out, i) := by
  unfold stacksR
  rw [ho]
  have : (decide (n.depth < 0) || (decide ((bif true then (now.length : Int) + 1 else (now.length : Int)) < n.depth) || (true && decide (n.depth < 1)))) = true := by
    simp only [cond_true, Bool.true_and, Bool.or_eq_true, decide_eq_true_iff]; omega
  rw [this]
  rfl
theorem stk_bad_plain {n : Ln} {r : List Ln} {now : List Int} {out : List (List Int)} {i : Nat} (ho : opensL n = false) (h : n.depth < 0 ∨ (now.length : Int) < n.depth) : stacksR (n :: r) now out i = (out, i) := by
  unfold stacksR
  rw [ho]
  have : (decide (n.depth < 0) || (decide ((bif false then (now.length : Int) + 1 else (now.length : Int)) < n.depth) || (false && decide (n.depth < 1)))) = true := by
    simp only [cond_false, Bool.false_and, Bool.or_false, Bool.or_eq_true, decide_eq_true_iff]; omega
  rw [this]
  rfl
theorem stk_open {n : Ln} {r : List Ln} {now : List Int} {out : List (List Int)} {i d : Nat} (ho : opensL n = true) (hd : n.depth = (d : Int) + 1) (h : d ≤ now.length) : stacksR (n :: r) now out i = stacksR r (now.take d ++ [(i : Int)]) (out ++ [now.take d ++ [(i : Int)]]) (i + 1) := by
  conv => lhs; unfold stacksR
  rw [ho]
  have : (decide (n.depth < 0) || (decide ((bif true then (now.length : Int) + 1 else (now.length : Int)) < n.depth) || (true && decide (n.depth < 1)))) = false := by
    rw [Bool.eq_false_iff]
    simp only [cond_true, Bool.true_and, ne_eq, Bool.or_eq_true, decide_eq_true_iff]; omega
  rw [this, cond_false, cond_true, show (n.depth - 1).toNat = d by omega]
theorem stk_plain {n : Ln} {r : List Ln} {now : List Int} {out : List (List Int)} {i d : Nat} (ho : opensL n = false) (hd : n.depth = (d : Int)) (h : d ≤ now.length) : stacksR (n :: r) now out i = stacksR r (now.take d) (out ++ [now.take d]) (i + 1) := by
  conv => lhs; unfold stacksR
  rw [ho]
  have : (decide (n.depth < 0) || (decide ((bif false then (now.length : Int) + 1 else (now.length : Int)) < n.depth) || (false && decide (n.depth < 1)))) = false := by
    rw [Bool.eq_false_iff]
    simp only [cond_false, Bool.false_and, Bool.or_false, ne_eq, Bool.or_eq_true, decide_eq_true_iff]; omega
  rw [this, cond_false, cond_false, show n.depth.toNat = d by omega]
theorem drop_at {ls : List Ln} {i : Nat} {n : Ln} (h : ls[i]? = some n) : ls.drop i = n :: ls.drop (i + 1) := by
  obtain ⟨hi, e⟩ := List.getElem?_eq_some_iff.1 h
  rw [List.drop_eq_getElem_cons hi, e]

/-- A value's block is not the row's. -/
def Away (w : World) (vo u : Value) : Prop := ∀ g, u.ownBlock = some g → g < w.heap.size ∧ vo.ownBlock ≠ some g
theorem Away.ext {w w' : World} {vo u : Value} (h : Away w vo u) (he : Ext w w') : Away w' vo u := fun g hg => ⟨Nat.lt_of_lt_of_le (h g hg).1 he.size, (h g hg).2⟩
theorem Away.none_ (w : World) (vo : Value) : Away w vo (.slice none 0 0) := fun g hg => by cases hg
/-- The stacks so far, in a row of the call's own. -/
structure StkR (w0 w : World) (vo : Value) (out : List (List Int)) : Prop where
  ext : Ext w0 w
  row : ∃ us, w.ownsRow w0.heap.size 43 1 vo out.length us ∧ ∀ (k : Nat) (s : List Int), out[k]? = some s → ∃ u, us[k]? = some u ∧ Ints w u s ∧ Away w vo u
theorem StkR.ext_ {w0 w w' : World} {vo : Value} {out : List (List Int)} (h : StkR w0 w vo out) (he : Ext w w') : StkR w0 w' vo out := by
  obtain ⟨us, hr, hu⟩ := h.row
  refine ⟨h.ext.trans he, us, row_ext hr he, fun k s hk => ?_⟩
  obtain ⟨u, a, b, c⟩ := hu k s hk
  exact ⟨u, a, b.ext he, c.ext he⟩
theorem StkR.list {w0 w : World} {vo : Value} {out : List (List Int)} (h : StkR w0 w vo out) : IntsL w vo out := by
  obtain ⟨ss, hs, hv⟩ := h.row
  by_cases h0 : 0 < out.length
  · obtain ⟨g, cap, rfl, hg, h1, h2, hc⟩ := row1_cells hs h0
    refine ⟨_, cap, rfl, h1, h2, fun _ => ⟨_, rfl, hg, fun k f hk => ?_⟩⟩
    obtain ⟨u, a, b, _⟩ := hv k f hk
    exact ⟨u, by rw [addr_zero]; exact hc k u a, b⟩
  · have e : out = [] := List.length_eq_zero_iff.1 (by omega)
    subst e
    obtain ⟨A, c, rfl⟩ := slice_of_row hs
    rcases hs.2 with ⟨e, _⟩ | ⟨g, cap, cur, e, _, _, hn, hm, _⟩
    · injection e with e1 _ e2
      subst e1 e2
      exact ⟨_, _, rfl, Nat.le_refl _, by unfold maxLen; omega, fun h => absurd rfl h⟩
    · injection e with e1 _ e2
      subst e1 e2
      exact ⟨_, _, rfl, Nat.zero_le _, hm, fun h => absurd rfl h⟩
theorem StkR.push {w0 W w4 : World} {vo v' x : Value} {out : List (List Int)} {s : List Int} {ss : List Value} (he : Ext w0 W) (hs : W.ownsRow w0.heap.size 43 1 vo out.length ss) (hv : ∀ (k : Nat) (s : List Int), out[k]? = some s → ∃ u, ss[k]? = some u ∧ Ints W u s ∧ Away W vo u)
    (hrow : w4.ownsRow w0.heap.size 43 1 v' (out.length + 1) (ss ++ [x])) (hg : W.grownBy w4 vo.ownBlock) (hat : v'.ownBlock = vo.ownBlock ∨ v'.ownBlock = some W.heap.size) (hx : Ints W x s) (hxf : Away W vo x) :
    StkR w0 w4 v' (out ++ [s]) ∧ Ints w4 x s ∧ Away w4 v' x := by
  have hlen : ss.length = out.length := by simpa using hs.1
  have hkeep : ∀ g, g < W.heap.size → vo.ownBlock ≠ some g → w4.heap[g]? = W.heap[g]? := fun g h1 h2 => hg.block g h1 (fun e => h2 e.symm)
  have haway : ∀ u, Away W vo u → Away w4 v' u := fun u hu g hgu => by
    obtain ⟨a, b⟩ := hu g hgu
    refine ⟨Nat.lt_of_lt_of_le a hg.size, fun e => ?_⟩
    rcases hat with e1 | e1
    · exact b (e1.symm.trans e)
    · rw [e1] at e; injection e with e; omega
  have hints : ∀ u s, Away W vo u → Ints W u s → Ints w4 u s := fun u s ha hi => hi.keep (fun g hg' _ => hkeep g (ha g hg').1 (ha g hg').2) hg.size
  refine ⟨⟨he.grown hg (fun g hg' => (hs.lt g hg').1), ss ++ [x], by rw [List.length_append]; exact hrow, fun k s' hk => ?_⟩, hints x s hxf hx, haway x hxf⟩
  by_cases hk' : k < out.length
  · rw [List.getElem?_append_left hk'] at hk
    obtain ⟨u, a, b, c⟩ := hv k s' hk
    exact ⟨u, by rw [List.getElem?_append_left (by omega)]; exact a, hints u s' c b, haway u c⟩
  · rw [List.getElem?_append_right (by omega)] at hk
    have hk0 : k = out.length := by
      by_cases e : k - out.length = 0
      · omega
      · rw [List.getElem?_eq_none (by simp; omega)] at hk; cases hk
    subst hk0
    simp at hk
    subst hk
    exact ⟨x, by rw [List.getElem?_append_right (by omega), hlen]; simp, hints x _ hxf hx, haway x hxf⟩
set_option maxRecDepth 100000 in
/-- 'append([]int{}, s...)'. -/
theorem wp_append_ints {ops : Array Oper} {rest : List Oper} {o : Oper} {a : Act} {Q : Exit → Act → World → Prop} (hgd : o.guard = none) (s x : Operand) (ho : o.op = .call { callee := .builtin .append, args := #[s, x], argTypes := #[43, 43] })
    (W : World) (hs : a.eval s = .slice (some ⟨W.heap.size, 0, none⟩) 0 0) (A : Option Addr) (n c : Nat) (l : List Int) (hn : l.length = n) (hx : a.eval x = .slice A n c) (hA : A = none → c = 0) (hr : Ints W (.slice A n c) l) (hlen : n ≤ 1000)
    (h : ∀ v' w', w'.ownsRow W.heap.size 3 1 v' n (l.map (Value.int .i64)) → (W.alloc (.cells #[] 3)).grownBy w' (some W.heap.size) → (∃ ad c', v' = .slice (some ad) n c') → wpList Tryd.prog ops Q rest (a.put o.dst v') w') : wpList Tryd.prog ops Q (o :: rest) a (W.alloc (.cells #[] 3)) := by
  obtain ⟨i3, hi3, hz30, hz31, hz32⟩ := info_parts tInfo3
  obtain ⟨A', c', e, hcap, hmax, hread⟩ := hr
  injection e with e1 e2 e3
  subst e1 e3
  cases A with
  | none =>
    have hl : l = [] := Classical.byContradiction fun hne => by
      obtain ⟨ad, h, _⟩ := hread hne
      cases h
    subst hl
    have hn0 : n = 0 := hn.symm
    subst hn0
    have hc0 : c = 0 := hA rfl
    subst hc0
    refine wpList_append_own_none hgd s x 43 ho W.heap.size 3 i3 1 Tryd.underlying43 hi3 _ 0 [] hs (row_own_new W _) hx ?_
    exact h _ _ (row_own_new W _) ⟨rfl, rfl, rfl, Nat.le_refl _, fun _ _ _ => rfl⟩ ⟨_, _, rfl⟩
  | some ad =>
    have hc3 : 0 + n ≤ maxLen := by unfold maxLen; omega
    have hc4 : (0 + n) * 8 ≤ 140737488355328 := by omega
    have hcells : ∀ k z, l[k]? = some z → W.cell? (ad.add k) = some (.int .i64 z) ∧ ad.block < W.heap.size := fun k z hk => by
      obtain ⟨ad', h, hlt, hc⟩ := hread (by intro e; rw [e] at hk; simp at hk)
      injection h with h
      subst h
      exact ⟨hc k z hk, hlt⟩
    refine wpList_append_own_at _ hgd s x 43 ho W.heap.size 3 i3 (.int .i64 0) 1 8 Tryd.underlying43 hi3 hz30 hz31 hz32 rfl (by decide) _ 0 [] hs (row_own_new W _) ad n c (l.map (Value.int .i64)) hx (by simp [hn]) (ints_cells (fun k z hk => ((Ext.refl W).alloc _).cell (p := ad.add k) (by rw [block_of_add]; exact (hcells k z hk).2) ▸ (hcells k z hk).1)) (fun u hu => by obtain ⟨z, _, rfl⟩ := List.mem_map.1 hu; rfl) hc3 hc4 (by simp) ?_
    intro v' w' hown hgrow hnil _
    rw [Nat.zero_add, List.nil_append] at hown
    refine h v' w' hown hgrow ?_
    rcases hown.2 with ⟨e, _⟩ | ⟨g, cap, cur, e, _⟩
    · have := (hnil.1 e).1
      cases this
    · exact ⟨_, _, e⟩
theorem made_away {w W : World} {vo x : Value} {B n k : Nat} {us zs : List Value} {e : TypeId} {sz m : Nat} (hB : w.heap.size ≤ B) (hx : W.ownsRow B e sz x n zs) (hs : w.ownsRow m 43 1 vo k us) : Away W vo x := fun g hg => by
  obtain ⟨h1, h2⟩ := hx.lt g hg
  exact ⟨h2, fun e => by have := (hs.lt g e).2; omega⟩

set_option maxRecDepth 100000 in
set_option maxHeartbeats 16000000 in
theorem rstacks_any {w : World} {v : Value} {ls : List Ln} (h : Lns w v ls) (hl : ls.length ≤ 400) :
    Calls Tryd.prog 30 #[v] w fun e w' => ∃ u, e = .returned (.tuple #[u, .int .i64 ((stacksR ls [] [] 0).2 : Int)]) ∧ Ext w w' ∧ IntsL w' u (stacksR ls [] [] 0).1 := by
  obtain ⟨A, c, rfl, hcap, hmax, hr⟩ := h
  unfold maxLen at hmax
  have HR := Lib.hid hr
  obtain ⟨iI, hiI, hzI0, hzI1, hzI2⟩ := info_parts tInfoI
  obtain ⟨i3, hi3, hz30, hz31, hz32⟩ := info_parts tInfo3
  clear hr
  go_enter Tryd.func30, Tryd.ntmps30
  go_wp2_with fail
  go_loopw [4, 5, 6] (fun vo vn vi wr => ∃ i : Nat, vi = .int .i64 (i : Int) ∧ i ≤ ls.length ∧ Hid (∃ (out : List (List Int)) (now : List Int) (An : Option Addr) (cn : Nat), vn = .slice An now.length cn ∧ (An = none → cn = 0) ∧ out.length = i ∧ now.length ≤ i ∧ Ints wr vn now ∧ Away wr vo vn ∧ StkR w wr vo out ∧ stacksR (ls.drop i) now out i = stacksR ls [] [] 0)) (fun _ _ v _ => ls.length - (intOf v).toNat)
  case atStart => exact ⟨0, rfl, Nat.zero_le _, Lib.hid ⟨[], [], none, 0, rfl, fun _ => rfl, rfl, Nat.zero_le _, Ints.none_ _, Away.none_ _ _, ⟨Ext.refl _, [], World.ownsRow_nil _ _ _ _, fun k s h => by simp at h⟩, rfl⟩⟩
  case round =>
    obtain ⟨i, rfl, hi, HREL⟩ := hrel
    obtain ⟨out, now, An, cn, rfl, hAn, houtl, hnowl, hnow, haw, hst, hrec⟩ := HREL.out
    obtain ⟨us, hrow, hus⟩ := hst.row
    obtain ⟨Ao, co, rfl⟩ := slice_of_row hrow
    have HAn := Lib.hid hAn
    have HNOW := Lib.hid hnow
    have HAW := Lib.hid haw
    have HST := Lib.hid hst
    have HROW := Lib.hid hrow
    have HUS := Lib.hid hus
    have HREC := Lib.hid hrec
    have HOUTL := Lib.hid houtl
    have houtb : out.length ≤ 400 := by omega
    have hncap : now.length ≤ cn := by
      obtain ⟨A', c', e, h1, _⟩ := hnow
      injection e with _ _ e3
      subst e3
      exact h1
    clear HREL hAn hnow haw hst hrow hus hrec houtl
    by_cases hlt2 : i < ls.length
    · obtain ⟨n, hn⟩ : ∃ n, ls[i]? = some n := ⟨_, List.getElem?_eq_getElem hlt2⟩
      obtain ⟨ad, rfl, hblk, hcells⟩ := HR.out (by intro e; rw [e] at hlt2; simp at hlt2)
      obtain ⟨uf, ur, p0, p1, p2, p3, p4, _, _⟩ := hcells i n hn
      have hbk : (ad.add (i * 5)).block < w.heap.size := by rw [block_of_add]; exact hblk
      have HQ := Lib.hid (show ∀ W, Ext w W → (W.cell? (ad.add (i * 5)) = some (.int .i64 n.depth) ∧ W.cell? ⟨(ad.add (i * 5)).block, (ad.add (i * 5)).off + 1, none⟩ = some (.int .i64 n.rule) ∧ W.cell? ⟨(ad.add (i * 5)).block, (ad.add (i * 5)).off + 2, none⟩ = some uf ∧ W.cell? ⟨(ad.add (i * 5)).block, (ad.add (i * 5)).off + 3, none⟩ = some (.int .i64 n.agent) ∧ W.cell? ⟨(ad.add (i * 5)).block, (ad.add (i * 5)).off + 4, none⟩ = some ur) from
        fun W hW => ⟨(hW.cell (p := ad.add (i * 5)) hbk).trans p0, (hW.cell (p := ⟨(ad.add (i * 5)).block, (ad.add (i * 5)).off + 1, none⟩) hbk).trans p1, (hW.cell (p := ⟨(ad.add (i * 5)).block, (ad.add (i * 5)).off + 2, none⟩) hbk).trans p2, (hW.cell (p := ⟨(ad.add (i * 5)).block, (ad.add (i * 5)).off + 3, none⟩) hbk).trans p3, (hW.cell (p := ⟨(ad.add (i * 5)).block, (ad.add (i * 5)).off + 4, none⟩) hbk).trans p4⟩)
      have HN := Lib.hid (drop_at hn)
      have X0 := Lib.hid HST.out.ext
      have hir0 : (0 : Int) ≤ (i : Int) := by omega
      have hir1 : (i : Int) < (ls.length : Int) := by omega
      have hw1 : IntKind.i64.wrap ((now.length : Int) + 1) = (now.length : Int) + 1 := by rw [IntKind.wrap_i64]; omega
      clear hcells p0 p1 p2 p3 p4 hn
      cases ho : opensL n
      case false =>
        have HO := Lib.hid ho
        by_cases hb0 : n.depth < 0
        · have HE := Lib.hid (HREC.out.symm.trans ((congrArg (fun l => stacksR l now out i) HN.out).trans (stk_bad_plain ho (.inl hb0))))
          clear ho
          obtain ⟨q0, q1, q2, q3, q4⟩ := HQ.out _ X0.out
          go_wp2_with fail
          refine (ropens_at _ n _ _ _).mono ?_
          rintro e w1 ⟨rfl, hx⟩
          rw [HO.out]
          have X1 := Lib.hid (X0.out.trans hx)
          have Y1 := Lib.hid (hx)
          clear hx q0 q1 q2 q3 q4
          obtain ⟨q0, q1, q2, q3, q4⟩ := HQ.out _ X1.out
          go_wp2_with fail
          go_ret2
          exact ⟨_, by rw [HE.out] <;> rfl, X1.out, by rw [HE.out]; exact (HST.out.ext_ Y1.out).list⟩
        · by_cases hb1 : (now.length : Int) < n.depth
          · have HE := Lib.hid (HREC.out.symm.trans ((congrArg (fun l => stacksR l now out i) HN.out).trans (stk_bad_plain ho (.inr hb1))))
            clear ho
            obtain ⟨q0, q1, q2, q3, q4⟩ := HQ.out _ X0.out
            go_wp2_with fail
            refine (ropens_at _ n _ _ _).mono ?_
            rintro e w1 ⟨rfl, hx⟩
            rw [HO.out]
            have X1 := Lib.hid (X0.out.trans hx)
            have Y1 := Lib.hid (hx)
            clear hx q0 q1 q2 q3 q4
            obtain ⟨q0, q1, q2, q3, q4⟩ := HQ.out _ X1.out
            go_wp2_with fail
            go_ret2
            exact ⟨_, by rw [HE.out] <;> rfl, X1.out, by rw [HE.out]; exact (HST.out.ext_ Y1.out).list⟩
          · obtain ⟨d, hd⟩ : ∃ d : Nat, n.depth = (d : Int) := ⟨n.depth.toNat, by omega⟩
            have hdl : d ≤ now.length := by omega
            have HS := Lib.hid (HREC.out.symm.trans ((congrArg (fun l => stacksR l now out i) HN.out).trans (stk_plain ho hd hdl)))
            have HT := Lib.hid (Ints.take_ (show IntsAt wr An cn now by obtain ⟨A', c', e, h⟩ := HNOW.out; injection e with e1 _ e3; subst e1 e3; exact h) hdl)
            have HTL := Lib.hid (show (now.take d).length = d by rw [List.length_take]; omega)
            have hn0 : ¬ ((d : Int) < 0) := by omega
            have hn1 : ¬ ((now.length : Int) < (d : Int)) := by omega
            have hn5 : ¬ now.length < d := by omega
            have hn6 : decide (now.length < d) = false := decide_eq_false hn5
            have hn2 : d ≤ cn := by omega
            have hn3 : (d : Int) ≤ (cn : Int) := by omega
            have hn4 : ((d : Int) + 1 - 1) = (d : Int) := by omega
            have hwr : IntKind.i64.wrap (d : Int) = (d : Int) := by rw [IntKind.wrap_i64]; omega
            have hd9 : ¬ ((d : Int) + 1 < 1) := by omega
            have hd10 : (0 : Int) ≤ (d : Int) := by omega
            have hdb : d ≤ 1000 := by omega
            have hc3 : out.length + 1 ≤ maxLen := by unfold maxLen; omega
            have hc4 : (out.length + 1) * 24 ≤ 140737488355328 := by omega
            clear ho hb0 hb1
            obtain ⟨q0, q1, q2, q3, q4⟩ := HQ.out _ X0.out
            rw [hd] at q0
            go_wp2_with fail
            refine (ropens_at _ n _ _ _).mono ?_
            rintro e w1 ⟨rfl, hx⟩
            rw [HO.out]
            have X1 := Lib.hid (X0.out.trans hx)
            have Y1 := Lib.hid (hx)
            clear hx q0 q1 q2 q3 q4
            obtain ⟨q0, q1, q2, q3, q4⟩ := HQ.out _ X1.out
            rw [hd] at q0
            go_wp2_with fail
            refine (ropens_at _ n _ _ _).mono ?_
            rintro e w2 ⟨rfl, hx⟩
            rw [HO.out]
            have X2 := Lib.hid (X1.out.trans hx)
            have Y2 := Lib.hid (Y1.out.trans hx)
            clear hx q0 q1 q2 q3 q4
            obtain ⟨q0, q1, q2, q3, q4⟩ := HQ.out _ X2.out
            rw [hd] at q0
            go_wp2_with fail
            refine (ropens_at _ n _ _ _).mono ?_
            rintro e w3 ⟨rfl, hx⟩
            rw [HO.out]
            have X3 := Lib.hid (X2.out.trans hx)
            have Y3 := Lib.hid (Y2.out.trans hx)
            clear hx q0 q1 q2 q3 q4
            obtain ⟨q0, q1, q2, q3, q4⟩ := HQ.out _ X3.out
            rw [hd] at q0
            go_wp2_with (at_builtin; refine wp_append_ints rfl _ _ rfl w3 rfl An d cn (now.take d) HTL.out rfl HAn.out (by have := HT.out.ext Y3.out; exact this) hdb ?_)
            intro v5 w5 hown5 hgrow5 A5 c5 hv5
            subst hv5
            have HX5 := Lib.hid ((Ext.alloc (Ext.refl w3) _).grown hgrow5 (fun g hg => by injection hg with hg; omega))
            have Y5 := Lib.hid (Y3.out.trans HX5.out)
            have HROW5 := Lib.hid hown5
            clear hown5 hgrow5
            have HSI := Lib.hid (show Ints w5 (.slice (some A5) d c5) (now.take d) by
              have := HROW5.out
              refine ints_of_row (base := w3.heap.size) ?_
              rw [HTL.out, List.map_take]
              exact this)
            go_wp2_with (at_builtin; refine wpList_append_own_at _ rfl _ _ 49 rfl w.heap.size 43 iI (.slice none 0 0) 1 24 Tryd.underlying49 hiI hzI0 hzI1 hzI2 rfl (by decide) _ out.length us rfl (row_ext HROW.out (Y5.out.alloc _)) ⟨_, 0, none⟩ 1 1 [(.slice (some A5) d c5)] rfl rfl (row_new_at _ _ _ (by simp)) (fun u hu => by rw [List.mem_singleton.1 hu]; rfl) hc3 hc4 (Nat.le_trans X0.out.size (Y5.out.alloc _).size) ?_)
            intro v7 w7 hown7 hgrow7 _ hat7
            have HPS := Lib.hid (StkR.push (s := (now.take d)) (X0.out.trans (Y5.out.alloc _)) (row_ext HROW.out (Y5.out.alloc _)) (fun k s hk => by
              obtain ⟨u, a, b, c⟩ := HUS.out k s hk
              exact ⟨u, a, b.ext (Y5.out.alloc _), c.ext (Y5.out.alloc _)⟩) hown7 hgrow7 (hat7.imp id (fun e => e.trans (by simp))) (HSI.out.ext ((Ext.refl _).alloc _)) (made_away Y3.out.size (row_ext HROW5.out ((Ext.refl _).alloc _)) HROW.out))
            obtain ⟨A7, c7, rfl⟩ := slice_of_row hown7
            clear hown7 hgrow7 hat7 q0 q1 q2 q3 q4
            go_wp2_with fail
            go_roundw
            case rel => exact ⟨i + 1, by go_num, by omega, Lib.hid ⟨out ++ [(now.take d)], (now.take d), some A5, c5, by rw [show (now.take d).length = d by rw [HTL.out]], (fun h => nomatch h), by rw [List.length_append, HOUTL.out]; rfl, by rw [show (now.take d).length = d by rw [HTL.out]]; omega, HPS.out.2.1, HPS.out.2.2, HPS.out.1, HS.out.symm⟩⟩
            case measure => simp [intOf]; omega
      case true =>
        have HO := Lib.hid ho
        by_cases hb0 : n.depth < 0
        · have HE := Lib.hid (HREC.out.symm.trans ((congrArg (fun l => stacksR l now out i) HN.out).trans (stk_bad_open ho (.inl (by omega)))))
          clear ho
          obtain ⟨q0, q1, q2, q3, q4⟩ := HQ.out _ X0.out
          go_wp2_with fail
          refine (ropens_at _ n _ _ _).mono ?_
          rintro e w1 ⟨rfl, hx⟩
          rw [HO.out]
          have X1 := Lib.hid (X0.out.trans hx)
          have Y1 := Lib.hid (hx)
          clear hx q0 q1 q2 q3 q4
          obtain ⟨q0, q1, q2, q3, q4⟩ := HQ.out _ X1.out
          go_wp2_with fail
          go_ret2
          exact ⟨_, by rw [HE.out] <;> rfl, X1.out, by rw [HE.out]; exact (HST.out.ext_ Y1.out).list⟩
        · by_cases hb1 : (now.length : Int) + 1 < n.depth
          · have HE := Lib.hid (HREC.out.symm.trans ((congrArg (fun l => stacksR l now out i) HN.out).trans (stk_bad_open ho (.inr hb1))))
            clear ho
            obtain ⟨q0, q1, q2, q3, q4⟩ := HQ.out _ X0.out
            go_wp2_with fail
            refine (ropens_at _ n _ _ _).mono ?_
            rintro e w1 ⟨rfl, hx⟩
            rw [HO.out]
            have X1 := Lib.hid (X0.out.trans hx)
            have Y1 := Lib.hid (hx)
            clear hx q0 q1 q2 q3 q4
            obtain ⟨q0, q1, q2, q3, q4⟩ := HQ.out _ X1.out
            go_wp2_with fail
            go_ret2
            exact ⟨_, by rw [HE.out] <;> rfl, X1.out, by rw [HE.out]; exact (HST.out.ext_ Y1.out).list⟩
          · by_cases hb2 : n.depth < 1
            · have HE := Lib.hid (HREC.out.symm.trans ((congrArg (fun l => stacksR l now out i) HN.out).trans (stk_bad_open ho (.inl hb2))))
              clear ho
              obtain ⟨q0, q1, q2, q3, q4⟩ := HQ.out _ X0.out
              go_wp2_with fail
              refine (ropens_at _ n _ _ _).mono ?_
              rintro e w1 ⟨rfl, hx⟩
              rw [HO.out]
              have X1 := Lib.hid (X0.out.trans hx)
              have Y1 := Lib.hid (hx)
              clear hx q0 q1 q2 q3 q4
              obtain ⟨q0, q1, q2, q3, q4⟩ := HQ.out _ X1.out
              go_wp2_with fail
              refine (ropens_at _ n _ _ _).mono ?_
              rintro e w2 ⟨rfl, hx⟩
              rw [HO.out]
              have X2 := Lib.hid (X1.out.trans hx)
              have Y2 := Lib.hid (Y1.out.trans hx)
              clear hx q0 q1 q2 q3 q4
              obtain ⟨q0, q1, q2, q3, q4⟩ := HQ.out _ X2.out
              go_wp2_with fail
              go_ret2
              exact ⟨_, by rw [HE.out] <;> rfl, X2.out, by rw [HE.out]; exact (HST.out.ext_ Y2.out).list⟩
            · obtain ⟨d, hd⟩ : ∃ d : Nat, n.depth = (d : Int) + 1 := ⟨(n.depth - 1).toNat, by omega⟩
              have hdl : d ≤ now.length := by omega
              have HS := Lib.hid (HREC.out.symm.trans ((congrArg (fun l => stacksR l now out i) HN.out).trans (stk_open ho hd hdl)))
              have HT := Lib.hid (Ints.take_ (show IntsAt wr An cn now by obtain ⟨A', c', e, h⟩ := HNOW.out; injection e with e1 _ e3; subst e1 e3; exact h) hdl)
              have HTL := Lib.hid (show (now.take d).length = d by rw [List.length_take]; omega)
              have hn0 : ¬ ((d : Int) + 1 < 0) := by omega
              have hn1 : ¬ ((now.length : Int) + 1 < (d : Int) + 1) := by omega
              have hn5 : ¬ now.length < d := by omega
              have hn6 : decide (now.length < d) = false := decide_eq_false hn5
              have hn2 : d ≤ cn := by omega
              have hn3 : (d : Int) ≤ (cn : Int) := by omega
              have hn4 : ((d : Int) + 1 - 1) = (d : Int) := by omega
              have hwr : IntKind.i64.wrap (d : Int) = (d : Int) := by rw [IntKind.wrap_i64]; omega
              have hd9 : ¬ ((d : Int) + 1 < 1) := by omega
              have hd10 : (0 : Int) ≤ (d : Int) := by omega
              have hdb : d ≤ 1000 := by omega
              have hc3 : out.length + 1 ≤ maxLen := by unfold maxLen; omega
              have hc4 : (out.length + 1) * 24 ≤ 140737488355328 := by omega
              clear ho hb0 hb1 hb2
              obtain ⟨q0, q1, q2, q3, q4⟩ := HQ.out _ X0.out
              rw [hd] at q0
              go_wp2_with fail
              refine (ropens_at _ n _ _ _).mono ?_
              rintro e w1 ⟨rfl, hx⟩
              rw [HO.out]
              have X1 := Lib.hid (X0.out.trans hx)
              have Y1 := Lib.hid (hx)
              clear hx q0 q1 q2 q3 q4
              obtain ⟨q0, q1, q2, q3, q4⟩ := HQ.out _ X1.out
              rw [hd] at q0
              go_wp2_with fail
              refine (ropens_at _ n _ _ _).mono ?_
              rintro e w2 ⟨rfl, hx⟩
              rw [HO.out]
              have X2 := Lib.hid (X1.out.trans hx)
              have Y2 := Lib.hid (Y1.out.trans hx)
              clear hx q0 q1 q2 q3 q4
              obtain ⟨q0, q1, q2, q3, q4⟩ := HQ.out _ X2.out
              rw [hd] at q0
              go_wp2_with fail
              refine (ropens_at _ n _ _ _).mono ?_
              rintro e w3 ⟨rfl, hx⟩
              rw [HO.out]
              have X3 := Lib.hid (X2.out.trans hx)
              have Y3 := Lib.hid (Y2.out.trans hx)
              clear hx q0 q1 q2 q3 q4
              obtain ⟨q0, q1, q2, q3, q4⟩ := HQ.out _ X3.out
              rw [hd] at q0
              go_wp2_with (at_builtin; refine wp_append_ints rfl _ _ rfl w3 rfl An d cn (now.take d) HTL.out rfl HAn.out (by have := HT.out.ext Y3.out; exact this) hdb ?_)
              intro v5 w5 hown5 hgrow5 A5 c5 hv5
              subst hv5
              have HX5 := Lib.hid ((Ext.alloc (Ext.refl w3) _).grown hgrow5 (fun g hg => by injection hg with hg; omega))
              have Y5 := Lib.hid (Y3.out.trans HX5.out)
              have HROW5 := Lib.hid hown5
              clear hown5 hgrow5
              have hdc3 : d + 1 ≤ maxLen := by unfold maxLen; omega
              have hdc4 : (d + 1) * 8 ≤ 140737488355328 := by omega
              go_wp2_with (at_builtin; refine wpList_append_own_at _ rfl _ _ 43 rfl w3.heap.size 3 i3 (.int .i64 0) 1 8 Tryd.underlying43 hi3 hz30 hz31 hz32 rfl (by decide) _ d _ rfl (row_ext HROW5.out ((Ext.refl _).alloc _)) _ 1 1 [.int .i64 (i : Int)] rfl rfl (row_new_at _ _ _ (by simp)) (fun u hu => by rw [List.mem_singleton.1 hu]; rfl) hdc3 hdc4 (Nat.le_trans HX5.out.size (by simp)) ?_)
              intro v6 w6 hown6 hgrow6 hnil6 _
              obtain ⟨A6, c6, rfl⟩ : ∃ a c, v6 = .slice (some a) (d + 1) c := by
                rcases hown6.2 with ⟨e, _⟩ | ⟨g, cap, cur, e, _⟩
                · exact (hnil6 e).elim
                · exact ⟨_, _, e⟩
              have HX6 := Lib.hid ((HX5.out.alloc _).grown hgrow6 (fun g hg => (HROW5.out.lt g hg).1))
              have Y6 := Lib.hid (Y3.out.trans HX6.out)
              have HROW6 := Lib.hid hown6
              have HSI := Lib.hid (show Ints w6 (.slice (some A6) (d + 1) c6) (now.take d ++ [(i : Int)]) by
                have := HROW6.out
                have e : (now.take d ++ [(i : Int)]).length = d + 1 := by rw [List.length_append, HTL.out]; rfl
                refine ints_of_row (base := w3.heap.size) ?_
                rw [e, List.map_append, List.map_take]
                exact this)
              clear hown6 hgrow6 hnil6
              go_wp2_with (at_builtin; refine wpList_append_own_at _ rfl _ _ 49 rfl w.heap.size 43 iI (.slice none 0 0) 1 24 Tryd.underlying49 hiI hzI0 hzI1 hzI2 rfl (by decide) _ out.length us rfl (row_ext HROW.out (Y6.out.alloc _)) ⟨_, 0, none⟩ 1 1 [(.slice (some A6) (d + 1) c6)] rfl rfl (row_new_at _ _ _ (by simp)) (fun u hu => by rw [List.mem_singleton.1 hu]; rfl) hc3 hc4 (Nat.le_trans X0.out.size (Y6.out.alloc _).size) ?_)
              intro v7 w7 hown7 hgrow7 _ hat7
              have HPS := Lib.hid (StkR.push (s := (now.take d ++ [(i : Int)])) (X0.out.trans (Y6.out.alloc _)) (row_ext HROW.out (Y6.out.alloc _)) (fun k s hk => by
                obtain ⟨u, a, b, c⟩ := HUS.out k s hk
                exact ⟨u, a, b.ext (Y6.out.alloc _), c.ext (Y6.out.alloc _)⟩) hown7 hgrow7 (hat7.imp id (fun e => e.trans (by simp))) (HSI.out.ext ((Ext.refl _).alloc _)) (made_away Y3.out.size (row_ext HROW6.out ((Ext.refl _).alloc _)) HROW.out))
              obtain ⟨A7, c7, rfl⟩ := slice_of_row hown7
              clear hown7 hgrow7 hat7 q0 q1 q2 q3 q4
              go_wp2_with fail
              go_roundw
              case rel => exact ⟨i + 1, by go_num, by omega, Lib.hid ⟨out ++ [(now.take d ++ [(i : Int)])], (now.take d ++ [(i : Int)]), some A6, c6, by rw [show (now.take d ++ [(i : Int)]).length = d + 1 by rw [List.length_append, HTL.out]; rfl], (fun h => nomatch h), by rw [List.length_append, HOUTL.out]; rfl, by rw [show (now.take d ++ [(i : Int)]).length = d + 1 by rw [List.length_append, HTL.out]; rfl]; omega, HPS.out.2.1, HPS.out.2.2, HPS.out.1, HS.out.symm⟩⟩
              case measure => simp [intOf]; omega
    · obtain rfl : ls.length = i := by omega
      have HE := Lib.hid (show stacksR ls [] [] 0 = (out, ls.length) by
        rw [← HREC.out, List.drop_length]
        rfl)
      go_wp2_with fail
      go_ret2
      exact ⟨_, by rw [HE.out] <;> rfl, HST.out.ext, by rw [HE.out]; exact HST.out.list⟩
end Go.Proofs.YtipnbfbakohcaaaDoor

/- The reference's Check and Theorem. -/

namespace Go.Proofs.YtipnbfbakohcaaaDoor
open Go.RowKit

/-- The stacks fit the lines. -/
structure SOk (ls : List Ln) (st : List (List Int)) : Prop where
  st_ok : ∀ s ∈ st, s.length ≤ st.length ∧ ∀ o ∈ s, 0 ≤ o ∧ o < st.length
  op : ∀ (k : Nat) (m : Ln) (s : List Int), ls[k]? = some m → st[k]? = some s → opensL m = true → 0 < s.length
theorem SOk.next {ls : List Ln} {st : List (List Int)} (h : SOk ls st) {n : Ln} (hn : ls[st.length]? = some n) {s : List Int} (hp : pushL st n = some s) : SOk ls (st ++ [s]) := by
  have hl : (lastSt st).length ≤ st.length ∧ ∀ o ∈ lastSt st, 0 ≤ o ∧ o < st.length := by
    by_cases e : st = []
    · subst e; exact ⟨Nat.le_refl _, fun o ho => by simp [lastSt] at ho⟩
    · exact h.st_ok _ (lastSt_mem e)
  have hs : s.length ≤ st.length + 1 ∧ ∀ o ∈ s, 0 ≤ o ∧ o < (st.length : Int) + 1 := by
    rcases pushL_cases hp with ⟨_, d, rfl⟩ | ⟨_, d, rfl⟩
    · refine ⟨by have := List.length_take_le' d (lastSt st); simp; omega, fun o ho => ?_⟩
      rcases List.mem_append.1 ho with ho | ho
      · have := hl.2 o (List.mem_of_mem_take ho); omega
      · have e := List.mem_singleton.1 ho; omega
    · refine ⟨by have := List.length_take_le' d (lastSt st); omega, fun o ho => ?_⟩
      have := hl.2 o (List.mem_of_mem_take ho); omega
  refine ⟨fun t ht => ?_, fun k m t hm ht ho => ?_⟩
  · rw [List.length_append, List.length_singleton]
    rcases List.mem_append.1 ht with ht | ht
    · obtain ⟨a, b⟩ := h.st_ok t ht
      exact ⟨by omega, fun o ho => by have := b o ho; omega⟩
    · rw [List.mem_singleton.1 ht]
      exact ⟨hs.1, fun o ho => by have := hs.2 o ho; omega⟩
  · by_cases e : k < st.length
    · rw [List.getElem?_append_left e] at ht
      exact h.op k m t hm ht ho
    · rw [List.getElem?_append_right (by omega)] at ht
      have hk0 : k = st.length := by
        by_cases e2 : k - st.length = 0
        · omega
        · rw [List.getElem?_eq_none (by rw [List.length_singleton]; omega)] at ht; cases ht
      subst hk0
      rw [Nat.sub_self] at ht
      have hts : s = t := by simpa using ht
      subst hts
      have : m = n := by
        rw [hn] at hm
        exact (Option.some.inj hm).symm
      subst this
      rcases pushL_cases hp with ⟨_, d, rfl⟩ | ⟨ho', _⟩
      · simp
      · rw [ho] at ho'; cases ho'
theorem stacksR_sok {ls : List Ln} : ∀ (r : List Ln) (st : List (List Int)), ls.drop st.length = r → SOk ls st → st.length ≤ ls.length →
    SOk ls (stacksR r (lastSt st) st st.length).1 ∧ (stacksR r (lastSt st) st st.length).2 = (stacksR r (lastSt st) st st.length).1.length ∧ (stacksR r (lastSt st) st st.length).1.length ≤ ls.length
  | [], st, _, h, hl => ⟨h, rfl, hl⟩
  | n :: r, st, hd, h, hl => by
    have hi : ls[st.length]? = some n := by
      have := congrArg (fun l => l[0]?) hd
      simpa using this
    have hil := (List.getElem?_eq_some_iff.1 hi).1
    cases hp : pushL st n with
    | none => rw [stacksR_none hp]; exact ⟨h, rfl, hl⟩
    | some s =>
      rw [stacksR_some hp]
      refine stacksR_sok r (st ++ [s]) ?_ (h.next hi hp) (by rw [List.length_append, List.length_singleton]; omega)
      rw [List.length_append, List.length_singleton]
      have := congrArg (List.drop 1) hd
      simpa using this
theorem sok_all (ls : List Ln) : SOk ls (stacksR ls [] [] 0).1 ∧ (stacksR ls [] [] 0).2 = (stacksR ls [] [] 0).1.length ∧ (stacksR ls [] [] 0).1.length ≤ ls.length :=
  stacksR_sok ls [] rfl ⟨fun s h => (nomatch h), fun k m s _ h => by simp at h⟩ (Nat.zero_le _)
theorem refOk_of {ls : List Ln} {i : Nat} {n : Ln} (hl : ls.length ≤ 400) (hn : ls[i]? = some n) (hi : i < (stacksR ls [] [] 0).2) : RefOk ls (stacksR ls [] [] 0).1 i n := by
  obtain ⟨h1, h2, h3⟩ := sok_all ls
  rw [h2] at hi
  generalize (stacksR ls [] [] 0).1 = S at *
  have hat : ∀ j, j ≤ i → S[j]? = some (S.getD j []) := fun j hj => by rw [List.getD_eq_getElem?_getD, List.getElem?_eq_getElem (show j < S.length by omega)]; rfl
  refine ⟨hn, fun j hj => ⟨hat j hj, ?_⟩, fun j hj ho => ?_⟩
  · obtain ⟨a, b⟩ := h1.st_ok _ (List.mem_of_getElem? (hat j hj))
    exact ⟨by omega, fun o ho => by have := b o ho; omega⟩
  · have hil := (List.getElem?_eq_some_iff.1 hn).1
    exact h1.op j (ls.getD j Ln.zero) _ (by rw [List.getD_eq_getElem?_getD, List.getElem?_eq_getElem (show j < ls.length by omega)]; rfl) (hat j hj) ho
theorem chkR_step {lg : Int} {ls : List Ln} {S : List (List Int)} {wr i : Nat} {n : Ln} (hn : ls[i]? = some n) : chkR lg ls S wr (ls.drop i) i =
    bif check n.f != 0 then ((i : Int), check n.f) else bif decide (2 ≤ fragsN n.f) then ((i : Int), 10) else bif decide (wr ≤ i) || (decide (n.agent < 0) || decide (4 ≤ n.agent)) then ((i : Int), 3)
    else bif followsR lg ls S i then chkR lg ls S wr (ls.drop (i + 1)) (i + 1) else ((i : Int), 13) := by
  rw [drop_at hn]
  rfl

set_option maxRecDepth 100000 in
set_option maxHeartbeats 20000000 in
theorem rcheck_low {w : World} {lg : Int} {vl : Value} {ls : List Ln} (hl : Lns w vl ls) (h : lg < 0) :
    Calls Tryd.prog 10 #[.agg #[.int .i64 lg, vl]] w fun e w' => e = .returned (.tuple #[.int .i64 (checkR lg ls).1, .int .i64 (checkR lg ls).2]) ∧ Ext w w' := by
  obtain ⟨Al, cl, rfl, _⟩ := hl
  have HN := Lib.hid (show checkR lg ls = (0, 1) by unfold checkR; rw [show (decide (lg < 0) || decide (6 < lg)) = true by simp; omega]; rfl)
  have hd : decide (lg < 0) = true := by simpa using h
  go_enter Tryd.func10, Tryd.ntmps10
  go_wp2_with fail
  go_ret2
  exact ⟨by rw [HN.out] <;> rfl, (Ext.refl _).alloc _⟩

set_option maxRecDepth 100000 in
set_option maxHeartbeats 20000000 in
theorem rcheck_high {w : World} {lg : Int} {vl : Value} {ls : List Ln} (hl : Lns w vl ls) (h0 : ¬ lg < 0) (h : 6 < lg) :
    Calls Tryd.prog 10 #[.agg #[.int .i64 lg, vl]] w fun e w' => e = .returned (.tuple #[.int .i64 (checkR lg ls).1, .int .i64 (checkR lg ls).2]) ∧ Ext w w' := by
  obtain ⟨Al, cl, rfl, _⟩ := hl
  have HN := Lib.hid (show checkR lg ls = (0, 1) by unfold checkR; rw [show (decide (lg < 0) || decide (6 < lg)) = true by simp; omega]; rfl)
  go_enter Tryd.func10, Tryd.ntmps10
  go_wp2_with fail
  go_ret2
  exact ⟨by rw [HN.out] <;> rfl, (Ext.refl _).alloc _⟩

set_option maxRecDepth 100000 in
set_option maxHeartbeats 20000000 in
theorem rcheck_long {w : World} {lg : Int} {vl : Value} {ls : List Ln} (hl : Lns w vl ls) (h0 : 0 ≤ lg) (h6 : lg ≤ 6) (h : 400 < ls.length) :
    Calls Tryd.prog 10 #[.agg #[.int .i64 lg, vl]] w fun e w' => e = .returned (.tuple #[.int .i64 (checkR lg ls).1, .int .i64 (checkR lg ls).2]) ∧ Ext w w' := by
  obtain ⟨Al, cl, rfl, _⟩ := hl
  have HN := Lib.hid (show checkR lg ls = (0, 8) by unfold checkR; rw [show (decide (lg < 0) || decide (6 < lg)) = false by simp; omega, decide_eq_true h]; rfl)
  have hn0 : ¬ lg < 0 := by omega
  have hn6 : ¬ 6 < lg := by omega
  have hl4 : (400 : Int) < (ls.length : Int) := by omega
  go_enter Tryd.func10, Tryd.ntmps10
  go_wp2_with fail
  go_ret2
  exact ⟨by rw [HN.out] <;> rfl, (Ext.refl _).alloc _⟩

set_option maxRecDepth 100000 in
set_option maxHeartbeats 20000000 in
theorem rcheck_empty {w : World} {lg : Int} {vl : Value} {ls : List Ln} (hl : Lns w vl ls) (h0 : 0 ≤ lg) (h6 : lg ≤ 6) (h : ls.length = 0) :
    Calls Tryd.prog 10 #[.agg #[.int .i64 lg, vl]] w fun e w' => e = .returned (.tuple #[.int .i64 (checkR lg ls).1, .int .i64 (checkR lg ls).2]) ∧ Ext w w' := by
  obtain ⟨Al, cl, rfl, _⟩ := hl
  have HN := Lib.hid (show checkR lg ls = (0, 3) by unfold checkR; rw [show (decide (lg < 0) || decide (6 < lg)) = false by simp; omega, h]; rfl)
  have hn0 : ¬ lg < 0 := by omega
  have hn6 : ¬ 6 < lg := by omega
  rw [h]
  go_enter Tryd.func10, Tryd.ntmps10
  go_wp2_with fail
  go_ret2
  exact ⟨by rw [HN.out] <;> rfl, (Ext.refl _).alloc _⟩

set_option maxRecDepth 100000 in
set_option maxHeartbeats 20000000 in
theorem rcheck_main {w : World} {lg : Int} {vl : Value} {ls : List Ln} (hl : Lns w vl ls) (h0 : 0 ≤ lg) (h6 : lg ≤ 6) (hlen : ls.length ≤ 400) (hpos : 0 < ls.length) :
    Calls Tryd.prog 10 #[.agg #[.int .i64 lg, vl]] w fun e w' => e = .returned (.tuple #[.int .i64 (checkR lg ls).1, .int .i64 (checkR lg ls).2]) ∧ Ext w w' := by
  have HL := Lib.hid hl
  obtain ⟨Al, cl, rfl, hat⟩ := hl
  obtain ⟨ad, rfl, hblk, hcells⟩ := hat.2.2 (by intro e; rw [e] at hpos; simp at hpos)
  have HC := Lib.hid hcells
  have hcap := hat.1
  have hcm := hat.2.1
  unfold maxLen at hcm
  have HN := Lib.hid (show checkR lg ls = chkR lg ls (stacksR ls [] [] 0).1 (stacksR ls [] [] 0).2 ls 0 by
    unfold checkR
    rw [show (decide (lg < 0) || decide (6 < lg)) = false by simp; omega, show decide (400 < ls.length) = false by simp; omega, decide_eq_false (show ¬ ls.length = 0 by omega)]
    rfl)
  have HRO := Lib.hid (fun i n (hn : ls[i]? = some n) (hi : i < (stacksR ls [] [] 0).2) => refOk_of hlen hn hi)
  have hn0 : ¬ lg < 0 := by omega
  have hn6 : ¬ 6 < lg := by omega
  have hl4 : ¬ (400 : Int) < (ls.length : Int) := by omega
  have hl0 : ((ls.length : Int) == 0) = false := by rw [beq_eq_false_iff_ne]; omega
  have hwl : (stacksR ls [] [] 0).2 ≤ 400 := by have := sok_all ls; omega
  have HLG := Lib.hid (And.intro h0 h6)
  have HLEN := Lib.hid hlen
  have X0 := Lib.hid ((Ext.refl w).alloc (.cells #[.int .i64 lg, .slice (some ad) ls.length cl] 24))
  clear hat hcells
  go_enter Tryd.func10, Tryd.ntmps10
  go_wp2_with fail
  refine (rstacks_any (HL.out.ext X0.out) HLEN.out).mono ?_
  rintro e w1 ⟨us, rfl, hx, hs⟩
  have X1 := Lib.hid (X0.out.trans hx)
  have HS0 := Lib.hid hs
  obtain ⟨As, cs, rfl, _⟩ := hs
  have hb0 : w1.heap[w.heap.size]? = some (.cells #[.int .i64 lg, .slice (some ad) ls.length cl] 24 (0, 0)) := (hx.block (by simp)).trans (heap_alloc_new w (.cells #[.int .i64 lg, .slice (some ad) ls.length cl] 24))
  obtain ⟨z0, z1, _, zlt⟩ := cells2 hb0
  have HB0 := Lib.hid hb0
  clear hx hb0
  generalize (stacksR ls [] [] 0).2 = wrong at *
  generalize (stacksR ls [] [] 0).1 = S at *
  have hb1 : (w1.alloc (.cells #[.int .i64 lg, .slice (some ad) ls.length cl, .slice As S.length cs] 57)).heap[w1.heap.size]? = some (.cells #[.int .i64 lg, .slice (some ad) ls.length cl, .slice As S.length cs] 57 (0, 0)) := heap_alloc_new w1 (.cells #[.int .i64 lg, .slice (some ad) ls.length cl, .slice As S.length cs] 57)
  have HPRF := Lib.hid (show Prf (w1.alloc (.cells #[.int .i64 lg, .slice (some ad) ls.length cl, .slice As S.length cs] 57)) w1.heap.size lg ls S from ⟨⟨_, _, hb1, HL.out.ext (X1.out.trans ((Ext.refl w1).alloc (.cells #[.int .i64 lg, .slice (some ad) ls.length cl, .slice As S.length cs] 57))), HS0.out.ext ((Ext.refl w1).alloc (.cells #[.int .i64 lg, .slice (some ad) ls.length cl, .slice As S.length cs] 57))⟩⟩)
  clear hb1
  go_wp2_with fail
  clear z0 z1
  go_loopw [7] (fun v wr => ∃ i : Nat, v = .int .i64 (i : Int) ∧ i ≤ ls.length ∧ Hid (chkR lg ls S wrong (ls.drop i) i = checkR lg ls) ∧ Hid (Ext (w1.alloc (.cells #[.int .i64 lg, .slice (some ad) ls.length cl, .slice As S.length cs] 57)) wr)) (fun v _ => ls.length - (intOf v).toNat)
  case atStart => exact ⟨0, rfl, Nat.zero_le _, Lib.hid HN.out.symm, Lib.hid (Ext.refl _)⟩
  case round =>
    obtain ⟨i, rfl, hi, HR, HXR⟩ := hrel
    have HX1R := Lib.hid (((Ext.refl w1).alloc (.cells #[.int .i64 lg, .slice (some ad) ls.length cl, .slice As S.length cs] 57)).trans HXR.out)
    have HXW := Lib.hid (X1.out.trans HX1R.out)
    obtain ⟨z0, z1, _, zlt1⟩ := cells2 ((HX1R.out.block (lt_heap HB0.out)).trans HB0.out)
    by_cases hlt2 : i < ls.length
    · obtain ⟨n, hn⟩ : ∃ n, ls[i]? = some n := ⟨_, List.getElem?_eq_getElem hlt2⟩
      have HNI := Lib.hid hn
      have HGO := Lib.hid (HR.out.symm.trans (chkR_step hn))
      obtain ⟨uf, ur, q0, q1, q2, q3, q4, hff, hii⟩ := HC.out i n hn
      have hk : ∀ p : Addr, p.block = (ad.add (i * 5)).block → wr.cell? p = w.cell? p := fun p hp => HXW.out.cell (by rw [hp, block_of_add]; exact hblk)
      have q0 := (hk _ rfl).trans q0
      have q1 := (hk ⟨(ad.add (i * 5)).block, (ad.add (i * 5)).off + 1, none⟩ rfl).trans q1
      have q2 := (hk ⟨(ad.add (i * 5)).block, (ad.add (i * 5)).off + 2, none⟩ rfl).trans q2
      have q3 := (hk ⟨(ad.add (i * 5)).block, (ad.add (i * 5)).off + 3, none⟩ rfl).trans q3
      have q4 := (hk ⟨(ad.add (i * 5)).block, (ad.add (i * 5)).off + 4, none⟩ rfl).trans q4
      have HFF := Lib.hid (hff.ext HXW.out)
      clear hk
      obtain ⟨Af, cf, rfl, _⟩ := fml_slice hff
      obtain ⟨Ar, cr, rfl, _⟩ := hii
      have hblkr : ad.block < wr.heap.size := Nat.lt_of_lt_of_le hblk HXW.out.size
      have hir0 : (0 : Int) ≤ (i : Int) := by omega
      have hir1 : (i : Int) < (ls.length : Int) := by omega
      have V0 := Lib.hid ((Ext.refl wr).alloc (.cells #[.int .i64 n.depth, .int .i64 n.rule, .slice Af n.f.length cf, .int .i64 n.agent, .slice Ar n.from_.length cr] 45))
      clear hff hn
      go_wp2_with fail
      refine (refCheck_any _ n.f _ (HFF.out.ext V0.out).1).mono ?_
      rintro e w2 ⟨rfl, hx⟩
      have HX1 := Lib.hid (show Ext (wr.alloc (.cells #[.int .i64 n.depth, .int .i64 n.rule, .slice Af n.f.length cf, .int .i64 n.agent, .slice Ar n.from_.length cr] 45)) w2 from hx)
      have V1 := Lib.hid (V0.out.trans hx)
      clear hx z0 z1 q0 q1 q2 q3 q4
      obtain ⟨s0, s1, s2, s3, s4, slt⟩ := cells5 ((HX1.out.block (by simp)).trans (heap_alloc_new wr (.cells #[.int .i64 n.depth, .int .i64 n.rule, .slice Af n.f.length cf, .int .i64 n.agent, .slice Ar n.from_.length cr] 45)))
      cases hc : (check n.f != 0)
      case true =>
        have HE := Lib.hid (show checkR lg ls = ((i : Int), check n.f) by rw [HGO.out, hc]; rfl)
        go_wp2_with fail
        go_ret2
        exact ⟨by rw [HE.out] <;> rfl, HXW.out.trans V1.out⟩
      case false =>
        have HCB := Lib.hid hc
        go_wp2_with fail
        refine (refFrags_any _ n.f _ (HFF.out.ext V1.out)).mono ?_
        rintro e w3 ⟨rfl, hx⟩
        have HX2 := Lib.hid (HX1.out.trans hx)
        have V2 := Lib.hid (V1.out.trans hx)
        clear hx s0 s1 s2 s3 s4 slt
        have HAN := Lib.hid (andNot_frags (fragsN n.f) (fragMask_lt _))
        cases hfr : decide (2 ≤ fragsN n.f)
        case true =>
          have hfb : (bits .andNot .i64 ((fragsN n.f : Nat) : Int) 1 != 0) = true := by rw [HAN.out]; exact hfr
          have HE := Lib.hid (show checkR lg ls = ((i : Int), 10) by rw [HGO.out, HCB.out, hfr]; rfl)
          clear hfr
          go_wp2_with fail
          go_ret2
          exact ⟨by rw [HE.out] <;> rfl, HXW.out.trans V2.out⟩
        case false =>
          have hfb : (bits .andNot .i64 ((fragsN n.f : Nat) : Int) 1 != 0) = false := by rw [HAN.out]; exact hfr
          have HFR := Lib.hid hfr
          clear hfr
          obtain ⟨s0, s1, s2, s3, s4, slt⟩ := cells5 ((HX2.out.block (by simp)).trans (heap_alloc_new wr (.cells #[.int .i64 n.depth, .int .i64 n.rule, .slice Af n.f.length cf, .int .i64 n.agent, .slice Ar n.from_.length cr] 45)))
          by_cases hw : wrong ≤ i
          · have hw1 : (wrong : Int) ≤ (i : Int) := by omega
            have hw2 : decide (wrong ≤ i) = true := decide_eq_true hw
            have HE := Lib.hid (show checkR lg ls = ((i : Int), 3) by rw [HGO.out, HCB.out, HFR.out, hw2]; rfl)
            go_wp2_with fail
            go_ret2
            exact ⟨by rw [HE.out] <;> rfl, HXW.out.trans V2.out⟩
          · have hw1 : ¬ (wrong : Int) ≤ (i : Int) := by omega
            have hw2 : decide (wrong ≤ i) = false := decide_eq_false hw
            by_cases ha1 : n.agent < 0
            · have HE := Lib.hid (show checkR lg ls = ((i : Int), 3) by rw [HGO.out, HCB.out, HFR.out, hw2, decide_eq_true ha1]; rfl)
              go_wp2_with fail
              go_ret2
              exact ⟨by rw [HE.out] <;> rfl, HXW.out.trans V2.out⟩
            · by_cases ha2 : 4 ≤ n.agent
              · have HE := Lib.hid (show checkR lg ls = ((i : Int), 3) by rw [HGO.out, HCB.out, HFR.out, hw2, decide_eq_false ha1, decide_eq_true ha2]; rfl)
                go_wp2_with fail
                go_ret2
                exact ⟨by rw [HE.out] <;> rfl, HXW.out.trans V2.out⟩
              · have HG2 := Lib.hid (show checkR lg ls = bif followsR lg ls S i then chkR lg ls S wrong (ls.drop (i + 1)) (i + 1) else ((i : Int), 13) by rw [HGO.out, HCB.out, HFR.out, hw2, decide_eq_false ha1, decide_eq_false ha2]; rfl)
                go_wp2_with fail
                refine (rfollows_any (HPRF.out.ext (HXR.out.trans V2.out)) (HRO.out i n HNI.out (by omega)) HLG.out).mono ?_
                rintro e w4 ⟨rfl, hx⟩
                have V3 := Lib.hid (V2.out.trans hx)
                clear hx s0 s1 s2 s3 s4 slt
                cases hf : followsR lg ls S i
                · have HE := Lib.hid (show checkR lg ls = ((i : Int), 13) by rw [HG2.out, hf]; rfl)
                  go_wp2_with fail
                  go_ret2
                  exact ⟨by rw [HE.out] <;> rfl, HXW.out.trans V3.out⟩
                · have HE := Lib.hid (show chkR lg ls S wrong (ls.drop (i + 1)) (i + 1) = checkR lg ls by rw [HG2.out, hf]; rfl)
                  go_wp2_with fail
                  go_roundw
                  case rel => exact ⟨i + 1, by go_num, by omega, HE, Lib.hid (HXR.out.trans V3.out)⟩
                  case measure => simp [intOf]; omega
    · obtain rfl : ls.length = i := by omega
      have HE := Lib.hid (show checkR lg ls = (0, 0) by
        rw [← HR.out, List.drop_length]
        rfl)
      go_wp2_with fail
      go_ret2
      exact ⟨by rw [HE.out] <;> rfl, HXW.out⟩

theorem rcheck_any {w : World} {lg : Int} {vl : Value} {ls : List Ln} (hl : Lns w vl ls) :
    Calls Tryd.prog 10 #[.agg #[.int .i64 lg, vl]] w fun e w' => e = .returned (.tuple #[.int .i64 (checkR lg ls).1, .int .i64 (checkR lg ls).2]) ∧ Ext w w' := by
  by_cases h0 : lg < 0
  · exact rcheck_low hl h0
  · by_cases h6 : 6 < lg
    · exact rcheck_high hl h0 h6
    · by_cases h4 : 400 < ls.length
      · exact rcheck_long hl (by omega) (by omega) h4
      · by_cases hz : ls.length = 0
        · exact rcheck_empty hl (by omega) (by omega) hz
        · exact rcheck_main hl (by omega) (by omega) (by omega) (by omega)

/-- The reference's Theorem. -/
def theoremR (lg : Int) (ls : List Ln) : List Nd × Int :=
  bif (checkR lg ls).2 != 0 then ([], (checkR lg ls).2) else bif (lastLn ls).depth != 0 then ([], 16) else (compactN (lastLn ls).f, 0)
theorem checkR_pos {lg : Int} {ls : List Ln} (h : (checkR lg ls).2 = 0) : 0 < ls.length := by
  unfold checkR at h
  cases e1 : (decide (lg < 0) || decide (6 < lg))
  · rw [e1] at h
    cases e2 : decide (400 < ls.length)
    · rw [e2] at h
      cases e3 : decide (ls.length = 0)
      · have := of_decide_eq_false e3; omega
      · rw [e3] at h; cases h
    · rw [e2] at h; cases h
  · rw [e1] at h; cases h
set_option maxRecDepth 100000 in
set_option maxHeartbeats 4000000 in
theorem rtheorem_any {w : World} {lg : Int} {vl : Value} {ls : List Ln} (hl : Lns w vl ls) :
    Calls Tryd.prog 12 #[.agg #[.int .i64 lg, vl]] w fun e w' => ∃ u, e = .returned (.tuple #[u, .int .i64 (theoremR lg ls).2]) ∧ Ext w w' ∧ Fml w' u (theoremR lg ls).1 := by
  have HL := Lib.hid hl
  obtain ⟨Al, cl, rfl, hat⟩ := hl
  have hcap := hat.1
  have hcm := hat.2.1
  unfold maxLen at hcm
  have HAT := Lib.hid hat.2.2
  clear hat
  go_enter Tryd.func12, Tryd.ntmps12
  go_wp2_with fail
  refine (rcheck_any (lg := lg) (HL.out.ext ((Ext.refl w).alloc (.cells #[.int .i64 lg, .slice Al ls.length cl] 24)))).mono ?_
  rintro e w1 ⟨rfl, hx⟩
  have HX := Lib.hid (((Ext.refl w).alloc (.cells #[.int .i64 lg, .slice Al ls.length cl] 24)).trans hx)
  obtain ⟨z0, z1, _, zlt⟩ := cells2 ((hx.block (by simp)).trans (heap_alloc_new w (.cells #[.int .i64 lg, .slice Al ls.length cl] 24)))
  clear hx
  cases hc : ((checkR lg ls).2 != 0)
  case true =>
    have HN := Lib.hid (show theoremR lg ls = ([], (checkR lg ls).2) by unfold theoremR; rw [hc]; rfl)
    go_wp2_with fail
    go_ret2
    exact ⟨.slice none 0 0, by rw [HN.out] <;> rfl, HX.out, by rw [HN.out]; exact ⟨⟨none, 0, rfl, Nat.le_refl _, by unfold maxLen; omega, fun h => absurd rfl h⟩, by simp⟩⟩
  case false =>
    have hc0 : (checkR lg ls).2 = 0 := by simpa using hc
    have hp := checkR_pos hc0
    have HC := Lib.hid hc
    obtain ⟨ad, rfl, hblk, hcells⟩ := HAT.out (by intro e; rw [e] at hp; simp at hp)
    have hn := lastLn_get hp
    obtain ⟨uf, ur, q0, q1, q2, q3, q4, hff, hii⟩ := (hcells _ _ hn).ext HX.out (by rw [block_of_add]; exact hblk)
    have HFF := Lib.hid hff
    obtain ⟨Af, cf, rfl, _⟩ := fml_slice hff
    obtain ⟨Ar, cr, rfl, _⟩ := hii
    have hi1 : ((ls.length : Int) - 1) < (ls.length : Int) := by omega
    have hi0 : (0 : Int) ≤ (ls.length : Int) - 1 := by omega
    have e1 : ((ls.length : Int) - 1).toNat = ls.length - 1 := by omega
    have hblk1 : ad.block < w1.heap.size := Nat.lt_of_lt_of_le hblk HX.out.size
    obtain ⟨n, hnn⟩ : ∃ n, lastLn ls = n := ⟨_, rfl⟩
    rw [hnn] at q0 q1 q2 q3 q4 HFF
    have HNN := Lib.hid hnn
    clear hcells hff hn hnn hp hc0
    by_cases hd : n.depth = 0
    · have hdb : (n.depth != 0) = false := by simp [hd]
      have HN := Lib.hid (show theoremR lg ls = (compactN n.f, 0) by unfold theoremR; rw [HC.out, HNN.out, hdb]; rfl)
      clear hd
      go_wp2_with fail
      refine (refCompact_any _ n.f _ (HFF.out.ext ((Ext.refl _).alloc _))).mono ?_
      rintro e w2 ⟨u, rfl, hm⟩
      have HM := Lib.hid hm.fml
      have HX2 := Lib.hid (Ext.trans (show Ext w _ from HX.out.alloc _) hm.2.2)
      clear hm
      go_wp2_with fail
      go_ret2
      exact ⟨u, by rw [HN.out] <;> rfl, HX2.out, by rw [HN.out]; exact HM.out⟩
    · have hdb : (n.depth != 0) = true := by simpa using hd
      have HN := Lib.hid (show theoremR lg ls = ([], 16) by unfold theoremR; rw [HC.out, HNN.out, hdb]; rfl)
      clear hd
      go_wp2_with fail
      go_ret2
      exact ⟨.slice none 0 0, by rw [HN.out] <;> rfl, HX.out.alloc _, by rw [HN.out]; exact ⟨⟨none, 0, rfl, Nat.le_refl _, by unfold maxLen; omega, fun h => absurd rfl h⟩, by simp⟩⟩


end Go.Proofs.YtipnbfbakohcaaaDoor
