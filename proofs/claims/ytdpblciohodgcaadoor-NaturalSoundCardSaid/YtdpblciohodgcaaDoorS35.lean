/- What a refutation proves holds at all worlds. Plain. -/
import Derived.Test.YtdpblciohodgcaaDoorS32
import Derived.Test.YtdpblciohodgcaaDoorS34
import Derived.Test.YtdpblciohodgcaaDoorS33
import Derived.Test.YtdpblciohodgcaaDoorS27
import Derived.Test.YtdpblciohodgcaaDoorS10
import Derived.Handy

namespace Go.Proofs.YtdpblciohodgcaaDoor

theorem few_frag {f : List Nd} (hc : check f = 0) (h : fragsN f < 2) : Few10 (compactN f) := fun n hn => by
  have hh := (compactN_props hc).2.2.2 n hn
  have hop := (isOp_iff n.op).1 hh.1
  refine ⟨hop.1, ?_⟩
  have hb : ∀ i, (fragOf n.op).toNat.testBit i = true → i < 1 := fun i hi => by
    have h2 : (fragsN f).testBit i = true := (frag_mem (compactN f) 0).2 n hn i hi
    exact bit_lt (n := 1) (by omega) h2
  have hlt := low_bits hb
  refine Classical.byContradiction fun h10 => ?_
  have hcs : n.op = 11 ∨ n.op = 12 ∨ n.op = 13 ∨ n.op = 14 ∨ n.op = 15 ∨ n.op = 16 ∨ n.op = 17 ∨ n.op = 18 ∨ n.op = 19 ∨ n.op = 20 ∨ n.op = 21 := by omega
  rcases hcs with e | e | e | e | e | e | e | e | e | e | e <;> rw [e] at hlt <;> exact absurd hlt (by decide)
end Go.Proofs.YtdpblciohodgcaaDoor

/- What is proved by natural deduction holds at all worlds of a model of the logic. Plain. -/

namespace Go.Proofs.YtdpblciohodgcaaDoor
open Go.RowKit

structure NInv (M : KM) (ls : List Ln) (fs : List (List Nd)) (st : List (List Int)) (i : Nat) : Prop where
  shp : ShpS ls st i
  fl : fs.length = i
  sl : st.length = i
  ck : ∀ f ∈ fs, check f = 0
  snd : ∀ k, k < i → ∀ v w, ctxC M ls fs (st.getD k []) v w → M.sat (treeOf (fs.getD k [])) w
  ag : ∀ k : Nat, k < i → 0 ≤ (lineAt ls k).agent ∧ (lineAt ls k).agent < 4
  eq : ∀ k : Nat, k < i → fs.getD k [] = compactN (lineAt ls k).f
  frag : ∀ k : Nat, k < i → check (lineAt ls k).f = 0 ∧ fragsN (lineAt ls k).f < 2
  top : ∀ k : Nat, k < i → (lineAt ls k).depth = 0 → st.getD k [] = []
theorem folTab_rule {lg : Int} {ls : List Ln} {fs : List (List Nd)} {st : List (List Int)} {i : Nat} {n : Ln} {fi : List Nd} (h : folTab lg ls fs st i n fi = true) : ∃ k, ruleL k lg ls fs st i n fi = true := by
  unfold folTab at h
  cases e : decide (3 ≤ n.rule) && decide (n.rule ≤ 20)
  · rw [e] at h; cases h
  · rw [e] at h; exact ⟨_, h⟩
theorem push_zero {st : List (List Int)} {n : Ln} {s : List Int} (h : pushL st n = some s) (hd : n.depth = 0) : s = [] := by
  unfold pushL at h
  cases ho : opensL n
  · rw [ho, cond_false] at h
    cases hb : (decide (n.depth < 0) || decide (((lastSt st).length : Int) < n.depth))
    · rw [hb, cond_false] at h
      rw [← Option.some.inj h, hd]; rfl
    · rw [hb] at h; cases h
  · rw [ho, cond_true, hd] at h
    cases h
theorem ninv_next {M : KM} {lg : Int} (hM : M.In lg) {ls : List Ln} {fs : List (List Nd)} {st : List (List Int)} {i : Nat} (h : NInv M ls fs st i) {n : Ln} (hn : lineAt ls i = n) (hc : check n.f = 0) (hf : fragsN n.f < 2) {s : List Int} (hp : pushL st n = some s)
    (ha : 0 ≤ n.agent ∧ n.agent < 4) (hfol : followsL lg ls (fs ++ [compactN n.f]) (st ++ [s]) i n (compactN n.f) = true) : NInv M ls (fs ++ [compactN n.f]) (st ++ [s]) (i + 1) := by
  have hcc := compactN_check hc
  have hshp := shp_next h.sl h.shp hn hp
  have hfo : ∀ k, k < i → (fs ++ [compactN n.f]).getD k [] = fs.getD k [] := fun k hk => getD_appL (by have := h.fl; omega)
  have hso : ∀ k, k < i → (st ++ [s]).getD k [] = st.getD k [] := fun k hk => getD_appL (by have := h.sl; omega)
  have hfi : (fs ++ [compactN n.f]).getD i [] = compactN n.f := by rw [← h.fl]; exact getD_appR
  have hsi : (st ++ [s]).getD i [] = s := by rw [← h.sl]; exact getD_appR
  have hck : ∀ f ∈ fs ++ [compactN n.f], check f = 0 := fun f hf => by
    rcases List.mem_append.1 hf with hf | hf
    · exact h.ck f hf
    · rw [List.mem_singleton.1 hf]; exact hcc
  have hsnd : ∀ k, k < i → ∀ v w, ctxC M ls (fs ++ [compactN n.f]) ((st ++ [s]).getD k []) v w → M.sat (treeOf ((fs ++ [compactN n.f]).getD k [])) w := fun k hk v w hcx => by
    rw [hso k hk] at hcx
    rw [hfo k hk]
    refine h.snd k hk v w ((ctx_congr _ v w fun o ho => ?_).1 hcx)
    obtain ⟨p, hpl, hpe⟩ := List.getElem_of_mem ho
    obtain ⟨q, a1, a2, _⟩ := h.shp.pos k hk p hpl
    rw [List.getElem?_eq_getElem hpl, hpe] at a1
    injection a1 with a1
    rw [a1, Int.toNat_natCast]
    exact hfo q (by omega)
  have hag : ∀ k : Nat, k < i + 1 → 0 ≤ (lineAt ls k).agent ∧ (lineAt ls k).agent < 4 := fun k hk => by
    by_cases e : k < i
    · exact h.ag k e
    · obtain rfl : k = i := by omega
      rw [hn]; exact ha
  have hctx : NCtx M ls (fs ++ [compactN n.f]) (st ++ [s]) i (compactN n.f) := ⟨hshp, by rw [List.length_append, h.fl]; rfl, hck, hfi, hsnd, hag⟩
  have hnew : ∀ v w, ctxC M ls (fs ++ [compactN n.f]) ((st ++ [s]).getD i []) v w → M.sat (treeOf (compactN n.f)) w := by
    intro v w hcx
    unfold followsL at hfol
    cases h2 : n.rule == 2
    · rw [h2, cond_false] at hfol
      cases h0 : n.agent != 0
      · rw [h0, cond_false] at hfol
        cases h1 : n.rule == 1
        · rw [h1, cond_false] at hfol
          obtain ⟨k, hk⟩ := folTab_rule hfol
          exact rule_sound hM hctx hcc k hk hcx
        · obtain ⟨X, hX⟩ := hshp.opn i (Nat.lt_succ_self i) (by rw [hn]; unfold opensL; rw [h1]; rfl)
          rw [hX] at hcx
          obtain ⟨u, _, x, hx, hxw⟩ := (ctx_append _ _ _ _).1 hcx
          have e : x = w := hxw
          rcases hx with ⟨hb, _⟩ | ⟨_, _, hs⟩
          · unfold isBox at hb
            rw [hn, beq_iff_eq] at hb
            rw [hb] at h2
            cases h2
          · rw [Int.toNat_natCast, hfi, e] at hs
            exact hs
      · rw [h0] at hfol; cases hfol
    · rw [h2, cond_true, Bool.and_eq_true] at hfol
      rw [eqN_eq hfol.2]
      exact sem_true
  refine ⟨hshp, by rw [List.length_append, h.fl]; rfl, by rw [List.length_append, h.sl]; rfl, hck, fun k hk v w hcx => ?_, hag, fun k hk => ?_, fun k hk => ?_, fun k hk hd => ?_⟩
  · by_cases e : k < i
    · exact hsnd k e v w hcx
    · obtain rfl : k = i := by omega
      rw [hfi]
      exact hnew v w hcx
  · by_cases e : k < i
    · rw [hfo k e]; exact h.eq k e
    · obtain rfl : k = i := by omega
      rw [hfi, hn]
  · by_cases e : k < i
    · exact h.frag k e
    · obtain rfl : k = i := by omega
      rw [hn]; exact ⟨hc, hf⟩
  · by_cases e : k < i
    · rw [hso k e]; exact h.top k e hd
    · obtain rfl : k = i := by omega
      rw [hsi]
      exact push_zero hp (by rw [← hn]; exact hd)
theorem go_sound {M : KM} {lg : Int} (hM : M.In lg) {ls : List Ln} : ∀ (k i : Nat) (fs : List (List Nd)) (st : List (List Int)), i + k = ls.length → NInv M ls fs st i → (chkGo lg ls (ls.drop i) fs st i).2 = 0 → ∃ FS ST, NInv M ls FS ST ls.length
  | 0, i, fs, st, hk, h, _ => ⟨fs, st, by rw [← hk]; exact h⟩
  | k + 1, i, fs, st, hk, h, hg => by
    have hil : i < ls.length := by omega
    have hn : ls[i]? = some ls[i] := List.getElem?_eq_getElem hil
    have hla : lineAt ls i = ls[i] := by unfold lineAt; rw [Int.toNat_natCast, List.getD_eq_getElem?_getD, hn]; rfl
    rw [chkGo_step hn] at hg
    obtain ⟨n, hnn⟩ : ∃ n, n = ls[i] := ⟨_, rfl⟩
    rw [← hnn] at hg hla
    unfold chkGo at hg
    cases e1 : check n.f != 0
    · rw [e1, cond_false] at hg
      cases e2 : decide (2 ≤ fragsN n.f)
      · rw [e2, cond_false] at hg
        cases hp : pushL st n with
        | none => rw [hp] at hg; cases hg
        | some s =>
          rw [hp] at hg
          simp only at hg
          cases e3 : decide (n.agent < 0) || decide (4 ≤ n.agent)
          · rw [e3, cond_false] at hg
            cases e4 : followsL lg ls (fs ++ [compactN n.f]) (st ++ [s]) i n (compactN n.f)
            · rw [e4] at hg; cases hg
            · rw [e4, cond_true] at hg
              have ha : 0 ≤ n.agent ∧ n.agent < 4 := by
                rw [Bool.or_eq_false_iff] at e3
                have a1 := of_decide_eq_false e3.1
                have a2 := of_decide_eq_false e3.2
                omega
              exact go_sound hM k (i + 1) _ _ (by omega) (ninv_next hM h hla (by simpa using e1) (by have := of_decide_eq_false e2; omega) hp ha e4) hg
          · rw [e3] at hg; cases hg
      · rw [e2] at hg; cases hg
    · rw [e1, cond_true] at hg
      rw [show check n.f = 0 from hg] at e1; cases e1
/-- What is proved holds. -/
theorem nat_sound {M : KM} {lg : Int} (hM : M.In lg) {ls : List Ln} (h : (natTheorem lg ls).2 = 0) (w : M.W) : check (natTheorem lg ls).1 = 0 ∧ Few10 (compactN (natTheorem lg ls).1) ∧ M.sat (treeOf (natTheorem lg ls).1) w := by
  unfold natTheorem at h ⊢
  cases e1 : (natCheck lg ls).2 != 0
  · rw [e1, cond_false] at h
    rw [cond_false]
    cases e2 : (lastLn ls).depth != 0
    · rw [e2, cond_false] at h
      rw [cond_false]
      have hck : (natCheck lg ls).2 = 0 := by simpa using e1
      have hpos := natCheck_pos hck
      have hgo : (chkGo lg ls ls [] [] 0).2 = 0 := by
        unfold natCheck at hck
        cases b1 : (decide (lg < 0) || decide (6 < lg))
        · rw [b1, cond_false] at hck
          cases b2 : decide (400 < ls.length)
          · rw [b2, cond_false] at hck
            cases b3 : decide (ls.length = 0)
            · rw [b3, cond_false] at hck; exact hck
            · rw [b3] at hck; cases hck
          · rw [b2] at hck; cases hck
        · rw [b1] at hck; cases hck
      have z0 : ∀ {P : Prop} {k : Nat}, k < 0 → P := fun h => absurd h (Nat.not_lt_zero _)
      have h0 : NInv M ls [] [] 0 := { shp := ⟨fun k hk => z0 hk, fun k hk => z0 hk⟩, fl := rfl, sl := rfl, ck := fun f hf => (List.not_mem_nil hf).elim, snd := fun k hk => z0 hk, ag := fun k hk => z0 hk, eq := fun k hk => z0 hk, frag := fun k hk => z0 hk, top := fun k hk => z0 hk }
      obtain ⟨FS, ST, hI⟩ := go_sound hM (ls := ls) ls.length 0 [] [] (Nat.zero_add _) h0 (by rw [List.drop_zero]; exact hgo)
      have hl : lineAt ls ((ls.length - 1 : Nat) : Int) = lastLn ls := by
        unfold lineAt
        rw [Int.toNat_natCast, List.getD_eq_getElem?_getD, lastLn_get hpos]; rfl
      have hd : (lineAt ls ((ls.length - 1 : Nat) : Int)).depth = 0 := by rw [hl]; simpa using e2
      have hst := hI.top (ls.length - 1) (by omega) hd
      have hs := hI.snd (ls.length - 1) (by omega) w w (by rw [hst]; rfl)
      have he := hI.eq (ls.length - 1) (by omega)
      have hfr := hI.frag (ls.length - 1) (by omega)
      rw [hl] at he hfr
      rw [he] at hs
      exact ⟨compactN_check hfr.1, by rw [compact_twice hfr.1]; exact few_frag hfr.1 hfr.2, hs⟩
    · rw [e2] at h; cases h
  · rw [e1, cond_true] at h
    rw [h] at e1; cases e1
end Go.Proofs.YtdpblciohodgcaaDoor

/- natural.Theorem as a Lean function; small functions of the law: stronger, Few. -/

namespace Go.Proofs.YtdpblciohodgcaaDoor
open Go.RowKit

/-- Is a proof small? -/
def fewLine (n : Ln) : Bool := !(decide (40 < n.f.length) || decide (10 < n.from_.length))
def fewL (ls : List Ln) : Bool := bif (decide (60 < ls.length) && decide (ls.length ≤ 400)) || decide (500 < ls.length) then false else ls.all fewLine
section
variable {w : World} {lg : Int} {vl : Value} {ls : List Ln}
set_option maxHeartbeats 4000000 in
set_option maxRecDepth 100000 in
theorem few_out (hl : Lns w vl ls) (h : (60 < ls.length ∧ ls.length ≤ 400) ∨ 500 < ls.length) :
    Calls Tryd.prog 4 #[.agg #[.int .i64 lg, vl]] w fun e w' => e = .returned (.bool false) ∧ Ext w w' := by
  obtain ⟨Al, cl, rfl, _⟩ := hl
  by_cases h5 : 500 < ls.length
  · have i1 : (60 : Int) < (ls.length : Int) := by omega
    have i2 : ¬ (ls.length : Int) ≤ 400 := by omega
    have i3 : (500 : Int) < (ls.length : Int) := by omega
    have i4 : decide (ls.length ≤ 400) = false := by simp; omega
    have i5 : decide (60 < ls.length) = true := by simp; omega
    have i6 : decide (500 < ls.length) = true := by simp; omega
    go_enter Tryd.func4, Tryd.ntmps4
    go_wp2_with fail
    go_ret
    exact ⟨rfl, (Ext.refl _).alloc _⟩
  · have i1 : (60 : Int) < (ls.length : Int) := by omega
    have i2 : (ls.length : Int) ≤ 400 := by omega
    have i4 : decide (ls.length ≤ 400) = true := by simp; omega
    have i5 : decide (60 < ls.length) = true := by simp; omega
    go_enter Tryd.func4, Tryd.ntmps4
    go_wp2_with fail
    go_ret
    exact ⟨rfl, (Ext.refl _).alloc _⟩
theorem all_take_succ {k : Nat} {n : Ln} (h : ls[k]? = some n) : (ls.take (k + 1)).all fewLine = ((ls.take k).all fewLine && fewLine n) := by
  rw [take_succ_eq h, List.all_append]
  simp
set_option maxHeartbeats 4000000 in
set_option maxRecDepth 100000 in
theorem few_in (hl : Lns w vl ls) (h : ¬ ((60 < ls.length ∧ ls.length ≤ 400) ∨ 500 < ls.length)) :
    Calls Tryd.prog 4 #[.agg #[.int .i64 lg, vl]] w fun e w' => e = .returned (.bool (ls.all fewLine)) ∧ Ext w w' := by
  have HL := Lib.hid hl
  obtain ⟨Al, cl, rfl, hat⟩ := hl
  have hcap := hat.1
  have hcm := hat.2.1
  unfold maxLen at hcm
  have HAT := Lib.hid hat.2.2
  have h5 : decide (500 < ls.length) = false := by simp; omega
  have h6 : (decide (60 < ls.length) && decide (ls.length ≤ 400)) = false := by
    by_cases e : 60 < ls.length
    · have : ¬ ls.length ≤ 400 := by omega
      simp [e, this]
    · simp [e]
  have hd60 : 60 < ls.length → ¬ ls.length ≤ 400 := by omega
  clear hat
  by_cases h60 : 60 < ls.length
  · have i5 : decide (60 < ls.length) = true := by simpa using h60
    have i4 : decide (ls.length ≤ 400) = false := by simpa using hd60 h60
    have i1 : (60 : Int) < (ls.length : Int) := by omega
    have i2 : ¬ (ls.length : Int) ≤ 400 := by omega
    have i3 : ¬ (500 : Int) < (ls.length : Int) := by omega
    have i6 : ¬ 500 < ls.length := by omega
    have i7 : ¬ ls.length ≤ 400 := by omega
    clear hd60 h h6
    go_enter Tryd.func4, Tryd.ntmps4
    go_wp2_with fail
    go_loopw [3] (fun v wr => ∃ i : Nat, v = .int .i64 i ∧ i ≤ ls.length ∧ Hid ((ls.take i).all fewLine = true) ∧ Hid (Ext (w.alloc (.cells #[.int .i64 lg, .slice Al ls.length cl] 24)) wr)) (fun v _ => ls.length - (intOf v).toNat)
    case atStart => exact ⟨0, rfl, Nat.zero_le _, Lib.hid rfl, Lib.hid (Ext.refl _)⟩
    case round =>
      obtain ⟨i, rfl, hi, HA, HX⟩ := hrel
      obtain ⟨z0, z1, _, zlt⟩ := cells2 ((HX.out.block (by simp)).trans (heap_alloc_new w (.cells #[.int .i64 lg, .slice Al ls.length cl] 24)))
      have HXW := Lib.hid (((Ext.refl w).alloc (.cells #[.int .i64 lg, .slice Al ls.length cl] 24)).trans HX.out)
      by_cases hlt2 : i < ls.length
      · obtain ⟨n, hn⟩ : ∃ n, ls[i]? = some n := ⟨_, List.getElem?_eq_getElem hlt2⟩
        obtain ⟨ad, rfl, hblk, hcells⟩ := HAT.out (by intro e; rw [e] at hlt2; simp at hlt2)
        obtain ⟨uf, ur, q0, q1, q2, q3, q4, hff, hii⟩ := (hcells i n hn).ext HXW.out (by rw [block_of_add]; exact hblk)
        obtain ⟨Af, cf, rfl, _⟩ := fml_slice hff
        obtain ⟨Ar, cr, rfl, _⟩ := hii
        have hir0 : (0 : Int) ≤ (i : Int) := by omega
        have hir1 : (i : Int) < (ls.length : Int) := by omega
        have HS := Lib.hid (all_take_succ hn)
        have HM := Lib.hid (List.mem_of_getElem? hn)
        clear hcells hff hn
        by_cases hf : 40 < n.f.length
        · have hfd : decide (40 < n.f.length) = true := by simpa using hf
          have j1 : (40 : Int) < (n.f.length : Int) := by omega
          have HE := Lib.hid (show ls.all fewLine = false from by
            rw [List.all_eq_false]
            exact ⟨n, HM.out, by unfold fewLine; rw [hfd]; simp⟩)
          go_wp2_with fail
          go_ret
          exact ⟨by rw [HE.out] <;> rfl, HXW.out⟩
        · have hfd : decide (40 < n.f.length) = false := by simpa using hf
          have j1 : ¬ (40 : Int) < (n.f.length : Int) := by omega
          by_cases hr : 10 < n.from_.length
          · have hrd : decide (10 < n.from_.length) = true := by simpa using hr
            have j2 : (10 : Int) < (n.from_.length : Int) := by omega
            have HE := Lib.hid (show ls.all fewLine = false from by
              rw [List.all_eq_false]
              exact ⟨n, HM.out, by unfold fewLine; rw [hrd]; simp⟩)
            go_wp2_with fail
            go_ret
            exact ⟨by rw [HE.out] <;> rfl, HXW.out⟩
          · have hrd : decide (10 < n.from_.length) = false := by simpa using hr
            have j2 : ¬ (10 : Int) < (n.from_.length : Int) := by omega
            have HT : Hid ((ls.take (i + 1)).all fewLine = true) := Lib.hid (by rw [HS.out, HA.out]; unfold fewLine; rw [hfd, hrd]; rfl)
            go_wp2_with fail
            go_roundw
            case rel => exact ⟨i + 1, by go_num, by omega, HT, Lib.hid HX.out⟩
            case measure => simp [intOf]; omega
      · obtain rfl : ls.length = i := by omega
        have HE := Lib.hid (show ls.all fewLine = true by have := HA.out; rwa [List.take_of_length_le (Nat.le_refl _)] at this)
        go_wp2_with fail
        go_ret
        exact ⟨by rw [HE.out] <;> rfl, HXW.out⟩
  · have i5 : decide (60 < ls.length) = false := by simpa using h60
    clear hd60 h h6
    go_enter Tryd.func4, Tryd.ntmps4
    go_wp2_with fail
    go_loopw [3] (fun v wr => ∃ i : Nat, v = .int .i64 i ∧ i ≤ ls.length ∧ Hid ((ls.take i).all fewLine = true) ∧ Hid (Ext (w.alloc (.cells #[.int .i64 lg, .slice Al ls.length cl] 24)) wr)) (fun v _ => ls.length - (intOf v).toNat)
    case atStart => exact ⟨0, rfl, Nat.zero_le _, Lib.hid rfl, Lib.hid (Ext.refl _)⟩
    case round =>
      obtain ⟨i, rfl, hi, HA, HX⟩ := hrel
      obtain ⟨z0, z1, _, zlt⟩ := cells2 ((HX.out.block (by simp)).trans (heap_alloc_new w (.cells #[.int .i64 lg, .slice Al ls.length cl] 24)))
      have HXW := Lib.hid (((Ext.refl w).alloc (.cells #[.int .i64 lg, .slice Al ls.length cl] 24)).trans HX.out)
      by_cases hlt2 : i < ls.length
      · obtain ⟨n, hn⟩ : ∃ n, ls[i]? = some n := ⟨_, List.getElem?_eq_getElem hlt2⟩
        obtain ⟨ad, rfl, hblk, hcells⟩ := HAT.out (by intro e; rw [e] at hlt2; simp at hlt2)
        obtain ⟨uf, ur, q0, q1, q2, q3, q4, hff, hii⟩ := (hcells i n hn).ext HXW.out (by rw [block_of_add]; exact hblk)
        obtain ⟨Af, cf, rfl, _⟩ := fml_slice hff
        obtain ⟨Ar, cr, rfl, _⟩ := hii
        have hir0 : (0 : Int) ≤ (i : Int) := by omega
        have hir1 : (i : Int) < (ls.length : Int) := by omega
        have HS := Lib.hid (all_take_succ hn)
        have HM := Lib.hid (List.mem_of_getElem? hn)
        clear hcells hff hn
        by_cases hf : 40 < n.f.length
        · have hfd : decide (40 < n.f.length) = true := by simpa using hf
          have j1 : (40 : Int) < (n.f.length : Int) := by omega
          have HE := Lib.hid (show ls.all fewLine = false from by
            rw [List.all_eq_false]
            exact ⟨n, HM.out, by unfold fewLine; rw [hfd]; simp⟩)
          go_wp2_with fail
          go_ret
          exact ⟨by rw [HE.out] <;> rfl, HXW.out⟩
        · have hfd : decide (40 < n.f.length) = false := by simpa using hf
          have j1 : ¬ (40 : Int) < (n.f.length : Int) := by omega
          by_cases hr : 10 < n.from_.length
          · have hrd : decide (10 < n.from_.length) = true := by simpa using hr
            have j2 : (10 : Int) < (n.from_.length : Int) := by omega
            have HE := Lib.hid (show ls.all fewLine = false from by
              rw [List.all_eq_false]
              exact ⟨n, HM.out, by unfold fewLine; rw [hrd]; simp⟩)
            go_wp2_with fail
            go_ret
            exact ⟨by rw [HE.out] <;> rfl, HXW.out⟩
          · have hrd : decide (10 < n.from_.length) = false := by simpa using hr
            have j2 : ¬ (10 : Int) < (n.from_.length : Int) := by omega
            have HT : Hid ((ls.take (i + 1)).all fewLine = true) := Lib.hid (by rw [HS.out, HA.out]; unfold fewLine; rw [hfd, hrd]; rfl)
            go_wp2_with fail
            go_roundw
            case rel => exact ⟨i + 1, by go_num, by omega, HT, Lib.hid HX.out⟩
            case measure => simp [intOf]; omega
      · obtain rfl : ls.length = i := by omega
        have HE := Lib.hid (show ls.all fewLine = true by have := HA.out; rwa [List.take_of_length_le (Nat.le_refl _)] at this)
        go_wp2_with fail
        go_ret
        exact ⟨by rw [HE.out] <;> rfl, HXW.out⟩
theorem few_any (hl : Lns w vl ls) :
    Calls Tryd.prog 4 #[.agg #[.int .i64 lg, vl]] w fun e w' => e = .returned (.bool (fewL ls)) ∧ Ext w w' := by
  by_cases h : (60 < ls.length ∧ ls.length ≤ 400) ∨ 500 < ls.length
  · have e : fewL ls = false := by
      unfold fewL
      have : ((decide (60 < ls.length) && decide (ls.length ≤ 400)) || decide (500 < ls.length)) = true := by simpa using h
      rw [this]; rfl
    rw [e]
    exact few_out hl h
  · have e : fewL ls = ls.all fewLine := by
      unfold fewL
      have : ((decide (60 < ls.length) && decide (ls.length ≤ 400)) || decide (500 < ls.length)) = false := by
        rw [Bool.eq_false_iff]; simpa using h
      rw [this]; rfl
    rw [e]
    exact few_in hl h
end
end Go.Proofs.YtdpblciohodgcaaDoor
