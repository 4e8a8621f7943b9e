/- sequent's correct: any step. -/
import Derived.Test.YtfcmdiigfgbgbaaGreatL1
import Derived.Test.YtfcmdiigfgbgbaaGreatL2
import Derived.Test.YtfcmdiigfgbgbaaGreatL3
import Derived.Test.YtfcmdiigfgbgbaaGreatL4
import Derived.Test.YtfcmdiigfgbgbaaGreatL5
import Derived.Test.YtfcmdiigfgbgbaaGreatL6
import Derived.Test.YtfcmdiigfgbgbaaGreatL7
import Derived.Test.YtfcmdiigfgbgbaaGreatL8
import Derived.Test.YtfcmdiigfgbgbaaGreatGG
import Derived.Test.YtfcmdiigfgbgbaaGreatK1
import Derived.Deep.RegionLaw

namespace Go.Proofs.YtfcmdiigfgbgbaaGreat
open Go.RowKit

theorem correct_any {w : World} {b : Nat} {lg : Int} {base : List Nd} {steps : List Stp} {opps : List Int} (h : SChk w b lg base steps opps) (hb : baseErr base = 0) (hol : opps.length ≤ 64) (hoz : ∀ z ∈ opps, z < 64) (at_ : Nat) (hat : at_ < steps.length) :
    Calls Tryz.prog 29 #[.pointer (some ⟨b, 0, none⟩), .int .i64 (at_ : Int)] w fun e w' => e = .returned (.bool (correctN lg base opps steps at_)) ∧ Ext w w' := by
  obtain ⟨⟨s, ru, on, e, fr⟩, hx⟩ : ∃ x, steps[at_]? = some x := ⟨_, List.getElem?_eq_getElem hat⟩
  cases hins : insideS base s
  · exact correct_out h hb hol hoz at_ hat s ru on e fr hx hins
  · by_cases hr : ru = 1 ∨ ru = 2 ∨ ru = 3 ∨ ru = 4 ∨ ru = 5 ∨ ru = 6 ∨ ru = 7
    · rcases hr with hr | hr | hr | hr | hr | hr | hr
      · exact correct_close h hb hol hoz at_ hat s ru on e fr hx hins hr
      · exact correct_and h hb hol hoz at_ hat s ru on e fr hx hins hr
      · exact correct_or h hb hol hoz at_ hat s ru on e fr hx hins hr
      · exact correct_cut h hb hol hoz at_ hat s ru on e fr hx hins hr
      · exact correct_t h hb hol hoz at_ hat s ru on e fr hx hins hr
      · exact correct_k h hb hol hoz at_ hat s ru on e fr hx hins hr
      · by_cases he : e = 0
        · by_cases h1 : lg = 1
          · exact correct_d1 h hb hol hoz at_ hat s ru on e fr hx hins hr he h1
          · by_cases h5 : lg = 5
            · exact correct_d5 h hb hol hoz at_ hat s ru on e fr hx hins hr he h5
            · exact correct_d0 h hb hol hoz at_ hat s ru on e fr hx hins hr he (by omega)
        · exact correct_de h hb hol hoz at_ hat s ru on e fr hx hins hr he
    · exact correct_none h hb hol hoz at_ hat s ru on e fr hx hins hr
end Go.Proofs.YtfcmdiigfgbgbaaGreat

/- The state of sequent's Broken while it lays the negations of the base's nodes. -/

namespace Go.Proofs.YtfcmdiigfgbgbaaGreat
open Go.RowKit

theorem tInfo3s : (Tryz.prog.info? 3).map (fun i => (i.zero, i.size, i.bytes)) = some (some (.int .i64 0), 1, 8) := by kernel_rfl
theorem set_4th {w : World} {b : Nat} {a0 a1 a2 a3 : Value} {t : TypeId} (h : w.heap[b]? = some (.cells #[a0, a1, a2, a3] t (0, 0))) (u : Value) : (w.setCell ⟨b, 3, none⟩ u).heap[b]? = some (.cells #[a0, a1, a2, u] t (0, 0)) := by
  simp only [World.setCell, Array.getElem?_modify, h, if_true, Option.map_some]
  rfl
structure Brk (w1 w2 w3 wr : World) (C : Nat) (a0 a1 a2 : Value) (vo : Value) (out : List Int) : Prop where
  ext : Ext w1 wr
  mid : ∀ g, w2.heap.size ≤ g → g < w3.heap.size → wr.heap[g]? = w3.heap[g]?
  size : w3.heap.size ≤ wr.heap.size
  blk : wr.heap[C]? = some (.cells #[a0, a1, a2, vo] 48 (0, 0))
  row : wr.ownsRow w3.heap.size 3 1 vo out.length (out.map (Value.int .i64))
section
variable {w1 w2 w3 wr : World} {C : Nat} {a0 a1 a2 vo : Value} {out : List Int}
theorem Brk.next {w4 : World} (h : Brk w1 w2 w3 wr C a0 a1 a2 vo out) (he : Ext wr w4) : Brk w1 w2 w3 w4 C a0 a1 a2 vo out :=
  ⟨h.ext.trans he, fun g h1 h2 => (he.block (Nat.lt_of_lt_of_le h2 h.size)).trans (h.mid g h1 h2), Nat.le_trans h.size he.size, (he.block (lt_heap h.blk)).trans h.blk, row_ext h.row he⟩
theorem Brk.push {w7 : World} {v7 : Value} {z : Int} (h : Brk w1 w2 w3 wr C a0 a1 a2 vo out) (hC1 : w1.heap.size ≤ C) (hC2 : C < w2.heap.size) (h23 : w2.heap.size ≤ w3.heap.size)
    (hown : w7.ownsRow w3.heap.size 3 1 v7 (out.length + 1) (out.map (Value.int .i64) ++ [.int .i64 z])) (hg : wr.grownBy w7 vo.ownBlock) :
    Brk w1 w2 w3 (w7.setCell ⟨C, 3, none⟩ v7) C a0 a1 a2 v7 (out ++ [z]) := by
  have hvo : ∀ g, vo.ownBlock = some g → w3.heap.size ≤ g := fun g hg' => (h.row.lt g hg').1
  have hkeep : ∀ g, g < w3.heap.size → w7.heap[g]? = wr.heap[g]? := fun g h1 => hg.block g (Nat.lt_of_lt_of_le h1 h.size) (fun e => by have := hvo g e.symm; omega)
  have hv7 : v7.ownBlock ≠ some C := fun e => by have := (hown.lt C e).1; omega
  refine ⟨(h.ext.grown hg (fun g hg' => by have := hvo g hg'; omega)).setCell hC1 _, fun g h1 h2 => ?_, ?_, ?_, ?_⟩
  · rw [Below.heap_setCell _ _ _ _ (show g ≠ C by omega), hkeep g h2]
    exact h.mid g h1 h2
  · have : (w7.setCell ⟨C, 3, none⟩ v7).heap.size = w7.heap.size := by simp [World.setCell]
    rw [this]
    exact Nat.le_trans h.size hg.size
  · exact set_4th (((hkeep C (by omega)).trans h.blk)) v7
  · have hr : w7.ownsRow w3.heap.size 3 1 v7 (out ++ [z]).length ((out ++ [z]).map (Value.int .i64)) := by
      rw [List.length_append, List.map_append]
      exact hown
    exact ownsRow_setCell_other (a := ⟨C, 3, none⟩) hr hv7 _
theorem FRow.fmls_mid {vo : Value} {l : List (List Nd)} (h : FRow w2 w3 vo l) {a b c d : Value} {o : List Int} (hB : Brk w1 w2 w3 wr C a b c d o) (h12 : w1.heap.size ≤ w2.heap.size) : Fmls wr vo l := by
  have h2 : FRow w1 wr vo l := by
    obtain ⟨us, hr, hu⟩ := h.row
    refine ⟨hB.ext, us, ⟨hr.1, ?_⟩, fun k s hk => ?_⟩
    · rcases hr.2 with h0 | ⟨g, cap, cur, e, h1, h2, h3, h4, h5, h6⟩
      · exact .inl h0
      · exact .inr ⟨g, cap, cur, e, Nat.le_trans h12 h1, (hB.mid g h1 (lt_heap h2)).trans h2, h3, h4, h5, h6⟩
    · obtain ⟨u, a, b, c⟩ := hu k s hk
      exact ⟨u, a, ⟨b.1.keepF (fun g hg _ => hB.mid g (c g hg).2.2 (c g hg).1) hB.size, b.2⟩, fun g hg => ⟨Nat.lt_of_lt_of_le (c g hg).1 hB.size, (c g hg).2.1, Nat.le_trans h12 (c g hg).2.2⟩⟩
  exact h2.fmls
end
theorem formulas_get {base : List Nd} {k : Nat} (hk : k < base.length) : (formulasN base)[k]? = some (subN base (k : Int)) := by
  unfold formulasN
  rw [List.getElem?_map, List.getElem?_range hk]
  rfl
theorem formulas_len (base : List Nd) : (formulasN base).length = base.length := by unfold formulasN; simp
theorem opps_len (base : List Nd) : (oppsN base).length = base.length := by unfold oppsN; rw [List.length_map, formulas_len]
theorem opps_step {base : List Nd} {k : Nat} (hk : k < base.length) : (oppsN base).take (k + 1) = (oppsN base).take k ++ [placeN (formulasN base) (oppN (subN base (k : Int)))] := by
  refine take_succ_eq ?_
  unfold oppsN
  rw [List.getElem?_map, formulas_get hk]
  rfl
theorem place_lt (l : List (List Nd)) (g : List Nd) : placeN l g < l.length ∨ placeN l g = -1 := by
  unfold placeN
  cases h : l.findIdx? fun f => decide (f = g) with
  | none => exact Or.inr rfl
  | some j =>
    left
    have := (List.findIdx?_eq_some_iff_findIdx_eq.1 h).1
    show (j : Int) < _
    omega
theorem opps_lt {base : List Nd} (hl : base.length ≤ 64) : ∀ z ∈ oppsN base, z < 64 := by
  intro z hz
  unfold oppsN at hz
  obtain ⟨f, _, rfl⟩ := List.mem_map.1 hz
  rcases place_lt (formulasN base) (oppN f) with h | h
  · rw [formulas_len] at h; omega
  · rw [h]; decide
end Go.Proofs.YtfcmdiigfgbgbaaGreat

/- append to a row of the call's own, as one step of a region that draws its order. -/

namespace Go.Proofs.YtfcmdiigfgbgbaaGreat
open Go.RowKit

/-- append to a row of the call's own, as one step of a region that draws. -/
theorem step_append_at {P : Program} {ops : Array Oper} {o : Oper} {a : Act} {w : World} {K : Act → World → Prop} {Q : Exit → Act → World → Prop} {E : Prop}
    (hgd : o.guard = none) (s x : Operand) (t : TypeId) (ho : o.op = .call { callee := .builtin .append, args := #[s, x], argTypes := #[t, t] })
    (base : Nat) (e : TypeId) (i : TypeInfo) (z : Value) (size bytes : Nat) (ht : P.underlying t = some (.slice e)) (hi : P.info? e = some i) (hz : i.zero = some z)
    (hsize : i.size = size) (hby : i.bytes = bytes) (hzs : z.cells.size = size) (hsz : 0 < size)
    (v : Value) (n : Nat) (xs : List Value) (hs : a.eval s = v) (hown : w.ownsRow base e size v n xs)
    (ad : Addr) (m c : Nat) (news : List Value) (hx : a.eval x = .slice (some ad) m c) (hl : news.length = m * size) (hnews : ∀ j u, news[j]? = some u → w.cell? (ad.add j) = some u) (h1 : ∀ u ∈ news, u.oneCell' = true)
    (h63 : n + m ≤ maxLen) (hbytes : (n + m) * bytes ≤ 140737488355328) (hbase : base ≤ w.heap.size)
    (h : ∀ v' w', w'.ownsRow base e size v' (n + m) (xs ++ news) → w.grownBy w' v.ownBlock → (v'.ownBlock = v.ownBlock ∨ v'.ownBlock = some w.heap.size) → K (a.put o.dst v') w') :
    if Region.wanted o (yielded ops a.tmps) = true then Oper.wp P o a w K Q else E := by
  have hw : Region.wanted o (yielded ops a.tmps) = true := by simp [Region.wanted, hgd]
  rw [if_pos hw]
  obtain ⟨v', w', hr, h2, h3, _, h5⟩ := run_append_own_at (P := P) w base t o.type e i z size bytes ht hi hz hsize hby hzs hsz v n xs hown ad m c news hl hnews h1 h63 hbytes hbase
  unfold Oper.wp execOp
  simp only [ho, resolve, invoke, builtin, Sem.run_bind, Sem.run_pure, Result.andThen_ok, List.map_toArray, List.map_cons, List.map_nil, hs, hx, hr]
  exact h v' w' h2 h3 h5
end Go.Proofs.YtfcmdiigfgbgbaaGreat

/- sequent's Broken. -/

namespace Go.Proofs.YtfcmdiigfgbgbaaGreat
open Go.RowKit

theorem keep_c {w1 w2 w3 wr w7 : World} {C : Nat} {a0 a1 a2 vo : Value} {out : List Int} (h : Brk w1 w2 w3 wr C a0 a1 a2 vo out) (h23 : w2.heap.size ≤ w3.heap.size) (hC : C < w2.heap.size) (hg : wr.grownBy w7 vo.ownBlock) :
    w7.heap[C]? = some (.cells #[a0, a1, a2, vo] 48 (0, 0)) :=
  (hg.block C (lt_heap h.blk) (fun e => by have := (h.row.lt C e.symm).1; omega)).trans h.blk
set_option maxRecDepth 100000 in
set_option maxHeartbeats 16000000 in
theorem broken_any {w : World} {lg : Int} {vb vs : Value} {base : List Nd} {steps : List Stp} (hb : Fml w vb base) (hs : Sps w vs steps) :
    Calls Tryz.prog 9 #[.agg #[.int .i64 lg, vb, vs]] w fun e w' => e = .returned (.int .i64 (brokenS lg base steps)) ∧ Ext w w' := by
  have H := Lib.hid hb
  have HS := Lib.hid hs
  obtain ⟨Ab, cb, rfl, _⟩ := fml_slice hb
  obtain ⟨As, cs, rfl, hs1, hs2, _⟩ := hs
  unfold maxLen at hs2
  clear hb
  obtain ⟨z0, z1, z2, _, zlt⟩ := cells3 (heap_alloc_new w (.cells #[.int .i64 lg, .slice Ab base.length cb, .slice As steps.length cs] 25))
  have Z := Lib.hid (And.intro z0 (And.intro z1 z2))
  have ZLT := Lib.hid zlt
  have X0 := Lib.hid ((Ext.refl w).alloc (.cells #[.int .i64 lg, .slice Ab base.length cb, .slice As steps.length cs] 25))
  clear z0 z1 z2 zlt
  by_cases hf : formS lg base steps = 0
  · have HF := Lib.hid hf
    obtain ⟨hk1, hb1, hl1, hl2⟩ := formS_ok.1 hf
    have HBE := Lib.hid hb1
    have hlen := (baseErr_ok hb1).2.1
    have HALL := Lib.hid (baseErr_ok hb1)
    have HBR := Lib.hid (show brokenS lg base steps = brokenGo lg base (oppsN base) steps steps.length 0 by unfold brokenS; rw [hf]; rfl)
    obtain ⟨i3, hi3, hz30, hz31, hz32⟩ := info_parts tInfo3s
    have eg : ∀ args w, (callFunc 27 args).run Tryz.prog w = .ok (.enter 27 args) w := fun _ _ => rfl
    clear hf hk1 hb1
    go_enter Tryz.func9, Tryz.ntmps9
    go_wp2_with fail
    refine (form_any (lg := lg) (H.out.ext X0.out) (HS.out.ext X0.out)).mono ?_
    rintro e w1 ⟨rfl, hx⟩
    rw [HF.out]
    have X1 := Lib.hid (X0.out.trans hx)
    have XZ1 := Lib.hid hx
    have y0 := (hx.cell (p := ⟨w.heap.size, 0, none⟩) ZLT.out).trans Z.out.1
    have y1 := (hx.cell (p := ⟨w.heap.size, 1, none⟩) ZLT.out).trans Z.out.2.1
    have y2 := (hx.cell (p := ⟨w.heap.size, 2, none⟩) ZLT.out).trans Z.out.2.2
    have XC := Lib.hid ((Ext.refl w1).alloc (.cells #[.int .i64 lg, .slice Ab base.length cb, .slice As steps.length cs, .slice none 0 0] 48))
    have ylt : w.heap.size < w1.heap.size := Nat.lt_of_lt_of_le ZLT.out hx.size
    have q1 := (XC.out.cell (p := ⟨w.heap.size, 1, none⟩) ylt).trans y1
    have YLT := Lib.hid ylt
    have Y2 := Lib.hid y2
    clear hx
    go_wp2_with fail
    refine (formulas_any _ base _ (H.out.ext (X1.out.trans XC.out)) (by omega)).mono ?_
    rintro e w3 ⟨u4, rfl, hfr⟩
    have HFR := Lib.hid hfr
    have X3 := Lib.hid (X1.out.trans (XC.out.trans hfr.ext))
    have HW23 := Lib.hid (show (w1.alloc (.cells #[.int .i64 lg, .slice Ab base.length cb, .slice As steps.length cs, .slice none 0 0] 48)).heap.size ≤ w3.heap.size from hfr.ext.size)
    have HB0 := Lib.hid (show Brk w1 (w1.alloc (.cells #[.int .i64 lg, .slice Ab base.length cb, .slice As steps.length cs, .slice none 0 0] 48)) w3 w3 w1.heap.size (.int .i64 lg) (.slice Ab base.length cb) (.slice As steps.length cs) (.slice none 0 0) [] from
      ⟨XC.out.trans hfr.ext, fun _ _ _ => rfl, Nat.le_refl _, (hfr.ext.block (by simp)).trans (heap_alloc_new w1 (.cells #[.int .i64 lg, .slice Ab base.length cb, .slice As steps.length cs, .slice none 0 0] 48)), World.ownsRow_nil _ _ _ _⟩)
    obtain ⟨A4, c4, hu4, _⟩ := hfr.fmls
    rw [formulas_len] at hu4
    subst hu4
    clear hfr y0 y1 y2 q1 ylt
    go_wp2_with fail
    go_loopw [20] (fun vi wr => ∃ k : Nat, vi = .int .i64 (k : Int) ∧ k ≤ base.length ∧ Hid (∃ vo, Brk w1 (w1.alloc (.cells #[.int .i64 lg, .slice Ab base.length cb, .slice As steps.length cs, .slice none 0 0] 48)) w3 wr w1.heap.size (.int .i64 lg) (.slice Ab base.length cb) (.slice As steps.length cs) vo ((oppsN base).take k))) (fun vi _ => base.length - (intOf vi).toNat)
    case atStart => exact ⟨0, rfl, Nat.zero_le _, Lib.hid ⟨_, HB0.out⟩⟩
    case round =>
      obtain ⟨k, rfl, hk, HREL⟩ := hrel
      obtain ⟨vo, hbk⟩ := HREL.out
      obtain ⟨Ao, co, hvo⟩ := slice_of_row hbk.row
      have hol : ((oppsN base).take k).length = k := by rw [List.length_take, opps_len]; omega
      obtain ⟨out, hout⟩ : ∃ out, out = (oppsN base).take k := ⟨_, rfl⟩
      rw [← hout] at hbk hvo hol
      subst hvo
      have HBK := Lib.hid hbk
      have HFM := Lib.hid (HFR.out.fmls_mid hbk (by simp))
      have HOUT := Lib.hid hout
      clear HREL
      by_cases hlt2 : k < base.length
      · have hk1 : (k : Int) < (base.length : Int) := by omega
        have hk0 : (0 : Int) ≤ (k : Int) := by omega
        obtain ⟨A', c', e', _, _, hread⟩ := HFM.out
        injection e' with e1 e0 e2
        subst e1 e2
        clear e0
        obtain ⟨ad4, hA4, hblk4, hcell4⟩ := hread (by intro e; have := formulas_len base; rw [e] at this; simp at this; omega)
        subst hA4
        obtain ⟨uk, huk, hfk⟩ := hcell4 k _ (formulas_get hlt2)
        have HFK := Lib.hid hfk
        obtain ⟨Ak, ck, rfl, _⟩ := fml_slice hfk
        have hc3 : out.length + 1 ≤ maxLen := by unfold maxLen; omega
        have hc4 : (out.length + 1) * 8 ≤ 140737488355328 := by omega
        have HSTEP := Lib.hid (opps_step hlt2)
        have HLT := Lib.hid hlt2
        clear hbk hread hcell4 hfk hout hol
        go_wp2_with fail
        refine (opposite_any _ (subN base (k : Int)) _ HFK.out (opp_few HALL.out.1 HALL.out.2.2 HLT.out)).mono ?_
        rintro e w5 ⟨ug, rfl, hx, hg⟩
        obtain ⟨Ag, cg, rfl, _⟩ := fml_slice hg
        have X6 := Lib.hid (show Ext wr (w5.alloc (.cells #[.slice Ag (oppN (subN base (k : Int))).length cg] 22)) from hx.alloc _)
        obtain ⟨g0, glt⟩ := cells1 (heap_alloc_new w5 (.cells #[.slice Ag (oppN (subN base (k : Int))).length cg] 22))
        have G0 := Lib.hid g0
        have GLT := Lib.hid glt
        have HG6 := Lib.hid (hg.ext ((Ext.refl w5).alloc (.cells #[.slice Ag (oppN (subN base (k : Int))).length cg] 22)))
        obtain ⟨_, _, _, k36, _, klt6⟩ := cells4s (HBK.out.next X6.out).blk
        have C6 := Lib.hid klt6
        clear hx hg g0 glt
        go_wp2_with fail
        go_region_law (first | (go_simp; go_at_call 26; refine (indexF_any 27 #[.pointer (some ⟨w5.heap.size, 0, none⟩)] eg (fun t => decide (t = (oppN (subN base (k : Int))))) _ (formulasN base) _ (by exact HFM.out.ext (Ext.trans X6.out (by repeat (first | exact Ext.refl _ | assumption | apply Ext.alloc | apply Ext.drew)))) (fun W u s hW hs => broken1_any w5.heap.size u _ s _ W hs.1 (((Ext.trans (show Ext (w5.alloc (.cells #[.slice Ag (oppN (subN base (k : Int))).length cg] 22)) _ from (by repeat (first | exact Ext.refl _ | assumption | apply Ext.alloc | apply Ext.drew))) hW).cell (p := ⟨w5.heap.size, 0, none⟩) GLT.out).trans G0.out) (HG6.out.ext (Ext.trans (show Ext (w5.alloc (.cells #[.slice Ag (oppN (subN base (k : Int))).length cg] 22)) _ from (by repeat (first | exact Ext.refl _ | assumption | apply Ext.alloc | apply Ext.drew))) hW)).1)).mono ?_; rintro e wc ⟨rfl, hmc⟩; have hxc : Ext (w5.alloc (.cells #[.slice Ag (oppN (subN base (k : Int))).length cg] 22)) wc := Ext.trans (by repeat (first | exact Ext.refl _ | assumption | apply Ext.alloc | apply Ext.drew)) hmc; have k3c := (hxc.cell (p := ⟨w1.heap.size, 3, none⟩) C6.out).trans k36; have k3d := ((Ext.alloc hxc (.cells #[.int .i64 (findN (fun t => decide (t = (oppN (subN base (k : Int))))) (formulasN base))] 3)).cell (p := ⟨w1.heap.size, 3, none⟩) C6.out).trans k36; clear hmc) | (refine step_append_at rfl (.tmp 30) (.tmp 34) 35 rfl w3.heap.size 3 i3 (.int .i64 0) 1 8 Tryz.underlying35 hi3 hz30 hz31 hz32 rfl (by decide) (.slice Ao out.length co) out.length (out.map (Value.int .i64)) (by simp [Act.eval]) (row_ext HBK.out.row (Ext.trans X6.out (Ext.trans hxc (by repeat (first | exact Ext.refl _ | assumption | apply Ext.alloc | apply Ext.drew))))) ⟨_, 0, none⟩ 1 1 [.int .i64 (findN (fun t => decide (t = (oppN (subN base (k : Int))))) (formulasN base))] (by simp [Act.eval]; rfl) rfl (by exact row_new_at _ _ _ (by simp)) (fun u hu => by rw [List.mem_singleton.1 hu]; rfl) hc3 hc4 (Nat.le_trans HBK.out.size (Ext.size (Ext.trans X6.out (Ext.trans hxc (by repeat (first | exact Ext.refl _ | assumption | apply Ext.alloc | apply Ext.drew)))))) ?_; intro v7 w7 hown7 hgrow7 hat7; have HB7 := Lib.hid (Brk.push (HBK.out.next (Ext.trans X6.out (Ext.trans hxc (by repeat (first | exact Ext.refl _ | assumption | apply Ext.alloc | apply Ext.drew))))) (Nat.le_refl _) (by simp) HW23.out hown7 hgrow7); have k37 := keep_c (HBK.out.next (Ext.trans X6.out (Ext.trans hxc (by repeat (first | exact Ext.refl _ | assumption | apply Ext.alloc | apply Ext.drew))))) HW23.out (by simp) hgrow7; obtain ⟨y0, y1, y2, y3, yfr, ylt⟩ := cells4s k37; obtain ⟨A7, c7, hv7⟩ := slice_of_row hown7; subst hv7; clear hown7 hgrow7 hat7 k37))
        all_goals
          go_wp2_with fail
          go_roundw
          case rel => exact ⟨k + 1, by go_num, by omega, Lib.hid ⟨_, by rw [HSTEP.out, ← HOUT.out]; exact HB7.out⟩⟩
          case measure => simp [intOf]; omega
      · obtain rfl : base.length = k := by omega
        have HSC := Lib.hid (show SChk wr w1.heap.size lg base steps (oppsN base) from by
          have e : out = oppsN base := by rw [hout, List.take_of_length_le (by rw [opps_len]; omega)]
          rw [e] at hbk
          exact ⟨_, _, _, hbk.blk, H.out.ext (X1.out.trans hbk.ext), HS.out.ext (X1.out.trans hbk.ext), ints_of_row hbk.row⟩)
        have XR := Lib.hid (X1.out.trans hbk.ext)
        have y2 := (hbk.ext.cell (p := ⟨w.heap.size, 2, none⟩) YLT.out).trans Y2.out
        clear hbk hout hol
        go_wp2_with fail
        go_loopw [42] (fun vi wq => ∃ i : Nat, vi = .int .i64 (i : Int) ∧ i ≤ steps.length ∧ Hid (brokenS lg base steps = brokenGo lg base (oppsN base) steps (steps.length - i) i) ∧ Hid (Ext wr wq)) (fun vi _ => steps.length - (intOf vi).toNat)
        case atStart => exact ⟨0, rfl, Nat.zero_le _, Lib.hid (by rw [HBR.out]; rfl), Lib.hid (Ext.refl _)⟩
        case round =>
          obtain ⟨i, rfl, hi, HGO, HXQ⟩ := hrel
          by_cases hlt3 : i < steps.length
          · have hi1 : (i : Int) < (steps.length : Int) := by omega
            have HGO2 := Lib.hid (show brokenS lg base steps = bif correctN lg base (oppsN base) steps i then brokenGo lg base (oppsN base) steps (steps.length - (i + 1)) (i + 1) else i by
              rw [HGO.out, show steps.length - i = steps.length - (i + 1) + 1 by omega, brokenGo])
            have HI := Lib.hid hlt3
            go_wp2_with fail
            refine (correct_any (HSC.out.ext HXQ.out) HBE.out (by rw [opps_len]; exact HALL.out.2.1) (opps_lt HALL.out.2.1) i HI.out).mono ?_
            rintro e w8 ⟨rfl, hx⟩
            have HX8 := Lib.hid (HXQ.out.trans hx)
            clear hx
            cases hc : correctN lg base (oppsN base) steps i
            · have HE := Lib.hid (show brokenS lg base steps = (i : Int) by rw [HGO2.out, hc]; rfl)
              go_wp2_with fail
              go_ret
              exact ⟨by rw [HE.out] <;> rfl, XR.out.trans HX8.out⟩
            · have HE := Lib.hid (show brokenS lg base steps = brokenGo lg base (oppsN base) steps (steps.length - (i + 1)) (i + 1) by rw [HGO2.out, hc]; rfl)
              go_wp2_with fail
              go_roundw
              case rel => exact ⟨i + 1, by go_num, by omega, HE, HX8⟩
              case measure => simp [intOf]; omega
          · obtain rfl : steps.length = i := by omega
            have HE := Lib.hid (show brokenS lg base steps = -1 by rw [HGO.out, Nat.sub_self]; rfl)
            go_wp2_with fail
            go_ret
            exact ⟨by rw [HE.out] <;> rfl, XR.out.trans HXQ.out⟩
  · have hf1 : (formS lg base steps != 0) = true := by simpa using hf
    have hf2 : (formS lg base steps == 0) = false := by simpa using hf
    have HE := Lib.hid (show brokenS lg base steps = -1 by unfold brokenS; rw [hf1]; rfl)
    clear hf
    go_enter Tryz.func9, Tryz.ntmps9
    go_wp2_with fail
    refine (form_any (lg := lg) (H.out.ext X0.out) (HS.out.ext X0.out)).mono ?_
    rintro e w1 ⟨rfl, hx⟩
    have X1 := Lib.hid (X0.out.trans hx)
    clear hx
    go_wp2_with fail
    go_ret
    exact ⟨by rw [HE.out] <;> rfl, X1.out⟩
end Go.Proofs.YtfcmdiigfgbgbaaGreat
