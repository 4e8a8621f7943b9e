/- sequent's correct: any step. -/
import Derived.Test.YtdpblciohodgcaaGreatDoorS19
import Derived.Test.YtdpblciohodgcaaGreatDoorS20
import Derived.Test.YtdpblciohodgcaaGreatDoorS21
import Derived.Test.YtdpblciohodgcaaGreatDoorS22
import Derived.Test.YtdpblciohodgcaaGreatDoorS23
import Derived.Test.YtdpblciohodgcaaGreatDoorS24
import Derived.Test.YtdpblciohodgcaaGreatDoorS25
import Derived.Test.YtdpblciohodgcaaGreatDoorS26
import Derived.Test.YtdpblciohodgcaaGreatDoorS17
import Derived.Test.YtdpblciohodgcaaGreatDoorS01
import Derived.Deep.RegionLaw
import Derived.Test.YtdpblciohodgcaaGreatDoorS13

namespace Go.Proofs.YtdpblciohodgcaaGreatDoor
open Go.RowKit

theorem correct_any {w : World} {b : Nat} {lg : Int} {base : List Nd} {steps : List Stp} {opps : List Int} (h : SChk w b lg base steps opps) (hb : baseErr base = 0) (hol : opps.length ≤ 64) (hoz : ∀ z ∈ opps, z < 64) (at_ : Nat) (hat : at_ < steps.length) :
    Calls Tryz.prog 41 #[.pointer (some ⟨b, 0, none⟩), .int .i64 (at_ : Int)] w fun e w' => e = .returned (.bool (correctN lg base opps steps at_)) ∧ Ext w w' := by
  obtain ⟨⟨s, ru, on, e, fr⟩, hx⟩ : ∃ x, steps[at_]? = some x := ⟨_, List.getElem?_eq_getElem hat⟩
  cases hins : insideS base s
  · exact correct_out h hb hol hoz at_ hat s ru on e fr hx hins
  · by_cases hr : ru = 1 ∨ ru = 2 ∨ ru = 3 ∨ ru = 4 ∨ ru = 5 ∨ ru = 6 ∨ ru = 7
    · rcases hr with hr | hr | hr | hr | hr | hr | hr
      · exact correct_close h hb hol hoz at_ hat s ru on e fr hx hins hr
      · exact correct_and h hb hol hoz at_ hat s ru on e fr hx hins hr
      · exact correct_or h hb hol hoz at_ hat s ru on e fr hx hins hr
      · exact correct_cut h hb hol hoz at_ hat s ru on e fr hx hins hr
      · exact correct_t h hb hol hoz at_ hat s ru on e fr hx hins hr
      · exact correct_k h hb hol hoz at_ hat s ru on e fr hx hins hr
      · by_cases he : e = 0
        · by_cases h1 : lg = 1
          · exact correct_d1 h hb hol hoz at_ hat s ru on e fr hx hins hr he h1
          · by_cases h5 : lg = 5
            · exact correct_d5 h hb hol hoz at_ hat s ru on e fr hx hins hr he h5
            · exact correct_d0 h hb hol hoz at_ hat s ru on e fr hx hins hr he (by omega)
        · exact correct_de h hb hol hoz at_ hat s ru on e fr hx hins hr he
    · exact correct_none h hb hol hoz at_ hat s ru on e fr hx hins hr
end Go.Proofs.YtdpblciohodgcaaGreatDoor

/- The state of sequent's Broken while it lays the negations of the base's nodes. -/

namespace Go.Proofs.YtdpblciohodgcaaGreatDoor
open Go.RowKit

theorem tInfo3s : (Tryz.prog.info? 3).map (fun i => (i.zero, i.size, i.bytes)) = some (some (.int .i64 0), 1, 8) := by kernel_rfl
theorem set_4th {w : World} {b : Nat} {a0 a1 a2 a3 : Value} {t : TypeId} (h : w.heap[b]? = some (.cells #[a0, a1, a2, a3] t (0, 0))) (u : Value) : (w.setCell ⟨b, 3, none⟩ u).heap[b]? = some (.cells #[a0, a1, a2, u] t (0, 0)) := by
  simp only [World.setCell, Array.getElem?_modify, h, if_true, Option.map_some]
  rfl
structure Brk (w1 w2 w3 wr : World) (C : Nat) (a0 a1 a2 : Value) (vo : Value) (out : List Int) : Prop where
  ext : Ext w1 wr
  mid : ∀ g, w2.heap.size ≤ g → g < w3.heap.size → wr.heap[g]? = w3.heap[g]?
  size : w3.heap.size ≤ wr.heap.size
  blk : wr.heap[C]? = some (.cells #[a0, a1, a2, vo] 73 (0, 0))
  row : wr.ownsRow w3.heap.size 3 1 vo out.length (out.map (Value.int .i64))
section
variable {w1 w2 w3 wr : World} {C : Nat} {a0 a1 a2 vo : Value} {out : List Int}
theorem Brk.next {w4 : World} (h : Brk w1 w2 w3 wr C a0 a1 a2 vo out) (he : Ext wr w4) : Brk w1 w2 w3 w4 C a0 a1 a2 vo out :=
  ⟨h.ext.trans he, fun g h1 h2 => (he.block (Nat.lt_of_lt_of_le h2 h.size)).trans (h.mid g h1 h2), Nat.le_trans h.size he.size, (he.block (lt_heap h.blk)).trans h.blk, row_ext h.row he⟩
theorem Brk.push {w7 : World} {v7 : Value} {z : Int} (h : Brk w1 w2 w3 wr C a0 a1 a2 vo out) (hC1 : w1.heap.size ≤ C) (hC2 : C < w2.heap.size) (h23 : w2.heap.size ≤ w3.heap.size)
    (hown : w7.ownsRow w3.heap.size 3 1 v7 (out.length + 1) (out.map (Value.int .i64) ++ [.int .i64 z])) (hg : wr.grownBy w7 vo.ownBlock) :
    Brk w1 w2 w3 (w7.setCell ⟨C, 3, none⟩ v7) C a0 a1 a2 v7 (out ++ [z]) := by
  have hvo : ∀ g, vo.ownBlock = some g → w3.heap.size ≤ g := fun g hg' => (h.row.lt g hg').1
  have hkeep : ∀ g, g < w3.heap.size → w7.heap[g]? = wr.heap[g]? := fun g h1 => hg.block g (Nat.lt_of_lt_of_le h1 h.size) (fun e => by have := hvo g e.symm; omega)
  have hv7 : v7.ownBlock ≠ some C := fun e => by have := (hown.lt C e).1; omega
  refine ⟨(h.ext.grown hg (fun g hg' => by have := hvo g hg'; omega)).setCell hC1 _, fun g h1 h2 => ?_, ?_, ?_, ?_⟩
  · rw [Below.heap_setCell _ _ _ _ (show g ≠ C by omega), hkeep g h2]
    exact h.mid g h1 h2
  · have : (w7.setCell ⟨C, 3, none⟩ v7).heap.size = w7.heap.size := by simp [World.setCell]
    rw [this]
    exact Nat.le_trans h.size hg.size
  · exact set_4th (((hkeep C (by omega)).trans h.blk)) v7
  · have hr : w7.ownsRow w3.heap.size 3 1 v7 (out ++ [z]).length ((out ++ [z]).map (Value.int .i64)) := by
      rw [List.length_append, List.map_append]
      exact hown
    exact ownsRow_setCell_other (a := ⟨C, 3, none⟩) hr hv7 _
theorem FRow.fmls_mid {vo : Value} {l : List (List Nd)} (h : FRow w2 w3 vo l) {a b c d : Value} {o : List Int} (hB : Brk w1 w2 w3 wr C a b c d o) (h12 : w1.heap.size ≤ w2.heap.size) : Fmls wr vo l := by
  have h2 : FRow w1 wr vo l := by
    obtain ⟨us, hr, hu⟩ := h.row
    refine ⟨hB.ext, us, ⟨hr.1, ?_⟩, fun k s hk => ?_⟩
    · rcases hr.2 with h0 | ⟨g, cap, cur, e, h1, h2, h3, h4, h5, h6⟩
      · exact .inl h0
      · exact .inr ⟨g, cap, cur, e, Nat.le_trans h12 h1, (hB.mid g h1 (lt_heap h2)).trans h2, h3, h4, h5, h6⟩
    · obtain ⟨u, a, b, c⟩ := hu k s hk
      exact ⟨u, a, ⟨b.1.keepF (fun g hg _ => hB.mid g (c g hg).2.2 (c g hg).1) hB.size, b.2⟩, fun g hg => ⟨Nat.lt_of_lt_of_le (c g hg).1 hB.size, (c g hg).2.1, Nat.le_trans h12 (c g hg).2.2⟩⟩
  exact h2.fmls
end
theorem formulas_get {base : List Nd} {k : Nat} (hk : k < base.length) : (formulasN base)[k]? = some (subN base (k : Int)) := by
  unfold formulasN
  rw [List.getElem?_map, List.getElem?_range hk]
  rfl
theorem formulas_len (base : List Nd) : (formulasN base).length = base.length := by unfold formulasN; simp
theorem opps_len (base : List Nd) : (oppsN base).length = base.length := by unfold oppsN; rw [List.length_map, formulas_len]
theorem opps_step {base : List Nd} {k : Nat} (hk : k < base.length) : (oppsN base).take (k + 1) = (oppsN base).take k ++ [placeN (formulasN base) (oppN (subN base (k : Int)))] := by
  refine take_succ_eq ?_
  unfold oppsN
  rw [List.getElem?_map, formulas_get hk]
  rfl
theorem place_lt (l : List (List Nd)) (g : List Nd) : placeN l g < l.length ∨ placeN l g = -1 := by
  unfold placeN
  cases h : l.findIdx? fun f => decide (f = g) with
  | none => exact Or.inr rfl
  | some j =>
    left
    have := (List.findIdx?_eq_some_iff_findIdx_eq.1 h).1
    show (j : Int) < _
    omega
theorem opps_lt {base : List Nd} (hl : base.length ≤ 64) : ∀ z ∈ oppsN base, z < 64 := by
  intro z hz
  unfold oppsN at hz
  obtain ⟨f, _, rfl⟩ := List.mem_map.1 hz
  rcases place_lt (formulasN base) (oppN f) with h | h
  · rw [formulas_len] at h; omega
  · rw [h]; decide
end Go.Proofs.YtdpblciohodgcaaGreatDoor

/- append to a row of the call's own, as one step of a region that draws its order. -/

namespace Go.Proofs.YtdpblciohodgcaaGreatDoor
open Go.RowKit

/-- append to a row of the call's own, as one step of a region that draws. -/
theorem step_append_at {P : Program} {ops : Array Oper} {o : Oper} {a : Act} {w : World} {K : Act → World → Prop} {Q : Exit → Act → World → Prop} {E : Prop}
    (hgd : o.guard = none) (s x : Operand) (t : TypeId) (ho : o.op = .call { callee := .builtin .append, args := #[s, x], argTypes := #[t, t] })
    (base : Nat) (e : TypeId) (i : TypeInfo) (z : Value) (size bytes : Nat) (ht : P.underlying t = some (.slice e)) (hi : P.info? e = some i) (hz : i.zero = some z)
    (hsize : i.size = size) (hby : i.bytes = bytes) (hzs : z.cells.size = size) (hsz : 0 < size)
    (v : Value) (n : Nat) (xs : List Value) (hs : a.eval s = v) (hown : w.ownsRow base e size v n xs)
    (ad : Addr) (m c : Nat) (news : List Value) (hx : a.eval x = .slice (some ad) m c) (hl : news.length = m * size) (hnews : ∀ j u, news[j]? = some u → w.cell? (ad.add j) = some u) (h1 : ∀ u ∈ news, u.oneCell' = true)
    (h63 : n + m ≤ maxLen) (hbytes : (n + m) * bytes ≤ 140737488355328) (hbase : base ≤ w.heap.size)
    (h : ∀ v' w', w'.ownsRow base e size v' (n + m) (xs ++ news) → w.grownBy w' v.ownBlock → (v'.ownBlock = v.ownBlock ∨ v'.ownBlock = some w.heap.size) → K (a.put o.dst v') w') :
    if Region.wanted o (yielded ops a.tmps) = true then Oper.wp P o a w K Q else E := by
  have hw : Region.wanted o (yielded ops a.tmps) = true := by simp [Region.wanted, hgd]
  rw [if_pos hw]
  obtain ⟨v', w', hr, h2, h3, _, h5⟩ := run_append_own_at (P := P) w base t o.type e i z size bytes ht hi hz hsize hby hzs hsz v n xs hown ad m c news hl hnews h1 h63 hbytes hbase
  unfold Oper.wp execOp
  simp only [ho, resolve, invoke, builtin, Sem.run_bind, Sem.run_pure, Result.andThen_ok, List.map_toArray, List.map_cons, List.map_nil, hs, hx, hr]
  exact h v' w' h2 h3 h5
end Go.Proofs.YtdpblciohodgcaaGreatDoor

/- sequent's Broken. -/

namespace Go.Proofs.YtdpblciohodgcaaGreatDoor
open Go.RowKit

theorem keep_c {w1 w2 w3 wr w7 : World} {C : Nat} {a0 a1 a2 vo : Value} {out : List Int} (h : Brk w1 w2 w3 wr C a0 a1 a2 vo out) (h23 : w2.heap.size ≤ w3.heap.size) (hC : C < w2.heap.size) (hg : wr.grownBy w7 vo.ownBlock) :
    w7.heap[C]? = some (.cells #[a0, a1, a2, vo] 73 (0, 0)) :=
  (hg.block C (lt_heap h.blk) (fun e => by have := (h.row.lt C e.symm).1; omega)).trans h.blk
set_option maxRecDepth 100000 in
set_option maxHeartbeats 16000000 in
theorem broken_any {w : World} {lg : Int} {vb vs : Value} {base : List Nd} {steps : List Stp} (hb : Fml w vb base) (hs : Sps w vs steps) :
    Calls Tryz.prog 20 #[.agg #[.int .i64 lg, vb, vs]] w fun e w' => e = .returned (.int .i64 (brokenS lg base steps)) ∧ Ext w w' := by
  have H := Lib.hid hb
  have HS := Lib.hid hs
  obtain ⟨Ab, cb, rfl, _⟩ := fml_slice hb
  obtain ⟨As, cs, rfl, hs1, hs2, _⟩ := hs
  unfold maxLen at hs2
  clear hb
  obtain ⟨z0, z1, z2, _, zlt⟩ := cells3 (heap_alloc_new w (.cells #[.int .i64 lg, .slice Ab base.length cb, .slice As steps.length cs] 25))
  have Z := Lib.hid (And.intro z0 (And.intro z1 z2))
  have ZLT := Lib.hid zlt
  have X0 := Lib.hid ((Ext.refl w).alloc (.cells #[.int .i64 lg, .slice Ab base.length cb, .slice As steps.length cs] 25))
  clear z0 z1 z2 zlt
  by_cases hf : formS lg base steps = 0
  · have HF := Lib.hid hf
    obtain ⟨hk1, hb1, hl1, hl2⟩ := formS_ok.1 hf
    have HBE := Lib.hid hb1
    have hlen := (baseErr_ok hb1).2.1
    have HALL := Lib.hid (baseErr_ok hb1)
    have HBR := Lib.hid (show brokenS lg base steps = brokenGo lg base (oppsN base) steps steps.length 0 by unfold brokenS; rw [hf]; rfl)
    obtain ⟨i3, hi3, hz30, hz31, hz32⟩ := info_parts tInfo3s
    have eg : ∀ args w, (callFunc 40 args).run Tryz.prog w = .ok (.enter 40 args) w := fun _ _ => rfl
    clear hf hk1 hb1
    go_enter Tryz.func20, Tryz.ntmps20
    go_wp2_with fail
    refine (form_any (lg := lg) (H.out.ext X0.out) (HS.out.ext X0.out)).mono ?_
    rintro e w1 ⟨rfl, hx⟩
    rw [HF.out]
    have X1 := Lib.hid (X0.out.trans hx)
    have XZ1 := Lib.hid hx
    have y0 := (hx.cell (p := ⟨w.heap.size, 0, none⟩) ZLT.out).trans Z.out.1
    have y1 := (hx.cell (p := ⟨w.heap.size, 1, none⟩) ZLT.out).trans Z.out.2.1
    have y2 := (hx.cell (p := ⟨w.heap.size, 2, none⟩) ZLT.out).trans Z.out.2.2
    have XC := Lib.hid ((Ext.refl w1).alloc (.cells #[.int .i64 lg, .slice Ab base.length cb, .slice As steps.length cs, .slice none 0 0] 73))
    have ylt : w.heap.size < w1.heap.size := Nat.lt_of_lt_of_le ZLT.out hx.size
    have q1 := (XC.out.cell (p := ⟨w.heap.size, 1, none⟩) ylt).trans y1
    have YLT := Lib.hid ylt
    have Y2 := Lib.hid y2
    clear hx
    go_wp2_with fail
    refine (formulas_any _ base _ (H.out.ext (X1.out.trans XC.out)) (by omega)).mono ?_
    rintro e w3 ⟨u4, rfl, hfr⟩
    have HFR := Lib.hid hfr
    have X3 := Lib.hid (X1.out.trans (XC.out.trans hfr.ext))
    have HW23 := Lib.hid (show (w1.alloc (.cells #[.int .i64 lg, .slice Ab base.length cb, .slice As steps.length cs, .slice none 0 0] 73)).heap.size ≤ w3.heap.size from hfr.ext.size)
    have HB0 := Lib.hid (show Brk w1 (w1.alloc (.cells #[.int .i64 lg, .slice Ab base.length cb, .slice As steps.length cs, .slice none 0 0] 73)) w3 w3 w1.heap.size (.int .i64 lg) (.slice Ab base.length cb) (.slice As steps.length cs) (.slice none 0 0) [] from
      ⟨XC.out.trans hfr.ext, fun _ _ _ => rfl, Nat.le_refl _, (hfr.ext.block (by simp)).trans (heap_alloc_new w1 (.cells #[.int .i64 lg, .slice Ab base.length cb, .slice As steps.length cs, .slice none 0 0] 73)), World.ownsRow_nil _ _ _ _⟩)
    obtain ⟨A4, c4, hu4, _⟩ := hfr.fmls
    rw [formulas_len] at hu4
    subst hu4
    clear hfr y0 y1 y2 q1 ylt
    go_wp2_with fail
    go_loopw [20] (fun vi wr => ∃ k : Nat, vi = .int .i64 (k : Int) ∧ k ≤ base.length ∧ Hid (∃ vo, Brk w1 (w1.alloc (.cells #[.int .i64 lg, .slice Ab base.length cb, .slice As steps.length cs, .slice none 0 0] 73)) w3 wr w1.heap.size (.int .i64 lg) (.slice Ab base.length cb) (.slice As steps.length cs) vo ((oppsN base).take k))) (fun vi _ => base.length - (intOf vi).toNat)
    case atStart => exact ⟨0, rfl, Nat.zero_le _, Lib.hid ⟨_, HB0.out⟩⟩
    case round =>
      obtain ⟨k, rfl, hk, HREL⟩ := hrel
      obtain ⟨vo, hbk⟩ := HREL.out
      obtain ⟨Ao, co, hvo⟩ := slice_of_row hbk.row
      have hol : ((oppsN base).take k).length = k := by rw [List.length_take, opps_len]; omega
      obtain ⟨out, hout⟩ : ∃ out, out = (oppsN base).take k := ⟨_, rfl⟩
      rw [← hout] at hbk hvo hol
      subst hvo
      have HBK := Lib.hid hbk
      have HFM := Lib.hid (HFR.out.fmls_mid hbk (by simp))
      have HOUT := Lib.hid hout
      clear HREL
      by_cases hlt2 : k < base.length
      · have hk1 : (k : Int) < (base.length : Int) := by omega
        have hk0 : (0 : Int) ≤ (k : Int) := by omega
        obtain ⟨A', c', e', _, _, hread⟩ := HFM.out
        injection e' with e1 e0 e2
        subst e1 e2
        clear e0
        obtain ⟨ad4, hA4, hblk4, hcell4⟩ := hread (by intro e; have := formulas_len base; rw [e] at this; simp at this; omega)
        subst hA4
        obtain ⟨uk, huk, hfk⟩ := hcell4 k _ (formulas_get hlt2)
        have HFK := Lib.hid hfk
        obtain ⟨Ak, ck, rfl, _⟩ := fml_slice hfk
        have hc3 : out.length + 1 ≤ maxLen := by unfold maxLen; omega
        have hc4 : (out.length + 1) * 8 ≤ 140737488355328 := by omega
        have HSTEP := Lib.hid (opps_step hlt2)
        have HLT := Lib.hid hlt2
        clear hbk hread hcell4 hfk hout hol
        go_wp2_with fail
        refine (opposite_any _ (subN base (k : Int)) _ HFK.out (opp_few HALL.out.1 HALL.out.2.2 HLT.out)).mono ?_
        rintro e w5 ⟨ug, rfl, hx, hg⟩
        obtain ⟨Ag, cg, rfl, _⟩ := fml_slice hg
        have X6 := Lib.hid (show Ext wr (w5.alloc (.cells #[.slice Ag (oppN (subN base (k : Int))).length cg] 22)) from hx.alloc _)
        obtain ⟨g0, glt⟩ := cells1 (heap_alloc_new w5 (.cells #[.slice Ag (oppN (subN base (k : Int))).length cg] 22))
        have G0 := Lib.hid g0
        have GLT := Lib.hid glt
        have HG6 := Lib.hid (hg.ext ((Ext.refl w5).alloc (.cells #[.slice Ag (oppN (subN base (k : Int))).length cg] 22)))
        obtain ⟨_, _, _, k36, _, klt6⟩ := cells4s (HBK.out.next X6.out).blk
        have C6 := Lib.hid klt6
        clear hx hg g0 glt
        go_wp2_with fail
        go_region_law (first | (go_simp; go_at_call 39; refine (indexF_any 40 #[.pointer (some ⟨w5.heap.size, 0, none⟩)] eg (fun t => decide (t = (oppN (subN base (k : Int))))) _ (formulasN base) _ (by exact HFM.out.ext (Ext.trans X6.out (by repeat (first | exact Ext.refl _ | assumption | apply Ext.alloc | apply Ext.drew)))) (fun W u s hW hs => broken1_any w5.heap.size u _ s _ W hs.1 (((Ext.trans (show Ext (w5.alloc (.cells #[.slice Ag (oppN (subN base (k : Int))).length cg] 22)) _ from (by repeat (first | exact Ext.refl _ | assumption | apply Ext.alloc | apply Ext.drew))) hW).cell (p := ⟨w5.heap.size, 0, none⟩) GLT.out).trans G0.out) (HG6.out.ext (Ext.trans (show Ext (w5.alloc (.cells #[.slice Ag (oppN (subN base (k : Int))).length cg] 22)) _ from (by repeat (first | exact Ext.refl _ | assumption | apply Ext.alloc | apply Ext.drew))) hW)).1)).mono ?_; rintro e wc ⟨rfl, hmc⟩; have hxc : Ext (w5.alloc (.cells #[.slice Ag (oppN (subN base (k : Int))).length cg] 22)) wc := Ext.trans (by repeat (first | exact Ext.refl _ | assumption | apply Ext.alloc | apply Ext.drew)) hmc; have k3c := (hxc.cell (p := ⟨w1.heap.size, 3, none⟩) C6.out).trans k36; have k3d := ((Ext.alloc hxc (.cells #[.int .i64 (findN (fun t => decide (t = (oppN (subN base (k : Int))))) (formulasN base))] 3)).cell (p := ⟨w1.heap.size, 3, none⟩) C6.out).trans k36; clear hmc) | (refine step_append_at rfl (.tmp 30) (.tmp 34) 47 rfl w3.heap.size 3 i3 (.int .i64 0) 1 8 Tryz.underlying47 hi3 hz30 hz31 hz32 rfl (by decide) (.slice Ao out.length co) out.length (out.map (Value.int .i64)) (by simp [Act.eval]) (row_ext HBK.out.row (Ext.trans X6.out (Ext.trans hxc (by repeat (first | exact Ext.refl _ | assumption | apply Ext.alloc | apply Ext.drew))))) ⟨_, 0, none⟩ 1 1 [.int .i64 (findN (fun t => decide (t = (oppN (subN base (k : Int))))) (formulasN base))] (by simp [Act.eval]; rfl) rfl (by exact row_new_at _ _ _ (by simp)) (fun u hu => by rw [List.mem_singleton.1 hu]; rfl) hc3 hc4 (Nat.le_trans HBK.out.size (Ext.size (Ext.trans X6.out (Ext.trans hxc (by repeat (first | exact Ext.refl _ | assumption | apply Ext.alloc | apply Ext.drew)))))) ?_; intro v7 w7 hown7 hgrow7 hat7; have HB7 := Lib.hid (Brk.push (HBK.out.next (Ext.trans X6.out (Ext.trans hxc (by repeat (first | exact Ext.refl _ | assumption | apply Ext.alloc | apply Ext.drew))))) (Nat.le_refl _) (by simp) HW23.out hown7 hgrow7); have k37 := keep_c (HBK.out.next (Ext.trans X6.out (Ext.trans hxc (by repeat (first | exact Ext.refl _ | assumption | apply Ext.alloc | apply Ext.drew))))) HW23.out (by simp) hgrow7; obtain ⟨y0, y1, y2, y3, yfr, ylt⟩ := cells4s k37; obtain ⟨A7, c7, hv7⟩ := slice_of_row hown7; subst hv7; clear hown7 hgrow7 hat7 k37))
        all_goals
          go_wp2_with fail
          go_roundw
          case rel => exact ⟨k + 1, by go_num, by omega, Lib.hid ⟨_, by rw [HSTEP.out, ← HOUT.out]; exact HB7.out⟩⟩
          case measure => simp [intOf]; omega
      · obtain rfl : base.length = k := by omega
        have HSC := Lib.hid (show SChk wr w1.heap.size lg base steps (oppsN base) from by
          have e : out = oppsN base := by rw [hout, List.take_of_length_le (by rw [opps_len]; omega)]
          rw [e] at hbk
          exact ⟨_, _, _, hbk.blk, H.out.ext (X1.out.trans hbk.ext), HS.out.ext (X1.out.trans hbk.ext), ints_of_row hbk.row⟩)
        have XR := Lib.hid (X1.out.trans hbk.ext)
        have y2 := (hbk.ext.cell (p := ⟨w.heap.size, 2, none⟩) YLT.out).trans Y2.out
        clear hbk hout hol
        go_wp2_with fail
        go_loopw [42] (fun vi wq => ∃ i : Nat, vi = .int .i64 (i : Int) ∧ i ≤ steps.length ∧ Hid (brokenS lg base steps = brokenGo lg base (oppsN base) steps (steps.length - i) i) ∧ Hid (Ext wr wq)) (fun vi _ => steps.length - (intOf vi).toNat)
        case atStart => exact ⟨0, rfl, Nat.zero_le _, Lib.hid (by rw [HBR.out]; rfl), Lib.hid (Ext.refl _)⟩
        case round =>
          obtain ⟨i, rfl, hi, HGO, HXQ⟩ := hrel
          by_cases hlt3 : i < steps.length
          · have hi1 : (i : Int) < (steps.length : Int) := by omega
            have HGO2 := Lib.hid (show brokenS lg base steps = bif correctN lg base (oppsN base) steps i then brokenGo lg base (oppsN base) steps (steps.length - (i + 1)) (i + 1) else i by
              rw [HGO.out, show steps.length - i = steps.length - (i + 1) + 1 by omega, brokenGo])
            have HI := Lib.hid hlt3
            go_wp2_with fail
            refine (correct_any (HSC.out.ext HXQ.out) HBE.out (by rw [opps_len]; exact HALL.out.2.1) (opps_lt HALL.out.2.1) i HI.out).mono ?_
            rintro e w8 ⟨rfl, hx⟩
            have HX8 := Lib.hid (HXQ.out.trans hx)
            clear hx
            cases hc : correctN lg base (oppsN base) steps i
            · have HE := Lib.hid (show brokenS lg base steps = (i : Int) by rw [HGO2.out, hc]; rfl)
              go_wp2_with fail
              go_ret
              exact ⟨by rw [HE.out] <;> rfl, XR.out.trans HX8.out⟩
            · have HE := Lib.hid (show brokenS lg base steps = brokenGo lg base (oppsN base) steps (steps.length - (i + 1)) (i + 1) by rw [HGO2.out, hc]; rfl)
              go_wp2_with fail
              go_roundw
              case rel => exact ⟨i + 1, by go_num, by omega, HE, HX8⟩
              case measure => simp [intOf]; omega
          · obtain rfl : steps.length = i := by omega
            have HE := Lib.hid (show brokenS lg base steps = -1 by rw [HGO.out, Nat.sub_self]; rfl)
            go_wp2_with fail
            go_ret
            exact ⟨by rw [HE.out] <;> rfl, XR.out.trans HXQ.out⟩
  · have hf1 : (formS lg base steps != 0) = true := by simpa using hf
    have hf2 : (formS lg base steps == 0) = false := by simpa using hf
    have HE := Lib.hid (show brokenS lg base steps = -1 by unfold brokenS; rw [hf1]; rfl)
    clear hf
    go_enter Tryz.func20, Tryz.ntmps20
    go_wp2_with fail
    refine (form_any (lg := lg) (H.out.ext X0.out) (HS.out.ext X0.out)).mono ?_
    rintro e w1 ⟨rfl, hx⟩
    have X1 := Lib.hid (X0.out.trans hx)
    clear hx
    go_wp2_with fail
    go_ret
    exact ⟨by rw [HE.out] <;> rfl, X1.out⟩
end Go.Proofs.YtdpblciohodgcaaGreatDoor

/- sequent's Check and Refuted. -/

namespace Go.Proofs.YtdpblciohodgcaaGreatDoor
open Go.RowKit

set_option maxRecDepth 100000 in
set_option maxHeartbeats 4000000 in
theorem checkS_any {w : World} {lg : Int} {vb vs : Value} {base : List Nd} {steps : List Stp} (hb : Fml w vb base) (hs : Sps w vs steps) :
    Calls Tryz.prog 19 #[.agg #[.int .i64 lg, vb, vs]] w fun e w' => e = .returned (.int .i64 (checkS lg base steps)) ∧ Ext w w' := by
  have H := Lib.hid hb
  have HS := Lib.hid hs
  obtain ⟨Ab, cb, rfl, _⟩ := fml_slice hb
  obtain ⟨As, cs, rfl, hs1, hs2, hsr⟩ := hs
  unfold maxLen at hs2
  have HSR := Lib.hid hsr
  clear hb hsr
  obtain ⟨z0, z1, z2, _, zlt⟩ := cells3 (heap_alloc_new w (.cells #[.int .i64 lg, .slice Ab base.length cb, .slice As steps.length cs] 25))
  have Z := Lib.hid (And.intro z0 (And.intro z1 z2))
  have ZLT := Lib.hid zlt
  have X0 := Lib.hid ((Ext.refl w).alloc (.cells #[.int .i64 lg, .slice Ab base.length cb, .slice As steps.length cs] 25))
  clear z0 z1 z2 zlt
  by_cases hf : formS lg base steps = 0
  · have HF := Lib.hid hf
    have hfb : (formS lg base steps != 0) = false := by rw [hf]; rfl
    by_cases hg : 0 ≤ brokenS lg base steps
    · have HE := Lib.hid (show checkS lg base steps = 13 by unfold checkS; rw [hfb, decide_eq_true hg]; rfl)
      clear hf hfb
      go_enter Tryz.func19, Tryz.ntmps19
      go_wp2_with fail
      refine (form_any (lg := lg) (H.out.ext X0.out) (HS.out.ext X0.out)).mono ?_
      rintro e w1 ⟨rfl, hx⟩
      rw [HF.out]
      have X1 := Lib.hid (X0.out.trans hx)
      have y0 := (hx.cell (p := ⟨w.heap.size, 0, none⟩) ZLT.out).trans Z.out.1
      have y1 := (hx.cell (p := ⟨w.heap.size, 1, none⟩) ZLT.out).trans Z.out.2.1
      have y2 := (hx.cell (p := ⟨w.heap.size, 2, none⟩) ZLT.out).trans Z.out.2.2
      clear hx
      go_wp2_with fail
      refine (broken_any (lg := lg) (H.out.ext X1.out) (HS.out.ext X1.out)).mono ?_
      rintro e w2 ⟨rfl, hx⟩
      have X2 := Lib.hid (X1.out.trans hx)
      clear hx
      go_wp2_with fail
      go_ret
      exact ⟨by rw [HE.out] <;> rfl, X2.out⟩
    · have HE := Lib.hid (show checkS lg base steps = 0 by unfold checkS; rw [hfb, decide_eq_false hg]; rfl)
      have hgd : decide (0 ≤ brokenS lg base steps) = false := decide_eq_false hg
      clear hf hfb
      go_enter Tryz.func19, Tryz.ntmps19
      go_wp2_with fail
      refine (form_any (lg := lg) (H.out.ext X0.out) (HS.out.ext X0.out)).mono ?_
      rintro e w1 ⟨rfl, hx⟩
      rw [HF.out]
      have X1 := Lib.hid (X0.out.trans hx)
      have y0 := (hx.cell (p := ⟨w.heap.size, 0, none⟩) ZLT.out).trans Z.out.1
      have y1 := (hx.cell (p := ⟨w.heap.size, 1, none⟩) ZLT.out).trans Z.out.2.1
      have y2 := (hx.cell (p := ⟨w.heap.size, 2, none⟩) ZLT.out).trans Z.out.2.2
      clear hx
      go_wp2_with fail
      refine (broken_any (lg := lg) (H.out.ext X1.out) (HS.out.ext X1.out)).mono ?_
      rintro e w2 ⟨rfl, hx⟩
      have X2 := Lib.hid (X1.out.trans hx)
      clear hx
      go_wp2_with fail
      go_ret
      exact ⟨by rw [HE.out] <;> rfl, X2.out⟩
  · have hf1 : (formS lg base steps != 0) = true := by simpa using hf
    have hf2 : (formS lg base steps == 0) = false := by simpa using hf
    have HE := Lib.hid (show checkS lg base steps = formS lg base steps by unfold checkS; rw [hf1]; rfl)
    clear hf
    go_enter Tryz.func19, Tryz.ntmps19
    go_wp2_with fail
    refine (form_any (lg := lg) (H.out.ext X0.out) (HS.out.ext X0.out)).mono ?_
    rintro e w1 ⟨rfl, hx⟩
    have X1 := Lib.hid (X0.out.trans hx)
    clear hx
    go_wp2_with fail
    go_ret
    exact ⟨by rw [HE.out] <;> rfl, X1.out⟩
/-- The formulas of a row's world, in a row of the call's own that lies behind them. -/
structure LRow (w3 w : World) (vo : Value) (out : List (List Nd)) : Prop where
  ext : Ext w3 w
  row : ∃ us, w.ownsRow w3.heap.size 22 1 vo out.length us ∧ ∀ (k : Nat) (s : List Nd), out[k]? = some s → ∃ u, us[k]? = some u ∧ Fml w3 u s
theorem LRow.fmls {w0 w : World} {vo : Value} {out : List (List Nd)} (h : LRow w0 w vo out) : Fmls w vo out := by
  obtain ⟨ss, hs, hv⟩ := h.row
  by_cases h0 : 0 < out.length
  · obtain ⟨g, cap, rfl, hg, h1, h2, hc⟩ := row1_cellsF hs h0
    refine ⟨_, cap, rfl, h1, h2, fun _ => ⟨_, rfl, hg, fun k f hk => ?_⟩⟩
    obtain ⟨u, a, b⟩ := hv k f hk
    exact ⟨u, by rw [addr_zero]; exact hc k u a, b.ext h.ext⟩
  · have e : out = [] := List.length_eq_zero_iff.1 (by omega)
    subst e
    rcases hs.2 with ⟨e, _⟩ | ⟨g, cap, cur, e, _, _, hn, hm, _⟩
    · subst e
      exact ⟨none, 0, rfl, Nat.le_refl _, by unfold maxLen; omega, fun h => absurd rfl h⟩
    · subst e
      exact ⟨_, _, rfl, Nat.zero_le _, hm, fun h => absurd rfl h⟩
theorem LRow.push {w3 W w7 : World} {vo v7 x : Value} {out : List (List Nd)} {s : List Nd} {us : List Value} (h : LRow w3 W vo out) (hs : W.ownsRow w3.heap.size 22 1 vo out.length us) (hu : ∀ (k : Nat) (s : List Nd), out[k]? = some s → ∃ u, us[k]? = some u ∧ Fml w3 u s)
    (hown : w7.ownsRow w3.heap.size 22 1 v7 (out.length + 1) (us ++ [x])) (hg : W.grownBy w7 vo.ownBlock) (hx : Fml w3 x s) : LRow w3 w7 v7 (out ++ [s]) := by
  have hlen : us.length = out.length := by simpa using hs.1
  refine ⟨h.ext.grown hg (fun g hg' => (hs.lt g hg').1), us ++ [x], by rw [List.length_append]; exact hown, fun k s' hk => ?_⟩
  by_cases hk' : k < out.length
  · rw [List.getElem?_append_left hk'] at hk
    obtain ⟨u, a, b⟩ := hu k s' hk
    exact ⟨u, by rw [List.getElem?_append_left (by omega)]; exact a, b⟩
  · rw [List.getElem?_append_right (by omega)] at hk
    have hk0 : k = out.length := by
      by_cases e : k - out.length = 0
      · omega
      · rw [List.getElem?_eq_none (by simp; omega)] at hk; cases hk
    subst hk0
    simp at hk
    subst hk
    exact ⟨x, by rw [List.getElem?_append_right (by omega), hlen]; simp, hx⟩
def pickN (base : List Nd) (s k : Nat) : List (List Nd) := ((List.range k).filter fun (i : Nat) => inS s i).map fun (i : Nat) => subN base i
theorem pick_no {base : List Nd} {s k : Nat} (h : inS s k = false) : pickN base s (k + 1) = pickN base s k := by
  unfold pickN
  rw [List.range_succ, List.filter_append]
  simp [h]
theorem pick_yes {base : List Nd} {s k : Nat} (h : inS s k = true) : pickN base s (k + 1) = pickN base s k ++ [subN base k] := by
  unfold pickN
  rw [List.range_succ, List.filter_append]
  simp [h]
theorem pick_len (base : List Nd) (s k : Nat) : (pickN base s k).length ≤ k := by
  unfold pickN
  rw [List.length_map]
  exact Nat.le_trans (List.length_filter_le _ _) (by simp)
set_option maxRecDepth 100000 in
set_option maxHeartbeats 8000000 in
theorem refuted_any {w : World} {lg : Int} {vb vs : Value} {base : List Nd} {steps : List Stp} (hb : Fml w vb base) (hs : Sps w vs steps) :
    Calls Tryz.prog 10 #[.agg #[.int .i64 lg, vb, vs]] w fun e w' => ∃ u, e = .returned (.tuple #[u, .int .i64 (refutedS lg base steps).2]) ∧ Ext w w' ∧ Fmls w' u (refutedS lg base steps).1 := by
  have H := Lib.hid hb
  have HS := Lib.hid hs
  obtain ⟨Ab, cb, rfl, _⟩ := fml_slice hb
  obtain ⟨As, cs, rfl, hs1, hs2, hsr⟩ := hs
  unfold maxLen at hs2
  have HSR := Lib.hid hsr
  clear hb hsr
  obtain ⟨z0, z1, z2, _, zlt⟩ := cells3 (heap_alloc_new w (.cells #[.int .i64 lg, .slice Ab base.length cb, .slice As steps.length cs] 25))
  have Z := Lib.hid (And.intro z0 (And.intro z1 z2))
  have ZLT := Lib.hid zlt
  have X0 := Lib.hid ((Ext.refl w).alloc (.cells #[.int .i64 lg, .slice Ab base.length cb, .slice As steps.length cs] 25))
  clear z0 z1 z2 zlt
  by_cases hf : checkS lg base steps = 0
  · have HF := Lib.hid hf
    obtain ⟨hf1, _⟩ := checkS_ok.1 hf
    obtain ⟨hk1, hb1, hl1, hl2⟩ := formS_ok.1 hf1
    have hlen := (baseErr_ok hb1).2.1
    obtain ⟨last, hla⟩ : ∃ l, steps[steps.length - 1]? = some l := ⟨_, List.getElem?_eq_getElem (by omega)⟩
    have HR := Lib.hid (show refutedS lg base steps = (pickN base last.set base.length, 0) by
      unfold refutedS
      rw [hf, List.getLastD_eq_getLast?, List.getLast?_eq_getElem?, hla]
      rfl)
    obtain ⟨iI, hiI, hzI0, hzI1, hzI2⟩ := info_parts tInfoF2
    obtain ⟨ad, rfl, hblk, hcell⟩ := HSR.out (by intro e; rw [e] at hla; simp at hla)
    obtain ⟨_, p0, _, _, _, _, _, hs64⟩ := hcell _ _ hla
    have hw1 : IntKind.i64.wrap ((steps.length : Int) - 1) = (steps.length : Int) - 1 := by rw [IntKind.wrap_i64]; omega
    have hn1 : ((steps.length : Int) - 1).toNat = steps.length - 1 := by omega
    have hn0 : (0 : Int) ≤ (steps.length : Int) - 1 := by omega
    have hn2 : (steps.length : Int) - 1 < (steps.length : Int) := by omega
    clear hf hf1 hk1 hb1 hla hcell hl1
    go_enter Tryz.func10, Tryz.ntmps10
    go_wp2_with fail
    refine (checkS_any (lg := lg) (H.out.ext X0.out) (HS.out.ext X0.out)).mono ?_
    rintro e w1 ⟨rfl, hx⟩
    rw [HF.out]
    have X1 := Lib.hid (X0.out.trans hx)
    have YLT := Lib.hid (Nat.lt_of_lt_of_le ZLT.out hx.size)
    have y1 := (hx.cell (p := ⟨w.heap.size, 1, none⟩) ZLT.out).trans Z.out.2.1
    have Y2 := Lib.hid ((hx.cell (p := ⟨w.heap.size, 2, none⟩) ZLT.out).trans Z.out.2.2)
    clear hx
    go_wp2_with fail
    refine (formulas_any _ base _ (H.out.ext X1.out) (by omega)).mono ?_
    rintro e w3 ⟨u4, rfl, hfr⟩
    have X3 := Lib.hid (X1.out.trans hfr.ext)
    have Y23 := Lib.hid ((hfr.ext.cell (p := ⟨w.heap.size, 2, none⟩) YLT.out).trans Y2.out)
    have YLT3 := Lib.hid (Nat.lt_of_lt_of_le YLT.out hfr.ext.size)
    have PBL := Lib.hid (show (ad.add ((steps.length - 1) * 5)).block < w.heap.size by rw [block_of_add]; exact hblk)
    have P0 := Lib.hid p0
    obtain ⟨A4, c4, hu4, hc4, hm4, hr4⟩ := hfr.fmls
    rw [formulas_len] at hu4
    subst hu4
    have HR4 := Lib.hid hr4
    clear hfr y1 hc4 hm4 hr4 p0
    go_wp2_with fail
    go_loopw [5, 17] (fun vo vi wr => ∃ k : Nat, vi = .int .i64 (k : Int) ∧ k ≤ base.length ∧ Hid (∃ out, out = pickN base last.set k ∧ LRow w3 wr vo out)) (fun _ vi _ => base.length - (intOf vi).toNat)
    case atStart => exact ⟨0, rfl, Nat.zero_le _, Lib.hid ⟨[], rfl, Ext.refl _, [], World.ownsRow_nil _ _ _ _, fun k s h => by simp at h⟩⟩
    case round =>
      obtain ⟨k, rfl, hk, HREL⟩ := hrel
      obtain ⟨out, ho, hlr⟩ := HREL.out
      obtain ⟨us, hrow, hus⟩ := hlr.row
      obtain ⟨Ao, co, rfl⟩ := slice_of_row hrow
      have HO := Lib.hid ho
      have HLR := Lib.hid hlr
      have HROW := Lib.hid hrow
      have HUS := Lib.hid hus
      have hol : out.length ≤ 1000 := by rw [ho]; have := pick_len base last.set k; omega
      clear HREL ho hlr hrow hus
      by_cases hlt2 : k < base.length
      · have hk1 : (k : Int) < (base.length : Int) := by omega
        have hk0 : (0 : Int) ≤ (k : Int) := by omega
        have hc3 : out.length + 1 ≤ maxLen := by unfold maxLen; omega
        have hc4 : (out.length + 1) * 24 ≤ 140737488355328 := by omega
        obtain ⟨ad4, hA4, hblk4, hcell4⟩ := HR4.out (by intro e; have := formulas_len base; rw [e] at this; simp at this; omega)
        subst hA4
        obtain ⟨uk, huk, hfk⟩ := hcell4 k _ (formulas_get hlt2)
        have HFK := Lib.hid hfk
        obtain ⟨Ak, ck, rfl, _⟩ := fml_slice hfk
        have a0 := (HLR.out.ext.cell (p := ad4.add k) (by rw [block_of_add]; exact hblk4)).trans huk
        have y2 := (HLR.out.ext.cell (p := ⟨w.heap.size, 2, none⟩) YLT3.out).trans Y23.out
        have p0 := ((X3.out.trans HLR.out.ext).cell (p := ad.add ((steps.length - 1) * 5)) PBL.out).trans P0.out
        clear huk hfk hcell4
        cases hin : inS last.set (k : Int)
        · have HP := Lib.hid (pick_no (base := base) hin)
          have HIN := Lib.hid hin
          clear hin
          go_wp2_with fail
          refine (in_eq last.set hs64 (k : Int) _).mono ?_
          rintro e w5 ⟨rfl, rfl⟩
          rw [HIN.out]
          go_wp2_with fail
          go_roundw
          case rel => exact ⟨k + 1, by go_num, by omega, Lib.hid ⟨_, by rw [HP.out]; exact HO.out, HLR.out⟩⟩
          case measure => simp [intOf]; omega
        · have HP := Lib.hid (pick_yes (base := base) hin)
          have HIN := Lib.hid hin
          clear hin
          go_wp2_with fail
          refine (in_eq last.set hs64 (k : Int) _).mono ?_
          rintro e w5 ⟨rfl, rfl⟩
          rw [HIN.out]
          go_wp2_with (at_builtin; refine wpList_append_own_at _ rfl _ _ 34 rfl w3.heap.size 22 iI (.slice none 0 0) 1 24 Tryz.underlying34 hiI hzI0 hzI1 hzI2 rfl (by decide) _ out.length us rfl (row_ext HROW.out ((Ext.refl _).alloc _)) ⟨_, 0, none⟩ 1 1 [.slice Ak (subN base (k : Int)).length ck] rfl rfl (row_new_at _ _ _ (by simp)) (fun u hu => by rw [List.mem_singleton.1 hu]; rfl) hc3 hc4 (Nat.le_trans HLR.out.ext.size ((Ext.refl _).alloc _).size) ?_)
          intro v7 w7 hown7 hgrow7 _ hat7
          have HPS := Lib.hid (LRow.push (s := subN base (k : Int)) ⟨HLR.out.ext.alloc _, us, row_ext HROW.out ((Ext.refl _).alloc _), HUS.out⟩ (row_ext HROW.out ((Ext.refl _).alloc _)) HUS.out hown7 hgrow7 HFK.out)
          obtain ⟨A7, c7, rfl⟩ := slice_of_row hown7
          clear hown7 hgrow7 hat7
          go_wp2_with fail
          go_roundw
          case rel => exact ⟨k + 1, by go_num, by omega, Lib.hid ⟨_, by rw [HP.out, HO.out], HPS.out⟩⟩
          case measure => simp [intOf]; omega
      · obtain rfl : base.length = k := by omega
        go_wp2_with fail
        refine bodyPost_ret (v := .tuple #[.slice Ao out.length co, .int .i64 0]) (by simp [results, Tryz.results10, go_sem]) rfl ?_
        exact ⟨_, by rw [HR.out], X3.out.trans HLR.out.ext, by rw [HR.out]; show Fmls _ _ (pickN base last.set base.length); rw [← HO.out]; exact HLR.out.fmls⟩
  · have hf1 : (checkS lg base steps != 0) = true := by simpa using hf
    have hf2 : (checkS lg base steps == 0) = false := by simpa using hf
    have HR := Lib.hid (show refutedS lg base steps = ([], checkS lg base steps) by unfold refutedS; rw [hf1]; rfl)
    clear hf
    go_enter Tryz.func10, Tryz.ntmps10
    go_wp2_with fail
    refine (checkS_any (lg := lg) (H.out.ext X0.out) (HS.out.ext X0.out)).mono ?_
    rintro e w1 ⟨rfl, hx⟩
    have X1 := Lib.hid (X0.out.trans hx)
    clear hx
    go_wp2_with fail
    refine bodyPost_ret (v := .tuple #[.slice none 0 0, .int .i64 (checkS lg base steps)]) (by simp [results, Tryz.results10, go_sem]) rfl ?_
    exact ⟨_, by rw [HR.out], X1.out, by rw [HR.out]; exact ⟨none, 0, rfl, Nat.le_refl _, by unfold maxLen; omega, fun h => absurd rfl h⟩⟩
end Go.Proofs.YtdpblciohodgcaaGreatDoor

/- The law's Few; sequent's Proves where the refutation is accepted. -/

namespace Go.Proofs.YtdpblciohodgcaaGreatDoor
open Go.RowKit

def fewS (base : List Nd) (steps : List Stp) : Bool := bif decide (70 < base.length) || decide (120 < steps.length) then false else steps.all fun x => !decide (5 < x.from_.length)
set_option maxRecDepth 100000 in
set_option maxHeartbeats 8000000 in
theorem fewS_any {w : World} {lg : Int} {vb vs : Value} {base : List Nd} {steps : List Stp} (hb : Fml w vb base) (hs : Sps w vs steps) :
    Calls Tryz.prog 6 #[.agg #[.int .i64 lg, vb, vs]] w fun e w' => e = .returned (.bool (fewS base steps)) ∧ Ext w w' := by
  obtain ⟨Ab, cb, rfl, _⟩ := fml_slice hb
  obtain ⟨As, cs, rfl, hs1, hs2, hsr⟩ := hs
  unfold maxLen at hs2
  have HSR := Lib.hid hsr
  clear hb hsr
  obtain ⟨z0, z1, z2, _, zlt⟩ := cells3 (heap_alloc_new w (.cells #[.int .i64 lg, .slice Ab base.length cb, .slice As steps.length cs] 25))
  have Z2 := Lib.hid z2
  have ZLT := Lib.hid zlt
  have X0 := Lib.hid ((Ext.refl w).alloc (.cells #[.int .i64 lg, .slice Ab base.length cb, .slice As steps.length cs] 25))
  clear z0 z2
  by_cases h7 : 70 < base.length
  · have HE := Lib.hid (show fewS base steps = false by unfold fewS; rw [decide_eq_true h7]; rfl)
    have h7i : (70 : Int) < (base.length : Int) := by omega
    go_enter Tryz.func6, Tryz.ntmps6
    go_wp2_with fail
    go_ret
    exact ⟨by rw [HE.out] <;> rfl, X0.out⟩
  · have h7i : ¬ (70 : Int) < (base.length : Int) := by omega
    by_cases h1 : 120 < steps.length
    · have HE := Lib.hid (show fewS base steps = false by unfold fewS; rw [decide_eq_false h7, decide_eq_true h1]; rfl)
      have h1i : (120 : Int) < (steps.length : Int) := by omega
      go_enter Tryz.func6, Tryz.ntmps6
      go_wp2_with fail
      go_ret
      exact ⟨by rw [HE.out] <;> rfl, X0.out⟩
    · have h1i : ¬ (120 : Int) < (steps.length : Int) := by omega
      have HE := Lib.hid (show fewS base steps = steps.all fun x => !decide (5 < x.from_.length) by unfold fewS; rw [decide_eq_false h7, decide_eq_false h1]; rfl)
      go_enter Tryz.func6, Tryz.ntmps6
      go_wp2_with fail
      go_loopw [3] (fun vi wr => ∃ k : Nat, vi = .int .i64 (k : Int) ∧ k ≤ steps.length ∧ Hid (∀ x ∈ steps.take k, ¬ 5 < x.from_.length) ∧ Hid (Ext (w.alloc (.cells #[.int .i64 lg, .slice Ab base.length cb, .slice As steps.length cs] 25)) wr)) (fun vi _ => steps.length - (intOf vi).toNat)
      case atStart => exact ⟨0, rfl, Nat.zero_le _, Lib.hid (by simp), Lib.hid (Ext.refl _)⟩
      case round =>
        obtain ⟨k, rfl, hk, HN, HX⟩ := hrel
        have y2 := (HX.out.cell (p := ⟨w.heap.size, 2, none⟩) ZLT.out).trans Z2.out
        by_cases hlt2 : k < steps.length
        · obtain ⟨x, hx⟩ : ∃ x, steps[k]? = some x := ⟨_, List.getElem?_eq_getElem hlt2⟩
          obtain ⟨ad, rfl, hblk, hcell⟩ := HSR.out (by intro e; rw [e] at hx; simp at hx)
          obtain ⟨ur, _, _, _, _, q4, ⟨Af, cf, rfl, _⟩, _⟩ := hcell k x hx
          have q4 := ((X0.out.trans HX.out).cell (p := ⟨(ad.add (k * 5)).block, (ad.add (k * 5)).off + 4, none⟩) (by show (ad.add _).block < _; rw [block_of_add]; exact hblk)).trans q4
          have hk1 : (k : Int) < (steps.length : Int) := by omega
          have hk0 : (0 : Int) ≤ (k : Int) := by omega
          have HXX := Lib.hid hx
          clear hx hcell
          by_cases h5 : 5 < x.from_.length
          · have h5i : (5 : Int) < (x.from_.length : Int) := by omega
            have HE2 := Lib.hid (show fewS base steps = false by
              rw [HE.out, List.all_eq_false]
              exact ⟨x, List.mem_of_getElem? HXX.out, by simp [h5]⟩)
            go_wp2_with fail
            go_ret
            exact ⟨by rw [HE2.out] <;> rfl, X0.out.trans HX.out⟩
          · have h5i : ¬ (5 : Int) < (x.from_.length : Int) := by omega
            have HN2 : Hid (∀ x ∈ steps.take (k + 1), ¬ 5 < x.from_.length) := Lib.hid (by
              rw [take_succ_eq HXX.out]
              intro t ht
              rcases List.mem_append.1 ht with ht | ht
              · exact HN.out t ht
              · rw [List.mem_singleton.1 ht]; exact h5)
            go_wp2_with fail
            go_roundw
            case rel => exact ⟨k + 1, by go_num, by omega, HN2, HX⟩
            case measure => simp [intOf]; omega
        · obtain rfl : steps.length = k := by omega
          have HE2 := Lib.hid (show fewS base steps = true by
            rw [HE.out, List.all_eq_true]
            intro x hx
            have := HN.out x (by rw [List.take_of_length_le (Nat.le_refl _)]; exact hx)
            simp [this])
          go_wp2_with fail
          go_ret
          exact ⟨by rw [HE2.out] <;> rfl, X0.out.trans HX.out⟩
set_option maxRecDepth 100000 in
set_option maxHeartbeats 8000000 in
theorem proves_any {w : World} {lg : Int} {vb vs vf : Value} {base : List Nd} {steps : List Stp} {f g : List Nd} (hb : Fml w vb base) (hs : Sps w vs steps) (hf : Fml w vf f) (h0 : (refutedS lg base steps).2 = 0) (hg : (refutedS lg base steps).1 = [g])
    (hc : check f = 0) (hfr : (bits .andNot .i64 (fragsN f : Int) 1 == 0) = true) (hF : check (notN f) = 0 → Few10 (compactN (notN f))) :
    Calls Tryz.prog 13 #[.agg #[.int .i64 lg, vb, vs], vf] w fun e w' => e = .returned (.int .i64 (bif decide (g = oppN f) then 0 else 13)) ∧ Ext w w' := by
  have H := Lib.hid hb
  have HS := Lib.hid hs
  have HF := Lib.hid hf
  obtain ⟨Ab, cb, rfl, _⟩ := fml_slice hb
  obtain ⟨As, cs, rfl, _⟩ := hs
  obtain ⟨Af, cf, rfl, _⟩ := fml_slice hf
  have HC := Lib.hid hc
  have H0 := Lib.hid h0
  have HG := Lib.hid hg
  have HFF := Lib.hid hF
  have X0 := Lib.hid ((Ext.refl w).alloc (.cells #[.int .i64 lg, .slice Ab base.length cb, .slice As steps.length cs] 25))
  have hfr2 : (bits .andNot .i64 (fragsN f : Int) 1 != 0) = false := by rw [bne, hfr]; rfl
  clear hb hf h0 hg hc hF
  go_enter Tryz.func13, Tryz.ntmps13
  go_wp2_with fail
  refine (refuted_any (lg := lg) (H.out.ext X0.out) (HS.out.ext X0.out)).mono ?_
  rintro e w1 ⟨u, rfl, hx, hfm⟩
  rw [H0.out]
  have X1 := Lib.hid (X0.out.trans hx)
  rw [HG.out] at hfm
  obtain ⟨A1, c1, rfl, hc1, hm1, hr1⟩ := hfm
  obtain ⟨ad, rfl, hblk, hcell⟩ := hr1 (by simp)
  obtain ⟨uk, huk, hfk⟩ := hcell 0 g rfl
  have HK := Lib.hid hfk
  obtain ⟨Ak, ck, rfl, _⟩ := fml_slice hfk
  have e0 : ad.add 0 = ad := rfl
  rw [e0] at huk
  have HUK := Lib.hid huk
  unfold maxLen at hm1
  simp only [List.length_cons, List.length_nil, Nat.zero_add] at hc1 ⊢
  clear hx hfk hcell hr1 huk
  go_wp2_with fail
  refine (check_any _ f _ (HF.out.ext X1.out).1).mono ?_
  rintro e w2 ⟨rfl, hx⟩
  rw [HC.out]
  have X2 := Lib.hid hx
  clear hx
  go_wp2_with fail
  refine (frags_any _ f _ (HF.out.ext (X1.out.trans X2.out))).mono ?_
  rintro e w3 ⟨rfl, hx⟩
  have X3 := Lib.hid (X2.out.trans hx)
  have HUK3 := Lib.hid ((X3.out.cell hblk).trans HUK.out)
  have huk3 := HUK3.out
  have hblk3 : ad.block < w3.heap.size := Nat.lt_of_lt_of_le hblk X3.out.size
  clear hx
  go_wp2_with fail
  cases hd : decide (g = oppN f)
  · have HD := Lib.hid hd
    clear hd
    refine wp_region_held_drew (S := fun w' => w'.cell? (ad) = some (.slice Ak g.length ck)) (by kernel_rfl) (xc hblk3 huk3) (fun hHeld => ?_)
    refine tk 0 hHeld ?_
    refine tk 1 hHeld ?_
    refine tk 2 hHeld ?_
    refine tk 3 hHeld ?_
    refine tk 4 hHeld ?_
    refine tk 5 hHeld ?_
    refine tk 6 hHeld ?_
    refine tk 7 hHeld ?_
    refine wpAnyH_ready (rs := [8]) (by kernel_rfl) (by simp) ?_
    refine AllReadyH.cons rfl (fun K hK => ?_) AllReadyH.nil
    go_simp
    (go_at_call 36; refine (opposite_any _ f _ (by exact HF.out.ext ((X1.out.trans X3.out).trans xw)) HFF.out).mono ?_; rintro e w4 ⟨ug, rfl, hv, hg4⟩; have hx4 : Ext w3 w4 := Ext.trans xw hv; have HG4 := Lib.hid hg4; obtain ⟨A4, c4, rfl, _⟩ := fml_slice hg4; clear hv hg4)
    go_wp2_with fail
    refine hK.out _ _ (xc hblk3 huk3) (fun hHeld => ?_)
    clear hK K
    try simp only [Act.put, List.setIfInBounds_toArray, List.set_cons_zero, List.set_cons_succ, List.getElem_toArray, List.getElem_cons_succ, List.getElem_cons_zero]
    refine wpAnyH_ready (rs := [9]) (by kernel_rfl) (by simp) ?_
    refine AllReadyH.cons rfl (fun K hK => ?_) AllReadyH.nil
    go_simp
    (go_at_call 35; refine (equalN_any _ _ g (oppN f) _ (by exact (HK.out.ext (X3.out.trans xw)).1) (by exact (HG4.out.ext xw).1)).mono ?_; rintro e w5 ⟨rfl, hv⟩; rw [HD.out]; have hx5 : Ext w3 w5 := xt hv; clear hv)
    go_wp2_with fail
    refine hK.out _ _ (xc hblk3 huk3) (fun hHeld => ?_)
    clear hK K
    try simp only [Act.put, List.setIfInBounds_toArray, List.set_cons_zero, List.set_cons_succ, List.getElem_toArray, List.getElem_cons_succ, List.getElem_cons_zero]
    refine tk 10 hHeld ?_
    refine tk 11 hHeld ?_
    refine wpAnyH_done (by kernel_rfl) ?_ _
    go_wp2_with fail
    go_ret
    exact ⟨by rw [HD.out] <;> rfl, (X1.out.trans X3.out).trans xw⟩
  · have HD := Lib.hid hd
    clear hd
    refine wp_region_held_drew (S := fun w' => w'.cell? (ad) = some (.slice Ak g.length ck)) (by kernel_rfl) (xc hblk3 huk3) (fun hHeld => ?_)
    refine tk 0 hHeld ?_
    refine tk 1 hHeld ?_
    refine tk 2 hHeld ?_
    refine tk 3 hHeld ?_
    refine tk 4 hHeld ?_
    refine tk 5 hHeld ?_
    refine tk 6 hHeld ?_
    refine tk 7 hHeld ?_
    refine wpAnyH_ready (rs := [8]) (by kernel_rfl) (by simp) ?_
    refine AllReadyH.cons rfl (fun K hK => ?_) AllReadyH.nil
    go_simp
    (go_at_call 36; refine (opposite_any _ f _ (by exact HF.out.ext ((X1.out.trans X3.out).trans xw)) HFF.out).mono ?_; rintro e w4 ⟨ug, rfl, hv, hg4⟩; have hx4 : Ext w3 w4 := Ext.trans xw hv; have HG4 := Lib.hid hg4; obtain ⟨A4, c4, rfl, _⟩ := fml_slice hg4; clear hv hg4)
    go_wp2_with fail
    refine hK.out _ _ (xc hblk3 huk3) (fun hHeld => ?_)
    clear hK K
    try simp only [Act.put, List.setIfInBounds_toArray, List.set_cons_zero, List.set_cons_succ, List.getElem_toArray, List.getElem_cons_succ, List.getElem_cons_zero]
    refine wpAnyH_ready (rs := [9]) (by kernel_rfl) (by simp) ?_
    refine AllReadyH.cons rfl (fun K hK => ?_) AllReadyH.nil
    go_simp
    (go_at_call 35; refine (equalN_any _ _ g (oppN f) _ (by exact (HK.out.ext (X3.out.trans xw)).1) (by exact (HG4.out.ext xw).1)).mono ?_; rintro e w5 ⟨rfl, hv⟩; rw [HD.out]; have hx5 : Ext w3 w5 := xt hv; clear hv)
    go_wp2_with fail
    refine hK.out _ _ (xc hblk3 huk3) (fun hHeld => ?_)
    clear hK K
    try simp only [Act.put, List.setIfInBounds_toArray, List.set_cons_zero, List.set_cons_succ, List.getElem_toArray, List.getElem_cons_succ, List.getElem_cons_zero]
    refine tk 10 hHeld ?_
    refine tk 11 hHeld ?_
    refine wpAnyH_done (by kernel_rfl) ?_ _
    go_wp2_with fail
    go_ret
    exact ⟨by rw [HD.out] <;> rfl, (X1.out.trans X3.out).trans xw⟩
end Go.Proofs.YtdpblciohodgcaaGreatDoor
