/- rewrite.Nnf, and the negation normal form of a negation. -/
import Derived.Test.YtdpblciohodgcaaGreatDoorS14
import Derived.Test.YtdpblciohodgcaaGreatDoorS11
import Derived.Test.YtdpblciohodgcaaGreatDoorS08

namespace Go.Proofs.YtdpblciohodgcaaGreatDoor
open Go.RowKit

/-- The state while the two maps are made. -/
inductive NPre (W0 w : World) (bn : Nat) (A : Option Addr) (cp : Nat) (c : List Nd) : Nat → Prop where
  | none_ (hx : Ext W0 w) (hb : w.heap[bn]? = some (.cells #[.slice A c.length cp, .map none, .map none] 119 (0, 0))) : NPre W0 w bn A cp c 0
  | one (m0 : Nat) (hx : Ext W0 w) (hb : w.heap[bn]? = some (.cells #[.slice A c.length cp, .map (some m0), .map none] 119 (0, 0))) (h0 : W0.heap.size ≤ m0) (hm : w.ownsMap Tryz.prog 3 heldElem m0 0 (.map [])) : NPre W0 w bn A cp c 1
  | both (m0 m1 : Nat) (he : NEnv W0 w bn m0 m1 A cp c) : NPre W0 w bn A cp c 2
theorem FormMap.empty {w : World} {b : Nat} (c : List Nd) (no : Bool) (h : w.ownsMap Tryz.prog 3 heldElem b 0 (.map [])) : FormMap w b c no :=
  ⟨.map [], 0, h, Nat.zero_le _, fun i hi => by simp [Go.Maps.has] at hi⟩
theorem frozen3 {w : World} {b : Nat} {a0 a1 a2 : Value} {t : TypeId} (h : w.heap[b]? = some (.cells #[a0, a1, a2] t (0, 0))) : ∀ j, w.frozen? ⟨b, j, none⟩ = false := fun j => by simp [World.frozen?, h]
theorem set3_1 {w : World} {b : Nat} {a0 a1 a2 : Value} {t : TypeId} (h : w.heap[b]? = some (.cells #[a0, a1, a2] t (0, 0))) (u : Value) : (w.setCell ⟨b, 1, none⟩ u).heap[b]? = some (.cells #[a0, u, a2] t (0, 0)) := by
  simp only [World.setCell, Array.getElem?_modify, h, if_true, Option.map_some]
  simp
theorem set3_2 {w : World} {b : Nat} {a0 a1 a2 : Value} {t : TypeId} (h : w.heap[b]? = some (.cells #[a0, a1, a2] t (0, 0))) (u : Value) : (w.setCell ⟨b, 2, none⟩ u).heap[b]? = some (.cells #[a0, a1, u] t (0, 0)) := by
  simp only [World.setCell, Array.getElem?_modify, h, if_true, Option.map_some]
  simp
section
variable {W0 w : World} {bn cp : Nat} {A : Option Addr} {c : List Nd}
theorem made_map (w : World) (p : Addr) (u : Value) (hp : w.heap.size ≠ p.block) : ((w.alloc (.map #[] 0)).setCell p u).ownsMap Tryz.prog 3 heldElem w.heap.size 0 (.map []) :=
  ownsMapV_of_block (World.ownsMap_made w _ _ _) (Below.heap_setCell _ _ _ _ hp)
theorem NPre.first (hx : Ext W0 w) (hb : w.heap[bn]? = some (.cells #[.slice A c.length cp, .map none, .map none] 119 (0, 0))) (hl : W0.heap.size ≤ bn) :
    NPre W0 ((w.setCell ⟨bn, 1, none⟩ (.map (some w.heap.size))).alloc (.map #[] 0)) bn A cp c 1 := by
  have hlt := lt_heap hb
  rw [← World.setCell_alloc_past _ _ _ _ hlt]
  have hb2 := (((Ext.refl w).alloc (.map #[] 0)).block hlt).trans hb
  exact .one w.heap.size ((hx.alloc _).setCell hl _) (set3_1 hb2 _) hx.size (made_map w _ _ (by show w.heap.size ≠ bn; omega))
theorem NPre.second {m0 : Nat} (hx : Ext W0 w) (hb : w.heap[bn]? = some (.cells #[.slice A c.length cp, .map (some m0), .map none] 119 (0, 0))) (h0 : W0.heap.size ≤ m0) (hm : w.ownsMap Tryz.prog 3 heldElem m0 0 (.map [])) (hl : W0.heap.size ≤ bn) (hc : Fml W0 (.slice A c.length cp) c) :
    NPre W0 ((w.setCell ⟨bn, 2, none⟩ (.map (some w.heap.size))).alloc (.map #[] 0)) bn A cp c 2 := by
  have hlt := lt_heap hb
  rw [← World.setCell_alloc_past _ _ _ _ hlt]
  have hb2 := (((Ext.refl w).alloc (.map #[] 0)).block hlt).trans hb
  have hne : m0 ≠ bn := fun e => by
    obtain ⟨es, k, h1, _⟩ := hm
    rw [e, hb] at h1
    cases h1
  have hm0 := hm.lt
  have hk : ((w.alloc (.map #[] 0)).setCell ⟨bn, 2, none⟩ (.map (some w.heap.size))).heap[m0]? = w.heap[m0]? := (Below.heap_setCell _ _ _ _ hne).trans (((Ext.refl w).alloc (.map #[] 0)).block hm0)
  exact .both m0 w.heap.size ⟨(hx.alloc _).setCell hl _, hc, set3_2 hb2 _, .empty c false (ownsMapV_of_block hm hk), .empty c true (made_map w _ _ (by show w.heap.size ≠ bn; omega)), ⟨h0, hx.size⟩, by omega⟩
end
def longErr (l : List Nd) : Int := bif decide (l.length = 0) then 8 else 0
set_option maxRecDepth 100000 in
set_option maxHeartbeats 2000000 in
theorem long_any (v : Value) (l : List Nd) (w : World) (h : Fml w v l) :
    Calls Tryz.prog 89 #[v] w fun e w' => ∃ u, e = .returned (.tuple #[u, .int .i64 (longErr l)]) ∧ Ext w w' ∧ Fml w' u l := by
  have H := Lib.hid h
  obtain ⟨A, c, rfl, _⟩ := fml_slice h
  clear h
  by_cases h0 : l.length = 0
  · have hn : l = [] := List.length_eq_zero_iff.1 h0
    subst hn
    go_enter Tryz.func89, Tryz.ntmps89
    go_wp2_with fail
    go_ret2
    exact ⟨_, rfl, Ext.refl _, nfml_nil _⟩
  · have hd : ((l.length : Int) == 0) = false := by rw [beq_eq_false_iff_ne]; omega
    have HD := Lib.hid (show longErr l = 0 by unfold longErr; rw [decide_eq_false h0]; rfl)
    clear h0
    go_enter Tryz.func89, Tryz.ntmps89
    go_wp2_with fail
    go_ret2
    rw [HD.out]
    exact ⟨_, rfl, Ext.refl _, H.out⟩
set_option maxRecDepth 100000 in
set_option maxHeartbeats 8000000 in
theorem nnf_any (v : Value) (f : List Nd) (w : World) (h : Fml w v f) (hF : check f = 0 → Few10 (compactN f)) :
    Calls Tryz.prog 61 #[v] w fun e w' => ∃ u, e = .returned (.tuple #[u, .int .i64 (nnfErr f)]) ∧ Ext w w' ∧ Fml w' u (nnfAll f) := by
  have H := Lib.hid h
  have HFW := Lib.hid hF
  have hmm := @run_makeMap Tryz.prog
  obtain ⟨A, c, rfl, _⟩ := fml_slice h
  clear h hF
  go_enter Tryz.func61, Tryz.ntmps61
  go_wp2_with fail
  refine (check_any _ f _ H.out.1).mono ?_
  rintro e w1 ⟨rfl, hx⟩
  have X1 := Lib.hid hx
  clear hx
  cases hc : check f != 0
  case true =>
    have HE := Lib.hid (show nnfErr f = check f ∧ nnfAll f = [] by unfold nnfErr nnfAll; rw [hc]; exact ⟨rfl, rfl⟩)
    go_wp2_with fail
    go_ret2
    rw [HE.out.1, HE.out.2]
    exact ⟨_, rfl, X1.out, nfml_nil _⟩
  case false =>
    have hc0 : check f = 0 := by simpa using hc
    have HE := Lib.hid (show nnfErr f = longErr (nnfAll f) ∧ nnfAll f = nnfN (compactN f) false ((compactN f).length - 1) by
      unfold nnfErr
      rw [hc]
      refine ⟨rfl, ?_⟩
      unfold nnfAll
      rw [hc]
      rfl)
    obtain ⟨cw, cl, cpos, _⟩ := compactN_props hc0
    have hl200 := (check_parts hc0).2.1
    have CW := Lib.hid cw
    have HF10 := Lib.hid (HFW.out hc0)
    generalize hcc : compactN f = cc at HE CW HF10 cl cpos
    have HCC := Lib.hid hcc
    have HC := Lib.hid hc
    clear cw hcc hc0
    go_wp2_with fail
    refine (compactF_any _ f _ (H.out.ext X1.out)).mono ?_
    rintro e w2 ⟨u, rfl, hm⟩
    rw [HCC.out] at hm
    have X2 := Lib.hid (X1.out.trans hm.2.2)
    have HF := Lib.hid hm.fml
    obtain ⟨Au, cu, rfl, _⟩ := fml_slice hm.fml
    have hcap : cc.length ≤ cu := by
      obtain ⟨A', c', e, h1, _⟩ := HF.out.1
      injection e with _ _ e3
      subst e3
      exact h1
    clear hm hc
    have hbx : (w2.alloc (.cells #[.slice Au cc.length cu, .map none, .map none] 119)).heap[w2.heap.size]? = some (.cells #[.slice Au cc.length cu, .map none, .map none] 119 (0, 0)) := heap_alloc_new _ _
    have HB := Lib.hid (NPre.none_ (W0 := w2) ((Ext.refl w2).alloc (.cells #[.slice Au cc.length cu, .map none, .map none] 119)) hbx)
    clear hbx
    go_wp2_with fail
    go_loopw [16] (fun v wr => ∃ k : Nat, v = .int .i64 (k : Int) ∧ k ≤ 2 ∧ Hid (NPre w2 wr w2.heap.size Au cu cc k)) (fun v _ => 2 - (intOf v).toNat)
    case atStart => exact ⟨0, rfl, by omega, HB⟩
    case round =>
      obtain ⟨k, rfl, hk, HP⟩ := hrel
      cases hp : HP.out with
      | none_ hx hb =>
        have N1 := Lib.hid (NPre.first hx hb (Nat.le_refl _))
        have hfz := frozen3 hb
        obtain ⟨d0, d1, d2, dlt⟩ := cells3n hb
        clear hp hb hx HP
        go_wp2_with fail
        go_roundw
        case rel => exact ⟨1, rfl, by omega, N1⟩
        case measure => simp [intOf]
      | one m0 hx hb h0 hm =>
        have N1 := Lib.hid (NPre.second hx hb h0 hm (Nat.le_refl _) HF.out)
        have hfz := frozen3 hb
        obtain ⟨d0, d1, d2, dlt⟩ := cells3n hb
        clear hp hb hx hm HP
        go_wp2_with fail
        go_roundw
        case rel => exact ⟨2, rfl, by omega, N1⟩
        case measure => simp [intOf]
      | both m0 m1 he =>
        have E0 := Lib.hid he
        obtain ⟨d0, d1, d2, dlt⟩ := cells3n he.blk
        have hlen0 : (0 : Int) ≤ (cc.length : Int) - 1 := by omega
        have hof := of_all (W0 := w2) (bn := w2.heap.size) (m0 := m0) (m1 := m1) (A := Au) (cp := cu) CW.out (by omega) HF10.out HF.out.2 (cc.length - 1) (by omega)
        rw [show (((cc.length - 1 : Nat) : Int)) = (cc.length : Int) - 1 by omega] at hof
        have HOF := Lib.hid hof
        have hT : ((cc.length : Int) - 1).toNat = cc.length - 1 := by omega
        clear hp he hof HP
        go_wp2_with fail
        refine (HOF.out false _ E0.out).mono ?_
        rintro e w4 ⟨u4, rfl, he4, hs4, hu4⟩
        rw [hT] at hu4
        have F4 := Lib.hid hu4
        have X4 := Lib.hid (X2.out.trans he4.ext)
        clear he4 hs4 d0 d1 d2 dlt
        obtain ⟨A4, c4, rfl, _⟩ := fml_slice hu4
        clear hu4
        go_wp2_with fail
        refine (long_any _ _ _ F4.out).mono ?_
        rintro e w5 ⟨u5, rfl, hx5, hu5⟩
        have X5 := Lib.hid (X4.out.trans hx5)
        have F5 := Lib.hid hu5
        clear hx5 hu5
        go_wp2_with fail
        go_ret2
        rw [HE.out.1, HE.out.2]
        exact ⟨_, rfl, X5.out, F5.out⟩
set_option maxRecDepth 100000 in
set_option maxHeartbeats 2000000 in
theorem opposite_any (v : Value) (f : List Nd) (w : World) (h : Fml w v f) (hF : check (notN f) = 0 → Few10 (compactN (notN f))) :
    Calls Tryz.prog 36 #[v] w fun e w' => ∃ u, e = .returned u ∧ Ext w w' ∧ Fml w' u (oppN f) := by
  have H := Lib.hid h
  have HF := Lib.hid hF
  obtain ⟨A, c, rfl, _⟩ := fml_slice h
  clear h hF
  go_enter Tryz.func36, Tryz.ntmps36
  go_wp2_with fail
  refine (not_any _ f _ H.out).mono ?_
  rintro e w1 ⟨u, rfl, hm⟩
  have HM := Lib.hid hm
  clear hm
  go_wp2_with fail
  refine (nnf_any _ (notN f) _ HM.out.fml HF.out).mono ?_
  rintro e w2 ⟨u2, rfl, hx, hu⟩
  have X2 := Lib.hid (HM.out.2.2.trans hx)
  have F2 := Lib.hid hu
  clear hx hu
  go_wp2_with fail
  go_ret
  exact ⟨_, rfl, X2.out, F2.out⟩
end Go.Proofs.YtdpblciohodgcaaGreatDoor

/- sequent's known, in, normal. -/

namespace Go.Proofs.YtdpblciohodgcaaGreatDoor
open Go.RowKit

set_option maxRecDepth 100000 in
set_option maxHeartbeats 1000000 in
theorem known_any (lg : Int) (w : World) : Calls Tryz.prog 45 #[.int .i64 lg] w fun e w' => e = .returned (.bool (knownN lg)) ∧ Ext w w' := by
  by_cases h0 : 0 ≤ lg
  · by_cases h6 : lg ≤ 6
    · have HE := Lib.hid (show knownN lg = true by unfold knownN; rw [decide_eq_true h0, decide_eq_true h6]; rfl)
      go_enter Tryz.func45, Tryz.ntmps45
      go_wp2_with fail
      go_ret
      exact ⟨by rw [HE.out] <;> rfl, Ext.refl _⟩
    · have HE := Lib.hid (show knownN lg = false by unfold knownN; rw [decide_eq_true h0, decide_eq_false h6]; rfl)
      go_enter Tryz.func45, Tryz.ntmps45
      go_wp2_with fail
      go_ret
      exact ⟨by rw [HE.out] <;> rfl, Ext.refl _⟩
  · have HE := Lib.hid (show knownN lg = false by unfold knownN; rw [decide_eq_false h0]; rfl)
    go_enter Tryz.func45, Tryz.ntmps45
    go_wp2_with fail
    go_ret
    exact ⟨by rw [HE.out] <;> rfl, Ext.refl _⟩
set_option maxRecDepth 100000 in
set_option maxHeartbeats 1000000 in
theorem in_any (s : Nat) (hs : s < 18446744073709551616) (node : Int) (w : World) : Calls Tryz.prog 31 #[.int .u64 (s : Int), .int .i64 node] w fun e w' => e = .returned (.bool (inS s node)) ∧ Ext w w' := by
  by_cases h0 : 0 ≤ node
  · by_cases h6 : node < 64
    · obtain ⟨k, rfl⟩ := Int.eq_ofNat_of_zero_le h0
      have hk : min k 64 = k := by omega
      have HE := Lib.hid (show inS s (k : Int) = s.testBit k by unfold inS; rw [decide_eq_true h0, decide_eq_true h6, Int.toNat_natCast]; rfl)
      have hb := shr_and_one s k hs
      go_enter Tryz.func31, Tryz.ntmps31
      go_wp2_with fail
      go_ret
      exact ⟨by rw [HE.out] <;> rfl, Ext.refl _⟩
    · have HE := Lib.hid (show inS s node = false by unfold inS; rw [decide_eq_true h0, decide_eq_false h6]; rfl)
      have h6d : decide (node < 64) = false := decide_eq_false h6
      go_enter Tryz.func31, Tryz.ntmps31
      go_wp2_with fail
      go_ret
      exact ⟨by rw [HE.out] <;> rfl, Ext.refl _⟩
  · have HE := Lib.hid (show inS s node = false by unfold inS; rw [decide_eq_false h0]; rfl)
    have h0d : decide (0 ≤ node) = false := decide_eq_false h0
    go_enter Tryz.func31, Tryz.ntmps31
    go_wp2_with fail
    go_ret
    exact ⟨by rw [HE.out] <;> rfl, Ext.refl _⟩
set_option maxRecDepth 100000 in
set_option maxHeartbeats 1000000 in
theorem inside_any (A : Option Addr) (c : Nat) (base : List Nd) (s : Nat) (hs : s < 18446744073709551616) (hn : 1 ≤ base.length ∧ base.length ≤ 64) (w : World) :
    Calls Tryz.prog 46 #[.slice A base.length c, .int .u64 (s : Int)] w fun e w' => e = .returned (.bool (insideS base s)) ∧ Ext w w' := by
  have HE := Lib.hid (show insideS base s = decide (s < 2 ^ base.length) from rfl)
  have hb := inside_bits s base.length hs hn
  have hw : IntKind.i64.wrap (64 - (base.length : Int)) = 64 - (base.length : Int) := by rw [IntKind.wrap_i64]; omega
  have h0 : ¬ (64 - (base.length : Int) < 0) := by omega
  have h1 : min (64 - (base.length : Int)).toNat 64 = 64 - base.length := by omega
  go_enter Tryz.func46, Tryz.ntmps46
  go_wp2_with fail
  go_ret
  exact ⟨by rw [HE.out] <;> rfl, Ext.refl _⟩
end Go.Proofs.YtdpblciohodgcaaGreatDoor

/- sequent's normal, baseError. -/

namespace Go.Proofs.YtdpblciohodgcaaGreatDoor
open Go.RowKit

theorem normalN_yes {base : List Nd} {n : Nd} (h : n.op = 1 ∨ n.op = 2 ∨ n.op = 3 ∨ n.op = 5 ∨ n.op = 6 ∨ n.op = 9 ∨ n.op = 10) : normalN base n = true := by
  unfold normalN
  rcases h with h | h | h | h | h | h | h <;> rw [h] <;> rfl
theorem normalN_no {base : List Nd} {n : Nd} (h1 : (n.op == 1) = false) (h2 : (n.op == 2) = false) (h3 : (n.op == 3) = false) (h4 : (n.op == 4) = false) (h5 : (n.op == 5) = false) (h6 : (n.op == 6) = false) (h9 : (n.op == 9) = false) (h10 : (n.op == 10) = false) : normalN base n = false := by
  unfold normalN
  rw [h1, h2, h3, h4, h5, h6, h9, h10]
  rfl
set_option maxRecDepth 100000 in
set_option maxHeartbeats 4000000 in
theorem normal_any (v : Value) (base : List Nd) (n : Nd) (w : World) (h : Nds w v base) (hx : n.op = 4 → 0 ≤ n.x ∧ n.x < base.length) :
    Calls Tryz.prog 69 #[v, n.val] w fun e w' => e = .returned (.bool (normalN base n)) ∧ Ext w w' := by
  obtain ⟨A, c, rfl, hcap, hmax, hread⟩ := h
  unfold maxLen at hmax
  obtain ⟨o, i, e, k, x, y⟩ := n
  have HA := Lib.hid (show Ext w (w.alloc (.cells #[.int .i64 o, .int .i64 i, .int .i64 e, .int .i64 k, .int .i64 x, .int .i64 y] 68)) from (Ext.refl _).alloc _)
  by_cases hy : o = 1 ∨ o = 2 ∨ o = 3 ∨ o = 5 ∨ o = 6 ∨ o = 9 ∨ o = 10
  · have HE := Lib.hid (normalN_yes (base := base) (n := ⟨o, i, e, k, x, y⟩) hy)
    clear hread hx
    unfold Nd.val
    rcases hy with rfl | rfl | rfl | rfl | rfl | rfl | rfl <;>
      (go_enter Tryz.func69, Tryz.ntmps69
       go_wp2_with fail
       go_ret
       exact ⟨by rw [HE.out] <;> rfl, HA.out⟩)
  · by_cases h4 : o = 4
    · subst h4
      obtain ⟨hx0, hx1⟩ := hx rfl
      simp only at hx0 hx1
      obtain ⟨ad, rfl, hblk, hcells⟩ := hread (by intro e; rw [e] at hx1; simp at hx1; omega)
      obtain ⟨j, rfl⟩ := Int.eq_ofNat_of_zero_le hx0
      obtain ⟨m, hm⟩ : ∃ m, base[j]? = some m := ⟨_, List.getElem?_eq_getElem (show j < base.length by omega)⟩
      have c0 := (HA.out.cell (by rw [block_of_add]; exact hblk)).trans (hcells j m hm).1
      have HE := Lib.hid (show normalN base ⟨4, i, e, k, (j : Int), y⟩ = (m.op == 3) by
        unfold normalN
        simp only [Int.toNat_natCast]
        rw [getD_of hm]
        rfl)
      clear hcells hread hm hy hx
      unfold Nd.val
      cases h3 : m.op == 3
      · have HE2 := Lib.hid (HE.out.trans h3)
        go_enter Tryz.func69, Tryz.ntmps69
        go_wp2_with fail
        go_ret
        exact ⟨by rw [HE2.out] <;> rfl, HA.out⟩
      · have HE2 := Lib.hid (HE.out.trans h3)
        go_enter Tryz.func69, Tryz.ntmps69
        go_wp2_with fail
        go_ret
        exact ⟨by rw [HE2.out] <;> rfl, HA.out⟩
    · have b1 : (o == 1) = false := by rw [beq_eq_false_iff_ne]; omega
      have b2 : (o == 2) = false := by clear b1; rw [beq_eq_false_iff_ne]; omega
      have b3 : (o == 3) = false := by clear b1 b2; rw [beq_eq_false_iff_ne]; omega
      have b4 : (o == 4) = false := by clear b1 b2 b3; rw [beq_eq_false_iff_ne]; omega
      have b5 : (o == 5) = false := by clear b1 b2 b3 b4; rw [beq_eq_false_iff_ne]; omega
      have b6 : (o == 6) = false := by clear b1 b2 b3 b4 b5; rw [beq_eq_false_iff_ne]; omega
      have b9 : (o == 9) = false := by clear b1 b2 b3 b4 b5 b6; rw [beq_eq_false_iff_ne]; omega
      have b10 : (o == 10) = false := by clear b1 b2 b3 b4 b5 b6 b9; rw [beq_eq_false_iff_ne]; omega
      have HE := Lib.hid (normalN_no (base := base) (n := ⟨o, i, e, k, x, y⟩) b1 b2 b3 b4 b5 b6 b9 b10)
      clear hread hx hy h4
      unfold Nd.val
      go_enter Tryz.func69, Tryz.ntmps69
      go_wp2_with fail
      go_ret
      exact ⟨by rw [HE.out] <;> rfl, HA.out⟩
theorem all_take {base l : List Nd} {k : Nat} {n : Nd} (h : l[k]? = some n) : (l.take (k + 1)).all (normalN base) = ((l.take k).all (normalN base) && normalN base n) := by
  rw [take_succ_eq h, List.all_append]
  simp
set_option maxRecDepth 100000 in
set_option maxHeartbeats 8000000 in
theorem baseError_any (v : Value) (base : List Nd) (w : World) (h : Nds w v base) :
    Calls Tryz.prog 43 #[v] w fun e w' => e = .returned (.int .i64 (baseErr base)) ∧ Ext w w' := by
  have H := Lib.hid h
  obtain ⟨A, c, rfl, hcap, hmax, hread⟩ := h
  unfold maxLen at hmax
  have HR := Lib.hid hread
  clear hread
  go_enter Tryz.func43, Tryz.ntmps43
  go_wp2_with fail
  refine (check_any _ base _ H.out).mono ?_
  rintro e w1 ⟨rfl, hx⟩
  have X1 := Lib.hid hx
  clear hx
  cases hc : check base != 0
  case true =>
    have HE := Lib.hid (show baseErr base = check base by unfold baseErr; rw [hc]; rfl)
    go_wp2_with fail
    go_ret
    exact ⟨by rw [HE.out] <;> rfl, X1.out⟩
  case false =>
    have hc0 : check base = 0 := by simpa using hc
    by_cases hl : 64 < base.length
    · have hl1 : (64 : Int) < (base.length : Int) := by omega
      have HE := Lib.hid (show baseErr base = 8 by unfold baseErr; rw [hc, decide_eq_true hl]; rfl)
      clear hc0
      go_wp2_with fail
      go_ret
      exact ⟨by rw [HE.out] <;> rfl, X1.out⟩
    · have hl1 : ¬ (64 : Int) < (base.length : Int) := by omega
      have HE := Lib.hid (show baseErr base = bif base.all (normalN base) then 0 else 10 by unfold baseErr; rw [hc, decide_eq_false hl]; rfl)
      have CW := Lib.hid (check_wf hc0)
      clear hc0
      go_wp2_with fail
      go_loopw [16] (fun v wr => ∃ k : Nat, v = .int .i64 (k : Int) ∧ k ≤ base.length ∧ Hid ((base.take k).all (normalN base) = true) ∧ Hid (Ext w wr)) (fun v _ => base.length - (intOf v).toNat)
      case atStart => exact ⟨0, rfl, Nat.zero_le _, Lib.hid rfl, X1⟩
      case round =>
        obtain ⟨k, rfl, hk, HT, HX⟩ := hrel
        by_cases hlt2 : k < base.length
        · obtain ⟨n, hn⟩ : ∃ n, base[k]? = some n := ⟨_, List.getElem?_eq_getElem hlt2⟩
          obtain ⟨ad, rfl, hblk, hcells⟩ := HR.out (by intro e; rw [e] at hlt2; simp at hlt2)
          obtain ⟨q0, q1, q2, q3, q4, q5⟩ := hcells k n hn
          have hkk : ∀ p : Addr, p.block = ad.block → wr.cell? p = w.cell? p := fun p hp => HX.out.cell (by rw [hp]; exact hblk)
          have q0 := (hkk _ (by rw [block_of_add])).trans q0
          have q1 := (hkk _ (by show (ad.add _).block = _; rw [block_of_add])).trans q1
          have q2 := (hkk _ (by show (ad.add _).block = _; rw [block_of_add])).trans q2
          have q3 := (hkk _ (by show (ad.add _).block = _; rw [block_of_add])).trans q3
          have q4 := (hkk _ (by show (ad.add _).block = _; rw [block_of_add])).trans q4
          have q5 := (hkk _ (by show (ad.add _).block = _; rw [block_of_add])).trans q5
          have hk0 : (0 : Int) ≤ (k : Int) := by omega
          have hk1 : (k : Int) < (base.length : Int) := by omega
          have X2 := Lib.hid (HX.out.alloc (.cells #[.int .i64 n.op, .int .i64 n.i, .int .i64 n.e, .int .i64 n.g, .int .i64 n.x, .int .i64 n.y] 68))
          obtain ⟨⟨z0, z1, z2, z3, z4, z5⟩, _, zlt⟩ := cells6 (heap_alloc_new wr (.cells #[.int .i64 n.op, .int .i64 n.i, .int .i64 n.e, .int .i64 n.g, .int .i64 n.x, .int .i64 n.y] 68))
          have hxr : n.op = 4 → 0 ≤ n.x ∧ n.x < base.length := fun h4 => by
            have := (CW.out k n hn).1 (by rw [h4]; rfl)
            omega
          have HXR := Lib.hid hxr
          have HAT := Lib.hid (all_take (base := base) hn)
          have HM := Lib.hid (List.mem_of_getElem? hn)
          clear hkk hcells hxr hn
          go_wp2_with fail
          refine (normal_any _ base n _ (H.out.ext X2.out) HXR.out).mono ?_
          rintro e w3 ⟨rfl, hx⟩
          have X3 := Lib.hid (X2.out.trans hx)
          clear hx z0 z1 z2 z3 z4 z5 zlt q0 q1 q2 q3 q4 q5
          cases hnn : normalN base n
          · have HE2 := Lib.hid (show baseErr base = 10 by
              rw [HE.out, show base.all (normalN base) = false from by
                rw [List.all_eq_false]
                exact ⟨n, HM.out, by rw [hnn]; simp⟩]
              rfl)
            go_wp2_with fail
            go_ret
            exact ⟨by rw [HE2.out] <;> rfl, X3.out⟩
          · have HT2 := Lib.hid (show (base.take (k + 1)).all (normalN base) = true by rw [HAT.out, HT.out, hnn]; rfl)
            go_wp2_with fail
            go_roundw
            case rel => exact ⟨k + 1, by go_num, by omega, HT2, X3⟩
            case measure => simp [intOf]; omega
        · obtain rfl : base.length = k := by omega
          have HE2 := Lib.hid (show baseErr base = 0 by
            have := HT.out
            rw [List.take_of_length_le (Nat.le_refl _)] at this
            rw [HE.out, this]
            rfl)
          go_wp2_with fail
          go_ret
          exact ⟨by rw [HE2.out] <;> rfl, HX.out⟩
end Go.Proofs.YtdpblciohodgcaaGreatDoor

/- Formulas in a row of the call's own. -/

namespace Go.Proofs.YtdpblciohodgcaaGreatDoor
open Go.RowKit

/-- A value's block is not the row's, and lies from m on. -/
def Away (m : Nat) (w : World) (vo u : Value) : Prop := ∀ g, u.ownBlock = some g → g < w.heap.size ∧ vo.ownBlock ≠ some g ∧ m ≤ g
theorem Away.ext {m : Nat} {w w' : World} {vo u : Value} (h : Away m w vo u) (he : Ext w w') : Away m w' vo u := fun g hg => ⟨Nat.lt_of_lt_of_le (h g hg).1 he.size, (h g hg).2⟩
theorem tInfoF2 : (Tryz.prog.info? 22).map (fun i => (i.zero, i.size, i.bytes)) = some (some (.slice none 0 0), 1, 24) := by kernel_rfl
theorem Nds.keepF {w w' : World} {v : Value} {l : List Nd} (h : Nds w v l) (hb : ∀ g, v.ownBlock = some g → g < w.heap.size → w'.heap[g]? = w.heap[g]?) (hs : w.heap.size ≤ w'.heap.size) : Nds w' v l := by
  obtain ⟨A, c, rfl, h1, h2, h3⟩ := h
  refine ⟨A, c, rfl, h1, h2, fun hn => ?_⟩
  obtain ⟨ad, rfl, hlt, hc⟩ := h3 hn
  refine ⟨ad, rfl, Nat.lt_of_lt_of_le hlt hs, fun k n hk => (hc k n hk).keep fun p hp => World.cell?_of_block ?_⟩
  rw [hp, block_of_add]
  exact hb ad.block rfl hlt
/-- Formulas in a row of the call's own. -/
structure FRow (w0 w : World) (vo : Value) (out : List (List Nd)) : Prop where
  ext : Ext w0 w
  row : ∃ us, w.ownsRow w0.heap.size 22 1 vo out.length us ∧ ∀ (k : Nat) (s : List Nd), out[k]? = some s → ∃ u, us[k]? = some u ∧ Fml w u s ∧ Away w0.heap.size w vo u
theorem FRow.nil (w : World) : FRow w w (.slice none 0 0) [] := ⟨Ext.refl _, [], World.ownsRow_nil _ _ _ _, fun k s h => by simp at h⟩
theorem row1_cellsF {w : World} {base n : Nat} {t : TypeId} {v : Value} {us : List Value} (h : w.ownsRow base t 1 v n us) (hn : 0 < n) :
    ∃ g cap, v = .slice (some ⟨g, 0, none⟩) n cap ∧ g < w.heap.size ∧ n ≤ cap ∧ cap ≤ maxLen ∧ ∀ i z, us[i]? = some z → w.cell? ⟨g, i, none⟩ = some z := by
  rcases h.2 with ⟨_, h0⟩ | ⟨g, cap, cur, rfl, _, hg, hnc, hm, hs, ht⟩
  · omega
  · refine ⟨g, cap, rfl, lt_heap hg, hnc, hm, fun i z h1 => ?_⟩
    rw [← ht, List.getElem?_take] at h1
    split at h1
    · have h2 : cur[i]? = some z := by simpa using h1
      simp [World.cell?, hg, h2]
    · cases h1
/-- What lies in the row lies in blocks of the call's own: so it stays where these blocks stay. -/
theorem FRow.keep {w0 w w' : World} {vo : Value} {out : List (List Nd)} (h : FRow w0 w vo out) (hb : ∀ g, w0.heap.size ≤ g → g < w.heap.size → w'.heap[g]? = w.heap[g]?) (hs : w.heap.size ≤ w'.heap.size) (he : Ext w0 w') : FRow w0 w' vo out := by
  obtain ⟨us, hr, hu⟩ := h.row
  refine ⟨he, us, ⟨hr.1, ?_⟩, fun k s hk => ?_⟩
  · rcases hr.2 with h0 | ⟨g, cap, cur, e, h1, h2, h3, h4, h5, h6⟩
    · exact .inl h0
    · exact .inr ⟨g, cap, cur, e, h1, (hb g h1 (lt_heap h2)).trans h2, h3, h4, h5, h6⟩
  · obtain ⟨u, a, b, c⟩ := hu k s hk
    exact ⟨u, a, ⟨b.1.keepF (fun g hg _ => hb g (c g hg).2.2 (c g hg).1) hs, b.2⟩, fun g hg => ⟨Nat.lt_of_lt_of_le (c g hg).1 hs, (c g hg).2⟩⟩
theorem FRow.fmls {w0 w : World} {vo : Value} {out : List (List Nd)} (h : FRow w0 w vo out) : Fmls w vo out := by
  obtain ⟨ss, hs, hv⟩ := h.row
  by_cases h0 : 0 < out.length
  · obtain ⟨g, cap, rfl, hg, h1, h2, hc⟩ := row1_cellsF hs h0
    refine ⟨_, cap, rfl, h1, h2, fun _ => ⟨_, rfl, hg, fun k f hk => ?_⟩⟩
    obtain ⟨u, a, b, _⟩ := hv k f hk
    exact ⟨u, by rw [addr_zero]; exact hc k u a, b⟩
  · have e : out = [] := List.length_eq_zero_iff.1 (by omega)
    subst e
    obtain ⟨A, c, rfl⟩ := slice_of_row hs
    rcases hs.2 with ⟨e, _⟩ | ⟨g, cap, cur, e, _, _, hn, hm, _⟩
    · injection e with e1 _ e2
      subst e1 e2
      exact ⟨_, _, rfl, Nat.le_refl _, by unfold maxLen; omega, fun h => absurd rfl h⟩
    · injection e with e1 _ e2
      subst e1 e2
      exact ⟨_, _, rfl, Nat.zero_le _, hm, fun h => absurd rfl h⟩
theorem FRow.push {w0 W w4 : World} {vo v' x : Value} {out : List (List Nd)} {s : List Nd} {ss : List Value} (he : Ext w0 W) (hs : W.ownsRow w0.heap.size 22 1 vo out.length ss) (hv : ∀ (k : Nat) (s : List Nd), out[k]? = some s → ∃ u, ss[k]? = some u ∧ Fml W u s ∧ Away w0.heap.size W vo u)
    (hrow : w4.ownsRow w0.heap.size 22 1 v' (out.length + 1) (ss ++ [x])) (hg : W.grownBy w4 vo.ownBlock) (hat : v'.ownBlock = vo.ownBlock ∨ v'.ownBlock = some W.heap.size) (hx : Fml W x s) (hxf : Away w0.heap.size W vo x) :
    FRow w0 w4 v' (out ++ [s]) := by
  have hlen : ss.length = out.length := by simpa using hs.1
  have hkeep : ∀ g, g < W.heap.size → vo.ownBlock ≠ some g → w4.heap[g]? = W.heap[g]? := fun g h1 h2 => hg.block g h1 (fun e => h2 e.symm)
  have haway : ∀ u, Away w0.heap.size W vo u → Away w0.heap.size w4 v' u := fun u hu g hgu => by
    obtain ⟨a, b, hm⟩ := hu g hgu
    refine ⟨Nat.lt_of_lt_of_le a hg.size, fun e => ?_, hm⟩
    rcases hat with e1 | e1
    · exact b (e1.symm.trans e)
    · rw [e1] at e; injection e with e; omega
  have hfml : ∀ u s, Away w0.heap.size W vo u → Fml W u s → Fml w4 u s := fun u s ha hi => ⟨hi.1.keepF (fun g hg' _ => hkeep g (ha g hg').1 (ha g hg').2.1) hg.size, hi.2⟩
  refine ⟨he.grown hg (fun g hg' => (hs.lt g hg').1), ss ++ [x], by rw [List.length_append]; exact hrow, fun k s' hk => ?_⟩
  by_cases hk' : k < out.length
  · rw [List.getElem?_append_left hk'] at hk
    obtain ⟨u, a, b, c⟩ := hv k s' hk
    exact ⟨u, by rw [List.getElem?_append_left (by omega)]; exact a, hfml u s' c b, haway u c⟩
  · rw [List.getElem?_append_right (by omega)] at hk
    have hk0 : k = out.length := by
      by_cases e : k - out.length = 0
      · omega
      · rw [List.getElem?_eq_none (by simp; omega)] at hk; cases hk
    subst hk0
    simp at hk
    subst hk
    exact ⟨x, by rw [List.getElem?_append_right (by omega), hlen]; simp, hfml x _ hxf hx, haway x hxf⟩
theorem made_away {w W : World} {vo x : Value} {B n k : Nat} {us zs : List Value} {e : TypeId} {sz m : Nat} (hB : w.heap.size ≤ B) (hx : W.ownsRow B e sz x n zs) (hs : w.ownsRow m 22 1 vo k us) (hm : m ≤ w.heap.size) : Away m W vo x := fun g hg => by
  obtain ⟨h1, h2⟩ := hx.lt g hg
  exact ⟨h2, fun e => by have := (hs.lt g e).2; omega, by omega⟩
end Go.Proofs.YtdpblciohodgcaaGreatDoor

/- sequent's formulas: the formulas of a base, in a row of the call's own. -/

namespace Go.Proofs.YtdpblciohodgcaaGreatDoor
open Go.RowKit

theorem range_step (base : List Nd) (k : Nat) : (List.range (k + 1)).map (fun (i : Nat) => subN base i) = (List.range k).map (fun (i : Nat) => subN base i) ++ [subN base k] := by
  rw [List.range_succ, List.map_append]
  rfl
set_option maxRecDepth 100000 in
set_option maxHeartbeats 8000000 in
theorem formulas_any (v : Value) (base : List Nd) (w : World) (h : Fml w v base) (hlen : base.length ≤ 1000) :
    Calls Tryz.prog 30 #[v] w fun e w' => ∃ u, e = .returned u ∧ FRow w w' u (formulasN base) := by
  have H := Lib.hid h
  obtain ⟨iI, hiI, hzI0, hzI1, hzI2⟩ := info_parts tInfoF2
  obtain ⟨A, c, rfl, _⟩ := fml_slice h
  clear h
  go_enter Tryz.func30, Tryz.ntmps30
  go_wp2_with fail
  go_loopw [3, 7] (fun vo vi wr => ∃ k : Nat, vi = .int .i64 (k : Int) ∧ k ≤ base.length ∧ Hid (∃ out, out = (List.range k).map (fun (i : Nat) => subN base i) ∧ FRow w wr vo out)) (fun _ v _ => base.length - (intOf v).toNat)
  case atStart => exact ⟨0, rfl, Nat.zero_le _, Lib.hid ⟨[], rfl, FRow.nil _⟩⟩
  case round =>
    obtain ⟨k, rfl, hk, HREL⟩ := hrel
    obtain ⟨out, ho, hfr⟩ := HREL.out
    obtain ⟨us, hrow, hus⟩ := hfr.row
    obtain ⟨Ao, co, rfl⟩ := slice_of_row hrow
    have HO := Lib.hid ho
    have HFR := Lib.hid hfr
    have HROW := Lib.hid hrow
    have HUS := Lib.hid hus
    have hol : out.length ≤ 1000 := by rw [ho]; simp; omega
    clear HREL ho hfr hrow hus
    by_cases hlt2 : k < base.length
    · have hk1 : (k : Int) < (base.length : Int) := by omega
      have hc3 : out.length + 1 ≤ maxLen := by unfold maxLen; omega
      have hc4 : (out.length + 1) * 24 ≤ 140737488355328 := by omega
      go_wp2_with fail
      refine (sub_any _ base (k : Int) _ (H.out.ext HFR.out.ext)).mono ?_
      rintro e w1 ⟨u, rfl, hm⟩
      have X1 := Lib.hid (HFR.out.ext.trans hm.2.2)
      have Y1 := Lib.hid hm.2.2
      have HM := Lib.hid hm
      obtain ⟨Au, cu, rfl, _⟩ := fml_slice hm.fml
      clear hm
      go_wp2_with (at_builtin; refine wpList_append_own_at _ rfl _ _ 34 rfl w.heap.size 22 iI (.slice none 0 0) 1 24 Tryz.underlying34 hiI hzI0 hzI1 hzI2 rfl (by decide) _ out.length us rfl (row_ext HROW.out (Y1.out.alloc _)) ⟨_, 0, none⟩ 1 1 [.slice Au (subN base (k : Int)).length cu] rfl rfl (row_new_at _ _ _ (by simp)) (fun u hu => by rw [List.mem_singleton.1 hu]; rfl) hc3 hc4 (Nat.le_trans HFR.out.ext.size (Y1.out.alloc _).size) ?_)
      intro v7 w7 hown7 hgrow7 _ hat7
      have HPS := Lib.hid (FRow.push (s := subN base (k : Int)) (X1.out.alloc _) (row_ext HROW.out (Y1.out.alloc _)) (fun k s hk => by
        obtain ⟨u, a, b, c⟩ := HUS.out k s hk
        exact ⟨u, a, b.ext (Y1.out.alloc _), c.ext (Y1.out.alloc _)⟩) hown7 hgrow7 (hat7.imp id (fun e => e.trans (by simp))) (HM.out.fml.ext ((Ext.refl _).alloc _)) (made_away (Nat.le_refl _) (row_ext HM.out.1 ((Ext.refl _).alloc _)) HROW.out HFR.out.ext.size))
      obtain ⟨A7, c7, rfl⟩ := slice_of_row hown7
      clear hown7 hgrow7 hat7
      go_wp2_with fail
      go_roundw
      case rel => exact ⟨k + 1, by go_num, by omega, Lib.hid ⟨_, by rw [range_step, ← HO.out], HPS.out⟩⟩
      case measure => simp [intOf]; omega
    · obtain rfl : base.length = k := by omega
      go_wp2_with fail
      go_ret
      exact ⟨_, rfl, by rw [show formulasN base = out from HO.out.symm]; exact HFR.out⟩
end Go.Proofs.YtdpblciohodgcaaGreatDoor

/- slices.IndexFunc at lists of nodes with a test of any function. -/

namespace Go.Proofs.YtdpblciohodgcaaGreatDoor
open Go.RowKit

/-- The first place at which a test holds, or -1. -/
def findN (p : List Nd → Bool) (l : List (List Nd)) : Int := match l.findIdx? p with | none => -1 | some j => j
theorem findIdx_hit (p : List Nd → Bool) : ∀ (l : List (List Nd)) (k : Nat) (s : List Nd), l[k]? = some s → p s = true → (∀ t ∈ l.take k, p t = false) → l.findIdx? p = some k
  | [], k, s, h, _, _ => by simp at h
  | a :: r, 0, s, h, hp, _ => by
    simp only [List.getElem?_cons_zero, Option.some.injEq] at h
    subst h
    rw [List.findIdx?_cons, hp]
    rfl
  | a :: r, k + 1, s, h, hp, hn => by
    have ha : p a = false := hn a (by simp)
    rw [List.findIdx?_cons, ha, findIdx_hit p r k s (by simpa using h) hp (fun t ht => hn t (by simp [ht]))]
    rfl
theorem findIdx_miss (p : List Nd → Bool) : ∀ (l : List (List Nd)), (∀ t ∈ l, p t = false) → l.findIdx? p = none
  | [], _ => by simp
  | a :: r, hn => by
    rw [List.findIdx?_cons, hn a (by simp), findIdx_miss p r (fun t ht => hn t (by simp [ht]))]
    rfl
set_option maxRecDepth 100000 in
set_option maxHeartbeats 4000000 in
theorem indexF_any (g : Nat) (lb : Array Value) (eg : ∀ args w, (callFunc g args).run Tryz.prog w = .ok (.enter g args) w) (p : List Nd → Bool) (v : Value) (l : List (List Nd)) (w : World) (h : Fmls w v l)
    (hp : ∀ (W : World) (u : Value) (s : List Nd), Ext w W → Fml W u s → Calls Tryz.prog g (#[u] ++ lb) W fun e w' => e = .returned (.bool (p s)) ∧ Ext W w') :
    Calls Tryz.prog 39 #[v, .func (.func g) #[] lb] w fun e w' => e = .returned (.int .i64 (findN p l)) ∧ Ext w w' := by
  obtain ⟨A, c, rfl, hcap, hmax, hr⟩ := h
  unfold maxLen at hmax
  have HR := Lib.hid hr
  have HP := Lib.hid hp
  clear hr hp
  go_enter Tryz.func39, Tryz.ntmps39
  go_wp2_with fail
  go_loopw [5, 8] (fun _ i wr => ∃ k : Nat, k ≤ l.length ∧ i = .int .i64 (k : Int) ∧ Hid (∀ t ∈ l.take k, p t = false) ∧ Hid (Ext w wr)) (fun _ i _ => l.length - (intOf i).toNat)
  case atStart => exact ⟨0, Nat.zero_le _, rfl, Lib.hid (by simp), Lib.hid (Ext.refl _)⟩
  case round =>
    obtain ⟨k, hk, rfl, HNI, HX⟩ := hrel
    by_cases hlt2 : k < l.length
    · obtain ⟨s, hs⟩ : ∃ s, l[k]? = some s := ⟨_, List.getElem?_eq_getElem hlt2⟩
      obtain ⟨ad, rfl, hb1, hc1⟩ := HR.out (by intro e; rw [e] at hlt2; simp at hlt2)
      obtain ⟨u, hu, hf⟩ := hc1 k s hs
      have a0 := (HX.out.cell (p := ad.add k) (by rw [block_of_add]; exact hb1)).trans hu
      have HF := Lib.hid (hf.ext HX.out)
      have HA := Lib.hid hs
      have hk1 : (k : Int) < (l.length : Int) := by omega
      clear hs hc1 hf hu
      cases hps : p s
      · have HT : Hid (∀ t ∈ l.take (k + 1), p t = false) := Lib.hid (by
          rw [take_succ_eq HA.out]
          intro t ht
          rcases List.mem_append.1 ht with ht | ht
          · exact HNI.out t ht
          · rw [List.mem_singleton.1 ht]; exact hps)
        go_wp2_with (refine (HP.out _ u s (by exact HX.out.trans (by repeat (first | exact Ext.refl _ | assumption | apply Ext.alloc | apply Ext.drew))) (by exact HF.out.ext (by repeat (first | exact Ext.refl _ | assumption | apply Ext.alloc | apply Ext.drew)))).mono ?_; rintro e w1 ⟨rfl, hx⟩; rw [hps])
        go_roundw
        case rel => exact ⟨k + 1, by omega, by go_num, HT, Lib.hid (HX.out.trans (by first | exact hx | exact Ext.trans (by repeat (first | exact Ext.refl _ | assumption | apply Ext.alloc | apply Ext.drew)) hx))⟩
        case measure => simp [intOf]; omega
      · have HE := Lib.hid (show findN p l = (k : Int) by unfold findN; rw [findIdx_hit p l k s HA.out hps HNI.out])
        go_wp2_with (refine (HP.out _ u s (by exact HX.out.trans (by repeat (first | exact Ext.refl _ | assumption | apply Ext.alloc | apply Ext.drew))) (by exact HF.out.ext (by repeat (first | exact Ext.refl _ | assumption | apply Ext.alloc | apply Ext.drew)))).mono ?_; rintro e w1 ⟨rfl, hx⟩; rw [hps])
        go_ret
        exact ⟨by rw [HE.out] <;> rfl, HX.out.trans (by first | exact hx | exact Ext.trans (by repeat (first | exact Ext.refl _ | assumption | apply Ext.alloc | apply Ext.drew)) hx)⟩
    · obtain rfl : l.length = k := by omega
      have HE := Lib.hid (show findN p l = -1 by
        unfold findN
        rw [findIdx_miss p l (fun t ht => HNI.out t (by rw [List.take_of_length_le (Nat.le_refl _)]; exact ht))])
      go_wp2_with fail
      go_ret
      exact ⟨by rw [HE.out] <;> rfl, HX.out⟩
end Go.Proofs.YtdpblciohodgcaaGreatDoor

/- slices.IndexFunc at lists of nodes with the closures of sequent; sequent's negation. -/

namespace Go.Proofs.YtdpblciohodgcaaGreatDoor
open Go.RowKit

set_option maxRecDepth 100000 in
set_option maxHeartbeats 2000000 in
theorem negation1_any (B : Nat) (u gv : Value) (s g : List Nd) (w : World) (hs : Nds w u s) (hB : w.cell? ⟨B, 0, none⟩ = some gv) (hg : Nds w gv g) :
    Calls Tryz.prog 70 (#[u] ++ #[.pointer (some ⟨B, 0, none⟩)]) w fun e w' => e = .returned (.bool (decide (s = g))) ∧ Ext w w' := by
  have HS := Lib.hid hs
  have HG := Lib.hid hg
  obtain ⟨A, c, rfl, _⟩ := hs
  obtain ⟨A2, c2, rfl, _⟩ := hg
  show Calls Tryz.prog 70 #[.slice A s.length c, .pointer (some ⟨B, 0, none⟩)] w _
  go_enter Tryz.func70, Tryz.ntmps70
  go_wp2_with (go_at_call 35; refine (equalN_any _ _ s g _ (by exact HS.out.ext (by repeat (first | exact Ext.refl _ | assumption | apply Ext.alloc | apply Ext.drew))) (by exact HG.out.ext (by repeat (first | exact Ext.refl _ | assumption | apply Ext.alloc | apply Ext.drew)))).mono ?_; rintro e w1 ⟨rfl, hx⟩)
  go_ret
  exact ⟨rfl, by first | exact hx | exact Ext.trans (by repeat (first | exact Ext.refl _ | assumption | apply Ext.alloc | apply Ext.drew)) hx⟩
set_option maxRecDepth 100000 in
set_option maxHeartbeats 2000000 in
theorem broken1_any (B : Nat) (u gv : Value) (s g : List Nd) (w : World) (hs : Nds w u s) (hB : w.cell? ⟨B, 0, none⟩ = some gv) (hg : Nds w gv g) :
    Calls Tryz.prog 40 (#[u] ++ #[.pointer (some ⟨B, 0, none⟩)]) w fun e w' => e = .returned (.bool (decide (s = g))) ∧ Ext w w' := by
  have HS := Lib.hid hs
  have HG := Lib.hid hg
  obtain ⟨A, c, rfl, _⟩ := hs
  obtain ⟨A2, c2, rfl, _⟩ := hg
  have HE := Lib.hid (show decide (s = g) = decide (g = s) by rw [decide_eq_decide]; exact eq_comm)
  show Calls Tryz.prog 40 #[.slice A s.length c, .pointer (some ⟨B, 0, none⟩)] w _
  go_enter Tryz.func40, Tryz.ntmps40
  go_wp2_with (go_at_call 35; refine (equalN_any _ _ g s _ (by exact HG.out.ext (by repeat (first | exact Ext.refl _ | assumption | apply Ext.alloc | apply Ext.drew))) (by exact HS.out.ext (by repeat (first | exact Ext.refl _ | assumption | apply Ext.alloc | apply Ext.drew)))).mono ?_; rintro e w1 ⟨rfl, hx⟩)
  go_ret
  exact ⟨by rw [HE.out] <;> rfl, by first | exact hx | exact Ext.trans (by repeat (first | exact Ext.refl _ | assumption | apply Ext.alloc | apply Ext.drew)) hx⟩
end Go.Proofs.YtdpblciohodgcaaGreatDoor

/- The formulas of a base are formulas of knowledge, and so are their negations. -/

namespace Go.Proofs.YtdpblciohodgcaaGreatDoor

def OpOk (n : Nd) : Prop := 1 ≤ n.op ∧ n.op ≤ 10
theorem fin_ops {f : List Nd} (hf : Wf f) (h : ∀ n ∈ f, OpOk n) {i : Nat} (hi : i < f.length) : ∀ n ∈ (finN f i []).1, OpOk n := by
  intro m hm
  rcases fin_mem hf i [] hi m hm with h1 | ⟨n, hn, k1, k2, rfl⟩
  · cases h1
  · exact h n hn
theorem few_compact {g : List Nd} (hc : check g = 0) (h : Few10 g) : Few10 (compactN g) := by
  rw [compactN_eq hc]
  exact fin_ops (check_wf hc) h (by have := (check_parts hc).1; omega)
theorem any_one (f : List Nd) : [f].any (fun o => check o != 0) = (check f != 0) := by simp
theorem few_not {f : List Nd} (h : check f = 0 → Few10 (compactN f)) (hn : check (notN f) = 0) : Few10 (compactN (notN f)) := by
  refine few_compact hn ?_
  unfold notN buildN at hn ⊢
  rw [any_one] at hn ⊢
  cases hc : check f != 0
  · have hc0 : check f = 0 := by simpa using hc
    rw [hc, cond_false] at hn
    rw [cond_false]
    have hcw := (compactN_props hc0).1
    have hsw := shift_wf wf_nil hcw
    have hops : ∀ n ∈ ([] ++ (compactN f).map (shiftN ([] : List Nd).length)), OpOk n := by
      intro n hn
      rw [List.nil_append, List.mem_map] at hn
      obtain ⟨m, hm, rfl⟩ := hn
      exact h hc0 m hm
    simp only [layout] at hn ⊢
    unfold joinN at hn ⊢
    generalize [] ++ (compactN f).map (shiftN ([] : List Nd).length) = l at hn hsw hops ⊢
    cases he : nodeErr (setOp 0 ⟨4, 0, 0, 0, 0, 0⟩ l.length) l.length != 0
    · rw [he, cond_false] at hn
      rw [cond_false]
      have he0 : nodeErr (setOp 0 ⟨4, 0, 0, 0, 0, 0⟩ l.length) l.length = 0 := by simpa using he
      obtain ⟨hx, hy⟩ := nodeErr_xy he0
      have hl0 : 0 < l.length := by
        have : operandOk true ((l.length : Int) - 1) l.length = true := hx
        unfold operandOk at this
        simp at this
        omega
      have hw : Wf (l ++ [setOp 0 ⟨4, 0, 0, 0, 0, 0⟩ l.length]) := wf_snoc hsw (fun _ => by
        show 0 ≤ (l.length : Int) - 1 ∧ (l.length : Int) - 1 < l.length
        omega) (fun h => by cases h)
      have key : ∀ n ∈ (finN (l ++ [setOp 0 ⟨4, 0, 0, 0, 0, 0⟩ l.length]) l.length []).1, OpOk n := fin_ops hw (fun n hn => by
        rcases List.mem_append.1 hn with h1 | h1
        · exact hops n h1
        · rw [List.mem_singleton.1 h1]
          exact ⟨by show (1 : Int) ≤ 4; decide, by show (4 : Int) ≤ 10; decide⟩) (by simp)
      cases hb : decide (200 < (finN (l ++ [setOp 0 ⟨4, 0, 0, 0, 0, 0⟩ l.length]) l.length []).1.length)
      · exact key
      · exact fun n hn => by cases hn
    · exact fun n hn => by cases hn
  · exact fun n hn => by cases hn
theorem sub_props {base : List Nd} (hc : check base = 0) {k : Nat} (hk : k < base.length) : subN base k = (finN base k []).1 ∧ check (subN base k) = 0 ∧ (subN base k).length ≤ base.length := by
  have e : subN base k = (finN base k []).1 := by
    unfold subN
    have e2 : (decide ((k : Int) < 0) || decide ((base.length : Int) ≤ (k : Int))) = false := by simp; omega
    rw [hc, e2, Int.toNat_natCast]
    rfl
  have hw := check_wf hc
  have h1 := length_le_pot base (finN base k []).1
  have h2 := pot_le hw k [] hk
  have h3 := pot_nil base
  have hl : (finN base k []).1.length ≤ base.length := by omega
  have h4 := finN_lt hw k [] hk
  refine ⟨e, ?_, by rw [e]; exact hl⟩
  rw [e]
  refine check_of (by intro e; rw [e] at h4; simp at h4) (by have := (check_parts hc).2.1; omega) (fin_wf hw k [] hk wf_nil) (fun n hn => ?_)
  rcases fin_mem hw k [] hk n hn with h | ⟨m, hm, k1, k2, rfl⟩
  · cases h
  · exact (heads_of hc m hm).with_ k1 k2
theorem normal_ops {base : List Nd} {n : Nd} (h : normalN base n = true) : OpOk n := by
  unfold normalN at h
  unfold OpOk
  cases h4 : n.op == 4
  · rw [h4] at h
    simp only [cond_false, Bool.or_eq_true, beq_iff_eq] at h
    omega
  · have : n.op = 4 := by simpa using h4
    omega
theorem base_few {base : List Nd} (ha : base.all (normalN base) = true) : ∀ n ∈ base, OpOk n := fun n hn => normal_ops (List.all_eq_true.1 ha n hn)
theorem sub_few {base : List Nd} (hc : check base = 0) (ha : base.all (normalN base) = true) {k : Nat} (hk : k < base.length) : Few10 (subN base k) := by
  rw [(sub_props hc hk).1]
  exact fin_ops (check_wf hc) (base_few ha) hk
/-- What opposite wants. -/
theorem opp_few {base : List Nd} (hc : check base = 0) (ha : base.all (normalN base) = true) {k : Nat} (hk : k < base.length) : check (notN (subN base k)) = 0 → Few10 (compactN (notN (subN base k))) :=
  few_not fun h => few_compact h (sub_few hc ha hk)
end Go.Proofs.YtdpblciohodgcaaGreatDoor
