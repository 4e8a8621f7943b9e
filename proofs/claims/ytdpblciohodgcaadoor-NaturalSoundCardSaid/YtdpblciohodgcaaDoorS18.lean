/- natural's checker: subproof, assumed. -/
import Derived.Test.YtdpblciohodgcaaDoorS09

namespace Go.Proofs.YtdpblciohodgcaaDoor
open Go.RowKit

set_option maxRecDepth 100000 in
set_option maxHeartbeats 2000000 in
theorem subpr_out {w : World} {b : Nat} {lg : Int} {ls : List Ln} {fs : List (List Nd)} {st : List (List Int)} (h : Chk w b lg ls fs st) (i k : Nat) (n : Ln) (j : Int) (hi : ls[i]? = some n) (hk : n.from_[k]? = some j) (hj : j < 0 ∨ (i : Int) ≤ j) :
    Calls Tryd.prog 128 #[.pointer (some ⟨b, 0, none⟩), .int .i64 i, .int .i64 (k : Int)] w fun e w' => e = .returned (.tuple #[.int .i64 0, .slice none 0 0, .bool false]) ∧ Ext w w' := by
  obtain ⟨ad, c, vf, vs, uf, ur, hc1, hc2, hlt, d0, d1, d2, d3, q0, q1, q2, q3, q4, _, ⟨Ar, cr, rfl, hir⟩⟩ := h.line hi
  obtain ⟨adr, rfl, hbr, hcr⟩ := hir.2.2 (by intro e; rw [e] at hk; simp at hk)
  have r0 := hcr k j hk
  have hkl : k < n.from_.length := (List.getElem?_eq_some_iff.1 hk).1
  have hrc := hir.1
  have hrm := hir.2.1
  unfold maxLen at hrm
  have hil : i < ls.length := (List.getElem?_eq_some_iff.1 hi).1
  clear h hi hk hir hcr
  by_cases h0 : j < 0
  · clear hj
    go_enter Tryd.func128, Tryd.ntmps128
    go_wp2_with fail
    go_ret3
    exact ⟨rfl, Ext.refl _⟩
  · have h1 : (i : Int) ≤ j := by omega
    clear hj
    go_enter Tryd.func128, Tryd.ntmps128
    go_wp2_with fail
    go_ret3
    exact ⟨rfl, Ext.refl _⟩

set_option maxRecDepth 100000 in
set_option maxHeartbeats 2000000 in
theorem subpr_shut {w : World} {b : Nat} {lg : Int} {ls : List Ln} {fs : List (List Nd)} {st : List (List Int)} (h : Chk w b lg ls fs st) (i k : Nat) (n : Ln) (j : Nat) (m : Ln) (hi : ls[i]? = some n) (hk : n.from_[k]? = some (j : Int)) (hj : j < i) (hm : ls[j]? = some m) (ho : opensL m = false) :
    Calls Tryd.prog 128 #[.pointer (some ⟨b, 0, none⟩), .int .i64 i, .int .i64 (k : Int)] w fun e w' => e = .returned (.tuple #[.int .i64 0, .slice none 0 0, .bool false]) ∧ Ext w w' := by
  obtain ⟨ad, c, vf, vs, uf, ur, hc1, hc2, hlt, d0, d1, d2, d3, q0, q1, q2, q3, q4, _, ⟨Ar, cr, rfl, hir⟩⟩ := h.line hi
  obtain ⟨adr, rfl, hbr, hcr⟩ := hir.2.2 (by intro e; rw [e] at hk; simp at hk)
  have r0 := hcr k j hk
  have hkl : k < n.from_.length := (List.getElem?_eq_some_iff.1 hk).1
  have hrc := hir.1
  have hrm := hir.2.1
  unfold maxLen at hrm
  have hil : i < ls.length := (List.getElem?_eq_some_iff.1 hi).1
  have HOP := Lib.hid (opens_any h j m hm)
  have HO := Lib.hid ho
  clear h hi hk hir hcr hm ho
  go_enter Tryd.func128, Tryd.ntmps128
  go_wp2_with fail
  refine HOP.out.mono ?_
  rintro e w1 ⟨rfl, hx⟩
  rw [HO.out]
  go_wp2_with fail
  go_ret3
  exact ⟨rfl, hx⟩

structure SubGood (ls : List Ln) (st : List (List Int)) (i j lv : Nat) (si sj : List Int) : Prop where
  all : si.take lv = sj.take lv ∧ (j : Int) ∉ si ∧ boxesL ls (si.drop lv) = [] ∧ (st.getD (lastL st j i) []).length = sj.length
inductive SubPost (ls : List Ln) (fs : List (List Nd)) (st : List (List Int)) (i j lv : Nat) (si sj : List Int) (w : World) (e : Ending) (w' : World) : Prop where
  | yes {u : Value} (h : SubGood ls st i j lv si sj) (he : e = .returned (.tuple #[.int .i64 j, u, .bool true])) (hx : Ext w w') (hf : Fml w' u (fs.getD (lastL st j i) []))
  | no {z : Int} {u : Value} (h : ¬ SubGood ls st i j lv si sj) (he : e = .returned (.tuple #[.int .i64 z, u, .bool false])) (hx : Ext w w')

set_option maxRecDepth 100000 in
set_option maxHeartbeats 4000000 in
theorem subpr_in {w : World} {b : Nat} {lg : Int} {ls : List Ln} {fs : List (List Nd)} {st : List (List Int)} (h : Chk w b lg ls fs st) (hst : StOk ls st) (i k : Nat) (n : Ln) (j : Nat) (m : Ln) (si sj : List Int) (hi : ls[i]? = some n) (hk : n.from_[k]? = some (j : Int)) (hj : j < i) (hm : ls[j]? = some m) (ho : opensL m = true)
    (hsi : st[i]? = some si) (hsj : st[j]? = some sj) (hpos : 0 < sj.length) (hif : i ≤ fs.length) :
    Calls Tryd.prog 128 #[.pointer (some ⟨b, 0, none⟩), .int .i64 i, .int .i64 (k : Int)] w (SubPost ls fs st i j (sj.length - 1) si sj w) := by
  obtain ⟨ad, c, vf, vs, uf, ur, hc1, hc2, hlt, d0, d1, d2, d3, q0, q1, q2, q3, q4, _, ⟨Ar, cr, rfl, hir⟩⟩ := h.line hi
  obtain ⟨adr, rfl, hbr, hcr⟩ := hir.2.2 (by intro e; rw [e] at hk; simp at hk)
  have r0 := hcr k j hk
  have hkl : k < n.from_.length := (List.getElem?_eq_some_iff.1 hk).1
  have hrc := hir.1
  have hrm := hir.2.1
  unfold maxLen at hrm
  have hil : i < ls.length := (List.getElem?_eq_some_iff.1 hi).1
  have HOP := Lib.hid (opens_any h j m hm)
  have HO := Lib.hid ho
  have H := Lib.hid h
  have HST := Lib.hid hst
  have HSI := Lib.hid hsi
  have HSJ := Lib.hid hsj
  have hit : i < st.length := (List.getElem?_eq_some_iff.1 hsi).1
  have HSIok := Lib.hid (hst si (List.mem_of_getElem? hsi))
  obtain ⟨lv, hlv⟩ : ∃ lv, sj.length = lv + 1 := ⟨sj.length - 1, by omega⟩
  have HLV := Lib.hid hlv
  have e1 : (sj.length : Int) - 1 = (lv : Int) := by omega
  rw [show sj.length - 1 = lv by omega]
  clear h hst hi hk hir hcr hm ho hsi hsj
  go_enter Tryd.func128, Tryd.ntmps128
  go_wp2_with fail
  refine HOP.out.mono ?_
  rintro e w1 ⟨rfl, hx⟩
  rw [HO.out]
  have HX := Lib.hid hx
  clear hx
  obtain ⟨ad2, c2, vl2, vf2, Ai, Aj, ci, cj, g1, g2, g3, g4, g5, g6, g7, g8, g9, gI, gJ⟩ := (H.out.ext HX.out).stack HSI.out HSJ.out
  have HI := Lib.hid gI
  have HJ := Lib.hid gJ
  have hci := gI.1
  have hcim := gI.2.1
  have hcj := gJ.1
  have hcjm := gJ.2.1
  unfold maxLen at hcim hcjm
  clear gI gJ
  by_cases hle : si.length < lv
  · have hne : ¬ SubGood ls st i j lv si sj := fun e => by
      have := congrArg List.length e.all.1
      have h2 := HLV.out
      simp at this
      omega
    have HNE := Lib.hid hne
    have hle2 : decide (si.length < lv) = true := by simpa using hle
    clear hne
    go_wp2_with fail
    go_quiet (fail)
    go_wp2_with fail
    go_ret3
    exact SubPost.no HNE.out rfl (HX.out.trans ((Ext.refl _).drewN _))
  · have hle2 : decide (si.length < lv) = false := by simpa using hle
    have hle3 : lv ≤ si.length := by omega
    have hle4 : lv ≤ ci := by omega
    have hle5 : (lv : Int) ≤ (ci : Int) := by omega
    have HD := Lib.hid (Ints.drop_ HI.out hle3)
    clear hle
    by_cases hcn : ci = lv
    · rw [if_pos hcn, hcn, Nat.sub_self] at HD
      rw [show si.length - lv = 0 by omega] at HD
      have hcn' := hcn.symm
      subst hcn'
      go_wp2_with fail
      go_quiet (fail)
      go_wp2_with fail
      refine (equalI_any _ _ (si.take lv) (sj.take lv) _ ((Ints.take_ HI.out hle3).ext ((Ext.refl _).drewN _)) ((Ints.take_ HJ.out (by have := HLV.out; omega)).ext ((Ext.refl _).drewN _))).mono ?_
      rintro e w2 ⟨rfl, hx2⟩
      have HX12 := Lib.hid (((Ext.refl w1).drewN _).trans hx2)
      have HX2 := Lib.hid (HX.out.trans HX12.out)
      clear hx2
      cases hE : decide (si.take lv = sj.take lv)
      case false =>
        have HNE := Lib.hid (show ¬ SubGood ls st i j lv si sj from fun e => (of_decide_eq_false hE) e.all.1)
        clear hE
        go_wp2_with fail
        go_ret3
        exact SubPost.no HNE.out rfl HX2.out
      case true =>
        have HE := Lib.hid (of_decide_eq_true hE)
        clear hE
        go_wp2_with fail
        refine (containsI_any _ si j w2 ((show Ints w1 (.slice Ai si.length _) si from ⟨_, _, rfl, HI.out⟩).ext HX12.out)).mono ?_
        rintro e w3 ⟨rfl, hx3⟩
        have HX13 := Lib.hid (HX12.out.trans hx3)
        have HX3 := Lib.hid (HX2.out.trans hx3)
        clear hx3
        cases hC : decide ((j : Int) ∈ si)
        case true =>
          have HNE := Lib.hid (show ¬ SubGood ls st i j lv si sj from fun e => e.all.2.1 (of_decide_eq_true hC))
          clear hC
          go_wp2_with fail
          go_ret3
          exact SubPost.no HNE.out rfl HX3.out
        case false =>
          have HC := Lib.hid hC
          clear hC
          go_wp2_with fail
          refine (boxes_any (H.out.ext HX3.out) _ (si.drop lv) (HD.out.ext HX13.out) (fun o ho => HSIok.out.2 o (List.mem_of_mem_drop ho)) (by have := HSIok.out.1; rw [List.length_drop]; omega)).mono ?_
          rintro e w4 ⟨ub, rfl, hmb⟩
          obtain ⟨Ab, cb, rfl, _⟩ := hmb.ints
          have HX4 := Lib.hid (HX3.out.trans hmb.2)
          clear hmb
          by_cases hbx : (boxesL ls (si.drop lv)).length = 0
          · have HBX := Lib.hid hbx
            rw [hbx]
            clear hbx
            go_wp2_with fail
            go_loopw [13] (fun v wr => ∃ l : Nat, v = .int .i64 l ∧ j ≤ l ∧ l < i ∧ Hid (∃ f, i ≤ l + f ∧ lastF st j i f l = lastL st j i) ∧ Hid (Ext w wr)) (fun v _ => i - (intOf v).toNat)
            case atStart => exact ⟨j, rfl, Nat.le_refl _, hj, Lib.hid ⟨i, by omega, rfl⟩, Lib.hid HX4.out⟩
            case round =>
              obtain ⟨l, rfl, hl1, hl2, HF, HXR⟩ := hrel
              by_cases hlt2 : l + 1 < i
              · obtain ⟨sn, hsn⟩ : ∃ sn, st[l + 1]? = some sn := ⟨_, List.getElem?_eq_getElem (by omega)⟩
                obtain ⟨ad5, c5, vl5, vf5, A5, B5, k5, m5, t1, t2, t3, t4, t5, t6, t7, t8, t9, tI, _⟩ := (H.out.ext HXR.out).stack hsn hsn
                have HTI := Lib.hid tI
                have t8 : wr.cell? ⟨ad5.block, ad5.off + (l + 1), none⟩ = some (.slice A5 sn.length k5) := by simpa [Addr.add] using t8
                have HSN : Hid (st.getD (l + 1) [] = sn) := Lib.hid (by rw [List.getD_eq_getElem?_getD, hsn]; rfl)
                have hlt3 : (l : Int) + 1 < (i : Int) := by omega
                have hlt4 : (l : Int) + 1 < (st.length : Int) := by omega
                have hlt5 : (0 : Int) ≤ (l : Int) + 1 := by omega
                have hlt6 : ((l : Int) + 1).toNat = l + 1 := by omega
                have HLT := Lib.hid hlt2
                clear hsn t5 t6 t9 tI
                go_wp2_with fail
                refine (containsI_any _ sn j _ ⟨_, _, rfl, HTI.out⟩).mono ?_
                rintro e w6 ⟨rfl, hx6⟩
                have HX6 := Lib.hid (HXR.out.trans hx6)
                clear hx6
                cases hM : decide ((j : Int) ∈ sn)
                case true =>
                  have HM := Lib.hid hM
                  clear hM
                  go_wp2_with fail
                  go_roundw
                  case rel =>
                    refine ⟨l + 1, by go_num, by omega, HLT.out, Lib.hid ?_, Lib.hid HX6.out⟩
                    obtain ⟨f, hf1, hf2⟩ := HF.out
                    cases f with
                    | zero => omega
                    | succ f =>
                      refine ⟨f, by omega, ?_⟩
                      rw [← hf2]
                      conv => rhs; unfold lastF
                      rw [HSN.out, HM.out, decide_eq_true HLT.out]
                      rfl
                  case measure => simp [intOf]; omega
                case false =>
                  have HM := Lib.hid hM
                  clear hM t1 t2 t3 t4 t7 t8
                  have HFL : Hid (lastL st j i = l) := Lib.hid (by
                    obtain ⟨f, hf1, hf2⟩ := HF.out
                    rw [← hf2]
                    cases f with
                    | zero => rfl
                    | succ f => unfold lastF; rw [HSN.out, HM.out, Bool.and_false]; rfl)
                  obtain ⟨sl, hsl⟩ : ∃ sl, st[l]? = some sl := ⟨_, List.getElem?_eq_getElem (by omega)⟩
                  obtain ⟨fl, hfl⟩ : ∃ fl, fs[l]? = some fl := ⟨_, List.getElem?_eq_getElem (by omega)⟩
                  have hlf : l < fs.length := by omega
                  have hls : l < st.length := by omega
                  obtain ⟨ad3, c3, vl3, vf3, A3, B3, k3, m3, p1, p2, p3, p4, p5, p6, p7, p8, p9, pI, _⟩ := (H.out.ext HX6.out).stack hsl hsl
                  obtain ⟨ad4, c4, vl4, vs4, A4, k4, o1, o2, o3, o4, o5, o6, o7, o8, o9⟩ := (H.out.ext HX6.out).form hfl
                  have HF4 := Lib.hid o9
                  have HGS : Hid (st.getD (lastL st j i) [] = sl) := Lib.hid (by rw [HFL.out, List.getD_eq_getElem?_getD, hsl]; rfl)
                  have HGF : Hid (fs.getD (lastL st j i) [] = fl) := Lib.hid (by rw [HFL.out, List.getD_eq_getElem?_getD, hfl]; rfl)
                  have hli0 : (0 : Int) ≤ (l : Int) := by omega
                  have hli1 : (l : Int) < (st.length : Int) := by omega
                  have hli2 : (l : Int) < (fs.length : Int) := by omega
                  clear hsl hfl p5 p6 p9 pI o5 o7 o9
                  by_cases hfin : sl.length = lv + 1
                  · have HL2 := Lib.hid hfin
                    rw [hfin] at p8
                    clear hfin
                    go_wp2_with fail
                    go_quiet (fail)
                    go_wp2_with fail
                    go_ret3
                    exact SubPost.yes ⟨⟨HE.out, of_decide_eq_false HC.out, List.length_eq_zero_iff.1 HBX.out, by rw [HGS.out, HLV.out]; exact HL2.out⟩⟩ rfl (HX6.out.drewN _) (by rw [HGF.out]; exact HF4.out.ext ((Ext.refl _).drewN _))
                  · have hd : ((sl.length : Int) != (lv : Int) + 1) = true := by simp; omega
                    have HL2 := Lib.hid hfin
                    clear hfin
                    go_wp2_with fail
                    go_ret3
                    exact SubPost.no (fun e => HL2.out (by have := e.all.2.2.2; rw [HGS.out, HLV.out] at this; exact this)) rfl HX6.out
              · clear HX4
                have HFL : Hid (lastL st j i = l) := Lib.hid (by
                  obtain ⟨f, hf1, hf2⟩ := HF.out
                  rw [← hf2]
                  cases f with
                  | zero => rfl
                  | succ f => unfold lastF; rw [decide_eq_false hlt2, Bool.false_and]; rfl)
                obtain ⟨sl, hsl⟩ : ∃ sl, st[l]? = some sl := ⟨_, List.getElem?_eq_getElem (by omega)⟩
                obtain ⟨fl, hfl⟩ : ∃ fl, fs[l]? = some fl := ⟨_, List.getElem?_eq_getElem (by omega)⟩
                have hlf : l < fs.length := by omega
                have hls : l < st.length := by omega
                obtain ⟨ad3, c3, vl3, vf3, A3, B3, k3, m3, p1, p2, p3, p4, p5, p6, p7, p8, p9, pI, _⟩ := (H.out.ext HXR.out).stack hsl hsl
                obtain ⟨ad4, c4, vl4, vs4, A4, k4, o1, o2, o3, o4, o5, o6, o7, o8, o9⟩ := (H.out.ext HXR.out).form hfl
                have HF4 := Lib.hid o9
                have HGS : Hid (st.getD (lastL st j i) [] = sl) := Lib.hid (by rw [HFL.out, List.getD_eq_getElem?_getD, hsl]; rfl)
                have HGF : Hid (fs.getD (lastL st j i) [] = fl) := Lib.hid (by rw [HFL.out, List.getD_eq_getElem?_getD, hfl]; rfl)
                have hli0 : (0 : Int) ≤ (l : Int) := by omega
                have hli1 : (l : Int) < (st.length : Int) := by omega
                have hli2 : (l : Int) < (fs.length : Int) := by omega
                clear hsl hfl p5 p6 p9 pI o5 o7 o9
                by_cases hfin : sl.length = lv + 1
                · have HL2 := Lib.hid hfin
                  rw [hfin] at p8
                  clear hfin
                  go_wp2_with fail
                  go_quiet (fail)
                  go_wp2_with fail
                  go_ret3
                  exact SubPost.yes ⟨⟨HE.out, of_decide_eq_false HC.out, List.length_eq_zero_iff.1 HBX.out, by rw [HGS.out, HLV.out]; exact HL2.out⟩⟩ rfl (HXR.out.drewN _) (by rw [HGF.out]; exact HF4.out.ext ((Ext.refl _).drewN _))
                · have hd : ((sl.length : Int) != (lv : Int) + 1) = true := by simp; omega
                  have HL2 := Lib.hid hfin
                  clear hfin
                  go_wp2_with fail
                  go_ret3
                  exact SubPost.no (fun e => HL2.out (by have := e.all.2.2.2; rw [HGS.out, HLV.out] at this; exact this)) rfl HXR.out
          · have hpos0 : 0 < (boxesL ls (si.drop lv)).length := by omega
            have HNE := Lib.hid (show ¬ SubGood ls st i j lv si sj from fun e => hbx (List.length_eq_zero_iff.2 e.all.2.2.1))
            clear hbx
            go_wp2_with fail
            go_ret3
            exact SubPost.no HNE.out rfl HX4.out
    · rw [if_neg hcn] at HD
      go_wp2_with fail
      go_quiet (fail)
      go_wp2_with fail
      refine (equalI_any _ _ (si.take lv) (sj.take lv) _ ((Ints.take_ HI.out hle3).ext ((Ext.refl _).drewN _)) ((Ints.take_ HJ.out (by have := HLV.out; omega)).ext ((Ext.refl _).drewN _))).mono ?_
      rintro e w2 ⟨rfl, hx2⟩
      have HX12 := Lib.hid (((Ext.refl w1).drewN _).trans hx2)
      have HX2 := Lib.hid (HX.out.trans HX12.out)
      clear hx2
      cases hE : decide (si.take lv = sj.take lv)
      case false =>
        have HNE := Lib.hid (show ¬ SubGood ls st i j lv si sj from fun e => (of_decide_eq_false hE) e.all.1)
        clear hE
        go_wp2_with fail
        go_ret3
        exact SubPost.no HNE.out rfl HX2.out
      case true =>
        have HE := Lib.hid (of_decide_eq_true hE)
        clear hE
        go_wp2_with fail
        refine (containsI_any _ si j w2 ((show Ints w1 (.slice Ai si.length _) si from ⟨_, _, rfl, HI.out⟩).ext HX12.out)).mono ?_
        rintro e w3 ⟨rfl, hx3⟩
        have HX13 := Lib.hid (HX12.out.trans hx3)
        have HX3 := Lib.hid (HX2.out.trans hx3)
        clear hx3
        cases hC : decide ((j : Int) ∈ si)
        case true =>
          have HNE := Lib.hid (show ¬ SubGood ls st i j lv si sj from fun e => e.all.2.1 (of_decide_eq_true hC))
          clear hC
          go_wp2_with fail
          go_ret3
          exact SubPost.no HNE.out rfl HX3.out
        case false =>
          have HC := Lib.hid hC
          clear hC
          go_wp2_with fail
          refine (boxes_any (H.out.ext HX3.out) _ (si.drop lv) (HD.out.ext HX13.out) (fun o ho => HSIok.out.2 o (List.mem_of_mem_drop ho)) (by have := HSIok.out.1; rw [List.length_drop]; omega)).mono ?_
          rintro e w4 ⟨ub, rfl, hmb⟩
          obtain ⟨Ab, cb, rfl, _⟩ := hmb.ints
          have HX4 := Lib.hid (HX3.out.trans hmb.2)
          clear hmb
          by_cases hbx : (boxesL ls (si.drop lv)).length = 0
          · have HBX := Lib.hid hbx
            rw [hbx]
            clear hbx
            go_wp2_with fail
            go_loopw [13] (fun v wr => ∃ l : Nat, v = .int .i64 l ∧ j ≤ l ∧ l < i ∧ Hid (∃ f, i ≤ l + f ∧ lastF st j i f l = lastL st j i) ∧ Hid (Ext w wr)) (fun v _ => i - (intOf v).toNat)
            case atStart => exact ⟨j, rfl, Nat.le_refl _, hj, Lib.hid ⟨i, by omega, rfl⟩, Lib.hid HX4.out⟩
            case round =>
              obtain ⟨l, rfl, hl1, hl2, HF, HXR⟩ := hrel
              by_cases hlt2 : l + 1 < i
              · obtain ⟨sn, hsn⟩ : ∃ sn, st[l + 1]? = some sn := ⟨_, List.getElem?_eq_getElem (by omega)⟩
                obtain ⟨ad5, c5, vl5, vf5, A5, B5, k5, m5, t1, t2, t3, t4, t5, t6, t7, t8, t9, tI, _⟩ := (H.out.ext HXR.out).stack hsn hsn
                have HTI := Lib.hid tI
                have t8 : wr.cell? ⟨ad5.block, ad5.off + (l + 1), none⟩ = some (.slice A5 sn.length k5) := by simpa [Addr.add] using t8
                have HSN : Hid (st.getD (l + 1) [] = sn) := Lib.hid (by rw [List.getD_eq_getElem?_getD, hsn]; rfl)
                have hlt3 : (l : Int) + 1 < (i : Int) := by omega
                have hlt4 : (l : Int) + 1 < (st.length : Int) := by omega
                have hlt5 : (0 : Int) ≤ (l : Int) + 1 := by omega
                have hlt6 : ((l : Int) + 1).toNat = l + 1 := by omega
                have HLT := Lib.hid hlt2
                clear hsn t5 t6 t9 tI
                go_wp2_with fail
                refine (containsI_any _ sn j _ ⟨_, _, rfl, HTI.out⟩).mono ?_
                rintro e w6 ⟨rfl, hx6⟩
                have HX6 := Lib.hid (HXR.out.trans hx6)
                clear hx6
                cases hM : decide ((j : Int) ∈ sn)
                case true =>
                  have HM := Lib.hid hM
                  clear hM
                  go_wp2_with fail
                  go_roundw
                  case rel =>
                    refine ⟨l + 1, by go_num, by omega, HLT.out, Lib.hid ?_, Lib.hid HX6.out⟩
                    obtain ⟨f, hf1, hf2⟩ := HF.out
                    cases f with
                    | zero => omega
                    | succ f =>
                      refine ⟨f, by omega, ?_⟩
                      rw [← hf2]
                      conv => rhs; unfold lastF
                      rw [HSN.out, HM.out, decide_eq_true HLT.out]
                      rfl
                  case measure => simp [intOf]; omega
                case false =>
                  have HM := Lib.hid hM
                  clear hM t1 t2 t3 t4 t7 t8
                  have HFL : Hid (lastL st j i = l) := Lib.hid (by
                    obtain ⟨f, hf1, hf2⟩ := HF.out
                    rw [← hf2]
                    cases f with
                    | zero => rfl
                    | succ f => unfold lastF; rw [HSN.out, HM.out, Bool.and_false]; rfl)
                  obtain ⟨sl, hsl⟩ : ∃ sl, st[l]? = some sl := ⟨_, List.getElem?_eq_getElem (by omega)⟩
                  obtain ⟨fl, hfl⟩ : ∃ fl, fs[l]? = some fl := ⟨_, List.getElem?_eq_getElem (by omega)⟩
                  have hlf : l < fs.length := by omega
                  have hls : l < st.length := by omega
                  obtain ⟨ad3, c3, vl3, vf3, A3, B3, k3, m3, p1, p2, p3, p4, p5, p6, p7, p8, p9, pI, _⟩ := (H.out.ext HX6.out).stack hsl hsl
                  obtain ⟨ad4, c4, vl4, vs4, A4, k4, o1, o2, o3, o4, o5, o6, o7, o8, o9⟩ := (H.out.ext HX6.out).form hfl
                  have HF4 := Lib.hid o9
                  have HGS : Hid (st.getD (lastL st j i) [] = sl) := Lib.hid (by rw [HFL.out, List.getD_eq_getElem?_getD, hsl]; rfl)
                  have HGF : Hid (fs.getD (lastL st j i) [] = fl) := Lib.hid (by rw [HFL.out, List.getD_eq_getElem?_getD, hfl]; rfl)
                  have hli0 : (0 : Int) ≤ (l : Int) := by omega
                  have hli1 : (l : Int) < (st.length : Int) := by omega
                  have hli2 : (l : Int) < (fs.length : Int) := by omega
                  clear hsl hfl p5 p6 p9 pI o5 o7 o9
                  by_cases hfin : sl.length = lv + 1
                  · have HL2 := Lib.hid hfin
                    rw [hfin] at p8
                    clear hfin
                    go_wp2_with fail
                    go_quiet (fail)
                    go_wp2_with fail
                    go_ret3
                    exact SubPost.yes ⟨⟨HE.out, of_decide_eq_false HC.out, List.length_eq_zero_iff.1 HBX.out, by rw [HGS.out, HLV.out]; exact HL2.out⟩⟩ rfl (HX6.out.drewN _) (by rw [HGF.out]; exact HF4.out.ext ((Ext.refl _).drewN _))
                  · have hd : ((sl.length : Int) != (lv : Int) + 1) = true := by simp; omega
                    have HL2 := Lib.hid hfin
                    clear hfin
                    go_wp2_with fail
                    go_ret3
                    exact SubPost.no (fun e => HL2.out (by have := e.all.2.2.2; rw [HGS.out, HLV.out] at this; exact this)) rfl HX6.out
              · clear HX4
                have HFL : Hid (lastL st j i = l) := Lib.hid (by
                  obtain ⟨f, hf1, hf2⟩ := HF.out
                  rw [← hf2]
                  cases f with
                  | zero => rfl
                  | succ f => unfold lastF; rw [decide_eq_false hlt2, Bool.false_and]; rfl)
                obtain ⟨sl, hsl⟩ : ∃ sl, st[l]? = some sl := ⟨_, List.getElem?_eq_getElem (by omega)⟩
                obtain ⟨fl, hfl⟩ : ∃ fl, fs[l]? = some fl := ⟨_, List.getElem?_eq_getElem (by omega)⟩
                have hlf : l < fs.length := by omega
                have hls : l < st.length := by omega
                obtain ⟨ad3, c3, vl3, vf3, A3, B3, k3, m3, p1, p2, p3, p4, p5, p6, p7, p8, p9, pI, _⟩ := (H.out.ext HXR.out).stack hsl hsl
                obtain ⟨ad4, c4, vl4, vs4, A4, k4, o1, o2, o3, o4, o5, o6, o7, o8, o9⟩ := (H.out.ext HXR.out).form hfl
                have HF4 := Lib.hid o9
                have HGS : Hid (st.getD (lastL st j i) [] = sl) := Lib.hid (by rw [HFL.out, List.getD_eq_getElem?_getD, hsl]; rfl)
                have HGF : Hid (fs.getD (lastL st j i) [] = fl) := Lib.hid (by rw [HFL.out, List.getD_eq_getElem?_getD, hfl]; rfl)
                have hli0 : (0 : Int) ≤ (l : Int) := by omega
                have hli1 : (l : Int) < (st.length : Int) := by omega
                have hli2 : (l : Int) < (fs.length : Int) := by omega
                clear hsl hfl p5 p6 p9 pI o5 o7 o9
                by_cases hfin : sl.length = lv + 1
                · have HL2 := Lib.hid hfin
                  rw [hfin] at p8
                  clear hfin
                  go_wp2_with fail
                  go_quiet (fail)
                  go_wp2_with fail
                  go_ret3
                  exact SubPost.yes ⟨⟨HE.out, of_decide_eq_false HC.out, List.length_eq_zero_iff.1 HBX.out, by rw [HGS.out, HLV.out]; exact HL2.out⟩⟩ rfl (HXR.out.drewN _) (by rw [HGF.out]; exact HF4.out.ext ((Ext.refl _).drewN _))
                · have hd : ((sl.length : Int) != (lv : Int) + 1) = true := by simp; omega
                  have HL2 := Lib.hid hfin
                  clear hfin
                  go_wp2_with fail
                  go_ret3
                  exact SubPost.no (fun e => HL2.out (by have := e.all.2.2.2; rw [HGS.out, HLV.out] at this; exact this)) rfl HXR.out
          · have hpos0 : 0 < (boxesL ls (si.drop lv)).length := by omega
            have HNE := Lib.hid (show ¬ SubGood ls st i j lv si sj from fun e => hbx (List.length_eq_zero_iff.2 e.all.2.2.1))
            clear hbx
            go_wp2_with fail
            go_ret3
            exact SubPost.no HNE.out rfl HX4.out
end Go.Proofs.YtdpblciohodgcaaDoor
