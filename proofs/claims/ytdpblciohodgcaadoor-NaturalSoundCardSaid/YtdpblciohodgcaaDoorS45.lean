/- The program's Valid, from what Sets says. -/
import Derived.Test.YtdpblciohodgcaaDoorS43
import Derived.Test.YtdpblciohodgcaaDoorS35
import Derived.Test.YtdpblciohodgcaaDoorS40
import Derived.Test.YtdpblciohodgcaaDoorS37
import Derived.Test.YtdpblciohodgcaaDoorS34
import Derived.Test.YtdpblciohodgcaaDoorS29
import Derived.Test.YtdpblciohodgcaaDoorS44
import Derived.Test.YtdpblciohodgcaaDoorS32
import Derived.LaidMore
import Derived.SevenTiedAt
import Derived.Stop.Joined
import Derived.Below

namespace Go.Proofs.YtdpblciohodgcaaDoor
open Go.RowKit

set_option maxRecDepth 100000 in
set_option maxHeartbeats 4000000 in
theorem pValid_of (HSS : SetsSaid) (vm v : Value) (md : Md) (f : List Nd) (w : World) (hm : MdV w vm md) (hok : md.ok) (h : Fml w v f) :
    Calls Tryd.prog 9 #[vm, v] w fun e w' => e = .returned (.tuple #[.bool (decide (chk17 md f = 0) && (((holdP md f : Nat) : Int) == ((allW md.n.toNat : Nat) : Int))), .int .i64 (chk17 md f)]) ∧ Ext w w' := by
  have HM := Lib.hid hm
  have HF := Lib.hid h
  have HS := Lib.hid (fun w hm h => pHolds_of HSS vm v md f w hm hok h)
  obtain ⟨vv, vr, rfl, hv, hr⟩ := hm
  obtain ⟨c1, hc1⟩ : ∃ z, z = chk17 md f := ⟨_, rfl⟩
  have HC1 := Lib.hid hc1
  rw [← hc1] at HS ⊢
  clear h hok HSS hv hr hc1
  by_cases h1 : c1 = 0
  · subst h1
    obtain ⟨hck, _, _, _⟩ := chk17_zero HC1.out.symm
    obtain ⟨hn1, hn64, _⟩ := checkM_zero hck
    obtain ⟨N, hNN⟩ := Int.eq_ofNat_of_zero_le (show 0 ≤ md.n by omega)
    have hNt : md.n.toNat = N := by rw [hNN]; exact Int.toNat_natCast N
    have hN64 : N ≤ 64 := by omega
    have HALL := Lib.hid (all_shr hN64)
    rw [hNt]
    rw [hNN] at HS HM ⊢
    obtain ⟨s, hs⟩ : ∃ s, s = holdP md f := ⟨_, rfl⟩
    rw [← hs] at HS ⊢
    clear hck hn1 hn64 hNN hNt hs
    go_enter Tryd.func9, Tryd.ntmps9
    go_wp2_with fail
    refine (HS.out _ (HM.out.ext ((Ext.refl w).alloc _)) (HF.out.ext ((Ext.refl w).alloc _))).mono ?_
    rintro e w2 ⟨rfl, hx⟩
    have HX := Lib.hid (((Ext.refl w).alloc _).trans hx)
    have c0 : w2.cell? ⟨w.heap.size, 0, none⟩ = some (.int .i64 (N : Int)) := (hx.cell (p := ⟨w.heap.size, 0, none⟩) (by simp)).trans (by simp)
    clear hx
    go_wp2_with fail
    go_ret2
    exact ⟨by rw [← HALL.out] <;> rfl, HX.out⟩
  · have hne : (c1 == 0) = false := by simpa using h1
    have hdc := decide_eq_false h1
    obtain ⟨q, hq⟩ : ∃ q, q = (if c1 = 0 then holdP md f else 0) := ⟨_, rfl⟩
    rw [← hq] at HS
    rw [hdc, Bool.false_and]
    clear h1 hq hdc
    go_enter Tryd.func9, Tryd.ntmps9
    go_wp2_with fail
    refine (HS.out _ (HM.out.ext ((Ext.refl w).alloc _)) (HF.out.ext ((Ext.refl w).alloc _))).mono ?_
    rintro e w2 ⟨rfl, hx⟩
    have HX := Lib.hid (((Ext.refl w).alloc _).trans hx)
    clear hx
    go_wp2_with fail
    go_ret2
    exact ⟨rfl, HX.out⟩
end Go.Proofs.YtdpblciohodgcaaDoor

/- The plain laws of SequentSound and SequentValid. -/

namespace Go.Proofs.YtdpblciohodgcaaDoor
open Go.RowKit

def meetP (md : Md) (l : List (List Nd)) (s : Nat) : Nat := l.foldl (fun s f => s &&& holdP md f) s
/-- A formula of the fragment of knowledge is refused for its agents and facts alone. -/
theorem chk_02 {md : Md} {f : List Nd} (hck : checkM md = 0) (hc : check f = 0) (hF : Few10 (compactN f)) : chk17 md f = 0 ∨ chk17 md f = 2 := by
  have hs : subS (fragsN f) 15 = true := by
    rw [subS_iff]
    intro i hi
    rcases frag_src (compactN f) 0 i hi with h | ⟨n, hn, h⟩
    · simp at h
    · have h10 := hF n hn
      have hcs : n.op = 1 ∨ n.op = 2 ∨ n.op = 3 ∨ n.op = 4 ∨ n.op = 5 ∨ n.op = 6 ∨ n.op = 7 ∨ n.op = 8 ∨ n.op = 9 ∨ n.op = 10 := by omega
      have hlt : (fragOf n.op).toNat < 2 ^ 1 := by rcases hcs with e | e | e | e | e | e | e | e | e | e <;> rw [e] <;> decide
      have hi0 := bit_lt hlt h
      obtain rfl : i = 0 := by omega
      decide
  unfold chk17
  rw [if_neg (by rw [hck]; simp), if_neg (by rw [hc]; simp), if_neg (by rw [hs]; simp)]
  split
  · exact .inr rfl
  · exact .inl rfl
end Go.Proofs.YtdpblciohodgcaaDoor

/- ref13.Few. -/

namespace Go.Proofs.YtdpblciohodgcaaDoor
open Go.RowKit

theorem cells3y {w : World} {b : Nat} {a0 a1 a2 : Value} {t : TypeId} (h : w.heap[b]? = some (.cells #[a0, a1, a2] t (0, 0))) : w.cell? ⟨b, 0, none⟩ = some a0 ∧ w.cell? ⟨b, 1, none⟩ = some a1 ∧ w.cell? ⟨b, 2, none⟩ = some a2 ∧ b < w.heap.size :=
  ⟨by simp [World.cell?, h], by simp [World.cell?, h], by simp [World.cell?, h], lt_heap h⟩
set_option maxRecDepth 100000 in
set_option maxHeartbeats 8000000 in
theorem few13_any (v : Value) (md : Md) (z : Int) (w : World) (h : MdV w v md) :
    Calls Tryd.prog 5 #[v, .int .i64 z] w fun e w' => ∃ b, e = .returned (.bool b) ∧ Ext w w' := by
  obtain ⟨vv, vr, rfl, hv, hr⟩ := h
  obtain ⟨Av, cv, rfl, _⟩ := hv
  obtain ⟨Ar, cr, rfl, _, _, HR⟩ := u64ss_at hr
  obtain ⟨n, hn⟩ : ∃ n, n = md.n := ⟨_, rfl⟩
  rw [← hn]
  clear hr hn
  by_cases h1 : z < n ∧ n ≤ 64
  · obtain ⟨h2, h3⟩ := h1
    go_enter Tryd.func5, Tryd.ntmps5
    go_wp2_with fail
    go_ret
    first | exact ⟨_, rfl, (Ext.refl _).alloc _⟩ | exact ⟨.inl rfl, (Ext.refl _).alloc _⟩ | exact ⟨.inr rfl, (Ext.refl _).alloc _⟩
  obtain ⟨t, ht⟩ : ∃ t, t = decide (z < n) := ⟨_, rfl⟩
  by_cases hz : z < n
  all_goals
    (try have h64 : ¬ n ≤ 64 := fun e => h1 ⟨hz, e⟩)
    clear h1 ht
    by_cases hv20 : 20 < md.val.length
    · have hi : (20 : Int) < (md.val.length : Int) := by omega
      go_enter Tryd.func5, Tryd.ntmps5
      go_wp2_with fail
      go_ret
      first | exact ⟨_, rfl, (Ext.refl _).alloc _⟩ | exact ⟨.inl rfl, (Ext.refl _).alloc _⟩ | exact ⟨.inr rfl, (Ext.refl _).alloc _⟩
    have hi20 : ¬ (20 : Int) < (md.val.length : Int) := by omega
    by_cases hr10 : 10 < md.rel.length
    · have hi : (10 : Int) < (md.rel.length : Int) := by omega
      go_enter Tryd.func5, Tryd.ntmps5
      go_wp2_with fail
      go_ret
      first | exact ⟨_, rfl, (Ext.refl _).alloc _⟩ | exact ⟨.inl rfl, (Ext.refl _).alloc _⟩ | exact ⟨.inr rfl, (Ext.refl _).alloc _⟩
    have hi10 : ¬ (10 : Int) < (md.rel.length : Int) := by omega
    generalize md.rel = rl at *
    generalize md.val.length = vl at *
    go_enter Tryd.func5, Tryd.ntmps5
    go_upto_region 3 with (fail)
    obtain ⟨W0, hW0⟩ : ∃ W, W = w.alloc (.cells #[.int .i64 n, .slice Av vl cv, .slice Ar rl.length cr] 28) := ⟨_, rfl⟩
    have HX0 := Lib.hid (show Ext w W0 by rw [hW0]; exact (Ext.refl _).alloc _)
    have HB := Lib.hid (show W0.heap[w.heap.size]? = some (.cells #[.int .i64 n, .slice Av vl cv, .slice Ar rl.length cr] 28 (0, 0)) by rw [hW0]; exact heap_alloc_new _ _)
    rw [← hW0]
    clear hW0
    obtain ⟨b, hb⟩ : ∃ b, b = w.heap.size := ⟨_, rfl⟩
    rw [← hb] at HB ⊢
    clear hb
    go_wp2_with fail
    go_loopw [5] (fun v wr => ∃ k : Nat, v = .int .i64 (k : Int) ∧ k ≤ rl.length ∧ Hid (Ext W0 wr)) (fun v _ => rl.length - (intOf v).toNat)
    case atStart => exact ⟨0, rfl, Nat.zero_le _, Lib.hid (Ext.refl _)⟩
    case round =>
      obtain ⟨k, rfl, hk, HX⟩ := hrel
      obtain ⟨e0, e1, e2, eb⟩ := cells3y ((HX.out.block (lt_heap HB.out)).trans HB.out)
      by_cases hlt2 : k < rl.length
      · have hk1 : (k : Int) < (rl.length : Int) := by omega
        obtain ⟨ad, u, rfl, hadl, hc, hu⟩ := HR.out k hlt2
        obtain ⟨Au, cu, rfl, _⟩ := hu
        have a0 := ((HX0.out.trans HX.out).cell (p := ad.add k) (by rw [block_of_add]; exact hadl)).trans hc
        have al : (ad.add k).block < wr.heap.size := by rw [block_of_add]; exact Nat.lt_of_lt_of_le hadl (HX0.out.trans HX.out).size
        generalize (rl.getD k []).length = q at a0
        clear hc
        by_cases hq : 70 < q
        · have hq1 : (70 : Int) < (q : Int) := by omega
          go_wp2_with fail
          go_ret
          first | exact ⟨_, rfl, HX0.out.trans HX.out⟩ | exact ⟨.inl rfl, HX0.out.trans HX.out⟩ | exact ⟨.inr rfl, HX0.out.trans HX.out⟩
        · have hq1 : ¬ (70 : Int) < (q : Int) := by omega
          go_wp2_with fail
          go_roundw
          case rel => exact ⟨k + 1, by go_num, by omega, HX⟩
          case measure => simp [intOf]; omega
      · obtain rfl : rl.length = k := by omega
        go_wp2_with fail
        go_ret
        first | exact ⟨_, rfl, HX0.out.trans HX.out⟩ | exact ⟨.inl rfl, HX0.out.trans HX.out⟩ | exact ⟨.inr rfl, HX0.out.trans HX.out⟩
end Go.Proofs.YtdpblciohodgcaaDoor

/- The law NaturalSound. -/

namespace Go.Proofs.YtdpblciohodgcaaDoor
open Go.RowKit

theorem nat_valid {md : Md} {lg : Int} {ls : List Ln} (hg : GoodM md lg) (h : (natTheorem lg ls).2 = 0) (hc : chk17 md (natTheorem lg ls).1 = 0) {i : Nat} (hi : i < md.n.toNat) : (holdP md (natTheorem lg ls).1).testBit i = true := by
  obtain ⟨_, hF, hs⟩ := nat_sound (M := kmOf md) (kmOf_in hg) h (⟨i, hi⟩ : Fin md.n.toNat)
  exact (holdP_is hc hF ⟨i, hi⟩).2 hs
theorem cells2n {w : World} {b : Nat} {a0 a1 : Value} {t : TypeId} (h : w.heap[b]? = some (.cells #[a0, a1] t (0, 0))) : w.cell? ⟨b, 0, none⟩ = some a0 ∧ w.cell? ⟨b, 1, none⟩ = some a1 ∧ b < w.heap.size :=
  ⟨by simp [World.cell?, h], by simp [World.cell?, h], lt_heap h⟩
set_option maxRecDepth 100000 in
set_option maxHeartbeats 64000000 in
theorem natSound_any {w : World} {lg : Int} {vl vm : Value} {ls : List Ln} {md : Md} (hl : Lns w vl ls) (hm : MdV w vm md) (hok : md.ok) (hT : Tab w) (hZ : TabZ w) :
    Calls Tryd.prog 3 #[.agg #[.int .i64 lg, vl], vm] w fun e w' => e = .returned (.bool true) ∧ Ext w w' := by
  have HL := Lib.hid hl
  have HM := Lib.hid hm
  have HMOK := Lib.hid hok
  have HT := Lib.hid hT
  have HZ := Lib.hid hZ
  obtain ⟨Al, cl, rfl, _⟩ := hl
  obtain ⟨vv, vr, rfl, ⟨Av, cv, rfl, _⟩, ⟨Ar, cr, rfl, _⟩⟩ := hm
  obtain ⟨fw, hfw⟩ : ∃ z, z = fewL ls := ⟨_, rfl⟩
  have HFW := Lib.hid hfw
  have X0 := Lib.hid (show Ext w ((w.alloc (.cells #[.int .i64 lg, .slice Al ls.length cl] 24)).alloc (.cells #[.int .i64 md.n, .slice Av md.val.length cv, .slice Ar md.rel.length cr] 28)) from ((Ext.refl _).alloc _).alloc _)
  have BP := Lib.hid (show ((w.alloc (.cells #[.int .i64 lg, .slice Al ls.length cl] 24)).alloc (.cells #[.int .i64 md.n, .slice Av md.val.length cv, .slice Ar md.rel.length cr] 28)).heap[w.heap.size]? = some (.cells #[.int .i64 lg, .slice Al ls.length cl] 24 (0, 0)) from (((Ext.refl (w.alloc (.cells #[.int .i64 lg, .slice Al ls.length cl] 24))).alloc _).block (by simp)).trans (heap_alloc_new _ _))
  have BM := Lib.hid (show ((w.alloc (.cells #[.int .i64 lg, .slice Al ls.length cl] 24)).alloc (.cells #[.int .i64 md.n, .slice Av md.val.length cv, .slice Ar md.rel.length cr] 28)).heap[w.heap.size + 1]? = some (.cells #[.int .i64 md.n, .slice Av md.val.length cv, .slice Ar md.rel.length cr] 28 (0, 0)) by
    have h1 := heap_alloc_new (w.alloc (.cells #[.int .i64 lg, .slice Al ls.length cl] 24)) (.cells #[.int .i64 md.n, .slice Av md.val.length cv, .slice Ar md.rel.length cr] 28)
    rw [World.size_alloc] at h1
    exact h1)
  have BPL := Lib.hid (lt_heap BP.out)
  have BML := Lib.hid (lt_heap BM.out)
  obtain ⟨eg, heg⟩ : ∃ z, z = (natTheorem lg ls).2 := ⟨_, rfl⟩
  have HEG := Lib.hid heg
  obtain ⟨f, hf⟩ : ∃ z, z = (natTheorem lg ls).1 := ⟨_, rfl⟩
  have HF := Lib.hid hf
  clear hok hT hZ hfw heg hf
  go_enter Tryd.func3, Tryd.ntmps3
  go_wp2_with fail
  refine (few_any (lg := lg) (HL.out.ext X0.out)).mono ?_
  rintro e w1 ⟨rfl, hx⟩
  rw [← HFW.out]
  have Y1 := Lib.hid (show Ext ((w.alloc (.cells #[.int .i64 lg, .slice Al ls.length cl] 24)).alloc (.cells #[.int .i64 md.n, .slice Av md.val.length cv, .slice Ar md.rel.length cr] 28)) w1 from hx)
  clear hx
  obtain ⟨z0, z1, zl⟩ := cells2n ((Y1.out.block BPL.out).trans BP.out)
  obtain ⟨n0, n1, n2, nl⟩ := cells3p ((Y1.out.block BML.out).trans BM.out)
  cases fw
  · skip
    go_wp2_with fail
    refine (awake_any (HT.out.ext (X0.out.trans Y1.out))).mono ?_
    rintro e wt ⟨rfl, hxt⟩
    have YT := Lib.hid (Y1.out.trans hxt)
    clear hxt
    go_wp2_with fail
    go_ret
    exact ⟨rfl, X0.out.trans YT.out⟩
  · go_wp2_with fail
    refine (few13_any _ md 8 _ (HM.out.ext (X0.out.trans Y1.out))).mono ?_
    rintro e w2 ⟨fb, rfl, hx⟩
    have Y2 := Lib.hid (Y1.out.trans hx)
    clear hx z0 z1 zl n0 n1 n2 nl
    obtain ⟨z0, z1, zl⟩ := cells2n ((Y2.out.block BPL.out).trans BP.out)
    obtain ⟨n0, n1, n2, nl⟩ := cells3p ((Y2.out.block BML.out).trans BM.out)
    cases fb
    · skip
      go_wp2_with fail
      refine (awake_any (HT.out.ext (X0.out.trans Y2.out))).mono ?_
      rintro e wt ⟨rfl, hxt⟩
      have YT := Lib.hid (Y2.out.trans hxt)
      clear hxt
      go_wp2_with fail
      go_ret
      exact ⟨rfl, X0.out.trans YT.out⟩
    · go_wp2_with fail
      refine (natTheorem_any (lg := lg) (HL.out.ext (X0.out.trans Y2.out)) (HT.out.ext (X0.out.trans Y2.out))).mono ?_
      rintro e w3 ⟨u, rfl, hx, hfm⟩
      rw [← HEG.out]
      rw [← HF.out] at hfm
      have Y3 := Lib.hid (Y2.out.trans hx)
      have HFM := Lib.hid hfm
      clear hx z0 z1 zl n0 n1 n2 nl hfm
      obtain ⟨z0, z1, zl⟩ := cells2n ((Y3.out.block BPL.out).trans BP.out)
      obtain ⟨n0, n1, n2, nl⟩ := cells3p ((Y3.out.block BML.out).trans BM.out)
      by_cases hg : eg = 0
      · subst hg
        obtain ⟨ib, hib⟩ : ∃ z, z = inG md lg := ⟨_, rfl⟩
        have HIB := Lib.hid hib
        clear hib
        go_wp2_with fail
        refine (inG_any _ md lg _ (HZ.out.ext (X0.out.trans Y3.out)) (HM.out.ext (X0.out.trans Y3.out)) HMOK.out).mono ?_
        rintro e w4 ⟨rfl, hx⟩
        rw [← HIB.out]
        have Y4 := Lib.hid (Y3.out.trans hx)
        have HF4 := Lib.hid (HFM.out.ext hx)
        clear hx z0 z1 zl n0 n1 n2 nl
        obtain ⟨z0, z1, zl⟩ := cells2n ((Y4.out.block BPL.out).trans BP.out)
        obtain ⟨n0, n1, n2, nl⟩ := cells3p ((Y4.out.block BML.out).trans BM.out)
        cases ib
        · skip
          go_wp2_with fail
          refine (awake_any (HT.out.ext (X0.out.trans Y4.out))).mono ?_
          rintro e wt ⟨rfl, hxt⟩
          have YT := Lib.hid (Y4.out.trans hxt)
          clear hxt
          go_wp2_with fail
          go_ret
          exact ⟨rfl, X0.out.trans YT.out⟩
        · obtain ⟨hck, hgm⟩ := inG_good HIB.out.symm
          have HCK := Lib.hid hck
          have HGM := Lib.hid hgm
          obtain ⟨hcf, hF10, -⟩ := nat_sound (M := kmOf md) (kmOf_in hgm) HEG.out.symm ⟨0, by obtain ⟨h1, _⟩ := checkM_zero hck; show 0 < md.n.toNat; omega⟩
          have HC02 := Lib.hid (chk_02 hck hcf hF10)
          rw [← HF.out] at HC02
          obtain ⟨g, hgg⟩ : ∃ z, z = chk17 md f := ⟨_, rfl⟩
          have HGG := Lib.hid hgg
          obtain ⟨Af, cf, rfl, _⟩ := fml_slice HFM.out
          clear hck hgm hcf hF10 hgg
          go_wp2_with fail
          refine (pValid_of sets_said _ _ md f _ (HM.out.ext (X0.out.trans Y4.out)) HMOK.out HF4.out).mono ?_
          rintro e w5 ⟨rfl, hx⟩
          rw [← HGG.out]
          have Y5 := Lib.hid (Y4.out.trans hx)
          clear hx z0 z1 zl n0 n1 n2 nl
          by_cases hg2 : g = 2
          · subst hg2
            rw [show (decide ((2 : Int) = 0) && (((holdP md f : Nat) : Int) == ((allW md.n.toNat : Nat) : Int))) = false by rfl]
            go_wp2_with fail
            refine (awake_any (HT.out.ext (X0.out.trans Y5.out))).mono ?_
            rintro e wt ⟨rfl, hxt⟩
            have YT := Lib.hid (Y5.out.trans hxt)
            clear hxt
            go_wp2_with fail
            go_ret
            exact ⟨rfl, X0.out.trans YT.out⟩
          · have hg0 : g = 0 := by
              rcases HC02.out with h | h
              · rw [HGG.out]; exact h
              · exact absurd (by rw [HGG.out]; exact h) hg2
            subst hg0
            have hall : holdP md f = allW md.n.toNat := all_eq (holdP_low HCK.out f) (fun i hi => by
              have h1 := nat_valid HGM.out HEG.out.symm (by rw [← HF.out]; exact HGG.out.symm) hi
              rw [← HF.out] at h1
              exact h1)
            rw [show (decide ((0 : Int) = 0) && (((holdP md f : Nat) : Int) == ((allW md.n.toNat : Nat) : Int))) = true by rw [hall]; simp]
            clear hall hg2
            go_wp2_with fail
            refine (awake_any (HT.out.ext (X0.out.trans Y5.out))).mono ?_
            rintro e wt ⟨rfl, hxt⟩
            have YT := Lib.hid (Y5.out.trans hxt)
            clear hxt
            go_wp2_with fail
            go_ret
            exact ⟨rfl, X0.out.trans YT.out⟩
      · have hge : (eg != 0) = true := by simpa using hg
        clear hg
        go_wp2_with fail
        refine (awake_any (HT.out.ext (X0.out.trans Y3.out))).mono ?_
        rintro e wt ⟨rfl, hxt⟩
        have YT := Lib.hid (Y3.out.trans hxt)
        clear hxt
        go_wp2_with fail
        go_ret
        exact ⟨rfl, X0.out.trans YT.out⟩
end Go.Proofs.YtdpblciohodgcaaDoor

/- NaturalSound: what is proved in a logic holds at all worlds of a model of the logic: for every proof and model. The row, and its tied card. -/

namespace Go.Proofs.YtdpblciohodgcaaDoor
open Go.ChangeShapes Go.WideShapes Go.ChangeAt Go.RowKit Go.Joins

theorem laidOutP : laidOutB Tryd.prog = true := by kernel_rfl
theorem own : ownKnob Tryd.prog.godebug = none := by kernel_rfl
theorem door_met (os : Os) (args : Array Value) : laidMetH Tryd.prog [("witting/natural.table", Rows.laid_witting_natural_table), ("math/bits.deBruijn64tab", Rows.laid_math_bits_deBruijn64tab)] ((World.doorLaid Tryd.prog 600 os).forCall (fun _ _ => 0) ⟨#[], args, []⟩).memory := by
  exact laidMetH_of_parts3 (fuel := 8) (laidMet_of_run' 8 (by kernel_rfl) (by kernel_rfl)) (by kernel_rfl) (by kernel_rfl)
set_option maxRecDepth 100000 in
theorem naturalSound_lifted (os : Os) (started : os.Started) (H : Type) (enc : TypeId × Value → H) :
    ReturnsInHanded {} Tryd.checked os 3 .any (fun w args => (Rows.naturalSoundSpec.pre enc Tryd.prog Tryd.f3 [] false w args ∧ laidMetH Tryd.prog [("witting/natural.table", Rows.laid_witting_natural_table), ("math/bits.deBruijn64tab", Rows.laid_math_bits_deBruijn64tab)] w) ∧ sizedMet enc Tryd.prog Tryd.f3 (OpenSpec.ofChange Rows.naturalSoundSpec) false w args)
      (Rows.naturalSoundSpec.post enc Tryd.prog Tryd.f3 false true false false) := by
  refine returnsInHanded_of_change_and (C := Tryd.checked) (X := fun w _ => laidMetH Tryd.prog [("witting/natural.table", Rows.laid_witting_natural_table), ("math/bits.deBruijn64tab", Rows.laid_math_bits_deBruijn64tab)] w) (fun _ _ _ hh h => h.of_heap hh) own started (by kernel_rfl) Tryd.func3
    (ChangeSpec.witness_shaped (enc := enc) (C := Tryd.checked) (os := os) (X := fun w _ => laidMetH Tryd.prog [("witting/natural.table", Rows.laid_witting_natural_table), ("math/bits.deBruijn64tab", Rows.laid_math_bits_deBruijn64tab)] w) false (World.doorLaid Tryd.prog 600 os) #[.agg #[.int .i64 0, .slice none 0 0], .agg #[.int .i64 0, .slice none 0 0, .slice none 0 0]] 8 rfl (World.shaped_of_RefB (by kernel_rfl) (by kernel_rfl)) (by kernel_rfl) (by kernel_rfl) (by kernel_rfl) (door_met os _)) ?_
  intro W base args ds gs before hval0 hW _ _ hL _
  have hval : ∀ (j : Nat) t v, Tryd.f3.params[j]? = some t → args[j]? = some v → Value.okWide Tryd.prog W .any base t v := hval0
  have hTAB := tab_of_laid hL (List.mem_cons_self ..)
  have hTZ := tabz_of_laid (by have h1 := hL.filter (fun x => x.1 == "math/bits.deBruijn64tab"); exact h1)
  have hW' := hW
  obtain ⟨p, q, hA0, hV, rfl, hfz, hnd⟩ := hW
  have hA : DataW.TrodAll enc Tryd.prog W 0 (fun _ => true) true Tryd.f3.params.toList args.toList ds p := hA0
  rw [Tryd.params3] at hA hval
  obtain ⟨v0, vs0, d0, ds0, p0, q0, hargs, rfl, rfl, h0, r0⟩ := trodAll_cons hA
  obtain ⟨v1, vs1, d1, ds1, p1, q1, rfl, rfl, rfl, h1, r1⟩ := trodAll_cons r0
  obtain ⟨rfl, rfl, rfl⟩ := trodAll_nil r1
  obtain rfl : args = #[v0, v1] := by cases args; simp_all
  obtain ⟨rfl, rfl⟩ := trodVars_none hV
  obtain ⟨u0a, u0b, y0a, y0b, n0, rfl, hd0, hp0, t0a, t0b⟩ := open_agg2 Tryd.underlying24 (by kernel_rfl) (by kernel_rfl) (hval 0 24 v0 rfl rfl) h0
  obtain ⟨lg0, rfl, _⟩ := int_of_trod t0a
  obtain ⟨ls0, hls0⟩ := lns_of_trod t0b
  obtain ⟨md1, hm1, mo1⟩ := md_of_arg (hval 1 28 v1 rfl rfl) h1
  simp only [List.append_nil] at hW'
  clear hA0 hval0
  refine (natSound_any (lg := lg0) hls0 hm1 mo1 hTAB hTZ).mono ?_
  rintro e W' ⟨rfl, hx⟩
  have hlt : ∀ x ∈ p0 ++ p1, x.block < W.heap.size := fun x hx' => hW'.lt x hx'
  refine ⟨_, rfl, post_of_below (pa := p0 ++ p1) (pv := []) hW' (fun _ _ _ => trodAll_mk1 (shut_bool Tryd.underlying4 _)) (fun sp hsp => ?_) (fun _ _ => rfl) (by simp) hx (ok_one (by kernel_rfl) rfl (okWide_bool_mk Tryd.underlying4 _))⟩
  have ht := (trodAll_cons_mk (WideElems.Trod_stays laidOutP (by kernel_rfl) (of_decide_eq_true (by kernel_rfl)) h0 (fun x hx' => hx.same (hlt x (List.mem_append.2 (Or.inl hx')))) (fun x hx' => hsp x (List.mem_append.2 (Or.inl hx')))) (trodAll_cons_mk (WideElems.Trod_stays laidOutP (by kernel_rfl) (of_decide_eq_true (by kernel_rfl)) h1 (fun x hx' => hx.same (hlt x (List.mem_append.2 (Or.inr hx')))) (fun x hx' => hsp x (List.mem_append.2 (Or.inr hx')))) trodAll_mk0))
  simp only [List.append_nil] at ht
  exact ht
theorem naturalSound_said : Rows.NaturalSoundSaid :=
  OpenClaim.holds_of_wide 3 Tryd.f3 rfl rfl rfl rfl rfl rfl rfl ⟨rfl, rfl, rfl, rfl, rfl⟩ rfl rfl rfl rfl rfl (by kernel_rfl) Tryd.func3 (by kernel_rfl)
    (of_decide_eq_true (by kernel_rfl)) (by unfold Func.isWrapper; first | (rw [if_pos (by decide +kernel)]; kernel_rfl) | (rw [if_neg (by decide +kernel)]; exact ⟨rfl, rfl⟩))
    (fun os started H enc _ => naturalSound_lifted os started H enc)
theorem naturalSound_plain (f : FuncId) (fn : Func) (hf : Tryd.pinned.checked.prog.funcNamed "witting/wittinglaw50.NaturalSound" = some f) (hfn : Tryd.pinned.checked.prog.funcs[f]? = some fn) :
    false = Tryd.pinned.checked.prog.looks [] ∧ ∀ (j : Nat) t, fn.params[j]? = some t → Tryd.pinned.checked.prog.wantsStandIn t = false := by
  obtain rfl : f = 3 := Option.some.inj ((show Tryd.prog.funcNamed "witting/wittinglaw50.NaturalSound" = some 3 by kernel_rfl).symm.trans hf) |>.symm
  obtain rfl : fn = Tryd.f3 := (Option.some.inj (Tryd.func3.symm.trans hfn)).symm
  refine ⟨by kernel_rfl, fun j t ht => ?_⟩
  rw [Tryd.params3] at ht
  have hm : t ∈ #[(24 : TypeId), (28 : TypeId)] := Array.mem_of_getElem? ht
  simp only [List.mem_toArray, List.mem_cons, List.not_mem_nil, or_false] at hm
  rcases hm with rfl | rfl
  · exact (show Tryd.prog.wantsStandIn 24 = false by kernel_rfl)
  · exact (show Tryd.prog.wantsStandIn 28 = false by kernel_rfl)
/-- The card. -/
theorem naturalSound_card : Rows.NaturalSoundCardSaid :=
  Claim7.holds_tied_plain_at .later [] _ _ _ _ naturalSound_said (fun _ h => by cases h) (by kernel_rfl) (fun _ h => by cases h) naturalSound_row_tie rfl ⟨rfl, rfl⟩ (by kernel_rfl) rfl naturalSound_plain (by kernel_rfl)
end Go.Proofs.YtdpblciohodgcaaDoor
