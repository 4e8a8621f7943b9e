/- The law SequentParts. -/
import Derived.Test.YtfcmdiigfgbgbaaGreatL9
import Derived.Test.YtfcmdiigfgbgbaaGreatGP
import Derived.OrdersHeld
import Derived.Test.YtfcmdiigfgbgbaaGreatGF1
import Derived.Test.YtfcmdiigfgbgbaaGreatGR

namespace Go.Proofs.YtfcmdiigfgbgbaaGreat
open Go.RowKit

set_option maxRecDepth 100000 in
set_option maxHeartbeats 8000000 in
theorem parts_any {w : World} {vb : Value} {base : List Nd} (set : Nat) (hset : set < 18446744073709551616) (a b d : Int) (hb : Fml w vb base) :
    Calls Tryz.prog 4 #[vb, .int .u64 (set : Int), .agg #[.int .i64 a, .int .i64 b, .int .i64 d]] w fun e w' => e = .returned (.bool true) ∧ Ext w w' := by
  have H := Lib.hid hb
  obtain ⟨Ab, cb, rfl, _⟩ := fml_slice hb
  clear hb
  obtain ⟨⟨z0, z1, z2⟩, zlt⟩ : ((w.alloc (.cells #[.int .i64 a, .int .i64 b, .int .i64 d] 30)).cell? ⟨w.heap.size, 0, none⟩ = some (.int .i64 a) ∧ (w.alloc (.cells #[.int .i64 a, .int .i64 b, .int .i64 d] 30)).cell? ⟨w.heap.size, 1, none⟩ = some (.int .i64 b) ∧ (w.alloc (.cells #[.int .i64 a, .int .i64 b, .int .i64 d] 30)).cell? ⟨w.heap.size, 2, none⟩ = some (.int .i64 d)) ∧ w.heap.size < (w.alloc (.cells #[.int .i64 a, .int .i64 b, .int .i64 d] 30)).heap.size := ⟨⟨cell_block (heap_alloc_new _ _) rfl, cell_block (heap_alloc_new _ _) rfl, cell_block (heap_alloc_new _ _) rfl⟩, by simp⟩
  have Z := Lib.hid (And.intro z0 (And.intro z1 z2))
  have ZLT := Lib.hid zlt
  have X0 := Lib.hid ((Ext.refl w).alloc (.cells #[.int .i64 a, .int .i64 b, .int .i64 d] 30))
  clear z0 z1 z2 zlt
  by_cases hl : 70 < base.length
  · have hl1 : (70 : Int) < (base.length : Int) := by omega
    go_enter Tryz.func4, Tryz.ntmps4
    go_wp2_with fail
    refine (awake_any _).mono ?_
    rintro e w1 ⟨rfl, hx⟩
    have Y1 := Lib.hid (X0.out.trans hx)
    clear hx
    go_wp2_with fail
    refine (awake_any _).mono ?_
    rintro e w2 ⟨rfl, hx⟩
    have Y2 := Lib.hid (Y1.out.trans hx)
    clear hx
    go_wp2_with fail
    go_ret
    exact ⟨rfl, Y2.out⟩
  · have hl1 : ¬ (70 : Int) < (base.length : Int) := by omega
    go_enter Tryz.func4, Tryz.ntmps4
    go_wp2_with fail
    refine (awake_any _).mono ?_
    rintro e w1 ⟨rfl, hx⟩
    have Y1 := Lib.hid (X0.out.trans hx)
    have n0 := (hx.cell (p := ⟨w.heap.size, 0, none⟩) ZLT.out).trans Z.out.1
    have n1 := (hx.cell (p := ⟨w.heap.size, 1, none⟩) ZLT.out).trans Z.out.2.1
    have n2 := (hx.cell (p := ⟨w.heap.size, 2, none⟩) ZLT.out).trans Z.out.2.2
    have nlt := Nat.lt_of_lt_of_le ZLT.out hx.size
    clear hx
    go_wp2_with fail
    refine wp_region_held_drew (S := fun w' => w'.cell? (⟨w.heap.size, 0, none⟩) = some (.int .i64 a) ∧ w'.cell? (⟨w.heap.size, 1, none⟩) = some (.int .i64 b) ∧ w'.cell? (⟨w.heap.size, 2, none⟩) = some (.int .i64 d)) (by kernel_rfl) ⟨xc nlt n0, xc nlt n1, xc nlt n2⟩ (fun hHeld => ?_)
    refine tk 0 hHeld ?_
    refine tk 1 hHeld ?_
    refine tk 2 hHeld ?_
    refine tk 4 hHeld ?_
    refine tk 5 hHeld ?_
    refine tk 6 hHeld ?_
    refine wpAnyH_ready (rs := [3]) (by kernel_rfl) (by simp) ?_
    refine AllReadyH.cons rfl (fun K hK => ?_) AllReadyH.nil
    go_simp
    (go_at_call 11; refine (Negation_any _ base a _ (H.out.ext (Y1.out.trans xw))).mono ?_; rintro e2 w3 ⟨rfl, hv⟩; have hx3 : Ext w1 w3 := xt hv; clear hv)
    go_wp2_with fail
    refine hK.out _ _ ⟨xc nlt n0, xc nlt n1, xc nlt n2⟩ (fun hHeld => ?_)
    clear hK K
    try simp only [Act.put, List.setIfInBounds_toArray, List.set_cons_zero, List.set_cons_succ, List.getElem_toArray, List.getElem_cons_succ, List.getElem_cons_zero]
    refine wpAnyH_ready (rs := [7]) (by kernel_rfl) (by simp) ?_
    refine AllReadyH.cons rfl (fun K hK => ?_) AllReadyH.nil
    go_simp
    (go_at_call 12; refine (rNegation_any _ base a _ (H.out.ext (Y1.out.trans xw))).mono ?_; rintro e2 w4 ⟨rfl, hv⟩; have hx4 : Ext w1 w4 := xt hv; clear hv)
    go_wp2_with fail
    refine hK.out _ _ ⟨xc nlt n0, xc nlt n1, xc nlt n2⟩ (fun hHeld => ?_)
    clear hK K
    try simp only [Act.put, List.setIfInBounds_toArray, List.set_cons_zero, List.set_cons_succ, List.getElem_toArray, List.getElem_cons_succ, List.getElem_cons_zero]
    refine tk 8 hHeld ?_
    refine tk 9 hHeld ?_
    refine tk 10 hHeld ?_
    refine tk 11 hHeld ?_
    refine tk 12 hHeld ?_
    refine tk 13 hHeld ?_
    refine tk 14 hHeld ?_
    refine tk 15 hHeld ?_
    refine tk 17 hHeld ?_
    refine tk 18 hHeld ?_
    refine tk 19 hHeld ?_
    refine tk 20 hHeld ?_
    refine tk 21 hHeld ?_
    refine tk 22 hHeld ?_
    refine wpAnyH_ready (rs := [16]) (by kernel_rfl) (by simp) ?_
    refine AllReadyH.cons rfl (fun K hK => ?_) AllReadyH.nil
    go_simp
    (go_at_call 13; refine (Carry_any b _ base set d _ (H.out.ext (Y1.out.trans xw)) hset).mono ?_; rintro e2 w5 ⟨rfl, hv⟩; have hx5 : Ext w1 w5 := xt hv; clear hv)
    go_wp2_with fail
    refine hK.out _ _ ⟨xc nlt n0, xc nlt n1, xc nlt n2⟩ (fun hHeld => ?_)
    clear hK K
    try simp only [Act.put, List.setIfInBounds_toArray, List.set_cons_zero, List.set_cons_succ, List.getElem_toArray, List.getElem_cons_succ, List.getElem_cons_zero]
    refine wpAnyH_ready (rs := [23]) (by kernel_rfl) (by simp) ?_
    refine AllReadyH.cons rfl (fun K hK => ?_) AllReadyH.nil
    go_simp
    (go_at_call 14; refine (rCarry_any b _ base set d _ (H.out.ext (Y1.out.trans xw)) hset).mono ?_; rintro e2 w6 ⟨rfl, hv⟩; have hx6 : Ext w1 w6 := xt hv; clear hv)
    go_wp2_with fail
    refine hK.out _ _ ⟨xc nlt n0, xc nlt n1, xc nlt n2⟩ (fun hHeld => ?_)
    clear hK K
    try simp only [Act.put, List.setIfInBounds_toArray, List.set_cons_zero, List.set_cons_succ, List.getElem_toArray, List.getElem_cons_succ, List.getElem_cons_zero]
    refine tk 24 hHeld ?_
    refine tk 25 hHeld ?_
    refine tk 26 hHeld ?_
    refine wpAnyH_done (by kernel_rfl) ?_ _
    go_wp2_with fail
    go_ret
    exact ⟨rfl, Y1.out.trans xw⟩
end Go.Proofs.YtfcmdiigfgbgbaaGreat

/- SequentParts: the negation of a node and what an agent carries on are what is specified, for any base: for every input. -/

namespace Go.Proofs.YtfcmdiigfgbgbaaGreat
open Go.ChangeShapes Go.WideShapes Go.ChangeAt Go.RowKit Go.Joins

section
variable {H : Type} {enc : TypeId × Value → H} {w : World} {spare : Nat → Bool} {held : Bool}
set_option maxRecDepth 100000 in
theorem fml_of_arg {r : Reach} {b0 : Nat} {v : Value} {d : DataW H} {p : List MemPlace} (hv : Value.okWide Tryz.prog w r b0 22 v) (h : DataW.Trod enc Tryz.prog w 0 spare held 22 v d p) : ∃ l, Fml w v l := by
  obtain ⟨a, len, cap, rfl⟩ := okWide_slice Tryz.underlying22 hv
  obtain ⟨fuel, hf⟩ := h
  exact fml_of_trod hf
set_option maxRecDepth 100000 in
theorem arr3_of_trod {r : Reach} {b0 : Nat} {v : Value} {d : DataW H} {p : List MemPlace} (hv : Value.okWide Tryz.prog w r b0 30 v) (h : DataW.Trod enc Tryz.prog w 0 spare held 30 v d p) :
    ∃ x y z : Int, v = .agg #[.int .i64 x, .int .i64 y, .int .i64 z] := by
  have ht := Tryz.underlying30
  simp only [Value.okWide, ht] at hv
  obtain ⟨cs, rfl, hsz, _⟩ := hv
  have hC : Tryz.prog.cellsOf 30 = 3 := by kernel_rfl
  have h1 : Tryz.prog.cellsOf 3 = 1 := by kernel_rfl
  obtain ⟨c0, c1, c2, rfl⟩ := array3 (hsz.trans hC)
  obtain ⟨fuel, hf⟩ := h
  obtain ⟨xs, m, _, _, _, hlen, he⟩ := DataW.trod_array ht hf
  have e0 := he 0 (by omega)
  have e1 := he 1 (by omega)
  have e2 := he 2 (by omega)
  rw [h1] at e0 e1 e2
  rw [List.getElem?_eq_getElem (by omega)] at e0 e1 e2
  obtain ⟨x, ex, _, _⟩ := DataW.trod_int Tryz.underlying3 e0
  obtain ⟨y, ey, _, _⟩ := DataW.trod_int Tryz.underlying3 e1
  obtain ⟨z, ez, _, _⟩ := DataW.trod_int Tryz.underlying3 e2
  simp [Value.cells] at ex ey ez
  subst ex ey ez
  exact ⟨x, y, z, rfl⟩
end
theorem laidOutP : laidOutB Tryz.prog = true := by kernel_rfl
theorem own : ownKnob Tryz.prog.godebug = none := by kernel_rfl
set_option maxRecDepth 100000 in
theorem sequentParts_lifted (os : Os) (started : os.Started) (H : Type) (enc : TypeId × Value → H) :
    ReturnsInHanded {} Tryz.checked os 4 .any (Rows.sequentPartsSpec.pre6 enc Tryz.prog Tryz.f4 Rows.sequentPartsRow.domain false)
      (Rows.sequentPartsSpec.post enc Tryz.prog Tryz.f4 false true false false) := by
  refine returnsInHanded_of_change (C := Tryz.checked) own started (by kernel_rfl) Tryz.func4
    (ChangeSpec.witness6 (enc := enc) (C := Tryz.checked) false ⟨#[], #[.slice none 0 0, .int .u64 0, .agg #[.int .i64 0, .int .i64 0, .int .i64 0]], []⟩ 8 (by kernel_rfl) (by kernel_rfl) (by kernel_rfl) (by kernel_rfl)) ?_
  intro W base args ds gs before hval0 hW hcnd _
  have hval : ∀ (j : Nat) t v, Tryz.f4.params[j]? = some t → args[j]? = some v → Value.okWide Tryz.prog W .any base t v := hval0
  have hW' := hW
  obtain ⟨p, q, hA0, hV, rfl, hfz, hnd⟩ := hW
  have hA : DataW.TrodAll enc Tryz.prog W 0 (fun _ => true) true Tryz.f4.params.toList args.toList ds p := hA0
  rw [Tryz.params4] at hA hval
  obtain ⟨v0, vs0, d0, ds0, p0, q0, hargs, rfl, rfl, h0, r0⟩ := trodAll_cons hA
  obtain ⟨vm, vs1, d1, ds1, p1, q1, rfl, rfl, rfl, h1, r1⟩ := trodAll_cons r0
  obtain ⟨va, vs2, d2, ds2, p2, q2, rfl, rfl, rfl, h2, r2⟩ := trodAll_cons r1
  obtain ⟨rfl, rfl, rfl⟩ := trodAll_nil r2
  obtain rfl : args = #[v0, vm, va] := by cases args; simp_all
  obtain ⟨rfl, rfl⟩ := trodVars_none hV
  obtain ⟨bs, hbs⟩ := fml_of_arg (hval 0 _ v0 rfl rfl) h0
  obtain ⟨x, y, z, rfl⟩ := arr3_of_trod (hval 2 _ va rfl rfl) h2
  obtain ⟨more, rfl, rfl, rfl, wm⟩ := open_int Tryz.underlying29 (hval 1 29 vm rfl rfl) h1
  obtain ⟨hm0, hm1⟩ := u64_of_wf wm
  obtain ⟨mn, rfl⟩ := Int.eq_ofNat_of_zero_le hm0
  simp only [List.append_nil, List.nil_append] at hW'
  clear hA0 hval0
  refine (parts_any mn (by omega) x y z hbs).mono ?_
  rintro e W' ⟨rfl, hx⟩
  have hlt : ∀ x ∈ p0 ++ p2, x.block < W.heap.size := fun x hx' => hW'.lt x hx'
  have l0 : ∀ x ∈ p0, x ∈ p0 ++ p2 := fun x hx' => List.mem_append.2 (Or.inl hx')
  have l2 : ∀ x ∈ p2, x ∈ p0 ++ p2 := fun x hx' => List.mem_append.2 (Or.inr hx')
  refine ⟨_, rfl, post_of_below (pa := p0 ++ p2) (pv := []) hW' (fun _ _ _ => trodAll_mk1 (shut_bool Tryz.underlying4 _)) (fun sp hsp => ?_) (fun _ _ => rfl) (by simp) hx (ok_one (by kernel_rfl) rfl (okWide_bool_mk Tryz.underlying4 _))⟩
  have ht := trodAll_cons_mk (WideElems.Trod_stays laidOutP (by kernel_rfl) (of_decide_eq_true (by kernel_rfl)) h0 (fun x hx' => hx.same (hlt x (l0 x hx'))) (fun x hx' => hsp x (l0 x hx')))
    (trodAll_cons_mk (shut_int Tryz.underlying29 wm) (trodAll_mk1 (WideElems.Trod_stays laidOutP (by kernel_rfl) (of_decide_eq_true (by kernel_rfl)) h2 (fun x hx' => hx.same (hlt x (l2 x hx'))) (fun x hx' => hsp x (l2 x hx')))))
  simp only [List.append_nil, List.nil_append] at ht
  exact ht
theorem sequentParts_said : Rows.SequentPartsSaid :=
  OpenClaim.holds_of_wide 4 Tryz.f4 rfl rfl rfl rfl rfl rfl rfl ⟨rfl, rfl, rfl, rfl, rfl⟩ rfl rfl rfl rfl rfl (by kernel_rfl) Tryz.func4 (by kernel_rfl)
    (of_decide_eq_true (by kernel_rfl)) (by unfold Func.isWrapper; first | (rw [if_pos (by decide +kernel)]; kernel_rfl) | (rw [if_neg (by decide +kernel)]; exact ⟨rfl, rfl⟩))
    (fun os started H enc _ => sequentParts_lifted os started H enc)
end Go.Proofs.YtfcmdiigfgbgbaaGreat
