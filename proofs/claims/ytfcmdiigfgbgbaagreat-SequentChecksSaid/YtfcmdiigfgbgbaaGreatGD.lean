/- The simple negations; the normal forms of all nodes, by induction. -/
import Derived.Test.YtfcmdiigfgbgbaaGreatK7

namespace Go.Proofs.YtfcmdiigfgbgbaaGreat
open Go.RowKit
open Go.Maps (has)

set_option maxRecDepth 100000 in
set_option maxHeartbeats 8000000 in
theorem neg_1 {W0 w : World} {bn m0 m1 cp : Nat} {A : Option Addr} {c : List Nd} {n : Nd} (hop : n.op = 1) (henv : NEnv W0 w bn m0 m1 A cp c) :
    Calls Tryz.prog 86 #[.pointer (some ⟨bn, 0, none⟩), n.val] w fun e w' => ∃ u, e = .returned u ∧ NEnv W0 w' bn m0 m1 A cp c ∧ NStep m0 m1 w w' ∧ Fml w' u (negS n (fun b j => nnfN c b j.toNat)) := by
  obtain ⟨o, i, e, k, x, y⟩ := n
  simp only at hop
  subst hop
  have X0 := Lib.hid ((Ext.refl w).alloc (.cells #[.int .i64 1, .int .i64 i, .int .i64 e, .int .i64 k, .int .i64 x, .int .i64 y] 53))
  have E0 := Lib.hid (henv.keep X0.out)
  have S0 := Lib.hid (NStep.of_ext (m0 := m0) (m1 := m1) X0.out)
  have hbx : (w.alloc (.cells #[.int .i64 1, .int .i64 i, .int .i64 e, .int .i64 k, .int .i64 x, .int .i64 y] 53)).heap[w.heap.size]? = some (.cells #[.int .i64 1, .int .i64 i, .int .i64 e, .int .i64 k, .int .i64 x, .int .i64 y] 53 (0, 0)) := heap_alloc_new _ _
  have B0 := Lib.hid hbx
  have hm0 := henv.f0.lt
  have hm1 := henv.f1.lt
  have hn0 : w.heap.size ≠ m0 := by omega
  have hn1 : w.heap.size ≠ m1 := by omega
  unfold Nd.val
  clear hm0 hm1 hbx henv
  go_enter Tryz.func86, Tryz.ntmps86
  go_wp2_with fail
  refine (false_any _).mono ?_
  rintro e w1 ⟨u, rfl, hm⟩
  have HM := Lib.hid hm
  clear hm
  go_wp2_with fail
  go_ret
  exact ⟨_, rfl, E0.out.keep HM.out.2.2, S0.out.trans (.of_ext HM.out.2.2), HM.out.fml⟩
set_option maxRecDepth 100000 in
set_option maxHeartbeats 8000000 in
theorem neg_2 {W0 w : World} {bn m0 m1 cp : Nat} {A : Option Addr} {c : List Nd} {n : Nd} (hop : n.op = 2) (henv : NEnv W0 w bn m0 m1 A cp c) :
    Calls Tryz.prog 86 #[.pointer (some ⟨bn, 0, none⟩), n.val] w fun e w' => ∃ u, e = .returned u ∧ NEnv W0 w' bn m0 m1 A cp c ∧ NStep m0 m1 w w' ∧ Fml w' u (negS n (fun b j => nnfN c b j.toNat)) := by
  obtain ⟨o, i, e, k, x, y⟩ := n
  simp only at hop
  subst hop
  have X0 := Lib.hid ((Ext.refl w).alloc (.cells #[.int .i64 2, .int .i64 i, .int .i64 e, .int .i64 k, .int .i64 x, .int .i64 y] 53))
  have E0 := Lib.hid (henv.keep X0.out)
  have S0 := Lib.hid (NStep.of_ext (m0 := m0) (m1 := m1) X0.out)
  have hbx : (w.alloc (.cells #[.int .i64 2, .int .i64 i, .int .i64 e, .int .i64 k, .int .i64 x, .int .i64 y] 53)).heap[w.heap.size]? = some (.cells #[.int .i64 2, .int .i64 i, .int .i64 e, .int .i64 k, .int .i64 x, .int .i64 y] 53 (0, 0)) := heap_alloc_new _ _
  have B0 := Lib.hid hbx
  have hm0 := henv.f0.lt
  have hm1 := henv.f1.lt
  have hn0 : w.heap.size ≠ m0 := by omega
  have hn1 : w.heap.size ≠ m1 := by omega
  unfold Nd.val
  clear hm0 hm1 hbx henv
  go_enter Tryz.func86, Tryz.ntmps86
  go_wp2_with fail
  refine (true_any _).mono ?_
  rintro e w1 ⟨u, rfl, hm⟩
  have HM := Lib.hid hm
  clear hm
  go_wp2_with fail
  go_ret
  exact ⟨_, rfl, E0.out.keep HM.out.2.2, S0.out.trans (.of_ext HM.out.2.2), HM.out.fml⟩
set_option maxRecDepth 100000 in
set_option maxHeartbeats 8000000 in
theorem neg_4 {W0 w : World} {bn m0 m1 cp : Nat} {A : Option Addr} {c : List Nd} {n : Nd} (hop : n.op = 4) (hx : OfSaid W0 bn m0 m1 A cp c n.x) (henv : NEnv W0 w bn m0 m1 A cp c) :
    Calls Tryz.prog 86 #[.pointer (some ⟨bn, 0, none⟩), n.val] w fun e w' => ∃ u, e = .returned u ∧ NEnv W0 w' bn m0 m1 A cp c ∧ NStep m0 m1 w w' ∧ Fml w' u (negS n (fun b j => nnfN c b j.toNat)) := by
  obtain ⟨o, i, e, k, x, y⟩ := n
  simp only at hop
  subst hop
  have X0 := Lib.hid ((Ext.refl w).alloc (.cells #[.int .i64 4, .int .i64 i, .int .i64 e, .int .i64 k, .int .i64 x, .int .i64 y] 53))
  have E0 := Lib.hid (henv.keep X0.out)
  have S0 := Lib.hid (NStep.of_ext (m0 := m0) (m1 := m1) X0.out)
  have hbx : (w.alloc (.cells #[.int .i64 4, .int .i64 i, .int .i64 e, .int .i64 k, .int .i64 x, .int .i64 y] 53)).heap[w.heap.size]? = some (.cells #[.int .i64 4, .int .i64 i, .int .i64 e, .int .i64 k, .int .i64 x, .int .i64 y] 53 (0, 0)) := heap_alloc_new _ _
  have B0 := Lib.hid hbx
  have hm0 := henv.f0.lt
  have hm1 := henv.f1.lt
  have hn0 : w.heap.size ≠ m0 := by omega
  have hn1 : w.heap.size ≠ m1 := by omega
  unfold Nd.val
  have HX := Lib.hid hx
  clear hx
  clear hm0 hm1 hbx henv
  go_enter Tryz.func86, Tryz.ntmps86
  go_wp2_with fail
  refine (HX.out false _ E0.out).mono ?_
  rintro e w1 ⟨u, rfl, he, hs, hu⟩
  have E1 := Lib.hid he
  have S1 := Lib.hid (S0.out.trans hs)
  have F1 := Lib.hid hu
  obtain ⟨A1, c1, rfl, _⟩ := fml_slice hu
  clear he hs hu
  go_wp2_with fail
  go_ret
  exact ⟨_, rfl, E1.out, S1.out, F1.out⟩
set_option maxRecDepth 100000 in
set_option maxHeartbeats 8000000 in
theorem neg_3 {W0 w : World} {bn m0 m1 cp : Nat} {A : Option Addr} {c : List Nd} {n : Nd} (hop : n.op = 3) (hi : i64ok n.i) (henv : NEnv W0 w bn m0 m1 A cp c) :
    Calls Tryz.prog 86 #[.pointer (some ⟨bn, 0, none⟩), n.val] w fun e w' => ∃ u, e = .returned u ∧ NEnv W0 w' bn m0 m1 A cp c ∧ NStep m0 m1 w w' ∧ Fml w' u (negS n (fun b j => nnfN c b j.toNat)) := by
  obtain ⟨o, i, e, k, x, y⟩ := n
  simp only at hop
  subst hop
  have X0 := Lib.hid ((Ext.refl w).alloc (.cells #[.int .i64 3, .int .i64 i, .int .i64 e, .int .i64 k, .int .i64 x, .int .i64 y] 53))
  have E0 := Lib.hid (henv.keep X0.out)
  have S0 := Lib.hid (NStep.of_ext (m0 := m0) (m1 := m1) X0.out)
  have hbx : (w.alloc (.cells #[.int .i64 3, .int .i64 i, .int .i64 e, .int .i64 k, .int .i64 x, .int .i64 y] 53)).heap[w.heap.size]? = some (.cells #[.int .i64 3, .int .i64 i, .int .i64 e, .int .i64 k, .int .i64 x, .int .i64 y] 53 (0, 0)) := heap_alloc_new _ _
  have B0 := Lib.hid hbx
  have hm0 := henv.f0.lt
  have hm1 := henv.f1.lt
  have hn0 : w.heap.size ≠ m0 := by omega
  have hn1 : w.heap.size ≠ m1 := by omega
  unfold Nd.val
  clear hm0 hm1 hbx henv
  obtain ⟨⟨z0, z1, z2, z3, z4, z5⟩, _, zlt⟩ := cells6 B0.out
  have HI := Lib.hid hi
  clear hi
  go_enter Tryz.func86, Tryz.ntmps86
  go_wp2_with fail
  refine (pos_3 (n := ⟨3, i, e, k, x, y⟩) rfl HI.out E0.out).mono ?_
  rintro e w1 ⟨u, rfl, he, hs, hu⟩
  have E1 := Lib.hid he
  have S1 := Lib.hid (S0.out.trans hs)
  have F1 := Lib.hid hu
  obtain ⟨A1, c1, rfl, _⟩ := fml_slice hu
  clear he hs hu z0 z1 z2 z3 z4 z5 zlt
  go_wp2_with fail
  refine (not_any _ _ _ F1.out).mono ?_
  rintro e w2 ⟨u, rfl, hm⟩
  have HM := Lib.hid hm
  clear hm
  go_wp2_with fail
  go_ret
  exact ⟨_, rfl, E1.out.keep HM.out.2.2, S1.out.trans (.of_ext HM.out.2.2), HM.out.fml⟩
/-- A node, whatever its operator. -/
theorem pos_said {W0 w : World} {bn m0 m1 cp : Nat} {A : Option Addr} {c : List Nd} {n : Nd} (hop : 1 ≤ n.op ∧ n.op ≤ 10) (hx : hasX n.op = true → OfSaid W0 bn m0 m1 A cp c n.x) (hy : hasY n.op = true → OfSaid W0 bn m0 m1 A cp c n.y) (hi : i64ok n.i) (henv : NEnv W0 w bn m0 m1 A cp c) :
    Calls Tryz.prog 87 #[.pointer (some ⟨bn, 0, none⟩), n.val] w fun e w' => ∃ u, e = .returned u ∧ NEnv W0 w' bn m0 m1 A cp c ∧ NStep m0 m1 w w' ∧ Fml w' u (posS n (fun b j => nnfN c b j.toNat)) := by
  rcases (show n.op = 1 ∨ n.op = 2 ∨ n.op = 3 ∨ n.op = 4 ∨ n.op = 5 ∨ n.op = 6 ∨ n.op = 7 ∨ n.op = 8 ∨ n.op = 9 ∨ n.op = 10 by omega) with h | h | h | h | h | h | h | h | h | h
  · exact pos_1 h  henv
  · exact pos_2 h  henv
  · exact pos_3 h hi henv
  · exact pos_4 h (hx (by rw [h]; rfl)) henv
  · exact pos_5 h (hx (by rw [h]; rfl)) (hy (by rw [h]; rfl)) henv
  · exact pos_6 h (hx (by rw [h]; rfl)) (hy (by rw [h]; rfl)) henv
  · exact pos_7 h (hx (by rw [h]; rfl)) (hy (by rw [h]; rfl)) henv
  · exact pos_8 h (hx (by rw [h]; rfl)) (hy (by rw [h]; rfl)) henv
  · exact pos_9 h (hx (by rw [h]; rfl)) hi henv
  · exact pos_10 h (hx (by rw [h]; rfl)) hi henv
/-- A node, whatever its operator. -/
theorem neg_said {W0 w : World} {bn m0 m1 cp : Nat} {A : Option Addr} {c : List Nd} {n : Nd} (hop : 1 ≤ n.op ∧ n.op ≤ 10) (hx : hasX n.op = true → OfSaid W0 bn m0 m1 A cp c n.x) (hy : hasY n.op = true → OfSaid W0 bn m0 m1 A cp c n.y) (hi : i64ok n.i) (henv : NEnv W0 w bn m0 m1 A cp c) :
    Calls Tryz.prog 86 #[.pointer (some ⟨bn, 0, none⟩), n.val] w fun e w' => ∃ u, e = .returned u ∧ NEnv W0 w' bn m0 m1 A cp c ∧ NStep m0 m1 w w' ∧ Fml w' u (negS n (fun b j => nnfN c b j.toNat)) := by
  rcases (show n.op = 1 ∨ n.op = 2 ∨ n.op = 3 ∨ n.op = 4 ∨ n.op = 5 ∨ n.op = 6 ∨ n.op = 7 ∨ n.op = 8 ∨ n.op = 9 ∨ n.op = 10 by omega) with h | h | h | h | h | h | h | h | h | h
  · exact neg_1 h  henv
  · exact neg_2 h  henv
  · exact neg_3 h hi henv
  · exact neg_4 h (hx (by rw [h]; rfl)) henv
  · exact neg_5 h (hx (by rw [h]; rfl)) (hy (by rw [h]; rfl)) henv
  · exact neg_6 h (hx (by rw [h]; rfl)) (hy (by rw [h]; rfl)) henv
  · exact neg_7 h (hx (by rw [h]; rfl)) (hy (by rw [h]; rfl)) henv
  · exact neg_8 h (hx (by rw [h]; rfl)) (hy (by rw [h]; rfl)) henv
  · exact neg_9 h (hx (by rw [h]; rfl)) hi henv
  · exact neg_10 h (hx (by rw [h]; rfl)) hi henv
theorem zeroNodes (w : World) : (zeroValue 22).run Tryz.prog w = .ok (.slice none 0 0) w := by kernel_rfl
theorem held_inj {v u : Value} (h : (DataW.held v : DV) = .held u) : v = u := by injection h
theorem cells3n {w : World} {b : Nat} {a0 a1 a2 : Value} {t : TypeId} (h : w.heap[b]? = some (.cells #[a0, a1, a2] t (0, 0))) :
    w.cell? ⟨b, 0, none⟩ = some a0 ∧ w.cell? ⟨b, 1, none⟩ = some a1 ∧ w.cell? ⟨b, 2, none⟩ = some a2 ∧ b < w.heap.size :=
  ⟨by simp [World.cell?, h], by simp [World.cell?, h], by simp [World.cell?, h], lt_heap h⟩
theorem map_stored_no {W0 w w' : World} {bn m0 m1 cp : Nat} {A : Option Addr} {c : List Nd} {i k : Nat} {v : Value} {D : DV} {l : List Nd} (h : NEnv W0 w bn m0 m1 A cp c) (hv : Fml w v l) (hown : w.ownsMap Tryz.prog 3 heldElem m0 k D) (hk : k ≤ formCount D c) (hD : FormIs D w c false) (hi : i < c.length) (heq : nnfN c false i = l)
    (h' : w'.ownsMap Tryz.prog 3 heldElem m0 (k + 1) (D.put (.int .i64 i) (.held v))) (ht : w.mapTurned w' m0) : NEnv W0 w' bn m0 m1 A cp c ∧ NStep m0 m1 w w' ∧ Fml w' v (nnfN c false i) := by
  have hg := ht.grown
  have hs : NStep m0 m1 w w' := ⟨hg.os, hg.tape, hg.output, hg.size, fun j h1 h2 h3 => hg.block j h1 (by simpa using h2)⟩
  have hf : ∀ {u l}, Fml w u l → Fml w' u l := fun hu => h.fml hu hs
  have hb := h.bne
  refine ⟨⟨hs.ext0 h.ext h.low.1 h.low.2, h.nds, (hs.block bn (lt_heap h.blk) hb.1 hb.2).trans h.blk, FormMap.put hown hk (fun j hj => by
    obtain ⟨a, u, x, y⟩ := hD j hj
    exact ⟨a, u, x, hf y⟩) hi (by rw [heq]; exact hf hv) h', h.f1.nstep h.f0.map h.f1.map hs (hg.block m1 h.f1.lt (by simpa using Ne.symm h.ne)), h.low, h.ne⟩, hs, by rw [heq]; exact hf hv⟩
set_option maxRecDepth 100000 in
set_option maxHeartbeats 8000000 in
theorem of_no {W0 w : World} {bn m0 m1 cp : Nat} {A : Option Addr} {c : List Nd} {i : Nat} {n : Nd} (hc : Wf c) (hl : c.length ≤ 1000) (hn : c[i]? = some n)
    (hnode : ∀ w, NEnv W0 w bn m0 m1 A cp c → Calls Tryz.prog 87 #[.pointer (some ⟨bn, 0, none⟩), n.val] w fun e w' => ∃ u, e = .returned u ∧ NEnv W0 w' bn m0 m1 A cp c ∧ NStep m0 m1 w w' ∧ Fml w' u (posS n (fun b j => nnfN c b j.toNat)))
    (henv : NEnv W0 w bn m0 m1 A cp c) :
    Calls Tryz.prog 74 #[.pointer (some ⟨bn, 0, none⟩), .int .i64 (i : Int), .bool false] w fun e w' => ∃ u, e = .returned u ∧ NEnv W0 w' bn m0 m1 A cp c ∧ NStep m0 m1 w w' ∧ Fml w' u (nnfN c false i) := by
  have hi := (List.getElem?_eq_some_iff.1 hn).1
  have HEQ := Lib.hid (nnfN_eq hc hn false)
  obtain ⟨D, m, hown, hcnt, hD⟩ := henv.f0
  obtain ⟨d0, d1, d2, _⟩ := cells3n henv.blk
  have hkey := keyOf_int (a := (i : Int)) ⟨by omega, by omega⟩
  have E0 := Lib.hid henv
  have HN := Lib.hid hnode
  cases hh : has D (.int .i64 (i : Int))
  case true =>
    obtain ⟨_, v0, hat, hf⟩ := hD i hh
    have HF := Lib.hid hf
    have HAT := Lib.hid hat
    clear hat hf hnode hcnt henv hD
    go_enter Tryz.func74, Tryz.ntmps74
    go_wp2_with (at_lookup; refine wpList_lookup_own_ok _ rfl _ _ 84 rfl 3 22 intKeyed Tryz.underlying84 heldElem (zeroNodes _) (.held (.slice none 0 0)) [] rfl m0 m D rfl hown _ _ rfl hkey ?_; intro v ps hv)
    have hvv : v = v0 := (held_inj ((HAT.out _).symm.trans (heldElem_inv hv))).symm
    subst hvv
    clear hv
    go_ret
    exact ⟨_, rfl, E0.out, .refl, HF.out⟩
  case false =>
    obtain ⟨⟨A', c', e, hcap, hmax, hread⟩, hok⟩ := henv.nds
    injection e with e1 _ e3
    subst e1 e3
    unfold maxLen at hmax
    obtain ⟨ad, rfl, hblk, hcells⟩ := hread (by intro e; rw [e] at hi; simp at hi)
    obtain ⟨q0, q1, q2, q3, q4, q5⟩ := hcells i n hn
    have hk : ∀ p : Addr, p.block = ad.block → w.cell? p = W0.cell? p := fun p hp => E0.out.ext.cell (by rw [hp]; exact hblk)
    have q0 := (hk _ (by rw [block_of_add])).trans q0
    have q1 := (hk _ (by show (ad.add _).block = _; rw [block_of_add])).trans q1
    have q2 := (hk _ (by show (ad.add _).block = _; rw [block_of_add])).trans q2
    have q3 := (hk _ (by show (ad.add _).block = _; rw [block_of_add])).trans q3
    have q4 := (hk _ (by show (ad.add _).block = _; rw [block_of_add])).trans q4
    have q5 := (hk _ (by show (ad.add _).block = _; rw [block_of_add])).trans q5
    have hi0 : (0 : Int) ≤ (i : Int) := by omega
    have hi1 : (i : Int) < (c.length : Int) := by omega
    have X0 := Lib.hid ((Ext.refl w).alloc (.cells #[.int .i64 n.op, .int .i64 n.i, .int .i64 n.e, .int .i64 n.g, .int .i64 n.x, .int .i64 n.y] 53))
    have hbx := heap_alloc_new w (.cells #[.int .i64 n.op, .int .i64 n.i, .int .i64 n.e, .int .i64 n.g, .int .i64 n.x, .int .i64 n.y] 53)
    obtain ⟨⟨z0, z1, z2, z3, z4, z5⟩, _, zlt⟩ := cells6 hbx
    clear hk hcells hread hok hnode henv hbx hD
    go_enter Tryz.func74, Tryz.ntmps74
    go_wp2_with (at_lookup; refine wpList_lookup_own_ok _ rfl _ _ 84 rfl 3 22 intKeyed Tryz.underlying84 heldElem (zeroNodes _) (.held (.slice none 0 0)) [] rfl m0 m D rfl hown _ _ rfl hkey ?_; intro v ps hv)
    clear hv
    refine (HN.out _ (E0.out.keep X0.out)).mono ?_
    rintro e w1 ⟨u, rfl, he, hs, hu⟩
    have E1 := Lib.hid he
    have S1 := Lib.hid ((NStep.of_ext X0.out).trans hs)
    have F1 := Lib.hid hu
    obtain ⟨Au, cu, rfl, _⟩ := fml_slice hu
    obtain ⟨D1, k1, hown1, hcnt1, hD1⟩ := he.f0
    obtain ⟨y0, y1, y2, _⟩ := cells3n he.blk
    have hlim := formCount_le D1 c
    have HC1 := Lib.hid hcnt1
    have HD1 := Lib.hid hD1
    have HO1 := Lib.hid hown1
    clear hs hu d0 d1 d2 q0 q1 q2 q3 q4 q5 z0 z1 z2 z3 z4 z5 zlt hD1 he hown
    go_wp2_with (at_mapUpdate; refine wpList_mapUpdate_in _ rfl _ _ _ 84 rfl 3 22 intKeyed Tryz.underlying84 heldElem m0 k1 D1 rfl hown1 (by unfold maxLen; omega) _ _ _ rfl rfl hkey (.held (.slice Au (posS n (fun b j => nnfN c b j.toNat)).length cu)) [] rfl ?_; intro w2 hown2 hturn2)
    have HF := Lib.hid (map_stored_no E1.out F1.out HO1.out HC1.out HD1.out hi HEQ.out hown2 hturn2)
    clear hown2 hturn2 hown1 hcnt1 y0 y1 y2
    go_wp2_with fail
    go_ret
    exact ⟨_, rfl, HF.out.1, S1.out.trans HF.out.2.1, HF.out.2.2⟩
theorem map_stored_yes {W0 w w' : World} {bn m0 m1 cp : Nat} {A : Option Addr} {c : List Nd} {i k : Nat} {v : Value} {D : DV} {l : List Nd} (h : NEnv W0 w bn m0 m1 A cp c) (hv : Fml w v l) (hown : w.ownsMap Tryz.prog 3 heldElem m1 k D) (hk : k ≤ formCount D c) (hD : FormIs D w c true) (hi : i < c.length) (heq : nnfN c true i = l)
    (h' : w'.ownsMap Tryz.prog 3 heldElem m1 (k + 1) (D.put (.int .i64 i) (.held v))) (ht : w.mapTurned w' m1) : NEnv W0 w' bn m0 m1 A cp c ∧ NStep m0 m1 w w' ∧ Fml w' v (nnfN c true i) := by
  have hg := ht.grown
  have hs : NStep m0 m1 w w' := ⟨hg.os, hg.tape, hg.output, hg.size, fun j h1 h2 h3 => hg.block j h1 (by simpa using h3)⟩
  have hf : ∀ {u l}, Fml w u l → Fml w' u l := fun hu => h.fml hu hs
  have hb := h.bne
  refine ⟨⟨hs.ext0 h.ext h.low.1 h.low.2, h.nds, (hs.block bn (lt_heap h.blk) hb.1 hb.2).trans h.blk, h.f0.nstep h.f0.map h.f1.map hs (hg.block m0 h.f0.lt (by simpa using h.ne)), FormMap.put hown hk (fun j hj => by
    obtain ⟨a, u, x, y⟩ := hD j hj
    exact ⟨a, u, x, hf y⟩) hi (by rw [heq]; exact hf hv) h', h.low, h.ne⟩, hs, by rw [heq]; exact hf hv⟩
set_option maxRecDepth 100000 in
set_option maxHeartbeats 8000000 in
theorem of_yes {W0 w : World} {bn m0 m1 cp : Nat} {A : Option Addr} {c : List Nd} {i : Nat} {n : Nd} (hc : Wf c) (hl : c.length ≤ 1000) (hn : c[i]? = some n)
    (hnode : ∀ w, NEnv W0 w bn m0 m1 A cp c → Calls Tryz.prog 86 #[.pointer (some ⟨bn, 0, none⟩), n.val] w fun e w' => ∃ u, e = .returned u ∧ NEnv W0 w' bn m0 m1 A cp c ∧ NStep m0 m1 w w' ∧ Fml w' u (negS n (fun b j => nnfN c b j.toNat)))
    (henv : NEnv W0 w bn m0 m1 A cp c) :
    Calls Tryz.prog 74 #[.pointer (some ⟨bn, 0, none⟩), .int .i64 (i : Int), .bool true] w fun e w' => ∃ u, e = .returned u ∧ NEnv W0 w' bn m0 m1 A cp c ∧ NStep m0 m1 w w' ∧ Fml w' u (nnfN c true i) := by
  have hi := (List.getElem?_eq_some_iff.1 hn).1
  have HEQ := Lib.hid (nnfN_eq hc hn true)
  obtain ⟨D, m, hown, hcnt, hD⟩ := henv.f1
  obtain ⟨d0, d1, d2, _⟩ := cells3n henv.blk
  have hkey := keyOf_int (a := (i : Int)) ⟨by omega, by omega⟩
  have E0 := Lib.hid henv
  have HN := Lib.hid hnode
  cases hh : has D (.int .i64 (i : Int))
  case true =>
    obtain ⟨_, v0, hat, hf⟩ := hD i hh
    have HF := Lib.hid hf
    have HAT := Lib.hid hat
    clear hat hf hnode hcnt henv hD
    go_enter Tryz.func74, Tryz.ntmps74
    go_wp2_with (at_lookup; refine wpList_lookup_own_ok _ rfl _ _ 84 rfl 3 22 intKeyed Tryz.underlying84 heldElem (zeroNodes _) (.held (.slice none 0 0)) [] rfl m1 m D rfl hown _ _ rfl hkey ?_; intro v ps hv)
    have hvv : v = v0 := (held_inj ((HAT.out _).symm.trans (heldElem_inv hv))).symm
    subst hvv
    clear hv
    go_ret
    exact ⟨_, rfl, E0.out, .refl, HF.out⟩
  case false =>
    obtain ⟨⟨A', c', e, hcap, hmax, hread⟩, hok⟩ := henv.nds
    injection e with e1 _ e3
    subst e1 e3
    unfold maxLen at hmax
    obtain ⟨ad, rfl, hblk, hcells⟩ := hread (by intro e; rw [e] at hi; simp at hi)
    obtain ⟨q0, q1, q2, q3, q4, q5⟩ := hcells i n hn
    have hk : ∀ p : Addr, p.block = ad.block → w.cell? p = W0.cell? p := fun p hp => E0.out.ext.cell (by rw [hp]; exact hblk)
    have q0 := (hk _ (by rw [block_of_add])).trans q0
    have q1 := (hk _ (by show (ad.add _).block = _; rw [block_of_add])).trans q1
    have q2 := (hk _ (by show (ad.add _).block = _; rw [block_of_add])).trans q2
    have q3 := (hk _ (by show (ad.add _).block = _; rw [block_of_add])).trans q3
    have q4 := (hk _ (by show (ad.add _).block = _; rw [block_of_add])).trans q4
    have q5 := (hk _ (by show (ad.add _).block = _; rw [block_of_add])).trans q5
    have hi0 : (0 : Int) ≤ (i : Int) := by omega
    have hi1 : (i : Int) < (c.length : Int) := by omega
    have X0 := Lib.hid ((Ext.refl w).alloc (.cells #[.int .i64 n.op, .int .i64 n.i, .int .i64 n.e, .int .i64 n.g, .int .i64 n.x, .int .i64 n.y] 53))
    have hbx := heap_alloc_new w (.cells #[.int .i64 n.op, .int .i64 n.i, .int .i64 n.e, .int .i64 n.g, .int .i64 n.x, .int .i64 n.y] 53)
    obtain ⟨⟨z0, z1, z2, z3, z4, z5⟩, _, zlt⟩ := cells6 hbx
    clear hk hcells hread hok hnode henv hbx hD
    go_enter Tryz.func74, Tryz.ntmps74
    go_wp2_with (at_lookup; refine wpList_lookup_own_ok _ rfl _ _ 84 rfl 3 22 intKeyed Tryz.underlying84 heldElem (zeroNodes _) (.held (.slice none 0 0)) [] rfl m1 m D rfl hown _ _ rfl hkey ?_; intro v ps hv)
    clear hv
    refine (HN.out _ (E0.out.keep X0.out)).mono ?_
    rintro e w1 ⟨u, rfl, he, hs, hu⟩
    have E1 := Lib.hid he
    have S1 := Lib.hid ((NStep.of_ext X0.out).trans hs)
    have F1 := Lib.hid hu
    obtain ⟨Au, cu, rfl, _⟩ := fml_slice hu
    obtain ⟨D1, k1, hown1, hcnt1, hD1⟩ := he.f1
    obtain ⟨y0, y1, y2, _⟩ := cells3n he.blk
    have hlim := formCount_le D1 c
    have HC1 := Lib.hid hcnt1
    have HD1 := Lib.hid hD1
    have HO1 := Lib.hid hown1
    clear hs hu d0 d1 d2 q0 q1 q2 q3 q4 q5 z0 z1 z2 z3 z4 z5 zlt hD1 he hown
    go_wp2_with (at_mapUpdate; refine wpList_mapUpdate_in _ rfl _ _ _ 84 rfl 3 22 intKeyed Tryz.underlying84 heldElem m1 k1 D1 rfl hown1 (by unfold maxLen; omega) _ _ _ rfl rfl hkey (.held (.slice Au (negS n (fun b j => nnfN c b j.toNat)).length cu)) [] rfl ?_; intro w2 hown2 hturn2)
    have HF := Lib.hid (map_stored_yes E1.out F1.out HO1.out HC1.out HD1.out hi HEQ.out hown2 hturn2)
    clear hown2 hturn2 hown1 hcnt1 y0 y1 y2
    go_wp2_with fail
    go_ret
    exact ⟨_, rfl, HF.out.1, S1.out.trans HF.out.2.1, HF.out.2.2⟩
/-- The normal form of each node of a list. -/
theorem of_all {W0 : World} {bn m0 m1 cp : Nat} {A : Option Addr} {c : List Nd} (hc : Wf c) (hl : c.length ≤ 1000) (hf : Few10 c) (hok : ∀ n ∈ c, n.ok) : ∀ i : Nat, i < c.length → OfSaid W0 bn m0 m1 A cp c (i : Int) := by
  intro i
  induction i using Nat.strongRecOn with
  | _ i ih =>
    intro hi no w henv
    obtain ⟨n, hn⟩ : ∃ n, c[i]? = some n := ⟨_, List.getElem?_eq_getElem hi⟩
    obtain ⟨hx, hy⟩ := hc i n hn
    have hm := List.mem_of_getElem? hn
    have hX : hasX n.op = true → OfSaid W0 bn m0 m1 A cp c n.x := fun h => by
      have := ih n.x.toNat (by have := hx h; omega) (by have := hx h; omega)
      rwa [show ((n.x.toNat : Nat) : Int) = n.x by have := hx h; omega] at this
    have hY : hasY n.op = true → OfSaid W0 bn m0 m1 A cp c n.y := fun h => by
      have := ih n.y.toNat (by have := hy h; omega) (by have := hy h; omega)
      rwa [show ((n.y.toNat : Nat) : Int) = n.y by have := hy h; omega] at this
    rw [Int.toNat_natCast]
    cases no
    · exact of_no hc hl hn (fun w h => pos_said (hf n hm) hX hY (hok n hm).2.1 h) henv
    · exact of_yes hc hl hn (fun w h => neg_said (hf n hm) hX hY (hok n hm).2.1 h) henv
end Go.Proofs.YtfcmdiigfgbgbaaGreat

/- rewrite.Nnf, and the negation normal form of a negation. -/

namespace Go.Proofs.YtfcmdiigfgbgbaaGreat
open Go.RowKit

/-- The state while the two maps are made. -/
inductive NPre (W0 w : World) (bn : Nat) (A : Option Addr) (cp : Nat) (c : List Nd) : Nat → Prop where
  | none_ (hx : Ext W0 w) (hb : w.heap[bn]? = some (.cells #[.slice A c.length cp, .map none, .map none] 87 (0, 0))) : NPre W0 w bn A cp c 0
  | one (m0 : Nat) (hx : Ext W0 w) (hb : w.heap[bn]? = some (.cells #[.slice A c.length cp, .map (some m0), .map none] 87 (0, 0))) (h0 : W0.heap.size ≤ m0) (hm : w.ownsMap Tryz.prog 3 heldElem m0 0 (.map [])) : NPre W0 w bn A cp c 1
  | both (m0 m1 : Nat) (he : NEnv W0 w bn m0 m1 A cp c) : NPre W0 w bn A cp c 2
theorem FormMap.empty {w : World} {b : Nat} (c : List Nd) (no : Bool) (h : w.ownsMap Tryz.prog 3 heldElem b 0 (.map [])) : FormMap w b c no :=
  ⟨.map [], 0, h, Nat.zero_le _, fun i hi => by simp [Go.Maps.has] at hi⟩
theorem frozen3 {w : World} {b : Nat} {a0 a1 a2 : Value} {t : TypeId} (h : w.heap[b]? = some (.cells #[a0, a1, a2] t (0, 0))) : ∀ j, w.frozen? ⟨b, j, none⟩ = false := fun j => by simp [World.frozen?, h]
theorem set3_1 {w : World} {b : Nat} {a0 a1 a2 : Value} {t : TypeId} (h : w.heap[b]? = some (.cells #[a0, a1, a2] t (0, 0))) (u : Value) : (w.setCell ⟨b, 1, none⟩ u).heap[b]? = some (.cells #[a0, u, a2] t (0, 0)) := by
  simp only [World.setCell, Array.getElem?_modify, h, if_true, Option.map_some]
  simp
theorem set3_2 {w : World} {b : Nat} {a0 a1 a2 : Value} {t : TypeId} (h : w.heap[b]? = some (.cells #[a0, a1, a2] t (0, 0))) (u : Value) : (w.setCell ⟨b, 2, none⟩ u).heap[b]? = some (.cells #[a0, a1, u] t (0, 0)) := by
  simp only [World.setCell, Array.getElem?_modify, h, if_true, Option.map_some]
  simp
section
variable {W0 w : World} {bn cp : Nat} {A : Option Addr} {c : List Nd}
theorem made_map (w : World) (p : Addr) (u : Value) (hp : w.heap.size ≠ p.block) : ((w.alloc (.map #[] 0)).setCell p u).ownsMap Tryz.prog 3 heldElem w.heap.size 0 (.map []) :=
  ownsMapV_of_block (World.ownsMap_made w _ _ _) (Below.heap_setCell _ _ _ _ hp)
theorem NPre.first (hx : Ext W0 w) (hb : w.heap[bn]? = some (.cells #[.slice A c.length cp, .map none, .map none] 87 (0, 0))) (hl : W0.heap.size ≤ bn) :
    NPre W0 ((w.setCell ⟨bn, 1, none⟩ (.map (some w.heap.size))).alloc (.map #[] 0)) bn A cp c 1 := by
  have hlt := lt_heap hb
  rw [← World.setCell_alloc_past _ _ _ _ hlt]
  have hb2 := (((Ext.refl w).alloc (.map #[] 0)).block hlt).trans hb
  exact .one w.heap.size ((hx.alloc _).setCell hl _) (set3_1 hb2 _) hx.size (made_map w _ _ (by show w.heap.size ≠ bn; omega))
theorem NPre.second {m0 : Nat} (hx : Ext W0 w) (hb : w.heap[bn]? = some (.cells #[.slice A c.length cp, .map (some m0), .map none] 87 (0, 0))) (h0 : W0.heap.size ≤ m0) (hm : w.ownsMap Tryz.prog 3 heldElem m0 0 (.map [])) (hl : W0.heap.size ≤ bn) (hc : Fml W0 (.slice A c.length cp) c) :
    NPre W0 ((w.setCell ⟨bn, 2, none⟩ (.map (some w.heap.size))).alloc (.map #[] 0)) bn A cp c 2 := by
  have hlt := lt_heap hb
  rw [← World.setCell_alloc_past _ _ _ _ hlt]
  have hb2 := (((Ext.refl w).alloc (.map #[] 0)).block hlt).trans hb
  have hne : m0 ≠ bn := fun e => by
    obtain ⟨es, k, h1, _⟩ := hm
    rw [e, hb] at h1
    cases h1
  have hm0 := hm.lt
  have hk : ((w.alloc (.map #[] 0)).setCell ⟨bn, 2, none⟩ (.map (some w.heap.size))).heap[m0]? = w.heap[m0]? := (Below.heap_setCell _ _ _ _ hne).trans (((Ext.refl w).alloc (.map #[] 0)).block hm0)
  exact .both m0 w.heap.size ⟨(hx.alloc _).setCell hl _, hc, set3_2 hb2 _, .empty c false (ownsMapV_of_block hm hk), .empty c true (made_map w _ _ (by show w.heap.size ≠ bn; omega)), ⟨h0, hx.size⟩, by omega⟩
end
def longErr (l : List Nd) : Int := bif decide (l.length = 0) then 8 else 0
set_option maxRecDepth 100000 in
set_option maxHeartbeats 2000000 in
theorem long_any (v : Value) (l : List Nd) (w : World) (h : Fml w v l) :
    Calls Tryz.prog 73 #[v] w fun e w' => ∃ u, e = .returned (.tuple #[u, .int .i64 (longErr l)]) ∧ Ext w w' ∧ Fml w' u l := by
  have H := Lib.hid h
  obtain ⟨A, c, rfl, _⟩ := fml_slice h
  clear h
  by_cases h0 : l.length = 0
  · have hn : l = [] := List.length_eq_zero_iff.1 h0
    subst hn
    go_enter Tryz.func73, Tryz.ntmps73
    go_wp2_with fail
    go_ret2
    exact ⟨_, rfl, Ext.refl _, nfml_nil _⟩
  · have hd : ((l.length : Int) == 0) = false := by rw [beq_eq_false_iff_ne]; omega
    have HD := Lib.hid (show longErr l = 0 by unfold longErr; rw [decide_eq_false h0]; rfl)
    clear h0
    go_enter Tryz.func73, Tryz.ntmps73
    go_wp2_with fail
    go_ret2
    rw [HD.out]
    exact ⟨_, rfl, Ext.refl _, H.out⟩
set_option maxRecDepth 100000 in
set_option maxHeartbeats 8000000 in
theorem nnf_any (v : Value) (f : List Nd) (w : World) (h : Fml w v f) (hF : check f = 0 → Few10 (compactN f)) :
    Calls Tryz.prog 49 #[v] w fun e w' => ∃ u, e = .returned (.tuple #[u, .int .i64 (nnfErr f)]) ∧ Ext w w' ∧ Fml w' u (nnfAll f) := by
  have H := Lib.hid h
  have HFW := Lib.hid hF
  have hmm := @run_makeMap Tryz.prog
  obtain ⟨A, c, rfl, _⟩ := fml_slice h
  clear h hF
  go_enter Tryz.func49, Tryz.ntmps49
  go_wp2_with fail
  refine (check_any _ f _ H.out.1).mono ?_
  rintro e w1 ⟨rfl, hx⟩
  have X1 := Lib.hid hx
  clear hx
  cases hc : check f != 0
  case true =>
    have HE := Lib.hid (show nnfErr f = check f ∧ nnfAll f = [] by unfold nnfErr nnfAll; rw [hc]; exact ⟨rfl, rfl⟩)
    go_wp2_with fail
    go_ret2
    rw [HE.out.1, HE.out.2]
    exact ⟨_, rfl, X1.out, nfml_nil _⟩
  case false =>
    have hc0 : check f = 0 := by simpa using hc
    have HE := Lib.hid (show nnfErr f = longErr (nnfAll f) ∧ nnfAll f = nnfN (compactN f) false ((compactN f).length - 1) by
      unfold nnfErr
      rw [hc]
      refine ⟨rfl, ?_⟩
      unfold nnfAll
      rw [hc]
      rfl)
    obtain ⟨cw, cl, cpos, _⟩ := compactN_props hc0
    have hl200 := (check_parts hc0).2.1
    have CW := Lib.hid cw
    have HF10 := Lib.hid (HFW.out hc0)
    generalize hcc : compactN f = cc at HE CW HF10 cl cpos
    have HCC := Lib.hid hcc
    have HC := Lib.hid hc
    clear cw hcc hc0
    go_wp2_with fail
    refine (compactF_any _ f _ (H.out.ext X1.out)).mono ?_
    rintro e w2 ⟨u, rfl, hm⟩
    rw [HCC.out] at hm
    have X2 := Lib.hid (X1.out.trans hm.2.2)
    have HF := Lib.hid hm.fml
    obtain ⟨Au, cu, rfl, _⟩ := fml_slice hm.fml
    have hcap : cc.length ≤ cu := by
      obtain ⟨A', c', e, h1, _⟩ := HF.out.1
      injection e with _ _ e3
      subst e3
      exact h1
    clear hm hc
    have hbx : (w2.alloc (.cells #[.slice Au cc.length cu, .map none, .map none] 87)).heap[w2.heap.size]? = some (.cells #[.slice Au cc.length cu, .map none, .map none] 87 (0, 0)) := heap_alloc_new _ _
    have HB := Lib.hid (NPre.none_ (W0 := w2) ((Ext.refl w2).alloc (.cells #[.slice Au cc.length cu, .map none, .map none] 87)) hbx)
    clear hbx
    go_wp2_with fail
    go_loopw [16] (fun v wr => ∃ k : Nat, v = .int .i64 (k : Int) ∧ k ≤ 2 ∧ Hid (NPre w2 wr w2.heap.size Au cu cc k)) (fun v _ => 2 - (intOf v).toNat)
    case atStart => exact ⟨0, rfl, by omega, HB⟩
    case round =>
      obtain ⟨k, rfl, hk, HP⟩ := hrel
      cases hp : HP.out with
      | none_ hx hb =>
        have N1 := Lib.hid (NPre.first hx hb (Nat.le_refl _))
        have hfz := frozen3 hb
        obtain ⟨d0, d1, d2, dlt⟩ := cells3n hb
        clear hp hb hx HP
        go_wp2_with fail
        go_roundw
        case rel => exact ⟨1, rfl, by omega, N1⟩
        case measure => simp [intOf]
      | one m0 hx hb h0 hm =>
        have N1 := Lib.hid (NPre.second hx hb h0 hm (Nat.le_refl _) HF.out)
        have hfz := frozen3 hb
        obtain ⟨d0, d1, d2, dlt⟩ := cells3n hb
        clear hp hb hx hm HP
        go_wp2_with fail
        go_roundw
        case rel => exact ⟨2, rfl, by omega, N1⟩
        case measure => simp [intOf]
      | both m0 m1 he =>
        have E0 := Lib.hid he
        obtain ⟨d0, d1, d2, dlt⟩ := cells3n he.blk
        have hlen0 : (0 : Int) ≤ (cc.length : Int) - 1 := by omega
        have hof := of_all (W0 := w2) (bn := w2.heap.size) (m0 := m0) (m1 := m1) (A := Au) (cp := cu) CW.out (by omega) HF10.out HF.out.2 (cc.length - 1) (by omega)
        rw [show (((cc.length - 1 : Nat) : Int)) = (cc.length : Int) - 1 by omega] at hof
        have HOF := Lib.hid hof
        have hT : ((cc.length : Int) - 1).toNat = cc.length - 1 := by omega
        clear hp he hof HP
        go_wp2_with fail
        refine (HOF.out false _ E0.out).mono ?_
        rintro e w4 ⟨u4, rfl, he4, hs4, hu4⟩
        rw [hT] at hu4
        have F4 := Lib.hid hu4
        have X4 := Lib.hid (X2.out.trans he4.ext)
        clear he4 hs4 d0 d1 d2 dlt
        obtain ⟨A4, c4, rfl, _⟩ := fml_slice hu4
        clear hu4
        go_wp2_with fail
        refine (long_any _ _ _ F4.out).mono ?_
        rintro e w5 ⟨u5, rfl, hx5, hu5⟩
        have X5 := Lib.hid (X4.out.trans hx5)
        have F5 := Lib.hid hu5
        clear hx5 hu5
        go_wp2_with fail
        go_ret2
        rw [HE.out.1, HE.out.2]
        exact ⟨_, rfl, X5.out, F5.out⟩
set_option maxRecDepth 100000 in
set_option maxHeartbeats 2000000 in
theorem opposite_any (v : Value) (f : List Nd) (w : World) (h : Fml w v f) (hF : check (notN f) = 0 → Few10 (compactN (notN f))) :
    Calls Tryz.prog 25 #[v] w fun e w' => ∃ u, e = .returned u ∧ Ext w w' ∧ Fml w' u (oppN f) := by
  have H := Lib.hid h
  have HF := Lib.hid hF
  obtain ⟨A, c, rfl, _⟩ := fml_slice h
  clear h hF
  go_enter Tryz.func25, Tryz.ntmps25
  go_wp2_with fail
  refine (not_any _ f _ H.out).mono ?_
  rintro e w1 ⟨u, rfl, hm⟩
  have HM := Lib.hid hm
  clear hm
  go_wp2_with fail
  refine (nnf_any _ (notN f) _ HM.out.fml HF.out).mono ?_
  rintro e w2 ⟨u2, rfl, hx, hu⟩
  have X2 := Lib.hid (HM.out.2.2.trans hx)
  have F2 := Lib.hid hu
  clear hx hu
  go_wp2_with fail
  go_ret
  exact ⟨_, rfl, X2.out, F2.out⟩
end Go.Proofs.YtfcmdiigfgbgbaaGreat
