/- The normal forms of implications and equivalences; of negations. -/
import Derived.Test.YtdpblciohodgcaaGreatDoorS13
import Derived.Deep.RegionHeld3

namespace Go.Proofs.YtdpblciohodgcaaGreatDoor
open Go.RowKit

set_option maxRecDepth 100000 in
set_option maxHeartbeats 8000000 in
theorem pos_7 {W0 w : World} {bn m0 m1 cp : Nat} {A : Option Addr} {c : List Nd} {n : Nd} (hop : n.op = 7) (hx : OfSaid W0 bn m0 m1 A cp c n.x) (hy : OfSaid W0 bn m0 m1 A cp c n.y) (henv : NEnv W0 w bn m0 m1 A cp c) :
    Calls Tryz.prog 103 #[.pointer (some ⟨bn, 0, none⟩), n.val] w fun e w' => ∃ u, e = .returned u ∧ NEnv W0 w' bn m0 m1 A cp c ∧ NStep m0 m1 w w' ∧ Fml w' u (posS n (fun b j => nnfN c b j.toNat)) := by
  obtain ⟨o, i, e, k, x, y⟩ := n
  simp only at hop
  subst hop
  have X0 := Lib.hid ((Ext.refl w).alloc (.cells #[.int .i64 7, .int .i64 i, .int .i64 e, .int .i64 k, .int .i64 x, .int .i64 y] 68))
  have E0 := Lib.hid (henv.keep X0.out)
  have S0 := Lib.hid (NStep.of_ext (m0 := m0) (m1 := m1) X0.out)
  have hbx : (w.alloc (.cells #[.int .i64 7, .int .i64 i, .int .i64 e, .int .i64 k, .int .i64 x, .int .i64 y] 68)).heap[w.heap.size]? = some (.cells #[.int .i64 7, .int .i64 i, .int .i64 e, .int .i64 k, .int .i64 x, .int .i64 y] 68 (0, 0)) := heap_alloc_new _ _
  have B0 := Lib.hid hbx
  have hm0 := henv.f0.lt
  have hm1 := henv.f1.lt
  have hn0 : w.heap.size ≠ m0 := by omega
  have hn1 : w.heap.size ≠ m1 := by omega
  unfold Nd.val
  have HX := Lib.hid hx
  clear hx
  have HY := Lib.hid hy
  clear hy
  clear hm0 hm1 hbx henv
  go_enter Tryz.func103, Tryz.ntmps103
  go_wp2_with fail
  have HE := Lib.hid (show posS (⟨7, i, e, k, x, y⟩ : Nd) (fun b j => nnfN c b j.toNat) = orN (nnfN c true x.toNat) (nnfN c false y.toNat) from rfl)
  obtain ⟨W, hW⟩ : ∃ W, W = w.alloc (.cells #[.int .i64 7, .int .i64 i, .int .i64 e, .int .i64 k, .int .i64 x, .int .i64 y] 68) := ⟨_, rfl⟩
  rw [← hW] at X0 E0 S0 B0 ⊢
  clear hW
  have HK := Lib.hid (show ∀ w', NStep m0 m1 W w' → (w'.cell? ⟨w.heap.size, 4, none⟩ = some (.int .i64 x) ∧ w'.cell? ⟨w.heap.size, 5, none⟩ = some (.int .i64 y) ∧ w'.cell? ⟨w.heap.size, 1, none⟩ = some (.int .i64 i)) from fun w' hs => by
    obtain ⟨⟨z0, z1, z2, z3, z4, z5⟩, _, _⟩ := cells6 (hs.box B0.out hn0 hn1)
    exact ⟨z4, z5, z1⟩)
  have KS := HK.out W NStep.refl
  go_region_held3 (fun w' => w'.cell? ⟨w.heap.size, 4, none⟩ = some (.int .i64 x) ∧ w'.cell? ⟨w.heap.size, 5, none⟩ = some (.int .i64 y) ∧ w'.cell? ⟨w.heap.size, 1, none⟩ = some (.int .i64 i)) (first | exact KS | exact KSa | exact KSb | exact KSc | go_keep) (first | (have hq := Eb.out; clear hq; go_at_call 109; refine (or_any _ _ (nnfN c true x.toNat) (nnfN c false y.toNat) _ (by exact Fab.out.ext xw) (by exact Fbb.out.ext xw)).mono ?_; rintro e wc ⟨uc, rfl, hmc⟩; have hxc : Ext wb wc := Ext.trans xw hmc.2.2; have Ec := Lib.hid (Eb.out.keep hxc); have Sc := Lib.hid (Sb.out.trans (NStep.of_ext hxc)); have Fcc := Lib.hid hmc.fml; obtain ⟨Ac, cc, rfl, _⟩ := fml_slice hmc.fml; have KSc := HK.out _ Sc.out; clear hmc hxc) | (have hq := Ea.out; clear hq; go_at_call 90; refine (HY.out false _ (by exact Ea.out.keep xw)).mono ?_; rintro e wb ⟨ub, rfl, heb, hsb, hub⟩; have Eb := Lib.hid heb; have Sb := Lib.hid (NStep.trans (Sa.out.trans (NStep.of_ext (a := wa) xw)) hsb); have Fbb := Lib.hid hub; have Fab := Lib.hid ((Ea.out.keep (show Ext wa _ from xw)).fml (Faa.out.ext xw) hsb); obtain ⟨Ab, cb, rfl, _⟩ := fml_slice hub; have KSb := HK.out _ Sb.out; clear heb hsb hub) | (go_at_call 90; refine (HX.out true _ (by exact E0.out.keep xw)).mono ?_; rintro e wa ⟨ua, rfl, hea, hsa, hua⟩; have Ea := Lib.hid hea; have Sa := Lib.hid (NStep.trans (NStep.of_ext (a := W) xw) hsa); have Faa := Lib.hid hua; obtain ⟨Aa, ca, rfl, _⟩ := fml_slice hua; have KSa := HK.out _ Sa.out; clear hea hsa hua))
  all_goals
    go_wp2_with fail
    go_ret
    rw [HE.out]
    exact ⟨_, rfl, Ec.out.keep xw, (S0.out.trans Sc.out).trans (NStep.of_ext (a := wc) xw), Fcc.out.ext xw⟩

set_option maxRecDepth 100000 in
set_option maxHeartbeats 8000000 in
theorem neg_5 {W0 w : World} {bn m0 m1 cp : Nat} {A : Option Addr} {c : List Nd} {n : Nd} (hop : n.op = 5) (hx : OfSaid W0 bn m0 m1 A cp c n.x) (hy : OfSaid W0 bn m0 m1 A cp c n.y) (henv : NEnv W0 w bn m0 m1 A cp c) :
    Calls Tryz.prog 102 #[.pointer (some ⟨bn, 0, none⟩), n.val] w fun e w' => ∃ u, e = .returned u ∧ NEnv W0 w' bn m0 m1 A cp c ∧ NStep m0 m1 w w' ∧ Fml w' u (negS n (fun b j => nnfN c b j.toNat)) := by
  obtain ⟨o, i, e, k, x, y⟩ := n
  simp only at hop
  subst hop
  have X0 := Lib.hid ((Ext.refl w).alloc (.cells #[.int .i64 5, .int .i64 i, .int .i64 e, .int .i64 k, .int .i64 x, .int .i64 y] 68))
  have E0 := Lib.hid (henv.keep X0.out)
  have S0 := Lib.hid (NStep.of_ext (m0 := m0) (m1 := m1) X0.out)
  have hbx : (w.alloc (.cells #[.int .i64 5, .int .i64 i, .int .i64 e, .int .i64 k, .int .i64 x, .int .i64 y] 68)).heap[w.heap.size]? = some (.cells #[.int .i64 5, .int .i64 i, .int .i64 e, .int .i64 k, .int .i64 x, .int .i64 y] 68 (0, 0)) := heap_alloc_new _ _
  have B0 := Lib.hid hbx
  have hm0 := henv.f0.lt
  have hm1 := henv.f1.lt
  have hn0 : w.heap.size ≠ m0 := by omega
  have hn1 : w.heap.size ≠ m1 := by omega
  unfold Nd.val
  have HX := Lib.hid hx
  clear hx
  have HY := Lib.hid hy
  clear hy
  clear hm0 hm1 hbx henv
  go_enter Tryz.func102, Tryz.ntmps102
  go_wp2_with fail
  have HE := Lib.hid (show negS (⟨5, i, e, k, x, y⟩ : Nd) (fun b j => nnfN c b j.toNat) = orN (nnfN c true x.toNat) (nnfN c true y.toNat) from rfl)
  obtain ⟨W, hW⟩ : ∃ W, W = w.alloc (.cells #[.int .i64 5, .int .i64 i, .int .i64 e, .int .i64 k, .int .i64 x, .int .i64 y] 68) := ⟨_, rfl⟩
  rw [← hW] at X0 E0 S0 B0 ⊢
  clear hW
  have HK := Lib.hid (show ∀ w', NStep m0 m1 W w' → (w'.cell? ⟨w.heap.size, 4, none⟩ = some (.int .i64 x) ∧ w'.cell? ⟨w.heap.size, 5, none⟩ = some (.int .i64 y) ∧ w'.cell? ⟨w.heap.size, 1, none⟩ = some (.int .i64 i)) from fun w' hs => by
    obtain ⟨⟨z0, z1, z2, z3, z4, z5⟩, _, _⟩ := cells6 (hs.box B0.out hn0 hn1)
    exact ⟨z4, z5, z1⟩)
  have KS := HK.out W NStep.refl
  go_region_held3 (fun w' => w'.cell? ⟨w.heap.size, 4, none⟩ = some (.int .i64 x) ∧ w'.cell? ⟨w.heap.size, 5, none⟩ = some (.int .i64 y) ∧ w'.cell? ⟨w.heap.size, 1, none⟩ = some (.int .i64 i)) (first | exact KS | exact KSa | exact KSb | exact KSc | go_keep) (first | (have hq := Eb.out; clear hq; go_at_call 109; refine (or_any _ _ (nnfN c true x.toNat) (nnfN c true y.toNat) _ (by exact Fab.out.ext xw) (by exact Fbb.out.ext xw)).mono ?_; rintro e wc ⟨uc, rfl, hmc⟩; have hxc : Ext wb wc := Ext.trans xw hmc.2.2; have Ec := Lib.hid (Eb.out.keep hxc); have Sc := Lib.hid (Sb.out.trans (NStep.of_ext hxc)); have Fcc := Lib.hid hmc.fml; obtain ⟨Ac, cc, rfl, _⟩ := fml_slice hmc.fml; have KSc := HK.out _ Sc.out; clear hmc hxc) | (have hq := Ea.out; clear hq; go_at_call 90; refine (HY.out true _ (by exact Ea.out.keep xw)).mono ?_; rintro e wb ⟨ub, rfl, heb, hsb, hub⟩; have Eb := Lib.hid heb; have Sb := Lib.hid (NStep.trans (Sa.out.trans (NStep.of_ext (a := wa) xw)) hsb); have Fbb := Lib.hid hub; have Fab := Lib.hid ((Ea.out.keep (show Ext wa _ from xw)).fml (Faa.out.ext xw) hsb); obtain ⟨Ab, cb, rfl, _⟩ := fml_slice hub; have KSb := HK.out _ Sb.out; clear heb hsb hub) | (go_at_call 90; refine (HX.out true _ (by exact E0.out.keep xw)).mono ?_; rintro e wa ⟨ua, rfl, hea, hsa, hua⟩; have Ea := Lib.hid hea; have Sa := Lib.hid (NStep.trans (NStep.of_ext (a := W) xw) hsa); have Faa := Lib.hid hua; obtain ⟨Aa, ca, rfl, _⟩ := fml_slice hua; have KSa := HK.out _ Sa.out; clear hea hsa hua))
  all_goals
    go_wp2_with fail
    go_ret
    rw [HE.out]
    exact ⟨_, rfl, Ec.out.keep xw, (S0.out.trans Sc.out).trans (NStep.of_ext (a := wc) xw), Fcc.out.ext xw⟩

set_option maxRecDepth 100000 in
set_option maxHeartbeats 8000000 in
theorem neg_6 {W0 w : World} {bn m0 m1 cp : Nat} {A : Option Addr} {c : List Nd} {n : Nd} (hop : n.op = 6) (hx : OfSaid W0 bn m0 m1 A cp c n.x) (hy : OfSaid W0 bn m0 m1 A cp c n.y) (henv : NEnv W0 w bn m0 m1 A cp c) :
    Calls Tryz.prog 102 #[.pointer (some ⟨bn, 0, none⟩), n.val] w fun e w' => ∃ u, e = .returned u ∧ NEnv W0 w' bn m0 m1 A cp c ∧ NStep m0 m1 w w' ∧ Fml w' u (negS n (fun b j => nnfN c b j.toNat)) := by
  obtain ⟨o, i, e, k, x, y⟩ := n
  simp only at hop
  subst hop
  have X0 := Lib.hid ((Ext.refl w).alloc (.cells #[.int .i64 6, .int .i64 i, .int .i64 e, .int .i64 k, .int .i64 x, .int .i64 y] 68))
  have E0 := Lib.hid (henv.keep X0.out)
  have S0 := Lib.hid (NStep.of_ext (m0 := m0) (m1 := m1) X0.out)
  have hbx : (w.alloc (.cells #[.int .i64 6, .int .i64 i, .int .i64 e, .int .i64 k, .int .i64 x, .int .i64 y] 68)).heap[w.heap.size]? = some (.cells #[.int .i64 6, .int .i64 i, .int .i64 e, .int .i64 k, .int .i64 x, .int .i64 y] 68 (0, 0)) := heap_alloc_new _ _
  have B0 := Lib.hid hbx
  have hm0 := henv.f0.lt
  have hm1 := henv.f1.lt
  have hn0 : w.heap.size ≠ m0 := by omega
  have hn1 : w.heap.size ≠ m1 := by omega
  unfold Nd.val
  have HX := Lib.hid hx
  clear hx
  have HY := Lib.hid hy
  clear hy
  clear hm0 hm1 hbx henv
  go_enter Tryz.func102, Tryz.ntmps102
  go_wp2_with fail
  have HE := Lib.hid (show negS (⟨6, i, e, k, x, y⟩ : Nd) (fun b j => nnfN c b j.toNat) = andN (nnfN c true x.toNat) (nnfN c true y.toNat) from rfl)
  obtain ⟨W, hW⟩ : ∃ W, W = w.alloc (.cells #[.int .i64 6, .int .i64 i, .int .i64 e, .int .i64 k, .int .i64 x, .int .i64 y] 68) := ⟨_, rfl⟩
  rw [← hW] at X0 E0 S0 B0 ⊢
  clear hW
  have HK := Lib.hid (show ∀ w', NStep m0 m1 W w' → (w'.cell? ⟨w.heap.size, 4, none⟩ = some (.int .i64 x) ∧ w'.cell? ⟨w.heap.size, 5, none⟩ = some (.int .i64 y) ∧ w'.cell? ⟨w.heap.size, 1, none⟩ = some (.int .i64 i)) from fun w' hs => by
    obtain ⟨⟨z0, z1, z2, z3, z4, z5⟩, _, _⟩ := cells6 (hs.box B0.out hn0 hn1)
    exact ⟨z4, z5, z1⟩)
  have KS := HK.out W NStep.refl
  go_region_held3 (fun w' => w'.cell? ⟨w.heap.size, 4, none⟩ = some (.int .i64 x) ∧ w'.cell? ⟨w.heap.size, 5, none⟩ = some (.int .i64 y) ∧ w'.cell? ⟨w.heap.size, 1, none⟩ = some (.int .i64 i)) (first | exact KS | exact KSa | exact KSb | exact KSc | go_keep) (first | (have hq := Eb.out; clear hq; go_at_call 110; refine (and_any _ _ (nnfN c true x.toNat) (nnfN c true y.toNat) _ (by exact Fab.out.ext xw) (by exact Fbb.out.ext xw)).mono ?_; rintro e wc ⟨uc, rfl, hmc⟩; have hxc : Ext wb wc := Ext.trans xw hmc.2.2; have Ec := Lib.hid (Eb.out.keep hxc); have Sc := Lib.hid (Sb.out.trans (NStep.of_ext hxc)); have Fcc := Lib.hid hmc.fml; obtain ⟨Ac, cc, rfl, _⟩ := fml_slice hmc.fml; have KSc := HK.out _ Sc.out; clear hmc hxc) | (have hq := Ea.out; clear hq; go_at_call 90; refine (HY.out true _ (by exact Ea.out.keep xw)).mono ?_; rintro e wb ⟨ub, rfl, heb, hsb, hub⟩; have Eb := Lib.hid heb; have Sb := Lib.hid (NStep.trans (Sa.out.trans (NStep.of_ext (a := wa) xw)) hsb); have Fbb := Lib.hid hub; have Fab := Lib.hid ((Ea.out.keep (show Ext wa _ from xw)).fml (Faa.out.ext xw) hsb); obtain ⟨Ab, cb, rfl, _⟩ := fml_slice hub; have KSb := HK.out _ Sb.out; clear heb hsb hub) | (go_at_call 90; refine (HX.out true _ (by exact E0.out.keep xw)).mono ?_; rintro e wa ⟨ua, rfl, hea, hsa, hua⟩; have Ea := Lib.hid hea; have Sa := Lib.hid (NStep.trans (NStep.of_ext (a := W) xw) hsa); have Faa := Lib.hid hua; obtain ⟨Aa, ca, rfl, _⟩ := fml_slice hua; have KSa := HK.out _ Sa.out; clear hea hsa hua))
  all_goals
    go_wp2_with fail
    go_ret
    rw [HE.out]
    exact ⟨_, rfl, Ec.out.keep xw, (S0.out.trans Sc.out).trans (NStep.of_ext (a := wc) xw), Fcc.out.ext xw⟩

set_option maxRecDepth 100000 in
set_option maxHeartbeats 8000000 in
theorem neg_7 {W0 w : World} {bn m0 m1 cp : Nat} {A : Option Addr} {c : List Nd} {n : Nd} (hop : n.op = 7) (hx : OfSaid W0 bn m0 m1 A cp c n.x) (hy : OfSaid W0 bn m0 m1 A cp c n.y) (henv : NEnv W0 w bn m0 m1 A cp c) :
    Calls Tryz.prog 102 #[.pointer (some ⟨bn, 0, none⟩), n.val] w fun e w' => ∃ u, e = .returned u ∧ NEnv W0 w' bn m0 m1 A cp c ∧ NStep m0 m1 w w' ∧ Fml w' u (negS n (fun b j => nnfN c b j.toNat)) := by
  obtain ⟨o, i, e, k, x, y⟩ := n
  simp only at hop
  subst hop
  have X0 := Lib.hid ((Ext.refl w).alloc (.cells #[.int .i64 7, .int .i64 i, .int .i64 e, .int .i64 k, .int .i64 x, .int .i64 y] 68))
  have E0 := Lib.hid (henv.keep X0.out)
  have S0 := Lib.hid (NStep.of_ext (m0 := m0) (m1 := m1) X0.out)
  have hbx : (w.alloc (.cells #[.int .i64 7, .int .i64 i, .int .i64 e, .int .i64 k, .int .i64 x, .int .i64 y] 68)).heap[w.heap.size]? = some (.cells #[.int .i64 7, .int .i64 i, .int .i64 e, .int .i64 k, .int .i64 x, .int .i64 y] 68 (0, 0)) := heap_alloc_new _ _
  have B0 := Lib.hid hbx
  have hm0 := henv.f0.lt
  have hm1 := henv.f1.lt
  have hn0 : w.heap.size ≠ m0 := by omega
  have hn1 : w.heap.size ≠ m1 := by omega
  unfold Nd.val
  have HX := Lib.hid hx
  clear hx
  have HY := Lib.hid hy
  clear hy
  clear hm0 hm1 hbx henv
  go_enter Tryz.func102, Tryz.ntmps102
  go_wp2_with fail
  have HE := Lib.hid (show negS (⟨7, i, e, k, x, y⟩ : Nd) (fun b j => nnfN c b j.toNat) = andN (nnfN c false x.toNat) (nnfN c true y.toNat) from rfl)
  obtain ⟨W, hW⟩ : ∃ W, W = w.alloc (.cells #[.int .i64 7, .int .i64 i, .int .i64 e, .int .i64 k, .int .i64 x, .int .i64 y] 68) := ⟨_, rfl⟩
  rw [← hW] at X0 E0 S0 B0 ⊢
  clear hW
  have HK := Lib.hid (show ∀ w', NStep m0 m1 W w' → (w'.cell? ⟨w.heap.size, 4, none⟩ = some (.int .i64 x) ∧ w'.cell? ⟨w.heap.size, 5, none⟩ = some (.int .i64 y) ∧ w'.cell? ⟨w.heap.size, 1, none⟩ = some (.int .i64 i)) from fun w' hs => by
    obtain ⟨⟨z0, z1, z2, z3, z4, z5⟩, _, _⟩ := cells6 (hs.box B0.out hn0 hn1)
    exact ⟨z4, z5, z1⟩)
  have KS := HK.out W NStep.refl
  go_region_held3 (fun w' => w'.cell? ⟨w.heap.size, 4, none⟩ = some (.int .i64 x) ∧ w'.cell? ⟨w.heap.size, 5, none⟩ = some (.int .i64 y) ∧ w'.cell? ⟨w.heap.size, 1, none⟩ = some (.int .i64 i)) (first | exact KS | exact KSa | exact KSb | exact KSc | go_keep) (first | (have hq := Eb.out; clear hq; go_at_call 110; refine (and_any _ _ (nnfN c false x.toNat) (nnfN c true y.toNat) _ (by exact Fab.out.ext xw) (by exact Fbb.out.ext xw)).mono ?_; rintro e wc ⟨uc, rfl, hmc⟩; have hxc : Ext wb wc := Ext.trans xw hmc.2.2; have Ec := Lib.hid (Eb.out.keep hxc); have Sc := Lib.hid (Sb.out.trans (NStep.of_ext hxc)); have Fcc := Lib.hid hmc.fml; obtain ⟨Ac, cc, rfl, _⟩ := fml_slice hmc.fml; have KSc := HK.out _ Sc.out; clear hmc hxc) | (have hq := Ea.out; clear hq; go_at_call 90; refine (HY.out true _ (by exact Ea.out.keep xw)).mono ?_; rintro e wb ⟨ub, rfl, heb, hsb, hub⟩; have Eb := Lib.hid heb; have Sb := Lib.hid (NStep.trans (Sa.out.trans (NStep.of_ext (a := wa) xw)) hsb); have Fbb := Lib.hid hub; have Fab := Lib.hid ((Ea.out.keep (show Ext wa _ from xw)).fml (Faa.out.ext xw) hsb); obtain ⟨Ab, cb, rfl, _⟩ := fml_slice hub; have KSb := HK.out _ Sb.out; clear heb hsb hub) | (go_at_call 90; refine (HX.out false _ (by exact E0.out.keep xw)).mono ?_; rintro e wa ⟨ua, rfl, hea, hsa, hua⟩; have Ea := Lib.hid hea; have Sa := Lib.hid (NStep.trans (NStep.of_ext (a := W) xw) hsa); have Faa := Lib.hid hua; obtain ⟨Aa, ca, rfl, _⟩ := fml_slice hua; have KSa := HK.out _ Sa.out; clear hea hsa hua))
  all_goals
    go_wp2_with fail
    go_ret
    rw [HE.out]
    exact ⟨_, rfl, Ec.out.keep xw, (S0.out.trans Sc.out).trans (NStep.of_ext (a := wc) xw), Fcc.out.ext xw⟩

set_option maxRecDepth 100000 in
set_option maxHeartbeats 8000000 in
theorem neg_9 {W0 w : World} {bn m0 m1 cp : Nat} {A : Option Addr} {c : List Nd} {n : Nd} (hop : n.op = 9) (hx : OfSaid W0 bn m0 m1 A cp c n.x) (hi : i64ok n.i) (henv : NEnv W0 w bn m0 m1 A cp c) :
    Calls Tryz.prog 102 #[.pointer (some ⟨bn, 0, none⟩), n.val] w fun e w' => ∃ u, e = .returned u ∧ NEnv W0 w' bn m0 m1 A cp c ∧ NStep m0 m1 w w' ∧ Fml w' u (negS n (fun b j => nnfN c b j.toNat)) := by
  obtain ⟨o, i, e, k, x, y⟩ := n
  simp only at hop
  subst hop
  have X0 := Lib.hid ((Ext.refl w).alloc (.cells #[.int .i64 9, .int .i64 i, .int .i64 e, .int .i64 k, .int .i64 x, .int .i64 y] 68))
  have E0 := Lib.hid (henv.keep X0.out)
  have S0 := Lib.hid (NStep.of_ext (m0 := m0) (m1 := m1) X0.out)
  have hbx : (w.alloc (.cells #[.int .i64 9, .int .i64 i, .int .i64 e, .int .i64 k, .int .i64 x, .int .i64 y] 68)).heap[w.heap.size]? = some (.cells #[.int .i64 9, .int .i64 i, .int .i64 e, .int .i64 k, .int .i64 x, .int .i64 y] 68 (0, 0)) := heap_alloc_new _ _
  have B0 := Lib.hid hbx
  have hm0 := henv.f0.lt
  have hm1 := henv.f1.lt
  have hn0 : w.heap.size ≠ m0 := by omega
  have hn1 : w.heap.size ≠ m1 := by omega
  unfold Nd.val
  have HX := Lib.hid hx
  clear hx
  clear hm0 hm1 hbx henv
  go_enter Tryz.func102, Tryz.ntmps102
  go_wp2_with fail
  have HE := Lib.hid (show negS (⟨9, i, e, k, x, y⟩ : Nd) (fun b j => nnfN c b j.toNat) = possN i (nnfN c true x.toNat) from rfl)
  obtain ⟨W, hW⟩ : ∃ W, W = w.alloc (.cells #[.int .i64 9, .int .i64 i, .int .i64 e, .int .i64 k, .int .i64 x, .int .i64 y] 68) := ⟨_, rfl⟩
  rw [← hW] at X0 E0 S0 B0 ⊢
  clear hW
  have HK := Lib.hid (show ∀ w', NStep m0 m1 W w' → (w'.cell? ⟨w.heap.size, 4, none⟩ = some (.int .i64 x) ∧ w'.cell? ⟨w.heap.size, 5, none⟩ = some (.int .i64 y) ∧ w'.cell? ⟨w.heap.size, 1, none⟩ = some (.int .i64 i)) from fun w' hs => by
    obtain ⟨⟨z0, z1, z2, z3, z4, z5⟩, _, _⟩ := cells6 (hs.box B0.out hn0 hn1)
    exact ⟨z4, z5, z1⟩)
  have KS := HK.out W NStep.refl
  go_region_held3 (fun w' => w'.cell? ⟨w.heap.size, 4, none⟩ = some (.int .i64 x) ∧ w'.cell? ⟨w.heap.size, 5, none⟩ = some (.int .i64 y) ∧ w'.cell? ⟨w.heap.size, 1, none⟩ = some (.int .i64 i)) (first | exact KS | exact KSa | exact KSb | go_keep) (first | (have hq := Ea.out; clear hq; go_at_call 111; refine (poss_any i hi _ (nnfN c true x.toNat) _ (by exact Faa.out.ext xw)).mono ?_; rintro e wb ⟨ub, rfl, hmb⟩; have hxb : Ext wa wb := Ext.trans xw hmb.2.2; have Eb := Lib.hid (Ea.out.keep hxb); have Sb := Lib.hid (Sa.out.trans (NStep.of_ext hxb)); have Fbb := Lib.hid hmb.fml; obtain ⟨Ab, cb, rfl, _⟩ := fml_slice hmb.fml; have KSb := HK.out _ Sb.out; clear hmb hxb) | (go_at_call 90; refine (HX.out true _ (by exact E0.out.keep xw)).mono ?_; rintro e wa ⟨ua, rfl, hea, hsa, hua⟩; have Ea := Lib.hid hea; have Sa := Lib.hid (NStep.trans (NStep.of_ext (a := W) xw) hsa); have Faa := Lib.hid hua; obtain ⟨Aa, ca, rfl, _⟩ := fml_slice hua; have KSa := HK.out _ Sa.out; clear hea hsa hua))
  all_goals
    go_wp2_with fail
    go_ret
    rw [HE.out]
    exact ⟨_, rfl, Eb.out.keep xw, (S0.out.trans Sb.out).trans (NStep.of_ext (a := wb) xw), Fbb.out.ext xw⟩

set_option maxRecDepth 100000 in
set_option maxHeartbeats 8000000 in
theorem neg_10 {W0 w : World} {bn m0 m1 cp : Nat} {A : Option Addr} {c : List Nd} {n : Nd} (hop : n.op = 10) (hx : OfSaid W0 bn m0 m1 A cp c n.x) (hi : i64ok n.i) (henv : NEnv W0 w bn m0 m1 A cp c) :
    Calls Tryz.prog 102 #[.pointer (some ⟨bn, 0, none⟩), n.val] w fun e w' => ∃ u, e = .returned u ∧ NEnv W0 w' bn m0 m1 A cp c ∧ NStep m0 m1 w w' ∧ Fml w' u (negS n (fun b j => nnfN c b j.toNat)) := by
  obtain ⟨o, i, e, k, x, y⟩ := n
  simp only at hop
  subst hop
  have X0 := Lib.hid ((Ext.refl w).alloc (.cells #[.int .i64 10, .int .i64 i, .int .i64 e, .int .i64 k, .int .i64 x, .int .i64 y] 68))
  have E0 := Lib.hid (henv.keep X0.out)
  have S0 := Lib.hid (NStep.of_ext (m0 := m0) (m1 := m1) X0.out)
  have hbx : (w.alloc (.cells #[.int .i64 10, .int .i64 i, .int .i64 e, .int .i64 k, .int .i64 x, .int .i64 y] 68)).heap[w.heap.size]? = some (.cells #[.int .i64 10, .int .i64 i, .int .i64 e, .int .i64 k, .int .i64 x, .int .i64 y] 68 (0, 0)) := heap_alloc_new _ _
  have B0 := Lib.hid hbx
  have hm0 := henv.f0.lt
  have hm1 := henv.f1.lt
  have hn0 : w.heap.size ≠ m0 := by omega
  have hn1 : w.heap.size ≠ m1 := by omega
  unfold Nd.val
  have HX := Lib.hid hx
  clear hx
  clear hm0 hm1 hbx henv
  go_enter Tryz.func102, Tryz.ntmps102
  go_wp2_with fail
  have HE := Lib.hid (show negS (⟨10, i, e, k, x, y⟩ : Nd) (fun b j => nnfN c b j.toNat) = knowN i (nnfN c true x.toNat) from rfl)
  obtain ⟨W, hW⟩ : ∃ W, W = w.alloc (.cells #[.int .i64 10, .int .i64 i, .int .i64 e, .int .i64 k, .int .i64 x, .int .i64 y] 68) := ⟨_, rfl⟩
  rw [← hW] at X0 E0 S0 B0 ⊢
  clear hW
  have HK := Lib.hid (show ∀ w', NStep m0 m1 W w' → (w'.cell? ⟨w.heap.size, 4, none⟩ = some (.int .i64 x) ∧ w'.cell? ⟨w.heap.size, 5, none⟩ = some (.int .i64 y) ∧ w'.cell? ⟨w.heap.size, 1, none⟩ = some (.int .i64 i)) from fun w' hs => by
    obtain ⟨⟨z0, z1, z2, z3, z4, z5⟩, _, _⟩ := cells6 (hs.box B0.out hn0 hn1)
    exact ⟨z4, z5, z1⟩)
  have KS := HK.out W NStep.refl
  go_region_held3 (fun w' => w'.cell? ⟨w.heap.size, 4, none⟩ = some (.int .i64 x) ∧ w'.cell? ⟨w.heap.size, 5, none⟩ = some (.int .i64 y) ∧ w'.cell? ⟨w.heap.size, 1, none⟩ = some (.int .i64 i)) (first | exact KS | exact KSa | exact KSb | go_keep) (first | (have hq := Ea.out; clear hq; go_at_call 18; refine (know_any i hi _ (nnfN c true x.toNat) _ (by exact Faa.out.ext xw)).mono ?_; rintro e wb ⟨ub, rfl, hmb⟩; have hxb : Ext wa wb := Ext.trans xw hmb.2.2; have Eb := Lib.hid (Ea.out.keep hxb); have Sb := Lib.hid (Sa.out.trans (NStep.of_ext hxb)); have Fbb := Lib.hid hmb.fml; obtain ⟨Ab, cb, rfl, _⟩ := fml_slice hmb.fml; have KSb := HK.out _ Sb.out; clear hmb hxb) | (go_at_call 90; refine (HX.out true _ (by exact E0.out.keep xw)).mono ?_; rintro e wa ⟨ua, rfl, hea, hsa, hua⟩; have Ea := Lib.hid hea; have Sa := Lib.hid (NStep.trans (NStep.of_ext (a := W) xw) hsa); have Faa := Lib.hid hua; obtain ⟨Aa, ca, rfl, _⟩ := fml_slice hua; have KSa := HK.out _ Sa.out; clear hea hsa hua))
  all_goals
    go_wp2_with fail
    go_ret
    rw [HE.out]
    exact ⟨_, rfl, Eb.out.keep xw, (S0.out.trans Sb.out).trans (NStep.of_ext (a := wb) xw), Fbb.out.ext xw⟩

set_option maxRecDepth 100000 in
set_option maxHeartbeats 8000000 in
theorem pos_8 {W0 w : World} {bn m0 m1 cp : Nat} {A : Option Addr} {c : List Nd} {n : Nd} (hop : n.op = 8) (hx : OfSaid W0 bn m0 m1 A cp c n.x) (hy : OfSaid W0 bn m0 m1 A cp c n.y) (henv : NEnv W0 w bn m0 m1 A cp c) :
    Calls Tryz.prog 103 #[.pointer (some ⟨bn, 0, none⟩), n.val] w fun e w' => ∃ u, e = .returned u ∧ NEnv W0 w' bn m0 m1 A cp c ∧ NStep m0 m1 w w' ∧ Fml w' u (posS n (fun b j => nnfN c b j.toNat)) := by
  obtain ⟨o, i, e, k, x, y⟩ := n
  simp only at hop
  subst hop
  have X0 := Lib.hid ((Ext.refl w).alloc (.cells #[.int .i64 8, .int .i64 i, .int .i64 e, .int .i64 k, .int .i64 x, .int .i64 y] 68))
  have E0 := Lib.hid (henv.keep X0.out)
  have S0 := Lib.hid (NStep.of_ext (m0 := m0) (m1 := m1) X0.out)
  have hbx : (w.alloc (.cells #[.int .i64 8, .int .i64 i, .int .i64 e, .int .i64 k, .int .i64 x, .int .i64 y] 68)).heap[w.heap.size]? = some (.cells #[.int .i64 8, .int .i64 i, .int .i64 e, .int .i64 k, .int .i64 x, .int .i64 y] 68 (0, 0)) := heap_alloc_new _ _
  have B0 := Lib.hid hbx
  have hm0 := henv.f0.lt
  have hm1 := henv.f1.lt
  have hn0 : w.heap.size ≠ m0 := by omega
  have hn1 : w.heap.size ≠ m1 := by omega
  unfold Nd.val
  have HX := Lib.hid hx
  clear hx
  have HY := Lib.hid hy
  clear hy
  clear hm0 hm1 hbx henv
  go_enter Tryz.func103, Tryz.ntmps103
  go_wp2_with fail
  have HE := Lib.hid (show posS (⟨8, i, e, k, x, y⟩ : Nd) (fun b j => nnfN c b j.toNat) = andN (orN (nnfN c true x.toNat) (nnfN c false y.toNat)) (orN (nnfN c false x.toNat) (nnfN c true y.toNat)) from rfl)
  obtain ⟨W, hW⟩ : ∃ W, W = w.alloc (.cells #[.int .i64 8, .int .i64 i, .int .i64 e, .int .i64 k, .int .i64 x, .int .i64 y] 68) := ⟨_, rfl⟩
  rw [← hW] at X0 E0 S0 B0 ⊢
  clear hW
  have HK := Lib.hid (show ∀ w', NStep m0 m1 W w' → (w'.cell? ⟨w.heap.size, 4, none⟩ = some (.int .i64 x) ∧ w'.cell? ⟨w.heap.size, 5, none⟩ = some (.int .i64 y) ∧ w'.cell? ⟨w.heap.size, 1, none⟩ = some (.int .i64 i)) from fun w' hs => by
    obtain ⟨⟨z0, z1, z2, z3, z4, z5⟩, _, _⟩ := cells6 (hs.box B0.out hn0 hn1)
    exact ⟨z4, z5, z1⟩)
  have KS := HK.out W NStep.refl
  go_region_held3 (fun w' => w'.cell? ⟨w.heap.size, 4, none⟩ = some (.int .i64 x) ∧ w'.cell? ⟨w.heap.size, 5, none⟩ = some (.int .i64 y) ∧ w'.cell? ⟨w.heap.size, 1, none⟩ = some (.int .i64 i)) (first | exact KS | exact KSa | exact KSb | exact KSc | exact KSd | exact KSe | exact KSf | exact KSg | go_keep) (first | (have hq := Ef.out; clear hq; go_at_call 110; refine (and_any _ _ (orN (nnfN c true x.toNat) (nnfN c false y.toNat)) (orN (nnfN c false x.toNat) (nnfN c true y.toNat)) _ (by exact Fcf.out.ext xw) (by exact Fff.out.ext xw)).mono ?_; rintro e wg ⟨ug, rfl, hmg⟩; have hxg : Ext wf wg := Ext.trans xw hmg.2.2; have Eg := Lib.hid (Ef.out.keep hxg); have Sg := Lib.hid (Sf.out.trans (NStep.of_ext hxg)); have Fgg := Lib.hid hmg.fml; obtain ⟨Ag, cg, rfl, _⟩ := fml_slice hmg.fml; have KSg := HK.out _ Sg.out; clear hmg hxg) | (have hq := Ee.out; clear hq; go_at_call 109; refine (or_any _ _ (nnfN c false x.toNat) (nnfN c true y.toNat) _ (by exact Fde.out.ext xw) (by exact Fee.out.ext xw)).mono ?_; rintro e wf ⟨uf, rfl, hmf⟩; have hxf : Ext we wf := Ext.trans xw hmf.2.2; have Ef := Lib.hid (Ee.out.keep hxf); have Sf := Lib.hid (Se.out.trans (NStep.of_ext hxf)); have Fff := Lib.hid hmf.fml; have Fcf := Lib.hid (Fce.out.ext hxf); obtain ⟨Af, cf, rfl, _⟩ := fml_slice hmf.fml; have KSf := HK.out _ Sf.out; clear hmf hxf) | (have hq := Ed.out; clear hq; go_at_call 90; refine (HY.out true _ (by exact Ed.out.keep xw)).mono ?_; rintro e we ⟨ue, rfl, hee, hse, hue⟩; have Ee := Lib.hid hee; have Se := Lib.hid (NStep.trans (Sd.out.trans (NStep.of_ext (a := wd) xw)) hse); have Fee := Lib.hid hue; have Fce := Lib.hid ((Ed.out.keep (show Ext wd _ from xw)).fml (Fcd.out.ext xw) hse); have Fde := Lib.hid ((Ed.out.keep (show Ext wd _ from xw)).fml (Fdd.out.ext xw) hse); obtain ⟨Ae, ce, rfl, _⟩ := fml_slice hue; have KSe := HK.out _ Se.out; clear hee hse hue) | (have hq := Ec.out; clear hq; go_at_call 90; refine (HX.out false _ (by exact Ec.out.keep xw)).mono ?_; rintro e wd ⟨ud, rfl, hed, hsd, hud⟩; have Ed := Lib.hid hed; have Sd := Lib.hid (NStep.trans (Sc.out.trans (NStep.of_ext (a := wc) xw)) hsd); have Fdd := Lib.hid hud; have Fcd := Lib.hid ((Ec.out.keep (show Ext wc _ from xw)).fml (Fcc.out.ext xw) hsd); obtain ⟨Ad, cd, rfl, _⟩ := fml_slice hud; have KSd := HK.out _ Sd.out; clear hed hsd hud) | (have hq := Eb.out; clear hq; go_at_call 109; refine (or_any _ _ (nnfN c true x.toNat) (nnfN c false y.toNat) _ (by exact Fab.out.ext xw) (by exact Fbb.out.ext xw)).mono ?_; rintro e wc ⟨uc, rfl, hmc⟩; have hxc : Ext wb wc := Ext.trans xw hmc.2.2; have Ec := Lib.hid (Eb.out.keep hxc); have Sc := Lib.hid (Sb.out.trans (NStep.of_ext hxc)); have Fcc := Lib.hid hmc.fml; obtain ⟨Ac, cc, rfl, _⟩ := fml_slice hmc.fml; have KSc := HK.out _ Sc.out; clear hmc hxc) | (have hq := Ea.out; clear hq; go_at_call 90; refine (HY.out false _ (by exact Ea.out.keep xw)).mono ?_; rintro e wb ⟨ub, rfl, heb, hsb, hub⟩; have Eb := Lib.hid heb; have Sb := Lib.hid (NStep.trans (Sa.out.trans (NStep.of_ext (a := wa) xw)) hsb); have Fbb := Lib.hid hub; have Fab := Lib.hid ((Ea.out.keep (show Ext wa _ from xw)).fml (Faa.out.ext xw) hsb); obtain ⟨Ab, cb, rfl, _⟩ := fml_slice hub; have KSb := HK.out _ Sb.out; clear heb hsb hub) | (go_at_call 90; refine (HX.out true _ (by exact E0.out.keep xw)).mono ?_; rintro e wa ⟨ua, rfl, hea, hsa, hua⟩; have Ea := Lib.hid hea; have Sa := Lib.hid (NStep.trans (NStep.of_ext (a := W) xw) hsa); have Faa := Lib.hid hua; obtain ⟨Aa, ca, rfl, _⟩ := fml_slice hua; have KSa := HK.out _ Sa.out; clear hea hsa hua))
  all_goals
    go_wp2_with fail
    go_ret
    rw [HE.out]
    exact ⟨_, rfl, Eg.out.keep xw, (S0.out.trans Sg.out).trans (NStep.of_ext (a := wg) xw), Fgg.out.ext xw⟩

set_option maxRecDepth 100000 in
set_option maxHeartbeats 8000000 in
theorem neg_8 {W0 w : World} {bn m0 m1 cp : Nat} {A : Option Addr} {c : List Nd} {n : Nd} (hop : n.op = 8) (hx : OfSaid W0 bn m0 m1 A cp c n.x) (hy : OfSaid W0 bn m0 m1 A cp c n.y) (henv : NEnv W0 w bn m0 m1 A cp c) :
    Calls Tryz.prog 102 #[.pointer (some ⟨bn, 0, none⟩), n.val] w fun e w' => ∃ u, e = .returned u ∧ NEnv W0 w' bn m0 m1 A cp c ∧ NStep m0 m1 w w' ∧ Fml w' u (negS n (fun b j => nnfN c b j.toNat)) := by
  obtain ⟨o, i, e, k, x, y⟩ := n
  simp only at hop
  subst hop
  have X0 := Lib.hid ((Ext.refl w).alloc (.cells #[.int .i64 8, .int .i64 i, .int .i64 e, .int .i64 k, .int .i64 x, .int .i64 y] 68))
  have E0 := Lib.hid (henv.keep X0.out)
  have S0 := Lib.hid (NStep.of_ext (m0 := m0) (m1 := m1) X0.out)
  have hbx : (w.alloc (.cells #[.int .i64 8, .int .i64 i, .int .i64 e, .int .i64 k, .int .i64 x, .int .i64 y] 68)).heap[w.heap.size]? = some (.cells #[.int .i64 8, .int .i64 i, .int .i64 e, .int .i64 k, .int .i64 x, .int .i64 y] 68 (0, 0)) := heap_alloc_new _ _
  have B0 := Lib.hid hbx
  have hm0 := henv.f0.lt
  have hm1 := henv.f1.lt
  have hn0 : w.heap.size ≠ m0 := by omega
  have hn1 : w.heap.size ≠ m1 := by omega
  unfold Nd.val
  have HX := Lib.hid hx
  clear hx
  have HY := Lib.hid hy
  clear hy
  clear hm0 hm1 hbx henv
  go_enter Tryz.func102, Tryz.ntmps102
  go_wp2_with fail
  have HE := Lib.hid (show negS (⟨8, i, e, k, x, y⟩ : Nd) (fun b j => nnfN c b j.toNat) = orN (andN (nnfN c false x.toNat) (nnfN c true y.toNat)) (andN (nnfN c true x.toNat) (nnfN c false y.toNat)) from rfl)
  obtain ⟨W, hW⟩ : ∃ W, W = w.alloc (.cells #[.int .i64 8, .int .i64 i, .int .i64 e, .int .i64 k, .int .i64 x, .int .i64 y] 68) := ⟨_, rfl⟩
  rw [← hW] at X0 E0 S0 B0 ⊢
  clear hW
  have HK := Lib.hid (show ∀ w', NStep m0 m1 W w' → (w'.cell? ⟨w.heap.size, 4, none⟩ = some (.int .i64 x) ∧ w'.cell? ⟨w.heap.size, 5, none⟩ = some (.int .i64 y) ∧ w'.cell? ⟨w.heap.size, 1, none⟩ = some (.int .i64 i)) from fun w' hs => by
    obtain ⟨⟨z0, z1, z2, z3, z4, z5⟩, _, _⟩ := cells6 (hs.box B0.out hn0 hn1)
    exact ⟨z4, z5, z1⟩)
  have KS := HK.out W NStep.refl
  go_region_held3 (fun w' => w'.cell? ⟨w.heap.size, 4, none⟩ = some (.int .i64 x) ∧ w'.cell? ⟨w.heap.size, 5, none⟩ = some (.int .i64 y) ∧ w'.cell? ⟨w.heap.size, 1, none⟩ = some (.int .i64 i)) (first | exact KS | exact KSa | exact KSb | exact KSc | exact KSd | exact KSe | exact KSf | exact KSg | go_keep) (first | (have hq := Ef.out; clear hq; go_at_call 109; refine (or_any _ _ (andN (nnfN c false x.toNat) (nnfN c true y.toNat)) (andN (nnfN c true x.toNat) (nnfN c false y.toNat)) _ (by exact Fcf.out.ext xw) (by exact Fff.out.ext xw)).mono ?_; rintro e wg ⟨ug, rfl, hmg⟩; have hxg : Ext wf wg := Ext.trans xw hmg.2.2; have Eg := Lib.hid (Ef.out.keep hxg); have Sg := Lib.hid (Sf.out.trans (NStep.of_ext hxg)); have Fgg := Lib.hid hmg.fml; obtain ⟨Ag, cg, rfl, _⟩ := fml_slice hmg.fml; have KSg := HK.out _ Sg.out; clear hmg hxg) | (have hq := Ee.out; clear hq; go_at_call 110; refine (and_any _ _ (nnfN c true x.toNat) (nnfN c false y.toNat) _ (by exact Fde.out.ext xw) (by exact Fee.out.ext xw)).mono ?_; rintro e wf ⟨uf, rfl, hmf⟩; have hxf : Ext we wf := Ext.trans xw hmf.2.2; have Ef := Lib.hid (Ee.out.keep hxf); have Sf := Lib.hid (Se.out.trans (NStep.of_ext hxf)); have Fff := Lib.hid hmf.fml; have Fcf := Lib.hid (Fce.out.ext hxf); obtain ⟨Af, cf, rfl, _⟩ := fml_slice hmf.fml; have KSf := HK.out _ Sf.out; clear hmf hxf) | (have hq := Ed.out; clear hq; go_at_call 90; refine (HY.out false _ (by exact Ed.out.keep xw)).mono ?_; rintro e we ⟨ue, rfl, hee, hse, hue⟩; have Ee := Lib.hid hee; have Se := Lib.hid (NStep.trans (Sd.out.trans (NStep.of_ext (a := wd) xw)) hse); have Fee := Lib.hid hue; have Fce := Lib.hid ((Ed.out.keep (show Ext wd _ from xw)).fml (Fcd.out.ext xw) hse); have Fde := Lib.hid ((Ed.out.keep (show Ext wd _ from xw)).fml (Fdd.out.ext xw) hse); obtain ⟨Ae, ce, rfl, _⟩ := fml_slice hue; have KSe := HK.out _ Se.out; clear hee hse hue) | (have hq := Ec.out; clear hq; go_at_call 90; refine (HX.out true _ (by exact Ec.out.keep xw)).mono ?_; rintro e wd ⟨ud, rfl, hed, hsd, hud⟩; have Ed := Lib.hid hed; have Sd := Lib.hid (NStep.trans (Sc.out.trans (NStep.of_ext (a := wc) xw)) hsd); have Fdd := Lib.hid hud; have Fcd := Lib.hid ((Ec.out.keep (show Ext wc _ from xw)).fml (Fcc.out.ext xw) hsd); obtain ⟨Ad, cd, rfl, _⟩ := fml_slice hud; have KSd := HK.out _ Sd.out; clear hed hsd hud) | (have hq := Eb.out; clear hq; go_at_call 110; refine (and_any _ _ (nnfN c false x.toNat) (nnfN c true y.toNat) _ (by exact Fab.out.ext xw) (by exact Fbb.out.ext xw)).mono ?_; rintro e wc ⟨uc, rfl, hmc⟩; have hxc : Ext wb wc := Ext.trans xw hmc.2.2; have Ec := Lib.hid (Eb.out.keep hxc); have Sc := Lib.hid (Sb.out.trans (NStep.of_ext hxc)); have Fcc := Lib.hid hmc.fml; obtain ⟨Ac, cc, rfl, _⟩ := fml_slice hmc.fml; have KSc := HK.out _ Sc.out; clear hmc hxc) | (have hq := Ea.out; clear hq; go_at_call 90; refine (HY.out true _ (by exact Ea.out.keep xw)).mono ?_; rintro e wb ⟨ub, rfl, heb, hsb, hub⟩; have Eb := Lib.hid heb; have Sb := Lib.hid (NStep.trans (Sa.out.trans (NStep.of_ext (a := wa) xw)) hsb); have Fbb := Lib.hid hub; have Fab := Lib.hid ((Ea.out.keep (show Ext wa _ from xw)).fml (Faa.out.ext xw) hsb); obtain ⟨Ab, cb, rfl, _⟩ := fml_slice hub; have KSb := HK.out _ Sb.out; clear heb hsb hub) | (go_at_call 90; refine (HX.out false _ (by exact E0.out.keep xw)).mono ?_; rintro e wa ⟨ua, rfl, hea, hsa, hua⟩; have Ea := Lib.hid hea; have Sa := Lib.hid (NStep.trans (NStep.of_ext (a := W) xw) hsa); have Faa := Lib.hid hua; obtain ⟨Aa, ca, rfl, _⟩ := fml_slice hua; have KSa := HK.out _ Sa.out; clear hea hsa hua))
  all_goals
    go_wp2_with fail
    go_ret
    rw [HE.out]
    exact ⟨_, rfl, Eg.out.keep xw, (S0.out.trans Sg.out).trans (NStep.of_ext (a := wg) xw), Fgg.out.ext xw⟩

end Go.Proofs.YtdpblciohodgcaaGreatDoor

/- The simple negations; the normal forms of all nodes, by induction. -/

namespace Go.Proofs.YtdpblciohodgcaaGreatDoor
open Go.RowKit
open Go.Maps (has)

set_option maxRecDepth 100000 in
set_option maxHeartbeats 8000000 in
theorem neg_1 {W0 w : World} {bn m0 m1 cp : Nat} {A : Option Addr} {c : List Nd} {n : Nd} (hop : n.op = 1) (henv : NEnv W0 w bn m0 m1 A cp c) :
    Calls Tryz.prog 102 #[.pointer (some ⟨bn, 0, none⟩), n.val] w fun e w' => ∃ u, e = .returned u ∧ NEnv W0 w' bn m0 m1 A cp c ∧ NStep m0 m1 w w' ∧ Fml w' u (negS n (fun b j => nnfN c b j.toNat)) := by
  obtain ⟨o, i, e, k, x, y⟩ := n
  simp only at hop
  subst hop
  have X0 := Lib.hid ((Ext.refl w).alloc (.cells #[.int .i64 1, .int .i64 i, .int .i64 e, .int .i64 k, .int .i64 x, .int .i64 y] 68))
  have E0 := Lib.hid (henv.keep X0.out)
  have S0 := Lib.hid (NStep.of_ext (m0 := m0) (m1 := m1) X0.out)
  have hbx : (w.alloc (.cells #[.int .i64 1, .int .i64 i, .int .i64 e, .int .i64 k, .int .i64 x, .int .i64 y] 68)).heap[w.heap.size]? = some (.cells #[.int .i64 1, .int .i64 i, .int .i64 e, .int .i64 k, .int .i64 x, .int .i64 y] 68 (0, 0)) := heap_alloc_new _ _
  have B0 := Lib.hid hbx
  have hm0 := henv.f0.lt
  have hm1 := henv.f1.lt
  have hn0 : w.heap.size ≠ m0 := by omega
  have hn1 : w.heap.size ≠ m1 := by omega
  unfold Nd.val
  clear hm0 hm1 hbx henv
  go_enter Tryz.func102, Tryz.ntmps102
  go_wp2_with fail
  refine (false_any _).mono ?_
  rintro e w1 ⟨u, rfl, hm⟩
  have HM := Lib.hid hm
  clear hm
  go_wp2_with fail
  go_ret
  exact ⟨_, rfl, E0.out.keep HM.out.2.2, S0.out.trans (.of_ext HM.out.2.2), HM.out.fml⟩
set_option maxRecDepth 100000 in
set_option maxHeartbeats 8000000 in
theorem neg_2 {W0 w : World} {bn m0 m1 cp : Nat} {A : Option Addr} {c : List Nd} {n : Nd} (hop : n.op = 2) (henv : NEnv W0 w bn m0 m1 A cp c) :
    Calls Tryz.prog 102 #[.pointer (some ⟨bn, 0, none⟩), n.val] w fun e w' => ∃ u, e = .returned u ∧ NEnv W0 w' bn m0 m1 A cp c ∧ NStep m0 m1 w w' ∧ Fml w' u (negS n (fun b j => nnfN c b j.toNat)) := by
  obtain ⟨o, i, e, k, x, y⟩ := n
  simp only at hop
  subst hop
  have X0 := Lib.hid ((Ext.refl w).alloc (.cells #[.int .i64 2, .int .i64 i, .int .i64 e, .int .i64 k, .int .i64 x, .int .i64 y] 68))
  have E0 := Lib.hid (henv.keep X0.out)
  have S0 := Lib.hid (NStep.of_ext (m0 := m0) (m1 := m1) X0.out)
  have hbx : (w.alloc (.cells #[.int .i64 2, .int .i64 i, .int .i64 e, .int .i64 k, .int .i64 x, .int .i64 y] 68)).heap[w.heap.size]? = some (.cells #[.int .i64 2, .int .i64 i, .int .i64 e, .int .i64 k, .int .i64 x, .int .i64 y] 68 (0, 0)) := heap_alloc_new _ _
  have B0 := Lib.hid hbx
  have hm0 := henv.f0.lt
  have hm1 := henv.f1.lt
  have hn0 : w.heap.size ≠ m0 := by omega
  have hn1 : w.heap.size ≠ m1 := by omega
  unfold Nd.val
  clear hm0 hm1 hbx henv
  go_enter Tryz.func102, Tryz.ntmps102
  go_wp2_with fail
  refine (true_any _).mono ?_
  rintro e w1 ⟨u, rfl, hm⟩
  have HM := Lib.hid hm
  clear hm
  go_wp2_with fail
  go_ret
  exact ⟨_, rfl, E0.out.keep HM.out.2.2, S0.out.trans (.of_ext HM.out.2.2), HM.out.fml⟩
set_option maxRecDepth 100000 in
set_option maxHeartbeats 8000000 in
theorem neg_4 {W0 w : World} {bn m0 m1 cp : Nat} {A : Option Addr} {c : List Nd} {n : Nd} (hop : n.op = 4) (hx : OfSaid W0 bn m0 m1 A cp c n.x) (henv : NEnv W0 w bn m0 m1 A cp c) :
    Calls Tryz.prog 102 #[.pointer (some ⟨bn, 0, none⟩), n.val] w fun e w' => ∃ u, e = .returned u ∧ NEnv W0 w' bn m0 m1 A cp c ∧ NStep m0 m1 w w' ∧ Fml w' u (negS n (fun b j => nnfN c b j.toNat)) := by
  obtain ⟨o, i, e, k, x, y⟩ := n
  simp only at hop
  subst hop
  have X0 := Lib.hid ((Ext.refl w).alloc (.cells #[.int .i64 4, .int .i64 i, .int .i64 e, .int .i64 k, .int .i64 x, .int .i64 y] 68))
  have E0 := Lib.hid (henv.keep X0.out)
  have S0 := Lib.hid (NStep.of_ext (m0 := m0) (m1 := m1) X0.out)
  have hbx : (w.alloc (.cells #[.int .i64 4, .int .i64 i, .int .i64 e, .int .i64 k, .int .i64 x, .int .i64 y] 68)).heap[w.heap.size]? = some (.cells #[.int .i64 4, .int .i64 i, .int .i64 e, .int .i64 k, .int .i64 x, .int .i64 y] 68 (0, 0)) := heap_alloc_new _ _
  have B0 := Lib.hid hbx
  have hm0 := henv.f0.lt
  have hm1 := henv.f1.lt
  have hn0 : w.heap.size ≠ m0 := by omega
  have hn1 : w.heap.size ≠ m1 := by omega
  unfold Nd.val
  have HX := Lib.hid hx
  clear hx
  clear hm0 hm1 hbx henv
  go_enter Tryz.func102, Tryz.ntmps102
  go_wp2_with fail
  refine (HX.out false _ E0.out).mono ?_
  rintro e w1 ⟨u, rfl, he, hs, hu⟩
  have E1 := Lib.hid he
  have S1 := Lib.hid (S0.out.trans hs)
  have F1 := Lib.hid hu
  obtain ⟨A1, c1, rfl, _⟩ := fml_slice hu
  clear he hs hu
  go_wp2_with fail
  go_ret
  exact ⟨_, rfl, E1.out, S1.out, F1.out⟩
set_option maxRecDepth 100000 in
set_option maxHeartbeats 8000000 in
theorem neg_3 {W0 w : World} {bn m0 m1 cp : Nat} {A : Option Addr} {c : List Nd} {n : Nd} (hop : n.op = 3) (hi : i64ok n.i) (henv : NEnv W0 w bn m0 m1 A cp c) :
    Calls Tryz.prog 102 #[.pointer (some ⟨bn, 0, none⟩), n.val] w fun e w' => ∃ u, e = .returned u ∧ NEnv W0 w' bn m0 m1 A cp c ∧ NStep m0 m1 w w' ∧ Fml w' u (negS n (fun b j => nnfN c b j.toNat)) := by
  obtain ⟨o, i, e, k, x, y⟩ := n
  simp only at hop
  subst hop
  have X0 := Lib.hid ((Ext.refl w).alloc (.cells #[.int .i64 3, .int .i64 i, .int .i64 e, .int .i64 k, .int .i64 x, .int .i64 y] 68))
  have E0 := Lib.hid (henv.keep X0.out)
  have S0 := Lib.hid (NStep.of_ext (m0 := m0) (m1 := m1) X0.out)
  have hbx : (w.alloc (.cells #[.int .i64 3, .int .i64 i, .int .i64 e, .int .i64 k, .int .i64 x, .int .i64 y] 68)).heap[w.heap.size]? = some (.cells #[.int .i64 3, .int .i64 i, .int .i64 e, .int .i64 k, .int .i64 x, .int .i64 y] 68 (0, 0)) := heap_alloc_new _ _
  have B0 := Lib.hid hbx
  have hm0 := henv.f0.lt
  have hm1 := henv.f1.lt
  have hn0 : w.heap.size ≠ m0 := by omega
  have hn1 : w.heap.size ≠ m1 := by omega
  unfold Nd.val
  clear hm0 hm1 hbx henv
  obtain ⟨⟨z0, z1, z2, z3, z4, z5⟩, _, zlt⟩ := cells6 B0.out
  have HI := Lib.hid hi
  clear hi
  go_enter Tryz.func102, Tryz.ntmps102
  go_wp2_with fail
  refine (pos_3 (n := ⟨3, i, e, k, x, y⟩) rfl HI.out E0.out).mono ?_
  rintro e w1 ⟨u, rfl, he, hs, hu⟩
  have E1 := Lib.hid he
  have S1 := Lib.hid (S0.out.trans hs)
  have F1 := Lib.hid hu
  obtain ⟨A1, c1, rfl, _⟩ := fml_slice hu
  clear he hs hu z0 z1 z2 z3 z4 z5 zlt
  go_wp2_with fail
  refine (not_any _ _ _ F1.out).mono ?_
  rintro e w2 ⟨u, rfl, hm⟩
  have HM := Lib.hid hm
  clear hm
  go_wp2_with fail
  go_ret
  exact ⟨_, rfl, E1.out.keep HM.out.2.2, S1.out.trans (.of_ext HM.out.2.2), HM.out.fml⟩
/-- A node, whatever its operator. -/
theorem pos_said {W0 w : World} {bn m0 m1 cp : Nat} {A : Option Addr} {c : List Nd} {n : Nd} (hop : 1 ≤ n.op ∧ n.op ≤ 10) (hx : hasX n.op = true → OfSaid W0 bn m0 m1 A cp c n.x) (hy : hasY n.op = true → OfSaid W0 bn m0 m1 A cp c n.y) (hi : i64ok n.i) (henv : NEnv W0 w bn m0 m1 A cp c) :
    Calls Tryz.prog 103 #[.pointer (some ⟨bn, 0, none⟩), n.val] w fun e w' => ∃ u, e = .returned u ∧ NEnv W0 w' bn m0 m1 A cp c ∧ NStep m0 m1 w w' ∧ Fml w' u (posS n (fun b j => nnfN c b j.toNat)) := by
  rcases (show n.op = 1 ∨ n.op = 2 ∨ n.op = 3 ∨ n.op = 4 ∨ n.op = 5 ∨ n.op = 6 ∨ n.op = 7 ∨ n.op = 8 ∨ n.op = 9 ∨ n.op = 10 by omega) with h | h | h | h | h | h | h | h | h | h
  · exact pos_1 h  henv
  · exact pos_2 h  henv
  · exact pos_3 h hi henv
  · exact pos_4 h (hx (by rw [h]; rfl)) henv
  · exact pos_5 h (hx (by rw [h]; rfl)) (hy (by rw [h]; rfl)) henv
  · exact pos_6 h (hx (by rw [h]; rfl)) (hy (by rw [h]; rfl)) henv
  · exact pos_7 h (hx (by rw [h]; rfl)) (hy (by rw [h]; rfl)) henv
  · exact pos_8 h (hx (by rw [h]; rfl)) (hy (by rw [h]; rfl)) henv
  · exact pos_9 h (hx (by rw [h]; rfl)) hi henv
  · exact pos_10 h (hx (by rw [h]; rfl)) hi henv
/-- A node, whatever its operator. -/
theorem neg_said {W0 w : World} {bn m0 m1 cp : Nat} {A : Option Addr} {c : List Nd} {n : Nd} (hop : 1 ≤ n.op ∧ n.op ≤ 10) (hx : hasX n.op = true → OfSaid W0 bn m0 m1 A cp c n.x) (hy : hasY n.op = true → OfSaid W0 bn m0 m1 A cp c n.y) (hi : i64ok n.i) (henv : NEnv W0 w bn m0 m1 A cp c) :
    Calls Tryz.prog 102 #[.pointer (some ⟨bn, 0, none⟩), n.val] w fun e w' => ∃ u, e = .returned u ∧ NEnv W0 w' bn m0 m1 A cp c ∧ NStep m0 m1 w w' ∧ Fml w' u (negS n (fun b j => nnfN c b j.toNat)) := by
  rcases (show n.op = 1 ∨ n.op = 2 ∨ n.op = 3 ∨ n.op = 4 ∨ n.op = 5 ∨ n.op = 6 ∨ n.op = 7 ∨ n.op = 8 ∨ n.op = 9 ∨ n.op = 10 by omega) with h | h | h | h | h | h | h | h | h | h
  · exact neg_1 h  henv
  · exact neg_2 h  henv
  · exact neg_3 h hi henv
  · exact neg_4 h (hx (by rw [h]; rfl)) henv
  · exact neg_5 h (hx (by rw [h]; rfl)) (hy (by rw [h]; rfl)) henv
  · exact neg_6 h (hx (by rw [h]; rfl)) (hy (by rw [h]; rfl)) henv
  · exact neg_7 h (hx (by rw [h]; rfl)) (hy (by rw [h]; rfl)) henv
  · exact neg_8 h (hx (by rw [h]; rfl)) (hy (by rw [h]; rfl)) henv
  · exact neg_9 h (hx (by rw [h]; rfl)) hi henv
  · exact neg_10 h (hx (by rw [h]; rfl)) hi henv
theorem zeroNodes (w : World) : (zeroValue 22).run Tryz.prog w = .ok (.slice none 0 0) w := by kernel_rfl
theorem held_inj {v u : Value} (h : (DataW.held v : DV) = .held u) : v = u := by injection h
theorem cells3n {w : World} {b : Nat} {a0 a1 a2 : Value} {t : TypeId} (h : w.heap[b]? = some (.cells #[a0, a1, a2] t (0, 0))) :
    w.cell? ⟨b, 0, none⟩ = some a0 ∧ w.cell? ⟨b, 1, none⟩ = some a1 ∧ w.cell? ⟨b, 2, none⟩ = some a2 ∧ b < w.heap.size :=
  ⟨by simp [World.cell?, h], by simp [World.cell?, h], by simp [World.cell?, h], lt_heap h⟩
theorem map_stored_no {W0 w w' : World} {bn m0 m1 cp : Nat} {A : Option Addr} {c : List Nd} {i k : Nat} {v : Value} {D : DV} {l : List Nd} (h : NEnv W0 w bn m0 m1 A cp c) (hv : Fml w v l) (hown : w.ownsMap Tryz.prog 3 heldElem m0 k D) (hk : k ≤ formCount D c) (hD : FormIs D w c false) (hi : i < c.length) (heq : nnfN c false i = l)
    (h' : w'.ownsMap Tryz.prog 3 heldElem m0 (k + 1) (D.put (.int .i64 i) (.held v))) (ht : w.mapTurned w' m0) : NEnv W0 w' bn m0 m1 A cp c ∧ NStep m0 m1 w w' ∧ Fml w' v (nnfN c false i) := by
  have hg := ht.grown
  have hs : NStep m0 m1 w w' := ⟨hg.os, hg.tape, hg.output, hg.size, fun j h1 h2 h3 => hg.block j h1 (by simpa using h2)⟩
  have hf : ∀ {u l}, Fml w u l → Fml w' u l := fun hu => h.fml hu hs
  have hb := h.bne
  refine ⟨⟨hs.ext0 h.ext h.low.1 h.low.2, h.nds, (hs.block bn (lt_heap h.blk) hb.1 hb.2).trans h.blk, FormMap.put hown hk (fun j hj => by
    obtain ⟨a, u, x, y⟩ := hD j hj
    exact ⟨a, u, x, hf y⟩) hi (by rw [heq]; exact hf hv) h', h.f1.nstep h.f0.map h.f1.map hs (hg.block m1 h.f1.lt (by simpa using Ne.symm h.ne)), h.low, h.ne⟩, hs, by rw [heq]; exact hf hv⟩
set_option maxRecDepth 100000 in
set_option maxHeartbeats 8000000 in
theorem of_no {W0 w : World} {bn m0 m1 cp : Nat} {A : Option Addr} {c : List Nd} {i : Nat} {n : Nd} (hc : Wf c) (hl : c.length ≤ 1000) (hn : c[i]? = some n)
    (hnode : ∀ w, NEnv W0 w bn m0 m1 A cp c → Calls Tryz.prog 103 #[.pointer (some ⟨bn, 0, none⟩), n.val] w fun e w' => ∃ u, e = .returned u ∧ NEnv W0 w' bn m0 m1 A cp c ∧ NStep m0 m1 w w' ∧ Fml w' u (posS n (fun b j => nnfN c b j.toNat)))
    (henv : NEnv W0 w bn m0 m1 A cp c) :
    Calls Tryz.prog 90 #[.pointer (some ⟨bn, 0, none⟩), .int .i64 (i : Int), .bool false] w fun e w' => ∃ u, e = .returned u ∧ NEnv W0 w' bn m0 m1 A cp c ∧ NStep m0 m1 w w' ∧ Fml w' u (nnfN c false i) := by
  have hi := (List.getElem?_eq_some_iff.1 hn).1
  have HEQ := Lib.hid (nnfN_eq hc hn false)
  obtain ⟨D, m, hown, hcnt, hD⟩ := henv.f0
  obtain ⟨d0, d1, d2, _⟩ := cells3n henv.blk
  have hkey := keyOf_int (a := (i : Int)) ⟨by omega, by omega⟩
  have E0 := Lib.hid henv
  have HN := Lib.hid hnode
  cases hh : has D (.int .i64 (i : Int))
  case true =>
    obtain ⟨_, v0, hat, hf⟩ := hD i hh
    have HF := Lib.hid hf
    have HAT := Lib.hid hat
    clear hat hf hnode hcnt henv hD
    go_enter Tryz.func90, Tryz.ntmps90
    go_wp2_with (at_lookup; refine wpList_lookup_own_ok _ rfl _ _ 116 rfl 3 22 intKeyed Tryz.underlying116 heldElem (zeroNodes _) (.held (.slice none 0 0)) [] rfl m0 m D rfl hown _ _ rfl hkey ?_; intro v ps hv)
    have hvv : v = v0 := (held_inj ((HAT.out _).symm.trans (heldElem_inv hv))).symm
    subst hvv
    clear hv
    go_ret
    exact ⟨_, rfl, E0.out, .refl, HF.out⟩
  case false =>
    obtain ⟨⟨A', c', e, hcap, hmax, hread⟩, hok⟩ := henv.nds
    injection e with e1 _ e3
    subst e1 e3
    unfold maxLen at hmax
    obtain ⟨ad, rfl, hblk, hcells⟩ := hread (by intro e; rw [e] at hi; simp at hi)
    obtain ⟨q0, q1, q2, q3, q4, q5⟩ := hcells i n hn
    have hk : ∀ p : Addr, p.block = ad.block → w.cell? p = W0.cell? p := fun p hp => E0.out.ext.cell (by rw [hp]; exact hblk)
    have q0 := (hk _ (by rw [block_of_add])).trans q0
    have q1 := (hk _ (by show (ad.add _).block = _; rw [block_of_add])).trans q1
    have q2 := (hk _ (by show (ad.add _).block = _; rw [block_of_add])).trans q2
    have q3 := (hk _ (by show (ad.add _).block = _; rw [block_of_add])).trans q3
    have q4 := (hk _ (by show (ad.add _).block = _; rw [block_of_add])).trans q4
    have q5 := (hk _ (by show (ad.add _).block = _; rw [block_of_add])).trans q5
    have hi0 : (0 : Int) ≤ (i : Int) := by omega
    have hi1 : (i : Int) < (c.length : Int) := by omega
    have X0 := Lib.hid ((Ext.refl w).alloc (.cells #[.int .i64 n.op, .int .i64 n.i, .int .i64 n.e, .int .i64 n.g, .int .i64 n.x, .int .i64 n.y] 68))
    have hbx := heap_alloc_new w (.cells #[.int .i64 n.op, .int .i64 n.i, .int .i64 n.e, .int .i64 n.g, .int .i64 n.x, .int .i64 n.y] 68)
    obtain ⟨⟨z0, z1, z2, z3, z4, z5⟩, _, zlt⟩ := cells6 hbx
    clear hk hcells hread hok hnode henv hbx hD
    go_enter Tryz.func90, Tryz.ntmps90
    go_wp2_with (at_lookup; refine wpList_lookup_own_ok _ rfl _ _ 116 rfl 3 22 intKeyed Tryz.underlying116 heldElem (zeroNodes _) (.held (.slice none 0 0)) [] rfl m0 m D rfl hown _ _ rfl hkey ?_; intro v ps hv)
    clear hv
    refine (HN.out _ (E0.out.keep X0.out)).mono ?_
    rintro e w1 ⟨u, rfl, he, hs, hu⟩
    have E1 := Lib.hid he
    have S1 := Lib.hid ((NStep.of_ext X0.out).trans hs)
    have F1 := Lib.hid hu
    obtain ⟨Au, cu, rfl, _⟩ := fml_slice hu
    obtain ⟨D1, k1, hown1, hcnt1, hD1⟩ := he.f0
    obtain ⟨y0, y1, y2, _⟩ := cells3n he.blk
    have hlim := formCount_le D1 c
    have HC1 := Lib.hid hcnt1
    have HD1 := Lib.hid hD1
    have HO1 := Lib.hid hown1
    clear hs hu d0 d1 d2 q0 q1 q2 q3 q4 q5 z0 z1 z2 z3 z4 z5 zlt hD1 he hown
    go_wp2_with (at_mapUpdate; refine wpList_mapUpdate_in _ rfl _ _ _ 116 rfl 3 22 intKeyed Tryz.underlying116 heldElem m0 k1 D1 rfl hown1 (by unfold maxLen; omega) _ _ _ rfl rfl hkey (.held (.slice Au (posS n (fun b j => nnfN c b j.toNat)).length cu)) [] rfl ?_; intro w2 hown2 hturn2)
    have HF := Lib.hid (map_stored_no E1.out F1.out HO1.out HC1.out HD1.out hi HEQ.out hown2 hturn2)
    clear hown2 hturn2 hown1 hcnt1 y0 y1 y2
    go_wp2_with fail
    go_ret
    exact ⟨_, rfl, HF.out.1, S1.out.trans HF.out.2.1, HF.out.2.2⟩
theorem map_stored_yes {W0 w w' : World} {bn m0 m1 cp : Nat} {A : Option Addr} {c : List Nd} {i k : Nat} {v : Value} {D : DV} {l : List Nd} (h : NEnv W0 w bn m0 m1 A cp c) (hv : Fml w v l) (hown : w.ownsMap Tryz.prog 3 heldElem m1 k D) (hk : k ≤ formCount D c) (hD : FormIs D w c true) (hi : i < c.length) (heq : nnfN c true i = l)
    (h' : w'.ownsMap Tryz.prog 3 heldElem m1 (k + 1) (D.put (.int .i64 i) (.held v))) (ht : w.mapTurned w' m1) : NEnv W0 w' bn m0 m1 A cp c ∧ NStep m0 m1 w w' ∧ Fml w' v (nnfN c true i) := by
  have hg := ht.grown
  have hs : NStep m0 m1 w w' := ⟨hg.os, hg.tape, hg.output, hg.size, fun j h1 h2 h3 => hg.block j h1 (by simpa using h3)⟩
  have hf : ∀ {u l}, Fml w u l → Fml w' u l := fun hu => h.fml hu hs
  have hb := h.bne
  refine ⟨⟨hs.ext0 h.ext h.low.1 h.low.2, h.nds, (hs.block bn (lt_heap h.blk) hb.1 hb.2).trans h.blk, h.f0.nstep h.f0.map h.f1.map hs (hg.block m0 h.f0.lt (by simpa using h.ne)), FormMap.put hown hk (fun j hj => by
    obtain ⟨a, u, x, y⟩ := hD j hj
    exact ⟨a, u, x, hf y⟩) hi (by rw [heq]; exact hf hv) h', h.low, h.ne⟩, hs, by rw [heq]; exact hf hv⟩
set_option maxRecDepth 100000 in
set_option maxHeartbeats 8000000 in
theorem of_yes {W0 w : World} {bn m0 m1 cp : Nat} {A : Option Addr} {c : List Nd} {i : Nat} {n : Nd} (hc : Wf c) (hl : c.length ≤ 1000) (hn : c[i]? = some n)
    (hnode : ∀ w, NEnv W0 w bn m0 m1 A cp c → Calls Tryz.prog 102 #[.pointer (some ⟨bn, 0, none⟩), n.val] w fun e w' => ∃ u, e = .returned u ∧ NEnv W0 w' bn m0 m1 A cp c ∧ NStep m0 m1 w w' ∧ Fml w' u (negS n (fun b j => nnfN c b j.toNat)))
    (henv : NEnv W0 w bn m0 m1 A cp c) :
    Calls Tryz.prog 90 #[.pointer (some ⟨bn, 0, none⟩), .int .i64 (i : Int), .bool true] w fun e w' => ∃ u, e = .returned u ∧ NEnv W0 w' bn m0 m1 A cp c ∧ NStep m0 m1 w w' ∧ Fml w' u (nnfN c true i) := by
  have hi := (List.getElem?_eq_some_iff.1 hn).1
  have HEQ := Lib.hid (nnfN_eq hc hn true)
  obtain ⟨D, m, hown, hcnt, hD⟩ := henv.f1
  obtain ⟨d0, d1, d2, _⟩ := cells3n henv.blk
  have hkey := keyOf_int (a := (i : Int)) ⟨by omega, by omega⟩
  have E0 := Lib.hid henv
  have HN := Lib.hid hnode
  cases hh : has D (.int .i64 (i : Int))
  case true =>
    obtain ⟨_, v0, hat, hf⟩ := hD i hh
    have HF := Lib.hid hf
    have HAT := Lib.hid hat
    clear hat hf hnode hcnt henv hD
    go_enter Tryz.func90, Tryz.ntmps90
    go_wp2_with (at_lookup; refine wpList_lookup_own_ok _ rfl _ _ 116 rfl 3 22 intKeyed Tryz.underlying116 heldElem (zeroNodes _) (.held (.slice none 0 0)) [] rfl m1 m D rfl hown _ _ rfl hkey ?_; intro v ps hv)
    have hvv : v = v0 := (held_inj ((HAT.out _).symm.trans (heldElem_inv hv))).symm
    subst hvv
    clear hv
    go_ret
    exact ⟨_, rfl, E0.out, .refl, HF.out⟩
  case false =>
    obtain ⟨⟨A', c', e, hcap, hmax, hread⟩, hok⟩ := henv.nds
    injection e with e1 _ e3
    subst e1 e3
    unfold maxLen at hmax
    obtain ⟨ad, rfl, hblk, hcells⟩ := hread (by intro e; rw [e] at hi; simp at hi)
    obtain ⟨q0, q1, q2, q3, q4, q5⟩ := hcells i n hn
    have hk : ∀ p : Addr, p.block = ad.block → w.cell? p = W0.cell? p := fun p hp => E0.out.ext.cell (by rw [hp]; exact hblk)
    have q0 := (hk _ (by rw [block_of_add])).trans q0
    have q1 := (hk _ (by show (ad.add _).block = _; rw [block_of_add])).trans q1
    have q2 := (hk _ (by show (ad.add _).block = _; rw [block_of_add])).trans q2
    have q3 := (hk _ (by show (ad.add _).block = _; rw [block_of_add])).trans q3
    have q4 := (hk _ (by show (ad.add _).block = _; rw [block_of_add])).trans q4
    have q5 := (hk _ (by show (ad.add _).block = _; rw [block_of_add])).trans q5
    have hi0 : (0 : Int) ≤ (i : Int) := by omega
    have hi1 : (i : Int) < (c.length : Int) := by omega
    have X0 := Lib.hid ((Ext.refl w).alloc (.cells #[.int .i64 n.op, .int .i64 n.i, .int .i64 n.e, .int .i64 n.g, .int .i64 n.x, .int .i64 n.y] 68))
    have hbx := heap_alloc_new w (.cells #[.int .i64 n.op, .int .i64 n.i, .int .i64 n.e, .int .i64 n.g, .int .i64 n.x, .int .i64 n.y] 68)
    obtain ⟨⟨z0, z1, z2, z3, z4, z5⟩, _, zlt⟩ := cells6 hbx
    clear hk hcells hread hok hnode henv hbx hD
    go_enter Tryz.func90, Tryz.ntmps90
    go_wp2_with (at_lookup; refine wpList_lookup_own_ok _ rfl _ _ 116 rfl 3 22 intKeyed Tryz.underlying116 heldElem (zeroNodes _) (.held (.slice none 0 0)) [] rfl m1 m D rfl hown _ _ rfl hkey ?_; intro v ps hv)
    clear hv
    refine (HN.out _ (E0.out.keep X0.out)).mono ?_
    rintro e w1 ⟨u, rfl, he, hs, hu⟩
    have E1 := Lib.hid he
    have S1 := Lib.hid ((NStep.of_ext X0.out).trans hs)
    have F1 := Lib.hid hu
    obtain ⟨Au, cu, rfl, _⟩ := fml_slice hu
    obtain ⟨D1, k1, hown1, hcnt1, hD1⟩ := he.f1
    obtain ⟨y0, y1, y2, _⟩ := cells3n he.blk
    have hlim := formCount_le D1 c
    have HC1 := Lib.hid hcnt1
    have HD1 := Lib.hid hD1
    have HO1 := Lib.hid hown1
    clear hs hu d0 d1 d2 q0 q1 q2 q3 q4 q5 z0 z1 z2 z3 z4 z5 zlt hD1 he hown
    go_wp2_with (at_mapUpdate; refine wpList_mapUpdate_in _ rfl _ _ _ 116 rfl 3 22 intKeyed Tryz.underlying116 heldElem m1 k1 D1 rfl hown1 (by unfold maxLen; omega) _ _ _ rfl rfl hkey (.held (.slice Au (negS n (fun b j => nnfN c b j.toNat)).length cu)) [] rfl ?_; intro w2 hown2 hturn2)
    have HF := Lib.hid (map_stored_yes E1.out F1.out HO1.out HC1.out HD1.out hi HEQ.out hown2 hturn2)
    clear hown2 hturn2 hown1 hcnt1 y0 y1 y2
    go_wp2_with fail
    go_ret
    exact ⟨_, rfl, HF.out.1, S1.out.trans HF.out.2.1, HF.out.2.2⟩
/-- The normal form of each node of a list. -/
theorem of_all {W0 : World} {bn m0 m1 cp : Nat} {A : Option Addr} {c : List Nd} (hc : Wf c) (hl : c.length ≤ 1000) (hf : Few10 c) (hok : ∀ n ∈ c, n.ok) : ∀ i : Nat, i < c.length → OfSaid W0 bn m0 m1 A cp c (i : Int) := by
  intro i
  induction i using Nat.strongRecOn with
  | _ i ih =>
    intro hi no w henv
    obtain ⟨n, hn⟩ : ∃ n, c[i]? = some n := ⟨_, List.getElem?_eq_getElem hi⟩
    obtain ⟨hx, hy⟩ := hc i n hn
    have hm := List.mem_of_getElem? hn
    have hX : hasX n.op = true → OfSaid W0 bn m0 m1 A cp c n.x := fun h => by
      have := ih n.x.toNat (by have := hx h; omega) (by have := hx h; omega)
      rwa [show ((n.x.toNat : Nat) : Int) = n.x by have := hx h; omega] at this
    have hY : hasY n.op = true → OfSaid W0 bn m0 m1 A cp c n.y := fun h => by
      have := ih n.y.toNat (by have := hy h; omega) (by have := hy h; omega)
      rwa [show ((n.y.toNat : Nat) : Int) = n.y by have := hy h; omega] at this
    rw [Int.toNat_natCast]
    cases no
    · exact of_no hc hl hn (fun w h => pos_said (hf n hm) hX hY (hok n hm).2.1 h) henv
    · exact of_yes hc hl hn (fun w h => neg_said (hf n hm) hX hY (hok n hm).2.1 h) henv
end Go.Proofs.YtdpblciohodgcaaGreatDoor
