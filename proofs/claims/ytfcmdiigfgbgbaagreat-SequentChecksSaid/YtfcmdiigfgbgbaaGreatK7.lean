/- The normal forms of implications and equivalences; of negations. -/
import Derived.Test.YtfcmdiigfgbgbaaGreatGC
import Derived.Deep.RegionHeld3
import Derived.Test.YtfcmdiigfgbgbaaGreatGF1

namespace Go.Proofs.YtfcmdiigfgbgbaaGreat
open Go.RowKit

set_option maxRecDepth 100000 in
set_option maxHeartbeats 8000000 in
theorem pos_7 {W0 w : World} {bn m0 m1 cp : Nat} {A : Option Addr} {c : List Nd} {n : Nd} (hop : n.op = 7) (hx : OfSaid W0 bn m0 m1 A cp c n.x) (hy : OfSaid W0 bn m0 m1 A cp c n.y) (henv : NEnv W0 w bn m0 m1 A cp c) :
    Calls Tryz.prog 87 #[.pointer (some ⟨bn, 0, none⟩), n.val] w fun e w' => ∃ u, e = .returned u ∧ NEnv W0 w' bn m0 m1 A cp c ∧ NStep m0 m1 w w' ∧ Fml w' u (posS n (fun b j => nnfN c b j.toNat)) := by
  obtain ⟨o, i, e, k, x, y⟩ := n
  simp only at hop
  subst hop
  have X0 := Lib.hid ((Ext.refl w).alloc (.cells #[.int .i64 7, .int .i64 i, .int .i64 e, .int .i64 k, .int .i64 x, .int .i64 y] 53))
  have E0 := Lib.hid (henv.keep X0.out)
  have S0 := Lib.hid (NStep.of_ext (m0 := m0) (m1 := m1) X0.out)
  have hbx : (w.alloc (.cells #[.int .i64 7, .int .i64 i, .int .i64 e, .int .i64 k, .int .i64 x, .int .i64 y] 53)).heap[w.heap.size]? = some (.cells #[.int .i64 7, .int .i64 i, .int .i64 e, .int .i64 k, .int .i64 x, .int .i64 y] 53 (0, 0)) := heap_alloc_new _ _
  have B0 := Lib.hid hbx
  have hm0 := henv.f0.lt
  have hm1 := henv.f1.lt
  have hn0 : w.heap.size ≠ m0 := by omega
  have hn1 : w.heap.size ≠ m1 := by omega
  unfold Nd.val
  have HX := Lib.hid hx
  clear hx
  have HY := Lib.hid hy
  clear hy
  clear hm0 hm1 hbx henv
  go_enter Tryz.func87, Tryz.ntmps87
  go_wp2_with fail
  have HE := Lib.hid (show posS (⟨7, i, e, k, x, y⟩ : Nd) (fun b j => nnfN c b j.toNat) = orN (nnfN c true x.toNat) (nnfN c false y.toNat) from rfl)
  obtain ⟨W, hW⟩ : ∃ W, W = w.alloc (.cells #[.int .i64 7, .int .i64 i, .int .i64 e, .int .i64 k, .int .i64 x, .int .i64 y] 53) := ⟨_, rfl⟩
  rw [← hW] at X0 E0 S0 B0 ⊢
  clear hW
  have HK := Lib.hid (show ∀ w', NStep m0 m1 W w' → (w'.cell? ⟨w.heap.size, 4, none⟩ = some (.int .i64 x) ∧ w'.cell? ⟨w.heap.size, 5, none⟩ = some (.int .i64 y) ∧ w'.cell? ⟨w.heap.size, 1, none⟩ = some (.int .i64 i)) from fun w' hs => by
    obtain ⟨⟨z0, z1, z2, z3, z4, z5⟩, _, _⟩ := cells6 (hs.box B0.out hn0 hn1)
    exact ⟨z4, z5, z1⟩)
  have KS := HK.out W NStep.refl
  go_region_held3 (fun w' => w'.cell? ⟨w.heap.size, 4, none⟩ = some (.int .i64 x) ∧ w'.cell? ⟨w.heap.size, 5, none⟩ = some (.int .i64 y) ∧ w'.cell? ⟨w.heap.size, 1, none⟩ = some (.int .i64 i)) (first | exact KS | exact KSa | exact KSb | exact KSc | go_keep) (first | (have hq := Eb.out; clear hq; go_at_call 94; refine (or_any _ _ (nnfN c true x.toNat) (nnfN c false y.toNat) _ (by exact Fab.out.ext xw) (by exact Fbb.out.ext xw)).mono ?_; rintro e wc ⟨uc, rfl, hmc⟩; have hxc : Ext wb wc := Ext.trans xw hmc.2.2; have Ec := Lib.hid (Eb.out.keep hxc); have Sc := Lib.hid (Sb.out.trans (NStep.of_ext hxc)); have Fcc := Lib.hid hmc.fml; obtain ⟨Ac, cc, rfl, _⟩ := fml_slice hmc.fml; have KSc := HK.out _ Sc.out; clear hmc hxc) | (have hq := Ea.out; clear hq; go_at_call 74; refine (HY.out false _ (by exact Ea.out.keep xw)).mono ?_; rintro e wb ⟨ub, rfl, heb, hsb, hub⟩; have Eb := Lib.hid heb; have Sb := Lib.hid (NStep.trans (Sa.out.trans (NStep.of_ext (a := wa) xw)) hsb); have Fbb := Lib.hid hub; have Fab := Lib.hid ((Ea.out.keep (show Ext wa _ from xw)).fml (Faa.out.ext xw) hsb); obtain ⟨Ab, cb, rfl, _⟩ := fml_slice hub; have KSb := HK.out _ Sb.out; clear heb hsb hub) | (go_at_call 74; refine (HX.out true _ (by exact E0.out.keep xw)).mono ?_; rintro e wa ⟨ua, rfl, hea, hsa, hua⟩; have Ea := Lib.hid hea; have Sa := Lib.hid (NStep.trans (NStep.of_ext (a := W) xw) hsa); have Faa := Lib.hid hua; obtain ⟨Aa, ca, rfl, _⟩ := fml_slice hua; have KSa := HK.out _ Sa.out; clear hea hsa hua))
  all_goals
    go_wp2_with fail
    go_ret
    rw [HE.out]
    exact ⟨_, rfl, Ec.out.keep xw, (S0.out.trans Sc.out).trans (NStep.of_ext (a := wc) xw), Fcc.out.ext xw⟩

set_option maxRecDepth 100000 in
set_option maxHeartbeats 8000000 in
theorem neg_5 {W0 w : World} {bn m0 m1 cp : Nat} {A : Option Addr} {c : List Nd} {n : Nd} (hop : n.op = 5) (hx : OfSaid W0 bn m0 m1 A cp c n.x) (hy : OfSaid W0 bn m0 m1 A cp c n.y) (henv : NEnv W0 w bn m0 m1 A cp c) :
    Calls Tryz.prog 86 #[.pointer (some ⟨bn, 0, none⟩), n.val] w fun e w' => ∃ u, e = .returned u ∧ NEnv W0 w' bn m0 m1 A cp c ∧ NStep m0 m1 w w' ∧ Fml w' u (negS n (fun b j => nnfN c b j.toNat)) := by
  obtain ⟨o, i, e, k, x, y⟩ := n
  simp only at hop
  subst hop
  have X0 := Lib.hid ((Ext.refl w).alloc (.cells #[.int .i64 5, .int .i64 i, .int .i64 e, .int .i64 k, .int .i64 x, .int .i64 y] 53))
  have E0 := Lib.hid (henv.keep X0.out)
  have S0 := Lib.hid (NStep.of_ext (m0 := m0) (m1 := m1) X0.out)
  have hbx : (w.alloc (.cells #[.int .i64 5, .int .i64 i, .int .i64 e, .int .i64 k, .int .i64 x, .int .i64 y] 53)).heap[w.heap.size]? = some (.cells #[.int .i64 5, .int .i64 i, .int .i64 e, .int .i64 k, .int .i64 x, .int .i64 y] 53 (0, 0)) := heap_alloc_new _ _
  have B0 := Lib.hid hbx
  have hm0 := henv.f0.lt
  have hm1 := henv.f1.lt
  have hn0 : w.heap.size ≠ m0 := by omega
  have hn1 : w.heap.size ≠ m1 := by omega
  unfold Nd.val
  have HX := Lib.hid hx
  clear hx
  have HY := Lib.hid hy
  clear hy
  clear hm0 hm1 hbx henv
  go_enter Tryz.func86, Tryz.ntmps86
  go_wp2_with fail
  have HE := Lib.hid (show negS (⟨5, i, e, k, x, y⟩ : Nd) (fun b j => nnfN c b j.toNat) = orN (nnfN c true x.toNat) (nnfN c true y.toNat) from rfl)
  obtain ⟨W, hW⟩ : ∃ W, W = w.alloc (.cells #[.int .i64 5, .int .i64 i, .int .i64 e, .int .i64 k, .int .i64 x, .int .i64 y] 53) := ⟨_, rfl⟩
  rw [← hW] at X0 E0 S0 B0 ⊢
  clear hW
  have HK := Lib.hid (show ∀ w', NStep m0 m1 W w' → (w'.cell? ⟨w.heap.size, 4, none⟩ = some (.int .i64 x) ∧ w'.cell? ⟨w.heap.size, 5, none⟩ = some (.int .i64 y) ∧ w'.cell? ⟨w.heap.size, 1, none⟩ = some (.int .i64 i)) from fun w' hs => by
    obtain ⟨⟨z0, z1, z2, z3, z4, z5⟩, _, _⟩ := cells6 (hs.box B0.out hn0 hn1)
    exact ⟨z4, z5, z1⟩)
  have KS := HK.out W NStep.refl
  go_region_held3 (fun w' => w'.cell? ⟨w.heap.size, 4, none⟩ = some (.int .i64 x) ∧ w'.cell? ⟨w.heap.size, 5, none⟩ = some (.int .i64 y) ∧ w'.cell? ⟨w.heap.size, 1, none⟩ = some (.int .i64 i)) (first | exact KS | exact KSa | exact KSb | exact KSc | go_keep) (first | (have hq := Eb.out; clear hq; go_at_call 94; refine (or_any _ _ (nnfN c true x.toNat) (nnfN c true y.toNat) _ (by exact Fab.out.ext xw) (by exact Fbb.out.ext xw)).mono ?_; rintro e wc ⟨uc, rfl, hmc⟩; have hxc : Ext wb wc := Ext.trans xw hmc.2.2; have Ec := Lib.hid (Eb.out.keep hxc); have Sc := Lib.hid (Sb.out.trans (NStep.of_ext hxc)); have Fcc := Lib.hid hmc.fml; obtain ⟨Ac, cc, rfl, _⟩ := fml_slice hmc.fml; have KSc := HK.out _ Sc.out; clear hmc hxc) | (have hq := Ea.out; clear hq; go_at_call 74; refine (HY.out true _ (by exact Ea.out.keep xw)).mono ?_; rintro e wb ⟨ub, rfl, heb, hsb, hub⟩; have Eb := Lib.hid heb; have Sb := Lib.hid (NStep.trans (Sa.out.trans (NStep.of_ext (a := wa) xw)) hsb); have Fbb := Lib.hid hub; have Fab := Lib.hid ((Ea.out.keep (show Ext wa _ from xw)).fml (Faa.out.ext xw) hsb); obtain ⟨Ab, cb, rfl, _⟩ := fml_slice hub; have KSb := HK.out _ Sb.out; clear heb hsb hub) | (go_at_call 74; refine (HX.out true _ (by exact E0.out.keep xw)).mono ?_; rintro e wa ⟨ua, rfl, hea, hsa, hua⟩; have Ea := Lib.hid hea; have Sa := Lib.hid (NStep.trans (NStep.of_ext (a := W) xw) hsa); have Faa := Lib.hid hua; obtain ⟨Aa, ca, rfl, _⟩ := fml_slice hua; have KSa := HK.out _ Sa.out; clear hea hsa hua))
  all_goals
    go_wp2_with fail
    go_ret
    rw [HE.out]
    exact ⟨_, rfl, Ec.out.keep xw, (S0.out.trans Sc.out).trans (NStep.of_ext (a := wc) xw), Fcc.out.ext xw⟩

set_option maxRecDepth 100000 in
set_option maxHeartbeats 8000000 in
theorem neg_6 {W0 w : World} {bn m0 m1 cp : Nat} {A : Option Addr} {c : List Nd} {n : Nd} (hop : n.op = 6) (hx : OfSaid W0 bn m0 m1 A cp c n.x) (hy : OfSaid W0 bn m0 m1 A cp c n.y) (henv : NEnv W0 w bn m0 m1 A cp c) :
    Calls Tryz.prog 86 #[.pointer (some ⟨bn, 0, none⟩), n.val] w fun e w' => ∃ u, e = .returned u ∧ NEnv W0 w' bn m0 m1 A cp c ∧ NStep m0 m1 w w' ∧ Fml w' u (negS n (fun b j => nnfN c b j.toNat)) := by
  obtain ⟨o, i, e, k, x, y⟩ := n
  simp only at hop
  subst hop
  have X0 := Lib.hid ((Ext.refl w).alloc (.cells #[.int .i64 6, .int .i64 i, .int .i64 e, .int .i64 k, .int .i64 x, .int .i64 y] 53))
  have E0 := Lib.hid (henv.keep X0.out)
  have S0 := Lib.hid (NStep.of_ext (m0 := m0) (m1 := m1) X0.out)
  have hbx : (w.alloc (.cells #[.int .i64 6, .int .i64 i, .int .i64 e, .int .i64 k, .int .i64 x, .int .i64 y] 53)).heap[w.heap.size]? = some (.cells #[.int .i64 6, .int .i64 i, .int .i64 e, .int .i64 k, .int .i64 x, .int .i64 y] 53 (0, 0)) := heap_alloc_new _ _
  have B0 := Lib.hid hbx
  have hm0 := henv.f0.lt
  have hm1 := henv.f1.lt
  have hn0 : w.heap.size ≠ m0 := by omega
  have hn1 : w.heap.size ≠ m1 := by omega
  unfold Nd.val
  have HX := Lib.hid hx
  clear hx
  have HY := Lib.hid hy
  clear hy
  clear hm0 hm1 hbx henv
  go_enter Tryz.func86, Tryz.ntmps86
  go_wp2_with fail
  have HE := Lib.hid (show negS (⟨6, i, e, k, x, y⟩ : Nd) (fun b j => nnfN c b j.toNat) = andN (nnfN c true x.toNat) (nnfN c true y.toNat) from rfl)
  obtain ⟨W, hW⟩ : ∃ W, W = w.alloc (.cells #[.int .i64 6, .int .i64 i, .int .i64 e, .int .i64 k, .int .i64 x, .int .i64 y] 53) := ⟨_, rfl⟩
  rw [← hW] at X0 E0 S0 B0 ⊢
  clear hW
  have HK := Lib.hid (show ∀ w', NStep m0 m1 W w' → (w'.cell? ⟨w.heap.size, 4, none⟩ = some (.int .i64 x) ∧ w'.cell? ⟨w.heap.size, 5, none⟩ = some (.int .i64 y) ∧ w'.cell? ⟨w.heap.size, 1, none⟩ = some (.int .i64 i)) from fun w' hs => by
    obtain ⟨⟨z0, z1, z2, z3, z4, z5⟩, _, _⟩ := cells6 (hs.box B0.out hn0 hn1)
    exact ⟨z4, z5, z1⟩)
  have KS := HK.out W NStep.refl
  go_region_held3 (fun w' => w'.cell? ⟨w.heap.size, 4, none⟩ = some (.int .i64 x) ∧ w'.cell? ⟨w.heap.size, 5, none⟩ = some (.int .i64 y) ∧ w'.cell? ⟨w.heap.size, 1, none⟩ = some (.int .i64 i)) (first | exact KS | exact KSa | exact KSb | exact KSc | go_keep) (first | (have hq := Eb.out; clear hq; go_at_call 95; refine (and_any _ _ (nnfN c true x.toNat) (nnfN c true y.toNat) _ (by exact Fab.out.ext xw) (by exact Fbb.out.ext xw)).mono ?_; rintro e wc ⟨uc, rfl, hmc⟩; have hxc : Ext wb wc := Ext.trans xw hmc.2.2; have Ec := Lib.hid (Eb.out.keep hxc); have Sc := Lib.hid (Sb.out.trans (NStep.of_ext hxc)); have Fcc := Lib.hid hmc.fml; obtain ⟨Ac, cc, rfl, _⟩ := fml_slice hmc.fml; have KSc := HK.out _ Sc.out; clear hmc hxc) | (have hq := Ea.out; clear hq; go_at_call 74; refine (HY.out true _ (by exact Ea.out.keep xw)).mono ?_; rintro e wb ⟨ub, rfl, heb, hsb, hub⟩; have Eb := Lib.hid heb; have Sb := Lib.hid (NStep.trans (Sa.out.trans (NStep.of_ext (a := wa) xw)) hsb); have Fbb := Lib.hid hub; have Fab := Lib.hid ((Ea.out.keep (show Ext wa _ from xw)).fml (Faa.out.ext xw) hsb); obtain ⟨Ab, cb, rfl, _⟩ := fml_slice hub; have KSb := HK.out _ Sb.out; clear heb hsb hub) | (go_at_call 74; refine (HX.out true _ (by exact E0.out.keep xw)).mono ?_; rintro e wa ⟨ua, rfl, hea, hsa, hua⟩; have Ea := Lib.hid hea; have Sa := Lib.hid (NStep.trans (NStep.of_ext (a := W) xw) hsa); have Faa := Lib.hid hua; obtain ⟨Aa, ca, rfl, _⟩ := fml_slice hua; have KSa := HK.out _ Sa.out; clear hea hsa hua))
  all_goals
    go_wp2_with fail
    go_ret
    rw [HE.out]
    exact ⟨_, rfl, Ec.out.keep xw, (S0.out.trans Sc.out).trans (NStep.of_ext (a := wc) xw), Fcc.out.ext xw⟩

set_option maxRecDepth 100000 in
set_option maxHeartbeats 8000000 in
theorem neg_7 {W0 w : World} {bn m0 m1 cp : Nat} {A : Option Addr} {c : List Nd} {n : Nd} (hop : n.op = 7) (hx : OfSaid W0 bn m0 m1 A cp c n.x) (hy : OfSaid W0 bn m0 m1 A cp c n.y) (henv : NEnv W0 w bn m0 m1 A cp c) :
    Calls Tryz.prog 86 #[.pointer (some ⟨bn, 0, none⟩), n.val] w fun e w' => ∃ u, e = .returned u ∧ NEnv W0 w' bn m0 m1 A cp c ∧ NStep m0 m1 w w' ∧ Fml w' u (negS n (fun b j => nnfN c b j.toNat)) := by
  obtain ⟨o, i, e, k, x, y⟩ := n
  simp only at hop
  subst hop
  have X0 := Lib.hid ((Ext.refl w).alloc (.cells #[.int .i64 7, .int .i64 i, .int .i64 e, .int .i64 k, .int .i64 x, .int .i64 y] 53))
  have E0 := Lib.hid (henv.keep X0.out)
  have S0 := Lib.hid (NStep.of_ext (m0 := m0) (m1 := m1) X0.out)
  have hbx : (w.alloc (.cells #[.int .i64 7, .int .i64 i, .int .i64 e, .int .i64 k, .int .i64 x, .int .i64 y] 53)).heap[w.heap.size]? = some (.cells #[.int .i64 7, .int .i64 i, .int .i64 e, .int .i64 k, .int .i64 x, .int .i64 y] 53 (0, 0)) := heap_alloc_new _ _
  have B0 := Lib.hid hbx
  have hm0 := henv.f0.lt
  have hm1 := henv.f1.lt
  have hn0 : w.heap.size ≠ m0 := by omega
  have hn1 : w.heap.size ≠ m1 := by omega
  unfold Nd.val
  have HX := Lib.hid hx
  clear hx
  have HY := Lib.hid hy
  clear hy
  clear hm0 hm1 hbx henv
  go_enter Tryz.func86, Tryz.ntmps86
  go_wp2_with fail
  have HE := Lib.hid (show negS (⟨7, i, e, k, x, y⟩ : Nd) (fun b j => nnfN c b j.toNat) = andN (nnfN c false x.toNat) (nnfN c true y.toNat) from rfl)
  obtain ⟨W, hW⟩ : ∃ W, W = w.alloc (.cells #[.int .i64 7, .int .i64 i, .int .i64 e, .int .i64 k, .int .i64 x, .int .i64 y] 53) := ⟨_, rfl⟩
  rw [← hW] at X0 E0 S0 B0 ⊢
  clear hW
  have HK := Lib.hid (show ∀ w', NStep m0 m1 W w' → (w'.cell? ⟨w.heap.size, 4, none⟩ = some (.int .i64 x) ∧ w'.cell? ⟨w.heap.size, 5, none⟩ = some (.int .i64 y) ∧ w'.cell? ⟨w.heap.size, 1, none⟩ = some (.int .i64 i)) from fun w' hs => by
    obtain ⟨⟨z0, z1, z2, z3, z4, z5⟩, _, _⟩ := cells6 (hs.box B0.out hn0 hn1)
    exact ⟨z4, z5, z1⟩)
  have KS := HK.out W NStep.refl
  go_region_held3 (fun w' => w'.cell? ⟨w.heap.size, 4, none⟩ = some (.int .i64 x) ∧ w'.cell? ⟨w.heap.size, 5, none⟩ = some (.int .i64 y) ∧ w'.cell? ⟨w.heap.size, 1, none⟩ = some (.int .i64 i)) (first | exact KS | exact KSa | exact KSb | exact KSc | go_keep) (first | (have hq := Eb.out; clear hq; go_at_call 95; refine (and_any _ _ (nnfN c false x.toNat) (nnfN c true y.toNat) _ (by exact Fab.out.ext xw) (by exact Fbb.out.ext xw)).mono ?_; rintro e wc ⟨uc, rfl, hmc⟩; have hxc : Ext wb wc := Ext.trans xw hmc.2.2; have Ec := Lib.hid (Eb.out.keep hxc); have Sc := Lib.hid (Sb.out.trans (NStep.of_ext hxc)); have Fcc := Lib.hid hmc.fml; obtain ⟨Ac, cc, rfl, _⟩ := fml_slice hmc.fml; have KSc := HK.out _ Sc.out; clear hmc hxc) | (have hq := Ea.out; clear hq; go_at_call 74; refine (HY.out true _ (by exact Ea.out.keep xw)).mono ?_; rintro e wb ⟨ub, rfl, heb, hsb, hub⟩; have Eb := Lib.hid heb; have Sb := Lib.hid (NStep.trans (Sa.out.trans (NStep.of_ext (a := wa) xw)) hsb); have Fbb := Lib.hid hub; have Fab := Lib.hid ((Ea.out.keep (show Ext wa _ from xw)).fml (Faa.out.ext xw) hsb); obtain ⟨Ab, cb, rfl, _⟩ := fml_slice hub; have KSb := HK.out _ Sb.out; clear heb hsb hub) | (go_at_call 74; refine (HX.out false _ (by exact E0.out.keep xw)).mono ?_; rintro e wa ⟨ua, rfl, hea, hsa, hua⟩; have Ea := Lib.hid hea; have Sa := Lib.hid (NStep.trans (NStep.of_ext (a := W) xw) hsa); have Faa := Lib.hid hua; obtain ⟨Aa, ca, rfl, _⟩ := fml_slice hua; have KSa := HK.out _ Sa.out; clear hea hsa hua))
  all_goals
    go_wp2_with fail
    go_ret
    rw [HE.out]
    exact ⟨_, rfl, Ec.out.keep xw, (S0.out.trans Sc.out).trans (NStep.of_ext (a := wc) xw), Fcc.out.ext xw⟩

set_option maxRecDepth 100000 in
set_option maxHeartbeats 8000000 in
theorem neg_9 {W0 w : World} {bn m0 m1 cp : Nat} {A : Option Addr} {c : List Nd} {n : Nd} (hop : n.op = 9) (hx : OfSaid W0 bn m0 m1 A cp c n.x) (hi : i64ok n.i) (henv : NEnv W0 w bn m0 m1 A cp c) :
    Calls Tryz.prog 86 #[.pointer (some ⟨bn, 0, none⟩), n.val] w fun e w' => ∃ u, e = .returned u ∧ NEnv W0 w' bn m0 m1 A cp c ∧ NStep m0 m1 w w' ∧ Fml w' u (negS n (fun b j => nnfN c b j.toNat)) := by
  obtain ⟨o, i, e, k, x, y⟩ := n
  simp only at hop
  subst hop
  have X0 := Lib.hid ((Ext.refl w).alloc (.cells #[.int .i64 9, .int .i64 i, .int .i64 e, .int .i64 k, .int .i64 x, .int .i64 y] 53))
  have E0 := Lib.hid (henv.keep X0.out)
  have S0 := Lib.hid (NStep.of_ext (m0 := m0) (m1 := m1) X0.out)
  have hbx : (w.alloc (.cells #[.int .i64 9, .int .i64 i, .int .i64 e, .int .i64 k, .int .i64 x, .int .i64 y] 53)).heap[w.heap.size]? = some (.cells #[.int .i64 9, .int .i64 i, .int .i64 e, .int .i64 k, .int .i64 x, .int .i64 y] 53 (0, 0)) := heap_alloc_new _ _
  have B0 := Lib.hid hbx
  have hm0 := henv.f0.lt
  have hm1 := henv.f1.lt
  have hn0 : w.heap.size ≠ m0 := by omega
  have hn1 : w.heap.size ≠ m1 := by omega
  unfold Nd.val
  have HX := Lib.hid hx
  clear hx
  clear hm0 hm1 hbx henv
  go_enter Tryz.func86, Tryz.ntmps86
  go_wp2_with fail
  have HE := Lib.hid (show negS (⟨9, i, e, k, x, y⟩ : Nd) (fun b j => nnfN c b j.toNat) = possN i (nnfN c true x.toNat) from rfl)
  obtain ⟨W, hW⟩ : ∃ W, W = w.alloc (.cells #[.int .i64 9, .int .i64 i, .int .i64 e, .int .i64 k, .int .i64 x, .int .i64 y] 53) := ⟨_, rfl⟩
  rw [← hW] at X0 E0 S0 B0 ⊢
  clear hW
  have HK := Lib.hid (show ∀ w', NStep m0 m1 W w' → (w'.cell? ⟨w.heap.size, 4, none⟩ = some (.int .i64 x) ∧ w'.cell? ⟨w.heap.size, 5, none⟩ = some (.int .i64 y) ∧ w'.cell? ⟨w.heap.size, 1, none⟩ = some (.int .i64 i)) from fun w' hs => by
    obtain ⟨⟨z0, z1, z2, z3, z4, z5⟩, _, _⟩ := cells6 (hs.box B0.out hn0 hn1)
    exact ⟨z4, z5, z1⟩)
  have KS := HK.out W NStep.refl
  go_region_held3 (fun w' => w'.cell? ⟨w.heap.size, 4, none⟩ = some (.int .i64 x) ∧ w'.cell? ⟨w.heap.size, 5, none⟩ = some (.int .i64 y) ∧ w'.cell? ⟨w.heap.size, 1, none⟩ = some (.int .i64 i)) (first | exact KS | exact KSa | exact KSb | go_keep) (first | (have hq := Ea.out; clear hq; go_at_call 96; refine (poss_any i hi _ (nnfN c true x.toNat) _ (by exact Faa.out.ext xw)).mono ?_; rintro e wb ⟨ub, rfl, hmb⟩; have hxb : Ext wa wb := Ext.trans xw hmb.2.2; have Eb := Lib.hid (Ea.out.keep hxb); have Sb := Lib.hid (Sa.out.trans (NStep.of_ext hxb)); have Fbb := Lib.hid hmb.fml; obtain ⟨Ab, cb, rfl, _⟩ := fml_slice hmb.fml; have KSb := HK.out _ Sb.out; clear hmb hxb) | (go_at_call 74; refine (HX.out true _ (by exact E0.out.keep xw)).mono ?_; rintro e wa ⟨ua, rfl, hea, hsa, hua⟩; have Ea := Lib.hid hea; have Sa := Lib.hid (NStep.trans (NStep.of_ext (a := W) xw) hsa); have Faa := Lib.hid hua; obtain ⟨Aa, ca, rfl, _⟩ := fml_slice hua; have KSa := HK.out _ Sa.out; clear hea hsa hua))
  all_goals
    go_wp2_with fail
    go_ret
    rw [HE.out]
    exact ⟨_, rfl, Eb.out.keep xw, (S0.out.trans Sb.out).trans (NStep.of_ext (a := wb) xw), Fbb.out.ext xw⟩

set_option maxRecDepth 100000 in
set_option maxHeartbeats 8000000 in
theorem neg_10 {W0 w : World} {bn m0 m1 cp : Nat} {A : Option Addr} {c : List Nd} {n : Nd} (hop : n.op = 10) (hx : OfSaid W0 bn m0 m1 A cp c n.x) (hi : i64ok n.i) (henv : NEnv W0 w bn m0 m1 A cp c) :
    Calls Tryz.prog 86 #[.pointer (some ⟨bn, 0, none⟩), n.val] w fun e w' => ∃ u, e = .returned u ∧ NEnv W0 w' bn m0 m1 A cp c ∧ NStep m0 m1 w w' ∧ Fml w' u (negS n (fun b j => nnfN c b j.toNat)) := by
  obtain ⟨o, i, e, k, x, y⟩ := n
  simp only at hop
  subst hop
  have X0 := Lib.hid ((Ext.refl w).alloc (.cells #[.int .i64 10, .int .i64 i, .int .i64 e, .int .i64 k, .int .i64 x, .int .i64 y] 53))
  have E0 := Lib.hid (henv.keep X0.out)
  have S0 := Lib.hid (NStep.of_ext (m0 := m0) (m1 := m1) X0.out)
  have hbx : (w.alloc (.cells #[.int .i64 10, .int .i64 i, .int .i64 e, .int .i64 k, .int .i64 x, .int .i64 y] 53)).heap[w.heap.size]? = some (.cells #[.int .i64 10, .int .i64 i, .int .i64 e, .int .i64 k, .int .i64 x, .int .i64 y] 53 (0, 0)) := heap_alloc_new _ _
  have B0 := Lib.hid hbx
  have hm0 := henv.f0.lt
  have hm1 := henv.f1.lt
  have hn0 : w.heap.size ≠ m0 := by omega
  have hn1 : w.heap.size ≠ m1 := by omega
  unfold Nd.val
  have HX := Lib.hid hx
  clear hx
  clear hm0 hm1 hbx henv
  go_enter Tryz.func86, Tryz.ntmps86
  go_wp2_with fail
  have HE := Lib.hid (show negS (⟨10, i, e, k, x, y⟩ : Nd) (fun b j => nnfN c b j.toNat) = knowN i (nnfN c true x.toNat) from rfl)
  obtain ⟨W, hW⟩ : ∃ W, W = w.alloc (.cells #[.int .i64 10, .int .i64 i, .int .i64 e, .int .i64 k, .int .i64 x, .int .i64 y] 53) := ⟨_, rfl⟩
  rw [← hW] at X0 E0 S0 B0 ⊢
  clear hW
  have HK := Lib.hid (show ∀ w', NStep m0 m1 W w' → (w'.cell? ⟨w.heap.size, 4, none⟩ = some (.int .i64 x) ∧ w'.cell? ⟨w.heap.size, 5, none⟩ = some (.int .i64 y) ∧ w'.cell? ⟨w.heap.size, 1, none⟩ = some (.int .i64 i)) from fun w' hs => by
    obtain ⟨⟨z0, z1, z2, z3, z4, z5⟩, _, _⟩ := cells6 (hs.box B0.out hn0 hn1)
    exact ⟨z4, z5, z1⟩)
  have KS := HK.out W NStep.refl
  go_region_held3 (fun w' => w'.cell? ⟨w.heap.size, 4, none⟩ = some (.int .i64 x) ∧ w'.cell? ⟨w.heap.size, 5, none⟩ = some (.int .i64 y) ∧ w'.cell? ⟨w.heap.size, 1, none⟩ = some (.int .i64 i)) (first | exact KS | exact KSa | exact KSb | go_keep) (first | (have hq := Ea.out; clear hq; go_at_call 18; refine (know_any i hi _ (nnfN c true x.toNat) _ (by exact Faa.out.ext xw)).mono ?_; rintro e wb ⟨ub, rfl, hmb⟩; have hxb : Ext wa wb := Ext.trans xw hmb.2.2; have Eb := Lib.hid (Ea.out.keep hxb); have Sb := Lib.hid (Sa.out.trans (NStep.of_ext hxb)); have Fbb := Lib.hid hmb.fml; obtain ⟨Ab, cb, rfl, _⟩ := fml_slice hmb.fml; have KSb := HK.out _ Sb.out; clear hmb hxb) | (go_at_call 74; refine (HX.out true _ (by exact E0.out.keep xw)).mono ?_; rintro e wa ⟨ua, rfl, hea, hsa, hua⟩; have Ea := Lib.hid hea; have Sa := Lib.hid (NStep.trans (NStep.of_ext (a := W) xw) hsa); have Faa := Lib.hid hua; obtain ⟨Aa, ca, rfl, _⟩ := fml_slice hua; have KSa := HK.out _ Sa.out; clear hea hsa hua))
  all_goals
    go_wp2_with fail
    go_ret
    rw [HE.out]
    exact ⟨_, rfl, Eb.out.keep xw, (S0.out.trans Sb.out).trans (NStep.of_ext (a := wb) xw), Fbb.out.ext xw⟩

set_option maxRecDepth 100000 in
set_option maxHeartbeats 8000000 in
theorem pos_8 {W0 w : World} {bn m0 m1 cp : Nat} {A : Option Addr} {c : List Nd} {n : Nd} (hop : n.op = 8) (hx : OfSaid W0 bn m0 m1 A cp c n.x) (hy : OfSaid W0 bn m0 m1 A cp c n.y) (henv : NEnv W0 w bn m0 m1 A cp c) :
    Calls Tryz.prog 87 #[.pointer (some ⟨bn, 0, none⟩), n.val] w fun e w' => ∃ u, e = .returned u ∧ NEnv W0 w' bn m0 m1 A cp c ∧ NStep m0 m1 w w' ∧ Fml w' u (posS n (fun b j => nnfN c b j.toNat)) := by
  obtain ⟨o, i, e, k, x, y⟩ := n
  simp only at hop
  subst hop
  have X0 := Lib.hid ((Ext.refl w).alloc (.cells #[.int .i64 8, .int .i64 i, .int .i64 e, .int .i64 k, .int .i64 x, .int .i64 y] 53))
  have E0 := Lib.hid (henv.keep X0.out)
  have S0 := Lib.hid (NStep.of_ext (m0 := m0) (m1 := m1) X0.out)
  have hbx : (w.alloc (.cells #[.int .i64 8, .int .i64 i, .int .i64 e, .int .i64 k, .int .i64 x, .int .i64 y] 53)).heap[w.heap.size]? = some (.cells #[.int .i64 8, .int .i64 i, .int .i64 e, .int .i64 k, .int .i64 x, .int .i64 y] 53 (0, 0)) := heap_alloc_new _ _
  have B0 := Lib.hid hbx
  have hm0 := henv.f0.lt
  have hm1 := henv.f1.lt
  have hn0 : w.heap.size ≠ m0 := by omega
  have hn1 : w.heap.size ≠ m1 := by omega
  unfold Nd.val
  have HX := Lib.hid hx
  clear hx
  have HY := Lib.hid hy
  clear hy
  clear hm0 hm1 hbx henv
  go_enter Tryz.func87, Tryz.ntmps87
  go_wp2_with fail
  have HE := Lib.hid (show posS (⟨8, i, e, k, x, y⟩ : Nd) (fun b j => nnfN c b j.toNat) = andN (orN (nnfN c true x.toNat) (nnfN c false y.toNat)) (orN (nnfN c false x.toNat) (nnfN c true y.toNat)) from rfl)
  obtain ⟨W, hW⟩ : ∃ W, W = w.alloc (.cells #[.int .i64 8, .int .i64 i, .int .i64 e, .int .i64 k, .int .i64 x, .int .i64 y] 53) := ⟨_, rfl⟩
  rw [← hW] at X0 E0 S0 B0 ⊢
  clear hW
  have HK := Lib.hid (show ∀ w', NStep m0 m1 W w' → (w'.cell? ⟨w.heap.size, 4, none⟩ = some (.int .i64 x) ∧ w'.cell? ⟨w.heap.size, 5, none⟩ = some (.int .i64 y) ∧ w'.cell? ⟨w.heap.size, 1, none⟩ = some (.int .i64 i)) from fun w' hs => by
    obtain ⟨⟨z0, z1, z2, z3, z4, z5⟩, _, _⟩ := cells6 (hs.box B0.out hn0 hn1)
    exact ⟨z4, z5, z1⟩)
  have KS := HK.out W NStep.refl
  go_region_held3 (fun w' => w'.cell? ⟨w.heap.size, 4, none⟩ = some (.int .i64 x) ∧ w'.cell? ⟨w.heap.size, 5, none⟩ = some (.int .i64 y) ∧ w'.cell? ⟨w.heap.size, 1, none⟩ = some (.int .i64 i)) (first | exact KS | exact KSa | exact KSb | exact KSc | exact KSd | exact KSe | exact KSf | exact KSg | go_keep) (first | (have hq := Ef.out; clear hq; go_at_call 95; refine (and_any _ _ (orN (nnfN c true x.toNat) (nnfN c false y.toNat)) (orN (nnfN c false x.toNat) (nnfN c true y.toNat)) _ (by exact Fcf.out.ext xw) (by exact Fff.out.ext xw)).mono ?_; rintro e wg ⟨ug, rfl, hmg⟩; have hxg : Ext wf wg := Ext.trans xw hmg.2.2; have Eg := Lib.hid (Ef.out.keep hxg); have Sg := Lib.hid (Sf.out.trans (NStep.of_ext hxg)); have Fgg := Lib.hid hmg.fml; obtain ⟨Ag, cg, rfl, _⟩ := fml_slice hmg.fml; have KSg := HK.out _ Sg.out; clear hmg hxg) | (have hq := Ee.out; clear hq; go_at_call 94; refine (or_any _ _ (nnfN c false x.toNat) (nnfN c true y.toNat) _ (by exact Fde.out.ext xw) (by exact Fee.out.ext xw)).mono ?_; rintro e wf ⟨uf, rfl, hmf⟩; have hxf : Ext we wf := Ext.trans xw hmf.2.2; have Ef := Lib.hid (Ee.out.keep hxf); have Sf := Lib.hid (Se.out.trans (NStep.of_ext hxf)); have Fff := Lib.hid hmf.fml; have Fcf := Lib.hid (Fce.out.ext hxf); obtain ⟨Af, cf, rfl, _⟩ := fml_slice hmf.fml; have KSf := HK.out _ Sf.out; clear hmf hxf) | (have hq := Ed.out; clear hq; go_at_call 74; refine (HY.out true _ (by exact Ed.out.keep xw)).mono ?_; rintro e we ⟨ue, rfl, hee, hse, hue⟩; have Ee := Lib.hid hee; have Se := Lib.hid (NStep.trans (Sd.out.trans (NStep.of_ext (a := wd) xw)) hse); have Fee := Lib.hid hue; have Fce := Lib.hid ((Ed.out.keep (show Ext wd _ from xw)).fml (Fcd.out.ext xw) hse); have Fde := Lib.hid ((Ed.out.keep (show Ext wd _ from xw)).fml (Fdd.out.ext xw) hse); obtain ⟨Ae, ce, rfl, _⟩ := fml_slice hue; have KSe := HK.out _ Se.out; clear hee hse hue) | (have hq := Ec.out; clear hq; go_at_call 74; refine (HX.out false _ (by exact Ec.out.keep xw)).mono ?_; rintro e wd ⟨ud, rfl, hed, hsd, hud⟩; have Ed := Lib.hid hed; have Sd := Lib.hid (NStep.trans (Sc.out.trans (NStep.of_ext (a := wc) xw)) hsd); have Fdd := Lib.hid hud; have Fcd := Lib.hid ((Ec.out.keep (show Ext wc _ from xw)).fml (Fcc.out.ext xw) hsd); obtain ⟨Ad, cd, rfl, _⟩ := fml_slice hud; have KSd := HK.out _ Sd.out; clear hed hsd hud) | (have hq := Eb.out; clear hq; go_at_call 94; refine (or_any _ _ (nnfN c true x.toNat) (nnfN c false y.toNat) _ (by exact Fab.out.ext xw) (by exact Fbb.out.ext xw)).mono ?_; rintro e wc ⟨uc, rfl, hmc⟩; have hxc : Ext wb wc := Ext.trans xw hmc.2.2; have Ec := Lib.hid (Eb.out.keep hxc); have Sc := Lib.hid (Sb.out.trans (NStep.of_ext hxc)); have Fcc := Lib.hid hmc.fml; obtain ⟨Ac, cc, rfl, _⟩ := fml_slice hmc.fml; have KSc := HK.out _ Sc.out; clear hmc hxc) | (have hq := Ea.out; clear hq; go_at_call 74; refine (HY.out false _ (by exact Ea.out.keep xw)).mono ?_; rintro e wb ⟨ub, rfl, heb, hsb, hub⟩; have Eb := Lib.hid heb; have Sb := Lib.hid (NStep.trans (Sa.out.trans (NStep.of_ext (a := wa) xw)) hsb); have Fbb := Lib.hid hub; have Fab := Lib.hid ((Ea.out.keep (show Ext wa _ from xw)).fml (Faa.out.ext xw) hsb); obtain ⟨Ab, cb, rfl, _⟩ := fml_slice hub; have KSb := HK.out _ Sb.out; clear heb hsb hub) | (go_at_call 74; refine (HX.out true _ (by exact E0.out.keep xw)).mono ?_; rintro e wa ⟨ua, rfl, hea, hsa, hua⟩; have Ea := Lib.hid hea; have Sa := Lib.hid (NStep.trans (NStep.of_ext (a := W) xw) hsa); have Faa := Lib.hid hua; obtain ⟨Aa, ca, rfl, _⟩ := fml_slice hua; have KSa := HK.out _ Sa.out; clear hea hsa hua))
  all_goals
    go_wp2_with fail
    go_ret
    rw [HE.out]
    exact ⟨_, rfl, Eg.out.keep xw, (S0.out.trans Sg.out).trans (NStep.of_ext (a := wg) xw), Fgg.out.ext xw⟩

set_option maxRecDepth 100000 in
set_option maxHeartbeats 8000000 in
theorem neg_8 {W0 w : World} {bn m0 m1 cp : Nat} {A : Option Addr} {c : List Nd} {n : Nd} (hop : n.op = 8) (hx : OfSaid W0 bn m0 m1 A cp c n.x) (hy : OfSaid W0 bn m0 m1 A cp c n.y) (henv : NEnv W0 w bn m0 m1 A cp c) :
    Calls Tryz.prog 86 #[.pointer (some ⟨bn, 0, none⟩), n.val] w fun e w' => ∃ u, e = .returned u ∧ NEnv W0 w' bn m0 m1 A cp c ∧ NStep m0 m1 w w' ∧ Fml w' u (negS n (fun b j => nnfN c b j.toNat)) := by
  obtain ⟨o, i, e, k, x, y⟩ := n
  simp only at hop
  subst hop
  have X0 := Lib.hid ((Ext.refl w).alloc (.cells #[.int .i64 8, .int .i64 i, .int .i64 e, .int .i64 k, .int .i64 x, .int .i64 y] 53))
  have E0 := Lib.hid (henv.keep X0.out)
  have S0 := Lib.hid (NStep.of_ext (m0 := m0) (m1 := m1) X0.out)
  have hbx : (w.alloc (.cells #[.int .i64 8, .int .i64 i, .int .i64 e, .int .i64 k, .int .i64 x, .int .i64 y] 53)).heap[w.heap.size]? = some (.cells #[.int .i64 8, .int .i64 i, .int .i64 e, .int .i64 k, .int .i64 x, .int .i64 y] 53 (0, 0)) := heap_alloc_new _ _
  have B0 := Lib.hid hbx
  have hm0 := henv.f0.lt
  have hm1 := henv.f1.lt
  have hn0 : w.heap.size ≠ m0 := by omega
  have hn1 : w.heap.size ≠ m1 := by omega
  unfold Nd.val
  have HX := Lib.hid hx
  clear hx
  have HY := Lib.hid hy
  clear hy
  clear hm0 hm1 hbx henv
  go_enter Tryz.func86, Tryz.ntmps86
  go_wp2_with fail
  have HE := Lib.hid (show negS (⟨8, i, e, k, x, y⟩ : Nd) (fun b j => nnfN c b j.toNat) = orN (andN (nnfN c false x.toNat) (nnfN c true y.toNat)) (andN (nnfN c true x.toNat) (nnfN c false y.toNat)) from rfl)
  obtain ⟨W, hW⟩ : ∃ W, W = w.alloc (.cells #[.int .i64 8, .int .i64 i, .int .i64 e, .int .i64 k, .int .i64 x, .int .i64 y] 53) := ⟨_, rfl⟩
  rw [← hW] at X0 E0 S0 B0 ⊢
  clear hW
  have HK := Lib.hid (show ∀ w', NStep m0 m1 W w' → (w'.cell? ⟨w.heap.size, 4, none⟩ = some (.int .i64 x) ∧ w'.cell? ⟨w.heap.size, 5, none⟩ = some (.int .i64 y) ∧ w'.cell? ⟨w.heap.size, 1, none⟩ = some (.int .i64 i)) from fun w' hs => by
    obtain ⟨⟨z0, z1, z2, z3, z4, z5⟩, _, _⟩ := cells6 (hs.box B0.out hn0 hn1)
    exact ⟨z4, z5, z1⟩)
  have KS := HK.out W NStep.refl
  go_region_held3 (fun w' => w'.cell? ⟨w.heap.size, 4, none⟩ = some (.int .i64 x) ∧ w'.cell? ⟨w.heap.size, 5, none⟩ = some (.int .i64 y) ∧ w'.cell? ⟨w.heap.size, 1, none⟩ = some (.int .i64 i)) (first | exact KS | exact KSa | exact KSb | exact KSc | exact KSd | exact KSe | exact KSf | exact KSg | go_keep) (first | (have hq := Ef.out; clear hq; go_at_call 94; refine (or_any _ _ (andN (nnfN c false x.toNat) (nnfN c true y.toNat)) (andN (nnfN c true x.toNat) (nnfN c false y.toNat)) _ (by exact Fcf.out.ext xw) (by exact Fff.out.ext xw)).mono ?_; rintro e wg ⟨ug, rfl, hmg⟩; have hxg : Ext wf wg := Ext.trans xw hmg.2.2; have Eg := Lib.hid (Ef.out.keep hxg); have Sg := Lib.hid (Sf.out.trans (NStep.of_ext hxg)); have Fgg := Lib.hid hmg.fml; obtain ⟨Ag, cg, rfl, _⟩ := fml_slice hmg.fml; have KSg := HK.out _ Sg.out; clear hmg hxg) | (have hq := Ee.out; clear hq; go_at_call 95; refine (and_any _ _ (nnfN c true x.toNat) (nnfN c false y.toNat) _ (by exact Fde.out.ext xw) (by exact Fee.out.ext xw)).mono ?_; rintro e wf ⟨uf, rfl, hmf⟩; have hxf : Ext we wf := Ext.trans xw hmf.2.2; have Ef := Lib.hid (Ee.out.keep hxf); have Sf := Lib.hid (Se.out.trans (NStep.of_ext hxf)); have Fff := Lib.hid hmf.fml; have Fcf := Lib.hid (Fce.out.ext hxf); obtain ⟨Af, cf, rfl, _⟩ := fml_slice hmf.fml; have KSf := HK.out _ Sf.out; clear hmf hxf) | (have hq := Ed.out; clear hq; go_at_call 74; refine (HY.out false _ (by exact Ed.out.keep xw)).mono ?_; rintro e we ⟨ue, rfl, hee, hse, hue⟩; have Ee := Lib.hid hee; have Se := Lib.hid (NStep.trans (Sd.out.trans (NStep.of_ext (a := wd) xw)) hse); have Fee := Lib.hid hue; have Fce := Lib.hid ((Ed.out.keep (show Ext wd _ from xw)).fml (Fcd.out.ext xw) hse); have Fde := Lib.hid ((Ed.out.keep (show Ext wd _ from xw)).fml (Fdd.out.ext xw) hse); obtain ⟨Ae, ce, rfl, _⟩ := fml_slice hue; have KSe := HK.out _ Se.out; clear hee hse hue) | (have hq := Ec.out; clear hq; go_at_call 74; refine (HX.out true _ (by exact Ec.out.keep xw)).mono ?_; rintro e wd ⟨ud, rfl, hed, hsd, hud⟩; have Ed := Lib.hid hed; have Sd := Lib.hid (NStep.trans (Sc.out.trans (NStep.of_ext (a := wc) xw)) hsd); have Fdd := Lib.hid hud; have Fcd := Lib.hid ((Ec.out.keep (show Ext wc _ from xw)).fml (Fcc.out.ext xw) hsd); obtain ⟨Ad, cd, rfl, _⟩ := fml_slice hud; have KSd := HK.out _ Sd.out; clear hed hsd hud) | (have hq := Eb.out; clear hq; go_at_call 95; refine (and_any _ _ (nnfN c false x.toNat) (nnfN c true y.toNat) _ (by exact Fab.out.ext xw) (by exact Fbb.out.ext xw)).mono ?_; rintro e wc ⟨uc, rfl, hmc⟩; have hxc : Ext wb wc := Ext.trans xw hmc.2.2; have Ec := Lib.hid (Eb.out.keep hxc); have Sc := Lib.hid (Sb.out.trans (NStep.of_ext hxc)); have Fcc := Lib.hid hmc.fml; obtain ⟨Ac, cc, rfl, _⟩ := fml_slice hmc.fml; have KSc := HK.out _ Sc.out; clear hmc hxc) | (have hq := Ea.out; clear hq; go_at_call 74; refine (HY.out true _ (by exact Ea.out.keep xw)).mono ?_; rintro e wb ⟨ub, rfl, heb, hsb, hub⟩; have Eb := Lib.hid heb; have Sb := Lib.hid (NStep.trans (Sa.out.trans (NStep.of_ext (a := wa) xw)) hsb); have Fbb := Lib.hid hub; have Fab := Lib.hid ((Ea.out.keep (show Ext wa _ from xw)).fml (Faa.out.ext xw) hsb); obtain ⟨Ab, cb, rfl, _⟩ := fml_slice hub; have KSb := HK.out _ Sb.out; clear heb hsb hub) | (go_at_call 74; refine (HX.out false _ (by exact E0.out.keep xw)).mono ?_; rintro e wa ⟨ua, rfl, hea, hsa, hua⟩; have Ea := Lib.hid hea; have Sa := Lib.hid (NStep.trans (NStep.of_ext (a := W) xw) hsa); have Faa := Lib.hid hua; obtain ⟨Aa, ca, rfl, _⟩ := fml_slice hua; have KSa := HK.out _ Sa.out; clear hea hsa hua))
  all_goals
    go_wp2_with fail
    go_ret
    rw [HE.out]
    exact ⟨_, rfl, Eg.out.keep xw, (S0.out.trans Sg.out).trans (NStep.of_ext (a := wg) xw), Fgg.out.ext xw⟩

end Go.Proofs.YtfcmdiigfgbgbaaGreat
