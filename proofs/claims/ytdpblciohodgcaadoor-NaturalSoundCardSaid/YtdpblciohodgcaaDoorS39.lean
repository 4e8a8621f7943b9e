/- slices.IndexFunc and ContainsFunc, with a test of any function (I). -/
import Derived.Test.YtdpblciohodgcaaDoorS37
import Derived.Test.YtdpblciohodgcaaDoorS08
import Derived.Test.YtdpblciohodgcaaDoorS34
import Derived.Test.YtdpblciohodgcaaDoorS32
import Derived.Test.YtdpblciohodgcaaDoorS38

namespace Go.Proofs.YtdpblciohodgcaaDoor
open Go.RowKit

set_option maxRecDepth 100000 in
set_option maxHeartbeats 8000000 in
theorem indexFI_any (g : Nat) (lb : Array Value) (eg : ∀ args w, (callFunc g args).run Tryd.prog w = .ok (.enter g args) w) (p : Int → Bool) (v : Value) (l : List (Int)) (w : World) (h : Ints w v l)
    (hp : ∀ (W : World) (s : Int), s ∈ l → Ext w W → Calls Tryd.prog g (#[.int .i64 s] ++ lb) W fun e w' => e = .returned (.bool (p s)) ∧ Ext W w') :
    Calls Tryd.prog 54 #[v, .func (.func g) #[] lb] w fun e w' => e = .returned (.int .i64 (findI p l)) ∧ Ext w w' := by
  obtain ⟨A, c, rfl, hcap, hmax, hr⟩ := h
  have HR := Lib.hid hr
  clear hr
  unfold maxLen at hmax
  have HP := Lib.hid hp
  clear hp
  go_enter Tryd.func54, Tryd.ntmps54
  go_wp2_with fail
  go_loopw [5, 8] (fun _ i wr => ∃ k : Nat, k ≤ l.length ∧ i = .int .i64 (k : Int) ∧ Hid (∀ t ∈ l.take k, p t = false) ∧ Hid (Ext w wr)) (fun _ i _ => l.length - (intOf i).toNat)
  case atStart => exact ⟨0, Nat.zero_le _, rfl, Lib.hid (by simp), Lib.hid (Ext.refl _)⟩
  case round =>
    obtain ⟨k, hk, rfl, HNI, HX⟩ := hrel
    by_cases hlt2 : k < l.length
    · obtain ⟨s, hs⟩ : ∃ s, l[k]? = some s := ⟨_, List.getElem?_eq_getElem hlt2⟩
      obtain ⟨ad, rfl, hb1, hcz⟩ := HR.out (by intro e; rw [e] at hlt2; simp at hlt2)
      have a0 : wr.cell? (ad.add k) = some (.int .i64 s) := (HX.out.cell (p := ad.add k) (by rw [block_of_add]; exact hb1)).trans (hcz k s hs)
      clear hcz
      have HA := Lib.hid hs
      have hk1 : (k : Int) < (l.length : Int) := by omega
      clear hs
      cases hps : p s
      · have HT : Hid (∀ t ∈ l.take (k + 1), p t = false) := Lib.hid (by
          rw [take_snocI HA.out]
          intro t ht
          rcases List.mem_append.1 ht with ht | ht
          · exact HNI.out t ht
          · rw [List.mem_singleton.1 ht]; exact hps)
        go_wp2_with (refine (HP.out _ s (memI HA.out) HX.out).mono ?_; rintro e w1 ⟨rfl, hx⟩; rw [hps])
        go_roundw
        case rel => exact ⟨k + 1, by omega, by go_num, HT, Lib.hid (HX.out.trans hx)⟩
        case measure => simp [intOf]; omega
      · have HE := Lib.hid (findI_hit (p := p) HA.out hps HNI.out)
        go_wp2_with (refine (HP.out _ s (memI HA.out) HX.out).mono ?_; rintro e w1 ⟨rfl, hx⟩; rw [hps])
        go_ret
        exact ⟨by rw [HE.out] <;> rfl, HX.out.trans hx⟩
    · obtain rfl : l.length = k := by omega
      have HE := Lib.hid (findI_miss (p := p) (l := l) (fun t ht => HNI.out t (by rw [List.take_of_length_le (Nat.le_refl _)]; exact ht)))
      go_wp2_with fail
      go_ret
      exact ⟨by rw [HE.out] <;> rfl, HX.out⟩
set_option maxRecDepth 100000 in
set_option maxHeartbeats 4000000 in
theorem containsFI_any (g : Nat) (lb : Array Value) (eg : ∀ args w, (callFunc g args).run Tryd.prog w = .ok (.enter g args) w) (p : Int → Bool) (v : Value) (l : List (Int)) (w : World) (h : Ints w v l)
    (hp : ∀ (W : World) (s : Int), s ∈ l → Ext w W → Calls Tryd.prog g (#[.int .i64 s] ++ lb) W fun e w' => e = .returned (.bool (p s)) ∧ Ext W w') :
    Calls Tryd.prog 37 #[v, .func (.func g) #[] lb] w fun e w' => e = .returned (.bool (l.any p)) ∧ Ext w w' := by
  have HI := Lib.hid (indexFI_any g lb eg p v l w h hp)
  have HE := Lib.hid (findI_any p l)
  clear hp h
  obtain ⟨z, hz⟩ : ∃ z, z = findI p l := ⟨_, rfl⟩
  rw [← hz] at HI HE
  clear hz
  go_enter Tryd.func37, Tryd.ntmps37
  go_wp2_with (refine HI.out.mono ?_; rintro e w1 ⟨rfl, hx⟩)
  go_ret
  exact ⟨by rw [← HE.out] <;> rfl, hx⟩
end Go.Proofs.YtdpblciohodgcaaDoor

/- The program's frames.Properties. -/

namespace Go.Proofs.YtdpblciohodgcaaDoor
open Go.RowKit

theorem ints_lit (w : World) (l : List Int) (t : TypeId) (hl : l.length ≤ 10) : Ints (w.alloc (.cells (l.map (Value.int .i64)).toArray t)) (.slice (some ⟨w.heap.size, 0, none⟩) l.length l.length) l := by
  refine ⟨_, _, rfl, Nat.le_refl _, by unfold maxLen; omega, fun _ => ⟨_, rfl, by simp, fun k z hk => ?_⟩⟩
  have h1 := heap_alloc_new w (.cells (l.map (Value.int .i64)).toArray t)
  rw [addr_zero]
  have h2 : (w.alloc (.cells (l.map (Value.int .i64)).toArray t)).heap[w.heap.size]? = some (Obj.cells (l.map (Value.int .i64)).toArray t (0, 0)) := h1
  simp only [World.cell?, h2]
  rw [List.getElem?_toArray, List.getElem?_map, hk]
  rfl
set_option maxRecDepth 100000 in
set_option maxHeartbeats 4000000 in
theorem pProps_any (lg : Int) (w : World) :
    Calls Tryd.prog 18 #[.int .i64 lg] w fun e w' => ∃ v, e = .returned (.tuple #[v, .int .i64 (p15 lg)]) ∧ Ext w w' ∧ Hid (p15 lg = 0 → Ints w' v (propsL lg)) := by
  by_cases hc : 0 ≤ lg ∧ lg ≤ 6
  · have hcl : lg = 0 ∨ lg = 1 ∨ lg = 2 ∨ lg = 3 ∨ lg = 4 ∨ lg = 5 ∨ lg = 6 := by omega
    clear hc
    rcases hcl with rfl | rfl | rfl | rfl | rfl | rfl | rfl
    all_goals
      go_enter Tryd.func18, Tryd.ntmps18
      go_wp2_with fail
      go_ret2
      first
      | exact ⟨_, rfl, Ext.refl _, Lib.hid fun _ => Ints.none_ _⟩
      | exact ⟨_, rfl, (Ext.refl _).alloc _, Lib.hid fun _ => ints_lit w [1] _ (by decide)⟩
      | exact ⟨_, rfl, (Ext.refl _).alloc _, Lib.hid fun _ => ints_lit w [2] _ (by decide)⟩
      | exact ⟨_, rfl, (Ext.refl _).alloc _, Lib.hid fun _ => ints_lit w [4] _ (by decide)⟩
      | exact ⟨_, rfl, (Ext.refl _).alloc _, Lib.hid fun _ => ints_lit w [2, 4] _ (by decide)⟩
      | exact ⟨_, rfl, (Ext.refl _).alloc _, Lib.hid fun _ => ints_lit w [1, 4, 5] _ (by decide)⟩
      | exact ⟨_, rfl, (Ext.refl _).alloc _, Lib.hid fun _ => ints_lit w [2, 4, 5] _ (by decide)⟩
  · have h0 : (lg == 0) = false := by rw [beq_eq_false_iff_ne]; omega
    have h1 : (lg == 1) = false := by rw [beq_eq_false_iff_ne]; omega
    have h2 : (lg == 2) = false := by rw [beq_eq_false_iff_ne]; omega
    have h3 : (lg == 3) = false := by rw [beq_eq_false_iff_ne]; omega
    have h4 : (lg == 4) = false := by rw [beq_eq_false_iff_ne]; omega
    have h5 : (lg == 5) = false := by rw [beq_eq_false_iff_ne]; omega
    have h6 : (lg == 6) = false := by rw [beq_eq_false_iff_ne]; omega
    have HC := Lib.hid (show p15 lg = 1 from if_neg hc)
    clear hc
    go_enter Tryd.func18, Tryd.ntmps18
    go_wp2_with fail
    go_ret2
    exact ⟨_, by rw [HC.out] <;> rfl, Ext.refl _, Lib.hid fun e => by rw [HC.out] at e; cases e⟩
end Go.Proofs.YtdpblciohodgcaaDoor

/- slices.IndexFunc and ContainsFunc, with a test of any function (U). -/

namespace Go.Proofs.YtdpblciohodgcaaDoor
open Go.RowKit

set_option maxRecDepth 100000 in
set_option maxHeartbeats 8000000 in
theorem indexU_any (g : Nat) (lb : Array Value) (eg : ∀ args w, (callFunc g args).run Tryd.prog w = .ok (.enter g args) w) (p : Nat → Bool) (v : Value) (l : List (Nat)) (w : World) (h : U64s w v l)
    (hp : ∀ (W : World) (s : Nat), s ∈ l → Ext w W → Calls Tryd.prog g (#[.int .u64 (s : Int)] ++ lb) W fun e w' => e = .returned (.bool (p s)) ∧ Ext W w') :
    Calls Tryd.prog 65 #[v, .func (.func g) #[] lb] w fun e w' => e = .returned (.int .i64 (findI p l)) ∧ Ext w w' := by
  obtain ⟨A, c, rfl, hcap, hmax, HR⟩ := u64_at h
  unfold maxLen at hmax
  have HP := Lib.hid hp
  clear h hp
  go_enter Tryd.func65, Tryd.ntmps65
  go_wp2_with fail
  go_loopw [5, 8] (fun _ i wr => ∃ k : Nat, k ≤ l.length ∧ i = .int .i64 (k : Int) ∧ Hid (∀ t ∈ l.take k, p t = false) ∧ Hid (Ext w wr)) (fun _ i _ => l.length - (intOf i).toNat)
  case atStart => exact ⟨0, Nat.zero_le _, rfl, Lib.hid (by simp), Lib.hid (Ext.refl _)⟩
  case round =>
    obtain ⟨k, hk, rfl, HNI, HX⟩ := hrel
    by_cases hlt2 : k < l.length
    · obtain ⟨s, hs⟩ : ∃ s, l[k]? = some s := ⟨_, List.getElem?_eq_getElem hlt2⟩
      obtain ⟨ad, rfl, hb1, hc1⟩ := HR.out k hlt2
      rw [List.getD_eq_getElem?_getD, hs, Option.getD_some] at hc1
      have a0 : wr.cell? (ad.add k) = some (.int .u64 (s : Int)) := (HX.out.cell (p := ad.add k) (by rw [block_of_add]; exact hb1)).trans hc1
      clear hc1
      have HA := Lib.hid hs
      have hk1 : (k : Int) < (l.length : Int) := by omega
      clear hs
      cases hps : p s
      · have HT : Hid (∀ t ∈ l.take (k + 1), p t = false) := Lib.hid (by
          rw [take_snocI HA.out]
          intro t ht
          rcases List.mem_append.1 ht with ht | ht
          · exact HNI.out t ht
          · rw [List.mem_singleton.1 ht]; exact hps)
        go_wp2_with (refine (HP.out _ s (memI HA.out) HX.out).mono ?_; rintro e w1 ⟨rfl, hx⟩; rw [hps])
        go_roundw
        case rel => exact ⟨k + 1, by omega, by go_num, HT, Lib.hid (HX.out.trans hx)⟩
        case measure => simp [intOf]; omega
      · have HE := Lib.hid (findI_hit (p := p) HA.out hps HNI.out)
        go_wp2_with (refine (HP.out _ s (memI HA.out) HX.out).mono ?_; rintro e w1 ⟨rfl, hx⟩; rw [hps])
        go_ret
        exact ⟨by rw [HE.out] <;> rfl, HX.out.trans hx⟩
    · obtain rfl : l.length = k := by omega
      have HE := Lib.hid (findI_miss (p := p) (l := l) (fun t ht => HNI.out t (by rw [List.take_of_length_le (Nat.le_refl _)]; exact ht)))
      go_wp2_with fail
      go_ret
      exact ⟨by rw [HE.out] <;> rfl, HX.out⟩
set_option maxRecDepth 100000 in
set_option maxHeartbeats 4000000 in
theorem containsU_any (g : Nat) (lb : Array Value) (eg : ∀ args w, (callFunc g args).run Tryd.prog w = .ok (.enter g args) w) (p : Nat → Bool) (v : Value) (l : List (Nat)) (w : World) (h : U64s w v l)
    (hp : ∀ (W : World) (s : Nat), s ∈ l → Ext w W → Calls Tryd.prog g (#[.int .u64 (s : Int)] ++ lb) W fun e w' => e = .returned (.bool (p s)) ∧ Ext W w') :
    Calls Tryd.prog 50 #[v, .func (.func g) #[] lb] w fun e w' => e = .returned (.bool (l.any p)) ∧ Ext w w' := by
  have HI := Lib.hid (indexU_any g lb eg p v l w h hp)
  have HE := Lib.hid (findI_any p l)
  clear hp h
  obtain ⟨z, hz⟩ : ∃ z, z = findI p l := ⟨_, rfl⟩
  rw [← hz] at HI HE
  clear hz
  go_enter Tryd.func50, Tryd.ntmps50
  go_wp2_with (refine HI.out.mono ?_; rintro e w1 ⟨rfl, hx⟩)
  go_ret
  exact ⟨by rw [← HE.out] <;> rfl, hx⟩
end Go.Proofs.YtdpblciohodgcaaDoor

/- slices.IndexFunc and ContainsFunc, with a test of any function (R). -/

namespace Go.Proofs.YtdpblciohodgcaaDoor
open Go.RowKit

set_option maxRecDepth 100000 in
set_option maxHeartbeats 8000000 in
theorem indexR_any (g : Nat) (lb : Array Value) (eg : ∀ args w, (callFunc g args).run Tryd.prog w = .ok (.enter g args) w) (p : List Nat → Bool) (v : Value) (l : List (List Nat)) (w : World) (h : U64ss w v l)
    (hp : ∀ (W : World) (u : Value) (s : List Nat), s ∈ l → Ext w W → U64s W u s → Calls Tryd.prog g (#[u] ++ lb) W fun e w' => e = .returned (.bool (p s)) ∧ Ext W w') :
    Calls Tryd.prog 35 #[v, .func (.func g) #[] lb] w fun e w' => e = .returned (.int .i64 (findI p l)) ∧ Ext w w' := by
  obtain ⟨A, c, rfl, hcap, hmax, HR⟩ := u64ss_at h
  unfold maxLen at hmax
  have HP := Lib.hid hp
  clear h hp
  go_enter Tryd.func35, Tryd.ntmps35
  go_wp2_with fail
  go_loopw [5, 8] (fun _ i wr => ∃ k : Nat, k ≤ l.length ∧ i = .int .i64 (k : Int) ∧ Hid (∀ t ∈ l.take k, p t = false) ∧ Hid (Ext w wr)) (fun _ i _ => l.length - (intOf i).toNat)
  case atStart => exact ⟨0, Nat.zero_le _, rfl, Lib.hid (by simp), Lib.hid (Ext.refl _)⟩
  case round =>
    obtain ⟨k, hk, rfl, HNI, HX⟩ := hrel
    by_cases hlt2 : k < l.length
    · obtain ⟨s, hs⟩ : ∃ s, l[k]? = some s := ⟨_, List.getElem?_eq_getElem hlt2⟩
      obtain ⟨ad, u, rfl, hb1, hu, hc1⟩ := HR.out k hlt2
      rw [List.getD_eq_getElem?_getD, hs, Option.getD_some] at hc1
      have a0 : wr.cell? (ad.add k) = some u := (HX.out.cell (p := ad.add k) (by rw [block_of_add]; exact hb1)).trans hu
      have HF := Lib.hid (show U64s w u s from hc1)
      clear hc1 hu
      have HA := Lib.hid hs
      have hk1 : (k : Int) < (l.length : Int) := by omega
      clear hs
      cases hps : p s
      · have HT : Hid (∀ t ∈ l.take (k + 1), p t = false) := Lib.hid (by
          rw [take_snocI HA.out]
          intro t ht
          rcases List.mem_append.1 ht with ht | ht
          · exact HNI.out t ht
          · rw [List.mem_singleton.1 ht]; exact hps)
        go_wp2_with (refine (HP.out _ u s (memI HA.out) HX.out (HF.out.ext HX.out)).mono ?_; rintro e w1 ⟨rfl, hx⟩; rw [hps])
        go_roundw
        case rel => exact ⟨k + 1, by omega, by go_num, HT, Lib.hid (HX.out.trans hx)⟩
        case measure => simp [intOf]; omega
      · have HE := Lib.hid (findI_hit (p := p) HA.out hps HNI.out)
        go_wp2_with (refine (HP.out _ u s (memI HA.out) HX.out (HF.out.ext HX.out)).mono ?_; rintro e w1 ⟨rfl, hx⟩; rw [hps])
        go_ret
        exact ⟨by rw [HE.out] <;> rfl, HX.out.trans hx⟩
    · obtain rfl : l.length = k := by omega
      have HE := Lib.hid (findI_miss (p := p) (l := l) (fun t ht => HNI.out t (by rw [List.take_of_length_le (Nat.le_refl _)]; exact ht)))
      go_wp2_with fail
      go_ret
      exact ⟨by rw [HE.out] <;> rfl, HX.out⟩
set_option maxRecDepth 100000 in
set_option maxHeartbeats 4000000 in
theorem containsR_any (g : Nat) (lb : Array Value) (eg : ∀ args w, (callFunc g args).run Tryd.prog w = .ok (.enter g args) w) (p : List Nat → Bool) (v : Value) (l : List (List Nat)) (w : World) (h : U64ss w v l)
    (hp : ∀ (W : World) (u : Value) (s : List Nat), s ∈ l → Ext w W → U64s W u s → Calls Tryd.prog g (#[u] ++ lb) W fun e w' => e = .returned (.bool (p s)) ∧ Ext W w') :
    Calls Tryd.prog 20 #[v, .func (.func g) #[] lb] w fun e w' => e = .returned (.bool (l.any p)) ∧ Ext w w' := by
  have HI := Lib.hid (indexR_any g lb eg p v l w h hp)
  have HE := Lib.hid (findI_any p l)
  clear hp h
  obtain ⟨z, hz⟩ : ∃ z, z = findI p l := ⟨_, rfl⟩
  rw [← hz] at HI HE
  clear hz
  go_enter Tryd.func20, Tryd.ntmps20
  go_wp2_with (refine HI.out.mono ?_; rintro e w1 ⟨rfl, hx⟩)
  go_ret
  exact ⟨by rw [← HE.out] <;> rfl, hx⟩
end Go.Proofs.YtdpblciohodgcaaDoor

/- The program's model.outside and model.Check. -/

namespace Go.Proofs.YtdpblciohodgcaaDoor
open Go.RowKit

set_option maxRecDepth 100000 in
set_option maxHeartbeats 4000000 in
theorem pOut1_any (B : Nat) (s n : Nat) (w : World) (hn : n ≤ 64) (hs : word s) (hb : w.cell? ⟨B, 0, none⟩ = some (.int .i64 (n : Int))) :
    Calls Tryd.prog 51 #[.int .u64 (s : Int), .pointer (some ⟨B, 0, none⟩)] w fun e w' => e = .returned (.bool (!decide (s < 2 ^ n))) ∧ Ext w w' := by
  have HO := Lib.hid (out_all (n := n) hs hn)
  clear hs
  go_enter Tryd.func51, Tryd.ntmps51
  go_wp2_with (go_at_call 52; refine (pAll13_any n hn _).mono ?_; rintro e w3 ⟨rfl, rfl⟩)
  go_ret
  exact ⟨by rw [← HO.out] <;> rfl, Ext.refl _⟩
set_option maxRecDepth 100000 in
theorem pOutC_any (B : Nat) (v : Value) (l : List Nat) (n : Nat) (w : World) (h : U64s w v l) (hw : ∀ s ∈ l, word s) (hn : n ≤ 64) (hB : B < w.heap.size) (hb : w.cell? ⟨B, 0, none⟩ = some (.int .i64 (n : Int))) :
    Calls Tryd.prog 50 #[v, .func (.func 51) #[] #[.pointer (some ⟨B, 0, none⟩)]] w fun e w' => e = .returned (.bool (beyondN l n)) ∧ Ext w w' := by
  have eg : ∀ args w, (callFunc 51 args).run Tryd.prog w = .ok (.enter 51 args) w := fun _ _ => rfl
  refine (containsU_any 51 #[.pointer (some ⟨B, 0, none⟩)] eg (fun s => !decide (s < 2 ^ n)) v l w h ?_).mono ?_
  · intro W s hs hx
    exact pOut1_any B s n W hn (hw s hs) ((hx.cell (p := ⟨B, 0, none⟩) hB).trans hb)
  · rintro e w1 ⟨rfl, hx⟩
    exact ⟨rfl, hx⟩
set_option maxRecDepth 100000 in
set_option maxHeartbeats 4000000 in
theorem pOut_any (v : Value) (l : List Nat) (n : Nat) (w : World) (h : U64s w v l) (hw : ∀ s ∈ l, word s) (hn : n ≤ 64) :
    Calls Tryd.prog 33 #[v, .int .i64 (n : Int)] w fun e w' => e = .returned (.bool (beyondN l n)) ∧ Ext w w' := by
  have HL := Lib.hid h
  have HW := Lib.hid hw
  clear h hw
  go_enter Tryd.func33, Tryd.ntmps33
  go_wp2_with (go_at_call 50; refine (pOutC_any w.heap.size _ l n _ (HL.out.ext (by repeat (first | exact Ext.refl _ | assumption | apply Ext.alloc | apply Ext.drew))) HW.out hn (by simp) (by simp)).mono ?_; rintro e w1 ⟨rfl, hx⟩; have HX := Lib.hid (((Ext.refl w).alloc _).trans hx); clear hx)
  go_ret
  exact ⟨rfl, HX.out⟩
set_option maxRecDepth 100000 in
set_option maxHeartbeats 4000000 in
theorem pCheck1_any (B : Nat) (v : Value) (l : List Nat) (n : Nat) (w : World) (h : U64s w v l) (hw : ∀ s ∈ l, word s) (hn : n ≤ 64) (_hB : B < w.heap.size) (hb : w.cell? ⟨B, 0, none⟩ = some (.int .i64 (n : Int))) :
    Calls Tryd.prog 34 #[v, .pointer (some ⟨B, 0, none⟩)] w fun e w' => e = .returned (.bool (beyondN l n)) ∧ Ext w w' := by
  have HL := Lib.hid h
  have HW := Lib.hid hw
  clear h hw
  go_enter Tryd.func34, Tryd.ntmps34
  go_wp2_with (go_at_call 33; refine (pOut_any _ l n _ (HL.out.ext (by repeat (first | exact Ext.refl _ | assumption | apply Ext.alloc | apply Ext.drew))) HW.out hn).mono ?_; rintro e w1 ⟨rfl, hx⟩; have HX := Lib.hid hx; clear hx)
  go_ret
  exact ⟨rfl, HX.out⟩
set_option maxRecDepth 100000 in
theorem pCheckC_any (B : Nat) (v : Value) (rl : List (List Nat)) (n : Nat) (w : World) (h : U64ss w v rl) (hw : ∀ r ∈ rl, ∀ s ∈ r, word s) (hn : n ≤ 64) (hB : B < w.heap.size) (hb : w.cell? ⟨B, 0, none⟩ = some (.int .i64 (n : Int))) :
    Calls Tryd.prog 20 #[v, .func (.func 34) #[] #[.pointer (some ⟨B, 0, none⟩)]] w fun e w' => e = .returned (.bool (rl.any fun r => beyondN r n)) ∧ Ext w w' := by
  have eg : ∀ args w, (callFunc 34 args).run Tryd.prog w = .ok (.enter 34 args) w := fun _ _ => rfl
  refine (containsR_any 34 #[.pointer (some ⟨B, 0, none⟩)] eg (fun r => beyondN r n) v rl w h ?_).mono ?_
  · intro W u s hs hx hu
    exact pCheck1_any B u s n W hu (hw s hs) hn (Nat.lt_of_lt_of_le hB hx.size) ((hx.cell (p := ⟨B, 0, none⟩) hB).trans hb)
  · rintro e w1 ⟨rfl, hx⟩
    exact ⟨rfl, hx⟩
set_option maxRecDepth 100000 in
set_option maxHeartbeats 16000000 in
theorem pCheck13_any (v : Value) (md : Md) (w : World) (h : MdV w v md) (hok : md.ok) :
    Calls Tryd.prog 19 #[v] w fun e w' => e = .returned (.int .i64 (checkM md)) ∧ Ext w w' := by
  obtain ⟨vv, vr, rfl, hv, hr⟩ := h
  have HV := Lib.hid hv
  have HRS := Lib.hid hr
  have HOK := Lib.hid hok
  obtain ⟨Av, cv, rfl, _⟩ := hv
  obtain ⟨Ar, cr, rfl, _, _, HR⟩ := u64ss_at hr
  obtain ⟨z, hz⟩ : ∃ z, z = md.n := ⟨_, rfl⟩
  have HZ := Lib.hid hz
  rw [← hz]
  clear hr hok hz
  by_cases h1 : z < 1
  · have HE := Lib.hid (show checkM md = 2 by unfold checkM; rw [← HZ.out, if_pos (.inl h1)])
    go_enter Tryd.func19, Tryd.ntmps19
    go_wp2_with fail
    go_ret
    exact ⟨by rw [HE.out] <;> rfl, (by repeat (first | exact Ext.refl _ | assumption | apply Ext.alloc | apply Ext.drew))⟩
  · by_cases h2 : 64 < z
    · have HE := Lib.hid (show checkM md = 2 by unfold checkM; rw [← HZ.out, if_pos (.inr h2)])
      go_enter Tryd.func19, Tryd.ntmps19
      go_wp2_with fail
      go_ret
      exact ⟨by rw [HE.out] <;> rfl, (by repeat (first | exact Ext.refl _ | assumption | apply Ext.alloc | apply Ext.drew))⟩
    · by_cases h3 : 4 < md.rel.length
      · have HE := Lib.hid (show checkM md = 8 by unfold checkM; rw [← HZ.out, if_neg (by omega), if_pos (.inl h3)])
        have h3' : (4 : Int) < (md.rel.length : Int) := by omega
        clear h3
        go_enter Tryd.func19, Tryd.ntmps19
        go_wp2_with fail
        go_ret
        exact ⟨by rw [HE.out] <;> rfl, (by repeat (first | exact Ext.refl _ | assumption | apply Ext.alloc | apply Ext.drew))⟩
      · by_cases h4 : 8 < md.val.length
        · have HE := Lib.hid (show checkM md = 8 by unfold checkM; rw [← HZ.out, if_neg (by omega), if_pos (.inr h4)])
          have h4' : (8 : Int) < (md.val.length : Int) := by omega
          have h3' : ¬ (4 : Int) < (md.rel.length : Int) := by omega
          clear h3 h4
          go_enter Tryd.func19, Tryd.ntmps19
          go_wp2_with fail
          go_ret
          exact ⟨by rw [HE.out] <;> rfl, (by repeat (first | exact Ext.refl _ | assumption | apply Ext.alloc | apply Ext.drew))⟩
        · have h4' : ¬ (8 : Int) < (md.val.length : Int) := by omega
          have h3' : ¬ (4 : Int) < (md.rel.length : Int) := by omega
          obtain ⟨n, hnz⟩ : ∃ n : Nat, (n : Int) = z := ⟨z.toNat, by omega⟩
          subst hnz
          have hn64 : n ≤ 64 := by omega
          have hn1 : 0 < n := by omega
          have HC := Lib.hid (show checkM md = if md.rel.any (fun r => !decide (r.length = n)) then 3 else if beyondN md.val n then 2 else if md.rel.any (fun r => beyondN r n) then 2 else 0 by
            unfold checkM
            rw [← HZ.out, if_neg (by omega), if_neg (by omega), Int.toNat_natCast]
            simp only [Int.natCast_inj])
          obtain ⟨rl, hrl⟩ : ∃ l, l = md.rel := ⟨_, rfl⟩
          have HRE := Lib.hid hrl
          rw [← hrl] at HR HRS h3' h3 HC
          rw [← hrl]
          clear h1 h2 h4 hrl
          go_enter Tryd.func19, Tryd.ntmps19
          go_wp2_with fail
          go_loopw [26] (fun v wr => ∃ k : Nat, v = .int .i64 (k : Int) ∧ k ≤ rl.length ∧ wr = w.alloc (.cells #[.int .i64 (n : Int), .slice Av md.val.length cv, .slice Ar rl.length cr] 28) ∧ Hid (∀ j, j < k → decide ((rl.getD j []).length = n) = true)) (fun v _ => rl.length - (intOf v).toNat)
          case atStart => exact ⟨0, rfl, Nat.zero_le _, rfl, Lib.hid fun j hj => absurd hj (by omega)⟩
          case round =>
            obtain ⟨k, rfl, hk, rfl, HJ⟩ := hrel
            by_cases hlt2 : k < rl.length
            · have hk1 : (k : Int) < (rl.length : Int) := by omega
              obtain ⟨ad, u, rfl, hb1, hu, hc1⟩ := HR.out k hlt2
              obtain ⟨Au, cu, rfl, _⟩ := hc1
              have a0 := (((Ext.refl w).alloc (.cells #[.int .i64 (n : Int), .slice Av md.val.length cv, .slice (some ad) rl.length cr] 28)).cell (p := ad.add k) (by rw [block_of_add]; exact hb1)).trans hu
              clear hu
              obtain ⟨q, hq⟩ : ∃ q, q = (rl.getD k []).length := ⟨_, rfl⟩
              have HNX := Lib.hid (show decide (q = n) = true → ∀ j, j < k + 1 → decide ((rl.getD j []).length = n) = true from fun h => upto2 (P := fun j => decide ((rl.getD j []).length = n) = true) HJ.out (by rw [← hq]; exact h))
              have HHT := Lib.hid (show decide (q = n) = false → rl.any (fun r => !decide (r.length = n)) = true from fun h => any_hitR hlt2 (by rw [← hq, h]; rfl))
              rw [← hq] at a0
              clear hq
              by_cases hd : q = n
              · have HP := Lib.hid (HNX.out (decide_eq_true hd))
                subst hd
                have hne : ((q : Int) != (q : Int)) = false := by simp
                go_wp2_with fail
                go_roundw
                case rel => exact ⟨k + 1, by go_num, by omega, by first | trivial | rfl, HP⟩
                case measure => simp [intOf]; omega
              · have HE := Lib.hid (show checkM md = 3 by rw [HC.out, if_pos (HHT.out (decide_eq_false hd))])
                have hne : ((q : Int) != (n : Int)) = true := by simp only [bne_iff_ne, ne_eq, Int.natCast_inj]; exact hd
                go_wp2_with fail
                go_ret
                exact ⟨by rw [HE.out] <;> rfl, (by repeat (first | exact Ext.refl _ | assumption | apply Ext.alloc | apply Ext.drew))⟩
            · obtain rfl : rl.length = k := by omega
              have HC2 := Lib.hid (show checkM md = if beyondN md.val n then 2 else if rl.any (fun r => beyondN r n) then 2 else 0 by
                rw [HC.out, if_neg (by rw [any_missR (P := fun r => !decide (r.length = n)) (fun j hj => by rw [HJ.out j hj]; rfl)]; simp)])
              clear HC HJ
              have hcb : (w.alloc (.cells #[.int .i64 (n : Int), .slice Av md.val.length cv, .slice Ar rl.length cr] 28)).cell? ⟨w.heap.size, 0, none⟩ = some (.int .i64 (n : Int)) := by simp
              have HCB := Lib.hid hcb
              clear hcb
              go_upto_region 11 with (fail)
              cases hb : beyondN md.val n
              · have HB := Lib.hid hb
                cases ha : rl.any (fun r => beyondN r n)
                · have HE := Lib.hid (show checkM md = 0 by rw [HC2.out, HB.out, ha]; rfl)
                  have HA := Lib.hid ha
                  clear ha hb
                  go_wp2_with (first | (go_at_call 33; refine (pOut_any _ md.val n _ (HV.out.ext (by repeat (first | exact Ext.refl _ | assumption | apply Ext.alloc | apply Ext.drew))) HOK.out.val hn64).mono ?_; rintro e w1 ⟨rfl, hx⟩; rw [HB.out]; have HX := Lib.hid (((Ext.refl w).alloc _).trans hx); have HX1 := Lib.hid hx; have hc2 : w1.cell? ⟨w.heap.size, 2, none⟩ = some (.slice Ar rl.length cr) := (hx.cell (p := ⟨w.heap.size, 2, none⟩) (by simp)).trans (by simp); clear hx) | (go_at_call 20; refine (pCheckC_any w.heap.size _ rl n _ (HRS.out.ext HX.out) (by rw [HRE.out]; exact HOK.out.rel) hn64 (Nat.lt_of_lt_of_le (by simp) HX1.out.size) ((HX1.out.cell (p := ⟨w.heap.size, 0, none⟩) (by simp)).trans HCB.out)).mono ?_; rintro e w2 ⟨rfl, hx⟩; rw [HA.out]; have HX2 := Lib.hid hx; clear hx))
                  go_ret
                  exact ⟨by rw [HE.out] <;> rfl, HX.out.trans HX2.out⟩
                · have HE := Lib.hid (show checkM md = 2 by rw [HC2.out, HB.out, ha]; rfl)
                  have HA := Lib.hid ha
                  clear ha hb
                  go_wp2_with (first | (go_at_call 33; refine (pOut_any _ md.val n _ (HV.out.ext (by repeat (first | exact Ext.refl _ | assumption | apply Ext.alloc | apply Ext.drew))) HOK.out.val hn64).mono ?_; rintro e w1 ⟨rfl, hx⟩; rw [HB.out]; have HX := Lib.hid (((Ext.refl w).alloc _).trans hx); have HX1 := Lib.hid hx; have hc2 : w1.cell? ⟨w.heap.size, 2, none⟩ = some (.slice Ar rl.length cr) := (hx.cell (p := ⟨w.heap.size, 2, none⟩) (by simp)).trans (by simp); clear hx) | (go_at_call 20; refine (pCheckC_any w.heap.size _ rl n _ (HRS.out.ext HX.out) (by rw [HRE.out]; exact HOK.out.rel) hn64 (Nat.lt_of_lt_of_le (by simp) HX1.out.size) ((HX1.out.cell (p := ⟨w.heap.size, 0, none⟩) (by simp)).trans HCB.out)).mono ?_; rintro e w2 ⟨rfl, hx⟩; rw [HA.out]; have HX2 := Lib.hid hx; clear hx))
                  go_ret
                  exact ⟨by rw [HE.out] <;> rfl, HX.out.trans HX2.out⟩
              · have HE := Lib.hid (show checkM md = 2 by rw [HC2.out, hb]; rfl)
                have HB := Lib.hid hb
                clear hb
                go_wp2_with (go_at_call 33; refine (pOut_any _ md.val n _ (HV.out.ext (by repeat (first | exact Ext.refl _ | assumption | apply Ext.alloc | apply Ext.drew))) HOK.out.val hn64).mono ?_; rintro e w1 ⟨rfl, hx⟩; rw [HB.out]; have HX := Lib.hid (((Ext.refl w).alloc _).trans hx); clear hx)
                go_ret
                exact ⟨by rw [HE.out] <;> rfl, HX.out⟩
end Go.Proofs.YtdpblciohodgcaaDoor

/- The program's frames.Has, from what relation.Has says. -/

namespace Go.Proofs.YtdpblciohodgcaaDoor
open Go.RowKit

/-- What relation.Has says. -/
def HasSaid : Prop := ∀ (v : Value) (l : List Nat) (q : Int) (w : World), TabZ w → U64s w v l → (∀ s ∈ l, word s) → check02 l.length l = 0 → 0 < l.length → (q = 1 ∨ q = 2 ∨ q = 4 ∨ q = 5) →
  Calls Tryd.prog 39 #[v, .int .i64 q] w fun e w' => e = .returned (.bool (propB q l)) ∧ Ext w w'
set_option maxRecDepth 100000 in
set_option maxHeartbeats 4000000 in
theorem pHas1_of (HSS : HasSaid) (B : Nat) (v : Value) (l : List Nat) (q : Int) (w : World) (hT : TabZ w) (h : U64s w v l) (hw : ∀ s ∈ l, word s) (hck : check02 l.length l = 0) (h0 : 0 < l.length) (hq : q = 1 ∨ q = 2 ∨ q = 4 ∨ q = 5) (hb : w.cell? ⟨B, 0, none⟩ = some v) :
    Calls Tryd.prog 38 #[.int .i64 q, .pointer (some ⟨B, 0, none⟩)] w fun e w' => e = .returned (.bool (!propB q l)) ∧ Ext w w' := by
  have HS := Lib.hid (HSS v l q w hT h hw hck h0 hq)
  obtain ⟨A, c, rfl, _⟩ := h
  obtain ⟨pb, hpb⟩ : ∃ b, b = propB q l := ⟨_, rfl⟩
  rw [← hpb] at HS ⊢
  clear HSS hT hw hck h0 hq hpb
  go_enter Tryd.func38, Tryd.ntmps38
  go_wp2_with fail
  refine HS.out.mono ?_
  rintro e w1 ⟨rfl, hx⟩
  have HX := Lib.hid hx
  clear hx
  go_wp2_with fail
  go_ret
  exact ⟨rfl, HX.out⟩
end Go.Proofs.YtdpblciohodgcaaDoor

/- The program's frames.Has, from what relation.Has says: the whole. -/

namespace Go.Proofs.YtdpblciohodgcaaDoor
open Go.RowKit

noncomputable def goodB (lg : Int) (l : List Nat) : Bool := !((propsL lg).any fun q => !propB q l)
theorem goodB_iff {lg : Int} {l : List Nat} : goodB lg l = true ↔ goodR lg l := by
  unfold goodB goodR
  rw [Bool.not_eq_true', List.any_eq_false]
  refine forall_congr' fun q => imp_congr_right fun _ => ?_
  unfold propB
  simp
set_option maxRecDepth 100000 in
set_option maxHeartbeats 4000000 in
theorem pHas_of (HSS : HasSaid) (v : Value) (l : List Nat) (lg : Int) (w : World) (hT : TabZ w) (h : U64s w v l) (hw : ∀ s ∈ l, word s) (hck : check02 l.length l = 0) (h0 : 0 < l.length) (hlg : 0 ≤ lg ∧ lg ≤ 6) :
    Calls Tryd.prog 22 #[v, .int .i64 lg] w fun e w' => e = .returned (.bool (goodB lg l)) ∧ Ext w w' := by
  have H := Lib.hid h
  have HT := Lib.hid hT
  have HW := Lib.hid hw
  have HCK := Lib.hid hck
  have HP := Lib.hid (show p15 lg = 0 from if_pos hlg)
  have HGB := Lib.hid (show goodB lg l = !((propsL lg).any fun q => !propB q l) from rfl)
  have HC := Lib.hid (fun (B : Nat) (vp : Value) (w : World) (hT : TabZ w) (hi : Ints w vp (propsL lg)) (hl : U64s w v l) (hB : B < w.heap.size) (hb : w.cell? ⟨B, 0, none⟩ = some v) =>
    containsFI_any 38 #[.pointer (some ⟨B, 0, none⟩)] (fun _ _ => rfl) (fun q => !propB q l) vp (propsL lg) w hi
      (fun W q hq hx => pHas1_of HSS B v l q W (hT.ext hx) (hl.ext hx) hw hck h0 (props_mem hq) ((hx.cell (p := ⟨B, 0, none⟩) hB).trans hb)))
  obtain ⟨A, c, rfl, _⟩ := h
  obtain ⟨pb, hpb⟩ : ∃ b, b = (propsL lg).any fun q => !propB q l := ⟨_, rfl⟩
  rw [← hpb] at HC HGB
  clear HSS hT hw hck hlg hpb
  go_enter Tryd.func22, Tryd.ntmps22
  go_wp2_with (first | (go_at_call 18; refine (pProps_any lg _).mono ?_; rintro e w1 ⟨vp, rfl, hx1, hvp⟩; rw [HP.out]; have HX1 := Lib.hid (((Ext.refl w).alloc _).trans hx1); have HV := Lib.hid (hvp.out HP.out); have hc1 : w1.cell? ⟨w.heap.size, 0, none⟩ = some (.slice A l.length c) := (hx1.cell (p := ⟨w.heap.size, 0, none⟩) (by simp)).trans (by simp); have hb1 : w.heap.size < w1.heap.size := Nat.lt_of_lt_of_le (by simp) hx1.size; clear hx1 hvp) | (go_at_call 36; refine (pCheck02_any _ l _ (H.out.ext HX1.out) HW.out).mono ?_; rintro e w2 ⟨rfl, hx2⟩; rw [HCK.out]; have HX2 := Lib.hid (HX1.out.trans hx2); have HV2 := Lib.hid (HV.out.ext hx2); have hc2 := (hx2.cell (p := ⟨w.heap.size, 0, none⟩) hb1).trans hc1; have hb2 := Nat.lt_of_lt_of_le hb1 hx2.size; clear hx2) | (go_at_call 37; refine (HC.out w.heap.size _ _ (HT.out.ext HX2.out) HV2.out (H.out.ext HX2.out) hb2 hc2).mono ?_; rintro e w3 ⟨rfl, hx3⟩; have HX3 := Lib.hid (HX2.out.trans hx3); clear hx3))
  go_ret
  exact ⟨by rw [HGB.out] <;> rfl, HX3.out⟩
end Go.Proofs.YtdpblciohodgcaaDoor

/- The model of a model in memory: its worlds, relations and facts; the conditions of a logic (plain). -/

namespace Go.Proofs.YtdpblciohodgcaaDoor

/-- The relation of words: bit v of the word of u. -/
def bitR (l : List Nat) (n : Nat) (u v : Fin n) : Prop := (l.getD u.1 0).testBit v.1 = true
/-- The model: an agent beyond the last knows all. -/
def kmOf (md : Md) : KM where
  W := Fin md.n.toNat
  R := fun a u v => if 0 ≤ a ∧ a < md.rel.length then bitR (md.rel.getD a.toNat []) md.n.toNat u v else u = v
  V := fun p w => (md.val.getD p.toNat 0).testBit w.1 = true
theorem eq_frm (lg : Int) {W : Type} : Frm lg (fun u v : W => u = v) where
  ser := fun _ w => ⟨w, rfl⟩
  refl := fun _ _ => rfl
  trans := fun _ _ _ _ h1 h2 => h1.trans h2
  eucl := fun _ _ _ _ h1 h2 => h1.symm.trans h2
theorem word_pos {s n : Nat} (h : s < 2 ^ n) (h0 : s ≠ 0) : ∃ i, i < n ∧ s.testBit i = true := by
  obtain ⟨i, hi⟩ := Nat.exists_testBit_of_ne_zero h0
  exact ⟨i, bit_lt h hi, hi⟩
theorem closedT {l : List Nat} (h : closedG false l) {w u v : Nat} (hw : w < l.length) (hu : u < l.length) (h1 : (l.getD w 0).testBit u = true) (h2 : (l.getD u 0).testBit v = true) : (l.getD w 0).testBit v = true := by
  exact subS_iff.1 (h w u hw hu h1) v h2
theorem closedE {l : List Nat} (h : closedG true l) {w u v : Nat} (hw : w < l.length) (hu : u < l.length) (h1 : (l.getD w 0).testBit u = true) (h2 : (l.getD w 0).testBit v = true) : (l.getD u 0).testBit v = true := by
  exact subS_iff.1 (h w u hw hu h1) v h2
theorem good_frm {l : List Nat} {n : Nat} {lg : Int} (hl : l.length = n) (hv : valid02 l = true) (hg : goodR lg l) (hr : 0 ≤ lg ∧ lg ≤ 6) : Frm lg (bitR l n) := by
  have hlt : ∀ i, i < n → l.getD i 0 < 2 ^ n := fun i hi => (GrwI.start (eu := true) hl (by rw [← hl]; exact (valid_iff.1 hv).2)).lt i hi
  unfold goodR propsL at hg
  refine ⟨fun h w => ?_, fun h w => ?_, fun h u v w h1 h2 => ?_, fun h u v w h1 h2 => ?_⟩
  · have h1 : propP 1 l := hg 1 (by rcases h with rfl | rfl <;> simp)
    obtain ⟨i, hi, hb⟩ := word_pos (hlt w.1 w.2) (h1 w.1 (by rw [hl]; exact w.2))
    exact ⟨⟨i, hi⟩, hb⟩
  · have h1 : propP 2 l := hg 2 (by rcases h with rfl | rfl | rfl <;> simp)
    exact h1 w.1 (by rw [hl]; exact w.2)
  · have h3 : propP 4 l := hg 4 (by
      have : lg = 3 ∨ lg = 4 ∨ lg = 5 ∨ lg = 6 := by omega
      rcases this with rfl | rfl | rfl | rfl <;> simp)
    exact closedT h3 (by rw [hl]; exact u.2) (by rw [hl]; exact v.2) h1 h2
  · have h3 : propP 5 l := hg 5 (by rcases h with rfl | rfl <;> simp)
    exact closedE h3 (by rw [hl]; exact u.2) (by rw [hl]; exact v.2) h1 h2
theorem kmOf_in {md : Md} {lg : Int} (h : GoodM md lg) : (kmOf md).In lg := by
  intro a
  show Frm lg (fun u v => if 0 ≤ a ∧ a < md.rel.length then bitR (md.rel.getD a.toNat []) md.n.toNat u v else u = v)
  by_cases ha : 0 ≤ a ∧ a < md.rel.length
  · simp only [if_pos ha]
    have hm : md.rel.getD a.toNat [] ∈ md.rel := by
      rw [List.getD_eq_getElem?_getD, List.getElem?_eq_getElem (by omega)]; exact List.getElem_mem _
    obtain ⟨hv, _⟩ := rel_valid h.ck hm
    have hl := (checkM_zero h.ck).2.2.2.2.1 _ hm
    exact good_frm (by omega) hv (h.rel _ hm) h.lgr
  · simp only [if_neg ha]
    exact eq_frm lg
end Go.Proofs.YtdpblciohodgcaaDoor

/- Bit by bit: boxes and groups on words (plain). -/

namespace Go.Proofs.YtdpblciohodgcaaDoor

theorem box_bit (r : List Nat) (n s i : Nat) : (boxN r n s).testBit i = true ↔ i < n ∧ ∀ v, (r.getD i 0).testBit v = true → s.testBit v = true := by
  unfold boxN
  rw [mask_bit, Bool.and_eq_true, decide_eq_true_iff, subS_iff]
theorem dia_bit (r : List Nat) (n s i : Nat) (h : ∀ v, (r.getD i 0).testBit v = true → v < n) :
    (difN (allW n) (boxN r n (difN (allW n) s))).testBit i = true ↔ i < n ∧ ∃ v, (r.getD i 0).testBit v = true ∧ s.testBit v = true := by
  rw [dif_bit, Bool.and_eq_true, allw_bit, decide_eq_true_iff]
  constructor
  · rintro ⟨hi, hb⟩
    refine ⟨hi, Classical.byContradiction fun hn => ?_⟩
    have : (boxN r n (difN (allW n) s)).testBit i = true := (box_bit ..).2 ⟨hi, fun v hv => by
      rw [dif_bit, allw_bit, Bool.and_eq_true, decide_eq_true_iff]
      refine ⟨h v hv, ?_⟩
      cases hs : s.testBit v
      · rfl
      · exact absurd ⟨v, hv, hs⟩ hn⟩
    rw [this] at hb; cases hb
  · rintro ⟨hi, v, hv, hs⟩
    refine ⟨hi, ?_⟩
    cases hb : (boxN r n (difN (allW n) s)).testBit i
    · rfl
    · have h2 := ((box_bit ..).1 hb).2 v hv
      rw [dif_bit, hs, Bool.not_true, Bool.and_false] at h2
      cases h2
theorem grp_fold (rl : List (List Nat)) (gn i v : Nat) : ∀ (k s : Nat), (((List.range k).foldl (grpS rl gn false i) s).testBit v = true ↔ s.testBit v = true ∨ ∃ a, a < k ∧ gn.testBit a = true ∧ ((rl.getD a []).getD i 0).testBit v = true)
  | 0, s => by simp
  | k + 1, s => by
    rw [fold_snoc]
    have ih := grp_fold rl gn i v k s
    unfold grpS
    cases hg : gn.testBit k
    · rw [if_neg (by simp)]
      rw [show (List.foldl (fun s a => if gn.testBit a = true then if false = true then s &&& (rl.getD a []).getD i 0 else s ||| (rl.getD a []).getD i 0 else s) s (List.range k)) = (List.range k).foldl (grpS rl gn false i) s from rfl, ih]
      refine or_congr Iff.rfl ⟨fun ⟨a, h1, h2, h3⟩ => ⟨a, by omega, h2, h3⟩, fun ⟨a, h1, h2, h3⟩ => ⟨a, ?_, h2, h3⟩⟩
      have : a ≠ k := fun e => by rw [e, hg] at h2; cases h2
      omega
    · rw [if_pos rfl, if_neg (by simp), Nat.testBit_or, Bool.or_eq_true]
      rw [show (List.foldl (fun s a => if gn.testBit a = true then if false = true then s &&& (rl.getD a []).getD i 0 else s ||| (rl.getD a []).getD i 0 else s) s (List.range k)) = (List.range k).foldl (grpS rl gn false i) s from rfl, ih]
      constructor
      · rintro ((h | ⟨a, h1, h2, h3⟩) | h)
        · exact Or.inl h
        · exact Or.inr ⟨a, by omega, h2, h3⟩
        · exact Or.inr ⟨k, by omega, hg, h⟩
      · rintro (h | ⟨a, h1, h2, h3⟩)
        · exact Or.inl (Or.inl h)
        · by_cases e : a = k
          · exact Or.inr (by rw [← e]; exact h3)
          · exact Or.inl (Or.inr ⟨a, by omega, h2, h3⟩)
theorem grp_bit (rl : List (List Nat)) (gn n i v : Nat) : (grpN rl gn false n i).testBit v = true ↔ ∃ a, a < rl.length ∧ gn.testBit a = true ∧ ((rl.getD a []).getD i 0).testBit v = true := by
  unfold grpN
  rw [grp_fold]
  simp
theorem grp_get (rl : List (List Nat)) (gn n i : Nat) (b : Bool) (hi : i < n) : ((List.range n).map (grpN rl gn b n)).getD i 0 = grpN rl gn b n i := by
  rw [List.getD_eq_getElem?_getD, List.getElem?_map, List.getElem?_range hi]; rfl
end Go.Proofs.YtdpblciohodgcaaDoor

/- Bit by bit: the paths on words are the reach (plain). First half: what is marked is reached. -/

namespace Go.Proofs.YtdpblciohodgcaaDoor

/-- One step along words, into the condition. -/
def stpW (r : List Nat) (c : Nat) (u v : Nat) : Prop := (r.getD u 0).testBit v = true ∧ c.testBit v = true
theorem rch_snoc {α : Type} {r : α → α → Prop} {a b c : α} (h : Rch r a b) (hc : r b c) : Rch r a c := by
  induction h with
  | one h => exact .cons h (.one hc)
  | cons h _ ih => exact .cons h (ih hc)
theorem first_bit (r : List Nat) (c a v : Nat) : (r.getD a 0 &&& c).testBit v = true ↔ stpW r c a v := by
  rw [Nat.testBit_and, Bool.and_eq_true]; rfl
theorem step_sound {r : List Nat} {c a s : Nat} (h : ∀ v, s.testBit v = true → Rch (stpW r c) a v) (u : Nat) : ∀ v, (stepP r c s u).testBit v = true → Rch (stpW r c) a v := by
  intro v hv
  unfold stepP at hv
  cases hu : s.testBit u
  · rw [if_neg (by rw [hu]; simp)] at hv; exact h v hv
  · rw [if_pos hu, Nat.testBit_or, Bool.or_eq_true] at hv
    rcases hv with hv | hv
    · exact h v hv
    · exact rch_snoc (h u hu) ((first_bit ..).1 hv)
theorem pass_sound {r : List Nat} {c a : Nat} : ∀ (n s : Nat), (∀ v, s.testBit v = true → Rch (stpW r c) a v) → ∀ v, (passP r c n s).testBit v = true → Rch (stpW r c) a v
  | 0, s, h => h
  | n + 1, s, h => by
    unfold passP
    rw [fold_snoc]
    exact step_sound (pass_sound n s h) n
theorem paths_fold {r : List Nat} {c a n : Nat} : ∀ (k : Nat), ∀ v, ((List.range k).foldl (fun s _ => passP r c n s) (r.getD a 0 &&& c)).testBit v = true → Rch (stpW r c) a v
  | 0 => fun v hv => .one ((first_bit ..).1 hv)
  | k + 1 => by
    rw [fold_snoc]
    exact pass_sound n _ (paths_fold k)
theorem paths_sound {r : List Nat} {c n a v : Nat} (h : (pathsN r c n a).testBit v = true) : Rch (stpW r c) a v := paths_fold n v h
end Go.Proofs.YtdpblciohodgcaaDoor

/- Bit by bit: the paths on words are the reach (plain). Second half: what is reached is marked. -/

namespace Go.Proofs.YtdpblciohodgcaaDoor

theorem step_grow {r : List Nat} {c s u v : Nat} (h : s.testBit v = true) : (stepP r c s u).testBit v = true := by
  unfold stepP
  split
  · rw [Nat.testBit_or, h, Bool.true_or]
  · exact h
theorem step_hits {r : List Nat} {c s u v : Nat} (h : s.testBit u = true) (hst : stpW r c u v) : (stepP r c s u).testBit v = true := by
  unfold stepP
  rw [if_pos h, Nat.testBit_or, (first_bit r c u v).2 hst, Bool.or_true]
theorem pass_grow {r : List Nat} {c v : Nat} : ∀ (n s : Nat), s.testBit v = true → (passP r c n s).testBit v = true
  | 0, _, h => h
  | n + 1, s, h => by
    unfold passP
    rw [fold_snoc]
    exact step_grow (pass_grow n s h)
theorem pass_hits {r : List Nat} {c s u v : Nat} (hs : s.testBit u = true) (hst : stpW r c u v) : ∀ (n : Nat), u < n → (passP r c n s).testBit v = true
  | 0, h => absurd h (by omega)
  | n + 1, h => by
    unfold passP
    rw [fold_snoc]
    by_cases e : u = n
    · subst e
      have h1 : (passP r c u s).testBit u = true := pass_grow u s hs
      unfold passP at h1
      exact step_hits h1 hst
    · exact step_grow (pass_hits hs hst n (by omega))
/-- Closed under steps. -/
def clsW (r : List Nat) (c s : Nat) : Prop := ∀ u v, s.testBit u = true → stpW r c u v → s.testBit v = true
theorem step_still {r : List Nat} {c s u : Nat} (h : clsW r c s) : stepP r c s u = s := by
  unfold stepP
  split
  · rename_i hu
    refine Nat.eq_of_testBit_eq fun v => ?_
    rw [Nat.testBit_or]
    cases hb : (r.getD u 0 &&& c).testBit v
    · rw [Bool.or_false]
    · rw [h u v hu ((first_bit ..).1 hb)]; rfl
  · rfl
theorem pass_still {r : List Nat} {c s : Nat} (h : clsW r c s) : ∀ n, passP r c n s = s
  | 0 => rfl
  | n + 1 => by
    unfold passP
    rw [fold_snoc]
    have ih := pass_still h n
    unfold passP at ih
    rw [ih, step_still h]
def zerW (n s : Nat) : Nat := (List.range n).countP fun i => !s.testBit i
theorem pass_less {r : List Nat} {c n s : Nat} (hb : ∀ u v, (r.getD u 0).testBit v = true → u < n ∧ v < n) (h : ¬ clsW r c s) : zerW n (passP r c n s) < zerW n s := by
  obtain ⟨u, v, h1, h2, h3⟩ : ∃ u v, s.testBit u = true ∧ stpW r c u v ∧ s.testBit v = false := Classical.byContradiction fun hn => h fun u v h1 h2 => by
    cases h3 : s.testBit v
    · exact absurd ⟨u, v, h1, h2, h3⟩ hn
    · rfl
  obtain ⟨hu, hv⟩ := hb u v h2.1
  unfold zerW
  refine countP_ltG (fun i _ hq => ?_) ⟨v, List.mem_range.2 hv, by rw [h3]; rfl, by rw [pass_hits h1 h2 n hu]; rfl⟩
  cases hi : s.testBit i
  · rfl
  · rw [pass_grow n s hi] at hq; cases hq
theorem zer_le (n s : Nat) : zerW n s ≤ n := by
  have := List.countP_le_length (p := fun i => !s.testBit i) (l := List.range n)
  rw [List.length_range] at this
  exact this
theorem zer_full {r : List Nat} {c n s : Nat} (hb : ∀ u v, (r.getD u 0).testBit v = true → u < n ∧ v < n) (h : zerW n s = 0) : clsW r c s := by
  intro u v _ h2
  unfold zerW at h
  rw [List.countP_eq_zero] at h
  have := h v (List.mem_range.2 (hb u v h2.1).2)
  simpa using this
theorem paths_cls {r : List Nat} {c n a : Nat} (hb : ∀ u v, (r.getD u 0).testBit v = true → u < n ∧ v < n) : ∀ k, clsW r c ((List.range k).foldl (fun s _ => passP r c n s) (r.getD a 0 &&& c)) ∨ zerW n ((List.range k).foldl (fun s _ => passP r c n s) (r.getD a 0 &&& c)) + k ≤ n
  | 0 => Or.inr (zer_le _ _)
  | k + 1 => by
    rw [fold_snoc]
    rcases paths_cls hb k with h | h
    · exact Or.inl (by rw [pass_still h]; exact h)
    · by_cases hc : clsW r c ((List.range k).foldl (fun s _ => passP r c n s) (r.getD a 0 &&& c))
      · exact Or.inl (by rw [pass_still hc]; exact hc)
      · have := pass_less hb hc
        exact Or.inr (by omega)
theorem start_in {r : List Nat} {c n a v : Nat} (h : stpW r c a v) : ∀ k, ((List.range k).foldl (fun s _ => passP r c n s) (r.getD a 0 &&& c)).testBit v = true
  | 0 => (first_bit ..).2 h
  | k + 1 => by
    rw [fold_snoc]
    exact pass_grow n _ (start_in h k)
theorem rch_in {r : List Nat} {c s : Nat} (hc : clsW r c s) {a v : Nat} (h : Rch (stpW r c) a v) : (∀ u, stpW r c a u → s.testBit u = true) → s.testBit v = true := by
  induction h with
  | one h => exact fun hs => hs _ h
  | cons h _ ih => exact fun hs => ih fun u hu => hc _ u (hs _ h) hu
theorem paths_bit {r : List Nat} {c n a v : Nat} (hb : ∀ u v, (r.getD u 0).testBit v = true → u < n ∧ v < n) : (pathsN r c n a).testBit v = true ↔ Rch (stpW r c) a v := by
  refine ⟨paths_sound, fun h => ?_⟩
  have hc : clsW r c (pathsN r c n a) := by
    rcases paths_cls (a := a) (c := c) hb n with h | h
    · exact h
    · exact zer_full hb (by unfold pathsN; omega)
  exact rch_in hc h fun u hu => start_in hu n
end Go.Proofs.YtdpblciohodgcaaDoor

/- The greatest fixed point by which the program reckons common knowledge is what the paths say. Plain. -/

namespace Go.Proofs.YtdpblciohodgcaaDoor
open Go.RowKit

theorem rows_low {r : List Nat} {n : Nat} (hl : r.length = n) (hb : beyondN r n = false) : ∀ u v, (r.getD u 0).testBit v = true → u < n ∧ v < n := fun u v h => by
  by_cases hu : u < r.length
  · have hm : r.getD u 0 ∈ r := by rw [List.getD_eq_getElem?_getD, List.getElem?_eq_getElem hu]; exact List.getElem_mem hu
    have h2 := List.any_eq_false.1 hb _ hm
    simp only [Bool.not_eq_true', decide_eq_false_iff_not, Nat.not_lt, Nat.not_le] at h2
    exact ⟨by omega, bit_lt h2 h⟩
  · rw [List.getD_eq_getElem?_getD, List.getElem?_eq_none (by omega)] at h
    simp at h
def gfF (r : List Nat) (n c s out : Nat) : Nat := boxN r n (difN (allW n) c ||| (s &&& out))
theorem gfF_bit {r : List Nat} {n c s out i : Nat} (hb : ∀ u v, (r.getD u 0).testBit v = true → u < n ∧ v < n) :
    (gfF r n c s out).testBit i = true ↔ i < n ∧ ∀ v, (r.getD i 0).testBit v = true → c.testBit v = true → s.testBit v = true ∧ out.testBit v = true := by
  unfold gfF
  rw [box_bit]
  refine and_congr_right fun _ => forall_congr' fun v => ?_
  refine ⟨fun h h1 h2 => ?_, fun h h1 => ?_⟩
  · have := h h1
    rw [Nat.testBit_or, dif_bit, Nat.testBit_and, h2, Bool.not_true, Bool.and_false, Bool.false_or, Bool.and_eq_true] at this
    exact this
  · rw [Nat.testBit_or, dif_bit, Nat.testBit_and, allw_bit]
    cases hc : c.testBit v
    · simp [(hb i v h1).2]
    · obtain ⟨h3, h4⟩ := h h1 hc
      simp [h3, h4]
theorem commonM_bit {r : List Nat} {n c s i : Nat} (hb : ∀ u v, (r.getD u 0).testBit v = true → u < n ∧ v < n) :
    (commonM r n c s).testBit i = true ↔ i < n ∧ ∀ v, Rch (stpW r c) i v → s.testBit v = true := by
  unfold commonM
  rw [mask_bit, Bool.and_eq_true, decide_eq_true_eq, subS_iff]
  exact and_congr_right fun _ => forall_congr' fun v => by rw [paths_bit hb]
theorem common_start {r : List Nat} {n c s : Nat} (hb : ∀ u v, (r.getD u 0).testBit v = true → u < n ∧ v < n) : ∀ i, (commonM r n c s).testBit i = true → (allW n).testBit i = true := fun i h => by
  rw [allw_bit]; exact decide_eq_true ((commonM_bit hb).1 h).1
theorem common_below {r : List Nat} {n c s out : Nat} (hb : ∀ u v, (r.getD u 0).testBit v = true → u < n ∧ v < n) (h : ∀ i, (commonM r n c s).testBit i = true → out.testBit i = true) :
    ∀ i, (commonM r n c s).testBit i = true → (gfF r n c s out).testBit i = true := fun i hi => by
  obtain ⟨h1, h2⟩ := (commonM_bit hb).1 hi
  exact (gfF_bit hb).2 ⟨h1, fun v hv hc => ⟨h2 v (.one ⟨hv, hc⟩), h v ((commonM_bit hb).2 ⟨(hb i v hv).2, fun z hz => h2 z (.cons ⟨hv, hc⟩ hz)⟩)⟩⟩
theorem gf_start {r : List Nat} {n c s : Nat} (hb : ∀ u v, (r.getD u 0).testBit v = true → u < n ∧ v < n) : ∀ i, (gfF r n c s (allW n)).testBit i = true → (allW n).testBit i = true := fun i h => by
  rw [allw_bit]; exact decide_eq_true ((gfF_bit hb).1 h).1
theorem gf_dec {r : List Nat} {n c s out : Nat} (hb : ∀ u v, (r.getD u 0).testBit v = true → u < n ∧ v < n) (h : ∀ i, (gfF r n c s out).testBit i = true → out.testBit i = true) :
    ∀ i, (gfF r n c s (gfF r n c s out)).testBit i = true → (gfF r n c s out).testBit i = true := fun i hi => by
  obtain ⟨h1, h2⟩ := (gfF_bit hb).1 hi
  exact (gfF_bit hb).2 ⟨h1, fun v hv hc => ⟨(h2 v hv hc).1, h v (h2 v hv hc).2⟩⟩
theorem common_fix {r : List Nat} {n c s out : Nat} (hb : ∀ u v, (r.getD u 0).testBit v = true → u < n ∧ v < n) (h : gfF r n c s out = out) (hi : ∀ i, (commonM r n c s).testBit i = true → out.testBit i = true) : out = commonM r n c s := by
  have hp : ∀ u v, Rch (stpW r c) u v → out.testBit u = true → s.testBit v = true := fun u v hr => by
    induction hr with
    | one hst => intro ho; rw [← h] at ho; exact (((gfF_bit hb).1 ho).2 _ hst.1 hst.2).1
    | cons hst _ ih => intro ho; rw [← h] at ho; exact ih (((gfF_bit hb).1 ho).2 _ hst.1 hst.2).2
  refine Nat.eq_of_testBit_eq fun i => ?_
  rw [Bool.eq_iff_iff]
  refine ⟨fun ho => (commonM_bit hb).2 ⟨?_, fun v hv => hp i v hv ho⟩, hi i⟩
  have ho2 := ho
  rw [← h] at ho2
  exact ((gfF_bit hb).1 ho2).1
theorem sub_lt {a b : Nat} (h : ∀ i, a.testBit i = true → b.testBit i = true) (hne : a ≠ b) : a < b := by
  have e : a &&& b = a := by
    refine Nat.eq_of_testBit_eq fun i => ?_
    rw [Nat.testBit_and]
    cases ha : a.testBit i
    · rfl
    · rw [h i ha]; rfl
  have : a ≤ b := by rw [← e]; exact Nat.and_le_right
  omega
end Go.Proofs.YtdpblciohodgcaaDoor

/- What the program reckons at a node; plain. -/

namespace Go.Proofs.YtdpblciohodgcaaDoor
open Go.RowKit

theorem all_shr {N : Nat} (h : N ≤ 64) : (18446744073709551615 : Int) / 2 ^ (64 - N) = ((allW N : Nat) : Int) := by
  have e : ∀ k : Fin 65, (18446744073709551615 : Int) / 2 ^ (64 - k.val) = ((allW k.val : Nat) : Int) := by decide +kernel
  exact e ⟨N, by omega⟩
/-- Whether a node of a checked formula is static and fits. -/
def fineP (md : Md) (n : Nd) : Bool :=
  if n.op = 3 then decide (n.i < md.val.length) else if n.op ≤ 8 then true else if n.op ≤ 10 then decide (n.i < md.rel.length)
  else if n.op ≤ 13 then decide (n.g < ((2 ^ md.rel.length : Nat) : Int)) else false
def valP (md : Md) (n : Nd) (x y : Nat) : Nat := if fineP md n = true then oneN md n x y else 0
theorem grpS_lt {rl : List (List Nat)} {n : Nat} (hw : ∀ r ∈ rl, ∀ s ∈ r, s < 2 ^ n) {gn i s a : Nat} {meet : Bool} (hs : s < 2 ^ n) : grpS rl gn meet i s a < 2 ^ n := by
  unfold grpS
  split
  · split
    · exact Nat.lt_of_le_of_lt Nat.and_le_left hs
    · refine Nat.or_lt_two_pow hs ?_
      by_cases ha : a < rl.length
      · have hm : rl.getD a [] ∈ rl := by rw [List.getD_eq_getElem?_getD, List.getElem?_eq_getElem ha]; exact List.getElem_mem ha
        by_cases hi : i < (rl.getD a []).length
        · refine hw _ hm _ ?_
          rw [List.getD_eq_getElem?_getD (l := rl.getD a []), List.getElem?_eq_getElem hi]
          exact List.getElem_mem hi
        · rw [List.getD_eq_getElem?_getD (l := rl.getD a []), List.getElem?_eq_none (by omega)]
          exact Nat.two_pow_pos n
      · rw [List.getD_eq_getElem?_getD (l := rl), List.getElem?_eq_none (by omega)]
        exact Nat.two_pow_pos n
  · exact hs
theorem allW_lt (n : Nat) : allW n < 2 ^ n := by
  unfold allW
  have := Nat.two_pow_pos n
  omega
theorem grpN_lt {rl : List (List Nat)} {n : Nat} (hw : ∀ r ∈ rl, ∀ s ∈ r, s < 2 ^ n) {gn i : Nat} {meet : Bool} : grpN rl gn meet n i < 2 ^ n := by
  unfold grpN
  have : ∀ k, (List.range k).foldl (grpS rl gn meet i) (if meet then allW n else 0) < 2 ^ n := fun k => by
    induction k with
    | zero =>
      cases meet
      · exact Nat.two_pow_pos n
      · exact allW_lt n
    | succ k ih => rw [fold_snoc]; exact grpS_lt hw ih
  exact this _
theorem check02_ok {r : List Nat} {N : Nat} (hl : r.length = N) (hN : N ≤ 64) (h : ∀ s ∈ r, s < 2 ^ N) : check02 r.length r = 0 := by
  have hb : beyondN r r.length = false := List.any_eq_false.2 fun s hs => by rw [hl]; simpa using h s hs
  have := valid_iff.2 ⟨by omega, hb⟩
  unfold valid02 at this
  simpa using this
theorem row_low {md : Md} (h : checkM md = 0) : ∀ r ∈ md.rel, ∀ s ∈ r, s < 2 ^ md.n.toNat := fun r hr s hs => by
  obtain ⟨_, _, _, _, _, _, hlow⟩ := checkM_zero h
  have := List.any_eq_false.1 (hlow r hr) s hs
  simpa using this
theorem box_compl {r : List Nat} {n x : Nat} (hn : n ≤ 64) (hb : ∀ u v, (r.getD u 0).testBit v = true → u < n ∧ v < n) : boxN r n (allW 64 ^^^ x) = boxN r n (difN (allW n) x) := by
  refine Nat.eq_of_testBit_eq fun i => ?_
  rw [Bool.eq_iff_iff, box_bit, box_bit]
  refine and_congr_right fun _ => forall_congr' fun v => imp_congr_right fun hv => ?_
  have hv2 := (hb i v hv).2
  rw [Nat.testBit_xor, allw_bit, dif_bit, allw_bit, decide_eq_true (show v < 64 by omega), decide_eq_true hv2]
  cases x.testBit v <;> simp
end Go.Proofs.YtdpblciohodgcaaDoor

/- The program's frames.In, from what relation.Has says. -/

namespace Go.Proofs.YtdpblciohodgcaaDoor
open Go.RowKit

set_option maxRecDepth 100000 in
set_option maxHeartbeats 4000000 in
theorem pIn1_of (HSS : HasSaid) (B : Nat) (v : Value) (l : List Nat) (lg : Int) (w : World) (hT : TabZ w) (h : U64s w v l) (hw : ∀ s ∈ l, word s) (hck : check02 l.length l = 0) (h0 : 0 < l.length) (hlg : 0 ≤ lg ∧ lg ≤ 6) (hb : w.cell? ⟨B, 0, none⟩ = some (.int .i64 lg)) :
    Calls Tryd.prog 21 #[v, .pointer (some ⟨B, 0, none⟩)] w fun e w' => e = .returned (.bool (!goodB lg l)) ∧ Ext w w' := by
  have HS := Lib.hid (pHas_of HSS v l lg w hT h hw hck h0 hlg)
  obtain ⟨A, c, rfl, _⟩ := h
  obtain ⟨pb, hpb⟩ : ∃ b, b = goodB lg l := ⟨_, rfl⟩
  rw [← hpb] at HS ⊢
  clear HSS hT hw hck h0 hlg hpb
  go_enter Tryd.func21, Tryd.ntmps21
  go_wp2_with fail
  refine HS.out.mono ?_
  rintro e w1 ⟨rfl, hx⟩
  have HX := Lib.hid hx
  clear hx
  go_wp2_with fail
  go_ret
  exact ⟨rfl, HX.out⟩
noncomputable def inB (md : Md) (lg : Int) : Bool := !(md.rel.any fun r => !goodB lg r)
set_option maxRecDepth 100000 in
set_option maxHeartbeats 4000000 in
theorem pIn_of (HSS : HasSaid) (vm : Value) (md : Md) (lg : Int) (w : World) (hT : TabZ w) (hm : MdV w vm md) (hok : md.ok) (hck : checkM md = 0) (hlg : 0 ≤ lg ∧ lg ≤ 6) :
    Calls Tryd.prog 8 #[vm, .int .i64 lg] w fun e w' => e = .returned (.bool (inB md lg)) ∧ Ext w w' := by
  have HM := Lib.hid hm
  have HT := Lib.hid hT
  have HOK := Lib.hid hok
  have HCK := Lib.hid hck
  have HP := Lib.hid (show p15 lg = 0 from if_pos hlg)
  have HGB := Lib.hid (show inB md lg = !(md.rel.any fun r => !goodB lg r) from rfl)
  have hz := checkM_zero hck
  have hlow := row_low hck
  have HR : Hid (∀ r ∈ md.rel, check02 r.length r = 0 ∧ 0 < r.length) := Lib.hid fun r hr => by
    have hl := hz.2.2.2.2.1 r hr
    exact ⟨check02_ok (by omega) (by omega) (hlow r hr), by omega⟩
  have HC := Lib.hid (fun (B : Nat) (vp : Value) (w : World) (hT : TabZ w) (hi : U64ss w vp md.rel) (hB : B < w.heap.size) (hb : w.cell? ⟨B, 0, none⟩ = some (.int .i64 lg)) =>
    containsR_any 21 #[.pointer (some ⟨B, 0, none⟩)] (fun _ _ => rfl) (fun r => !goodB lg r) vp md.rel w hi
      (fun W u r hr hx hu => pIn1_of HSS B u r lg W (hT.ext hx) hu (hok.rel r hr) (HR.out r hr).1 (HR.out r hr).2 hlg ((hx.cell (p := ⟨B, 0, none⟩) hB).trans hb)))
  obtain ⟨vv, vr, rfl, hv, hr⟩ := hm
  have HRR := Lib.hid hr
  obtain ⟨pb, hpb⟩ : ∃ b, b = (md.rel.any fun r => !goodB lg r) := ⟨_, rfl⟩
  rw [← hpb] at HC HGB
  clear HSS hT hok hck hz hlow hlg hpb hv hr
  go_enter Tryd.func8, Tryd.ntmps8
  go_wp2_with (first | (go_at_call 18; refine (pProps_any lg _).mono ?_; rintro e w1 ⟨vp, rfl, hx1, hvp⟩; rw [HP.out]; have HX1 := Lib.hid ((((Ext.refl w).alloc _).alloc _).trans hx1); have hm0 : w1.cell? ⟨w.heap.size, 0, none⟩ = some (.int .i64 md.n) := (hx1.cell (p := ⟨w.heap.size, 0, none⟩) (by simp; omega)).trans (by simp); have hm1 : w1.cell? ⟨w.heap.size, 1, none⟩ = some vv := (hx1.cell (p := ⟨w.heap.size, 1, none⟩) (by simp; omega)).trans (by simp); have hm2 : w1.cell? ⟨w.heap.size, 2, none⟩ = some vr := (hx1.cell (p := ⟨w.heap.size, 2, none⟩) (by simp; omega)).trans (by simp); have hl0 : w1.cell? ⟨w.heap.size + 1, 0, none⟩ = some (.int .i64 lg) := (hx1.cell (p := ⟨w.heap.size + 1, 0, none⟩) (by simp)).trans (by simp); have hb1 : w.heap.size + 1 < w1.heap.size := Nat.lt_of_lt_of_le (by simp) hx1.size; clear hx1 hvp) | (go_at_call 19; refine (pCheck13_any _ md _ (HM.out.ext HX1.out) HOK.out).mono ?_; rintro e w2 ⟨rfl, hx2⟩; rw [HCK.out]; have HX2 := Lib.hid (HX1.out.trans hx2); have hc2 := (hx2.cell (p := ⟨w.heap.size, 2, none⟩) (by show w.heap.size < _; omega)).trans hm2; have hl2 := (hx2.cell (p := ⟨w.heap.size + 1, 0, none⟩) hb1).trans hl0; have hb2 := Nat.lt_of_lt_of_le hb1 hx2.size; clear hx2) | (go_at_call 20; refine (HC.out (w.heap.size + 1) _ _ (HT.out.ext HX2.out) (HRR.out.ext HX2.out) hb2 hl2).mono ?_; rintro e w3 ⟨rfl, hx3⟩; have HX3 := Lib.hid (HX2.out.trans hx3); clear hx3))
  go_ret
  exact ⟨by rw [HGB.out] <;> rfl, HX3.out⟩
end Go.Proofs.YtdpblciohodgcaaDoor

/- frames.In's word and the models of a logic. Plain. -/

namespace Go.Proofs.YtdpblciohodgcaaDoor
open Go.RowKit

theorem inB_rows {md : Md} {lg : Int} : inB md lg = true ↔ ∀ r ∈ md.rel, goodR lg r := by
  unfold inB
  rw [Bool.not_eq_true', List.any_eq_false]
  refine forall_congr' fun r => imp_congr_right fun _ => ?_
  rw [← goodB_iff]
  cases goodB lg r <;> simp
theorem inB_good {md : Md} {lg : Int} (hck : checkM md = 0) (hlg : 0 ≤ lg ∧ lg ≤ 6) (h : inB md lg = true) : GoodM md lg := by
  exact ⟨hlg, hck, inB_rows.1 h⟩
end Go.Proofs.YtdpblciohodgcaaDoor

/- relation.Has: what it says of the properties 1, 2, 4, 5; frames.In. -/

namespace Go.Proofs.YtdpblciohodgcaaDoor
open Go.RowKit

theorem has_said : HasSaid := by
  intro v l q w hT h hw hck _ hq
  rcases hq with rfl | rfl | rfl | rfl
  · exact has1_any v l w h hw hck
  · exact has2_any v l w h hw hck
  · exact has4_any v l w hT h hw hck
  · exact has5_any v l w hT h hw hck
theorem pIn_any (vm : Value) (md : Md) (lg : Int) (w : World) (hT : TabZ w) (hm : MdV w vm md) (hok : md.ok) (hck : checkM md = 0) (hlg : 0 ≤ lg ∧ lg ≤ 6) :
    Calls Tryd.prog 8 #[vm, .int .i64 lg] w fun e w' => e = .returned (.bool (inB md lg)) ∧ Ext w w' := pIn_of has_said vm md lg w hT hm hok hck hlg
end Go.Proofs.YtdpblciohodgcaaDoor
