/- The reference's proof with its stacks, in memory; boxes. -/
import Derived.Test.YtipnbfbakohcaaaDoorH1
import Derived.Deep.RegionHeld3

namespace Go.Proofs.YtipnbfbakohcaaaDoor
open Go.RowKit

/-- The reference's proof behind a pointer. -/
structure Prf (w : World) (b : Nat) (lg : Int) (ls : List Ln) (s : List (List Int)) : Prop where
  all : ∃ vl vs, w.heap[b]? = some (.cells #[.int .i64 lg, vl, vs] 57 (0, 0)) ∧ Lns w vl ls ∧ IntsL w vs s
theorem Prf.ext {w w' : World} {b : Nat} {lg : Int} {ls : List Ln} {s : List (List Int)} (h : Prf w b lg ls s) (he : Ext w w') : Prf w' b lg ls s := by
  obtain ⟨vl, vs, hb, h1, h2⟩ := h.all
  exact ⟨vl, vs, (he.block (lt_heap hb)).trans hb, h1.ext he, h2.ext he⟩
theorem cells3' {w : World} {b : Nat} {a0 a1 a2 : Value} {t : TypeId} (h : w.heap[b]? = some (.cells #[a0, a1, a2] t (0, 0))) :
    w.cell? ⟨b, 0, none⟩ = some a0 ∧ w.cell? ⟨b, 1, none⟩ = some a1 ∧ w.cell? ⟨b, 2, none⟩ = some a2 ∧ b < w.heap.size :=
  ⟨by simp [World.cell?, h], by simp [World.cell?, h], by simp [World.cell?, h], lt_heap h⟩
theorem Prf.blt {w : World} {b : Nat} {lg : Int} {ls : List Ln} {s : List (List Int)} (h : Prf w b lg ls s) : b < w.heap.size := by
  obtain ⟨_, _, hb, _⟩ := h.all
  exact lt_heap hb
theorem Prf.line {w : World} {b : Nat} {lg : Int} {ls : List Ln} {s : List (List Int)} (h : Prf w b lg ls s) {i : Nat} {n : Ln} (hi : ls[i]? = some n) :
    ∃ (ad : Addr) (c : Nat) (vs uf ur : Value), ls.length ≤ c ∧ c ≤ 9223372036854775807 ∧ ad.block < w.heap.size ∧ w.cell? ⟨b, 0, none⟩ = some (.int .i64 lg) ∧ w.cell? ⟨b, 1, none⟩ = some (.slice (some ad) ls.length c) ∧ w.cell? ⟨b, 2, none⟩ = some vs ∧
      w.cell? (ad.add (i * 5)) = some (.int .i64 n.depth) ∧ w.cell? ⟨(ad.add (i * 5)).block, (ad.add (i * 5)).off + 1, none⟩ = some (.int .i64 n.rule) ∧ w.cell? ⟨(ad.add (i * 5)).block, (ad.add (i * 5)).off + 2, none⟩ = some uf ∧
      w.cell? ⟨(ad.add (i * 5)).block, (ad.add (i * 5)).off + 3, none⟩ = some (.int .i64 n.agent) ∧ w.cell? ⟨(ad.add (i * 5)).block, (ad.add (i * 5)).off + 4, none⟩ = some ur ∧ Fml w uf n.f ∧ Ints w ur n.from_ := by
  obtain ⟨vl, vs, hb, ⟨A, c, rfl, h1, h2, h3⟩, _⟩ := h.all
  obtain ⟨d0, d1, d2, _⟩ := cells3' hb
  obtain ⟨ad, rfl, hlt, hc⟩ := h3 (by intro e; rw [e] at hi; simp at hi)
  obtain ⟨uf, ur, q0, q1, q2, q3, q4, q5, q6⟩ := hc i n hi
  unfold maxLen at h2
  exact ⟨ad, c, vs, uf, ur, h1, by omega, hlt, d0, d1, d2, q0, q1, q2, q3, q4, q5, q6⟩
theorem Prf.stack {w : World} {b : Nat} {lg : Int} {ls : List Ln} {s : List (List Int)} (h : Prf w b lg ls s) {i : Nat} {si : List Int} (hi : s[i]? = some si) :
    ∃ (ad : Addr) (c : Nat) (vl : Value) (A : Option Addr) (ci : Nat), s.length ≤ c ∧ c ≤ 9223372036854775807 ∧ ad.block < w.heap.size ∧ w.cell? ⟨b, 0, none⟩ = some (.int .i64 lg) ∧ w.cell? ⟨b, 1, none⟩ = some vl ∧ w.cell? ⟨b, 2, none⟩ = some (.slice (some ad) s.length c) ∧
      w.cell? (ad.add i) = some (.slice A si.length ci) ∧ IntsAt w A ci si := by
  obtain ⟨vl, vs, hb, _, ⟨A, c, rfl, h1, h2, h3⟩⟩ := h.all
  obtain ⟨d0, d1, d2, _⟩ := cells3' hb
  obtain ⟨ad, rfl, hlt, hc⟩ := h3 (by intro e; rw [e] at hi; simp at hi)
  obtain ⟨ui, hui, Ai, ci, rfl, hIi⟩ := hc i si hi
  unfold maxLen at h2
  exact ⟨ad, c, vl, Ai, ci, h1, by omega, hlt, d0, d1, d2, hui, hIi⟩
theorem take_ne {l m : List Int} {k : Nat} {a c : Int} (ha : l[k]? = some a) (hc : m[k]? = some c) (h : a ≠ c) : ¬ l.take m.length = m := by
  intro e
  have hk := (List.getElem?_eq_some_iff.1 hc).1
  have : (l.take m.length)[k]? = some a := by rw [List.getElem?_take, if_pos hk, ha]
  rw [e, hc] at this
  exact h (Option.some.inj this).symm
theorem boxesGoR_step {ls : List Ln} {l : List Int} {k : Nat} {o : Int} (h : l[k]? = some o) (n a : Int) : boxesGoR ls (l.drop k) n a = bif (lineAt ls o).rule == 2 then boxesGoR ls (l.drop (k + 1)) (n + 1) (lineAt ls o).agent else boxesGoR ls (l.drop (k + 1)) n a := by
  have hk := (List.getElem?_eq_some_iff.1 h).1
  have e : l.drop k = o :: l.drop (k + 1) := by
    rw [List.drop_eq_getElem_cons hk]
    have := (List.getElem?_eq_some_iff.1 h).2
    rw [this]
  rw [e]
  rfl

set_option maxRecDepth 100000 in
set_option maxHeartbeats 8000000 in
theorem rboxes_any {w : World} {b : Nat} {lg : Int} {ls : List Ln} {s : List (List Int)} (h : Prf w b lg ls s) (i : Nat) (si : List Int) (hi : s[i]? = some si) (hsi : si.length ≤ 1000 ∧ ∀ o ∈ si, 0 ≤ o ∧ o < ls.length) (v : Value) (outer : List Int) (hv : Ints w v outer) :
    Calls Tryd.prog 64 #[.pointer (some ⟨b, 0, none⟩), .int .i64 i, v] w fun e w' => e = .returned (.tuple #[.int .i64 (boxesR ls s i outer).1, .int .i64 (boxesR ls s i outer).2]) ∧ Ext w w' := by
  have HS := Lib.hid (show s.getD i [] = si by rw [List.getD_eq_getElem?_getD, hi]; rfl)
  obtain ⟨A, c, rfl, hcap, hmax, hr⟩ := hv
  unfold maxLen at hmax
  obtain ⟨ad, cs, vl, As, ci, hs1, hs2, hs3, d0, d1, d2, e0, hIs⟩ := h.stack hi
  have hil : i < s.length := (List.getElem?_eq_some_iff.1 hi).1
  have HR := Lib.hid hr
  have H := Lib.hid h
  have HL := Lib.hid hsi.2
  have HIi := Lib.hid hi
  have hlen := hsi.1
  clear hr h hi hIs hsi
  by_cases hgt : si.length < outer.length
  · have HE : Hid (boxesR ls s i outer = (-1, 0)) := Lib.hid (boxesR_no (by
      rw [HS.out]
      intro e
      have := congrArg List.length e
      simp at this
      omega))
    have hg1 : (si.length : Int) < (outer.length : Int) := by omega
    go_enter Tryd.func64, Tryd.ntmps64
    go_wp2_with fail
    go_ret2
    exact ⟨by rw [HE.out] <;> rfl, Ext.refl _⟩
  · have hg1 : ¬ (si.length : Int) < (outer.length : Int) := by omega
    have hle : outer.length ≤ si.length := by omega
    clear hgt
    go_enter Tryd.func64, Tryd.ntmps64
    go_wp2_with fail
    clear d0 d1 d2 e0 hs1 hs2 hs3
    go_loopw [8] (fun v wr => ∃ k : Nat, v = .int .i64 k ∧ k ≤ outer.length ∧ Hid (si.take k = outer.take k) ∧ Hid (Ext w wr)) (fun v _ => outer.length - (intOf v).toNat)
    case atStart => exact ⟨0, rfl, Nat.zero_le _, Lib.hid rfl, Lib.hid (Ext.refl _)⟩
    case round =>
      obtain ⟨k, rfl, hk, HT, HX⟩ := hrel
      obtain ⟨ad1, cs1, vl1, As1, ci1, hs1, hs2, hs3, d0, d1, d2, e0, hIs⟩ := (H.out.ext HX.out).stack HIi.out
      have hsc := hIs.1
      have hsm := hIs.2.1
      unfold maxLen at hsm
      by_cases hlt : k < outer.length
      · obtain ⟨x, hx⟩ : ∃ x, si[k]? = some x := ⟨_, List.getElem?_eq_getElem (show k < si.length by omega)⟩
        obtain ⟨y, hy⟩ : ∃ y, outer[k]? = some y := ⟨_, List.getElem?_eq_getElem hlt⟩
        obtain ⟨ado, rfl, hbo, hco⟩ := HR.out (by intro e; rw [e] at hlt; simp at hlt)
        obtain ⟨adi, rfl, hbi, hci⟩ := hIs.2.2 (fun e => by rw [e] at hx; simp at hx)
        have b0 := (HX.out.cell (p := ado.add k) (by rw [block_of_add]; exact hbo)).trans (hco k y hy)
        have a0 := hci k x hx
        have hk0 : (0 : Int) ≤ (k : Int) := by omega
        have hk1 : (k : Int) < (outer.length : Int) := by omega
        have hk2 : (k : Int) < (si.length : Int) := by omega
        by_cases hxy : x = y
        · have hne : (x != y) = false := by simp [hxy]
          have HT2 := Lib.hid (show si.take (k + 1) = outer.take (k + 1) by rw [take_succ_eq hx, take_succ_eq hy, HT.out, hxy])
          clear hx hy hco hci hIs hxy
          go_wp2_with fail
          go_quiet (fail)
          go_wp2_with fail
          go_roundw
          case rel => exact ⟨k + 1, by go_num, by omega, HT2, Lib.hid (HX.out.drewN _)⟩
          case measure => simp [intOf]; omega
        · have hne : (x != y) = true := by simpa using hxy
          have HE : Hid (boxesR ls s i outer = (-1, 0)) := Lib.hid (boxesR_no (by rw [HS.out]; exact take_ne hx hy hxy))
          clear hx hy hco hci hIs hxy
          go_wp2_with fail
          go_quiet (fail)
          go_wp2_with fail
          go_ret2
          exact ⟨by rw [HE.out] <;> rfl, HX.out.drewN _⟩
      · obtain rfl : outer.length = k := by omega
        have HE : Hid (boxesR ls s i outer = boxesGoR ls (si.drop outer.length) 0 0) := Lib.hid (by
          rw [boxesR_yes (by rw [HS.out, HT.out, List.take_of_length_le (Nat.le_refl _)]), HS.out])
        clear hIs hk hlt
        go_wp2_with fail
        clear d0 d1 d2 e0 hs1 hs2 hs3 hsc hsm
        go_loopw [9, 10, 11] (fun v9 v10 v11 wr => ∃ (k : Nat) (n a : Int), v9 = .int .i64 n ∧ v10 = .int .i64 a ∧ v11 = .int .i64 k ∧ outer.length ≤ k ∧ k ≤ si.length ∧ 0 ≤ n ∧ n ≤ k ∧ Hid (boxesGoR ls (si.drop k) n a = boxesGoR ls (si.drop outer.length) 0 0) ∧ Hid (Ext w wr)) (fun _ _ v _ => si.length - (intOf v).toNat)
        case atStart => exact ⟨outer.length, 0, 0, rfl, rfl, rfl, Nat.le_refl _, hle, by omega, by omega, Lib.hid rfl, HX⟩
        case round =>
          obtain ⟨k, n, a, rfl, rfl, rfl, hk1, hk2, hn0, hn1, HG, HY⟩ := hrel
          obtain ⟨ad1, cs1, vl1, As1, ci1, hs1, hs2, hs3, d0, d1, d2, e0, hIs⟩ := (H.out.ext HY.out).stack HIi.out
          have hsc := hIs.1
          have hsm := hIs.2.1
          unfold maxLen at hsm
          by_cases hlt : k < si.length
          · obtain ⟨o, ho⟩ : ∃ o, si[k]? = some o := ⟨_, List.getElem?_eq_getElem hlt⟩
            obtain ⟨adi, rfl, hbi, hci⟩ := hIs.2.2 (by intro e; rw [e] at hlt; simp at hlt)
            have a0 := hci k o ho
            obtain ⟨ho0, ho1⟩ := HL.out o (List.mem_of_getElem? ho)
            obtain ⟨on, rfl⟩ := Int.eq_ofNat_of_zero_le ho0
            have hline := lineAt_of ho0 ho1
            rw [Int.toNat_natCast] at hline
            have HG2 := Lib.hid ((boxesGoR_step (ls := ls) ho n a).symm.trans HG.out)
            obtain ⟨adl, cl, vs2, uf, ur, hcl1, hcl2, hltl, f0, f1, f2, q0, q1, q2, q3, q4, hff, hfr⟩ := (H.out.ext HY.out).line hline
            obtain ⟨Af, cf, rfl, _⟩ := fml_slice hff
            obtain ⟨Ar, cr, rfl, _⟩ := hfr
            have hk0 : (0 : Int) ≤ (k : Int) := by omega
            have hk3 : (k : Int) < (si.length : Int) := by omega
            have hbb := (H.out.ext HY.out).blt
            clear ho hci hIs hline hff f0 f2
            have hn2 : n + 1 ≤ 1001 := by omega
            cases hbx : (lineAt ls (on : Int)).rule == 2
            · rw [hbx] at HG2
              go_wp2_with fail
              have HK := Lib.hid (show ∀ w', Ext wr w' → (w'.cell? ⟨b, 1, none⟩ = some (.slice (some adl) ls.length cl) ∧ w'.cell? ⟨b, 2, none⟩ = some (.slice (some ad1) s.length cs1) ∧ w'.cell? (ad1.add i) = some (.slice (some adi) si.length ci1) ∧ w'.cell? (adi.add k) = some (.int .i64 (on : Int)) ∧ w'.cell? (adl.add (on * 5)) = some (.int .i64 (lineAt ls (on : Int)).depth) ∧ w'.cell? ⟨(adl.add (on * 5)).block, (adl.add (on * 5)).off + 1, none⟩ = some (.int .i64 (lineAt ls (on : Int)).rule) ∧ w'.cell? ⟨(adl.add (on * 5)).block, (adl.add (on * 5)).off + 2, none⟩ = some (.slice Af (lineAt ls (on : Int)).f.length cf) ∧ w'.cell? ⟨(adl.add (on * 5)).block, (adl.add (on * 5)).off + 3, none⟩ = some (.int .i64 (lineAt ls (on : Int)).agent) ∧ w'.cell? ⟨(adl.add (on * 5)).block, (adl.add (on * 5)).off + 4, none⟩ = some (.slice Ar (lineAt ls (on : Int)).from_.length cr)) from fun w' hw => ⟨(hw.cell (p := ⟨b, 1, none⟩) hbb).trans f1, (hw.cell (p := ⟨b, 2, none⟩) hbb).trans d2, (hw.cell (p := ad1.add i) (by rw [block_of_add]; exact hs3)).trans e0, (hw.cell (p := adi.add k) (by rw [block_of_add]; exact hbi)).trans a0, (hw.cell (p := adl.add (on * 5)) (by rw [block_of_add]; exact hltl)).trans q0, (hw.cell (p := ⟨(adl.add (on * 5)).block, (adl.add (on * 5)).off + 1, none⟩) (by show (adl.add (on * 5)).block < _; rw [block_of_add]; exact hltl)).trans q1, (hw.cell (p := ⟨(adl.add (on * 5)).block, (adl.add (on * 5)).off + 2, none⟩) (by show (adl.add (on * 5)).block < _; rw [block_of_add]; exact hltl)).trans q2, (hw.cell (p := ⟨(adl.add (on * 5)).block, (adl.add (on * 5)).off + 3, none⟩) (by show (adl.add (on * 5)).block < _; rw [block_of_add]; exact hltl)).trans q3, (hw.cell (p := ⟨(adl.add (on * 5)).block, (adl.add (on * 5)).off + 4, none⟩) (by show (adl.add (on * 5)).block < _; rw [block_of_add]; exact hltl)).trans q4⟩)
              go_region_held3 (fun w' => w'.cell? ⟨b, 1, none⟩ = some (.slice (some adl) ls.length cl) ∧ w'.cell? ⟨b, 2, none⟩ = some (.slice (some ad1) s.length cs1) ∧ w'.cell? (ad1.add i) = some (.slice (some adi) si.length ci1) ∧ w'.cell? (adi.add k) = some (.int .i64 (on : Int)) ∧ w'.cell? (adl.add (on * 5)) = some (.int .i64 (lineAt ls (on : Int)).depth) ∧ w'.cell? ⟨(adl.add (on * 5)).block, (adl.add (on * 5)).off + 1, none⟩ = some (.int .i64 (lineAt ls (on : Int)).rule) ∧ w'.cell? ⟨(adl.add (on * 5)).block, (adl.add (on * 5)).off + 2, none⟩ = some (.slice Af (lineAt ls (on : Int)).f.length cf) ∧ w'.cell? ⟨(adl.add (on * 5)).block, (adl.add (on * 5)).off + 3, none⟩ = some (.int .i64 (lineAt ls (on : Int)).agent) ∧ w'.cell? ⟨(adl.add (on * 5)).block, (adl.add (on * 5)).off + 4, none⟩ = some (.slice Ar (lineAt ls (on : Int)).from_.length cr)) (first | exact HK.out _ (by repeat (first | exact Ext.refl _ | assumption | apply Ext.alloc | apply Ext.drew)) | go_keep) (first | fail)
              go_wp2_with fail
              go_roundw
              case rel => exact ⟨k + 1, n, a, rfl, rfl, by go_num, by omega, by omega, hn0, by omega, HG2, Lib.hid ((HY.out.alloc _).drew)⟩
              case measure => simp [intOf]; omega
            · rw [hbx] at HG2
              go_wp2_with fail
              have HK := Lib.hid (show ∀ w', Ext wr w' → (w'.cell? ⟨b, 1, none⟩ = some (.slice (some adl) ls.length cl) ∧ w'.cell? ⟨b, 2, none⟩ = some (.slice (some ad1) s.length cs1) ∧ w'.cell? (ad1.add i) = some (.slice (some adi) si.length ci1) ∧ w'.cell? (adi.add k) = some (.int .i64 (on : Int)) ∧ w'.cell? (adl.add (on * 5)) = some (.int .i64 (lineAt ls (on : Int)).depth) ∧ w'.cell? ⟨(adl.add (on * 5)).block, (adl.add (on * 5)).off + 1, none⟩ = some (.int .i64 (lineAt ls (on : Int)).rule) ∧ w'.cell? ⟨(adl.add (on * 5)).block, (adl.add (on * 5)).off + 2, none⟩ = some (.slice Af (lineAt ls (on : Int)).f.length cf) ∧ w'.cell? ⟨(adl.add (on * 5)).block, (adl.add (on * 5)).off + 3, none⟩ = some (.int .i64 (lineAt ls (on : Int)).agent) ∧ w'.cell? ⟨(adl.add (on * 5)).block, (adl.add (on * 5)).off + 4, none⟩ = some (.slice Ar (lineAt ls (on : Int)).from_.length cr)) from fun w' hw => ⟨(hw.cell (p := ⟨b, 1, none⟩) hbb).trans f1, (hw.cell (p := ⟨b, 2, none⟩) hbb).trans d2, (hw.cell (p := ad1.add i) (by rw [block_of_add]; exact hs3)).trans e0, (hw.cell (p := adi.add k) (by rw [block_of_add]; exact hbi)).trans a0, (hw.cell (p := adl.add (on * 5)) (by rw [block_of_add]; exact hltl)).trans q0, (hw.cell (p := ⟨(adl.add (on * 5)).block, (adl.add (on * 5)).off + 1, none⟩) (by show (adl.add (on * 5)).block < _; rw [block_of_add]; exact hltl)).trans q1, (hw.cell (p := ⟨(adl.add (on * 5)).block, (adl.add (on * 5)).off + 2, none⟩) (by show (adl.add (on * 5)).block < _; rw [block_of_add]; exact hltl)).trans q2, (hw.cell (p := ⟨(adl.add (on * 5)).block, (adl.add (on * 5)).off + 3, none⟩) (by show (adl.add (on * 5)).block < _; rw [block_of_add]; exact hltl)).trans q3, (hw.cell (p := ⟨(adl.add (on * 5)).block, (adl.add (on * 5)).off + 4, none⟩) (by show (adl.add (on * 5)).block < _; rw [block_of_add]; exact hltl)).trans q4⟩)
              go_region_held3 (fun w' => w'.cell? ⟨b, 1, none⟩ = some (.slice (some adl) ls.length cl) ∧ w'.cell? ⟨b, 2, none⟩ = some (.slice (some ad1) s.length cs1) ∧ w'.cell? (ad1.add i) = some (.slice (some adi) si.length ci1) ∧ w'.cell? (adi.add k) = some (.int .i64 (on : Int)) ∧ w'.cell? (adl.add (on * 5)) = some (.int .i64 (lineAt ls (on : Int)).depth) ∧ w'.cell? ⟨(adl.add (on * 5)).block, (adl.add (on * 5)).off + 1, none⟩ = some (.int .i64 (lineAt ls (on : Int)).rule) ∧ w'.cell? ⟨(adl.add (on * 5)).block, (adl.add (on * 5)).off + 2, none⟩ = some (.slice Af (lineAt ls (on : Int)).f.length cf) ∧ w'.cell? ⟨(adl.add (on * 5)).block, (adl.add (on * 5)).off + 3, none⟩ = some (.int .i64 (lineAt ls (on : Int)).agent) ∧ w'.cell? ⟨(adl.add (on * 5)).block, (adl.add (on * 5)).off + 4, none⟩ = some (.slice Ar (lineAt ls (on : Int)).from_.length cr)) (first | exact HK.out _ (by repeat (first | exact Ext.refl _ | assumption | apply Ext.alloc | apply Ext.drew)) | go_keep) (first | fail)
              go_wp2_with fail
              go_roundw
              case rel => exact ⟨k + 1, n + 1, (lineAt ls (on : Int)).agent, by go_num, rfl, by go_num, by omega, by omega, by omega, by omega, HG2, Lib.hid ((HY.out.alloc _).drew)⟩
              case measure => simp [intOf]; omega
          · obtain rfl : si.length = k := by omega
            have HE : Hid (boxesR ls s i outer = (n, a)) := Lib.hid (by
              rw [HE.out, ← HG.out, List.drop_length]
              rfl)
            clear hIs
            go_wp2_with fail
            go_ret2
            exact ⟨by rw [HE.out] <;> rfl, HY.out⟩
end Go.Proofs.YtipnbfbakohcaaaDoor

/- The reference's opens and line. -/

namespace Go.Proofs.YtipnbfbakohcaaaDoor
open Go.RowKit

set_option maxRecDepth 100000 in
set_option maxHeartbeats 2000000 in
theorem ropens_any (n : Ln) (uf ur : Value) (w : World) :
    Calls Tryd.prog 46 #[.agg #[.int .i64 n.depth, .int .i64 n.rule, uf, .int .i64 n.agent, ur]] w fun e w' => e = .returned (.bool (opensL n)) ∧ Ext w w' := by
  cases h1 : n.rule == 1
  · cases h2 : n.rule == 2
    · have HE := Lib.hid (show opensL n = false by unfold opensL; rw [h1, h2]; rfl)
      go_enter Tryd.func46, Tryd.ntmps46
      go_wp2_with fail
      go_ret
      exact ⟨by rw [HE.out] <;> rfl, (Ext.refl _).alloc _⟩
    · have HE := Lib.hid (show opensL n = true by unfold opensL; rw [h1, h2]; rfl)
      go_enter Tryd.func46, Tryd.ntmps46
      go_wp2_with fail
      go_ret
      exact ⟨by rw [HE.out] <;> rfl, (Ext.refl _).alloc _⟩
  · have HE := Lib.hid (show opensL n = true by unfold opensL; rw [h1]; rfl)
    go_enter Tryd.func46, Tryd.ntmps46
    go_wp2_with fail
    go_ret
    exact ⟨by rw [HE.out] <;> rfl, (Ext.refl _).alloc _⟩

/-- What the reference stands on at a line. -/
structure RefOk (ls : List Ln) (s : List (List Int)) (i : Nat) (n : Ln) : Prop where
  n_at : ls[i]? = some n
  st : ∀ j, j ≤ i → s[j]? = some (s.getD j []) ∧ ((s.getD j []).length ≤ 1000 ∧ ∀ o ∈ s.getD j [], 0 ≤ o ∧ o < ls.length)
  op : ∀ j, j ≤ i → opensL (ls.getD j Ln.zero) = true → 0 < (s.getD j []).length
theorem fromR_none' {ls : List Ln} {i k : Nat} (h : (ls.getD i Ln.zero).from_.length ≤ k ∨ (ls.getD i Ln.zero).from_.getD k 0 < 0 ∨ (i : Int) ≤ (ls.getD i Ln.zero).from_.getD k 0) : fromR ls i k = none := by
  unfold fromR
  have : (decide ((ls.getD i Ln.zero).from_.length ≤ k) || (decide ((ls.getD i Ln.zero).from_.getD k 0 < 0) || decide ((i : Int) ≤ (ls.getD i Ln.zero).from_.getD k 0))) = true := by
    simp only [Bool.or_eq_true, decide_eq_true_iff]; exact h
  simp only [this, cond_true]
theorem fromR_some' {ls : List Ln} {i k : Nat} (h1 : k < (ls.getD i Ln.zero).from_.length) (h2 : ¬ ((ls.getD i Ln.zero).from_.getD k 0 < 0 ∨ (i : Int) ≤ (ls.getD i Ln.zero).from_.getD k 0)) : fromR ls i k = some ((ls.getD i Ln.zero).from_.getD k 0) := by
  unfold fromR
  have : (decide ((ls.getD i Ln.zero).from_.length ≤ k) || (decide ((ls.getD i Ln.zero).from_.getD k 0 < 0) || decide ((i : Int) ≤ (ls.getD i Ln.zero).from_.getD k 0))) = false := by
    rw [Bool.eq_false_iff]
    intro e
    simp only [Bool.or_eq_true, decide_eq_true_iff] at e
    omega
  simp only [this, cond_false]
theorem lineR_none' {ls : List Ln} {s : List (List Int)} {i k : Nat} (h : fromR ls i k = none) : lineR ls s i k = [] := by unfold lineR; rw [h]
theorem fml_none (w : World) : Fml w (.slice none 0 0) [] := (Made.none_ w).fml
set_option maxRecDepth 100000 in
set_option maxHeartbeats 8000000 in
theorem rline_any {w : World} {b : Nat} {lg : Int} {ls : List Ln} {s : List (List Int)} {i : Nat} {n : Ln} (h : Prf w b lg ls s) (ok : RefOk ls s i n) (k : Nat) :
    Calls Tryd.prog 69 #[.pointer (some ⟨b, 0, none⟩), .int .i64 i, .int .i64 (k : Int)] w fun e w' => ∃ u, e = .returned u ∧ Ext w w' ∧ Fml w' u (lineR ls s i k) := by
  have hi := ok.n_at
  have hgn : ls.getD i Ln.zero = n := by rw [List.getD_eq_getElem?_getD, hi]; rfl
  obtain ⟨ad, c, vs, uf, ur, hc1, hc2, hlt, d0, d1, d2, q0, q1, q2, q3, q4, _, ⟨Ar, cr, rfl, hir⟩⟩ := h.line hi
  have hil : i < ls.length := (List.getElem?_eq_some_iff.1 hi).1
  have hrc := hir.1
  have hrm := hir.2.1
  unfold maxLen at hrm
  have H := Lib.hid h
  have OK := Lib.hid ok
  have HG := Lib.hid hgn
  have HIR := Lib.hid hir.2.2
  clear h ok hi hgn hir
  by_cases hk : n.from_.length ≤ k
  · have hk1 : (n.from_.length : Int) ≤ (k : Int) := by omega
    have HE := Lib.hid (show lineR ls s i k = [] by
      have := HG.out
      exact lineR_none' (fromR_none' (by rw [this]; exact .inl hk)))
    clear hk
    go_enter Tryd.func69, Tryd.ntmps69
    go_wp2_with fail
    go_ret
    exact ⟨_, rfl, Ext.refl _, by rw [HE.out]; exact fml_none _⟩
  · obtain ⟨adr, rfl, hbr, hcr⟩ := HIR.out (by intro e; rw [e] at hk; simp at hk)
    obtain ⟨j, hj⟩ : ∃ j, n.from_[k]? = some j := ⟨_, List.getElem?_eq_getElem (show k < n.from_.length by omega)⟩
    have r0 := hcr k j hj
    have hjD : n.from_.getD k 0 = j := by rw [List.getD_eq_getElem?_getD, hj]; rfl
    have hk0 : (0 : Int) ≤ (k : Int) := by omega
    have hk1 : ¬ (n.from_.length : Int) ≤ (k : Int) := by omega
    have hk2 : (k : Int) < (n.from_.length : Int) := by omega
    have hkn : k < n.from_.length := by omega
    clear hcr hj hk
    by_cases hj0 : j < 0
    · have HE := Lib.hid (show lineR ls s i k = [] by
        have := HG.out
        exact lineR_none' (fromR_none' (by rw [this, hjD]; exact .inr (.inl hj0))))
      clear hjD
      go_enter Tryd.func69, Tryd.ntmps69
      go_wp2_with fail
      go_ret
      exact ⟨_, rfl, Ext.refl _, by rw [HE.out]; exact fml_none _⟩
    · by_cases hji : (i : Int) ≤ j
      · have HE := Lib.hid (show lineR ls s i k = [] by
          have := HG.out
          exact lineR_none' (fromR_none' (by rw [this, hjD]; exact .inr (.inr hji))))
        clear hjD
        go_enter Tryd.func69, Tryd.ntmps69
        go_wp2_with fail
        go_ret
        exact ⟨_, rfl, Ext.refl _, by rw [HE.out]; exact fml_none _⟩
      · obtain ⟨jn, rfl⟩ := Int.eq_ofNat_of_zero_le (show 0 ≤ j by omega)
        have HF := Lib.hid (show fromR ls i k = some (jn : Int) by
          have := HG.out
          rw [← hjD, ← this]
          exact fromR_some' (by rw [this]; exact hkn) (by rw [this, hjD]; omega))
        clear hjD
        have hjl : jn < i := by omega
        obtain ⟨hsj, hsj1, hsj2⟩ := OK.out.st jn (by omega)
        obtain ⟨sj, hsjd⟩ : ∃ sj, sj = s.getD jn [] := ⟨_, rfl⟩
        rw [← hsjd] at hsj hsj1 hsj2
        have HSJ := Lib.hid hsjd
        clear hsjd
        obtain ⟨si, hsid⟩ : ∃ si, si = s.getD i [] := ⟨_, rfl⟩
        obtain ⟨hsi, hsi1, hsi2⟩ := OK.out.st i (Nat.le_refl _)
        rw [← hsid] at hsi hsi1 hsi2
        clear hsid
        obtain ⟨ads, cs, vl, As, ci, hs1, hs2, hs3, f0, f1, f2, e0, hIs⟩ := H.out.stack hsj
        have hjs : jn < s.length := (List.getElem?_eq_some_iff.1 hsj).1
        have HJ := Lib.hid (show Ints w (.slice As sj.length ci) sj from ⟨_, _, rfl, hIs⟩)
        have HSI := Lib.hid (And.intro hsi (And.intro hsi1 hsi2))
        obtain ⟨m, hm⟩ : ∃ m, ls[jn]? = some m := ⟨_, List.getElem?_eq_getElem (show jn < ls.length by omega)⟩
        have HM := Lib.hid hm
        have HMG := Lib.hid (show lineAt ls (jn : Int) = m by unfold lineAt; rw [Int.toNat_natCast, List.getD_eq_getElem?_getD, hm]; rfl)
        have hj1 : (0 : Int) ≤ (jn : Int) := by omega
        have hj2 : (jn : Int) < (ls.length : Int) := by omega
        have hj3 : (jn : Int) < (s.length : Int) := by omega
        have hb := H.out.blt
        clear hsj hsj1 hsj2 hsi hsi1 hsi2 hIs hm f0 f1 vl d2 vs
        go_enter Tryd.func69, Tryd.ntmps69
        go_wp2_with fail
        have HK := Lib.hid (show ∀ w', Ext w w' → (w'.cell? ⟨b, 2, none⟩ = some (.slice (some ads) s.length cs) ∧ w'.cell? (adr.add k) = some (.int .i64 (jn : Int)) ∧ w'.cell? (ads.add jn) = some (.slice As sj.length ci)) from fun w' hw => ⟨(hw.cell (p := ⟨b, 2, none⟩) hb).trans f2, (hw.cell (p := adr.add k) (by rw [block_of_add]; exact hbr)).trans r0, (hw.cell (p := ads.add jn) (by rw [block_of_add]; exact hs3)).trans e0⟩)
        go_region_held3 (fun w' => w'.cell? ⟨b, 2, none⟩ = some (.slice (some ads) s.length cs) ∧ w'.cell? (adr.add k) = some (.int .i64 (jn : Int)) ∧ w'.cell? (ads.add jn) = some (.slice As sj.length ci)) (first | exact HK.out _ (by repeat (first | exact Ext.refl _ | assumption | apply Ext.alloc | apply Ext.drew)) | go_keep) (first | (go_at_call 64; refine (rboxes_any (H.out.ext (by repeat (first | exact Ext.refl _ | assumption | apply Ext.alloc | apply Ext.drew))) i _ HSI.out.1 HSI.out.2 _ sj (HJ.out.ext (by repeat (first | exact Ext.refl _ | assumption | apply Ext.alloc | apply Ext.drew)))).mono ?_; rintro e wb ⟨rfl, hxb0⟩; have hxb : Ext w wb := Ext.trans (by repeat (first | exact Ext.refl _ | assumption | apply Ext.alloc | apply Ext.drew)) hxb0; clear hxb0))
        all_goals
          have HX := Lib.hid hxb
          obtain ⟨adm, cm, vsm, ufm, urm, g1, g2, g3, g4, g5, g6, t0, t1, t2, t3, t4, hfm, _⟩ := (H.out.ext HX.out).line HM.out
          have HFM := Lib.hid hfm
          have r1 := (HX.out.cell (p := adr.add k) (by rw [block_of_add]; exact hbr)).trans r0
          cases hbx : (boxesR ls s i sj).1 != 0
          · have HE := Lib.hid (show lineR ls s i k = m.f by
              unfold lineR
              rw [HF.out]
              show (bif (boxesR ls s i (s.getD ((jn : Nat) : Int).toNat [])).1 != 0 then [] else (lineAt ls (jn : Int)).f) = m.f
              rw [Int.toNat_natCast, ← HSJ.out, hbx, HMG.out]
              rfl)
            clear hxb HK d1 f2 e0 r0 q0 q1 q2 q3 q4 d0 hfm g4 g6 t0 t1 t3 t4
            go_wp2_with fail
            go_quiet (fail)
            go_wp2_with fail
            go_ret
            exact ⟨_, rfl, HX.out.drewN _, by rw [HE.out]; exact HFM.out.ext ((Ext.refl _).drewN _)⟩
          · have HE := Lib.hid (show lineR ls s i k = [] by
              unfold lineR
              rw [HF.out]
              show (bif (boxesR ls s i (s.getD ((jn : Nat) : Int).toNat [])).1 != 0 then [] else (lineAt ls (jn : Int)).f) = []
              rw [Int.toNat_natCast, ← HSJ.out, hbx]
              rfl)
            clear hxb HK
            go_wp2_with fail
            go_ret
            exact ⟨_, rfl, HX.out, by rw [HE.out]; exact fml_none _⟩
end Go.Proofs.YtipnbfbakohcaaaDoor

/- The reference's subproof. -/

namespace Go.Proofs.YtipnbfbakohcaaaDoor
open Go.RowKit

theorem inR_at {s : List (List Int)} {d j : Nat} {o z : Int} {sx : List Int} (hs : s.getD j [] = sx) (hd : d ≤ sx.length) (hz : sx[d - 1]? = some z) : inR s d o j = (z == o) := by
  unfold inR
  rw [hs, decide_eq_true hd, List.getD_eq_getElem?_getD (l := sx), hz]
  rfl
theorem inR_out {s : List (List Int)} {d j : Nat} {o : Int} {sx : List Int} (hs : s.getD j [] = sx) (hd : ¬ d ≤ sx.length) : inR s d o j = false := by
  unfold inR
  rw [hs, decide_eq_false hd]
  rfl
theorem lastR_step {s : List (List Int)} {d : Nat} {o : Int} {i j L : Nat} (h : j < i) : lastR s d o i (i - j) L = lastR s d o i (i - (j + 1)) (bif inR s d o j then j else L) := by
  have e : i - j = (i - (j + 1)) + 1 := by omega
  rw [e]
  conv => lhs; unfold lastR
  rw [show i - (i - (j + 1) + 1) = j by omega]
theorem subR_none {ls : List Ln} {s : List (List Int)} {i k : Nat} {rule : Int} (h : fromR ls i k = none) : subproofR ls s i k rule = ([], [], 0) := by unfold subproofR; rw [h]
/-- The cases of subproofR by their tests. -/
theorem subR_rule {ls : List Ln} {s : List (List Int)} {i k : Nat} {rule o : Int} (h : fromR ls i k = some o) (hr : ((lineAt ls o).rule != rule) = true) : subproofR ls s i k rule = ([], [], 0) := by
  unfold subproofR; rw [h]; simp only [hr, cond_true]
theorem subR_in {ls : List Ln} {s : List (List Int)} {i k : Nat} {rule o : Int} {so : List Int} (h : fromR ls i k = some o) (hr : ((lineAt ls o).rule != rule) = false) (hs : s.getD o.toNat [] = so) (hi : inR s so.length o i = true) : subproofR ls s i k rule = ([], [], 0) := by
  unfold subproofR; rw [h]
  simp only [hr, cond_false]
  show (bif inR s (s.getD o.toNat []).length o i then ([], [], 0) else _) = _
  rw [hs, hi]
  rfl
theorem subR_box {ls : List Ln} {s : List (List Int)} {i k : Nat} {rule o : Int} {so : List Int} (h : fromR ls i k = some o) (hr : ((lineAt ls o).rule != rule) = false) (hs : s.getD o.toNat [] = so) (hi : inR s so.length o i = false) (hb : ((boxesR ls s i (so.take (so.length - 1))).1 != 0) = true) :
    subproofR ls s i k rule = ([], [], 0) := by
  unfold subproofR; rw [h]
  simp only [hr, cond_false]
  show (bif inR s (s.getD o.toNat []).length o i then ([], [], 0) else bif (boxesR ls s i ((s.getD o.toNat []).take ((s.getD o.toNat []).length - 1))).1 != 0 then ([], [], 0) else _) = _
  rw [hs, hi, hb]
  rfl
theorem subR_end {ls : List Ln} {s : List (List Int)} {i k : Nat} {rule o : Int} {so sl : List Int} {L : Nat} (h : fromR ls i k = some o) (hr : ((lineAt ls o).rule != rule) = false) (hs : s.getD o.toNat [] = so) (hi : inR s so.length o i = false) (hb : ((boxesR ls s i (so.take (so.length - 1))).1 != 0) = false)
    (hL : lastR s so.length o i (i - o.toNat) o.toNat = L) (hl : s.getD L [] = sl) :
    subproofR ls s i k rule = bif decide (sl.length = so.length) then ((lineAt ls o).f, (ls.getD L Ln.zero).f, (lineAt ls o).agent) else ([], [], 0) := by
  unfold subproofR; rw [h]
  simp only [hr, cond_false]
  show (bif inR s (s.getD o.toNat []).length o i then ([], [], 0) else bif (boxesR ls s i ((s.getD o.toNat []).take ((s.getD o.toNat []).length - 1))).1 != 0 then ([], [], 0) else
    bif decide ((s.getD (lastR s (s.getD o.toNat []).length o i (i - o.toNat) o.toNat) []).length = (s.getD o.toNat []).length) then ((lineAt ls o).f, (ls.getD (lastR s (s.getD o.toNat []).length o i (i - o.toNat) o.toNat) Ln.zero).f, (lineAt ls o).agent) else ([], [], 0)) = _
  subst hs
  subst hL
  subst hl
  rw [hi, hb]
  rfl
theorem RefOk.stack {ls : List Ln} {s : List (List Int)} {i : Nat} {n : Ln} (h : RefOk ls s i n) {j : Nat} (hj : j ≤ i) : ∃ sj, s.getD j [] = sj ∧ s[j]? = some sj ∧ (sj.length ≤ 1000 ∧ ∀ o ∈ sj, 0 ≤ o ∧ o < ls.length) :=
  ⟨_, rfl, (h.st j hj).1, (h.st j hj).2⟩
theorem wrap_pred {d : Nat} (h : 0 < d) (h1 : d ≤ 1000) : wrap64 ((d : Int) - 1) = (d : Int) - 1 ∧ ((d : Int) - 1).toNat = d - 1 := ⟨by unfold wrap64; omega, by omega⟩

theorem lineAt_ofNat (ls : List Ln) (j : Nat) : lineAt ls (j : Int) = ls.getD j Ln.zero := by unfold lineAt; rw [Int.toNat_natCast]
theorem Prf.stack2 {w : World} {b : Nat} {lg : Int} {ls : List Ln} {s : List (List Int)} (h : Prf w b lg ls s) {i j : Nat} {si sj : List Int} (hi : s[i]? = some si) (hj : s[j]? = some sj) :
    ∃ (ad : Addr) (c : Nat) (A : Option Addr) (ci : Nat) (B : Option Addr) (cj : Nat), s.length ≤ c ∧ c ≤ 9223372036854775807 ∧ ad.block < w.heap.size ∧ w.cell? ⟨b, 2, none⟩ = some (.slice (some ad) s.length c) ∧
      w.cell? (ad.add i) = some (.slice A si.length ci) ∧ w.cell? (ad.add j) = some (.slice B sj.length cj) ∧ IntsAt w A ci si ∧ IntsAt w B cj sj := by
  obtain ⟨vl, vs, hb, _, ⟨A, c, rfl, h1, h2, h3⟩⟩ := h.all
  obtain ⟨d0, d1, d2, _⟩ := cells3' hb
  obtain ⟨ad, rfl, hlt, hc⟩ := h3 (by intro e; rw [e] at hi; simp at hi)
  obtain ⟨ui, hui, Ai, ci, rfl, hIi⟩ := hc i si hi
  obtain ⟨uj, huj, Aj, cj, rfl, hIj⟩ := hc j sj hj
  unfold maxLen at h2
  exact ⟨ad, c, Ai, ci, Aj, cj, h1, by omega, hlt, d2, hui, huj, hIi, hIj⟩

set_option maxRecDepth 100000 in
set_option maxHeartbeats 16000000 in
theorem rsub_any {w : World} {b : Nat} {lg : Int} {ls : List Ln} {s : List (List Int)} {i : Nat} {n : Ln} (h : Prf w b lg ls s) (ok : RefOk ls s i n) (k : Nat) (rule : Int) (hrule : rule = 1 ∨ rule = 2) :
    Calls Tryd.prog 73 #[.pointer (some ⟨b, 0, none⟩), .int .i64 i, .int .i64 (k : Int), .int .i64 rule] w fun e w' => ∃ u1 u2, e = .returned (.tuple #[u1, u2, .int .i64 (subproofR ls s i k rule).2.2]) ∧ Ext w w' ∧ Fml w' u1 (subproofR ls s i k rule).1 ∧ Fml w' u2 (subproofR ls s i k rule).2.1 := by
  have hi := ok.n_at
  have hgn : ls.getD i Ln.zero = n := by rw [List.getD_eq_getElem?_getD, hi]; rfl
  obtain ⟨ad, c, vs, uf, ur, hc1, hc2, hlt, d0, d1, d2, q0, q1, q2, q3, q4, _, ⟨Ar, cr, rfl, hir⟩⟩ := h.line hi
  have hil : i < ls.length := (List.getElem?_eq_some_iff.1 hi).1
  have hrc := hir.1
  have hrm := hir.2.1
  unfold maxLen at hrm
  have H := Lib.hid h
  have OK := Lib.hid ok
  have HG := Lib.hid hgn
  have HIR := Lib.hid hir.2.2
  have HRU := Lib.hid hrule
  clear h ok hi hgn hir hrule
  by_cases hk : n.from_.length ≤ k
  · have hk1 : (n.from_.length : Int) ≤ (k : Int) := by omega
    have hk1d : decide ((n.from_.length : Int) ≤ (k : Int)) = true := decide_eq_true hk1
    have HE := Lib.hid (show subproofR ls s i k rule = ([], [], 0) by
      have := HG.out
      exact subR_none (fromR_none' (by rw [this]; exact .inl hk)))
    clear hk
    go_enter Tryd.func73, Tryd.ntmps73
    go_wp2_with fail
    go_quiet (fail)
    go_wp2_with fail
    go_ret3
    rw [HE.out]
    exact ⟨_, _, rfl, (Ext.refl _).drewN _, fml_none _, fml_none _⟩
  · obtain ⟨adr, rfl, hbr, hcr⟩ := HIR.out (by intro e; rw [e] at hk; simp at hk)
    obtain ⟨j, hj⟩ : ∃ j, n.from_[k]? = some j := ⟨_, List.getElem?_eq_getElem (show k < n.from_.length by omega)⟩
    have r0 := hcr k j hj
    have hjD : n.from_.getD k 0 = j := by rw [List.getD_eq_getElem?_getD, hj]; rfl
    have hk0 : (0 : Int) ≤ (k : Int) := by omega
    have hk1 : ¬ (n.from_.length : Int) ≤ (k : Int) := by omega
    have hk1m : ¬ n.from_.length ≤ k := by omega
    have hk1d : decide (n.from_.length ≤ k) = false := decide_eq_false hk1m
    have hk2 : (k : Int) < (n.from_.length : Int) := by omega
    have hkn : k < n.from_.length := by omega
    clear hcr hj hk
    by_cases hj0 : j < 0
    · have hj0d : decide (j < 0) = true := decide_eq_true hj0
      have HE := Lib.hid (show subproofR ls s i k rule = ([], [], 0) by
        have := HG.out
        exact subR_none (fromR_none' (by rw [this, hjD]; exact .inr (.inl hj0))))
      clear hjD
      go_enter Tryd.func73, Tryd.ntmps73
      go_wp2_with fail
      go_quiet (fail)
      go_wp2_with fail
      go_ret3
      rw [HE.out]
      exact ⟨_, _, rfl, (Ext.refl _).drewN _, fml_none _, fml_none _⟩
    · have hj0d : decide (j < 0) = false := decide_eq_false hj0
      by_cases hji : (i : Int) ≤ j
      · have hjid : decide ((i : Int) ≤ j) = true := decide_eq_true hji
        have HE := Lib.hid (show subproofR ls s i k rule = ([], [], 0) by
          have := HG.out
          exact subR_none (fromR_none' (by rw [this, hjD]; exact .inr (.inr hji))))
        clear hjD
        go_enter Tryd.func73, Tryd.ntmps73
        go_wp2_with fail
        go_quiet (fail)
        go_wp2_with fail
        go_ret3
        rw [HE.out]
        exact ⟨_, _, rfl, (Ext.refl _).drewN _, fml_none _, fml_none _⟩
      · have hjid : decide ((i : Int) ≤ j) = false := decide_eq_false hji
        obtain ⟨o, rfl⟩ := Int.eq_ofNat_of_zero_le (show 0 ≤ j by omega)
        have HF := Lib.hid (show fromR ls i k = some (o : Int) by
          have := HG.out
          rw [← hjD, ← this]
          exact fromR_some' (by rw [this]; exact hkn) (by rw [this, hjD]; omega))
        clear hjD
        have hol : o < i := by omega
        have hol2 : ¬ i ≤ o := by omega
        have hol3 : decide (i ≤ o) = false := decide_eq_false hol2
        have hj0e : ¬ ((o : Int) < 0) := by omega
        obtain ⟨m, hm⟩ : ∃ m, ls[o]? = some m := ⟨_, List.getElem?_eq_getElem (show o < ls.length by omega)⟩
        have HM := Lib.hid hm
        have HMG := Lib.hid (show lineAt ls (o : Int) = m by unfold lineAt; rw [Int.toNat_natCast, List.getD_eq_getElem?_getD, hm]; rfl)
        have ho1 : (0 : Int) ≤ (o : Int) := by omega
        have ho2 : (o : Int) < (ls.length : Int) := by omega
        have hb := H.out.blt
        obtain ⟨adm, cm, vsm, ufm, urm, g1, g2, g3, g4, g5, g6, t0, t1, t2, t3, t4, _, _⟩ := H.out.line hm
        obtain ⟨rfl, rfl⟩ : adm = ad ∧ cm = c := by
          have := g5.symm.trans d1
          injection this with this
          injection this with e1 e2 e3
          injection e1 with e1
          exact ⟨e1, e3⟩
        clear g1 g2 g3 g4 g5 g6 hm t0 t2 t3 t4 q0 q1 q2 q3 d2
        cases hru : m.rule != rule
        · obtain ⟨so, hsoD, hso, hso1, hso2⟩ := OK.out.stack (j := o) (by omega)
          obtain ⟨si, hsiD, hsi, hsi1, hsi2⟩ := OK.out.stack (j := i) (Nat.le_refl _)
          have hd : 0 < so.length := by
            have := OK.out.op o (by omega) (by
              have e : ls.getD o Ln.zero = m := by rw [← lineAt_ofNat]; exact HMG.out
              rw [e]
              unfold opensL
              have hmr : m.rule = rule := by simpa using hru
              rcases HRU.out with e2 | e2 <;> rw [hmr, e2] <;> rfl)
            rw [hsoD] at this
            exact this
          obtain ⟨ads, cs, Ao, co, Ai, ci, s1, s2, s3, f2, e0, e1, hIo, hIi⟩ := H.out.stack2 hso hsi
          have hos : o < s.length := (List.getElem?_eq_some_iff.1 hso).1
          have his : i < s.length := (List.getElem?_eq_some_iff.1 hsi).1
          have HSOD := Lib.hid hsoD
          have HSID := Lib.hid hsiD
          have HSO := Lib.hid hIo
          obtain ⟨hw1, hw2⟩ := wrap_pred hd hso1
          have hco := hIo.1
          have hci := hIi.1
          have hcom := hIo.2.1
          unfold maxLen at hcom
          have hd1 : (0 : Int) ≤ (so.length : Int) - 1 := by omega
          have hd2 : ((so.length : Int) - 1) ≤ (so.length : Int) := by omega
          have hd3 : so.length - 1 ≤ co := by omega
          have ho3 : (o : Int) < (s.length : Int) := by omega
          have hi3 : (i : Int) < (s.length : Int) := by omega
          clear hsoD hsiD hIo hso2
          by_cases hle : so.length ≤ si.length
          · have hled : decide (so.length ≤ si.length) = true := decide_eq_true hle
            obtain ⟨z, hz⟩ : ∃ z, si[so.length - 1]? = some z := ⟨_, List.getElem?_eq_getElem (show so.length - 1 < si.length by omega)⟩
            obtain ⟨adz, rfl, hbz, hcz⟩ := hIi.2.2 (fun e => by rw [e] at hz; simp at hz)
            have z0 := hcz _ z hz
            have hd5 : ((so.length : Int) - 1) < (si.length : Int) := by omega
            have HIN := Lib.hid (inR_at (o := (o : Int)) HSID.out hle hz)
            clear hIi hcz hz
            cases hzo : z == (o : Int)
            · have HNO := Lib.hid (HIN.out.trans hzo)
              go_enter Tryd.func73, Tryd.ntmps73
              go_wp2_with fail
              go_quiet (fail)
              have HX0 := Lib.hid ((Ext.refl w).drewN nq)
              have HBX := Lib.hid (And.intro hsi (And.intro hsi1 hsi2))
              go_wp2_with fail
              refine (rboxes_any (H.out.ext HX0.out) i si HBX.out.1 HBX.out.2 _ (so.take (so.length - 1)) (Ints.take_ (HSO.out.ext HX0.out) (Nat.sub_le _ _))).mono ?_
              rintro e w1 ⟨rfl, hx⟩
              have HX1 := Lib.hid (HX0.out.trans hx)
              clear hx
              cases hbx : (boxesR ls s i (so.take (so.length - 1))).1 != 0
              case true =>
                have HE := Lib.hid (subR_box (rule := rule) HF.out (by rw [HMG.out]; exact hru) (by rw [Int.toNat_natCast]; exact HSOD.out) HNO.out hbx)
                go_wp2_with fail
                go_ret3
                rw [HE.out]
                exact ⟨_, _, rfl, HX1.out, fml_none _, fml_none _⟩
              case false =>
                have HBB := Lib.hid hbx
                go_wp2_with fail
                clear f2 e0 e1 hbx
                go_loopw [16, 17] (fun v16 v17 wr => ∃ (L j : Nat), v16 = .int .i64 (L : Int) ∧ v17 = .int .i64 (j : Int) ∧ o ≤ j ∧ j ≤ i ∧ L < i ∧ Hid (lastR s so.length (o : Int) i (i - j) L = lastR s so.length (o : Int) i (i - o) o) ∧ Hid (Ext w wr)) (fun _ v _ => i - (intOf v).toNat)
                case atStart => exact ⟨o, o, rfl, rfl, Nat.le_refl _, by omega, hol, Lib.hid rfl, HX1⟩
                case round =>
                  obtain ⟨L, j, rfl, rfl, hj1, hj2, hL, HLR, HXR⟩ := hrel
                  by_cases hlt2 : j < i
                  · obtain ⟨sx, hsxD, hsx, hsx1, hsx2⟩ := OK.out.stack (j := j) hj2
                    obtain ⟨adx, cx, vlx, Ax, cix, x1, x2, x3, x4, x5, x6, x7, hIx⟩ := (H.out.ext HXR.out).stack hsx
                    have hjs : j < s.length := (List.getElem?_eq_some_iff.1 hsx).1
                    have hj3 : (0 : Int) ≤ (j : Int) := by omega
                    have hj4 : (j : Int) < (i : Int) := by omega
                    have hj5 : (j : Int) < (s.length : Int) := by omega
                    have hcx := hIx.1
                    have HSX := Lib.hid hsxD
                    clear hsxD hsx hsx2 x4 x5
                    by_cases hlx : so.length ≤ sx.length
                    · obtain ⟨z, hz⟩ : ∃ z, sx[so.length - 1]? = some z := ⟨_, List.getElem?_eq_getElem (show so.length - 1 < sx.length by omega)⟩
                      obtain ⟨adz, rfl, hbz, hcz⟩ := hIx.2.2 (fun e => by rw [e] at hz; simp at hz)
                      have z0 := hcz _ z hz
                      have hd5 : ((so.length : Int) - 1) < (sx.length : Int) := by omega
                      have hlxd : decide (so.length ≤ sx.length) = true := decide_eq_true hlx
                      have HIN := Lib.hid (inR_at (o := (o : Int)) HSX.out hlx hz)
                      have HST := Lib.hid (lastR_step (s := s) (d := so.length) (o := (o : Int)) (L := L) hlt2)
                      clear hIx hcz hz
                      cases hzo : z == (o : Int)
                      · have HN := Lib.hid (show lastR s so.length (o : Int) i (i - (j + 1)) L = lastR s so.length (o : Int) i (i - o) o by rw [← HLR.out, HST.out, HIN.out, hzo]; rfl)
                        go_wp2_with fail
                        go_roundw
                        case rel => exact ⟨L, j + 1, rfl, by go_num, by omega, by omega, hL, HN, HXR⟩
                        case measure => simp [intOf]; omega
                      · have HN := Lib.hid (show lastR s so.length (o : Int) i (i - (j + 1)) j = lastR s so.length (o : Int) i (i - o) o by rw [← HLR.out, HST.out, HIN.out, hzo]; rfl)
                        go_wp2_with fail
                        go_roundw
                        case rel => exact ⟨j, j + 1, rfl, by go_num, by omega, by omega, hlt2, HN, HXR⟩
                        case measure => simp [intOf]; omega
                    · have hlxd : decide (so.length ≤ sx.length) = false := decide_eq_false hlx
                      have HIN := Lib.hid (inR_out (o := (o : Int)) HSX.out hlx)
                      have HN := Lib.hid (show lastR s so.length (o : Int) i (i - (j + 1)) L = lastR s so.length (o : Int) i (i - o) o by rw [← HLR.out, lastR_step (s := s) (d := so.length) (o := (o : Int)) (L := L) hlt2, HIN.out]; rfl)
                      clear hIx
                      go_wp2_with fail
                      go_roundw
                      case rel => exact ⟨L, j + 1, rfl, by go_num, by omega, by omega, hL, HN, HXR⟩
                      case measure => simp [intOf]; omega
                  · obtain rfl : i = j := by omega
                    have HL := Lib.hid (show lastR s so.length (o : Int) i (i - o) o = L by rw [← HLR.out, Nat.sub_self]; rfl)
                    obtain ⟨sl, hslD, hsl, hsl1, hsl2⟩ := OK.out.stack (j := L) (by omega)
                    obtain ⟨adx, cx, vlx, Ax, cix, x1, x2, x3, x4, x5, x6, x7, hIx⟩ := (H.out.ext HXR.out).stack hsl
                    have hLs : L < s.length := (List.getElem?_eq_some_iff.1 hsl).1
                    have hl3 : (0 : Int) ≤ (L : Int) := by omega
                    have hl4 : (L : Int) < (s.length : Int) := by omega
                    have hl5 : (L : Int) < (ls.length : Int) := by omega
                    have HE := Lib.hid (subR_end (rule := rule) HF.out (by rw [HMG.out]; exact hru) (by rw [Int.toNat_natCast]; exact HSOD.out) HNO.out HBB.out (by rw [Int.toNat_natCast]; exact HL.out) hslD)
                    clear hIx hslD hsl2 x5
                    by_cases hq : sl.length = so.length
                    · rw [decide_eq_true hq, cond_true, HMG.out] at HE
                      rw [hq] at x7
                      obtain ⟨m2, hm2⟩ : ∃ m2, ls[L]? = some m2 := ⟨_, List.getElem?_eq_getElem (show L < ls.length by omega)⟩
                      rw [show ls.getD L Ln.zero = m2 by rw [List.getD_eq_getElem?_getD, hm2]; rfl] at HE
                      obtain ⟨ad1, c1, vs1, uf1, ur1, g1, g2, g3, g4, g5, g6, t0, t1', t2, t3, t4, hf1, _⟩ := (H.out.ext HXR.out).line HM.out
                      obtain ⟨ad2, c2, vs2, uf2, ur2, k1, k2, k3, k4, k5, k6, v0, v1, v2, v3, v4, hf2, _⟩ := (H.out.ext HXR.out).line hm2
                      obtain ⟨rfl, rfl⟩ : ad2 = ad1 ∧ c2 = c1 := by
                        have := k5.symm.trans g5
                        injection this with this
                        injection this with e1 e2 e3
                        injection e1 with e1
                        exact ⟨e1, e3⟩
                      have HF1 := Lib.hid hf1
                      have HF2 := Lib.hid hf2
                      clear g4 g6 k4 k6 t0 t1' t4 v0 v1 v3 v4 hf1 hf2 hm2 k1 k2 k3 k5
                      go_wp2_with fail
                      go_quiet (fail)
                      go_wp2_with fail
                      go_ret3
                      rw [HE.out]
                      exact ⟨_, _, rfl, HXR.out.drewN _, HF1.out.ext ((Ext.refl _).drewN _), HF2.out.ext ((Ext.refl _).drewN _)⟩
                    · rw [decide_eq_false hq, cond_false] at HE
                      have hq1 : ((sl.length : Int) != (so.length : Int)) = true := by
                        rw [bne_iff_ne]; omega
                      have hq2 : (sl.length != so.length) = true := by simpa using hq
                      clear x4
                      go_wp2_with fail
                      go_ret3
                      rw [HE.out]
                      exact ⟨_, _, rfl, HXR.out, fml_none _, fml_none _⟩
            · have HE := Lib.hid (subR_in (rule := rule) HF.out (by rw [HMG.out]; exact hru) (by rw [Int.toNat_natCast]; exact HSOD.out) (HIN.out.trans hzo))
              go_enter Tryd.func73, Tryd.ntmps73
              go_wp2_with fail
              go_quiet (fail)
              go_wp2_with fail
              go_ret3
              rw [HE.out]
              exact ⟨_, _, rfl, (Ext.refl _).drewN _, fml_none _, fml_none _⟩
          · have hled : decide (so.length ≤ si.length) = false := decide_eq_false hle
            have HNO := Lib.hid (inR_out (o := (o : Int)) HSID.out hle)
            clear hIi
            go_enter Tryd.func73, Tryd.ntmps73
            go_wp2_with fail
            go_quiet (fail)
            have HX0 := Lib.hid ((Ext.refl w).drewN nq)
            have HBX := Lib.hid (And.intro hsi (And.intro hsi1 hsi2))
            go_wp2_with fail
            refine (rboxes_any (H.out.ext HX0.out) i si HBX.out.1 HBX.out.2 _ (so.take (so.length - 1)) (Ints.take_ (HSO.out.ext HX0.out) (Nat.sub_le _ _))).mono ?_
            rintro e w1 ⟨rfl, hx⟩
            have HX1 := Lib.hid (HX0.out.trans hx)
            clear hx
            cases hbx : (boxesR ls s i (so.take (so.length - 1))).1 != 0
            case true =>
              have HE := Lib.hid (subR_box (rule := rule) HF.out (by rw [HMG.out]; exact hru) (by rw [Int.toNat_natCast]; exact HSOD.out) HNO.out hbx)
              go_wp2_with fail
              go_ret3
              rw [HE.out]
              exact ⟨_, _, rfl, HX1.out, fml_none _, fml_none _⟩
            case false =>
              have HBB := Lib.hid hbx
              go_wp2_with fail
              clear f2 e0 e1 hbx
              go_loopw [16, 17] (fun v16 v17 wr => ∃ (L j : Nat), v16 = .int .i64 (L : Int) ∧ v17 = .int .i64 (j : Int) ∧ o ≤ j ∧ j ≤ i ∧ L < i ∧ Hid (lastR s so.length (o : Int) i (i - j) L = lastR s so.length (o : Int) i (i - o) o) ∧ Hid (Ext w wr)) (fun _ v _ => i - (intOf v).toNat)
              case atStart => exact ⟨o, o, rfl, rfl, Nat.le_refl _, by omega, hol, Lib.hid rfl, HX1⟩
              case round =>
                obtain ⟨L, j, rfl, rfl, hj1, hj2, hL, HLR, HXR⟩ := hrel
                by_cases hlt2 : j < i
                · obtain ⟨sx, hsxD, hsx, hsx1, hsx2⟩ := OK.out.stack (j := j) hj2
                  obtain ⟨adx, cx, vlx, Ax, cix, x1, x2, x3, x4, x5, x6, x7, hIx⟩ := (H.out.ext HXR.out).stack hsx
                  have hjs : j < s.length := (List.getElem?_eq_some_iff.1 hsx).1
                  have hj3 : (0 : Int) ≤ (j : Int) := by omega
                  have hj4 : (j : Int) < (i : Int) := by omega
                  have hj5 : (j : Int) < (s.length : Int) := by omega
                  have hcx := hIx.1
                  have HSX := Lib.hid hsxD
                  clear hsxD hsx hsx2 x4 x5
                  by_cases hlx : so.length ≤ sx.length
                  · obtain ⟨z, hz⟩ : ∃ z, sx[so.length - 1]? = some z := ⟨_, List.getElem?_eq_getElem (show so.length - 1 < sx.length by omega)⟩
                    obtain ⟨adz, rfl, hbz, hcz⟩ := hIx.2.2 (fun e => by rw [e] at hz; simp at hz)
                    have z0 := hcz _ z hz
                    have hd5 : ((so.length : Int) - 1) < (sx.length : Int) := by omega
                    have hlxd : decide (so.length ≤ sx.length) = true := decide_eq_true hlx
                    have HIN := Lib.hid (inR_at (o := (o : Int)) HSX.out hlx hz)
                    have HST := Lib.hid (lastR_step (s := s) (d := so.length) (o := (o : Int)) (L := L) hlt2)
                    clear hIx hcz hz
                    cases hzo : z == (o : Int)
                    · have HN := Lib.hid (show lastR s so.length (o : Int) i (i - (j + 1)) L = lastR s so.length (o : Int) i (i - o) o by rw [← HLR.out, HST.out, HIN.out, hzo]; rfl)
                      go_wp2_with fail
                      go_roundw
                      case rel => exact ⟨L, j + 1, rfl, by go_num, by omega, by omega, hL, HN, HXR⟩
                      case measure => simp [intOf]; omega
                    · have HN := Lib.hid (show lastR s so.length (o : Int) i (i - (j + 1)) j = lastR s so.length (o : Int) i (i - o) o by rw [← HLR.out, HST.out, HIN.out, hzo]; rfl)
                      go_wp2_with fail
                      go_roundw
                      case rel => exact ⟨j, j + 1, rfl, by go_num, by omega, by omega, hlt2, HN, HXR⟩
                      case measure => simp [intOf]; omega
                  · have hlxd : decide (so.length ≤ sx.length) = false := decide_eq_false hlx
                    have HIN := Lib.hid (inR_out (o := (o : Int)) HSX.out hlx)
                    have HN := Lib.hid (show lastR s so.length (o : Int) i (i - (j + 1)) L = lastR s so.length (o : Int) i (i - o) o by rw [← HLR.out, lastR_step (s := s) (d := so.length) (o := (o : Int)) (L := L) hlt2, HIN.out]; rfl)
                    clear hIx
                    go_wp2_with fail
                    go_roundw
                    case rel => exact ⟨L, j + 1, rfl, by go_num, by omega, by omega, hL, HN, HXR⟩
                    case measure => simp [intOf]; omega
                · obtain rfl : i = j := by omega
                  have HL := Lib.hid (show lastR s so.length (o : Int) i (i - o) o = L by rw [← HLR.out, Nat.sub_self]; rfl)
                  obtain ⟨sl, hslD, hsl, hsl1, hsl2⟩ := OK.out.stack (j := L) (by omega)
                  obtain ⟨adx, cx, vlx, Ax, cix, x1, x2, x3, x4, x5, x6, x7, hIx⟩ := (H.out.ext HXR.out).stack hsl
                  have hLs : L < s.length := (List.getElem?_eq_some_iff.1 hsl).1
                  have hl3 : (0 : Int) ≤ (L : Int) := by omega
                  have hl4 : (L : Int) < (s.length : Int) := by omega
                  have hl5 : (L : Int) < (ls.length : Int) := by omega
                  have HE := Lib.hid (subR_end (rule := rule) HF.out (by rw [HMG.out]; exact hru) (by rw [Int.toNat_natCast]; exact HSOD.out) HNO.out HBB.out (by rw [Int.toNat_natCast]; exact HL.out) hslD)
                  clear hIx hslD hsl2 x5
                  by_cases hq : sl.length = so.length
                  · rw [decide_eq_true hq, cond_true, HMG.out] at HE
                    rw [hq] at x7
                    obtain ⟨m2, hm2⟩ : ∃ m2, ls[L]? = some m2 := ⟨_, List.getElem?_eq_getElem (show L < ls.length by omega)⟩
                    rw [show ls.getD L Ln.zero = m2 by rw [List.getD_eq_getElem?_getD, hm2]; rfl] at HE
                    obtain ⟨ad1, c1, vs1, uf1, ur1, g1, g2, g3, g4, g5, g6, t0, t1', t2, t3, t4, hf1, _⟩ := (H.out.ext HXR.out).line HM.out
                    obtain ⟨ad2, c2, vs2, uf2, ur2, k1, k2, k3, k4, k5, k6, v0, v1, v2, v3, v4, hf2, _⟩ := (H.out.ext HXR.out).line hm2
                    obtain ⟨rfl, rfl⟩ : ad2 = ad1 ∧ c2 = c1 := by
                      have := k5.symm.trans g5
                      injection this with this
                      injection this with e1 e2 e3
                      injection e1 with e1
                      exact ⟨e1, e3⟩
                    have HF1 := Lib.hid hf1
                    have HF2 := Lib.hid hf2
                    clear g4 g6 k4 k6 t0 t1' t4 v0 v1 v3 v4 hf1 hf2 hm2 k1 k2 k3 k5
                    go_wp2_with fail
                    go_quiet (fail)
                    go_wp2_with fail
                    go_ret3
                    rw [HE.out]
                    exact ⟨_, _, rfl, HXR.out.drewN _, HF1.out.ext ((Ext.refl _).drewN _), HF2.out.ext ((Ext.refl _).drewN _)⟩
                  · rw [decide_eq_false hq, cond_false] at HE
                    have hq1 : ((sl.length : Int) != (so.length : Int)) = true := by
                      rw [bne_iff_ne]; omega
                    have hq2 : (sl.length != so.length) = true := by simpa using hq
                    clear x4
                    go_wp2_with fail
                    go_ret3
                    rw [HE.out]
                    exact ⟨_, _, rfl, HXR.out, fml_none _, fml_none _⟩
        · have HE := Lib.hid (subR_rule (s := s) (rule := rule) HF.out (by rw [HMG.out]; exact hru))
          go_enter Tryd.func73, Tryd.ntmps73
          go_wp2_with fail
          go_quiet (fail)
          go_wp2_with fail
          go_ret3
          rw [HE.out]
          exact ⟨_, _, rfl, (Ext.refl _).drewN _, fml_none _, fml_none _⟩
end Go.Proofs.YtipnbfbakohcaaaDoor
