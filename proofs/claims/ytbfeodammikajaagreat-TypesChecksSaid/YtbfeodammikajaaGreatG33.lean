/- The reference of types: possible. -/
import Derived.Test.YtbfeodammikajaaGreatG32

namespace Go.Proofs.YtbfeodammikajaaGreat
open Go.RowKit

theorem pos_hit2 {lg a : Int} {base : List (List Nd)} {t u i : Nat} (hi : i < base.length) (h : posAt lg base a t u i = false) : possibleN lg (knowsN base) a t u = false := by
  cases e : possibleN lg (knowsN base) a t u
  · rfl
  · rw [pos_places.1 e i hi] at h; cases h
theorem tab_length (base : List (List Nd)) (f : List Nd) : (tabN base f).length = 2 ^ base.length := by unfold tabN; simp
theorem body_len {base : List (List Nd)} {i : Nat} (h : (topN base i).op = 9) : (bodyN base i).length = 2 ^ base.length := by
  unfold bodyN
  rw [h]
  exact tab_length _ _
set_option maxRecDepth 100000 in
set_option maxHeartbeats 32000000 in
theorem rpossible_any (s : Nat) (lg : Int) (base : List (List Nd)) (a : Int) (t u : Nat) (w : World) (hS : SpcAt w s lg base) (hbl : base.length ≤ 12) (hlg : 0 ≤ lg ∧ lg ≤ 6) (hu : u < 2 ^ base.length) :
    Calls Tryz.prog 76 #[.pointer (some ⟨s, 0, none⟩), .int .i64 a, .int .i64 (t : Int), .int .i64 (u : Int)] w fun e w' => e = .returned (.bool (possibleN lg (knowsN base) a t u)) ∧ Ext w w' := by
  obtain ⟨vb, Ao, co, A1, c1, A2, c2, A3, c3, hs, d0, d1, d2, d3, d4, d5, HFM, HNO, HKN, HCO, HLA⟩ := hS.reads
  have D0 := Lib.hid d0
  have D3 := Lib.hid d3
  have HU := Lib.hid hu
  clear hS d0 d1 d3 d4 d5 HFM HCO HLA hu
  go_enter Tryz.func76, Tryz.ntmps76
  go_wp2_with fail
  clear d2
  go_loopw [17] (fun v wr => ∃ k : Nat, v = .int .i64 (k : Int) ∧ k ≤ base.length ∧ Hid (Ext w wr ∧ ∀ j, j < k → posAt lg base a t u j = true)) (fun v _ => base.length - (intOf v).toNat)
  case atStart => exact ⟨0, rfl, Nat.zero_le _, Lib.hid ⟨Ext.refl _, fun j hj => absurd hj (by omega)⟩⟩
  case round =>
    obtain ⟨k, rfl, hk, HREL⟩ := hrel
    have HX := Lib.hid HREL.out.1
    have HALL := Lib.hid HREL.out.2
    clear HREL
    by_cases hlt2 : k < base.length
    · have hk1 : (k : Int) < (base.length : Int) := by omega
      obtain ⟨ad, rfl, hadl, hnd⟩ := HNO.out k hlt2
      obtain ⟨c0, c1, c2, c3, c4, c5⟩ := hnd.keep fun p hp => HX.out.cell (p := p) (by rw [hp, block_of_add]; exact hadl)
      have hblk2 : (ad.add (k * 6)).block < wr.heap.size := by rw [block_of_add]; exact Nat.lt_of_lt_of_le hadl HX.out.size
      have D0' := Lib.hid ((HX.out.cell (p := ⟨s, 0, none⟩) hs).trans D0.out)
      have D3' := Lib.hid ((HX.out.cell (p := ⟨s, 3, none⟩) hs).trans D3.out)
      have hs2 := Nat.lt_of_lt_of_le hs HX.out.size
      clear hnd
      obtain ⟨n, hn⟩ : ∃ n, n = topN base k := ⟨_, rfl⟩
      rw [← hn] at c0 c1 c2 c3 c4 c5
      have HN := Lib.hid hn
      clear hn
      obtain ⟨wq, hwq⟩ : ∃ v, v = wr := ⟨_, rfl⟩
      subst hwq
      by_cases h9 : n.op = 9
      · rw [h9] at c0
        by_cases ha : n.i = a
        · rw [ha] at c1
          have HPE := Lib.hid (show posAt lg base a t u k = condL lg (t.testBit k) ((bodyN base k).getD u false) (u.testBit k) by unfold posAt; rw [← HN.out, h9, ha]; simp)
          have hbl2 : (bodyN base k).length = 2 ^ base.length := body_len (by rw [← HN.out]; exact h9)
          obtain ⟨ak, vk, rfl, hakl, hvk, ⟨Ab, cb, rfl, hbo⟩⟩ := HKN.out k hlt2
          have k0 := (HX.out.cell (p := ak.add k) (by rw [block_of_add]; exact hakl)).trans hvk
          have hakl2 : (ak.add k).block < wq.heap.size := by rw [block_of_add]; exact Nat.lt_of_lt_of_le hakl HX.out.size
          obtain ⟨ab, rfl, habl, hab⟩ := bools_get hbo (k := u) (by rw [hbl2]; exact HU.out)
          have b0 := (HX.out.cell (p := ab.add u) (by rw [block_of_add]; exact habl)).trans hab
          have habl2 : (ab.add u).block < wq.heap.size := by rw [block_of_add]; exact Nat.lt_of_lt_of_le habl HX.out.size
          have hu1 : (u : Int) < ((bodyN base k).length : Int) := by rw [hbl2]; exact Int.ofNat_lt.2 HU.out
          obtain ⟨bl, hbl3⟩ : ∃ m, m = (bodyN base k).length := ⟨_, rfl⟩
          rw [← hbl3] at k0 hu1
          have d0 := D0'.out
          have d3 := D3'.out
          clear h9 ha hvk hab hbo hbl2 hbl3
          have hk64 : k < 64 := by omega
          obtain ⟨qa, hqa⟩ : ∃ b, b = t.testBit k := ⟨_, rfl⟩
          obtain ⟨qb, hqb⟩ : ∃ b, b = (bodyN base k).getD u false := ⟨_, rfl⟩
          obtain ⟨qc, hqc⟩ : ∃ b, b = u.testBit k := ⟨_, rfl⟩
          rw [← hqa, ← hqb, ← hqc] at HPE
          rw [← hqb] at b0
          have HQA := Lib.hid hqa.symm
          have HQC := Lib.hid hqc.symm
          clear hqa hqb hqc
          obtain ⟨l0, l6⟩ := hlg
          have hcl : lg = 0 ∨ lg = 1 ∨ lg = 2 ∨ lg = 3 ∨ lg = 4 ∨ lg = 5 ∨ lg = 6 := by omega
          clear l0 l6
          rcases hcl with rfl | rfl | rfl | rfl | rfl | rfl | rfl
          · skip
            cases qa
            · skip
              go_wp2_with fail
              refine (in_any t k _ _ hk64 HQA.out).mono ?_
              rintro e w2 ⟨rfl, rfl⟩
              go_wp2_with fail
              go_roundw
              case rel => exact ⟨k + 1, by go_num, by omega, Lib.hid ⟨HX.out.trans ((Ext.refl _).alloc _), upto HALL.out (by rw [HPE.out]; first | rfl | (cases qb <;> rfl) | (cases qc <;> rfl) | (cases qb <;> cases qc <;> rfl))⟩⟩
              case measure => simp [intOf]; omega
            · skip
              cases qb
              · skip
                go_wp2_with fail
                refine (in_any t k _ _ hk64 HQA.out).mono ?_
                rintro e w2 ⟨rfl, rfl⟩
                go_wp2_with fail
                go_ret
                exact ⟨by rw [pos_hit2 hlt2 (HPE.out.trans (by first | rfl | (cases qb <;> rfl) | (cases qc <;> rfl))) ] <;> rfl, HX.out.trans ((Ext.refl _).alloc _)⟩
              · skip
                go_wp2_with fail
                refine (in_any t k _ _ hk64 HQA.out).mono ?_
                rintro e w2 ⟨rfl, rfl⟩
                go_wp2_with fail
                go_roundw
                case rel => exact ⟨k + 1, by go_num, by omega, Lib.hid ⟨HX.out.trans ((Ext.refl _).alloc _), upto HALL.out (by rw [HPE.out]; first | rfl | (cases qb <;> rfl) | (cases qc <;> rfl) | (cases qb <;> cases qc <;> rfl))⟩⟩
                case measure => simp [intOf]; omega
          · skip
            cases qa
            · skip
              go_wp2_with fail
              refine (in_any t k _ _ hk64 HQA.out).mono ?_
              rintro e w2 ⟨rfl, rfl⟩
              go_wp2_with fail
              go_roundw
              case rel => exact ⟨k + 1, by go_num, by omega, Lib.hid ⟨HX.out.trans ((Ext.refl _).alloc _), upto HALL.out (by rw [HPE.out]; first | rfl | (cases qb <;> rfl) | (cases qc <;> rfl) | (cases qb <;> cases qc <;> rfl))⟩⟩
              case measure => simp [intOf]; omega
            · skip
              cases qb
              · skip
                go_wp2_with fail
                refine (in_any t k _ _ hk64 HQA.out).mono ?_
                rintro e w2 ⟨rfl, rfl⟩
                go_wp2_with fail
                go_ret
                exact ⟨by rw [pos_hit2 hlt2 (HPE.out.trans (by first | rfl | (cases qb <;> rfl) | (cases qc <;> rfl))) ] <;> rfl, HX.out.trans ((Ext.refl _).alloc _)⟩
              · skip
                go_wp2_with fail
                refine (in_any t k _ _ hk64 HQA.out).mono ?_
                rintro e w2 ⟨rfl, rfl⟩
                go_wp2_with fail
                go_roundw
                case rel => exact ⟨k + 1, by go_num, by omega, Lib.hid ⟨HX.out.trans ((Ext.refl _).alloc _), upto HALL.out (by rw [HPE.out]; first | rfl | (cases qb <;> rfl) | (cases qc <;> rfl) | (cases qb <;> cases qc <;> rfl))⟩⟩
                case measure => simp [intOf]; omega
          · skip
            cases qa
            · skip
              go_wp2_with fail
              refine (in_any t k _ _ hk64 HQA.out).mono ?_
              rintro e w2 ⟨rfl, rfl⟩
              go_wp2_with fail
              go_roundw
              case rel => exact ⟨k + 1, by go_num, by omega, Lib.hid ⟨HX.out.trans ((Ext.refl _).alloc _), upto HALL.out (by rw [HPE.out]; first | rfl | (cases qb <;> rfl) | (cases qc <;> rfl) | (cases qb <;> cases qc <;> rfl))⟩⟩
              case measure => simp [intOf]; omega
            · skip
              cases qb
              · skip
                go_wp2_with fail
                refine (in_any t k _ _ hk64 HQA.out).mono ?_
                rintro e w2 ⟨rfl, rfl⟩
                go_wp2_with fail
                go_ret
                exact ⟨by rw [pos_hit2 hlt2 (HPE.out.trans (by first | rfl | (cases qb <;> rfl) | (cases qc <;> rfl))) ] <;> rfl, HX.out.trans ((Ext.refl _).alloc _)⟩
              · skip
                go_wp2_with fail
                refine (in_any t k _ _ hk64 HQA.out).mono ?_
                rintro e w2 ⟨rfl, rfl⟩
                go_wp2_with fail
                go_roundw
                case rel => exact ⟨k + 1, by go_num, by omega, Lib.hid ⟨HX.out.trans ((Ext.refl _).alloc _), upto HALL.out (by rw [HPE.out]; first | rfl | (cases qb <;> rfl) | (cases qc <;> rfl) | (cases qb <;> cases qc <;> rfl))⟩⟩
                case measure => simp [intOf]; omega
          · skip
            cases qa
            · skip
              go_wp2_with fail
              refine (in_any t k _ _ hk64 HQA.out).mono ?_
              rintro e w2 ⟨rfl, rfl⟩
              go_wp2_with fail
              refine (in_any t k _ _ hk64 HQA.out).mono ?_
              rintro e w2 ⟨rfl, rfl⟩
              go_wp2_with fail
              go_roundw
              case rel => exact ⟨k + 1, by go_num, by omega, Lib.hid ⟨HX.out.trans ((Ext.refl _).alloc _), upto HALL.out (by rw [HPE.out]; first | rfl | (cases qb <;> rfl) | (cases qc <;> rfl) | (cases qb <;> cases qc <;> rfl))⟩⟩
              case measure => simp [intOf]; omega
            · skip
              cases qb
              · skip
                go_wp2_with fail
                refine (in_any t k _ _ hk64 HQA.out).mono ?_
                rintro e w2 ⟨rfl, rfl⟩
                go_wp2_with fail
                go_ret
                exact ⟨by rw [pos_hit2 hlt2 (HPE.out.trans (by first | rfl | (cases qb <;> rfl) | (cases qc <;> rfl))) ] <;> rfl, HX.out.trans ((Ext.refl _).alloc _)⟩
              · skip
                cases qc
                · skip
                  go_wp2_with fail
                  refine (in_any t k _ _ hk64 HQA.out).mono ?_
                  rintro e w2 ⟨rfl, rfl⟩
                  go_wp2_with fail
                  refine (in_any t k _ _ hk64 HQA.out).mono ?_
                  rintro e w2 ⟨rfl, rfl⟩
                  go_wp2_with fail
                  refine (in_any u k _ _ hk64 HQC.out).mono ?_
                  rintro e w2 ⟨rfl, rfl⟩
                  go_wp2_with fail
                  go_ret
                  exact ⟨by rw [pos_hit2 hlt2 (HPE.out.trans (by first | rfl | (cases qb <;> rfl) | (cases qc <;> rfl))) ] <;> rfl, HX.out.trans ((Ext.refl _).alloc _)⟩
                · skip
                  go_wp2_with fail
                  refine (in_any t k _ _ hk64 HQA.out).mono ?_
                  rintro e w2 ⟨rfl, rfl⟩
                  go_wp2_with fail
                  refine (in_any t k _ _ hk64 HQA.out).mono ?_
                  rintro e w2 ⟨rfl, rfl⟩
                  go_wp2_with fail
                  refine (in_any u k _ _ hk64 HQC.out).mono ?_
                  rintro e w2 ⟨rfl, rfl⟩
                  go_wp2_with fail
                  go_roundw
                  case rel => exact ⟨k + 1, by go_num, by omega, Lib.hid ⟨HX.out.trans ((Ext.refl _).alloc _), upto HALL.out (by rw [HPE.out]; first | rfl | (cases qb <;> rfl) | (cases qc <;> rfl) | (cases qb <;> cases qc <;> rfl))⟩⟩
                  case measure => simp [intOf]; omega
          · skip
            cases qa
            · skip
              go_wp2_with fail
              refine (in_any t k _ _ hk64 HQA.out).mono ?_
              rintro e w2 ⟨rfl, rfl⟩
              go_wp2_with fail
              go_roundw
              case rel => exact ⟨k + 1, by go_num, by omega, Lib.hid ⟨HX.out.trans ((Ext.refl _).alloc _), upto HALL.out (by rw [HPE.out]; first | rfl | (cases qb <;> rfl) | (cases qc <;> rfl) | (cases qb <;> cases qc <;> rfl))⟩⟩
              case measure => simp [intOf]; omega
            · skip
              cases qc
              · skip
                go_wp2_with fail
                refine (in_any t k _ _ hk64 HQA.out).mono ?_
                rintro e w2 ⟨rfl, rfl⟩
                go_wp2_with fail
                refine (in_any u k _ _ hk64 HQC.out).mono ?_
                rintro e w2 ⟨rfl, rfl⟩
                go_wp2_with fail
                go_ret
                exact ⟨by rw [pos_hit2 hlt2 (HPE.out.trans (by first | rfl | (cases qb <;> rfl) | (cases qc <;> rfl))) ] <;> rfl, HX.out.trans ((Ext.refl _).alloc _)⟩
              · skip
                go_wp2_with fail
                refine (in_any t k _ _ hk64 HQA.out).mono ?_
                rintro e w2 ⟨rfl, rfl⟩
                go_wp2_with fail
                refine (in_any u k _ _ hk64 HQC.out).mono ?_
                rintro e w2 ⟨rfl, rfl⟩
                go_wp2_with fail
                go_roundw
                case rel => exact ⟨k + 1, by go_num, by omega, Lib.hid ⟨HX.out.trans ((Ext.refl _).alloc _), upto HALL.out (by rw [HPE.out]; first | rfl | (cases qb <;> rfl) | (cases qc <;> rfl) | (cases qb <;> cases qc <;> rfl))⟩⟩
                case measure => simp [intOf]; omega
          · skip
            cases qa
            · skip
              cases qc
              · skip
                go_wp2_with fail
                refine (in_any t k _ _ hk64 HQA.out).mono ?_
                rintro e w2 ⟨rfl, rfl⟩
                go_wp2_with fail
                refine (in_any t k _ _ hk64 HQA.out).mono ?_
                rintro e w2 ⟨rfl, rfl⟩
                go_wp2_with fail
                refine (in_any u k _ _ hk64 HQC.out).mono ?_
                rintro e w2 ⟨rfl, rfl⟩
                go_wp2_with fail
                go_roundw
                case rel => exact ⟨k + 1, by go_num, by omega, Lib.hid ⟨HX.out.trans ((Ext.refl _).alloc _), upto HALL.out (by rw [HPE.out]; first | rfl | (cases qb <;> rfl) | (cases qc <;> rfl) | (cases qb <;> cases qc <;> rfl))⟩⟩
                case measure => simp [intOf]; omega
              · skip
                go_wp2_with fail
                refine (in_any t k _ _ hk64 HQA.out).mono ?_
                rintro e w2 ⟨rfl, rfl⟩
                go_wp2_with fail
                refine (in_any t k _ _ hk64 HQA.out).mono ?_
                rintro e w2 ⟨rfl, rfl⟩
                go_wp2_with fail
                refine (in_any u k _ _ hk64 HQC.out).mono ?_
                rintro e w2 ⟨rfl, rfl⟩
                go_wp2_with fail
                refine (in_any t k _ _ hk64 HQA.out).mono ?_
                rintro e w2 ⟨rfl, rfl⟩
                go_wp2_with fail
                go_ret
                exact ⟨by rw [pos_hit2 hlt2 (HPE.out.trans (by first | rfl | (cases qb <;> rfl) | (cases qc <;> rfl))) ] <;> rfl, HX.out.trans ((Ext.refl _).alloc _)⟩
            · skip
              cases qb
              · skip
                go_wp2_with fail
                refine (in_any t k _ _ hk64 HQA.out).mono ?_
                rintro e w2 ⟨rfl, rfl⟩
                go_wp2_with fail
                go_ret
                exact ⟨by rw [pos_hit2 hlt2 (HPE.out.trans (by first | rfl | (cases qb <;> rfl) | (cases qc <;> rfl))) ] <;> rfl, HX.out.trans ((Ext.refl _).alloc _)⟩
              · skip
                cases qc
                · skip
                  go_wp2_with fail
                  refine (in_any t k _ _ hk64 HQA.out).mono ?_
                  rintro e w2 ⟨rfl, rfl⟩
                  go_wp2_with fail
                  refine (in_any t k _ _ hk64 HQA.out).mono ?_
                  rintro e w2 ⟨rfl, rfl⟩
                  go_wp2_with fail
                  refine (in_any u k _ _ hk64 HQC.out).mono ?_
                  rintro e w2 ⟨rfl, rfl⟩
                  go_wp2_with fail
                  go_ret
                  exact ⟨by rw [pos_hit2 hlt2 (HPE.out.trans (by first | rfl | (cases qb <;> rfl) | (cases qc <;> rfl))) ] <;> rfl, HX.out.trans ((Ext.refl _).alloc _)⟩
                · skip
                  go_wp2_with fail
                  refine (in_any t k _ _ hk64 HQA.out).mono ?_
                  rintro e w2 ⟨rfl, rfl⟩
                  go_wp2_with fail
                  refine (in_any t k _ _ hk64 HQA.out).mono ?_
                  rintro e w2 ⟨rfl, rfl⟩
                  go_wp2_with fail
                  refine (in_any u k _ _ hk64 HQC.out).mono ?_
                  rintro e w2 ⟨rfl, rfl⟩
                  go_wp2_with fail
                  refine (in_any u k _ _ hk64 HQC.out).mono ?_
                  rintro e w2 ⟨rfl, rfl⟩
                  go_wp2_with fail
                  refine (in_any t k _ _ hk64 HQA.out).mono ?_
                  rintro e w2 ⟨rfl, rfl⟩
                  go_wp2_with fail
                  go_roundw
                  case rel => exact ⟨k + 1, by go_num, by omega, Lib.hid ⟨HX.out.trans ((Ext.refl _).alloc _), upto HALL.out (by rw [HPE.out]; first | rfl | (cases qb <;> rfl) | (cases qc <;> rfl) | (cases qb <;> cases qc <;> rfl))⟩⟩
                  case measure => simp [intOf]; omega
          · skip
            cases qa
            · skip
              cases qc
              · skip
                go_wp2_with fail
                refine (in_any t k _ _ hk64 HQA.out).mono ?_
                rintro e w2 ⟨rfl, rfl⟩
                go_wp2_with fail
                refine (in_any u k _ _ hk64 HQC.out).mono ?_
                rintro e w2 ⟨rfl, rfl⟩
                go_wp2_with fail
                go_roundw
                case rel => exact ⟨k + 1, by go_num, by omega, Lib.hid ⟨HX.out.trans ((Ext.refl _).alloc _), upto HALL.out (by rw [HPE.out]; first | rfl | (cases qb <;> rfl) | (cases qc <;> rfl) | (cases qb <;> cases qc <;> rfl))⟩⟩
                case measure => simp [intOf]; omega
              · skip
                go_wp2_with fail
                refine (in_any t k _ _ hk64 HQA.out).mono ?_
                rintro e w2 ⟨rfl, rfl⟩
                go_wp2_with fail
                refine (in_any u k _ _ hk64 HQC.out).mono ?_
                rintro e w2 ⟨rfl, rfl⟩
                go_wp2_with fail
                refine (in_any t k _ _ hk64 HQA.out).mono ?_
                rintro e w2 ⟨rfl, rfl⟩
                go_wp2_with fail
                go_ret
                exact ⟨by rw [pos_hit2 hlt2 (HPE.out.trans (by first | rfl | (cases qb <;> rfl) | (cases qc <;> rfl))) ] <;> rfl, HX.out.trans ((Ext.refl _).alloc _)⟩
            · skip
              cases qc
              · skip
                go_wp2_with fail
                refine (in_any t k _ _ hk64 HQA.out).mono ?_
                rintro e w2 ⟨rfl, rfl⟩
                go_wp2_with fail
                refine (in_any u k _ _ hk64 HQC.out).mono ?_
                rintro e w2 ⟨rfl, rfl⟩
                go_wp2_with fail
                go_ret
                exact ⟨by rw [pos_hit2 hlt2 (HPE.out.trans (by first | rfl | (cases qb <;> rfl) | (cases qc <;> rfl))) ] <;> rfl, HX.out.trans ((Ext.refl _).alloc _)⟩
              · skip
                go_wp2_with fail
                refine (in_any t k _ _ hk64 HQA.out).mono ?_
                rintro e w2 ⟨rfl, rfl⟩
                go_wp2_with fail
                refine (in_any u k _ _ hk64 HQC.out).mono ?_
                rintro e w2 ⟨rfl, rfl⟩
                go_wp2_with fail
                refine (in_any u k _ _ hk64 HQC.out).mono ?_
                rintro e w2 ⟨rfl, rfl⟩
                go_wp2_with fail
                refine (in_any t k _ _ hk64 HQA.out).mono ?_
                rintro e w2 ⟨rfl, rfl⟩
                go_wp2_with fail
                go_roundw
                case rel => exact ⟨k + 1, by go_num, by omega, Lib.hid ⟨HX.out.trans ((Ext.refl _).alloc _), upto HALL.out (by rw [HPE.out]; first | rfl | (cases qb <;> rfl) | (cases qc <;> rfl) | (cases qb <;> cases qc <;> rfl))⟩⟩
                case measure => simp [intOf]; omega
        · have ta : (n.i == a) = false := by simpa using ha
          have HP := Lib.hid (upto HALL.out (show posAt lg base a t u k = true by unfold posAt; rw [← HN.out, ta, Bool.and_false]; rfl))
          clear h9 ha HNO HKN
          go_wp2_with fail
          go_roundw
          case rel => exact ⟨k + 1, by go_num, by omega, Lib.hid ⟨HX.out.trans ((Ext.refl _).alloc _), HP.out⟩⟩
          case measure => simp [intOf]; omega
      · have t9 : (n.op == 9) = false := by simpa using h9
        have HP := Lib.hid (upto HALL.out (show posAt lg base a t u k = true by unfold posAt; rw [← HN.out, t9, Bool.false_and]; rfl))
        clear h9
        go_wp2_with fail
        go_roundw
        case rel => exact ⟨k + 1, by go_num, by omega, Lib.hid ⟨HX.out.trans ((Ext.refl _).alloc _), HP.out⟩⟩
        case measure => simp [intOf]; omega
    · obtain rfl : base.length = k := by omega
      have HE := Lib.hid (pos_places.2 HALL.out)
      go_wp2_with fail
      go_ret
      exact ⟨by rw [HE.out] <;> rfl, HX.out⟩
end Go.Proofs.YtbfeodammikajaaGreat
