/- A region that draws its order and whose last operation writes what the others read: one condition on the world serves up to that operation. -/
import Derived.Test.YtbfeodammikajaaGreatG01
import Derived.OrdersHeld
import Derived.RegionTactic
import Derived.Test.YtbfeodammikajaaGreatG13
import Derived.Test.YtbfeodammikajaaGreatG12
import Derived.Test.YtbfeodammikajaaGreatG09
import Derived.Test.YtbfeodammikajaaGreatG11
import Derived.Deep.MidRow
import Derived.Test.YtbfeodammikajaaGreatG08
import Derived.Deep.RegionHeld

namespace Go.Proofs.YtbfeodammikajaaGreat
open Go.RowKit

section
variable {P : Program} {ops : Array Oper} {Q : Exit → Act → World → Prop} {md : Region.Mode} {S : World → Prop} {z : Nat}

/-- Whatever order is picked; S holds behind each operation but number z. -/
def OrdU (P : Program) (md : Region.Mode) (ops : Array Oper) (Q : Exit → Act → World → Prop) (S : World → Prop) (z : Nat) : Nat → Array Bool → Act → World → Prop
  | 0, up, a, w => Region.ready md ops up = [] ∧ Q .normal a w
  | n + 1, up, a, w => (Region.ready md ops up = [] → Q .normal a w) ∧ ∀ i ∈ Region.ready md ops up, wpOp P ops Q i (fun b v => (i ≠ z → S v) ∧ OrdU P md ops Q S z n (up.setIfInBounds i true) b v) a w
theorem OrdU.any : ∀ (n : Nat) (up : Array Bool) (a : Act) (w : World), OrdU P md ops Q S z n up a w → wpAny P md ops Q n up a w
  | 0, _, _, _, h => h
  | n + 1, _, _, _, h => ⟨h.1, fun i hi => wpOp_mono (fun b v g => OrdU.any n _ b v g.2) (h.2 i hi)⟩
/-- Number z waits for number i. -/
def WaitsFor (md : Region.Mode) (ops : Array Oper) (z i : Nat) : Prop := ∀ o, ops[z]? = some o → ∃ e ∈ o.after, Region.binds md e = true ∧ e.on = i
theorem up_both {up : Array Bool} {i : Nat} (h0 : up.getD i true = false) (h1 : up.getD i false = true) : False := by
  rcases Nat.lt_or_ge i up.size with h' | h'
  · simp [h'] at h0 h1; rw [h0] at h1; cases h1
  · simp [Array.getElem?_eq_none h'] at h1
theorem OrdU.first {i : Nat} {oi : Oper} {v : Value} (hi : ops[i]? = some oi) (hsel : ∀ (j : Nat) (o : Oper) cs b, ops[j]? = some o → o.op ≠ .select cs b) (hQ : ∀ c a w, Q (.panic c) (a.put oi.dst v) w → Q (.panic c) a w)
    (hz : WaitsFor md ops z i) : ∀ (n : Nat) (up : Array Bool) (a : Act) (w : World),
      (∀ j oj, ops[j]? = some oj → j ≠ i → up.getD j true = false → (∀ e ∈ oj.after, Region.binds md e = true → e.on ≠ i) → oi.apart ops oj = true) →
      i ∈ Region.ready md ops up → YieldsIf P ops S oi v a → S w → OrdU P md ops Q S z n (up.setIfInBounds i true) (a.put oi.dst v) w → OrdU P md ops Q S z (n + 1) up a w
  | 0, up, a, w, _, hr, hy, hS, H => ⟨fun h => (by rw [h] at hr; cases hr), fun j hj => by
      by_cases e : j = i
      · subst e; exact hy.wpOp hi hS ⟨fun _ => hS, H⟩
      · have h2 := ready_mono hj e
        rw [H.1] at h2
        cases h2⟩
  | n + 1, up, a, w, hfree, hr, hy, hS, H => ⟨fun h => (by rw [h] at hr; cases hr), fun j hj => by
      by_cases e : j = i
      · subst e; exact hy.wpOp hi hS ⟨fun _ => hS, H⟩
      · obtain ⟨hjun, oj, hoj, hall⟩ := mem_ready.1 hj
        have hiun := (mem_ready.1 hr).1
        have hnot : ∀ e ∈ oj.after, Region.binds md e = true → e.on ≠ i := fun d hd hb hq => up_both hiun (by have := hall d hd hb; rwa [hq] at this)
        have hjz : j ≠ z := fun hjz => by
          subst hjz
          obtain ⟨d, hd, hb, hq⟩ := hz oj hoj
          exact hnot d hd hb hq
        have h2 := wpOp_putIf hoj (hfree j oj hoj e hjun hnot) (fun cs b => hsel i oi cs b hi) (fun cs b => hsel j oj cs b hoj) hQ hy (H.2 j (ready_mono hj e))
        refine wpOp_mono (fun b v h3 => ⟨h3.2.1, OrdU.first hi hsel hQ hz n (up.setIfInBounds j true) b v (fun k ok hk hki hun hno => hfree k ok hk hki ?_ hno) (ready_mono hr (Ne.symm e)) h3.1 (h3.2.1 hjz) ?_⟩) h2
        · by_cases hjk : j = k
          · subst hjk; exact hjun
          · rw [getD_set_ne true hjk] at hun; exact hun
        · rw [Array.setIfInBounds_comm _ _ e]
          exact h3.2.2⟩
def waitsB (md : Region.Mode) (ops : Array Oper) (z i : Nat) : Bool := match ops[z]? with | none => true | some o => o.after.any fun e => Region.binds md e && e.on == i
theorem waits_of {i : Nat} (h : waitsB md ops z i = true) : WaitsFor md ops z i := by
  intro o ho
  unfold waitsB at h
  rw [ho] at h
  simp only [Array.any_eq_true'] at h
  obtain ⟨e, he, hb⟩ := h
  rw [Bool.and_eq_true] at hb
  exact ⟨e, he, hb.1, eq_of_beq hb.2⟩
theorem ordU_take {i : Nat} {oi : Oper} {v : Value} {n : Nat} {up : Array Bool} {a : Act} {w : World} (hi : ops[i]? = some oi) (hs : Region.noSelect ops = true) (hf : Region.free md ops up i = true) (hr : (Region.ready md ops up).contains i = true)
    (hz : waitsB md ops z i = true) (hQ : ∀ c a w, Q (.panic c) (a.put oi.dst v) w → Q (.panic c) a w) (hy : YieldsIf P ops S oi v a) (hS : S w)
    (h : OrdU P md ops Q S z n (up.setIfInBounds i true) (a.put oi.dst v) w) : OrdU P md ops Q S z (n + 1) up a w :=
  OrdU.first hi (Region.noSelect_spec hs) hQ (waits_of hz) n up a w (Region.free_spec hi hf) (by simpa using hr) hy hS h
def AllU (P : Program) (md : Region.Mode) (ops : Array Oper) (Q : Exit → Act → World → Prop) (S : World → Prop) (z n : Nat) (up : Array Bool) (a : Act) (w : World) (rs : List Nat) : Prop :=
  ∀ i ∈ rs, wpOp P ops Q i (fun b v => (i ≠ z → S v) ∧ OrdU P md ops Q S z n (up.setIfInBounds i true) b v) a w
theorem ordU_ready {rs : List Nat} {n : Nat} {up : Array Bool} {a : Act} {w : World} (hr : Region.ready md ops up = rs) (hne : rs ≠ []) (h : AllU P md ops Q S z n up a w rs) : OrdU P md ops Q S z (n + 1) up a w :=
  ⟨fun h0 => absurd (hr ▸ h0) hne, hr ▸ h⟩
theorem AllU.nil {n : Nat} {up : Array Bool} {a : Act} {w : World} : AllU P md ops Q S z n up a w [] := fun _ h => by cases h
theorem AllU.cons {n : Nat} {up : Array Bool} {a : Act} {w : World} {i : Nat} {o : Oper} {rs : List Nat} (ho : ops[i]? = some o)
    (h : ∀ K : Act → World → Prop, Hid (∀ a w, S w → (S w → OrdU P md ops Q S z n (up.setIfInBounds i true) a w) → K a w) → if Region.wanted o (yielded ops a.tmps) = true then Oper.wp P o a w K Q else K (a.put o.dst undef) w)
    (hs : AllU P md ops Q S z n up a w rs) : AllU P md ops Q S z n up a w (i :: rs) := fun j hj => by
  rcases List.mem_cons.1 hj with rfl | hj
  · exact wpOp_step ho (fun K hK => h K (Lib.hid (fun a w hS hW => hK a w ⟨fun _ => hS, hW hS⟩)))
  · exact hs j hj
/-- The last operation: behind it nothing is asked of the world. -/
theorem ordU_last {n : Nat} {up : Array Bool} {a : Act} {w : World} {o : Oper} (hr : Region.ready md ops up = [z]) (ho : ops[z]? = some o)
    (h : ∀ K : Act → World → Prop, Hid (∀ a w, OrdU P md ops Q S z n (up.setIfInBounds z true) a w → K a w) → if Region.wanted o (yielded ops a.tmps) = true then Oper.wp P o a w K Q else K (a.put o.dst undef) w) : OrdU P md ops Q S z (n + 1) up a w :=
  ⟨fun h0 => (by rw [hr] at h0; cases h0), fun j hj => by
    rw [hr, List.mem_singleton] at hj
    subst hj
    exact wpOp_step ho (fun K hK => h K (Lib.hid (fun a w hW => hK a w ⟨fun hne => absurd rfl hne, hW⟩)))⟩
theorem ordU_done {up : Array Bool} {a : Act} {w : World} (hr : Region.ready md ops up = []) (h : Q .normal a w) : ∀ n, OrdU P md ops Q S z n up a w
  | 0 => ⟨hr, h⟩
  | _ + 1 => ⟨fun _ => h, by rw [hr]; simp⟩
theorem ordU_region {id : Nat} {a : Act} {w : World} (z : Nat) (S : World → Prop) (hm : P.follows .mixedOrders = true) (hS : S w.drew) (h : S w.drew → OrdU P .any ops Q S z ops.size (Array.replicate ops.size false) a w.drew) : (Code.region id ops true).wp P Q a w :=
  wp_region_any hm (OrdU.any _ _ _ _ (h hS))
end
end Go.Proofs.YtbfeodammikajaaGreat

/- types' Base: the walk. -/

namespace Go.Proofs.YtbfeodammikajaaGreat
open Go.RowKit

theorem not_all : (List.range 512).all (fun m => (bits .andNot .i64 (m : Int) 11 != 0) == ((m &&& 500) != 0)) = true := by kernel_rfl
theorem lang_test (f : List Nd) : (bits .andNot .i64 (fragsN f : Nat) 11 != 0) = langBad f := by
  have h := List.all_eq_true.1 not_all (fragsN f) (List.mem_range.2 (fragMask_lt _))
  exact eq_of_beq h
set_option maxRecDepth 100000 in
set_option maxHeartbeats 4000000 in
theorem base_any (v : Value) (f : List Nd) (w : World) (h : Fml w v f) :
    Calls Tryz.prog 23 #[v] w (BaseRes w (baseN f)) := by
  have H := Lib.hid h
  obtain ⟨A, c, rfl, _⟩ := fml_slice h
  clear h
  by_cases hc : check f ≠ 0
  · have hb1 : (check f != 0) = true := by simpa using hc
    have HB := Lib.hid (show baseN f = ([], check f) by unfold baseN; rw [hb1]; rfl)
    clear hc
    go_enter Tryz.func23, Tryz.ntmps23
    go_wp2_with fail
    refine (check_any _ f _ H.out.1).mono ?_
    rintro e w1 ⟨rfl, hb⟩
    have HX := Lib.hid hb
    clear hb
    go_wp2_with fail
    go_ret2
    exact ⟨.slice none 0 0, by rw [HB.out] <;> rfl, HX.out, by rw [HB.out]; exact (FRow.nil _).before HX.out⟩
  have hc : check f = 0 := Classical.not_not.1 hc
  have hb1 : (check f != 0) = false := by simpa using hc
  have hcc : ((check f == 0)) = true := by simpa using hc
  have HC := Lib.hid hc
  clear hc
  have hlt := lang_test f
  cases hl : langBad f
  case true =>
    rw [hl] at hlt
    have HB := Lib.hid (show baseN f = ([], 10) by unfold baseN; rw [hb1, hl]; rfl)
    clear hl
    go_enter Tryz.func23, Tryz.ntmps23
    go_wp2_with fail
    refine (check_any _ f _ H.out.1).mono ?_
    rintro e w1 ⟨rfl, hb⟩
    have HX := Lib.hid hb
    clear hb
    go_wp2_with fail
    refine (frags_any _ f _ (H.out.ext HX.out)).mono ?_
    rintro e w2 ⟨rfl, hb⟩
    have HX2 := Lib.hid (HX.out.trans hb)
    clear hb
    go_wp2_with fail
    go_ret2
    exact ⟨.slice none 0 0, by rw [HB.out] <;> rfl, HX2.out, by rw [HB.out]; exact (FRow.nil _).before HX2.out⟩
  case false =>
    rw [hl] at hlt
    have HL := Lib.hid hl
    clear hl
    by_cases hz : (expandN f).length = 0
    · have HB := Lib.hid (show baseN f = ([], 8) by unfold baseN; rw [hb1, HL.out, decide_eq_true hz]; rfl)
      have hzb : (((expandN f).length : Int) == 0) = true := by rw [hz]; rfl
      clear hz
      go_enter Tryz.func23, Tryz.ntmps23
      go_wp2_with fail
      refine (check_any _ f _ H.out.1).mono ?_
      rintro e w1 ⟨rfl, hb⟩
      have HX := Lib.hid hb
      clear hb
      go_wp2_with fail
      refine (frags_any _ f _ (H.out.ext HX.out)).mono ?_
      rintro e w2 ⟨rfl, hb⟩
      have HX2 := Lib.hid (HX.out.trans hb)
      clear hb
      go_wp2_with fail
      refine (expand_any _ f _ (H.out.ext HX2.out) HC.out (lang_ops HC.out HL.out)).mono ?_
      rintro e w3 ⟨u, rfl, hf, hb⟩
      have HF := Lib.hid hf
      have HX3 := Lib.hid (HX2.out.trans hb)
      obtain ⟨A3, c3, rfl, _⟩ := fml_slice hf
      clear hb hf
      go_wp2_with fail
      go_ret2
      exact ⟨.slice none 0 0, by rw [HB.out] <;> rfl, HX3.out, by rw [HB.out]; exact (FRow.nil _).before HX3.out⟩
    · have hzb : (((expandN f).length : Int) == 0) = false := by rw [beq_eq_false_iff_ne]; omega
      have HB := Lib.hid (show baseN f = baseOfN (expandN f) by unfold baseN; rw [hb1, HL.out, decide_eq_false hz]; rfl)
      have HT := Lib.hid (expand_tree HC.out HL.out hz)
      clear hz
      go_enter Tryz.func23, Tryz.ntmps23
      go_wp2_with fail
      refine (check_any _ f _ H.out.1).mono ?_
      rintro e w1 ⟨rfl, hb⟩
      have HX := Lib.hid hb
      clear hb
      go_wp2_with fail
      refine (frags_any _ f _ (H.out.ext HX.out)).mono ?_
      rintro e w2 ⟨rfl, hb⟩
      have HX2 := Lib.hid (HX.out.trans hb)
      clear hb
      go_wp2_with fail
      refine (expand_any _ f _ (H.out.ext HX2.out) HC.out (lang_ops HC.out HL.out)).mono ?_
      rintro e w3 ⟨u, rfl, hf, hb⟩
      have HF := Lib.hid hf
      have HX3 := Lib.hid (HX2.out.trans hb)
      obtain ⟨A3, c3, rfl, _⟩ := fml_slice hf
      clear hb hf
      go_wp2_with fail
      refine (baseOf_any _ _ _ HT.out.1 (by rw [← HT.out.2]; exact HF.out)).mono ?_
      rintro e w4 ⟨u4, rfl, hx4, hr4⟩
      have HX4 := Lib.hid (HX3.out.trans hx4)
      have HR4 := Lib.hid (hr4.before HX3.out)
      rw [← HT.out.2, ← HB.out] at HR4 ⊢
      clear hx4 hr4
      go_wp2_with fail
      go_ret2
      exact ⟨_, rfl, HX4.out, HR4.out⟩
end Go.Proofs.YtbfeodammikajaaGreat

/- Slices of bools; the engine of types in memory. -/

namespace Go.Proofs.YtbfeodammikajaaGreat
open Go.RowKit

def BoolsAt (w : World) (A : Option Addr) (c : Nat) (l : List Bool) : Prop :=
  l.length ≤ c ∧ c ≤ maxLen ∧ (l ≠ [] → ∃ ad, A = some ad ∧ ad.block < w.heap.size ∧ ∀ k z, l[k]? = some z → w.cell? (ad.add k) = some (.bool z))
def Bools (w : World) (v : Value) (l : List Bool) : Prop := ∃ A c, v = .slice A l.length c ∧ BoolsAt w A c l
section
variable {w w' : World} {v : Value}
theorem BoolsAt.ext {A : Option Addr} {c : Nat} {l : List Bool} (h : BoolsAt w A c l) (he : Ext w w') : BoolsAt w' A c l :=
  ⟨h.1, h.2.1, fun hn => by
    obtain ⟨ad, e, hlt, hc⟩ := h.2.2 hn
    exact ⟨ad, e, Nat.lt_of_lt_of_le hlt he.size, fun k z hk => (he.cell (by rw [block_of_add]; exact hlt)).trans (hc k z hk)⟩⟩
theorem Bools.ext {l : List Bool} (h : Bools w v l) (he : Ext w w') : Bools w' v l := by
  obtain ⟨A, c, e, h⟩ := h
  exact ⟨A, c, e, h.ext he⟩
end
/-- A row of bools that the call has made. -/
def BRow (base : Nat) (w : World) (g : Nat) (l : List Bool) : Prop := w.ownsRow base 4 1 (.slice (some ⟨g, 0, none⟩) l.length l.length) l.length (l.map Value.bool)
section
variable {base : Nat} {w w' : World} {g : Nat} {l : List Bool}
theorem BRow.cell (h : BRow base w g l) {j : Nat} {b : Bool} (hj : l[j]? = some b) : w.cell? ⟨g, j, none⟩ = some (.bool b) := by
  have hl := (List.getElem?_eq_some_iff.1 hj).1
  rw [World.ownsRow.cellAt h j (by omega), List.getElem?_map, hj]
  rfl
theorem BRow.frozen (h : BRow base w g l) (j : Nat) : w.frozen? ⟨g, j, none⟩ = false := World.ownsRow.frozenAt h j
theorem BRow.lt (h : BRow base w g l) : base ≤ g ∧ g < w.heap.size := World.ownsRow.lt h g rfl
theorem BRow.set (h : BRow base w g l) (j : Nat) (b : Bool) : BRow base (w.setCell ⟨g, j, none⟩ (.bool b)) g (l.set j b) ∧ w.grownBy (w.setCell ⟨g, j, none⟩ (.bool b)) (some g) := by
  obtain ⟨h1, h2⟩ := World.ownsRow.stored h j (.bool b)
  refine ⟨?_, h2⟩
  unfold BRow
  rw [List.length_set, ← List.map_set] at *
  exact h1
theorem BRow.ext (h : BRow base w g l) (he : Ext w w') : BRow base w' g l := row_ext h he
theorem BRow.base_ {b' : Nat} (h : BRow base w g l) (hb : b' ≤ base) : BRow b' w g l := row_base h hb
theorem BRow.bools (h : BRow base w g l) : Bools w (.slice (some ⟨g, 0, none⟩) l.length l.length) l := by
  refine ⟨_, _, rfl, Nat.le_refl _, ?_, fun hn => ⟨_, rfl, h.lt.2, fun k z hk => ?_⟩⟩
  · have h2 := h.2
    rcases h2 with ⟨e, _⟩ | ⟨g', cap, cur, e, _, _, _, hm, _⟩
    · cases e
    · injection e with _ _ e
      rw [e]; exact hm
  · rw [addr_zero]
    exact h.cell hk
end
theorem made_false (n : Nat) : (madeCells (Value.cells (.bool false)) (n * 1)).toList = (List.replicate n false).map Value.bool := by
  simp only [madeCells, Value.cells, Nat.mul_one, Array.toList_map, Array.toList_range, List.map_replicate]
  refine List.ext_getElem (by simp) fun i h1 h2 => ?_
  simp [Nat.mod_one]
end Go.Proofs.YtbfeodammikajaaGreat

/- The engine of types in memory: what its methods read. -/

namespace Go.Proofs.YtbfeodammikajaaGreat
open Go.RowKit

/-- A base formula of knowledge, at an address. -/
def KnAt (w : World) (a : Addr) (k : Kn) : Prop :=
  ∃ vh, w.cell? a = some (.int .i64 k.agent) ∧ w.cell? ⟨a.block, a.off + 1, none⟩ = some (.int .i64 (k.place : Int)) ∧ w.cell? ⟨a.block, a.off + 2, none⟩ = some vh ∧ Bools w vh k.holds
def KnsAt (w : World) (A : Option Addr) (c : Nat) (l : List Kn) : Prop :=
  l.length ≤ c ∧ c ≤ maxLen ∧ (l ≠ [] → ∃ ad, A = some ad ∧ ad.block < w.heap.size ∧ ∀ k n, l[k]? = some n → KnAt w (ad.add (k * 3)) n)
def Kns (w : World) (v : Value) (l : List Kn) : Prop := ∃ A c, v = .slice A l.length c ∧ KnsAt w A c l
def CmAt (w : World) (a : Addr) (k : Cm) : Prop :=
  ∃ vx vy, w.cell? a = some (.int .i64 (k.place : Int)) ∧ w.cell? ⟨a.block, a.off + 1, none⟩ = some (.int .i64 k.group) ∧ w.cell? ⟨a.block, a.off + 2, none⟩ = some vx ∧ w.cell? ⟨a.block, a.off + 3, none⟩ = some vy ∧
    w.cell? ⟨a.block, a.off + 4, none⟩ = some (.int .u64 (k.parts : Int)) ∧ Bools w vx k.x ∧ Bools w vy k.y
def CmsAt (w : World) (A : Option Addr) (c : Nat) (l : List Cm) : Prop :=
  l.length ≤ c ∧ c ≤ maxLen ∧ (l ≠ [] → ∃ ad, A = some ad ∧ ad.block < w.heap.size ∧ ∀ k n, l[k]? = some n → CmAt w (ad.add (k * 5)) n)
def Cms (w : World) (v : Value) (l : List Cm) : Prop := ∃ A c, v = .slice A l.length c ∧ CmsAt w A c l
section
variable {w w' : World} {v : Value} {a : Addr}
theorem KnAt.ext {k : Kn} (h : KnAt w a k) (he : Ext w w') (ha : a.block < w.heap.size) : KnAt w' a k := by
  obtain ⟨vh, h0, h1, h2, h3⟩ := h
  have hk : ∀ o s, w'.cell? ⟨a.block, o, s⟩ = w.cell? ⟨a.block, o, s⟩ := fun o s => he.cell (p := ⟨a.block, o, s⟩) ha
  exact ⟨vh, (hk _ _).trans h0, (hk _ _).trans h1, (hk _ _).trans h2, h3.ext he⟩
theorem CmAt.ext {k : Cm} (h : CmAt w a k) (he : Ext w w') (ha : a.block < w.heap.size) : CmAt w' a k := by
  obtain ⟨vx, vy, h0, h1, h2, h3, h4, h5, h6⟩ := h
  have hk : ∀ o s, w'.cell? ⟨a.block, o, s⟩ = w.cell? ⟨a.block, o, s⟩ := fun o s => he.cell (p := ⟨a.block, o, s⟩) ha
  exact ⟨vx, vy, (hk _ _).trans h0, (hk _ _).trans h1, (hk _ _).trans h2, (hk _ _).trans h3, (hk _ _).trans h4, h5.ext he, h6.ext he⟩
theorem KnsAt.ext {A : Option Addr} {c : Nat} {l : List Kn} (h : KnsAt w A c l) (he : Ext w w') : KnsAt w' A c l :=
  ⟨h.1, h.2.1, fun hn => by
    obtain ⟨ad, e, hlt, hc⟩ := h.2.2 hn
    exact ⟨ad, e, Nat.lt_of_lt_of_le hlt he.size, fun k n hk => (hc k n hk).ext he (by rw [block_of_add]; exact hlt)⟩⟩
theorem CmsAt.ext {A : Option Addr} {c : Nat} {l : List Cm} (h : CmsAt w A c l) (he : Ext w w') : CmsAt w' A c l :=
  ⟨h.1, h.2.1, fun hn => by
    obtain ⟨ad, e, hlt, hc⟩ := h.2.2 hn
    exact ⟨ad, e, Nat.lt_of_lt_of_le hlt he.size, fun k n hk => (hc k n hk).ext he (by rw [block_of_add]; exact hlt)⟩⟩
theorem Kns.ext {l : List Kn} (h : Kns w v l) (he : Ext w w') : Kns w' v l := by
  obtain ⟨A, c, e, h⟩ := h
  exact ⟨A, c, e, h.ext he⟩
theorem Cms.ext {l : List Cm} (h : Cms w v l) (he : Ext w w') : Cms w' v l := by
  obtain ⟨A, c, e, h⟩ := h
  exact ⟨A, c, e, h.ext he⟩
end
/-- The engine behind a pointer to block b. -/
structure Eng (w : World) (b : Nat) (lg : Int) (base : List (List Nd)) (root : List Bool) (ks : List Kn) (cs : List Cm) (alive : List Bool) : Prop where
  all : ∃ vb vr vk vc va, w.heap[b]? = some (.cells #[.int .i64 lg, vb, vr, vk, vc, va] 74 (0, 0)) ∧ Fmls w vb base ∧ Bools w vr root ∧ Kns w vk ks ∧ Cms w vc cs ∧ Bools w va alive
section
variable {w w' : World} {b : Nat} {lg : Int} {base : List (List Nd)} {root : List Bool} {ks : List Kn} {cs : List Cm} {alive : List Bool}
theorem Eng.ext (h : Eng w b lg base root ks cs alive) (he : Ext w w') : Eng w' b lg base root ks cs alive := by
  obtain ⟨vb, vr, vk, vc, va, hb, h1, h2, h3, h4, h5⟩ := h.all
  exact ⟨vb, vr, vk, vc, va, (he.block (lt_heap hb)).trans hb, h1.ext he, h2.ext he, h3.ext he, h4.ext he, h5.ext he⟩
/-- What a walk reads of the engine. -/
theorem Eng.cells (h : Eng w b lg base root ks cs alive) : ∃ Ab cb Ar cr Ak ck Ac cc Aa ca, w.cell? ⟨b, 0, none⟩ = some (.int .i64 lg) ∧ w.cell? ⟨b, 1, none⟩ = some (.slice Ab base.length cb) ∧ w.cell? ⟨b, 2, none⟩ = some (.slice Ar root.length cr) ∧
    w.cell? ⟨b, 3, none⟩ = some (.slice Ak ks.length ck) ∧ w.cell? ⟨b, 4, none⟩ = some (.slice Ac cs.length cc) ∧ w.cell? ⟨b, 5, none⟩ = some (.slice Aa alive.length ca) ∧ b < w.heap.size ∧
    Fmls w (.slice Ab base.length cb) base ∧ BoolsAt w Ar cr root ∧ KnsAt w Ak ck ks ∧ CmsAt w Ac cc cs ∧ BoolsAt w Aa ca alive := by
  obtain ⟨vb, vr, vk, vc, va, hb, h1, ⟨Ar, cr, rfl, h2⟩, ⟨Ak, ck, rfl, h3⟩, ⟨Ac, cc, rfl, h4⟩, ⟨Aa, ca, rfl, h5⟩⟩ := h.all
  obtain ⟨⟨d0, d1, d2, d3, d4, d5⟩, _, hl⟩ := cells6 hb
  have h1' := h1
  obtain ⟨Ab, cb, rfl, _⟩ := h1
  exact ⟨Ab, cb, Ar, cr, Ak, ck, Ac, cc, Aa, ca, d0, d1, d2, d3, d4, d5, hl, h1', h2, h3, h4, h5⟩
end
/-- The sizes of an engine. -/
structure Fit2 (base : List (List Nd)) (root : List Bool) (ks : List Kn) (cs : List Cm) (alive : List Bool) : Prop where
  len : base.length ≤ 12
  m : alive.length = 2 ^ base.length
  root : root.length = 2 ^ base.length
  kn : ∀ k ∈ ks, k.place < base.length ∧ k.holds.length = 2 ^ base.length ∧ i64ok k.agent
  cm : ∀ c ∈ cs, c.place < base.length ∧ c.x.length = 2 ^ base.length ∧ c.y.length = 2 ^ base.length ∧ c.parts < 18446744073709551616 ∧ 0 ≤ c.group ∧ c.group < 16
  klen : ks.length ≤ 12
  clen : cs.length ≤ 12
theorem pow12 {n : Nat} (h : n ≤ 12) : 2 ^ n ≤ 4096 := Nat.pow_le_pow_right (by decide) h
end Go.Proofs.YtbfeodammikajaaGreat

/- types' reflexive, satisfied: the walks. -/

namespace Go.Proofs.YtbfeodammikajaaGreat
open Go.RowKit

theorem bools_get {w : World} {A : Option Addr} {c : Nat} {l : List Bool} (h : BoolsAt w A c l) {k : Nat} (hk : k < l.length) : ∃ ad, A = some ad ∧ ad.block < w.heap.size ∧ w.cell? (ad.add k) = some (.bool (l.getD k false)) := by
  obtain ⟨ad, e, hb, hc⟩ := h.2.2 (by intro e; rw [e] at hk; simp at hk)
  refine ⟨ad, e, hb, hc k _ ?_⟩
  rw [List.getD_eq_getElem?_getD, List.getElem?_eq_getElem hk]
  rfl
set_option maxRecDepth 100000 in
set_option maxHeartbeats 4000000 in
theorem reflexive_any (b : Nat) (lg : Int) (w : World) (d0 : w.cell? ⟨b, 0, none⟩ = some (.int .i64 lg)) :
    Calls Tryz.prog 132 #[.pointer (some ⟨b, 0, none⟩)] w fun e w' => e = .returned (.bool (reflN lg)) ∧ w = w' := by
  cases h2 : lg == 2
  · cases h4 : lg == 4
    · cases h6 : lg == 6
      · have HE := Lib.hid (show reflN lg = false by unfold reflN; rw [h2, h4, h6]; rfl)
        go_enter Tryz.func132, Tryz.ntmps132
        go_wp2_with fail
        go_ret
        exact ⟨by rw [HE.out] <;> rfl, rfl⟩
      · have HE := Lib.hid (show reflN lg = true by unfold reflN; rw [h2, h4, h6]; rfl)
        go_enter Tryz.func132, Tryz.ntmps132
        go_wp2_with fail
        go_ret
        exact ⟨by rw [HE.out] <;> rfl, rfl⟩
    · have HE := Lib.hid (show reflN lg = true by unfold reflN; rw [h2, h4]; rfl)
      go_enter Tryz.func132, Tryz.ntmps132
      go_wp2_with fail
      go_ret
      exact ⟨by rw [HE.out] <;> rfl, rfl⟩
  · have HE := Lib.hid (show reflN lg = true by unfold reflN; rw [h2]; rfl)
    go_enter Tryz.func132, Tryz.ntmps132
    go_wp2_with fail
    go_ret
    exact ⟨by rw [HE.out] <;> rfl, rfl⟩
theorem sat_hit {al rt : List Bool} {k : Nat} (hk : k < al.length) (h1 : al.getD k false = true) (h2 : rt.getD k false = true) : satisfiedN al rt = true := by
  unfold satisfiedN
  rw [List.any_eq_true]
  exact ⟨k, List.mem_range.2 hk, by rw [h1, h2]; rfl⟩
theorem sat_miss {al rt : List Bool} (h : ∀ k, k < al.length → (al.getD k false && rt.getD k false) = false) : satisfiedN al rt = false := by
  unfold satisfiedN
  rw [List.any_eq_false]
  intro k hk
  rw [h k (List.mem_range.1 hk)]
  simp
set_option maxRecDepth 100000 in
set_option maxHeartbeats 4000000 in
theorem satisfied_any (b : Nat) (lg : Int) (base : List (List Nd)) (root : List Bool) (ks : List Kn) (cs : List Cm) (alive : List Bool) (w : World)
    (hE : Eng w b lg base root ks cs alive) (hr : root.length = alive.length) :
    Calls Tryz.prog 35 #[.pointer (some ⟨b, 0, none⟩)] w fun e w' => e = .returned (.bool (satisfiedN alive root)) ∧ w = w' := by
  obtain ⟨Ab, cb, Ar, cr, Ak, ck, Ac, cc, Aa, ca, d0, d1, d2, d3, d4, d5, hbl, _, hroot, _, _, hal⟩ := hE.cells
  have HR := Lib.hid hroot
  have HA := Lib.hid hal
  have hac := hal.1
  have hca := hal.2.1
  have hrc := hroot.1
  have hcr := hroot.2.1
  unfold maxLen at hca hcr
  rw [hr] at d2 hrc
  have HRL := Lib.hid hr
  clear hE hroot hal hr d0 d1 d3 d4
  go_enter Tryz.func35, Tryz.ntmps35
  go_wp2_with fail
  go_loop [10] (fun v => ∃ k : Nat, v = .int .i64 (k : Int) ∧ k ≤ alive.length ∧ Hid (∀ j, j < k → (alive.getD j false && root.getD j false) = false)) (fun v => alive.length - (intOf v).toNat)
  case atStart => exact ⟨0, rfl, Nat.zero_le _, Lib.hid (fun j hj => absurd hj (by omega))⟩
  case round =>
    obtain ⟨k, rfl, hk, HREL⟩ := hrel
    by_cases hlt2 : k < alive.length
    · have hk1 : (k : Int) < (alive.length : Int) := by omega
      obtain ⟨ad, rfl, hb1, a0⟩ := bools_get HA.out hlt2
      obtain ⟨ar, rfl, hb2, r0⟩ := bools_get HR.out (show k < root.length by rw [HRL.out]; exact hlt2)
      cases ha : alive.getD k false
      · rw [ha] at a0
        have HN := Lib.hid (show ∀ j, j < k + 1 → (alive.getD j false && root.getD j false) = false from fun j hj => by
          by_cases e : j < k
          · exact HREL.out j e
          · have : j = k := by omega
            subst this
            rw [ha]; rfl)
        clear ha
        go_wp2_with fail
        go_round
        case rel => exact ⟨k + 1, by go_num, by omega, HN⟩
        case measure => simp [intOf]; omega
      · rw [ha] at a0
        cases hrt : root.getD k false
        · rw [hrt] at r0
          have HN := Lib.hid (show ∀ j, j < k + 1 → (alive.getD j false && root.getD j false) = false from fun j hj => by
            by_cases e : j < k
            · exact HREL.out j e
            · have : j = k := by omega
              subst this
              rw [ha, hrt]; rfl)
          clear ha hrt
          go_wp2_with fail
          go_round
          case rel => exact ⟨k + 1, by go_num, by omega, HN⟩
          case measure => simp [intOf]; omega
        · rw [hrt] at r0
          have HE := Lib.hid (sat_hit hlt2 ha hrt)
          clear ha hrt
          go_wp2_with fail
          go_ret
          exact ⟨by rw [HE.out] <;> rfl, rfl⟩
    · obtain rfl : alive.length = k := by omega
      have HE := Lib.hid (sat_miss HREL.out)
      go_wp2_with fail
      go_ret
      exact ⟨by rw [HE.out] <;> rfl, rfl⟩
end Go.Proofs.YtbfeodammikajaaGreat

/- Short forms of the moves of a walk through a region that draws its order. -/

namespace Go.Proofs.YtbfeodammikajaaGreat
open Go.RowKit

section
variable {P : Program} {md : Region.Mode} {ops : Array Oper} {Q : Exit → Act → World → Prop} {S : World → Prop}
/-- An operation is taken: its value is what it yields in every world that meets S. -/
theorem tk (i : Nat) {oi : Oper} {v : Value} {fuel : Nat} {listed : Array Bool} {a a' : Act} {w : World} (hS : S w)
    (h : wpAnyH P md ops Q S fuel (listed.setIfInBounds i true) a' w)
    (hi : ops[i]? = some oi := by exact rfl) (hs : Region.noSelect ops = true := by kernel_rfl) (hf : Region.free md ops listed i = true := by kernel_rfl) (hr : (Region.ready md ops listed).contains i = true := by kernel_rfl)
    (hy : YieldsIf P ops S oi v a := by refine Or.inl ⟨by rfl, ?_⟩; intro w' hSw; (try dsimp only at hSw); go_simp; (try with_reducible rfl))
    (hQ : ∀ c a w, Q (.panic c) (a.put oi.dst v) w → Q (.panic c) a w := by exact fun _ _ _ h => h)
    (ha : a.put oi.dst v = a' := by (try simp only [Act.put, List.setIfInBounds_toArray, List.set_cons_zero, List.set_cons_succ, List.getElem_toArray, List.getElem_cons_succ, List.getElem_cons_zero]); exact rfl) : wpAnyH P md ops Q S (fuel + 1) listed a w :=
  wpAnyH_take hi hs hf hr hQ hy hS (by rw [ha]; exact h)
/-- An operation that is not wanted is passed over. -/
theorem un (i : Nat) {oi : Oper} {fuel : Nat} {listed : Array Bool} {a a' : Act} {w : World} (hS : S w)
    (h : wpAnyH P md ops Q S fuel (listed.setIfInBounds i true) a' w)
    (hi : ops[i]? = some oi := by exact rfl) (hs : Region.noSelect ops = true := by kernel_rfl) (hf : Region.free md ops listed i = true := by kernel_rfl) (hr : (Region.ready md ops listed).contains i = true := by kernel_rfl)
    (hy : YieldsIf P ops S oi undef a := by exact Or.inr ⟨by rfl, rfl⟩)
    (hQ : ∀ c a w, Q (.panic c) (a.put oi.dst undef) w → Q (.panic c) a w := by exact fun _ _ _ h => h)
    (ha : a.put oi.dst undef = a' := by (try simp only [Act.put, List.setIfInBounds_toArray, List.set_cons_zero, List.set_cons_succ, List.getElem_toArray, List.getElem_cons_succ, List.getElem_cons_zero]); exact rfl) : wpAnyH P md ops Q S (fuel + 1) listed a w :=
  wpAnyH_take hi hs hf hr hQ hy hS (by rw [ha]; exact h)
end
section
variable {a b c : World} {p : Addr} {v : Value}
/-- A cell that was there is as it was. -/
theorem xc (hb : p.block < a.heap.size) (f : a.cell? p = some v) (h : Ext a b := by repeat (first | exact Ext.refl _ | assumption | apply Ext.alloc | apply Ext.drew)) : b.cell? p = some v := (h.cell hb).trans f
/-- A world behind a call. -/
theorem xt (h : Ext b c) (e : Ext a b := by repeat (first | exact Ext.refl _ | assumption | apply Ext.alloc | apply Ext.drew)) : Ext a c := e.trans h
/-- The world as it stands. -/
theorem xw (e : Ext a b := by repeat (first | exact Ext.refl _ | assumption | apply Ext.alloc | apply Ext.drew)) : Ext a b := e
end
end Go.Proofs.YtbfeodammikajaaGreat
