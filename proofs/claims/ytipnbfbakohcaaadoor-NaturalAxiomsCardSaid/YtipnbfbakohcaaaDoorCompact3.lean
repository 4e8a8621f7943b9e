/- formula.compact returns the canonical list of a node of a list whose operands stand before their nodes. -/
import Derived.Test.YtipnbfbakohcaaaDoorCompact2
import Derived.Laws.EntriesVeiled
namespace Go.Proofs.YtipnbfbakohcaaaDoor
open Go.RowKit
open Go.Maps (has)

theorem finish_any {K : Blks} {W0 : World} {A : Option Addr} {c : Nat} {f : List Nd} (hf : Wf f) (hok : ∀ n ∈ f, n.ok) (hlen : f.length ≤ 1000) (hne : K.mn ≠ K.md) :
    ∀ i : Nat, i < f.length → FinishSaid K W0 A c f i := by
  intro i
  induction i using Nat.strongRecOn with
  | _ i ih =>
    intro hi w o vo henv hpot
    obtain ⟨n, hn⟩ : ∃ n, f[i]? = some n := ⟨_, List.getElem?_eq_getElem hi⟩
    obtain ⟨D, m, hown, _, hD⟩ := henv.dones
    rw [Int.toNat_natCast]
    cases hh : has D (.int .i64 i)
    · refine finish_new hf hok henv hlen i n hn D m hown hD hh hne hpot (fun z h0 h1 => ?_) _ _ rfl rfl
      obtain ⟨j, rfl⟩ := Int.eq_ofNat_of_zero_le h0
      exact ih j (by omega) (by omega)
    · refine (finish_done henv hlen i hi D m hown hD hh).mono ?_
      rintro e w' ⟨rfl, rfl⟩
      refine ⟨vo, rfl, ?_, CStep.refl _ _ _⟩
      have := (hD i hh).2.1
      rw [this]
      exact henv

/-- The captured variables' blocks, from a heap's size on. -/
def Blks.at_ (s : Nat) : Blks := ⟨s, s + 1, s + 1 + 1 + 1 + 1 + 1, s + 1 + 1 + 1, s + 1 + 1 + 1 + 1 + 1 + 1, s + 1 + 1, s + 1 + 1 + 1 + 1⟩
def startWorld (w : World) (A : Option Addr) (c n : Nat) : World :=
  ((((((w.alloc (Obj.cells #[Value.slice A n c] 29)).alloc (Obj.cells #[Value.slice none 0 0] 29)).alloc (Obj.map #[] 0)).alloc (Obj.cells #[Value.map (some (w.heap.size + 1 + 1))] 91)).alloc
    (Obj.map #[] 0)).alloc (Obj.cells #[Value.map (some (w.heap.size + 1 + 1 + 1 + 1))] 92)).alloc
    (Obj.cells #[Value.func (Fn.func 78) #[] (Blks.at_ w.heap.size).caps] 76)
theorem laid_at {w w' : World} {o : Obj} {k : Nat} (h : Ext (w.alloc o) w') (hk : k = w.heap.size) : w'.heap[k]? = some o := by
  subst hk
  exact (h.block (by simp)).trans (heap_alloc_new w o)
theorem start_env (w : World) (A : Option Addr) (c : Nat) (f : List Nd) (h : NdsAt w A c f) : CEnv (Blks.at_ w.heap.size) w (startWorld w A c f.length) A c f [] (.slice none 0 0) := by
  have hb : Below w.heap.size w (startWorld w A c f.length) := ((((((((Ext.refl w).alloc _).alloc _).alloc _).alloc _).alloc _).alloc _).alloc _)
  refine ⟨hb, h, laid_at (((((((Ext.refl _).alloc _).alloc _).alloc _).alloc _).alloc _).alloc _) rfl, laid_at ((((((Ext.refl _).alloc _).alloc _).alloc _).alloc _).alloc _) (by simp [Blks.at_]), laid_at ((Ext.refl _).alloc _) (by simp [Blks.at_]), laid_at ((((Ext.refl _).alloc _).alloc _).alloc _) (by simp [Blks.at_]), laid_at (Ext.refl _) (by simp [Blks.at_]), World.ownsRow_nil _ _ _ _, ?_, ?_, ?_, ?_, by simp⟩
  · have h2 : (startWorld w A c f.length).heap[(Blks.at_ w.heap.size).mn]? = some (.map #[] 0) := laid_at (((((Ext.refl _).alloc _).alloc _).alloc _).alloc _) (by simp [Blks.at_])
    exact ⟨.map [], 0, ⟨#[], 0, h2, ⟨by simp, MapKept.stamped_empty 0, by simp⟩, Nat.le_refl _, rfl⟩, Nat.le_refl _, fun n _ => ⟨by simp [has], fun h => by cases h⟩⟩
  · have h2 : (startWorld w A c f.length).heap[(Blks.at_ w.heap.size).md]? = some (.map #[] 0) := laid_at (((Ext.refl _).alloc _).alloc _) (by simp [Blks.at_])
    exact ⟨.map [], 0, ⟨#[], 0, h2, ⟨by simp, MapKept.stamped_empty 0, by simp⟩, Nat.le_refl _, rfl⟩, Nat.zero_le _, fun i h => by simp [has] at h⟩
  · simp only [Blks.at_]; omega
  · simp only [Blks.at_]; omega

set_option maxHeartbeats 1000000 in
theorem compact_any (f : List Nd) (A : Option Addr) (c r : Nat) (w : World) (hf : Wf f) (hok : ∀ n ∈ f, n.ok) (hlen : f.length ≤ 1000) (hr : r < f.length) (h : NdsAt w A c f) :
    Calls Tryd.prog 59 #[.slice A f.length c, .int .i64 r] w fun e w' => ∃ v, e = .returned v ∧ w'.ownsRow w.heap.size 60 6 v (finN f r []).1.length ((finN f r []).1.flatMap Nd.cells) ∧ (∀ n ∈ (finN f r []).1, n.ok) ∧ Ext w w' := by
  have hmm := @run_makeMap Tryd.prog
  have hmf : ∀ (fn : Fn) (first cap : Array Value) (w : World), (Instr.makeFunc fn first cap).run Tryd.prog w = .ok (.func fn first cap) w := fun _ _ _ _ => rfl
  have HE := Lib.hid (start_env w A c f h)
  have HF := Lib.hid (finish_any (K := Blks.at_ w.heap.size) (W0 := w) (A := A) (c := c) hf hok hlen (by simp only [Blks.at_]; omega) r hr _ _ _ HE.out (pot_nil f))
  clear hf hok h
  go_enter Tryd.func59, Tryd.ntmps59
  go_wp2_with fail
  refine HF.out.mono ?_
  rw [Int.toNat_natCast]
  rintro e w1 ⟨vo', rfl, henv, _⟩
  have HENV := Lib.hid henv
  have hout := cell_of_one henv.blk_out
  simp only [Blks.at_] at hout
  obtain ⟨Ao, co, rfl⟩ := slice_of_row henv.row
  clear henv
  go_wp2_with fail
  go_ret
  exact ⟨_, rfl, HENV.out.row, HENV.out.oks, HENV.out.below⟩
end Go.Proofs.YtipnbfbakohcaaaDoor
