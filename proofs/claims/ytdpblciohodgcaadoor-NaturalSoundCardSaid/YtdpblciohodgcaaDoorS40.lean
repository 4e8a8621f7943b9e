/- frames.In at numbers that are no logic. -/
import Derived.Test.YtdpblciohodgcaaDoorS39
import Derived.Test.YtdpblciohodgcaaDoorS07
import Derived.Test.YtdpblciohodgcaaDoorS34
import Derived.Test.YtdpblciohodgcaaDoorS37
import Derived.Test.YtdpblciohodgcaaDoorS29
import Derived.Test.YtdpblciohodgcaaDoorS27
import Derived.Test.YtdpblciohodgcaaDoorS01
import Derived.OrdersHeld
import Derived.RegionTactic

namespace Go.Proofs.YtdpblciohodgcaaDoor
open Go.RowKit

set_option maxRecDepth 100000 in
set_option maxHeartbeats 4000000 in
theorem pIn_no (vm : Value) (md : Md) (lg : Int) (w : World) (hm : MdV w vm md) (hlg : ¬ (0 ≤ lg ∧ lg ≤ 6)) :
    Calls Tryd.prog 8 #[vm, .int .i64 lg] w fun e w' => e = .returned (.bool false) ∧ Ext w w' := by
  have HP := Lib.hid (show p15 lg = 1 from if_neg hlg)
  obtain ⟨vv, vr, rfl, hv, hr⟩ := hm
  clear hlg hv hr
  go_enter Tryd.func8, Tryd.ntmps8
  go_wp2_with (go_at_call 18; refine (pProps_any lg _).mono ?_; rintro e w1 ⟨vp, rfl, hx1, hvp⟩; rw [HP.out]; have HX1 := Lib.hid ((((Ext.refl w).alloc _).alloc _).trans hx1); clear hx1 hvp)
  go_ret
  exact ⟨rfl, HX1.out⟩
/-- frames.In, whatever the logic. -/
noncomputable def inAll (md : Md) (lg : Int) : Bool := decide (0 ≤ lg ∧ lg ≤ 6) && inB md lg
theorem inAll_any (vm : Value) (md : Md) (lg : Int) (w : World) (hT : TabZ w) (hm : MdV w vm md) (hok : md.ok) (hck : checkM md = 0) :
    Calls Tryd.prog 8 #[vm, .int .i64 lg] w fun e w' => e = .returned (.bool (inAll md lg)) ∧ Ext w w' := by
  unfold inAll
  by_cases h : 0 ≤ lg ∧ lg ≤ 6
  · rw [decide_eq_true h, Bool.true_and]
    exact pIn_any vm md lg w hT hm hok hck h
  · rw [decide_eq_false h, Bool.false_and]
    exact pIn_no vm md lg w hm h
theorem inAll_good {md : Md} {lg : Int} (hck : checkM md = 0) (h : inAll md lg = true) : GoodM md lg := by
  unfold inAll at h
  rw [Bool.and_eq_true] at h
  exact inB_good hck (of_decide_eq_true h.1) h.2
end Go.Proofs.YtdpblciohodgcaaDoor

/- frames.In, whatever the model and the logic. -/

namespace Go.Proofs.YtdpblciohodgcaaDoor
open Go.RowKit

set_option maxRecDepth 100000 in
set_option maxHeartbeats 4000000 in
theorem pIn_bad (vm : Value) (md : Md) (lg : Int) (w : World) (hm : MdV w vm md) (hok : md.ok) (hlg : 0 ≤ lg ∧ lg ≤ 6) (hck : checkM md ≠ 0) :
    Calls Tryd.prog 8 #[vm, .int .i64 lg] w fun e w' => e = .returned (.bool false) ∧ Ext w w' := by
  have HM := Lib.hid hm
  have HOK := Lib.hid hok
  have HP := Lib.hid (show p15 lg = 0 from if_pos hlg)
  obtain ⟨ck, hcc⟩ : ∃ z, z = checkM md := ⟨_, rfl⟩
  have HCC := Lib.hid hcc
  have hck1 : (ck == 0) = false := by rw [beq_eq_false_iff_ne, hcc]; exact hck
  obtain ⟨vv, vr, rfl, hv, hr⟩ := hm
  clear hok hlg hck hv hr hcc
  go_enter Tryd.func8, Tryd.ntmps8
  go_wp2_with (first | (go_at_call 18; refine (pProps_any lg _).mono ?_; rintro e w1 ⟨vp, rfl, hx1, hvp⟩; rw [HP.out]; have HX1 := Lib.hid ((((Ext.refl w).alloc _).alloc _).trans hx1); have hm0 : w1.cell? ⟨w.heap.size, 0, none⟩ = some (.int .i64 md.n) := (hx1.cell (p := ⟨w.heap.size, 0, none⟩) (by simp; omega)).trans (by simp); have hm1 : w1.cell? ⟨w.heap.size, 1, none⟩ = some vv := (hx1.cell (p := ⟨w.heap.size, 1, none⟩) (by simp; omega)).trans (by simp); have hm2 : w1.cell? ⟨w.heap.size, 2, none⟩ = some vr := (hx1.cell (p := ⟨w.heap.size, 2, none⟩) (by simp; omega)).trans (by simp); have hb1 : w.heap.size + 1 < w1.heap.size := Nat.lt_of_lt_of_le (by simp) hx1.size; clear hx1 hvp) | (go_at_call 19; refine (pCheck13_any _ md _ (HM.out.ext HX1.out) HOK.out).mono ?_; rintro e w2 ⟨rfl, hx2⟩; rw [← HCC.out]; have HX2 := Lib.hid (HX1.out.trans hx2); clear hx2))
  go_ret
  exact ⟨rfl, HX2.out⟩
noncomputable def inG (md : Md) (lg : Int) : Bool := decide (checkM md = 0) && inAll md lg
theorem inG_any (vm : Value) (md : Md) (lg : Int) (w : World) (hT : TabZ w) (hm : MdV w vm md) (hok : md.ok) :
    Calls Tryd.prog 8 #[vm, .int .i64 lg] w fun e w' => e = .returned (.bool (inG md lg)) ∧ Ext w w' := by
  unfold inG
  by_cases hc : checkM md = 0
  · rw [decide_eq_true hc, Bool.true_and]
    exact inAll_any vm md lg w hT hm hok hc
  · rw [decide_eq_false hc, Bool.false_and]
    by_cases h : 0 ≤ lg ∧ lg ≤ 6
    · exact pIn_bad vm md lg w hm hok h hc
    · exact pIn_no vm md lg w hm h
theorem inG_good {md : Md} {lg : Int} (h : inG md lg = true) : checkM md = 0 ∧ GoodM md lg := by
  unfold inG at h
  rw [Bool.and_eq_true] at h
  have hc := of_decide_eq_true h.1
  exact ⟨hc, inAll_good hc h.2⟩
end Go.Proofs.YtdpblciohodgcaaDoor

/- formula.Agents and formula.Facts. -/

namespace Go.Proofs.YtdpblciohodgcaaDoor
open Go.RowKit

/-- The union of the nodes' masks. -/
def uniM (g : Nd → Nat) (l : List Nd) : Nat := l.foldl (fun m n => m ||| g n) 0
theorem uniM_snoc (g : Nd → Nat) (l : List Nd) (n : Nd) : uniM g (l ++ [n]) = uniM g l ||| g n := by simp [uniM, List.foldl_append]
theorem uniM_lt {g : Nd → Nat} : ∀ (l : List Nd), (∀ n ∈ l, g n < 512) → uniM g l < 512 := by
  have : ∀ (l : List Nd) (m : Nat), (∀ n ∈ l, g n < 512) → m < 512 → l.foldl (fun m n => m ||| g n) m < 512 := by
    intro l
    induction l with
    | nil => intro m _ h; exact h
    | cons a r ih =>
      intro m hl h
      exact ih _ (fun n hn => hl n (List.mem_cons_of_mem _ hn)) (Nat.or_lt_two_pow (n := 9) h (hl a (List.mem_cons_self ..)))
  exact fun l hl => this l 0 hl (by omega)
def agU (n : Nd) : Nat := if hasAgent n.op then 2 ^ n.i.toNat else n.g.toNat
def faU (n : Nd) : Nat := if hasFact n.op then 2 ^ n.i.toNat else 0
theorem agent_nogroup {n : Nd} (h : headOk n) (ha : hasAgent n.op = true) : n.g = 0 := by
  have hg : hasGroup n.op = false := by
    unfold hasAgent at ha
    unfold hasGroup
    simp at ha
    rcases ha with ((h | h) | h) | h <;> (rw [h]; rfl)
  obtain ⟨_, h3, _, _, _⟩ := h
  unfold formBad at h3
  simp [hg] at h3
  exact h3.2
theorem agS_U {n : Nd} (h : headOk n) (s : Nat) : agS s n = s ||| agU n := by
  unfold agS agU
  cases ha : hasAgent n.op
  · rw [if_neg (by simp), if_neg (by simp), Nat.or_zero]
  · rw [if_pos rfl, if_pos rfl, agent_nogroup h ha]
    exact Nat.or_zero _
theorem fact_iff (op : Int) : hasFact op = true ↔ op = 3 := by unfold hasFact; simp
theorem faS_U {n : Nd} (s : Nat) : faS s n = s ||| faU n := by
  unfold faS faU
  by_cases h : n.op = 3
  · rw [if_pos h, if_pos ((fact_iff _).2 h)]
  · rw [if_neg h, if_neg (fun e => h ((fact_iff _).1 e)), Nat.or_zero]
theorem foldl_congr' {f g : Nat → Nd → Nat} : ∀ (l : List Nd) (s : Nat), (∀ n ∈ l, ∀ s, f s n = g s n) → l.foldl f s = l.foldl g s
  | [], _, _ => rfl
  | a :: r, s, h => by
    show r.foldl f (f s a) = r.foldl g (g s a)
    rw [h a (List.mem_cons_self ..) s]
    exact foldl_congr' r _ (fun n hn => h n (List.mem_cons_of_mem _ hn))
theorem agents_uni {l : List Nd} (h : ∀ n ∈ l, headOk n) : agentsM l = uniM agU l := foldl_congr' l 0 (fun n hn s => agS_U (h n hn) s)
theorem facts_uni {l : List Nd} : factsM l = uniM faU l := foldl_congr' l 0 (fun _ _ s => faS_U s)
theorem agU_lt {n : Nd} (h : headOk n) : agU n < 512 := by
  unfold agU
  have h1 := head_group h
  split
  · rename_i ho
    have := head_agent h ho
    exact Nat.pow_lt_pow_right (by decide) (show n.i.toNat < 9 by omega)
  · omega
theorem faU_lt {n : Nd} (h : headOk n) : faU n < 512 := by
  unfold faU
  split
  · rename_i ho
    have := head_fact h ((fact_iff _).1 ho)
    exact Nat.pow_lt_pow_right (by decide) (show n.i.toNat < 9 by omega)
  · decide
set_option maxRecDepth 100000 in
set_option maxHeartbeats 2000000 in
theorem agents1_any (n : Nd) (h : headOk n) (u0 u1 u2 u4 u5 : Bool) (g : Int) (w : World) :
    Calls Tryd.prog 81 #[.agg #[.int .i64 n.op, .int .i64 n.i, .int .i64 n.e, .int .i64 n.g, .int .i64 n.x, .int .i64 n.y], .agg #[.bool u0, .bool u1, .bool u2, .bool (hasAgent n.op), .bool u4, .bool u5, .int .i64 g]] w
      fun e w' => e = .returned (.int .i64 ((agU n : Nat) : Int)) ∧ Ext w w' := by
  have hg := head_group h
  cases ha : hasAgent n.op
  · have HE := Lib.hid (show ((agU n : Nat) : Int) = n.g by unfold agU; rw [if_neg (by rw [ha]; simp)]; omega)
    clear h hg
    go_enter Tryd.func81, Tryd.ntmps81
    go_wp2_with fail
    go_ret
    exact ⟨by rw [HE.out] <;> rfl, ((Ext.refl _).alloc _).alloc _⟩
  · obtain ⟨h0, h1⟩ := head_agent h ha
    obtain ⟨k, hk⟩ := Int.eq_ofNat_of_zero_le h0
    have hw := wrap_small (k := k) (by omega)
    have hk8 : k < 64 := by omega
    have hmk : min k 64 = k := by omega
    have HE := Lib.hid (show ((agU n : Nat) : Int) = wrap64 ((2 : Int) ^ k) by rw [hw]; unfold agU; rw [if_pos ha, hk, Int.toNat_natCast])
    rw [hk]
    clear h hg h0 h1 hk hw
    go_enter Tryd.func81, Tryd.ntmps81
    go_wp2_with fail
    go_ret
    exact ⟨by rw [HE.out] <;> rfl, ((Ext.refl _).alloc _).alloc _⟩
set_option maxRecDepth 100000 in
set_option maxHeartbeats 2000000 in
theorem facts1_any (n : Nd) (h : headOk n) (u0 u1 u3 u4 u5 : Bool) (g : Int) (w : World) :
    Calls Tryd.prog 82 #[.agg #[.int .i64 n.op, .int .i64 n.i, .int .i64 n.e, .int .i64 n.g, .int .i64 n.x, .int .i64 n.y], .agg #[.bool u0, .bool u1, .bool (hasFact n.op), .bool u3, .bool u4, .bool u5, .int .i64 g]] w
      fun e w' => e = .returned (.int .i64 ((faU n : Nat) : Int)) ∧ Ext w w' := by
  cases ha : hasFact n.op
  · have HE := Lib.hid (show ((faU n : Nat) : Int) = 0 by unfold faU; rw [if_neg (by rw [ha]; simp)]; rfl)
    clear h
    go_enter Tryd.func82, Tryd.ntmps82
    go_wp2_with fail
    go_ret
    exact ⟨by rw [HE.out] <;> rfl, ((Ext.refl _).alloc _).alloc _⟩
  · obtain ⟨h0, h1⟩ := head_fact h ((fact_iff _).1 ha)
    obtain ⟨k, hk⟩ := Int.eq_ofNat_of_zero_le h0
    have hw := wrap_small (k := k) (by omega)
    have hk8 : k < 64 := by omega
    have hmk : min k 64 = k := by omega
    have HE := Lib.hid (show ((faU n : Nat) : Int) = wrap64 ((2 : Int) ^ k) by rw [hw]; unfold faU; rw [if_pos ha, hk, Int.toNat_natCast])
    rw [hk]
    clear h h0 h1 hk hw
    go_enter Tryd.func82, Tryd.ntmps82
    go_wp2_with fail
    go_ret
    exact ⟨by rw [HE.out] <;> rfl, ((Ext.refl _).alloc _).alloc _⟩
theorem uniM_le (g : Nd → Nat) (l : List Nd) (hg : ∀ n ∈ l, g n < 512) (k : Nat) : uniM g (l.take k) < 512 := uniM_lt _ (fun n hn => hg n (List.mem_of_mem_take hn))
set_option maxRecDepth 100000 in
set_option maxHeartbeats 4000000 in
/-- The union of the masks that a function gives. -/
theorem unionG_any (fn : Nat) (eg : ∀ args w, (callFunc fn args).run Tryd.prog w = .ok (.enter fn args) w) (g : Nd → Nat) (v : Value) (l : List Nd) (w : World) (h : Fml w v l) (_hc : check l = 0) (hg : ∀ n ∈ compactN l, g n < 512)
    (hf : ∀ n ∈ compactN l, ∀ W, Calls Tryd.prog fn #[.agg #[.int .i64 n.op, .int .i64 n.i, .int .i64 n.e, .int .i64 n.g, .int .i64 n.x, .int .i64 n.y], .agg #[.bool (hasX n.op), .bool (hasY n.op), .bool (hasFact n.op), .bool (hasAgent n.op), .bool (hasGroup n.op), .bool (hasEvent n.op), .int .i64 (fragOf n.op)]] W fun e w' => e = .returned (.int .i64 ((g n : Nat) : Int)) ∧ Ext W w') :
    Calls Tryd.prog 44 #[v, .func (Fn.func fn) #[] #[]] w fun e w' => e = .returned (.int .i64 (uniM g (compactN l) : Nat)) ∧ Ext w w' := by
  have H := Lib.hid h
  have HG := Lib.hid hg
  have HF := Lib.hid hf
  clear h hg hf
  go_enter Tryd.func44, Tryd.ntmps44
  go_wp2_with fail
  refine (compactF_any _ l _ H.out).mono ?_
  rintro e w1 ⟨u, rfl, hm⟩
  have HX := Lib.hid hm.2.2
  obtain ⟨A, c, rfl, hcap, hmax, hread⟩ := hm.fml.1
  unfold maxLen at hmax
  have HR := Lib.hid hread
  obtain ⟨cl, hcl⟩ : ∃ cl, cl = compactN l := ⟨_, rfl⟩
  have HCL := Lib.hid (show uniM g (compactN l) = uniM g cl by rw [hcl])
  rw [← hcl] at HR hcap HG HF
  rw [← hcl]
  clear hm hread hcl
  go_wp2_with fail
  go_loopw [5, 13] (fun out i wr => ∃ k : Nat, k ≤ cl.length ∧ i = .int .i64 k ∧ out = .int .i64 (uniM g (cl.take k) : Nat) ∧ Ext w1 wr) (fun _ i _ => cl.length - (intOf i).toNat)
  case atStart => exact ⟨0, Nat.zero_le _, rfl, rfl, Ext.refl _⟩
  case round =>
    obtain ⟨k, hk, rfl, rfl, hext⟩ := hrel
    by_cases hlt2 : k < cl.length
    · obtain ⟨a, ha⟩ : ∃ a, cl[k]? = some a := ⟨_, List.getElem?_eq_getElem hlt2⟩
      have ham := List.mem_of_getElem? ha
      obtain ⟨ad, rfl, hb1, hc1⟩ := HR.out (by intro e; rw [e] at hlt2; simp at hlt2)
      obtain ⟨a0, a1, a2, a3, a4, a5⟩ := (hc1 k a ha).keep fun p hp => hext.cell (p := p) (by rw [hp, block_of_add]; exact hb1)
      have hor := i64_or_nat (uniM g (cl.take k)) (g a) (by have := uniM_le g cl HG.out k; omega) (by have := HG.out a ham; omega)
      have HS : Hid (uniM g (cl.take (k + 1)) = (uniM g (cl.take k) ||| g a)) := Lib.hid (by rw [take_succ_eq ha, uniM_snoc])
      have HFA := Lib.hid (HF.out a ham)
      obtain ⟨ga, hga⟩ : ∃ x, x = g a := ⟨_, rfl⟩
      rw [← hga] at hor HS HFA
      generalize uniM g (cl.take k) = m at hor HS
      clear ha hc1 ham hga
      go_wp2_with fail
      refine (uses_as _ _ _ _ _ _ _ _ rfl rfl rfl rfl rfl rfl rfl _).mono ?_
      rintro e w2 ⟨rfl, hb⟩
      have HB := Lib.hid hb
      obtain ⟨hcc, _, hz0⟩ := hb.facts
      clear hb
      have hz : wr.heap.size < w2.heap.size := by { simp at hz0; omega }
      clear hz0
      go_wp2_with fail
      refine (HFA.out _).mono ?_
      rintro e w3 ⟨rfl, hb3⟩
      go_wp2_with fail
      go_roundw
      case rel => exact ⟨k + 1, by omega, by go_num, by rw [HS.out], (((hext.alloc _).trans HB.out).alloc _).trans hb3⟩
      case measure => simp [intOf]; omega
    · obtain rfl : cl.length = k := by omega
      go_wp2_with fail
      go_ret
      exact ⟨ret_int (by rw [HCL.out, List.take_of_length_le (Nat.le_refl _)]), HX.out.trans hext⟩
set_option maxRecDepth 100000 in
set_option maxHeartbeats 2000000 in
theorem agentsF_any (v : Value) (l : List Nd) (w : World) (h : Fml w v l) (hc : check l = 0) :
    Calls Tryd.prog 76 #[v] w fun e w' => e = .returned (.int .i64 ((agentsM (compactN l) : Nat) : Int)) ∧ Ext w w' := by
  have H := Lib.hid h
  have hh := (compactN_props hc).2.2.2
  have HU := Lib.hid (unionG_any 81 (fun _ _ => rfl) agU v l w h hc (fun n hn => agU_lt (hh n hn)) (fun n hn W => agents1_any n (hh n hn) _ _ _ _ _ _ W))
  have HE := Lib.hid (agents_uni hh)
  rw [HE.out]
  clear h hh hc
  go_enter Tryd.func76, Tryd.ntmps76
  go_wp2_with fail
  refine HU.out.mono ?_
  rintro e w1 ⟨rfl, hx⟩
  go_wp2_with fail
  go_ret
  exact ⟨rfl, hx⟩
set_option maxRecDepth 100000 in
set_option maxHeartbeats 2000000 in
theorem factsF_any (v : Value) (l : List Nd) (w : World) (h : Fml w v l) (hc : check l = 0) :
    Calls Tryd.prog 77 #[v] w fun e w' => e = .returned (.int .i64 ((factsM (compactN l) : Nat) : Int)) ∧ Ext w w' := by
  have H := Lib.hid h
  have hh := (compactN_props hc).2.2.2
  have HU := Lib.hid (unionG_any 82 (fun _ _ => rfl) faU v l w h hc (fun n hn => faU_lt (hh n hn)) (fun n hn W => facts1_any n (hh n hn) _ _ _ _ _ _ W))
  rw [facts_uni]
  clear h hh hc
  go_enter Tryd.func77, Tryd.ntmps77
  go_wp2_with fail
  refine HU.out.mono ?_
  rintro e w1 ⟨rfl, hx⟩
  go_wp2_with fail
  go_ret
  exact ⟨rfl, hx⟩
end Go.Proofs.YtdpblciohodgcaaDoor

/- The program's Diamond and common. -/

namespace Go.Proofs.YtdpblciohodgcaaDoor
open Go.RowKit

def diaP (r : List Nat) (s : Nat) : Nat := if check02 r.length r = 0 then difN (allW r.length) (boxN r r.length (allW 64 ^^^ s)) else 0
theorem compl_word {s : Nat} (hs : word s) : word (allW 64 ^^^ s) := xor_word (allw_word (Nat.le_refl _)) hs
theorem bits_compl {s : Nat} (hs : word s) : bits .xor .u64 IntKind.u64.max (s : Int) = ((allW 64 ^^^ s : Nat) : Int) := bits_xor (a := allW 64) (allw_word (Nat.le_refl _)) hs
set_option maxRecDepth 100000 in
set_option maxHeartbeats 8000000 in
theorem pDia_any (v : Value) (r : List Nat) (s : Nat) (w : World) (h : U64s w v r) (hw : ∀ s ∈ r, word s) (hs : word s) :
    Calls Tryd.prog 71 #[v, .int .u64 (s : Int)] w fun e w' => e = .returned (.int .u64 ((diaP r s : Nat) : Int)) ∧ Ext w w' := by
  have H := Lib.hid h
  obtain ⟨A, c, rfl, _, _, HL⟩ := u64_at h
  have HWD := Lib.hid hw
  have HS := Lib.hid (compl_word hs)
  have HCO := Lib.hid (bits_compl hs)
  clear h hw hs
  by_cases hck : check02 r.length r = 0
  · have hn := check02_len hck
    have HC := Lib.hid hck
    have HB := Lib.hid (show boxP r (allW 64 ^^^ s) = boxN r r.length (allW 64 ^^^ s) by unfold boxP; rw [if_pos HC.out])
    have HD := Lib.hid (show diaP r s = difN (allW r.length) (boxP r (allW 64 ^^^ s)) by rw [HB.out]; unfold diaP; rw [if_pos HC.out])
    have HAN := Lib.hid (bits_andNot (a := allW r.length) (b := boxP r (allW 64 ^^^ s)) (allw_word hn) (by rw [HB.out]; exact mask_word hn _))
    clear hck
    go_enter Tryd.func71, Tryd.ntmps71
    go_wp2_with (first | (go_at_call 36; refine (pCheck02_any _ r _ H.out HWD.out).mono ?_; rintro e w1 ⟨rfl, hx1⟩; rw [HC.out]; have HX1 := Lib.hid hx1; clear hx1) | (go_at_call 53; refine (pAll02_any r.length hn _).mono ?_; rintro e w3 ⟨rfl, rfl⟩) | (rw [HCO.out]; go_at_call 70; refine (pBox_any _ r _ _ (H.out.ext HX1.out) HWD.out HS.out).mono ?_; rintro e w4 ⟨rfl, hx4⟩; have HX4 := Lib.hid hx4; clear hx4))
    go_ret
    exact ⟨by rw [HD.out, ← HAN.out] <;> rfl, HX1.out.trans HX4.out⟩
  · have HC := Lib.hid hck
    have HB := Lib.hid (show diaP r s = 0 by unfold diaP; rw [if_neg HC.out])
    obtain ⟨ce, hce⟩ : ∃ z, z = check02 r.length r := ⟨_, rfl⟩
    rw [← hce] at hck
    have hne : (ce != 0) = true := by simpa using hck
    have HCE := Lib.hid hce
    clear hck hce
    go_enter Tryd.func71, Tryd.ntmps71
    go_wp2_with (go_at_call 36; refine (pCheck02_any _ r _ H.out HWD.out).mono ?_; rintro e w1 ⟨rfl, hx1⟩; rw [← HCE.out]; have HX1 := Lib.hid hx1; clear hx1)
    go_ret
    exact ⟨by rw [HB.out] <;> rfl, HX1.out⟩
set_option maxRecDepth 100000 in
set_option maxHeartbeats 8000000 in
theorem pCommon_any (v : Value) (r : List Nat) (n c s : Nat) (w : World) (h : U64s w v r) (hw : ∀ s ∈ r, word s) (hl : r.length = n) (hck : check02 r.length r = 0) (hc : word c) (hs : word s) :
    Calls Tryd.prog 74 #[v, .int .u64 ((allW n : Nat) : Int), .int .u64 (c : Int), .int .u64 (s : Int)] w fun e w' => e = .returned (.int .u64 ((commonM r n c s : Nat) : Int)) ∧ Ext w w' := by
  have H := Lib.hid h
  have HWD := Lib.hid hw
  have hn : n ≤ 64 := by rw [← hl]; exact check02_len hck
  have HRL := Lib.hid (rows_low (r := r) (n := n) hl (by
    have := (valid_iff (l := r)).1 (by unfold valid02; rw [hck]; rfl)
    rw [hl] at this; exact this.2))
  have HAW := Lib.hid (allw_word hn)
  have HC := Lib.hid hc
  have HS := Lib.hid hs
  have HBX := Lib.hid (show ∀ m, boxP r m = boxN r n m from fun m => by unfold boxP; rw [if_pos hck, hl])
  have HA1 := Lib.hid (bits_andNot (allw_word hn) hc)
  clear h hw hck hc hs hl
  go_enter Tryd.func74, Tryd.ntmps74
  go_wp2_with fail
  go_loopw [9] (fun v wr => ∃ out : Nat, v = .int .u64 (out : Int) ∧ Hid (word out) ∧ Hid (Ext w wr) ∧ Hid ((∀ i, (commonM r n c s).testBit i = true → out.testBit i = true) ∧ ∀ i, (gfF r n c s out).testBit i = true → out.testBit i = true)) (fun v _ => (intOf v).toNat)
  case atStart => exact ⟨allW n, rfl, HAW, Lib.hid (Ext.refl _), Lib.hid ⟨common_start HRL.out, gf_start HRL.out⟩⟩
  case round =>
    obtain ⟨out, rfl, HO, HX, HI⟩ := hrel
    have HA2 := Lib.hid (bits_and HS.out HO.out)
    have HA3 := Lib.hid (bits_or (a := difN (allW n) c) (b := s &&& out) (dif_word HAW.out) (and_word HS.out))
    have HMW := Lib.hid (show word (difN (allW n) c ||| (s &&& out)) from or_word (dif_word HAW.out) (and_word HS.out))
    obtain ⟨nx, hnx⟩ : ∃ x, x = gfF r n c s out := ⟨_, rfl⟩
    have HNX := Lib.hid hnx
    have HBE := Lib.hid (show boxP r (difN (allW n) c ||| (s &&& out)) = nx by rw [HBX.out, hnx]; rfl)
    have HNW := Lib.hid (show word nx by rw [hnx]; exact mask_word hn _)
    clear hnx
    by_cases hd : nx = out
    · have heq : ((nx : Int) == (out : Int)) = true := by simp [hd]
      have HE := Lib.hid (common_fix HRL.out (by rw [← HNX.out]; exact hd) HI.out.1)
      clear hd
      go_wp2_with (rw [HA1.out, HA2.out, HA3.out]; go_at_call 70; refine (pBox_any _ r _ _ (H.out.ext HX.out) HWD.out HMW.out).mono ?_; rintro e w4 ⟨rfl, hx4⟩; rw [HBE.out]; have HX4 := Lib.hid hx4; clear hx4)
      go_ret
      exact ⟨by rw [HE.out] <;> rfl, HX.out.trans HX4.out⟩
    · have heq : ((nx : Int) == (out : Int)) = false := by simp only [beq_eq_false_iff_ne, ne_eq, Int.natCast_inj]; exact hd
      have HLT := Lib.hid (sub_lt (by rw [HNX.out]; exact HI.out.2) hd)
      clear hd
      go_wp2_with (rw [HA1.out, HA2.out, HA3.out]; go_at_call 70; refine (pBox_any _ r _ _ (H.out.ext HX.out) HWD.out HMW.out).mono ?_; rintro e w4 ⟨rfl, hx4⟩; rw [HBE.out]; have HX4 := Lib.hid hx4; clear hx4)
      go_roundw
      case rel => exact ⟨nx, rfl, HNW, Lib.hid (HX.out.trans HX4.out), Lib.hid (by rw [HNX.out]; exact ⟨common_below HRL.out HI.out.1, gf_dec HRL.out HI.out.2⟩)⟩
      case measure => have := HLT.out; simp [intOf]; omega
end Go.Proofs.YtdpblciohodgcaaDoor

/- Rows of words that a call has made. -/

namespace Go.Proofs.YtdpblciohodgcaaDoor
open Go.RowKit

theorem addr_nil (g k : Nat) : (⟨g, 0, none⟩ : Addr).add k = ⟨g, k, none⟩ := by unfold Addr.add; cases k <;> simp
def uV (l : List Nat) : List Value := l.map fun (u : Nat) => Value.int .u64 (u : Int)
theorem tInfoU8 : (Tryd.prog.info? 56).map (fun i => (i.zero, i.size, i.bytes)) = some (some (.int .u64 0), 1, 8) := by kernel_rfl
def MadeU (base : Nat) (w : World) (v : Value) (l : List Nat) : Prop := w.ownsRow base 56 1 v l.length (uV l)
section
variable {base : Nat} {w w' : World} {v : Value} {l : List Nat} {g n cap k : Nat}
theorem MadeU.ext (h : MadeU base w v l) (he : Ext w w') : MadeU base w' v l := row_ext h he
theorem MadeU.nil (base : Nat) (w : World) : MadeU base w (.slice none 0 0) [] := World.ownsRow_nil _ _ _ _
theorem MadeU.slice (h : MadeU base w v l) (h0 : 0 < l.length) : ∃ g cap, v = .slice (some ⟨g, 0, none⟩) l.length cap ∧ g < w.heap.size ∧ base ≤ g ∧ l.length ≤ cap ∧ cap ≤ maxLen ∧ (∀ i, i < l.length → w.cell? ⟨g, i, none⟩ = some (.int .u64 ((l.getD i 0 : Nat) : Int))) ∧ ∀ i, w.frozen? ⟨g, i, none⟩ = false := by
  rcases h.2 with ⟨_, e0⟩ | ⟨g, cap, cur, rfl, hb, hg, hnc, hm, hs, ht⟩
  · omega
  · refine ⟨g, cap, rfl, lt_heap hg, hb, hnc, hm, fun i hi => ?_, fun i => by simp [World.frozen?, hg]⟩
    have h1 : (uV l)[i]? = some (.int .u64 ((l.getD i 0 : Nat) : Int)) := by
      unfold uV
      rw [List.getElem?_map, List.getD_eq_getElem?_getD, List.getElem?_eq_getElem hi]; rfl
    rw [← ht, List.getElem?_take] at h1
    split at h1
    · have h2 : cur[i]? = some (.int .u64 ((l.getD i 0 : Nat) : Int)) := by simpa using h1
      simp [World.cell?, hg, h2]
    · cases h1
theorem MadeU.at_ (h : MadeU base w (.slice (some ⟨g, 0, none⟩) n cap) l) (h0 : 0 < l.length) : n = l.length ∧ g < w.heap.size ∧ base ≤ g ∧ n ≤ cap ∧ cap ≤ maxLen ∧ (∀ i, i < l.length → w.cell? ⟨g, i, none⟩ = some (.int .u64 ((l.getD i 0 : Nat) : Int))) ∧ ∀ i, w.frozen? ⟨g, i, none⟩ = false := by
  obtain ⟨g', cap', e, h1, h2, h3, h4, h5, h6⟩ := h.slice h0
  injection e with e1 e2 e3
  injection e1 with e1
  injection e1 with e1
  subst e1 e2 e3
  exact ⟨rfl, h1, h2, h3, h4, h5, h6⟩
theorem MadeU.u64s (h : MadeU base w v l) : U64s w v l := by
  rcases Nat.eq_zero_or_pos l.length with h0 | h0
  · have : l = [] := List.length_eq_zero_iff.1 h0
    subst this
    rcases h.2 with ⟨e, _⟩ | ⟨g, cap, cur, rfl, hb, hg, hnc, hm, hs, ht⟩
    · subst e
      exact u64s_nil w
    · exact ⟨_, cap, rfl, hnc, hm, fun h => absurd rfl h⟩
  · obtain ⟨g, cap, rfl, h1, _, h3, h4, h5, _⟩ := h.slice h0
    refine ⟨_, cap, rfl, h3, h4, fun _ => ⟨_, rfl, h1, fun k z hk => ?_⟩⟩
    have hk' := (List.getElem?_eq_some_iff.1 hk).1
    have := h5 k hk'
    rw [addr_nil, this, List.getD_eq_getElem?_getD, hk]
    rfl
theorem MadeU.set (h : MadeU base w (.slice (some ⟨g, 0, none⟩) n cap) l) (hn : l.length = n) (j s : Nat) : MadeU base (w.setCell ⟨g, j, none⟩ (.int .u64 (s : Int))) (.slice (some ⟨g, 0, none⟩) n cap) (l.set j s) := by
  subst hn
  have h1 := (World.ownsRow.stored h j (.int .u64 (s : Int))).1
  unfold MadeU uV
  rw [List.length_set, List.map_set]
  exact h1
theorem row_empty (w : World) (t : TypeId) : (w.alloc (.cells #[] t)).ownsRow w.heap.size t 1 (.slice (some ⟨w.heap.size, 0, none⟩) 0 0) 0 [] :=
  ⟨rfl, .inr ⟨w.heap.size, 0, #[], rfl, Nat.le_refl _, heap_alloc_new _ _, Nat.le_refl _, by unfold maxLen; omega, rfl, rfl⟩⟩
theorem row_of_u64 {ad : Addr} (h : ∀ i, i < l.length → w.cell? (ad.add i) = some (.int .u64 ((l.getD i 0 : Nat) : Int))) : ∀ (j : Nat) u, (uV l)[j]? = some u → w.cell? (ad.add j) = some u := fun j u hj => by
  unfold uV at hj
  rw [List.getElem?_map] at hj
  cases e : l[j]? with
  | none => rw [e] at hj; cases hj
  | some x =>
    rw [e] at hj
    have hk := (List.getElem?_eq_some_iff.1 e).1
    rw [h j hk, List.getD_eq_getElem?_getD, e]
    exact hj
theorem uv_one (l : List Nat) : ∀ u ∈ uV l, u.oneCell' = true := fun u hu => by
  obtain ⟨x, _, rfl⟩ := List.mem_map.1 hu
  rfl
theorem uv_len (l : List Nat) : (uV l).length = l.length := by simp [uV]
end
end Go.Proofs.YtdpblciohodgcaaDoor

/- slices.Clone at words; a group's relation, step by step (plain). -/

namespace Go.Proofs.YtdpblciohodgcaaDoor
open Go.RowKit

set_option maxRecDepth 100000 in
set_option maxHeartbeats 4000000 in
theorem pClone_any (v : Value) (l : List Nat) (w : World) (h : U64s w v l) (h0 : 0 < l.length) (h64 : l.length ≤ 64) :
    Calls Tryd.prog 83 #[v] w fun e w' => ∃ u, e = .returned u ∧ MadeU w.heap.size w' u l ∧ Ext w w' := by
  obtain ⟨A, c, rfl, _, _, HL⟩ := u64_at h
  obtain ⟨iU, hiU, hzU0, hzU1, hzU2⟩ := info_parts tInfoU8
  clear h
  obtain ⟨ad, rfl, hadl, _⟩ := HL.out 0 h0
  have HNEW := Lib.hid (show ∀ (j : Nat) u, (uV l)[j]? = some u → (w.alloc (.cells #[] 56)).cell? (ad.add j) = some u from row_of_u64 fun i hi => by
    obtain ⟨ad2, e, _, hc⟩ := HL.out i hi
    injection e with e
    subst e
    exact (((Ext.refl w).alloc _).cell (p := ad.add i) (by rw [block_of_add]; exact hadl)).trans hc)
  have HRE := Lib.hid (row_empty w 56)
  have q : ∀ (w : World) (a : Option Addr) (n c n' c' : Nat), (binOp .eql 25 (.slice a n c) (.slice none n' c')).run Tryd.prog w = .ok (.bool a.isNone) w := fun w a n c n' c' => Lib.run_eql_slice_nil w _ _ a n c n' c' Tryd.underlying25
  obtain ⟨n, hn⟩ : ∃ n, n = l.length := ⟨_, rfl⟩
  have HN := Lib.hid hn
  rw [← hn] at h64 h0 ⊢
  have hm1 : 0 + n ≤ maxLen := by unfold maxLen; omega
  have hm2 : (0 + n) * 8 ≤ 140737488355328 := by omega
  clear hn
  go_enter Tryd.func83, Tryd.ntmps83
  go_wp2_with (at_builtin; refine wpList_append_own_at _ rfl _ _ 25 rfl w.heap.size 56 iU (.int .u64 0) 1 8 Tryd.underlying25 hiU hzU0 hzU1 hzU2 rfl (by decide) _ 0 [] rfl HRE.out ad n c (uV l) rfl (by rw [uv_len, Nat.mul_one]; exact HN.out.symm) HNEW.out (uv_one l) hm1 hm2 (by simp) ?_)
  intro v3 w3 hown3 hgrow3 _ _
  have HX3 := Lib.hid (show Ext w w3 from ((Ext.refl w).alloc _).grown hgrow3 (fun k hk => by have h2 : w.heap.size = k := Option.some.inj hk; omega))
  have HM := Lib.hid (show MadeU w.heap.size w3 v3 l by
    unfold MadeU
    rw [← HN.out]
    exact hown3)
  clear hown3 hgrow3
  obtain ⟨g, cap, rfl, hgl, hgb, _, hcm, _, _⟩ := HM.out.slice (by rw [← HN.out]; exact h0)
  rw [← HN.out] at HM ⊢
  clear hgl
  go_wp2_with fail
  go_ret
  exact ⟨_, rfl, HM.out, HX3.out⟩
/-- What a group's first k agents come to; nothing where none of them is in the group. -/
def grpI (n : Nat) (meet : Bool) : Nat := if meet then allW n else 0
def grpK (rl : List (List Nat)) (gn : Nat) (meet : Bool) (n k : Nat) : List Nat := (List.range n).map fun i => (List.range k).foldl (grpS rl gn meet i) (grpI n meet)
def anyK (gn k : Nat) : Bool := (List.range k).any fun a => gn.testBit a
def gatK (rl : List (List Nat)) (gn : Nat) (meet : Bool) (n k : Nat) : List Nat := bif anyK gn k then grpK rl gn meet n k else []
theorem anyK_succ (gn k : Nat) : anyK gn (k + 1) = (anyK gn k || gn.testBit k) := by
  unfold anyK
  rw [List.range_succ, List.any_append]
  simp
theorem gatK_no {rl : List (List Nat)} {gn n k : Nat} {meet : Bool} (h : gn.testBit k = false) : gatK rl gn meet n (k + 1) = gatK rl gn meet n k := by
  unfold gatK
  rw [anyK_succ, h, Bool.or_false]
  congr 1
  unfold grpK
  refine List.map_congr_left fun i _ => ?_
  rw [fold_snoc]
  unfold grpS
  rw [h]
  rfl
theorem grpK_none {rl : List (List Nat)} {gn n k : Nat} {meet : Bool} (h : anyK gn k = false) {i : Nat} : (List.range k).foldl (grpS rl gn meet i) (grpI n meet) = grpI n meet := by
  induction k with
  | zero => rfl
  | succ k ih =>
    rw [anyK_succ, Bool.or_eq_false_iff] at h
    rw [fold_snoc, ih h.1]
    unfold grpS
    rw [h.2]
    rfl
theorem gatK_first {rl : List (List Nat)} {gn n k : Nat} {meet : Bool} (h : gn.testBit k = true) (hn : anyK gn k = false) (hl : (rl.getD k []).length = n) (hlow : ∀ s ∈ rl.getD k [], s < 2 ^ n) : gatK rl gn meet n (k + 1) = rl.getD k [] := by
  unfold gatK
  rw [anyK_succ, h, Bool.or_true]
  show grpK rl gn meet n (k + 1) = _
  refine List.ext_getElem (by rw [hl]; unfold grpK; rw [List.length_map, List.length_range]) fun i h1 h2 => ?_
  simp only [grpK, List.getElem_map, List.getElem_range]
  rw [fold_snoc, grpK_none hn]
  unfold grpS grpI
  rw [h]
  have e : (rl.getD k []).getD i 0 = (rl.getD k [])[i] := by rw [List.getD_eq_getElem?_getD, List.getElem?_eq_getElem h2]; rfl
  rw [e]
  have hs := hlow _ (List.getElem_mem h2)
  cases meet
  · simp
  · simp only [↓reduceIte]
    refine Nat.eq_of_testBit_eq fun j => ?_
    rw [Nat.testBit_and, allw_bit]
    cases hj : ((rl.getD k [])[i]).testBit j
    · simp
    · rw [decide_eq_true (bit_lt hs hj)]; rfl
theorem gatK_all {rl : List (List Nat)} {gn n : Nat} {meet : Bool} (h1 : 1 ≤ gn) (hg : gn < 2 ^ rl.length) : gatK rl gn meet n rl.length = (List.range n).map (grpN rl gn meet n) := by
  have ha : anyK gn rl.length = true := by
    obtain ⟨i, hi⟩ := Nat.exists_testBit_of_ne_zero (show gn ≠ 0 by omega)
    exact List.any_eq_true.2 ⟨i, List.mem_range.2 (bit_lt hg hi), hi⟩
  unfold gatK
  rw [ha]
  rfl
theorem gatK_len {rl : List (List Nat)} {gn n k : Nat} {meet : Bool} (h : anyK gn k = true) : (gatK rl gn meet n k).length = n := by
  unfold gatK; rw [h]; unfold grpK; simp
/-- A row on its way from one agent to the next. -/
def midK (J : Nat → Nat → Nat) (o r : List Nat) (k : Nat) : List Nat := (List.range o.length).map fun i => if i < k then J (o.getD i 0) (r.getD i 0) else o.getD i 0
theorem midK_zero (J : Nat → Nat → Nat) (o r : List Nat) : midK J o r 0 = o := by
  refine List.ext_getElem (by simp [midK]) fun i h1 h2 => ?_
  simp only [midK, List.getElem_map, List.getElem_range]
  rw [if_neg (Nat.not_lt_zero _), List.getD_eq_getElem?_getD, List.getElem?_eq_getElem h2]
  rfl
theorem midK_len (J : Nat → Nat → Nat) (o r : List Nat) (k : Nat) : (midK J o r k).length = o.length := by simp [midK]
theorem midK_get {J : Nat → Nat → Nat} {o r : List Nat} {k i : Nat} (hi : i < o.length) : (midK J o r k).getD i 0 = if i < k then J (o.getD i 0) (r.getD i 0) else o.getD i 0 := by
  unfold midK
  rw [List.getD_eq_getElem?_getD, List.getElem?_map, List.getElem?_range hi]
  rfl
theorem midK_step {J : Nat → Nat → Nat} {o r : List Nat} {k : Nat} (_hk : k < o.length) : (midK J o r k).set k (J (o.getD k 0) (r.getD k 0)) = midK J o r (k + 1) := by
  refine List.ext_getElem (by simp [midK]) fun i h1 h2 => ?_
  have hi : i < o.length := by rw [midK_len] at h2; exact h2
  rw [List.getElem_set]
  split
  · rename_i e
    subst e
    simp only [midK, List.getElem_map, List.getElem_range]
    rw [if_pos (Nat.lt_succ_self _)]
  · rename_i e
    simp only [midK, List.getElem_map, List.getElem_range]
    by_cases h3 : i < k
    · rw [if_pos h3, if_pos (by omega)]
    · rw [if_neg h3, if_neg (by omega)]
theorem gatK_next {rl : List (List Nat)} {gn n k : Nat} {meet : Bool} (h : gn.testBit k = true) (hn : anyK gn k = true) : midK (fun x y => if meet then x &&& y else x ||| y) (gatK rl gn meet n k) (rl.getD k []) n = gatK rl gn meet n (k + 1) := by
  have hl := gatK_len (rl := rl) (n := n) (meet := meet) hn
  refine List.ext_getElem (by rw [midK_len, hl, gatK_len (by rw [anyK_succ, hn]; rfl)]) fun i h1 h2 => ?_
  have hi : i < n := by rw [midK_len, hl] at h1; exact h1
  simp only [midK, List.getElem_map, List.getElem_range, gatK, anyK_succ, hn, Bool.true_or, cond_true, grpK]
  rw [if_pos hi, fold_snoc, List.getD_eq_getElem?_getD, List.getElem?_map, List.getElem?_range hi]
  simp only [Option.map_some, Option.getD_some]
  unfold grpS
  rw [h]
  cases meet <;> rfl
end Go.Proofs.YtdpblciohodgcaaDoor

/- A region that draws its order and whose last operation writes what the others read: one condition on the world serves up to that operation. -/

namespace Go.Proofs.YtdpblciohodgcaaDoor
open Go.RowKit

section
variable {P : Program} {ops : Array Oper} {Q : Exit → Act → World → Prop} {md : Region.Mode} {S : World → Prop} {z : Nat}

/-- Whatever order is picked; S holds behind each operation but number z. -/
def OrdU (P : Program) (md : Region.Mode) (ops : Array Oper) (Q : Exit → Act → World → Prop) (S : World → Prop) (z : Nat) : Nat → Array Bool → Act → World → Prop
  | 0, up, a, w => Region.ready md ops up = [] ∧ Q .normal a w
  | n + 1, up, a, w => (Region.ready md ops up = [] → Q .normal a w) ∧ ∀ i ∈ Region.ready md ops up, wpOp P ops Q i (fun b v => (i ≠ z → S v) ∧ OrdU P md ops Q S z n (up.setIfInBounds i true) b v) a w
theorem OrdU.any : ∀ (n : Nat) (up : Array Bool) (a : Act) (w : World), OrdU P md ops Q S z n up a w → wpAny P md ops Q n up a w
  | 0, _, _, _, h => h
  | n + 1, _, _, _, h => ⟨h.1, fun i hi => wpOp_mono (fun b v g => OrdU.any n _ b v g.2) (h.2 i hi)⟩
/-- Number z waits for number i. -/
def WaitsFor (md : Region.Mode) (ops : Array Oper) (z i : Nat) : Prop := ∀ o, ops[z]? = some o → ∃ e ∈ o.after, Region.binds md e = true ∧ e.on = i
theorem up_both {up : Array Bool} {i : Nat} (h0 : up.getD i true = false) (h1 : up.getD i false = true) : False := by
  rcases Nat.lt_or_ge i up.size with h' | h'
  · simp [h'] at h0 h1; rw [h0] at h1; cases h1
  · simp [Array.getElem?_eq_none h'] at h1
theorem OrdU.first {i : Nat} {oi : Oper} {v : Value} (hi : ops[i]? = some oi) (hsel : ∀ (j : Nat) (o : Oper) cs b, ops[j]? = some o → o.op ≠ .select cs b) (hQ : ∀ c a w, Q (.panic c) (a.put oi.dst v) w → Q (.panic c) a w)
    (hz : WaitsFor md ops z i) : ∀ (n : Nat) (up : Array Bool) (a : Act) (w : World),
      (∀ j oj, ops[j]? = some oj → j ≠ i → up.getD j true = false → (∀ e ∈ oj.after, Region.binds md e = true → e.on ≠ i) → oi.apart ops oj = true) →
      i ∈ Region.ready md ops up → YieldsIf P ops S oi v a → S w → OrdU P md ops Q S z n (up.setIfInBounds i true) (a.put oi.dst v) w → OrdU P md ops Q S z (n + 1) up a w
  | 0, up, a, w, _, hr, hy, hS, H => ⟨fun h => (by rw [h] at hr; cases hr), fun j hj => by
      by_cases e : j = i
      · subst e; exact hy.wpOp hi hS ⟨fun _ => hS, H⟩
      · have h2 := ready_mono hj e
        rw [H.1] at h2
        cases h2⟩
  | n + 1, up, a, w, hfree, hr, hy, hS, H => ⟨fun h => (by rw [h] at hr; cases hr), fun j hj => by
      by_cases e : j = i
      · subst e; exact hy.wpOp hi hS ⟨fun _ => hS, H⟩
      · obtain ⟨hjun, oj, hoj, hall⟩ := mem_ready.1 hj
        have hiun := (mem_ready.1 hr).1
        have hnot : ∀ e ∈ oj.after, Region.binds md e = true → e.on ≠ i := fun d hd hb hq => up_both hiun (by have := hall d hd hb; rwa [hq] at this)
        have hjz : j ≠ z := fun hjz => by
          subst hjz
          obtain ⟨d, hd, hb, hq⟩ := hz oj hoj
          exact hnot d hd hb hq
        have h2 := wpOp_putIf hoj (hfree j oj hoj e hjun hnot) (fun cs b => hsel i oi cs b hi) (fun cs b => hsel j oj cs b hoj) hQ hy (H.2 j (ready_mono hj e))
        refine wpOp_mono (fun b v h3 => ⟨h3.2.1, OrdU.first hi hsel hQ hz n (up.setIfInBounds j true) b v (fun k ok hk hki hun hno => hfree k ok hk hki ?_ hno) (ready_mono hr (Ne.symm e)) h3.1 (h3.2.1 hjz) ?_⟩) h2
        · by_cases hjk : j = k
          · subst hjk; exact hjun
          · rw [getD_set_ne true hjk] at hun; exact hun
        · rw [Array.setIfInBounds_comm _ _ e]
          exact h3.2.2⟩
def waitsB (md : Region.Mode) (ops : Array Oper) (z i : Nat) : Bool := match ops[z]? with | none => true | some o => o.after.any fun e => Region.binds md e && e.on == i
theorem waits_of {i : Nat} (h : waitsB md ops z i = true) : WaitsFor md ops z i := by
  intro o ho
  unfold waitsB at h
  rw [ho] at h
  simp only [Array.any_eq_true'] at h
  obtain ⟨e, he, hb⟩ := h
  rw [Bool.and_eq_true] at hb
  exact ⟨e, he, hb.1, eq_of_beq hb.2⟩
theorem ordU_take {i : Nat} {oi : Oper} {v : Value} {n : Nat} {up : Array Bool} {a : Act} {w : World} (hi : ops[i]? = some oi) (hs : Region.noSelect ops = true) (hf : Region.free md ops up i = true) (hr : (Region.ready md ops up).contains i = true)
    (hz : waitsB md ops z i = true) (hQ : ∀ c a w, Q (.panic c) (a.put oi.dst v) w → Q (.panic c) a w) (hy : YieldsIf P ops S oi v a) (hS : S w)
    (h : OrdU P md ops Q S z n (up.setIfInBounds i true) (a.put oi.dst v) w) : OrdU P md ops Q S z (n + 1) up a w :=
  OrdU.first hi (Region.noSelect_spec hs) hQ (waits_of hz) n up a w (Region.free_spec hi hf) (by simpa using hr) hy hS h
def AllU (P : Program) (md : Region.Mode) (ops : Array Oper) (Q : Exit → Act → World → Prop) (S : World → Prop) (z n : Nat) (up : Array Bool) (a : Act) (w : World) (rs : List Nat) : Prop :=
  ∀ i ∈ rs, wpOp P ops Q i (fun b v => (i ≠ z → S v) ∧ OrdU P md ops Q S z n (up.setIfInBounds i true) b v) a w
theorem ordU_ready {rs : List Nat} {n : Nat} {up : Array Bool} {a : Act} {w : World} (hr : Region.ready md ops up = rs) (hne : rs ≠ []) (h : AllU P md ops Q S z n up a w rs) : OrdU P md ops Q S z (n + 1) up a w :=
  ⟨fun h0 => absurd (hr ▸ h0) hne, hr ▸ h⟩
theorem AllU.nil {n : Nat} {up : Array Bool} {a : Act} {w : World} : AllU P md ops Q S z n up a w [] := fun _ h => by cases h
theorem AllU.cons {n : Nat} {up : Array Bool} {a : Act} {w : World} {i : Nat} {o : Oper} {rs : List Nat} (ho : ops[i]? = some o)
    (h : ∀ K : Act → World → Prop, Hid (∀ a w, S w → (S w → OrdU P md ops Q S z n (up.setIfInBounds i true) a w) → K a w) → if Region.wanted o (yielded ops a.tmps) = true then Oper.wp P o a w K Q else K (a.put o.dst undef) w)
    (hs : AllU P md ops Q S z n up a w rs) : AllU P md ops Q S z n up a w (i :: rs) := fun j hj => by
  rcases List.mem_cons.1 hj with rfl | hj
  · exact wpOp_step ho (fun K hK => h K (Lib.hid (fun a w hS hW => hK a w ⟨fun _ => hS, hW hS⟩)))
  · exact hs j hj
/-- The last operation: behind it nothing is asked of the world. -/
theorem ordU_last {n : Nat} {up : Array Bool} {a : Act} {w : World} {o : Oper} (hr : Region.ready md ops up = [z]) (ho : ops[z]? = some o)
    (h : ∀ K : Act → World → Prop, Hid (∀ a w, OrdU P md ops Q S z n (up.setIfInBounds z true) a w → K a w) → if Region.wanted o (yielded ops a.tmps) = true then Oper.wp P o a w K Q else K (a.put o.dst undef) w) : OrdU P md ops Q S z (n + 1) up a w :=
  ⟨fun h0 => (by rw [hr] at h0; cases h0), fun j hj => by
    rw [hr, List.mem_singleton] at hj
    subst hj
    exact wpOp_step ho (fun K hK => h K (Lib.hid (fun a w hW => hK a w ⟨fun hne => absurd rfl hne, hW⟩)))⟩
theorem ordU_done {up : Array Bool} {a : Act} {w : World} (hr : Region.ready md ops up = []) (h : Q .normal a w) : ∀ n, OrdU P md ops Q S z n up a w
  | 0 => ⟨hr, h⟩
  | _ + 1 => ⟨fun _ => h, by rw [hr]; simp⟩
theorem ordU_region {id : Nat} {a : Act} {w : World} (z : Nat) (S : World → Prop) (hm : P.follows .mixedOrders = true) (hS : S w.drew) (h : S w.drew → OrdU P .any ops Q S z ops.size (Array.replicate ops.size false) a w.drew) : (Code.region id ops true).wp P Q a w :=
  wp_region_any hm (OrdU.any _ _ _ _ (h hS))
end
end Go.Proofs.YtdpblciohodgcaaDoor

/- Short forms of the moves of a walk by RegU. -/

namespace Go.Proofs.YtdpblciohodgcaaDoor
open Go.RowKit

section
variable {P : Program} {md : Region.Mode} {ops : Array Oper} {Q : Exit → Act → World → Prop} {S : World → Prop} {z : Nat}
theorem utk (i : Nat) {oi : Oper} {v : Value} {n : Nat} {up : Array Bool} {a a' : Act} {w : World} (hS : S w)
    (h : OrdU P md ops Q S z n (up.setIfInBounds i true) a' w)
    (hi : ops[i]? = some oi := by exact rfl) (hs : Region.noSelect ops = true := by kernel_rfl) (hf : Region.free md ops up i = true := by kernel_rfl) (hr : (Region.ready md ops up).contains i = true := by kernel_rfl) (hz : waitsB md ops z i = true := by kernel_rfl)
    (hy : YieldsIf P ops S oi v a := by refine Or.inl ⟨by rfl, ?_⟩; intro w' hSw; (try dsimp only at hSw); go_simp; (try with_reducible rfl))
    (hQ : ∀ c a w, Q (.panic c) (a.put oi.dst v) w → Q (.panic c) a w := by exact fun _ _ _ h => h)
    (ha : a.put oi.dst v = a' := by (try simp only [Act.put, List.setIfInBounds_toArray, List.set_cons_zero, List.set_cons_succ, List.getElem_toArray, List.getElem_cons_succ, List.getElem_cons_zero]); exact rfl) : OrdU P md ops Q S z (n + 1) up a w :=
  ordU_take hi hs hf hr hz hQ hy hS (by rw [ha]; exact h)
end
section
variable {a b : World} {p : Addr} {v : Value}
theorem xd (hb : p.block < a.heap.size) (f : a.cell? p = some v) (h : Ext a b := by repeat (first | exact Ext.refl _ | assumption | apply Ext.alloc | apply Ext.drew | apply Ext.setCell)) : b.cell? p = some v := (h.cell hb).trans f
theorem xv (e : Ext a b := by repeat (first | exact Ext.refl _ | assumption | apply Ext.alloc | apply Ext.drew | apply Ext.setCell)) : Ext a b := e
end
end Go.Proofs.YtdpblciohodgcaaDoor
