/- The reference of natural deduction as Lean functions of the proof's lines. -/
import Derived.Test.YtipnbfbakohcaaaDoorG9
import Derived.Test.YtipnbfbakohcaaaDoorF8
import Derived.Test.YtipnbfbakohcaaaDoorF6
import Derived.Handy
import Derived.Test.YtipnbfbakohcaaaDoorG8

namespace Go.Proofs.YtipnbfbakohcaaaDoor

/-- The stacks of the lines up to the first wrong depth, and its place. -/
def stacksR : List Ln → List Int → List (List Int) → Nat → List (List Int) × Nat
  | [], _, out, i => (out, i)
  | n :: r, now, out, i =>
    bif decide (n.depth < 0) || (decide ((bif opensL n then (now.length : Int) + 1 else (now.length : Int)) < n.depth) || (opensL n && decide (n.depth < 1))) then (out, i)
    else bif opensL n then stacksR r (now.take (n.depth - 1).toNat ++ [(i : Int)]) (out ++ [now.take (n.depth - 1).toNat ++ [(i : Int)]]) (i + 1)
    else stacksR r (now.take n.depth.toNat) (out ++ [now.take n.depth.toNat]) (i + 1)
def boxesGoR (ls : List Ln) : List Int → Int → Int → Int × Int
  | [], n, a => (n, a)
  | o :: r, n, a => bif (lineAt ls o).rule == 2 then boxesGoR ls r (n + 1) (lineAt ls o).agent else boxesGoR ls r n a
def boxesR (ls : List Ln) (s : List (List Int)) (i : Nat) (outer : List Int) : Int × Int :=
  bif decide ((s.getD i []).take outer.length = outer) then boxesGoR ls ((s.getD i []).drop outer.length) 0 0 else (-1, 0)
def fromR (ls : List Ln) (i : Nat) (k : Nat) : Option Int :=
  let l := (ls.getD i Ln.zero).from_
  bif decide (l.length ≤ k) || (decide (l.getD k 0 < 0) || decide ((i : Int) ≤ l.getD k 0)) then none else some (l.getD k 0)
def lineR (ls : List Ln) (s : List (List Int)) (i k : Nat) : List Nd :=
  match fromR ls i k with
  | none => []
  | some o => bif (boxesR ls s i (s.getD o.toNat [])).1 != 0 then [] else (lineAt ls o).f
def inR (s : List (List Int)) (d : Nat) (o : Int) (j : Nat) : Bool := decide (d ≤ (s.getD j []).length) && ((s.getD j []).getD (d - 1) 0 == o)
def lastR (s : List (List Int)) (d : Nat) (o : Int) (i : Nat) : Nat → Nat → Nat
  | 0, last => last
  | k + 1, last => lastR s d o i k (bif inR s d o (i - (k + 1)) then i - (k + 1) else last)
def subproofR (ls : List Ln) (s : List (List Int)) (i k : Nat) (rule : Int) : List Nd × List Nd × Int :=
  match fromR ls i k with
  | none => ([], [], 0)
  | some o =>
    bif (lineAt ls o).rule != rule then ([], [], 0)
    else bif inR s (s.getD o.toNat []).length o i then ([], [], 0)
    else bif (boxesR ls s i ((s.getD o.toNat []).take ((s.getD o.toNat []).length - 1))).1 != 0 then ([], [], 0)
    else bif decide ((s.getD (lastR s (s.getD o.toNat []).length o i (i - o.toNat) o.toNat) []).length = (s.getD o.toNat []).length) then
      ((lineAt ls o).f, (ls.getD (lastR s (s.getD o.toNat []).length o i (i - o.toNat) o.toNat) Ln.zero).f, (lineAt ls o).agent)
    else ([], [], 0)
def firstN (f : List Nd) : List Nd := subN f (lastN f).x
def secondN (f : List Nd) : List Nd := subN f (lastN f).y
def twoR (f : List Nd) (op : Int) (a b : List Nd) : Bool := (lastN f).op == op && (sameN (firstN f) a && sameN (secondN f) b)
def negR (f g : List Nd) : Bool := (lastN f).op == 4 && sameN (firstN f) g
def propR (ls : List Ln) (s : List (List Int)) (i : Nat) : Bool :=
  let n := ls.getD i Ln.zero
  let f := n.f
  let m := n.from_.length
  let a := lineR ls s i 0
  let b := lineR ls s i 1
  bif n.rule == 3 then m == 1 && sameN a f
  else bif n.rule == 4 then m == 2 && twoR f 5 a b
  else bif n.rule == 5 then m == 1 && ((lastN a).op == 5 && (sameN (firstN a) f || sameN (secondN a) f))
  else bif n.rule == 6 then m == 1 && ((lastN f).op == 6 && (sameN (firstN f) a || sameN (secondN f) a))
  else bif n.rule == 9 then m == 2 && twoR b 7 a f
  else bif n.rule == 11 then m == 2 && (negR b a && (lastN f).op == 2)
  else bif n.rule == 13 then m == 1 && (lastN a).op == 2
  else bif n.rule == 14 then m == 0 && (lastN f).op == 1
  else bif n.rule == 15 then
    bif m == 2 then (lastN a).op == 7 && (twoR b 7 (secondN a) (firstN a) && twoR f 8 (firstN a) (secondN a))
    else m == 1 && ((lastN a).op == 8 && (twoR f 7 (firstN a) (secondN a) || twoR f 7 (secondN a) (firstN a)))
  else false
def closR (ls : List Ln) (s : List (List Int)) (i : Nat) : Bool :=
  let n := ls.getD i Ln.zero
  let f := n.f
  let m := n.from_.length
  bif n.rule == 7 then
    m == 3 && (twoR (lineR ls s i 0) 6 (subproofR ls s i 1 1).1 (subproofR ls s i 2 1).1 && (sameN (subproofR ls s i 1 1).2.1 f && sameN (subproofR ls s i 2 1).2.1 f))
  else bif n.rule == 8 then m == 1 && twoR f 7 (subproofR ls s i 0 1).1 (subproofR ls s i 0 1).2.1
  else bif n.rule == 10 then m == 1 && ((lastN (subproofR ls s i 0 1).2.1).op == 2 && negR f (subproofR ls s i 0 1).1)
  else bif n.rule == 12 then m == 1 && ((lastN (subproofR ls s i 0 1).2.1).op == 2 && negR (subproofR ls s i 0 1).1 f)
  else bif n.rule == 16 then m == 1 && ((lastN f).op == 9 && ((lastN f).i == (subproofR ls s i 0 2).2.2 && sameN (firstN f) (subproofR ls s i 0 2).2.1))
  else false
def importR (lg : Int) (ls : List Ln) (s : List (List Int)) (i : Nat) : Bool :=
  let n := ls.getD i Ln.zero
  let f := n.f
  bif n.from_.length != 1 || (decide (n.from_.getD 0 0 < 0) || decide ((i : Int) ≤ n.from_.getD 0 0)) then false
  else
    let b := boxesR ls s i (s.getD (n.from_.getD 0 0).toNat [])
    let a := (lineAt ls (n.from_.getD 0 0)).f
    bif b.1 != 1 then false
    else bif (lastN a).op == 9 && (lastN a).i == b.2 then sameN (firstN a) f || (inL [3, 4, 5, 6] lg && sameN a f)
    else
      let g := bif (lastN a).op == 4 then firstN a else a
      ((lastN a).op == 10 || ((lastN a).op == 4 && (lastN g).op == 9)) && ((lastN g).i == b.2 && (inL [5, 6] lg && sameN a f))
def dualR (f g : List Nd) : Bool :=
  (lastN f).op == 10 && ((lastN g).op == 4 && ((lastN (firstN g)).op == 9 && ((lastN (firstN g)).i == (lastN f).i && negR (firstN (firstN g)) (firstN f))))
def modalR (lg : Int) (ls : List Ln) (s : List (List Int)) (i : Nat) : Bool :=
  let n := ls.getD i Ln.zero
  let f := n.f
  let a := lineR ls s i 0
  bif n.from_.length != 1 || decide (a.length = 0) then false
  else bif n.rule == 18 then inL [2, 4, 6] lg && ((lastN a).op == 9 && sameN (firstN a) f)
  else bif n.rule == 19 then dualR a f || dualR f a
  else bif n.rule == 20 then inL [1, 5] lg && ((lastN a).op == 9 && ((lastN f).op == 10 && ((lastN a).i == (lastN f).i && sameN (firstN a) (firstN f))))
  else false
def followsR (lg : Int) (ls : List Ln) (s : List (List Int)) (i : Nat) : Bool :=
  let n := ls.getD i Ln.zero
  bif n.rule != 2 && n.agent != 0 then false
  else bif n.rule == 1 then decide (n.from_.length = 0)
  else bif n.rule == 2 then decide (n.from_.length = 0) && (lastN n.f).op == 1
  else bif n.rule == 17 then importR lg ls s i
  else propR ls s i || (closR ls s i || modalR lg ls s i)
def chkR (lg : Int) (ls : List Ln) (s : List (List Int)) (wrong : Nat) : List Ln → Nat → Int × Int
  | [], _ => (0, 0)
  | n :: r, i =>
    bif check n.f != 0 then ((i : Int), check n.f)
    else bif decide (2 ≤ fragsN n.f) then ((i : Int), 10)
    else bif decide (wrong ≤ i) || (decide (n.agent < 0) || decide (4 ≤ n.agent)) then ((i : Int), 3)
    else bif followsR lg ls s i then chkR lg ls s wrong r (i + 1) else ((i : Int), 13)
def checkR (lg : Int) (ls : List Ln) : Int × Int :=
  bif decide (lg < 0) || decide (6 < lg) then (0, 1) else bif decide (400 < ls.length) then (0, 8) else bif decide (ls.length = 0) then (0, 3)
  else chkR lg ls (stacksR ls [] [] 0).1 (stacksR ls [] [] 0).2 ls 0
end Go.Proofs.YtipnbfbakohcaaaDoor

/- The small functions of the reference of natural deduction: walks. -/

namespace Go.Proofs.YtipnbfbakohcaaaDoor
open Go.RowKit
section
variable {w : World}
theorem rsame_any (v1 v2 : Value) (l1 l2 : List Nd) (w : World) (h1 : Fml w v1 l1) (h2 : Fml w v2 l2) :
    Calls Tryd.prog 65 #[v1, v2] w fun e w' => e = .returned (.bool (sameN l1 l2)) ∧ Ext w w' := by
  have H1 := Lib.hid h1
  have H2 := Lib.hid h2
  obtain ⟨A1, c1, rfl, _⟩ := fml_slice h1
  obtain ⟨A2, c2, rfl, _⟩ := fml_slice h2
  clear h1 h2
  go_enter Tryd.func65, Tryd.ntmps65
  go_wp2_with fail
  refine (refSame_any _ _ l1 l2 _ H1.out H2.out).mono ?_
  rintro e w' ⟨rfl, hx⟩
  go_wp2_with fail
  go_ret
  exact ⟨rfl, hx⟩
theorem transitive_any (lg : Int) (h : 0 ≤ lg ∧ lg ≤ 6) (w : World) : Calls Tryd.prog 67 #[.int .i64 lg] w fun e w' => e = .returned (.bool (inL [3, 4, 5, 6] lg)) ∧ Ext w w' := by
  rcases (show lg = 0 ∨ lg = 1 ∨ lg = 2 ∨ lg = 3 ∨ lg = 4 ∨ lg = 5 ∨ lg = 6 by omega) with rfl | rfl | rfl | rfl | rfl | rfl | rfl <;>
    (go_enter Tryd.func67, Tryd.ntmps67
     go_wp2_with fail
     go_ret
     exact ⟨same_of rfl, Ext.refl _⟩)
theorem euclidean_any (lg : Int) (h : 0 ≤ lg ∧ lg ≤ 6) (w : World) : Calls Tryd.prog 68 #[.int .i64 lg] w fun e w' => e = .returned (.bool (inL [5, 6] lg)) ∧ Ext w w' := by
  rcases (show lg = 0 ∨ lg = 1 ∨ lg = 2 ∨ lg = 3 ∨ lg = 4 ∨ lg = 5 ∨ lg = 6 by omega) with rfl | rfl | rfl | rfl | rfl | rfl | rfl <;>
    (go_enter Tryd.func68, Tryd.ntmps68
     go_wp2_with fail
     go_ret
     exact ⟨same_of rfl, Ext.refl _⟩)
theorem reflexive_any (lg : Int) (h : 0 ≤ lg ∧ lg ≤ 6) (w : World) : Calls Tryd.prog 74 #[.int .i64 lg] w fun e w' => e = .returned (.bool (inL [2, 4, 6] lg)) ∧ Ext w w' := by
  rcases (show lg = 0 ∨ lg = 1 ∨ lg = 2 ∨ lg = 3 ∨ lg = 4 ∨ lg = 5 ∨ lg = 6 by omega) with rfl | rfl | rfl | rfl | rfl | rfl | rfl <;>
    (go_enter Tryd.func74, Tryd.ntmps74
     go_wp2_with fail
     go_ret
     exact ⟨same_of rfl, Ext.refl _⟩)
theorem rserial_any (lg : Int) (h : 0 ≤ lg ∧ lg ≤ 6) (w : World) : Calls Tryd.prog 76 #[.int .i64 lg] w fun e w' => e = .returned (.bool (inL [1, 5] lg)) ∧ Ext w w' := by
  rcases (show lg = 0 ∨ lg = 1 ∨ lg = 2 ∨ lg = 3 ∨ lg = 4 ∨ lg = 5 ∨ lg = 6 by omega) with rfl | rfl | rfl | rfl | rfl | rfl | rfl <;>
    (go_enter Tryd.func76, Tryd.ntmps76
     go_wp2_with fail
     go_ret
     exact ⟨same_of rfl, Ext.refl _⟩)
end
end Go.Proofs.YtipnbfbakohcaaaDoor

/- The reference's top: the last node of a formula. -/

namespace Go.Proofs.YtipnbfbakohcaaaDoor
open Go.RowKit
theorem range6 {w : World} {b : Nat} {a0 a1 a2 a3 a4 a5 : Value} {t : TypeId} (h : w.heap[b]? = some (.cells #[a0, a1, a2, a3, a4, a5] t (0, 0))) : w.rangeAt b 0 [a0, a1, a2, a3, a4, a5] := fun j v hj => by
  match j, hj with
  | 0, hj => simp at hj; subst hj; simp [World.cell?, h]
  | 1, hj => simp at hj; subst hj; simp [World.cell?, h]
  | 2, hj => simp at hj; subst hj; simp [World.cell?, h]
  | 3, hj => simp at hj; subst hj; simp [World.cell?, h]
  | 4, hj => simp at hj; subst hj; simp [World.cell?, h]
  | 5, hj => simp at hj; subst hj; simp [World.cell?, h]
set_option maxRecDepth 100000 in
set_option maxHeartbeats 4000000 in
theorem top_any (v : Value) (f : List Nd) (w : World) (h : Fml w v f) :
    Calls Tryd.prog 49 #[v] w fun e w' => e = .returned (lastN f).val ∧ Ext w w' := by
  have H := Lib.hid h
  obtain ⟨⟨A, c, rfl, hcap, hmax, hread⟩, hok⟩ := h
  by_cases h0 : f.length = 0
  · have hn : f = [] := List.length_eq_zero_iff.1 h0
    subst hn
    go_enter Tryd.func49, Tryd.ntmps49
    go_wp2_with fail
    (try simp only [Exit.inBlock, Exit.then])
    refine bodyPost_ret (results_cell Tryd.results49 _ _ rfl (range6 (heap_alloc_new _ _)) Tryd.underlying60 rfl (by kernel_rfl)) rfl ?_
    exact ⟨rfl, (Ext.refl _).alloc _⟩
  · have hlt : f.length - 1 < f.length := by omega
    have hget := lastN_get (f := f) (by omega)
    obtain ⟨ad, rfl, hblk, hcells⟩ := hread (by intro e; rw [e] at h0; exact h0 rfl)
    have HR := hcells _ _ hget
    obtain ⟨c0, c1, c2, c3, c4, c5⟩ := HR
    have hi1 : ((f.length : Int) - 1) < (f.length : Int) := by omega
    have hi0 : (0 : Int) ≤ (f.length : Int) - 1 := by omega
    have e1 : ((f.length : Int) - 1).toNat = f.length - 1 := by omega
    have i1 : (f.length : Int) ≠ 0 := by omega
    have i2 : ((f.length : Int) == 0) = false := beq_eq_false_iff_ne.2 (by omega)
    have hw : wrap64 ((f.length : Int) - 1) = (f.length : Int) - 1 := by
      unfold maxLen at hmax
      unfold wrap64
      omega
    have HA := Lib.hid (show Ext w (w.alloc (.cells #[.int .i64 0, .int .i64 0, .int .i64 0, .int .i64 0, .int .i64 0, .int .i64 0] 60)) from (Ext.refl _).alloc _)
    have d0 := (HA.out.cell (by rw [block_of_add]; exact hblk)).trans c0
    have d1 := (HA.out.cell (by show (ad.add _).block < _; rw [block_of_add]; exact hblk)).trans c1
    have d2 := (HA.out.cell (by show (ad.add _).block < _; rw [block_of_add]; exact hblk)).trans c2
    have d3 := (HA.out.cell (by show (ad.add _).block < _; rw [block_of_add]; exact hblk)).trans c3
    have d4 := (HA.out.cell (by show (ad.add _).block < _; rw [block_of_add]; exact hblk)).trans c4
    have d5 := (HA.out.cell (by show (ad.add _).block < _; rw [block_of_add]; exact hblk)).trans c5
    clear hread hok hcells hget c0 c1 c2 c3 c4 c5 hlt
    clear i1
    go_enter Tryd.func49, Tryd.ntmps49
    go_wp2_with fail
    (try simp only [Exit.inBlock, Exit.then])
    refine bodyPost_ret (results_cell Tryd.results49 _ _ rfl (range6 (heap_alloc_new _ _)) Tryd.underlying60 rfl (by kernel_rfl)) rfl ?_
    exact ⟨rfl, (Ext.refl _).alloc _⟩
end Go.Proofs.YtipnbfbakohcaaaDoor

/- The reference's first, second, negated, two: the operands of a formula. -/

namespace Go.Proofs.YtipnbfbakohcaaaDoor
open Go.RowKit
set_option maxRecDepth 100000 in
theorem first_any (v : Value) (f : List Nd) (w : World) (h : Fml w v f) :
    Calls Tryd.prog 66 #[v] w fun e w' => ∃ u, e = .returned u ∧ Ext w w' ∧ Fml w' u (firstN f) := by
  have H := Lib.hid h
  obtain ⟨A, c, rfl, _⟩ := fml_slice h
  clear h
  go_enter Tryd.func66, Tryd.ntmps66
  go_wp2_with fail
  refine (top_any _ f _ H.out).mono ?_
  rintro e w1 ⟨rfl, hx⟩
  have HX := Lib.hid hx
  clear hx
  have hfe : Sem.run Tryd.prog (Instr.field 60 (.agg #[.int .i64 (lastN f).op, .int .i64 (lastN f).i, .int .i64 (lastN f).e, .int .i64 (lastN f).g, .int .i64 (lastN f).x, .int .i64 (lastN f).y]) 4) w1 = .ok (.int .i64 (lastN f).x) w1 := rfl
  unfold Nd.val
  go_wp2_with fail
  refine (refSub_any _ f (lastN f).x _ (H.out.ext HX.out)).mono ?_
  rintro e w2 ⟨u, rfl, hm⟩
  have HM := Lib.hid hm
  clear hm
  go_wp2_with fail
  go_ret
  exact ⟨_, rfl, HX.out.trans HM.out.2.2, HM.out.fml⟩
set_option maxRecDepth 100000 in
theorem second_any (v : Value) (f : List Nd) (w : World) (h : Fml w v f) :
    Calls Tryd.prog 71 #[v] w fun e w' => ∃ u, e = .returned u ∧ Ext w w' ∧ Fml w' u (secondN f) := by
  have H := Lib.hid h
  obtain ⟨A, c, rfl, _⟩ := fml_slice h
  clear h
  go_enter Tryd.func71, Tryd.ntmps71
  go_wp2_with fail
  refine (top_any _ f _ H.out).mono ?_
  rintro e w1 ⟨rfl, hx⟩
  have HX := Lib.hid hx
  clear hx
  have hfe : Sem.run Tryd.prog (Instr.field 60 (.agg #[.int .i64 (lastN f).op, .int .i64 (lastN f).i, .int .i64 (lastN f).e, .int .i64 (lastN f).g, .int .i64 (lastN f).x, .int .i64 (lastN f).y]) 5) w1 = .ok (.int .i64 (lastN f).y) w1 := rfl
  unfold Nd.val
  go_wp2_with fail
  refine (refSub_any _ f (lastN f).y _ (H.out.ext HX.out)).mono ?_
  rintro e w2 ⟨u, rfl, hm⟩
  have HM := Lib.hid hm
  clear hm
  go_wp2_with fail
  go_ret
  exact ⟨_, rfl, HX.out.trans HM.out.2.2, HM.out.fml⟩
end Go.Proofs.YtipnbfbakohcaaaDoor

/- The reference's negated and two. -/

namespace Go.Proofs.YtipnbfbakohcaaaDoor
open Go.RowKit
set_option maxRecDepth 100000 in
theorem node_field (n : Nd) (w : World) : Sem.run Tryd.prog (Instr.field 60 (.agg #[.int .i64 n.op, .int .i64 n.i, .int .i64 n.e, .int .i64 n.g, .int .i64 n.x, .int .i64 n.y]) 0) w = .ok (.int .i64 n.op) w ∧
    Sem.run Tryd.prog (Instr.field 60 (.agg #[.int .i64 n.op, .int .i64 n.i, .int .i64 n.e, .int .i64 n.g, .int .i64 n.x, .int .i64 n.y]) 1) w = .ok (.int .i64 n.i) w := ⟨rfl, rfl⟩
set_option maxRecDepth 100000 in
theorem negated_any (v1 v2 : Value) (f g : List Nd) (w : World) (h1 : Fml w v1 f) (h2 : Fml w v2 g) :
    Calls Tryd.prog 72 #[v1, v2] w fun e w' => e = .returned (.bool (negR f g)) ∧ Ext w w' := by
  have H1 := Lib.hid h1
  have H2 := Lib.hid h2
  obtain ⟨A, c, rfl, _⟩ := fml_slice h1
  obtain ⟨B, d, rfl, _⟩ := fml_slice h2
  clear h1 h2
  go_enter Tryd.func72, Tryd.ntmps72
  go_wp2_with fail
  refine (top_any _ f _ H1.out).mono ?_
  rintro e w1 ⟨rfl, hx⟩
  have HX := Lib.hid hx
  clear hx
  obtain ⟨hf0, _⟩ := node_field (lastN f) w1
  unfold Nd.val
  cases hop : ((lastN f).op == 4)
  · have HE := Lib.hid (show negR f g = false by unfold negR; rw [hop]; rfl)
    go_wp2_with fail
    go_ret
    exact ⟨by rw [HE.out] <;> rfl, HX.out⟩
  · have HE := Lib.hid (show negR f g = sameN (firstN f) g by unfold negR; rw [hop]; rfl)
    go_wp2_with fail
    refine (first_any _ f _ (H1.out.ext HX.out)).mono ?_
    rintro e w2 ⟨u, rfl, hx, hu⟩
    have HX2 := Lib.hid (HX.out.trans hx)
    have HU := Lib.hid hu
    clear hx hu
    go_wp2_with fail
    refine (rsame_any _ _ (firstN f) g _ HU.out (H2.out.ext HX2.out)).mono ?_
    rintro e w3 ⟨rfl, hx⟩
    go_wp2_with fail
    go_ret
    exact ⟨by rw [HE.out] <;> rfl, HX2.out.trans hx⟩
set_option maxRecDepth 100000 in
theorem rtwo_any (v1 v2 v3 : Value) (op : Int) (f a b : List Nd) (w : World) (h1 : Fml w v1 f) (h2 : Fml w v2 a) (h3 : Fml w v3 b) :
    Calls Tryd.prog 70 #[v1, .int .i64 op, v2, v3] w fun e w' => e = .returned (.bool (twoR f op a b)) ∧ Ext w w' := by
  have H1 := Lib.hid h1
  have H2 := Lib.hid h2
  have H3 := Lib.hid h3
  obtain ⟨A, c, rfl, _⟩ := fml_slice h1
  obtain ⟨B, d, rfl, _⟩ := fml_slice h2
  obtain ⟨C, d', rfl, _⟩ := fml_slice h3
  clear h1 h2 h3
  go_enter Tryd.func70, Tryd.ntmps70
  go_wp2_with fail
  refine (top_any _ f _ H1.out).mono ?_
  rintro e w1 ⟨rfl, hx⟩
  have HX := Lib.hid hx
  clear hx
  obtain ⟨hf0, _⟩ := node_field (lastN f) w1
  unfold Nd.val
  cases hop : ((lastN f).op == op)
  · have HE := Lib.hid (show twoR f op a b = false by unfold twoR; rw [hop]; rfl)
    go_wp2_with fail
    go_ret
    exact ⟨by rw [HE.out] <;> rfl, HX.out⟩
  · have HE := Lib.hid (show twoR f op a b = (sameN (firstN f) a && sameN (secondN f) b) by unfold twoR; rw [hop]; rfl)
    go_wp2_with fail
    refine (first_any _ f _ (H1.out.ext HX.out)).mono ?_
    rintro e w2 ⟨u, rfl, hx, hu⟩
    have HX2 := Lib.hid (HX.out.trans hx)
    have HU := Lib.hid hu
    clear hx hu
    go_wp2_with fail
    refine (rsame_any _ _ (firstN f) a _ HU.out (H2.out.ext HX2.out)).mono ?_
    rintro e w3 ⟨rfl, hx⟩
    have HX3 := Lib.hid (HX2.out.trans hx)
    clear hx
    cases hs : sameN (firstN f) a
    · have HE2 := Lib.hid (show twoR f op a b = false by rw [HE.out, hs]; rfl)
      go_wp2_with fail
      go_ret
      exact ⟨by rw [HE2.out] <;> rfl, HX3.out⟩
    · have HE2 := Lib.hid (show twoR f op a b = sameN (secondN f) b by rw [HE.out, hs]; rfl)
      go_wp2_with fail
      refine (second_any _ f _ (H1.out.ext HX3.out)).mono ?_
      rintro e w4 ⟨u2, rfl, hx, hu⟩
      have HX4 := Lib.hid (HX3.out.trans hx)
      have HU2 := Lib.hid hu
      clear hx hu
      go_wp2_with fail
      refine (rsame_any _ _ (secondN f) b _ HU2.out (H3.out.ext HX4.out)).mono ?_
      rintro e w5 ⟨rfl, hx⟩
      go_wp2_with fail
      go_ret
      exact ⟨by rw [HE2.out] <;> rfl, HX4.out.trans hx⟩
end Go.Proofs.YtipnbfbakohcaaaDoor

/- The reference's dual. -/

namespace Go.Proofs.YtipnbfbakohcaaaDoor
open Go.RowKit
set_option maxRecDepth 100000 in
theorem rdual_any (v1 v2 : Value) (f g : List Nd) (w : World) (h1 : Fml w v1 f) (h2 : Fml w v2 g) :
    Calls Tryd.prog 75 #[v1, v2] w fun e w' => e = .returned (.bool (dualR f g)) ∧ Ext w w' := by
  have HF0 := Lib.hid h1
  have HG0 := Lib.hid h2
  obtain ⟨A, c, rfl, _⟩ := fml_slice h1
  obtain ⟨B, d, rfl, _⟩ := fml_slice h2
  clear h1 h2
  go_enter Tryd.func75, Tryd.ntmps75
  go_wp2_with fail
  refine (first_any _ g _ HG0.out).mono ?_
  rintro e w1 ⟨u, rfl, hx, hu⟩
  have X1 := Lib.hid hx
  have HF1 := Lib.hid (HF0.out.ext hx)
  have HG1 := Lib.hid (HG0.out.ext hx)
  have HK1 := Lib.hid hu
  obtain ⟨AK, cK, rfl, _⟩ := fml_slice hu
  clear hx hu
  go_wp2_with fail
  refine (top_any _ f _ HF1.out).mono ?_
  rintro e w2 ⟨rfl, hx⟩
  have X2 := Lib.hid (X1.out.trans hx)
  have HF2 := Lib.hid (HF1.out.ext hx)
  have HG2 := Lib.hid (HG1.out.ext hx)
  have HK2 := Lib.hid (HK1.out.ext hx)
  clear hx
  obtain ⟨fa2, fb2⟩ := node_field (lastN (f)) w2
  unfold Nd.val
  cases q1 : ((lastN f).op == 10)
  · have HE := Lib.hid (show dualR f g = false by unfold dualR; simp [q1])
    go_wp2_with fail
    go_ret
    exact ⟨by rw [HE.out] <;> rfl, X2.out⟩
  go_wp2_with fail
  refine (top_any _ g _ HG2.out).mono ?_
  rintro e w3 ⟨rfl, hx⟩
  have X3 := Lib.hid (X2.out.trans hx)
  have HF3 := Lib.hid (HF2.out.ext hx)
  have HG3 := Lib.hid (HG2.out.ext hx)
  have HK3 := Lib.hid (HK2.out.ext hx)
  clear hx
  obtain ⟨fa3, fb3⟩ := node_field (lastN (g)) w3
  unfold Nd.val
  cases q2 : ((lastN g).op == 4)
  · have HE := Lib.hid (show dualR f g = false by unfold dualR; simp [q1, q2])
    go_wp2_with fail
    go_ret
    exact ⟨by rw [HE.out] <;> rfl, X3.out⟩
  go_wp2_with fail
  refine (top_any _ (firstN g) _ HK3.out).mono ?_
  rintro e w4 ⟨rfl, hx⟩
  have X4 := Lib.hid (X3.out.trans hx)
  have HF4 := Lib.hid (HF3.out.ext hx)
  have HG4 := Lib.hid (HG3.out.ext hx)
  have HK4 := Lib.hid (HK3.out.ext hx)
  clear hx
  obtain ⟨fa4, fb4⟩ := node_field (lastN (firstN g)) w4
  unfold Nd.val
  cases q3 : ((lastN (firstN g)).op == 9)
  · have HE := Lib.hid (show dualR f g = false by unfold dualR; simp [q1, q2, q3])
    go_wp2_with fail
    go_ret
    exact ⟨by rw [HE.out] <;> rfl, X4.out⟩
  go_wp2_with fail
  refine (top_any _ (firstN g) _ HK4.out).mono ?_
  rintro e w5 ⟨rfl, hx⟩
  have X5 := Lib.hid (X4.out.trans hx)
  have HF5 := Lib.hid (HF4.out.ext hx)
  have HG5 := Lib.hid (HG4.out.ext hx)
  have HK5 := Lib.hid (HK4.out.ext hx)
  clear hx
  obtain ⟨fa5, fb5⟩ := node_field (lastN (firstN g)) w5
  unfold Nd.val
  go_wp2_with fail
  refine (top_any _ f _ HF5.out).mono ?_
  rintro e w6 ⟨rfl, hx⟩
  have X6 := Lib.hid (X5.out.trans hx)
  have HF6 := Lib.hid (HF5.out.ext hx)
  have HG6 := Lib.hid (HG5.out.ext hx)
  have HK6 := Lib.hid (HK5.out.ext hx)
  clear hx
  obtain ⟨fa6, fb6⟩ := node_field (lastN (f)) w6
  unfold Nd.val
  cases q4 : ((lastN (firstN g)).i == (lastN f).i)
  · have HE := Lib.hid (show dualR f g = false by unfold dualR; simp [q1, q2, q3, q4])
    go_wp2_with fail
    go_ret
    exact ⟨by rw [HE.out] <;> rfl, X6.out⟩
  have HE := Lib.hid (show dualR f g = negR (firstN (firstN g)) (firstN f) by unfold dualR; simp [q1, q2, q3, q4])
  go_wp2_with fail
  refine (first_any _ (firstN g) _ HK6.out).mono ?_
  rintro e w7 ⟨u1, rfl, hx, hu⟩
  have X7 := Lib.hid (X6.out.trans hx)
  have HF7 := Lib.hid (HF6.out.ext hx)
  have HU1 := Lib.hid hu
  clear hx hu
  go_wp2_with fail
  refine (first_any _ f _ HF7.out).mono ?_
  rintro e w8 ⟨u2, rfl, hx, hu⟩
  have X8 := Lib.hid (X7.out.trans hx)
  have HU1' := Lib.hid (HU1.out.ext hx)
  have HU2 := Lib.hid hu
  clear hx hu
  go_wp2_with fail
  refine (negated_any _ _ (firstN (firstN g)) (firstN f) _ HU1'.out HU2.out).mono ?_
  rintro e w9 ⟨rfl, hx⟩
  go_wp2_with fail
  go_ret
  exact ⟨by rw [HE.out] <;> rfl, X8.out.trans hx⟩
end Go.Proofs.YtipnbfbakohcaaaDoor

/- The plain law of the stacks: the reference's stacks are the checker's. -/

namespace Go.Proofs.YtipnbfbakohcaaaDoor

theorem lastSt_snoc (st : List (List Int)) (s : List Int) : lastSt (st ++ [s]) = s := by unfold lastSt; simp
theorem lastSt_at (st : List (List Int)) : lastSt st = st.getD (st.length - 1) [] := by
  unfold lastSt
  cases st with
  | nil => rfl
  | cons a t => rw [List.getD_eq_getElem?_getD, ← List.getLast?_eq_getElem?]; simp [List.getLast?_cons]
theorem stacksR_none {st : List (List Int)} {n : Ln} {r : List Ln} (h : pushL st n = none) : stacksR (n :: r) (lastSt st) st st.length = (st, st.length) := by
  unfold pushL at h
  simp only [stacksR, Bool.cond_eq_ite] at h ⊢
  cases ho : opensL n
  · simp only [ho] at h ⊢
    by_cases hb : (decide (n.depth < 0) || decide (((lastSt st).length : Int) < n.depth)) = true
    · simp only [Bool.false_and, Bool.or_false]
      simp [hb]
    · rw [if_neg (by simp), if_neg hb] at h; cases h
  · simp only [ho] at h ⊢
    by_cases hb : (decide (n.depth < 1) || decide (((lastSt st).length : Int) + 1 < n.depth)) = true
    · have : (decide (n.depth < 0) || (decide (((lastSt st).length : Int) + 1 < n.depth) || (true && decide (n.depth < 1)))) = true := by
        simp at hb ⊢
        omega
      simp only [if_true]
      rw [if_pos this]
    · rw [if_pos trivial, if_neg hb] at h; cases h
theorem stacksR_some {st : List (List Int)} {n : Ln} {r : List Ln} {s : List Int} (h : pushL st n = some s) : stacksR (n :: r) (lastSt st) st st.length = stacksR r (lastSt (st ++ [s])) (st ++ [s]) (st ++ [s]).length := by
  rw [lastSt_snoc]
  unfold pushL at h
  simp only [Bool.cond_eq_ite] at h
  conv => lhs; unfold stacksR
  simp only [Bool.cond_eq_ite]
  cases ho : opensL n
  · simp only [ho] at h
    by_cases hb : (decide (n.depth < 0) || decide (((lastSt st).length : Int) < n.depth)) = true
    · rw [if_neg (by simp), if_pos hb] at h; cases h
    · rw [if_neg (by simp), if_neg hb] at h
      injection h with h
      subst h
      have e : ¬ (decide (n.depth < 0) || (decide ((if false = true then ((lastSt st).length : Int) + 1 else ((lastSt st).length : Int)) < n.depth) || (false && decide (n.depth < 1)))) = true := by
        simp at hb ⊢
        omega
      rw [if_neg e, if_neg (by simp)]
      simp
  · simp only [ho] at h
    by_cases hb : (decide (n.depth < 1) || decide (((lastSt st).length : Int) + 1 < n.depth)) = true
    · rw [if_pos trivial, if_pos hb] at h; cases h
    · rw [if_pos trivial, if_neg hb] at h
      injection h with h
      subst h
      have e : ¬ (decide (n.depth < 0) || (decide ((if true = true then ((lastSt st).length : Int) + 1 else ((lastSt st).length : Int)) < n.depth) || (true && decide (n.depth < 1)))) = true := by
        simp at hb ⊢
        omega
      rw [if_neg e, if_pos rfl]
      simp
theorem stacksR_pre : ∀ (ls : List Ln) (now : List Int) (out : List (List Int)) (i : Nat), out <+: (stacksR ls now out i).1 ∧ i ≤ (stacksR ls now out i).2
  | [], now, out, i => ⟨List.prefix_refl _, Nat.le_refl _⟩
  | n :: r, now, out, i => by
    simp only [stacksR]
    generalize (decide (n.depth < 0) || (decide ((bif opensL n then (now.length : Int) + 1 else (now.length : Int)) < n.depth) || (opensL n && decide (n.depth < 1)))) = b
    cases b
    · rw [cond_false]
      cases opensL n
      · rw [cond_false]
        obtain ⟨a, b⟩ := stacksR_pre r (now.take n.depth.toNat) (out ++ [now.take n.depth.toNat]) (i + 1)
        exact ⟨(List.prefix_append _ _).trans a, by omega⟩
      · rw [cond_true]
        obtain ⟨a, b⟩ := stacksR_pre r (now.take (n.depth - 1).toNat ++ [(i : Int)]) (out ++ [now.take (n.depth - 1).toNat ++ [(i : Int)]]) (i + 1)
        exact ⟨(List.prefix_append _ _).trans a, by omega⟩
    · exact ⟨List.prefix_refl _, Nat.le_refl _⟩

/-- What holds of the stacks: a line stands in them only at its own level, and once closed never again. -/
structure Sk (st : List (List Int)) : Prop where
  own : ∀ (j p : Nat) (o : Int), (st.getD j [])[p]? = some o → 0 ≤ o ∧ o.toNat ≤ j ∧ j < st.length ∧ (st.getD o.toNat []).length = p + 1 ∧ (st.getD o.toNat [])[p]? = some o
  back : ∀ (j : Nat) (o : Int), o < j → o ∈ st.getD j [] → o ∈ st.getD (j - 1) []
theorem sk_nil : Sk [] := ⟨fun j p o h => by simp at h, fun j o h1 h2 => by simp at h2⟩
theorem getD_snoc_lt {st : List (List Int)} {s : List Int} {j : Nat} (h : j < st.length) : (st ++ [s]).getD j [] = st.getD j [] := by
  rw [List.getD_eq_getElem?_getD, List.getElem?_append_left h, ← List.getD_eq_getElem?_getD]
theorem getD_snoc_eq {st : List (List Int)} {s : List Int} : (st ++ [s]).getD st.length [] = s := by
  rw [List.getD_eq_getElem?_getD, List.getElem?_append_right (Nat.le_refl _)]; simp
theorem getD_snoc_gt {st : List (List Int)} {s : List Int} {j : Nat} (h : st.length < j) : (st ++ [s]).getD j [] = [] := by
  rw [List.getD_eq_getElem?_getD, List.getElem?_eq_none (by simp; omega)]; rfl
theorem Sk.next {st : List (List Int)} (h : Sk st) {s : List Int} {d : Nat} (hs : s = (lastSt st).take d ∨ s = (lastSt st).take d ++ [(st.length : Int)]) : Sk (st ++ [s]) := by
  have old : ∀ (p : Nat) (o : Int), ((lastSt st).take d)[p]? = some o → 0 ≤ o ∧ o.toNat < st.length ∧ (st.getD o.toNat []).length = p + 1 ∧ (st.getD o.toNat [])[p]? = some o := fun p o hp => by
    rw [List.getElem?_take] at hp
    split at hp
    · rw [lastSt_at] at hp
      obtain ⟨a, b, c, d, e⟩ := h.own _ p o hp
      exact ⟨a, by omega, d, e⟩
    · cases hp
  refine ⟨fun j p o hp => ?_, fun j o hj ho => ?_⟩
  · rcases Nat.lt_trichotomy j st.length with hj | hj | hj
    · rw [getD_snoc_lt hj] at hp
      obtain ⟨a, b, c, d, e⟩ := h.own j p o hp
      rw [getD_snoc_lt (show o.toNat < st.length by omega)]
      exact ⟨a, b, by simp; omega, d, e⟩
    · subst hj
      rw [getD_snoc_eq] at hp
      have key : ((lastSt st).take d)[p]? = some o ∨ (s = (lastSt st).take d ++ [(st.length : Int)] ∧ p = ((lastSt st).take d).length ∧ o = (st.length : Int)) := by
        rcases hs with rfl | rfl
        · exact .inl hp
        · by_cases hlt : p < ((lastSt st).take d).length
          · rw [List.getElem?_append_left hlt] at hp
            exact .inl hp
          · rw [List.getElem?_append_right (by omega)] at hp
            have e0 : p - ((lastSt st).take d).length = 0 := by
              by_cases e : p - ((lastSt st).take d).length = 0
              · exact e
              · rw [List.getElem?_eq_none (by rw [List.length_singleton]; omega)] at hp; cases hp
            rw [e0] at hp
            refine .inr ⟨rfl, by omega, ?_⟩
            simpa using hp.symm
      rcases key with hp' | ⟨es, ep, eo⟩
      · obtain ⟨a, b, c, e⟩ := old p o hp'
        rw [getD_snoc_lt b]
        exact ⟨a, by omega, by simp, c, e⟩
      · have e1 : o.toNat = st.length := by omega
        rw [e1, getD_snoc_eq]
        refine ⟨by omega, by omega, by simp, ?_, hp⟩
        rw [es, List.length_append, ep]
        rfl
    · rw [getD_snoc_gt hj] at hp
      simp at hp
  · rcases Nat.lt_trichotomy j st.length with hj' | hj' | hj'
    · rw [getD_snoc_lt hj'] at ho
      rw [getD_snoc_lt (show j - 1 < st.length by omega)]
      exact h.back j o hj ho
    · subst hj'
      rw [getD_snoc_eq] at ho
      have hm : o ∈ (lastSt st).take d := by
        rcases hs with rfl | rfl
        · exact ho
        · rcases List.mem_append.1 ho with h1 | h1
          · exact h1
          · have := List.mem_singleton.1 h1; omega
      have hm2 := List.mem_of_mem_take hm
      have hne : st ≠ [] := fun e => by rw [e] at hm2; simp [lastSt] at hm2
      have := List.length_pos_iff.2 hne
      rw [getD_snoc_lt (by omega), ← lastSt_at]
      exact hm2
    · rw [getD_snoc_gt hj'] at ho
      cases ho
theorem Sk.push {st : List (List Int)} (h : Sk st) {n : Ln} {s : List Int} (hp : pushL st n = some s) : Sk (st ++ [s]) := by
  rcases pushL_cases hp with ⟨_, d, rfl⟩ | ⟨_, d, rfl⟩
  · exact h.next (d := d) (.inr rfl)
  · exact h.next (d := d) (.inl rfl)
theorem Sk.mem {st : List (List Int)} (h : Sk st) {j : Nat} {o : Int} (hm : o ∈ st.getD j []) : 0 ≤ o ∧ o.toNat ≤ j ∧ 0 < (st.getD o.toNat []).length ∧ (st.getD o.toNat []).length ≤ (st.getD j []).length ∧ (st.getD j [])[(st.getD o.toNat []).length - 1]? = some o := by
  obtain ⟨p, hp⟩ := List.mem_iff_getElem?.1 hm
  obtain ⟨a, b, c, d, e⟩ := h.own j p o hp
  have hl := (List.getElem?_eq_some_iff.1 hp).1
  rw [d]
  exact ⟨a, b, by omega, by omega, hp⟩
theorem inR_iff {st : List (List Int)} (h : Sk st) {j o : Nat} (hd : 0 < (st.getD o []).length) : inR st (st.getD o []).length (o : Int) j = true ↔ (o : Int) ∈ st.getD j [] := by
  unfold inR
  rw [Bool.and_eq_true, decide_eq_true_iff, beq_iff_eq]
  constructor
  · rintro ⟨h1, h2⟩
    rw [List.getD_eq_getElem?_getD (l := st.getD j []), List.getElem?_eq_getElem (show (st.getD o []).length - 1 < (st.getD j []).length by omega)] at h2
    rw [Option.getD_some] at h2
    rw [← h2]
    exact List.getElem_mem _
  · intro hm
    obtain ⟨a, b, c, d, e⟩ := h.mem hm
    rw [Int.toNat_natCast] at d e
    exact ⟨d, by rw [List.getD_eq_getElem?_getD (l := st.getD j []), e]; rfl⟩
/-- A line that a line's stack names is named by all stacks between. -/
theorem Sk.between {st : List (List Int)} (h : Sk st) {o : Int} : ∀ (k j : Nat), o ∈ st.getD (j + k) [] → o ≤ j → o ∈ st.getD j []
  | 0, j, hm, _ => hm
  | k + 1, j, hm, hj => h.between k j (by have := h.back (j + (k + 1)) o (by omega) hm; rw [show j + (k + 1) - 1 = j + k by omega] at this; exact this) hj
theorem lastF_spec (st : List (List Int)) (o : Int) (i : Nat) : ∀ k l : Nat, l < i → o ∈ st.getD l [] → i ≤ l + 1 + k → l ≤ lastF st o i k l ∧ lastF st o i k l < i ∧ o ∈ st.getD (lastF st o i k l) [] ∧ (lastF st o i k l + 1 < i → o ∉ st.getD (lastF st o i k l + 1) [])
  | 0, l, h1, h2, h3 => ⟨Nat.le_refl _, h1, h2, fun h => by unfold lastF at h; omega⟩
  | k + 1, l, h1, h2, h3 => by
    by_cases hc : (decide (l + 1 < i) && decide (o ∈ st.getD (l + 1) [])) = true
    · have e : lastF st o i (k + 1) l = lastF st o i k (l + 1) := by
        conv => lhs; unfold lastF
        rw [hc]; rfl
      rw [e]
      rw [Bool.and_eq_true, decide_eq_true_iff, decide_eq_true_iff] at hc
      obtain ⟨a, b, c, d⟩ := lastF_spec st o i k (l + 1) hc.1 hc.2 (by omega)
      exact ⟨by omega, b, c, d⟩
    · have e : lastF st o i (k + 1) l = l := by
        conv => lhs; unfold lastF
        rw [show (decide (l + 1 < i) && decide (o ∈ st.getD (l + 1) [])) = false by simpa using hc]; rfl
      rw [e]
      refine ⟨Nat.le_refl _, h1, h2, fun h hm => hc ?_⟩
      rw [decide_eq_true h, decide_eq_true hm]
      rfl
theorem lastR_spec (s : List (List Int)) (d : Nat) (o : Int) (i : Nat) : ∀ k last : Nat, k ≤ i → last < i - k → inR s d o last = true → (∀ j, last < j → j < i - k → inR s d o j = false) →
    lastR s d o i k last < i ∧ inR s d o (lastR s d o i k last) = true ∧ ∀ j, lastR s d o i k last < j → j < i → inR s d o j = false
  | 0, last, _, h1, h2, h3 => ⟨h1, h2, h3⟩
  | k + 1, last, h0, h1, h2, h3 => by
    unfold lastR
    cases hc : inR s d o (i - (k + 1))
    · rw [cond_false]
      refine lastR_spec s d o i k last (by omega) (by omega) h2 fun j h4 h5 => ?_
      by_cases e : j = i - (k + 1)
      · rw [e]; exact hc
      · exact h3 j h4 (by omega)
    · rw [cond_true]
      exact lastR_spec s d o i k _ (by omega) (by omega) hc fun j h4 h5 => by omega
theorem last_same {st : List (List Int)} (h : Sk st) {o i : Nat} (hoi : o < i) (hm : (o : Int) ∈ st.getD o []) : lastR st (st.getD o []).length (o : Int) i (i - o) o = lastL st o i := by
  have hd : 0 < (st.getD o []).length := by have := h.mem hm; rw [Int.toNat_natCast] at this; exact this.2.2.1
  have hin : ∀ j, inR st (st.getD o []).length (o : Int) j = true ↔ (o : Int) ∈ st.getD j [] := fun j => inR_iff h hd
  obtain ⟨a1, a2, a3, a4⟩ := lastF_spec st (o : Int) i i o hoi hm (by omega)
  have hk : i - o = (i - o - 1) + 1 := by omega
  have e : lastR st (st.getD o []).length (o : Int) i (i - o) o = lastR st (st.getD o []).length (o : Int) i (i - o - 1) o := by
    rw [hk]
    conv => lhs; unfold lastR
    rw [show i - (i - o - 1 + 1) = o by omega]
    cases inR st (st.getD o []).length (o : Int) o <;> rfl
  rw [e]
  obtain ⟨b1, b2, b3⟩ := lastR_spec st (st.getD o []).length (o : Int) i (i - o - 1) o (by omega) (by omega) ((hin o).2 hm) (fun j h1 h2 => by omega)
  unfold lastL
  generalize lastR st (st.getD o []).length (o : Int) i (i - o - 1) o = e2 at b1 b2 b3
  generalize lastF st (o : Int) i i o = e1 at a1 a2 a3 a4
  rcases Nat.lt_trichotomy e1 e2 with hlt | heq | hgt
  · exfalso
    refine a4 (by omega) (h.between (e2 - (e1 + 1)) (e1 + 1) ?_ (by omega))
    rw [show e1 + 1 + (e2 - (e1 + 1)) = e2 by omega]
    exact (hin e2).1 b2
  · exact heq.symm
  · have := b3 e1 hgt a2
    rw [(hin e1).2 a3] at this
    cases this
theorem last_ge {st : List (List Int)} {o i : Nat} (hoi : o < i) (hm : (o : Int) ∈ st.getD o []) : o ≤ lastL st o i ∧ lastL st o i < i := by
  obtain ⟨a1, a2, _, _⟩ := lastF_spec st (o : Int) i i o hoi hm (by omega)
  exact ⟨a1, a2⟩

/-! What the reference reads of the stacks up to a line. -/
theorem boxesGoR_one (ls : List Ln) : ∀ (l : List Int) (n a : Int), (boxesGoR ls l n a).1 = n + (boxesL ls l).length
  | [], n, a => by simp [boxesGoR, boxesL]
  | o :: r, n, a => by
    unfold boxesGoR
    cases h : (lineAt ls o).rule == 2
    · rw [cond_false, boxesGoR_one ls r n a]
      have : boxesL ls (o :: r) = boxesL ls r := by unfold boxesL; rw [List.filter_cons_of_neg]; unfold isBox; rw [h]; simp
      rw [this]
    · rw [cond_true, boxesGoR_one ls r]
      have : boxesL ls (o :: r) = o :: boxesL ls r := by unfold boxesL; rw [List.filter_cons_of_pos]; unfold isBox; exact h
      rw [this]
      simp
      omega
theorem boxesGoR_two (ls : List Ln) : ∀ (l : List Int) (n a : Int), (boxesGoR ls l n a).2 = ((boxesL ls l).map fun o => (lineAt ls o).agent).getLastD a
  | [], n, a => by simp [boxesGoR, boxesL]
  | o :: r, n, a => by
    unfold boxesGoR
    cases h : (lineAt ls o).rule == 2
    · rw [cond_false, boxesGoR_two ls r n a]
      have : boxesL ls (o :: r) = boxesL ls r := by unfold boxesL; rw [List.filter_cons_of_neg]; unfold isBox; rw [h]; simp
      rw [this]
    · rw [cond_true, boxesGoR_two ls r]
      have : boxesL ls (o :: r) = o :: boxesL ls r := by unfold boxesL; rw [List.filter_cons_of_pos]; unfold isBox; exact h
      rw [this, List.map_cons, List.getLastD_cons]
theorem boxesR_yes {ls : List Ln} {s : List (List Int)} {i : Nat} {outer : List Int} (h : (s.getD i []).take outer.length = outer) : boxesR ls s i outer = boxesGoR ls ((s.getD i []).drop outer.length) 0 0 := by
  unfold boxesR
  rw [decide_eq_true h]
  rfl
theorem boxesR_no {ls : List Ln} {s : List (List Int)} {i : Nat} {outer : List Int} (h : ¬ (s.getD i []).take outer.length = outer) : boxesR ls s i outer = (-1, 0) := by
  unfold boxesR
  rw [decide_eq_false h]
  rfl
theorem boxesR_zero {ls : List Ln} {s : List (List Int)} {i : Nat} {outer : List Int} : ((boxesR ls s i outer).1 != 0) = false ↔ (s.getD i []).take outer.length = outer ∧ boxesL ls ((s.getD i []).drop outer.length) = [] := by
  by_cases h : (s.getD i []).take outer.length = outer
  · rw [boxesR_yes h, boxesGoR_one]
    constructor
    · intro e
      rw [bne_eq_false_iff_eq] at e
      exact ⟨h, List.length_eq_zero_iff.1 (by omega)⟩
    · rintro ⟨_, e⟩
      rw [e]
      rfl
  · rw [boxesR_no h]
    exact ⟨fun e => absurd e (by decide), fun e => absurd e.1 h⟩
end Go.Proofs.YtipnbfbakohcaaaDoor
