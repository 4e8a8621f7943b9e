/- What the reference's constructors of formulas come to: the lists that the program's constructors come to. -/
import Derived.Test.YtdpblciohodgcaaGreatDoorS30
import Derived.Test.YtdpblciohodgcaaGreatDoorS08
import Derived.Test.YtdpblciohodgcaaGreatDoorS34
import Derived.Test.YtdpblciohodgcaaGreatDoorS17
import Derived.Test.YtdpblciohodgcaaGreatDoorS15
import Derived.Test.YtdpblciohodgcaaGreatDoorS31
import Derived.Test.YtdpblciohodgcaaGreatDoorS38
import Derived.Test.YtdpblciohodgcaaGreatDoorS11
import Derived.Test.YtdpblciohodgcaaGreatDoorS13

namespace Go.Proofs.YtdpblciohodgcaaGreatDoor

/-- The canonical list of a tree, or nothing if it is too long. -/
def shortT (t : Tr) : List Nd := bif decide (200 < (canon t).length) then [] else canon t
theorem short_fit {t : Tr} (h : (canon t).length ≤ 200) : shortT t = canon t := by
  unfold shortT
  rw [decide_eq_false (by omega)]
  rfl
theorem short_long {t : Tr} (h : 200 < (canon t).length) : shortT t = [] := by
  unfold shortT
  rw [decide_eq_true h]
  rfl
theorem check_nil' : check [] ≠ 0 := by decide
/-- The canonical list of a list's last node, or nothing if it is too long. -/
def shortN (l : List Nd) : List Nd := bif decide (200 < (finN l (l.length - 1) []).1.length) then [] else (finN l (l.length - 1) []).1
theorem map_shift0 (f : List Nd) : f.map (shiftN 0) = f := by
  rw [show shiftN 0 = id from by funext m; unfold shiftN; cases hasX m.op <;> cases hasY m.op <;> simp]
  simp
/-- A node with one operand. -/
theorem build_oneS {n : Nd} {f : List Nd} (hf : check f = 0) (h1 : hasX n.op = true) (h2 : hasY n.op = false) (hh : headOk n) : buildN n [f] = shortT (.one n.head (treeOf f)) := by
  obtain ⟨cw, cl, cp, _⟩ := compactN_props hf
  unfold buildN
  have e0 : [f].any (fun o => check o != 0) = false := by simp [hf]
  rw [e0, cond_false]
  have eL : layout [f] 0 [] n = (compactN f, { n with x := ((compactN f).length : Int) - 1 }) := by
    simp only [layout, setOp, List.nil_append, List.length_nil, map_shift0]
    rfl
  rw [eL]
  generalize hm : ({ n with x := ((compactN f).length : Int) - 1 } : Nd) = m
  have mo : m.op = n.op := by rw [← hm]
  have mx : m.x = ((compactN f).length : Int) - 1 := by rw [← hm]
  have mh : m.head = n.head := by
    rw [← hm]
    unfold Nd.head Nd.with_
    simp [h1, h2]
  have hmh : headOk m := by
    rw [← hm]
    exact ⟨hh.1, hh.2.1, hh.2.2.1, fun h => by (rw [h1] at h; cases h), hh.2.2.2.2⟩
  have herr : nodeErr m (compactN f).length = 0 := hmh.err (fun _ => by omega) (fun h => by rw [mo, h2] at h; cases h)
  have hw : Wf (compactN f ++ [m]) := wf_snoc cw (fun _ => by omega) (fun h => by rw [mo, h2] at h; cases h)
  have htr : tr (compactN f ++ [m]) (compactN f).length = .one n.head (treeOf f) := by
    rw [tr_eq hw (n := m) (by simp)]
    unfold mkTr
    rw [mo, h1, h2, mh, mx]
    rw [show (((compactN f).length : Int) - 1).toNat = (compactN f).length - 1 by omega, tr_prefix cw hw (List.prefix_append _ _) _ (by omega)]
    rw [show tr (compactN f) ((compactN f).length - 1) = treeOf (compactN f) from rfl, treeOf_compact hf]
    rfl
  unfold joinN
  have hfin : (finN (compactN f ++ [m]) (compactN f).length []).1 = canon (.one n.head (treeOf f)) := by
    rw [finN_ins hw _ _ (by simp), htr]; rfl
  simp only [herr, hfin]
  rfl
/-- A node with two operands. -/
theorem build_twoS {n : Nd} {f g : List Nd} (hf : check f = 0) (hg : check g = 0) (h1 : hasX n.op = true) (h2 : hasY n.op = true) (hh : headOk n) : buildN n [f, g] = shortT (.two n.head (treeOf f) (treeOf g)) := by
  obtain ⟨cw, cl, cp, _⟩ := compactN_props hf
  obtain ⟨dw, dl, dp, _⟩ := compactN_props hg
  unfold buildN
  have e0 : [f, g].any (fun o => check o != 0) = false := by simp [hf, hg]
  rw [e0, cond_false]
  have eL : layout [f, g] 0 [] n = (compactN f ++ (compactN g).map (shiftN (compactN f).length), { n with x := ((compactN f).length : Int) - 1, y := ((compactN f).length : Int) + (compactN g).length - 1 }) := by
    simp only [layout, setOp, List.nil_append, List.length_nil, map_shift0]
    simp
  rw [eL]
  have hFw := shift_wf cw dw
  have hFl : (compactN f ++ (compactN g).map (shiftN (compactN f).length)).length = (compactN f).length + (compactN g).length := by simp
  have hF1 : tr (compactN f ++ (compactN g).map (shiftN (compactN f).length)) ((compactN f).length - 1) = treeOf f := by
    rw [tr_prefix cw hFw (List.prefix_append _ _) _ (by omega), show tr (compactN f) ((compactN f).length - 1) = treeOf (compactN f) from rfl, treeOf_compact hf]
  have hF2 : tr (compactN f ++ (compactN g).map (shiftN (compactN f).length)) ((compactN f).length + (compactN g).length - 1) = treeOf g := by
    rw [show (compactN f).length + (compactN g).length - 1 = (compactN f).length + ((compactN g).length - 1) by omega, tr_shift cw dw _ (by omega), show tr (compactN g) ((compactN g).length - 1) = treeOf (compactN g) from rfl, treeOf_compact hg]
  generalize compactN f ++ (compactN g).map (shiftN (compactN f).length) = F at *
  generalize hm : ({ n with x := ((compactN f).length : Int) - 1, y := ((compactN f).length : Int) + (compactN g).length - 1 } : Nd) = m
  have mo : m.op = n.op := by rw [← hm]
  have mx : m.x = ((compactN f).length : Int) - 1 := by rw [← hm]
  have my : m.y = ((compactN f).length : Int) + (compactN g).length - 1 := by rw [← hm]
  have mh : m.head = n.head := by
    rw [← hm]
    unfold Nd.head Nd.with_
    simp [h1, h2]
  have hmh : headOk m := by
    rw [← hm]
    exact ⟨hh.1, hh.2.1, hh.2.2.1, fun h => by (rw [h1] at h; cases h), fun h => by (rw [h2] at h; cases h)⟩
  have herr : nodeErr m F.length = 0 := hmh.err (fun _ => by omega) (fun _ => by omega)
  have hw : Wf (F ++ [m]) := wf_snoc hFw (fun _ => by omega) (fun _ => by omega)
  have htr : tr (F ++ [m]) F.length = .two n.head (treeOf f) (treeOf g) := by
    rw [tr_eq hw (n := m) (by simp)]
    unfold mkTr
    rw [mo, h2, mh, mx, my]
    rw [show (((compactN f).length : Int) - 1).toNat = (compactN f).length - 1 by omega, tr_prefix hFw hw (List.prefix_append _ _) _ (by omega), hF1]
    rw [show (((compactN f).length : Int) + (compactN g).length - 1).toNat = (compactN f).length + (compactN g).length - 1 by omega, tr_prefix hFw hw (List.prefix_append _ _) _ (by omega), hF2]
    rfl
  unfold joinN
  have hfin : (finN (F ++ [m]) F.length []).1 = canon (.two n.head (treeOf f) (treeOf g)) := by
    rw [finN_ins hw _ _ (by simp), htr]; rfl
  simp only [herr, hfin]
  rfl
theorem build_bad1 {n : Nd} {f : List Nd} (hf : check f ≠ 0) : buildN n [f] = [] := by
  unfold buildN
  have e0 : [f].any (fun o => check o != 0) = true := by simpa using hf
  rw [e0, cond_true]
theorem build_bad2 {n : Nd} {f g : List Nd} (hf : check f ≠ 0 ∨ check g ≠ 0) : buildN n [f, g] = [] := by
  unfold buildN
  have e0 : [f, g].any (fun o => check o != 0) = true := by simp; exact hf
  rw [e0, cond_true]
end Go.Proofs.YtdpblciohodgcaaGreatDoor

/- What a negation normal form says: the same as the formula, or the opposite. Plain. -/

namespace Go.Proofs.YtdpblciohodgcaaGreatDoor

theorem unT {n : Nd} {f : List Nd} (h1 : hasX n.op = true) (h2 : hasY n.op = false) (hh : headOk n) (hn : n.head = n) (h : check (buildN n [f]) = 0) : check f = 0 ∧ treeOf (buildN n [f]) = .one n (treeOf f) := by
  by_cases hf : check f = 0
  · refine ⟨hf, ?_⟩
    have e := build_oneS hf h1 h2 hh
    rw [hn] at e
    have hd : (Tr.one n (treeOf f)).ok := ⟨h1, h2, hn, treeOf_ok hf⟩
    by_cases hl : (canon (.one n (treeOf f))).length ≤ 200
    · rw [e, short_fit hl]; exact treeOf_canon hd
    · rw [e, short_long (by omega)] at h; exact absurd h check_nil'
  · rw [build_bad1 hf] at h; exact absurd h check_nil'
theorem binT {n : Nd} {f g : List Nd} (h1 : hasX n.op = true) (h2 : hasY n.op = true) (hh : headOk n) (hn : n.head = n) (h : check (buildN n [f, g]) = 0) : check f = 0 ∧ check g = 0 ∧ treeOf (buildN n [f, g]) = .two n (treeOf f) (treeOf g) := by
  by_cases hf : check f = 0
  · by_cases hg : check g = 0
    · refine ⟨hf, hg, ?_⟩
      have e := build_twoS hf hg h1 h2 hh
      rw [hn] at e
      have hd : (Tr.two n (treeOf f) (treeOf g)).ok := ⟨h1, h2, hn, treeOf_ok hf, treeOf_ok hg⟩
      by_cases hl : (canon (.two n (treeOf f) (treeOf g))).length ≤ 200
      · rw [e, short_fit hl]; exact treeOf_canon hd
      · rw [e, short_long (by omega)] at h; exact absurd h check_nil'
    · rw [build_bad2 (.inr hg)] at h; exact absurd h check_nil'
  · rw [build_bad2 (.inl hf)] at h; exact absurd h check_nil'
theorem head_agent' {n : Nd} (h : headOk n) (ho : hasAgent n.op = true) : 0 ≤ n.i ∧ n.i < 4 := by
  obtain ⟨_, _, hr, _, _⟩ := h
  unfold rangeBad at hr
  simp only [outsideB, ho, Bool.or_eq_false_iff] at hr
  simp at hr
  omega
theorem head_fact' {n : Nd} (h : headOk n) (ho : hasFact n.op = true) : 0 ≤ n.i ∧ n.i < 8 := by
  obtain ⟨_, _, hr, _, _⟩ := h
  unfold rangeBad at hr
  simp only [outsideB, ho, Bool.or_eq_false_iff] at hr
  simp at hr
  omega
section
variable {M : KM} {w : M.W} {f g : List Nd}
theorem sem_and (h : check (andN f g) = 0) : check f = 0 ∧ check g = 0 ∧ (M.sat (treeOf (andN f g)) w ↔ M.sat (treeOf f) w ∧ M.sat (treeOf g) w) := by
  obtain ⟨h1, h2, e⟩ := binT (n := ⟨5, 0, 0, 0, 0, 0⟩) rfl rfl ⟨rfl, rfl, rfl, fun _ => rfl, fun _ => rfl⟩ rfl h
  exact ⟨h1, h2, by rw [show treeOf (andN f g) = _ from e]; simp [KM.sat]⟩
theorem sem_or (h : check (orN f g) = 0) : check f = 0 ∧ check g = 0 ∧ (M.sat (treeOf (orN f g)) w ↔ M.sat (treeOf f) w ∨ M.sat (treeOf g) w) := by
  obtain ⟨h1, h2, e⟩ := binT (n := ⟨6, 0, 0, 0, 0, 0⟩) rfl rfl ⟨rfl, rfl, rfl, fun _ => rfl, fun _ => rfl⟩ rfl h
  exact ⟨h1, h2, by rw [show treeOf (orN f g) = _ from e]; simp [KM.sat]⟩
theorem sem_not (h : check (notN f) = 0) : check f = 0 ∧ (M.sat (treeOf (notN f)) w ↔ ¬ M.sat (treeOf f) w) := by
  obtain ⟨h1, e⟩ := unT (n := ⟨4, 0, 0, 0, 0, 0⟩) rfl rfl ⟨rfl, rfl, rfl, fun _ => rfl, fun _ => rfl⟩ rfl h
  exact ⟨h1, by rw [show treeOf (notN f) = _ from e]; simp [KM.sat]⟩
theorem agent_head {k a : Int} (hk : k = 9 ∨ k = 10) (h0 : 0 ≤ a) (h4 : a < 4) : headOk ⟨k, a, 0, 0, 0, 0⟩ := by
  have ha : a = 0 ∨ a = 1 ∨ a = 2 ∨ a = 3 := by omega
  rcases hk with rfl | rfl <;> rcases ha with rfl | rfl | rfl | rfl <;> exact ⟨rfl, rfl, rfl, fun _ => rfl, fun _ => rfl⟩
theorem sem_know {a : Int} (h0 : 0 ≤ a) (h4 : a < 4) (h : check (knowN a f) = 0) : check f = 0 ∧ (M.sat (treeOf (knowN a f)) w ↔ ∀ v, M.R a w v → M.sat (treeOf f) v) := by
  obtain ⟨h1, e⟩ := unT (n := ⟨9, a, 0, 0, 0, 0⟩) rfl rfl (agent_head (.inl rfl) h0 h4) rfl h
  exact ⟨h1, by rw [show treeOf (knowN a f) = _ from e]; simp [KM.sat]⟩
theorem sem_poss {a : Int} (h0 : 0 ≤ a) (h4 : a < 4) (h : check (possN a f) = 0) : check f = 0 ∧ (M.sat (treeOf (possN a f)) w ↔ ∃ v, M.R a w v ∧ M.sat (treeOf f) v) := by
  obtain ⟨h1, e⟩ := unT (n := ⟨10, a, 0, 0, 0, 0⟩) rfl rfl (agent_head (.inr rfl) h0 h4) rfl h
  exact ⟨h1, by rw [show treeOf (possN a f) = _ from e]; simp [KM.sat]⟩
theorem sem_true : M.sat (treeOf trueN) w := by
  rw [show treeOf trueN = .leaf ⟨1, 0, 0, 0, 0, 0⟩ from rfl]; exact .inl rfl
theorem sem_false : ¬ M.sat (treeOf falseN) w := by
  rw [show treeOf falseN = .leaf ⟨2, 0, 0, 0, 0, 0⟩ from rfl]; simp [KM.sat]
theorem sem_fact {a : Int} (h0 : 0 ≤ a) (h8 : a < 8) : M.sat (treeOf (factN a)) w ↔ M.V a w := by
  have e : treeOf (factN a) = .leaf ⟨3, a, 0, 0, 0, 0⟩ := by
    have ha : a = 0 ∨ a = 1 ∨ a = 2 ∨ a = 3 ∨ a = 4 ∨ a = 5 ∨ a = 6 ∨ a = 7 := by omega
    rcases ha with rfl | rfl | rfl | rfl | rfl | rfl | rfl | rfl <;> rfl
  rw [e]
  simp [KM.sat]
end
set_option maxHeartbeats 4000000 in
theorem nnf_sem (M : KM) {c : List Nd} (hw : Wf c) (hF : Few10 c) (hh : ∀ n ∈ c, headOk n) : ∀ i, i < c.length → ∀ no, check (nnfN c no i) = 0 → ∀ w, (M.sat (treeOf (nnfN c no i)) w ↔ if no = true then ¬ M.sat (tr c i) w else M.sat (tr c i) w) := by
  intro i
  induction i using Nat.strongRecOn with
  | _ i ih =>
    intro hi no hck w
    obtain ⟨n, hn⟩ : ∃ n, c[i]? = some n := ⟨_, List.getElem?_eq_getElem hi⟩
    have hm := List.mem_of_getElem? hn
    have hhn := hh n hm
    have hop := hF n hm
    obtain ⟨hx, hy⟩ := hw i n hn
    rw [nnfN_eq hw hn] at hck ⊢
    rw [tr_eq hw hn]
    have X : hasX n.op = true → ∀ b, check (nnfN c b n.x.toNat) = 0 → ∀ v, (M.sat (treeOf (nnfN c b n.x.toNat)) v ↔ if b = true then ¬ M.sat (tr c n.x.toNat) v else M.sat (tr c n.x.toNat) v) := fun h b => ih _ (by have := hx h; omega) (by have := hx h; omega) b
    have Y : hasY n.op = true → ∀ b, check (nnfN c b n.y.toNat) = 0 → ∀ v, (M.sat (treeOf (nnfN c b n.y.toNat)) v ↔ if b = true then ¬ M.sat (tr c n.y.toNat) v else M.sat (tr c n.y.toNat) v) := fun h b => ih _ (by have := hy h; omega) (by have := hy h; omega) b
    have XT := fun h hc v => (X h true hc v).trans (by rw [if_pos rfl])
    have XF := fun h hc v => (X h false hc v).trans (by rw [if_neg (by decide)])
    have YT := fun h hc v => (Y h true hc v).trans (by rw [if_pos rfl])
    have YF := fun h hc v => (Y h false hc v).trans (by rw [if_neg (by decide)])
    have hag := fun h => head_agent' hhn h
    have hfa := fun h => head_fact' hhn h
    clear ih hx hy X Y hn hm hhn
    obtain ⟨op, a, e, g, x, y⟩ := n
    have hops : op = 1 ∨ op = 2 ∨ op = 3 ∨ op = 4 ∨ op = 5 ∨ op = 6 ∨ op = 7 ∨ op = 8 ∨ op = 9 ∨ op = 10 := by
      have h1 : 1 ≤ op := hop.1
      have h2 : op ≤ 10 := hop.2
      omega
    clear hop
    rcases hops with rfl | rfl | rfl | rfl | rfl | rfl | rfl | rfl | rfl | rfl <;> cases no
    · exact ⟨fun _ => .inl rfl, fun _ => sem_true⟩
    · exact ⟨fun h => absurd h sem_false, fun h => absurd (Or.inl rfl) h⟩
    · exact ⟨fun h => absurd h sem_false, fun h => absurd h (by simp [mkTr, hasX, hasY, KM.sat, Nd.head, Nd.with_])⟩
    · exact ⟨fun _ => by simp [mkTr, hasX, hasY, KM.sat, Nd.head, Nd.with_], fun _ => sem_true⟩
    · obtain ⟨h0, h8⟩ := hfa rfl
      exact (sem_fact h0 h8).trans (by simp [mkTr, hasX, hasY, KM.sat, Nd.head, Nd.with_])
    · obtain ⟨h0, h8⟩ := hfa rfl
      exact (sem_not (f := factN a) hck).2.trans (not_congr ((sem_fact h0 h8).trans (by simp [mkTr, hasX, hasY, KM.sat, Nd.head, Nd.with_])))
    · exact (XT rfl hck w).trans (by simp [mkTr, hasX, hasY, KM.sat, Nd.head, Nd.with_])
    · exact (XF rfl hck w).trans (by simp [mkTr, hasX, hasY, KM.sat, Nd.head, Nd.with_])
    · obtain ⟨h1, h2, e3⟩ := sem_and (M := M) (w := w) hck
      exact e3.trans (by rw [XF rfl h1 w, YF rfl h2 w]; simp [mkTr, hasX, hasY, KM.sat, Nd.head, Nd.with_])
    · obtain ⟨h1, h2, e3⟩ := sem_or (M := M) (w := w) hck
      exact e3.trans (by rw [XT rfl h1 w, YT rfl h2 w]; simp [mkTr, hasX, hasY, KM.sat, Nd.head, Nd.with_]; (by_cases p : M.sat (tr c x.toNat) w <;> by_cases q : M.sat (tr c y.toNat) w <;> simp [p, q]))
    · obtain ⟨h1, h2, e3⟩ := sem_or (M := M) (w := w) hck
      exact e3.trans (by rw [XF rfl h1 w, YF rfl h2 w]; simp [mkTr, hasX, hasY, KM.sat, Nd.head, Nd.with_])
    · obtain ⟨h1, h2, e3⟩ := sem_and (M := M) (w := w) hck
      exact e3.trans (by rw [XT rfl h1 w, YT rfl h2 w]; simp [mkTr, hasX, hasY, KM.sat, Nd.head, Nd.with_])
    · obtain ⟨h1, h2, e3⟩ := sem_or (M := M) (w := w) hck
      exact e3.trans (by rw [XT rfl h1 w, YF rfl h2 w]; simp [mkTr, hasX, hasY, KM.sat, Nd.head, Nd.with_]; (by_cases p : M.sat (tr c x.toNat) w <;> by_cases q : M.sat (tr c y.toNat) w <;> simp [p, q]))
    · obtain ⟨h1, h2, e3⟩ := sem_and (M := M) (w := w) hck
      exact e3.trans (by rw [XF rfl h1 w, YT rfl h2 w]; simp [mkTr, hasX, hasY, KM.sat, Nd.head, Nd.with_])
    · obtain ⟨h1, h2, e3⟩ := sem_and (M := M) (w := w) hck
      obtain ⟨h4, h5, e6⟩ := sem_or (M := M) (w := w) h1
      obtain ⟨h7, h8, e9⟩ := sem_or (M := M) (w := w) h2
      exact e3.trans (by rw [e6, e9, XT rfl h4 w, YF rfl h5 w, XF rfl h7 w, YT rfl h8 w]; simp [mkTr, hasX, hasY, KM.sat, Nd.head, Nd.with_]; (by_cases p : M.sat (tr c x.toNat) w <;> by_cases q : M.sat (tr c y.toNat) w <;> simp [p, q]))
    · obtain ⟨h1, h2, e3⟩ := sem_or (M := M) (w := w) hck
      obtain ⟨h4, h5, e6⟩ := sem_and (M := M) (w := w) h1
      obtain ⟨h7, h8, e9⟩ := sem_and (M := M) (w := w) h2
      exact e3.trans (by rw [e6, e9, XF rfl h4 w, YT rfl h5 w, XT rfl h7 w, YF rfl h8 w]; simp [mkTr, hasX, hasY, KM.sat, Nd.head, Nd.with_]; (by_cases p : M.sat (tr c x.toNat) w <;> by_cases q : M.sat (tr c y.toNat) w <;> simp [p, q]))
    · obtain ⟨h0, h4⟩ := hag rfl
      obtain ⟨h1, e3⟩ := sem_know (M := M) (w := w) h0 h4 hck
      exact e3.trans (by simp only [XF rfl h1]; simp [mkTr, hasX, hasY, KM.sat, Nd.head, Nd.with_])
    · obtain ⟨h0, h4⟩ := hag rfl
      obtain ⟨h1, e3⟩ := sem_poss (M := M) (w := w) h0 h4 hck
      exact e3.trans (by simp only [XT rfl h1]; simp [mkTr, hasX, hasY, KM.sat, Nd.head, Nd.with_])
    · obtain ⟨h0, h4⟩ := hag rfl
      obtain ⟨h1, e3⟩ := sem_poss (M := M) (w := w) h0 h4 hck
      exact e3.trans (by simp only [XF rfl h1]; simp [mkTr, hasX, hasY, KM.sat, Nd.head, Nd.with_])
    · obtain ⟨h0, h4⟩ := hag rfl
      obtain ⟨h1, e3⟩ := sem_know (M := M) (w := w) h0 h4 hck
      exact e3.trans (by simp only [XT rfl h1]; simp [mkTr, hasX, hasY, KM.sat, Nd.head, Nd.with_])
end Go.Proofs.YtdpblciohodgcaaGreatDoor

/- A refutation that is accepted is right: the formulas of its sets hold together at no world of a model of the logic. Plain. -/

namespace Go.Proofs.YtdpblciohodgcaaGreatDoor

theorem opp_sem (M : KM) {f : List Nd} (hF : check f = 0 → Few10 (compactN f)) (h : check (oppN f) = 0) (w : M.W) : M.sat (treeOf (oppN f)) w ↔ ¬ M.sat (treeOf f) w := by
  by_cases hn : check (notN f) = 0
  · have e : oppN f = nnfN (compactN (notN f)) false ((compactN (notN f)).length - 1) := by
      unfold oppN nnfAll
      rw [show (check (notN f) != 0) = false by rw [hn]; rfl]
      rfl
    have hp := compactN_props hn
    rw [e] at h ⊢
    refine (nnf_sem M hp.1 (few_not hF hn) hp.2.2.2 _ (by have := hp.2.2.1; omega) false h w).trans ?_
    rw [if_neg (by decide)]
    show M.sat (treeOf (compactN (notN f))) w ↔ _
    rw [treeOf_compact hn]
    exact (sem_not hn).2
  · exfalso
    have e : oppN f = [] := by
      unfold oppN nnfAll
      rw [show (check (notN f) != 0) = true by simpa using hn]
      rfl
    rw [e] at h
    exact absurd h (by decide)
theorem placeN_at {l : List (List Nd)} {g : List Nd} {z : Int} (h : placeN l g = z) (h0 : 0 ≤ z) : l[z.toNat]? = some g := by
  unfold placeN at h
  cases hi : l.findIdx? (fun f => decide (f = g)) with
  | none => rw [hi] at h; simp only at h; omega
  | some j =>
    rw [hi] at h
    simp only at h
    obtain ⟨hj, hp, _⟩ := List.findIdx?_eq_some_iff_getElem.1 hi
    subst h
    rw [Int.toNat_natCast, List.getElem?_eq_getElem hj, of_decide_eq_true hp]
theorem opposed_sem (M : KM) {base : List Nd} (hc : check base = 0) (ha : base.all (normalN base) = true) {on e : Int} (h : opposedN (oppsN base) on e = true) (w : M.W) :
    0 ≤ on ∧ on < base.length ∧ 0 ≤ e ∧ e < base.length ∧ (M.sat (tr base e.toNat) w ↔ ¬ M.sat (tr base on.toNat) w) := by
  unfold opposedN at h
  simp only [Bool.and_eq_true, decide_eq_true_eq, beq_iff_eq] at h
  obtain ⟨h0, h1, h2, h3⟩ := h
  have hl : (oppsN base).length = base.length := by unfold oppsN formulasN; simp
  rw [hl] at h1
  have hon : on.toNat < base.length := by omega
  have e1 : (oppsN base).getD on.toNat 0 = placeN (formulasN base) (oppN (subN base (on.toNat : Nat))) := by
    unfold oppsN
    rw [List.getD_eq_getElem?_getD, List.getElem?_map]
    have : (formulasN base)[on.toNat]? = some (subN base (on.toNat : Nat)) := by
      unfold formulasN
      rw [List.getElem?_map, List.getElem?_range hon]
      rfl
    rw [this]
    rfl
  rw [e1] at h3
  have h4 := placeN_at h3 h2
  have he : e.toNat < base.length := by
    have := (List.getElem?_eq_some_iff.1 h4).1
    unfold formulasN at this
    simpa using this
  have h5 : subN base (e.toNat : Nat) = oppN (subN base (on.toNat : Nat)) := by
    have : (formulasN base)[e.toNat]? = some (subN base (e.toNat : Nat)) := by
      unfold formulasN
      rw [List.getElem?_map, List.getElem?_range he]
      rfl
    rw [this] at h4
    exact Option.some.inj h4
  have t : ∀ k, k < base.length → treeOf (subN base (k : Nat)) = tr base k := fun k hk => by
    rw [subN_tree hc hk]; exact treeOf_canon (tr_ok (check_wf hc) k hk)
  have hco := (sub_props hc hon).2.1
  have hce := (sub_props hc he).2.1
  refine ⟨h0, by omega, h2, by omega, ?_⟩
  rw [← t _ he, ← t _ hon, h5]
  rw [h5] at hce
  exact opp_sem M (fun _ => few_compact hco (sub_few hc ha hon)) hce w
theorem carryGo_bit (lg : Int) (set : Nat) (ag : Int) : ∀ (l : List Nd) (i out j : Nat), (carryGo lg set ag l i out).testBit j = true → out.testBit j = true ∨
    ∃ k n, l[k]? = some n ∧ inS set ((i + k : Nat) : Int) = true ∧ n.i = ag ∧ ((n.op = 9 ∧ n.x.toNat = j) ∨ (n.op = 9 ∧ transN lg = true ∧ i + k = j) ∨ (n.op = 10 ∧ euclN lg = true ∧ i + k = j))
  | [], _, _, _, h => .inl h
  | n :: r, i, out, j, h => by
    unfold carryGo at h
    rcases carryGo_bit lg set ag r (i + 1) _ j h with h | ⟨k, m, h1, h2, h3, h4⟩
    · rw [carry1_bit] at h
      simp only [Bool.or_eq_true, Bool.and_eq_true, beq_iff_eq, decide_eq_true_eq] at h
      rcases h with h | ⟨h1, h2, h3⟩
      · exact .inl h
      · exact .inr ⟨0, n, rfl, h1, h2, by
        rcases h3 with h3 | h3 | h3
        · exact .inl h3
        · exact .inr (.inl h3)
        · exact .inr (.inr h3)⟩
    · exact .inr ⟨k + 1, m, h1, by rw [show i + (k + 1) = i + 1 + k by omega]; exact h2, h3, by rw [show i + (k + 1) = i + 1 + k by omega]; exact h4⟩
/-- The formulas of a set hold at a world. -/
def HoldS (M : KM) (base : List Nd) (s : Nat) (w : M.W) : Prop := ∀ i, i < base.length → s.testBit i = true → M.sat (tr base i) w
theorem hold_or {M : KM} {base : List Nd} {s k : Nat} {w : M.W} (h : HoldS M base s w) (hk : M.sat (tr base k) w) : HoldS M base (s ||| 2 ^ k) w := fun i hi hb => by
  rw [Nat.testBit_or, Nat.testBit_two_pow, Bool.or_eq_true, decide_eq_true_eq] at hb
  rcases hb with hb | rfl
  · exact h i hi hb
  · exact hk
theorem hold_sub {M : KM} {base : List Nd} {a b : Nat} {w : M.W} (h : HoldS M base b w) (hs : subS a b = true) : HoldS M base a w := fun i hi hb => h i hi (subSb_iff.1 hs i hb)
theorem on_at {base : List Nd} {x : Stp} {op : Int} (h : onN base x op = true) : ∃ n, 0 ≤ x.on ∧ base[x.on.toNat]? = some n ∧ nodeOn base x = n ∧ n.op = op ∧ x.set.testBit x.on.toNat = true := by
  unfold onN at h
  simp only [Bool.not_eq_true', Bool.or_eq_false_iff, decide_eq_false_iff_not, Bool.not_eq_false'] at h
  obtain ⟨h1, h2, h3⟩ := h
  unfold inS at h2
  simp only [Bool.and_eq_true, decide_eq_true_eq] at h2
  have hl : x.on.toNat < base.length := by omega
  refine ⟨_, h2.1, List.getElem?_eq_getElem hl, ?_, ?_, h2.2.2⟩
  · unfold nodeOn; rw [List.getD_eq_getElem?_getD, List.getElem?_eq_getElem hl]; rfl
  · rw [List.getD_eq_getElem?_getD, List.getElem?_eq_getElem hl] at h3
    simpa using h3
theorem prem1 {steps : List Stp} {j s : Nat} (h : premN steps j [s] = true) : ∃ q, q < j ∧ subS (steps.getD q Stp.zero).set s = true := by
  unfold premN at h
  rw [Bool.and_eq_true] at h
  obtain ⟨_, h⟩ := h
  cases hf : (steps.getD j Stp.zero).from_ with
  | nil => rw [hf] at h; cases h
  | cons a r =>
    rw [hf] at h
    unfold premGo at h
    cases hb : (decide (a < 0) || (decide ((j : Int) ≤ a) || !subS (steps.getD a.toNat Stp.zero).set s))
    · simp only [Bool.or_eq_false_iff, decide_eq_false_iff_not, Bool.not_eq_false'] at hb
      exact ⟨a.toNat, by omega, hb.2.2⟩
    · rw [hb] at h; cases h
theorem prem2 {steps : List Stp} {j s t : Nat} (h : premN steps j [s, t] = true) : (∃ q, q < j ∧ subS (steps.getD q Stp.zero).set s = true) ∧ ∃ q, q < j ∧ subS (steps.getD q Stp.zero).set t = true := by
  unfold premN at h
  rw [Bool.and_eq_true] at h
  obtain ⟨_, h⟩ := h
  cases hf : (steps.getD j Stp.zero).from_ with
  | nil => rw [hf] at h; cases h
  | cons a r =>
    rw [hf] at h
    unfold premGo at h
    cases hb : (decide (a < 0) || (decide ((j : Int) ≤ a) || !subS (steps.getD a.toNat Stp.zero).set s))
    · rw [hb, cond_false] at h
      simp only [Bool.or_eq_false_iff, decide_eq_false_iff_not, Bool.not_eq_false'] at hb
      refine ⟨⟨a.toNat, by omega, hb.2.2⟩, ?_⟩
      cases r with
      | nil => cases h
      | cons b r2 =>
        unfold premGo at h
        cases hb2 : (decide (b < 0) || (decide ((j : Int) ≤ b) || !subS (steps.getD b.toNat Stp.zero).set t))
        · simp only [Bool.or_eq_false_iff, decide_eq_false_iff_not, Bool.not_eq_false'] at hb2
          exact ⟨b.toNat, by omega, hb2.2.2⟩
        · rw [hb2] at h; cases h
    · rw [hb] at h; cases h
end Go.Proofs.YtdpblciohodgcaaGreatDoor

/- Soundness of refutations: no world of a model of the logic makes all formulas of an accepted set true. Plain. -/

namespace Go.Proofs.YtdpblciohodgcaaGreatDoor

theorem base_ok {base : List Nd} (h : baseErr base = 0) : check base = 0 ∧ base.length ≤ 64 ∧ base.all (normalN base) = true := by
  unfold baseErr at h
  by_cases hc : check base = 0
  · rw [show (check base != 0) = false by rw [hc]; rfl, cond_false] at h
    by_cases hl : 64 < base.length
    · rw [decide_eq_true hl] at h; cases h
    · rw [decide_eq_false hl, cond_false] at h
      cases ha : base.all (normalN base)
      · rw [ha] at h; cases h
      · exact ⟨hc, by omega, rfl⟩
  · rw [show (check base != 0) = true by simpa using hc, cond_true] at h
    exact absurd h hc
section
variable {M : KM} {base : List Nd} {w : M.W} {k : Nat} {n : Nd}
theorem tr_one9 (hc : check base = 0) (hk : base[k]? = some n) (ho : n.op = 9) : M.sat (tr base k) w ↔ ∀ v, M.R n.i w v → M.sat (tr base n.x.toNat) v := by
  rw [tr_eq (check_wf hc) hk]
  obtain ⟨op, a, e, g, x, y⟩ := n
  obtain rfl : op = 9 := ho
  simp [mkTr, hasX, hasY, KM.sat, Nd.head, Nd.with_]
theorem tr_one10 (hc : check base = 0) (hk : base[k]? = some n) (ho : n.op = 10) : M.sat (tr base k) w ↔ ∃ v, M.R n.i w v ∧ M.sat (tr base n.x.toNat) v := by
  rw [tr_eq (check_wf hc) hk]
  obtain ⟨op, a, e, g, x, y⟩ := n
  obtain rfl : op = 10 := ho
  simp [mkTr, hasX, hasY, KM.sat, Nd.head, Nd.with_]
theorem tr_two5 (hc : check base = 0) (hk : base[k]? = some n) (ho : n.op = 5) : M.sat (tr base k) w ↔ M.sat (tr base n.x.toNat) w ∧ M.sat (tr base n.y.toNat) w := by
  rw [tr_eq (check_wf hc) hk]
  obtain ⟨op, a, e, g, x, y⟩ := n
  obtain rfl : op = 5 := ho
  simp [mkTr, hasX, hasY, KM.sat, Nd.head, Nd.with_]
theorem tr_two6 (hc : check base = 0) (hk : base[k]? = some n) (ho : n.op = 6) : M.sat (tr base k) w ↔ M.sat (tr base n.x.toNat) w ∨ M.sat (tr base n.y.toNat) w := by
  rw [tr_eq (check_wf hc) hk]
  obtain ⟨op, a, e, g, x, y⟩ := n
  obtain rfl : op = 6 := ho
  simp [mkTr, hasX, hasY, KM.sat, Nd.head, Nd.with_]
theorem tr_leaf2 (hc : check base = 0) (hk : base[k]? = some n) (ho : n.op = 2) : ¬ M.sat (tr base k) w := by
  rw [tr_eq (check_wf hc) hk]
  obtain ⟨op, a, e, g, x, y⟩ := n
  obtain rfl : op = 2 := ho
  simp [mkTr, hasX, hasY, KM.sat, Nd.head, Nd.with_]
end
theorem trans_lg {lg : Int} (h : transN lg = true) : 3 ≤ lg ∧ lg ≤ 6 := by
  unfold transN at h
  simp only [Bool.or_eq_true, beq_iff_eq] at h
  omega
theorem eucl_lg {lg : Int} (h : euclN lg = true) : lg = 5 ∨ lg = 6 := by
  unfold euclN at h
  simp only [Bool.or_eq_true, beq_iff_eq] at h
  exact h
theorem carry_hold {M : KM} {lg : Int} (hM : M.In lg) {base : List Nd} (hc : check base = 0) {s : Nat} {ag : Int} {w v : M.W} (h : HoldS M base s w) (hr : M.R ag w v) : HoldS M base (carryN lg base s ag) v := fun j _ hb => by
  rcases carryGo_bit lg s ag base 0 0 j hb with h0 | ⟨k, n, h1, h2, h3, h4⟩
  · simp at h0
  · rw [Nat.zero_add] at h2
    unfold inS at h2
    simp only [Bool.and_eq_true, decide_eq_true_eq, Int.toNat_natCast] at h2
    have hk := (List.getElem?_eq_some_iff.1 h1).1
    have hs := h k hk h2.2.2
    rcases h4 with ⟨h9, hx⟩ | ⟨h9, ht, hx⟩ | ⟨h10, he, hx⟩
    · rw [← hx]
      exact (tr_one9 hc h1 h9).1 hs v (by rw [h3]; exact hr)
    · rw [Nat.zero_add] at hx
      rw [← hx]
      exact (tr_one9 hc h1 h9).2 fun u hu => (tr_one9 hc h1 h9).1 hs u (by rw [h3] at hu ⊢; exact (hM ag).trans (trans_lg ht) w v u hr hu)
    · rw [Nat.zero_add] at hx
      rw [← hx]
      obtain ⟨u, hu, hsu⟩ := (tr_one10 hc h1 h10).1 hs
      exact (tr_one10 hc h1 h10).2 ⟨u, by rw [h3] at hu ⊢; exact (hM ag).eucl (eucl_lg he) w v u hr hu, hsu⟩
set_option maxHeartbeats 1000000 in
/-- The sets of accepted steps hold at no world. -/
theorem steps_sound {M : KM} {lg : Int} (hM : M.In lg) {base : List Nd} {steps : List Stp} (hc : check base = 0) (ha : base.all (normalN base) = true)
    (hall : ∀ j, j < steps.length → correctN lg base (oppsN base) steps j = true) : ∀ j, j < steps.length → ∀ w : M.W, ¬ HoldS M base (steps.getD j Stp.zero).set w := by
  intro j
  induction j using Nat.strongRecOn with
  | _ j ih =>
    intro hj w hh
    have hcj := hall j hj
    unfold correctN at hcj
    simp only at hcj
    obtain ⟨x, hx⟩ : ∃ x, x = steps.getD j Stp.zero := ⟨_, rfl⟩
    rw [← hx] at hcj hh
    have hnx : ∀ {n : Nd} {k : Nat}, base[k]? = some n → hasX n.op = true → n.x.toNat < base.length := fun h1 h2 => by
      have := (check_wf hc _ _ h1).1 h2
      have := (List.getElem?_eq_some_iff.1 h1).1
      omega
    have fin : ∀ {s : Nat} {v : M.W}, (∃ q, q < j ∧ subS (steps.getD q Stp.zero).set s = true) → HoldS M base s v → False := fun hq hs => by
      obtain ⟨q, h1, h2⟩ := hq
      exact ih q h1 (by omega) _ (hold_sub hs h2)
    cases hi : insideS base x.set
    · rw [hi] at hcj; cases hcj
    rw [hi, Bool.not_true, cond_false] at hcj
    cases h1 : x.rule == 1
    · rw [h1, cond_false] at hcj
      cases h4 : x.rule == 4
      · rw [h4, cond_false] at hcj
        cases he : x.e != 0
        · rw [he, cond_false] at hcj
          cases h2 : x.rule == 2
          · rw [h2, cond_false] at hcj
            cases h3 : x.rule == 3
            · rw [h3, cond_false] at hcj
              cases h5 : x.rule == 5
              · rw [h5, cond_false] at hcj
                cases h6 : x.rule == 6
                · rw [h6, cond_false] at hcj
                  cases h7 : x.rule == 7
                  · rw [h7, cond_false] at hcj; cases hcj
                  · rw [h7, cond_true] at hcj
                    simp only [Bool.and_eq_true, Bool.or_eq_true, beq_iff_eq, decide_eq_true_eq] at hcj
                    obtain ⟨hlg, _, _, hp⟩ := hcj
                    obtain ⟨v, hv⟩ := (hM x.on).ser hlg w
                    exact fin (prem1 hp) (carry_hold hM hc hh hv)
                · rw [h6, cond_true, Bool.and_eq_true] at hcj
                  obtain ⟨n, hn0, hn, hno, hop, hb⟩ := on_at hcj.1
                  rw [hno] at hcj
                  have hs := hh _ (List.getElem?_eq_some_iff.1 hn).1 hb
                  obtain ⟨v, hv, hsv⟩ := (tr_one10 hc hn hop).1 hs
                  refine fin (prem1 hcj.2) (v := v) ?_
                  rw [Nat.or_comm]
                  exact hold_or (carry_hold hM hc hh hv) hsv
              · rw [h5, cond_true, Bool.and_eq_true, Bool.and_eq_true] at hcj
                obtain ⟨n, hn0, hn, hno, hop, hb⟩ := on_at hcj.1
                rw [hno] at hcj
                have hlg : lg = 2 ∨ lg = 4 ∨ lg = 6 := by have := hcj.2.1; simpa using this
                have hs := hh _ (List.getElem?_eq_some_iff.1 hn).1 hb
                exact fin (prem1 hcj.2.2) (hold_or hh ((tr_one9 hc hn hop).1 hs w ((hM n.i).refl hlg w)))
            · rw [h3, cond_true, Bool.and_eq_true] at hcj
              obtain ⟨n, hn0, hn, hno, hop, hb⟩ := on_at hcj.1
              rw [hno] at hcj
              have hs := hh _ (List.getElem?_eq_some_iff.1 hn).1 hb
              rcases (tr_two6 hc hn hop).1 hs with hs | hs
              · exact fin (prem2 hcj.2).1 (hold_or hh hs)
              · exact fin (prem2 hcj.2).2 (hold_or hh hs)
          · rw [h2, cond_true, Bool.and_eq_true] at hcj
            obtain ⟨n, hn0, hn, hno, hop, hb⟩ := on_at hcj.1
            rw [hno] at hcj
            have hs := hh _ (List.getElem?_eq_some_iff.1 hn).1 hb
            have hs2 := (tr_two5 hc hn hop).1 hs
            exact fin (prem1 hcj.2) (hold_or (hold_or hh hs2.1) hs2.2)
        · rw [he] at hcj; cases hcj
      · rw [h4, cond_true, Bool.and_eq_true, Bool.and_eq_true] at hcj
        obtain ⟨h0, hb, h2, h3, hsem⟩ := opposed_sem M hc ha hcj.2.1 w
        by_cases hs : M.sat (tr base x.on.toNat) w
        · exact fin (prem2 hcj.2.2).1 (hold_or hh hs)
        · exact fin (prem2 hcj.2.2).2 (hold_or hh (hsem.2 hs))
    · rw [h1, cond_true] at hcj
      unfold closedN at hcj
      simp only at hcj
      rw [← hx] at hcj
      cases ho : onN base x 2 && x.e == 0
      · rw [ho, cond_false] at hcj
        simp only [Bool.and_eq_true] at hcj
        obtain ⟨i1, i2, i3, _⟩ := hcj
        obtain ⟨h0, hb, h2, h3, hsem⟩ := opposed_sem M hc ha i3 w
        unfold inS at i1 i2
        simp only [Bool.and_eq_true, decide_eq_true_eq] at i1 i2
        exact hsem.1 (hh _ (by omega) i2.2.2) (hh _ (by omega) i1.2.2)
      · rw [Bool.and_eq_true] at ho
        obtain ⟨n, hn0, hn, hno, hop, hb⟩ := on_at ho.1
        exact tr_leaf2 hc hn hop (hh _ (List.getElem?_eq_some_iff.1 hn).1 hb)
/-- What is refuted holds at no world. -/
theorem refuted_sound {M : KM} {lg : Int} (hM : M.In lg) {base : List Nd} {steps : List Stp} (h : checkS lg base steps = 0) (w : M.W) : ∃ f ∈ (refutedS lg base steps).1, ¬ M.sat (treeOf f) w := by
  obtain ⟨hf, hall⟩ := checkS_ok.1 h
  obtain ⟨hk, hb, hl, _⟩ := formS_ok.1 hf
  obtain ⟨hc, _, ha⟩ := base_ok hb
  have hlast : steps.getLastD Stp.zero = steps.getD (steps.length - 1) Stp.zero := by
    rw [List.getD_eq_getElem?_getD, List.getLastD_eq_getLast?, List.getLast?_eq_getElem?]
  have hno := steps_sound hM hc ha hall (steps.length - 1) (by omega) w
  refine Classical.byContradiction fun hcon => hno fun i hi hbit => ?_
  refine Classical.byContradiction fun hs => hcon ⟨subN base (i : Nat), ?_, ?_⟩
  · unfold refutedS
    rw [show (checkS lg base steps != 0) = false by rw [h]; rfl]
    refine List.mem_map.2 ⟨i, List.mem_filter.2 ⟨List.mem_range.2 hi, ?_⟩, rfl⟩
    rw [hlast]
    unfold inS
    have h64 : base.length ≤ 64 := (base_ok hb).2.1
    simp only [Bool.and_eq_true, decide_eq_true_eq, Int.toNat_natCast]
    exact ⟨Int.natCast_nonneg _, by omega, hbit⟩
  · rw [subN_tree hc hi, treeOf_canon (tr_ok (check_wf hc) i hi)]
    exact hs
end Go.Proofs.YtdpblciohodgcaaGreatDoor

/- What a refutation proves holds at all worlds. Plain. -/

namespace Go.Proofs.YtdpblciohodgcaaGreatDoor

theorem few_frag {f : List Nd} (hc : check f = 0) (h : fragsN f < 2) : Few10 (compactN f) := fun n hn => by
  have hh := (compactN_props hc).2.2.2 n hn
  have hop := (isOp_iff n.op).1 hh.1
  refine ⟨hop.1, ?_⟩
  have hb : ∀ i, (fragOf n.op).toNat.testBit i = true → i < 1 := fun i hi => by
    have h2 : (fragsN f).testBit i = true := (frag_mem (compactN f) 0).2 n hn i hi
    exact bit_lt (n := 1) (by omega) h2
  have hlt := low_bits hb
  refine Classical.byContradiction fun h10 => ?_
  have hcs : n.op = 11 ∨ n.op = 12 ∨ n.op = 13 ∨ n.op = 14 ∨ n.op = 15 ∨ n.op = 16 ∨ n.op = 17 ∨ n.op = 18 ∨ n.op = 19 ∨ n.op = 20 ∨ n.op = 21 := by omega
  rcases hcs with e | e | e | e | e | e | e | e | e | e | e <;> rw [e] at hlt <;> exact absurd hlt (by decide)
theorem proves_sound {M : KM} {lg : Int} (hM : M.In lg) {base : List Nd} {steps : List Stp} {f : List Nd} (h : provesS lg base steps f = 0) (w : M.W) : check f = 0 ∧ Few10 (compactN f) ∧ M.sat (treeOf f) w := by
  unfold provesS at h
  by_cases h1 : (refutedS lg base steps).2 = 0
  · rw [show ((refutedS lg base steps).2 != 0) = false by rw [h1]; rfl, cond_false] at h
    by_cases h2 : check f = 0
    · rw [show (check f != 0) = false by rw [h2]; rfl, cond_false] at h
      by_cases h3 : 2 ≤ fragsN f
      · rw [decide_eq_true h3] at h; cases h
      · rw [decide_eq_false h3, cond_false] at h
        by_cases h4 : (refutedS lg base steps).1 = [oppN f]
        · have hF := few_frag h2 (by omega)
          refine ⟨h2, hF, ?_⟩
          have hck : checkS lg base steps = 0 := by
            refine Classical.byContradiction fun hne => ?_
            unfold refutedS at h1
            rw [show (checkS lg base steps != 0) = true by simpa using hne, cond_true] at h1
            exact hne h1
          obtain ⟨q, hq, hs⟩ := refuted_sound hM hck w
          have hq2 := hq
          rw [h4] at hq
          have hqe := List.mem_singleton.1 hq
          have hcq : check q = 0 := by
            unfold refutedS at hq2
            rw [show (checkS lg base steps != 0) = false by rw [hck]; rfl, cond_false] at hq2
            obtain ⟨i, hi, rfl⟩ := List.mem_map.1 hq2
            have hil := List.mem_range.1 (List.mem_filter.1 hi).1
            exact (sub_props (base_ok (formS_ok.1 (checkS_ok.1 hck).1).2.1).1 hil).2.1
          rw [hqe] at hs hcq
          refine Classical.byContradiction fun hns => hs ((opp_sem M (fun _ => hF) hcq w).2 hns)
        · rw [decide_eq_false h4] at h; cases h
    · rw [show (check f != 0) = true by simpa using h2, cond_true] at h; exact absurd h h2
  · rw [show ((refutedS lg base steps).2 != 0) = true by simpa using h1, cond_true] at h; exact absurd h h1
end Go.Proofs.YtdpblciohodgcaaGreatDoor

/- The plain laws of SequentSound and SequentValid. -/

namespace Go.Proofs.YtdpblciohodgcaaGreatDoor
open Go.RowKit

def meetP (md : Md) (l : List (List Nd)) (s : Nat) : Nat := l.foldl (fun s f => s &&& holdP md f) s
theorem meet_bit {md : Md} : ∀ (l : List (List Nd)) (s i : Nat), (meetP md l s).testBit i = true → s.testBit i = true ∧ ∀ f ∈ l, (holdP md f).testBit i = true
  | [], s, i, h => ⟨h, fun f hf => by cases hf⟩
  | a :: r, s, i, h => by
    obtain ⟨h1, h2⟩ := meet_bit r (s &&& holdP md a) i h
    rw [Nat.testBit_and, Bool.and_eq_true] at h1
    refine ⟨h1.1, fun f hf => ?_⟩
    rcases List.mem_cons.1 hf with rfl | hf
    · exact h1.2
    · exact h2 f hf
theorem refuted_mem {lg : Int} {base : List Nd} {steps : List Stp} (h : checkS lg base steps = 0) {f : List Nd} (hf : f ∈ (refutedS lg base steps).1) : check f = 0 ∧ Few10 (compactN f) := by
  unfold refutedS at hf
  rw [show (checkS lg base steps != 0) = false by rw [h]; rfl, cond_false] at hf
  obtain ⟨i, hi, rfl⟩ := List.mem_map.1 hf
  have hil := List.mem_range.1 (List.mem_filter.1 hi).1
  obtain ⟨hc, _, ha⟩ := base_ok (formS_ok.1 (checkS_ok.1 h).1).2.1
  have hs := (sub_props hc hil).2.1
  exact ⟨hs, few_compact hs (sub_few hc ha hil)⟩
/-- SequentSound: the formulas hold together at no world. -/
theorem sound_zero {md : Md} {lg : Int} (hg : GoodM md lg) {base : List Nd} {steps : List Stp} (h : checkS lg base steps = 0) (hall : ∀ f ∈ (refutedS lg base steps).1, chk17 md f = 0) :
    meetP md (refutedS lg base steps).1 (allW md.n.toNat) = 0 := by
  refine Nat.eq_of_testBit_eq fun i => ?_
  rw [Nat.zero_testBit]
  cases hb : (meetP md (refutedS lg base steps).1 (allW md.n.toNat)).testBit i
  · rfl
  · exfalso
    obtain ⟨h1, h2⟩ := meet_bit _ _ _ hb
    rw [allw_bit] at h1
    have hi := of_decide_eq_true h1
    obtain ⟨f, hf, hs⟩ := refuted_sound (M := kmOf md) (kmOf_in hg) h (⟨i, hi⟩ : Fin md.n.toNat)
    exact hs ((holdP_is (hall f hf) (refuted_mem h hf).2 ⟨i, hi⟩).1 (h2 f hf))
/-- SequentValid: what is proved holds at all worlds. -/
theorem valid_all {md : Md} {lg : Int} (hg : GoodM md lg) {base : List Nd} {steps : List Stp} {f : List Nd} (h : provesS lg base steps f = 0) (hc : chk17 md f = 0) {i : Nat} (hi : i < md.n.toNat) : (holdP md f).testBit i = true := by
  obtain ⟨_, hF, hs⟩ := proves_sound (M := kmOf md) (kmOf_in hg) h (⟨i, hi⟩ : Fin md.n.toNat)
  exact (holdP_is hc hF ⟨i, hi⟩).2 hs
/-- A formula of the fragment of knowledge is refused for its agents and facts alone. -/
theorem chk_02 {md : Md} {f : List Nd} (hck : checkM md = 0) (hc : check f = 0) (hF : Few10 (compactN f)) : chk17 md f = 0 ∨ chk17 md f = 2 := by
  have hs : subS (fragsN f) 15 = true := by
    rw [subS_iff]
    intro i hi
    rcases frag_src (compactN f) 0 i hi with h | ⟨n, hn, h⟩
    · simp at h
    · have h10 := hF n hn
      have hcs : n.op = 1 ∨ n.op = 2 ∨ n.op = 3 ∨ n.op = 4 ∨ n.op = 5 ∨ n.op = 6 ∨ n.op = 7 ∨ n.op = 8 ∨ n.op = 9 ∨ n.op = 10 := by omega
      have hlt : (fragOf n.op).toNat < 2 ^ 1 := by rcases hcs with e | e | e | e | e | e | e | e | e | e <;> rw [e] <;> decide
      have hi0 := bit_lt hlt h
      obtain rfl : i = 0 := by omega
      decide
  unfold chk17
  rw [if_neg (by rw [hck]; simp), if_neg (by rw [hc]; simp), if_neg (by rw [hs]; simp)]
  split
  · exact .inr rfl
  · exact .inl rfl
end Go.Proofs.YtdpblciohodgcaaGreatDoor

/- ref13: All, beyond. -/

namespace Go.Proofs.YtdpblciohodgcaaGreatDoor
open Go.RowKit

set_option maxRecDepth 100000 in
set_option maxHeartbeats 4000000 in
theorem rAll13_any (n : Nat) (h : n ≤ 64) (w : World) : Calls Tryz.prog 11 #[.int .i64 (n : Int)] w fun e w' => e = .returned (.int .u64 ((allW n : Nat) : Int)) ∧ w = w' := by
  by_cases h64 : n = 64
  · subst h64
    go_enter Tryz.func11, Tryz.ntmps11
    go_wp2_with fail
    go_ret
    exact ⟨rfl, rfl⟩
  · have hn : n < 64 := by omega
    have hn1 : (n : Int) < 64 := by omega
    have hmin : min n 64 = n := by omega
    have HW := Lib.hid (wrap_all hn)
    clear h64 h
    go_enter Tryz.func11, Tryz.ntmps11
    go_wp2_with fail
    go_ret
    exact ⟨by rw [← show ((2 ^ n - 1 : Nat) : Int) = ((allW n : Nat) : Int) from rfl, ← HW.out] <;> rfl, rfl⟩
set_option maxRecDepth 100000 in
set_option maxHeartbeats 8000000 in
theorem beyond_any (v : Value) (l : List Nat) (n : Nat) (w : World) (h : U64s w v l) (hw : ∀ s ∈ l, word s) (hn : n ≤ 64) :
    Calls Tryz.prog 24 #[v, .int .i64 (n : Int)] w fun e w' => e = .returned (.bool (beyondN l n)) ∧ Ext w w' := by
  obtain ⟨A, c, rfl, hlc, hcm, HL⟩ := u64_at h
  have HWD := Lib.hid hw
  unfold maxLen at hcm
  clear h hw
  go_enter Tryz.func24, Tryz.ntmps24
  go_wp2_with fail
  go_loopw [5] (fun v wr => ∃ k : Nat, v = .int .i64 (k : Int) ∧ k ≤ l.length ∧ Hid (Ext w wr ∧ ∀ j, j < k → decide (l.getD j 0 < 2 ^ n) = true)) (fun v _ => l.length - (intOf v).toNat)
  case atStart => exact ⟨0, rfl, Nat.zero_le _, Lib.hid ⟨Ext.refl _, fun j hj => absurd hj (by omega)⟩⟩
  case round =>
    obtain ⟨k, rfl, hk, HREL⟩ := hrel
    have HX := Lib.hid HREL.out.1
    have HJ := Lib.hid HREL.out.2
    clear HREL
    by_cases hlt2 : k < l.length
    · have hk1 : (k : Int) < (l.length : Int) := by omega
      obtain ⟨ad, rfl, hadl, hc⟩ := HL.out k (by omega)
      have a0 := (HX.out.cell (p := ad.add k) (by rw [block_of_add]; exact hadl)).trans hc
      have al : (ad.add k).block < wr.heap.size := by rw [block_of_add]; exact Nat.lt_of_lt_of_le hadl HX.out.size
      have HNX := Lib.hid (show decide (l.getD k 0 < 2 ^ n) = true → ∀ j, j < k + 1 → decide (l.getD j 0 < 2 ^ n) = true from fun h => upto2 (P := fun j => decide (l.getD j 0 < 2 ^ n) = true) HJ.out h)
      have HHT := Lib.hid (show decide (l.getD k 0 < 2 ^ n) = false → beyondN l n = true from beyond_hit (by omega))
      have hout := out_all (n := n) (getD_word HWD.out k) hn
      obtain ⟨sx, hsx⟩ : ∃ s, s = l.getD k 0 := ⟨_, rfl⟩
      rw [← hsx] at a0 hout HNX HHT
      clear hc hsx
      go_upto_region 4 with (fail)
      cases hd : decide (sx < 2 ^ n)
      · rw [hd] at hout
        have HD := Lib.hid hd
        clear hd
        refine wp_region_held_drew (S := fun w' => w'.cell? (ad.add k) = some (.int .u64 (sx : Int))) (by kernel_rfl) (xc al a0) (fun hHeld => ?_)
        refine tk 0 hHeld ?_
        refine tk 1 hHeld ?_
        refine tk 2 hHeld ?_
        refine tk 3 hHeld ?_
        refine tk 4 hHeld ?_
        refine wpAnyH_ready (rs := [5]) (by kernel_rfl) (by simp) ?_
        refine AllReadyH.cons rfl (fun K hK => ?_) AllReadyH.nil
        go_simp
        refine (rAll13_any n hn _).mono ?_
        rintro e w3 ⟨rfl, rfl⟩
        go_wp2_with fail
        refine hK.out _ _ (xc al a0) (fun hHeld => ?_)
        clear hK K
        try simp only [Act.put, List.setIfInBounds_toArray, List.set_cons_zero, List.set_cons_succ, List.getElem_toArray, List.getElem_cons_succ, List.getElem_cons_zero]
        refine tk 6 hHeld ?_
        refine tk 7 hHeld ?_
        refine wpAnyH_done (by kernel_rfl) ?_ _
        have HE := Lib.hid (HHT.out HD.out)
        go_wp2_with fail
        go_ret
        exact ⟨by rw [HE.out] <;> rfl, HX.out.trans (Ext.refl _).drew⟩
      · rw [hd] at hout
        have HD := Lib.hid hd
        clear hd
        refine wp_region_held_drew (S := fun w' => w'.cell? (ad.add k) = some (.int .u64 (sx : Int))) (by kernel_rfl) (xc al a0) (fun hHeld => ?_)
        refine tk 0 hHeld ?_
        refine tk 1 hHeld ?_
        refine tk 2 hHeld ?_
        refine tk 3 hHeld ?_
        refine tk 4 hHeld ?_
        refine wpAnyH_ready (rs := [5]) (by kernel_rfl) (by simp) ?_
        refine AllReadyH.cons rfl (fun K hK => ?_) AllReadyH.nil
        go_simp
        refine (rAll13_any n hn _).mono ?_
        rintro e w3 ⟨rfl, rfl⟩
        go_wp2_with fail
        refine hK.out _ _ (xc al a0) (fun hHeld => ?_)
        clear hK K
        try simp only [Act.put, List.setIfInBounds_toArray, List.set_cons_zero, List.set_cons_succ, List.getElem_toArray, List.getElem_cons_succ, List.getElem_cons_zero]
        refine tk 6 hHeld ?_
        refine tk 7 hHeld ?_
        refine wpAnyH_done (by kernel_rfl) ?_ _
        have HP := Lib.hid (HNX.out HD.out)
        go_wp2_with fail
        go_roundw
        case rel => exact ⟨k + 1, by go_num, by omega, Lib.hid ⟨HX.out.trans (Ext.refl _).drew, HP.out⟩⟩
        case measure => simp [intOf]; omega
    · obtain rfl : l.length = k := by omega
      have HE := Lib.hid (beyond_miss HJ.out)
      go_wp2_with fail
      go_ret
      exact ⟨by rw [HE.out] <;> rfl, HX.out⟩
end Go.Proofs.YtdpblciohodgcaaGreatDoor
