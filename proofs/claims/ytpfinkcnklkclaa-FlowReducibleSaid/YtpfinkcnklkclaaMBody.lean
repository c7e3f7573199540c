/-
  The bodies of the natural loops: dominated by the head, from each node the head can be reached within the loop, two loops disjoint or one within the other. No program in sight.
-/
import Derived.Test.YtpfinkcnklkclaaMRen
set_option linter.unusedVariables false
set_option linter.unusedSimpArgs false
namespace Go.Proofs.Ytpfinkcnklkclaa

section
variable {g : List (List Nat)}
theorem head_tail (hv : ValidG g) {hd : Nat} (h : headB g hd = true) : ∃ t, RE g t hd ∧ domsB g hd t = true := by
  obtain ⟨t, ht⟩ := (headB_iff hv hd).1 h
  exact ⟨t, (tailB_iff hv _ _).1 ht⟩
theorem head_reach (hv : ValidG g) {hd : Nat} (h : headB g hd = true) : Reach (GE g) hd := by
  obtain ⟨t, _, h2⟩ := head_tail hv h
  exact ((domsB_iff hv _ _).1 h2).1
theorem body_self (g : List (List Nat)) (hd : Nat) : bodyB g hd hd = true := by unfold bodyB; simp
/-- Walks that avoid a dominator. -/
theorem dom_walk {E : Nat → Nat → Prop} {d x t : Nat} (hw : Walk E (· ≠ d) x t) (hd : Dom E d t) : Dom E d x := fun hx => hd (hx.trans hw)
theorem body_dom (hv : ValidG g) {hd x : Nat} (h : headB g hd = true) (hx : x < g.length) (hb : bodyB g hd x = true) : domsB g hd x = true := by
  have hr := head_reach hv h
  rw [domsB_iff hv]
  rcases (bodyB_iff hv hx).1 hb with rfl | ⟨h1, t, h2, h3, h4⟩
  · exact ⟨hr, hr, dom_refl _ _⟩
  · exact ⟨hr, h1, dom_walk h4 ((domsB_iff hv _ _).1 ((tailB_iff hv _ _).1 h3).2).2.2⟩
/-- Backwards along a walk that avoids the head. -/
theorem body_walk (hv : ValidG g) {hd x t : Nat} (ht : tailB g hd t = true) (hr : Reach (GE g) x) (hw : Walk (GE g) (· ≠ hd) x t) : Walk (GE g) (fun y => bodyB g hd y = true) x t := by
  have key : ∀ {y : Nat}, Walk (GE g) (· ≠ hd) x y → Reach (GE g) y ∧ (Walk (GE g) (· ≠ hd) y t → Walk (GE g) (fun z => bodyB g hd z = true) x y) := by
    intro y hy
    induction hy with
    | refl h1 =>
      refine ⟨hr, fun h2 => .refl ?_⟩
      exact (bodyB_iff hv (re_lt hv hr)).2 (.inr ⟨hr, t, (tail_lt hv ht).2, ht, h2⟩)
    | @snoc b c h1 h2 h3 ih =>
      refine ⟨.snoc ih.1 h2 trivial, fun h4 => ?_⟩
      have hrc : Reach (GE g) c := .snoc ih.1 h2 trivial
      exact .snoc (ih.2 (Walk.cons h2 h1.last h4)) h2 ((bodyB_iff hv (re_lt hv hrc)).2 (.inr ⟨hrc, t, (tail_lt hv ht).2, ht, h4⟩))
  exact (key hw).2 (.refl hw.last)
theorem body_reach (hv : ValidG g) {hd x : Nat} (h : headB g hd = true) (hx : x < g.length) (hb : bodyB g hd x = true) : Walk (GE g) (fun y => bodyB g hd y = true) x hd := by
  rcases (bodyB_iff hv hx).1 hb with rfl | ⟨h1, t, h2, h3, h4⟩
  · exact .refl hb
  · exact .snoc (body_walk hv h3 h1 h4) ((tailB_iff hv _ _).1 h3).1.2 (body_self g hd)

/-- The edges within a set of nodes, as the law collects them. -/
def innerG (g : List (List Nat)) (p : Nat → Bool) : List (List Nat) := (List.range g.length).map fun u => (succ g u).filter fun s => p u && p s
theorem innerG_len (g : List (List Nat)) (p : Nat → Bool) : (innerG g p).length = g.length := by simp [innerG]
theorem innerG_succ {g : List (List Nat)} {p : Nat → Bool} {u s : Nat} : s ∈ succ (innerG g p) u ↔ s ∈ succ g u ∧ p u = true ∧ p s = true := by
  have : succ (innerG g p) u = (succ g u).filter fun s => p u && p s := by
    show (innerG g p).getD u [] = _
    unfold innerG
    rw [List.getD_eq_getElem?_getD, List.getElem?_map]
    by_cases hu : u < g.length
    · rw [List.getElem?_range hu]; rfl
    · have : succ g u = [] := by unfold succ; rw [List.getD_eq_getElem?_getD, List.getElem?_eq_none (by omega)]; rfl
      rw [List.getElem?_eq_none (by simpa using hu), this]; rfl
  rw [this, List.mem_filter, Bool.and_eq_true]
theorem innerG_valid (hv : ValidG g) (p : Nat → Bool) : ValidG (innerG g p) := by
  refine ⟨by rw [innerG_len]; exact hv.1, fun l hl s hs => ?_⟩
  obtain ⟨u, hu⟩ := List.getElem?_of_mem hl
  have : s ∈ succ (innerG g p) u := by unfold succ; rw [List.getD_eq_getElem?_getD, hu]; exact hs
  rw [innerG_len]
  exact succ_lt hv (innerG_succ.1 this).1
theorem inner_from (hv : ValidG g) {hd x : Nat} (h : headB g hd = true) (hx : x < g.length) (hb : bodyB g hd x = true) : fromB (innerG g (bodyB g hd)) x (-1) hd = true := by
  rw [fromB_iff (innerG_valid hv _) (by rw [innerG_len]; exact hx)]
  refine ((body_reach hv h hx hb).mono (fun a b ha hb hab => ?_) (fun a _ => by omega)).2
  exact innerG_succ.2 ⟨hab, ha, hb⟩

/-- From a dominator to a node without passing what lies above the dominator. -/
theorem down_walk {E : Nat → Nat → Prop} {a b x : Nat} (hab : Dom E a b) (hne : a ≠ b) (hnba : Walk E (· ≠ b) 0 a) (hbx : Dom E b x) (hrx : Reach E x) : Walk E (· ≠ a) b x := by
  have key : ∀ {y : Nat}, Reach E y → Walk E (· ≠ b) 0 y ∨ Walk E (· ≠ a) b y ∨ Walk E (· ≠ b) 0 y := by
    intro y hy
    unfold Reach at hy
    induction hy with
    | refl _ =>
      by_cases e : 0 = b
      · right; left; subst e; exact .refl (Ne.symm hne)
      · exact .inl (.refl e)
    | @snoc y z h1 h2 h3 ih =>
      by_cases e : z = b
      · subst e; right; left; exact .refl (Ne.symm hne)
      · rcases ih with ih | ih | ih
        · exact .inl (.snoc ih h2 e)
        · by_cases e2 : z = a
          · subst e2; exact .inl hnba
          · exact .inr (.inl (.snoc ih h2 e2))
        · exact .inl (.snoc ih h2 e)
  rcases key hrx with h1 | h1 | h1
  · exact absurd h1 hbx
  · exact h1
  · exact absurd h1 hbx
/-- Two loops with a node in common: the one with the lower head lies within the other. -/
theorem body_sub (hv : ValidG g) {a b x : Nat} (ha : headB g a = true) (hb : headB g b = true) (hab : Dom (GE g) a b) (hne : a ≠ b) (hx : x < g.length) (hxa : bodyB g a x = true) (hxb : bodyB g b x = true) : ∀ y, y < g.length → bodyB g b y = true → bodyB g a y = true := by
  intro y hy hyb
  have hra := head_reach hv ha
  have hrb := head_reach hv hb
  have hnba : Walk (GE g) (· ≠ b) 0 a := Classical.byContradiction fun hc => hne (dom_antisymm hab hc hra)
  -- no node of the body of b is a
  have hna : ∀ z, z < g.length → bodyB g b z = true → z ≠ a := fun z hz hzb e => by
    subst e
    exact ((domsB_iff hv _ _).1 (body_dom hv hb hz hzb)).2.2 hnba
  have hxd := (domsB_iff hv _ _).1 (body_dom hv hb hx hxb)
  have hyd := (domsB_iff hv _ _).1 (body_dom hv hb hy hyb)
  -- from y to b without a
  have h1 : Walk (GE g) (· ≠ a) y b := by
    have hw := body_reach hv hb hy hyb
    have hle : ∀ {z : Nat}, Walk (GE g) (fun y => bodyB g b y = true) y z → z < g.length ∧ Walk (GE g) (· ≠ a) y z := by
      intro z hz
      induction hz with
      | refl h1 => exact ⟨hy, .refl (hna _ hy h1)⟩
      | snoc h1 h2 h3 ih =>
        have hl := succ_lt hv h2
        exact ⟨hl, .snoc ih.2 h2 (hna _ hl h3)⟩
    exact (hle hw).2
  have h2 : Walk (GE g) (· ≠ a) b x := down_walk hab hne hnba hxd.2.2 hxd.2.1
  rcases (bodyB_iff hv hx).1 hxa with e | ⟨_, t, h3, h4, h5⟩
  · exact absurd e (hna x hx hxb)
  · exact (bodyB_iff hv hy).2 (.inr ⟨hyd.2.1, t, h3, h4, (h1.trans h2).trans h5⟩)
theorem bodies_nest (hv : ValidG g) {a b : Nat} (ha : headB g a = true) (hb : headB g b = true) (hne : a ≠ b) {x : Nat} (hx : x < g.length) (hxa : bodyB g a x = true) (hxb : bodyB g b x = true) :
    (∀ y, y < g.length → bodyB g b y = true → bodyB g a y = true) ∨ (∀ y, y < g.length → bodyB g a y = true → bodyB g b y = true) := by
  obtain ⟨ns, hO⟩ := ordF hv
  obtain ⟨D, hD⟩ := hO.dom
  have h1 := (domsB_iff hv _ _).1 (body_dom hv ha hx hxa)
  have h2 := (domsB_iff hv _ _).1 (body_dom hv hb hx hxb)
  rcases hD.dom_lin ((hO.mem x).2 h1.2.1) h1.2.2 h2.2.2 with h3 | h3
  · exact .inl (body_sub hv ha hb h3 hne hx hxa hxb)
  · exact .inr (body_sub hv hb ha h3 (Ne.symm hne) hx hxb hxa)

/-- The list of loops, by its heads. -/
def headsL (g : List (List Nat)) : List Nat := (List.range g.length).filter (headB g)
def bodyL (g : List (List Nat)) (hd : Nat) : List Nat := (List.range g.length).filter (bodyB g hd)
theorem loopsL_heads (g : List (List Nat)) : loopsL g = (headsL g).map fun hd => (hd, bodyL g hd) := by
  unfold loopsL headsL
  have : ∀ l : List Nat, (l.filterMap fun h => if (List.range g.length).any (tailB g h) then some (h, (List.range g.length).filter (bodyB g h)) else none) = (l.filter (headB g)).map fun hd => (hd, bodyL g hd) := by
    intro l
    induction l with
    | nil => rfl
    | cons a l ih =>
      rw [List.filterMap_cons, List.filter_cons, ih]
      have e : (List.range g.length).any (tailB g a) = headB g a := rfl
      rw [e]
      cases h : headB g a <;> simp [bodyL]
  exact this _
theorem headsL_lt {g : List (List Nat)} {i j a b : Nat} (hi : (headsL g)[i]? = some a) (hj : (headsL g)[j]? = some b) (hij : i < j) : a < b := by
  have hp : (headsL g).Pairwise (· < ·) := List.Pairwise.filter _ List.pairwise_lt_range
  rw [List.pairwise_iff_getElem] at hp
  obtain ⟨h1, rfl⟩ := List.getElem?_eq_some_iff.1 hi
  obtain ⟨h2, rfl⟩ := List.getElem?_eq_some_iff.1 hj
  exact hp i j h1 h2 hij
theorem bodyL_lt {g : List (List Nat)} {hd i j a b : Nat} (hi : (bodyL g hd)[i]? = some a) (hj : (bodyL g hd)[j]? = some b) (hij : i < j) : a < b := by
  have hp : (bodyL g hd).Pairwise (· < ·) := List.Pairwise.filter _ List.pairwise_lt_range
  rw [List.pairwise_iff_getElem] at hp
  obtain ⟨h1, rfl⟩ := List.getElem?_eq_some_iff.1 hi
  obtain ⟨h2, rfl⟩ := List.getElem?_eq_some_iff.1 hj
  exact hp i j h1 h2 hij
theorem headsL_mem {g : List (List Nat)} {hd : Nat} : hd ∈ headsL g ↔ hd < g.length ∧ headB g hd = true := by unfold headsL; rw [List.mem_filter, List.mem_range]
theorem bodyL_mem {g : List (List Nat)} {hd x : Nat} : x ∈ bodyL g hd ↔ x < g.length ∧ bodyB g hd x = true := by unfold bodyL; rw [List.mem_filter, List.mem_range]
end
end Go.Proofs.Ytpfinkcnklkclaa
