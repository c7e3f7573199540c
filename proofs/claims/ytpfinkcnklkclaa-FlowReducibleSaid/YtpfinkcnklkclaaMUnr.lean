/-
  Further nodes that are not reachable change neither order, dominators, loops nor reducibility. No program in sight.
-/
import Derived.Test.YtpfinkcnklkclaaMSame
set_option linter.unusedVariables false
set_option linter.unusedSimpArgs false
namespace Go.Proofs.Ytpfinkcnklkclaa

/-- The search leaves one list. -/
theorem drun_det {g : List (List Nat)} : ∀ (k k' : Nat) (seen : List Bool) (stk : List (Nat × Nat)) (post F F' : List Nat), DRun g k seen stk post F → DRun g k' seen stk post F' → F = F'
  | 0, 0, _, _, _, _, _, h, h' => by rw [← h.2, ← h'.2]
  | 0, k' + 1, _, _, _, _, _, h, h' => by obtain ⟨st, u, j, e, _⟩ := h'; rw [h.1] at e; simp at e
  | k + 1, 0, _, _, _, _, _, h, h' => by obtain ⟨st, u, j, e, _⟩ := h; rw [h'.1] at e; simp at e
  | k + 1, k' + 1, seen, stk, post, F, F', h, h' => by
    obtain ⟨st, u, j, e, h⟩ := h
    obtain ⟨st', u', j', e', h'⟩ := h'
    rw [e] at e'
    obtain ⟨rfl, e2⟩ := List.append_inj' e' rfl
    simp only [List.cons.injEq, Prod.mk.injEq, and_true] at e2
    obtain ⟨rfl, rfl⟩ := e2
    rcases h with ⟨a1, a2⟩ | ⟨s, a1, a2, a3⟩ | ⟨s, a1, a2, a3⟩ <;> rcases h' with ⟨b1, b2⟩ | ⟨s', b1, b2, b3⟩ | ⟨s', b1, b2, b3⟩
    · exact drun_det k k' _ _ _ _ _ a2 b2
    · rw [List.getElem?_eq_none (by omega)] at b1; cases b1
    · rw [List.getElem?_eq_none (by omega)] at b1; cases b1
    · rw [List.getElem?_eq_none (by omega)] at a1; cases a1
    · exact drun_det k k' _ _ _ _ _ a3 b3
    · rw [a1] at b1; cases b1; rw [a2] at b2; cases b2
    · rw [List.getElem?_eq_none (by omega)] at a1; cases a1
    · rw [a1] at b1; cases b1; rw [a2] at b2; cases b2
    · rw [a1] at b1; cases b1; exact drun_det k k' _ _ _ _ _ a3 b3
theorem order_unique {g : List (List Nat)} (hv : ValidG g) {ord : List Nat} (h : IsOrder g ord) : ord = orderL g := by
  obtain ⟨ns, hO⟩ := ordF hv
  obtain ⟨k, hk⟩ := h
  obtain ⟨k', hk'⟩ := hO.is
  have := drun_det k k' _ _ _ _ _ hk hk'
  rw [hO.eq, ← List.reverse_reverse ord, this, List.reverse_reverse]

section
variable {g ex : List (List Nat)}
theorem ext_succ {u : Nat} (hu : u < g.length) : succ (g ++ ex) u = succ g u := by
  unfold succ; rw [List.getD_eq_getElem?_getD, List.getD_eq_getElem?_getD, List.getElem?_append_left hu]
theorem drun_ext (hv : ValidG g) : ∀ (k : Nat) (seen : List Bool) (more : List Bool) (stk : List (Nat × Nat)) (post F : List Nat), seen.length = g.length → (∀ p ∈ stk, p.1 < g.length) → DRun g k seen stk post F → DRun (g ++ ex) k (seen ++ more) stk post F
  | 0, _, _, _, _, _, _, _, h => h
  | k + 1, seen, more, stk, post, F, hl, hs, h => by
    obtain ⟨st, u, j, rfl, h⟩ := h
    have hu : u < g.length := hs (u, j) (by simp)
    have hst : ∀ p ∈ st, p.1 < g.length := fun p hp => hs p (by simp [hp])
    refine ⟨st, u, j, rfl, ?_⟩
    rw [ext_succ hu]
    rcases h with ⟨a1, a2⟩ | ⟨s, a1, a2, a3⟩ | ⟨s, a1, a2, a3⟩
    · exact .inl ⟨a1, drun_ext hv k _ _ _ _ _ hl hst a2⟩
    · have hsl : s < g.length := succ_lt hv (List.mem_of_getElem? a1)
      refine .inr (.inl ⟨s, a1, by rw [List.getElem?_append_left (by omega)]; exact a2, drun_ext hv k _ _ _ _ _ hl ?_ a3⟩)
      intro p hp
      rcases List.mem_append.1 hp with hp | hp
      · exact hst p hp
      · simp at hp; subst hp; exact hu
    · have hsl : s < g.length := succ_lt hv (List.mem_of_getElem? a1)
      refine .inr (.inr ⟨s, a1, by rw [List.getElem?_append_left (by omega)]; exact a2, ?_⟩)
      rw [List.set_append_left _ _ (by omega)]
      refine drun_ext hv k _ _ _ _ _ (by simpa using hl) ?_ a3
      intro p hp
      rcases List.mem_append.1 hp with hp | hp
      · rcases List.mem_append.1 hp with hp | hp
        · exact hst p hp
        · simp at hp; subst hp; exact hu
      · simp at hp; subst hp; exact hsl

/-- What is asked of the further nodes. -/
structure Ext (g ex : List (List Nat)) : Prop where
  vg : ValidG g
  vx : ∀ l ∈ ex, ∀ s ∈ l, s < g.length + ex.length
theorem Ext.valid (h : Ext g ex) : ValidG (g ++ ex) := by
  refine ⟨by have := h.vg.1; simp; omega, fun l hl s hs => ?_⟩
  rw [List.length_append]
  rcases List.mem_append.1 hl with hl | hl
  · have := h.vg.2 l hl s hs; omega
  · exact h.vx l hl s hs
theorem Ext.order (h : Ext g ex) : orderL (g ++ ex) = orderL g := by
  obtain ⟨ns, hO⟩ := ordF h.vg
  refine (order_unique h.valid ?_).symm
  obtain ⟨k, hk⟩ := hO.is
  refine ⟨k, ?_⟩
  have := drun_ext (ex := ex) h.vg k _ (List.replicate ex.length false) _ _ _ (by simp) (by simp; exact h.vg.1) hk
  rw [hO.eq, List.length_append, ← List.replicate_append_replicate, List.set_append_left _ _ (by simpa using h.vg.1)]
  exact this
theorem Ext.walk (h : Ext g ex) {P : Nat → Prop} {x : Nat} : Walk (GE (g ++ ex)) P 0 x ↔ Walk (GE g) P 0 x := by
  have hr : ∀ {x : Nat}, Walk (GE g) P 0 x → x < g.length := fun hw => re_lt h.vg (hw.imp (fun _ _ => trivial))
  constructor
  · intro hw
    induction hw with
    | refl h1 => exact .refl h1
    | snoc h1 h2 h3 ih =>
      unfold GE at h2
      rw [ext_succ (hr ih)] at h2
      exact .snoc ih h2 h3
  · intro hw
    induction hw with
    | refl h1 => exact .refl h1
    | snoc h1 h2 h3 ih =>
      refine .snoc ih ?_ h3
      show _ ∈ succ _ _
      rw [ext_succ (hr h1)]
      exact h2
theorem Ext.reach (h : Ext g ex) {x : Nat} : Reach (GE (g ++ ex)) x ↔ Reach (GE g) x := h.walk
theorem Ext.doms (h : Ext g ex) : domsB (g ++ ex) = domsB g := by
  funext d x
  refine bool_iff_eq ?_
  rw [domsB_iff h.vg, domsB_iff h.valid, h.reach, h.reach]
  unfold Dom
  rw [h.walk]
theorem Ext.re (h : Ext g ex) : RE (g ++ ex) = RE g := by
  funext u s
  unfold RE
  rw [h.reach]
  refine propext (and_congr_right fun hr => ?_)
  rw [ext_succ (re_lt h.vg hr)]
theorem doms_lt (hv : ValidG g) {d x : Nat} (h : domsB g d x = true) : d < g.length ∧ x < g.length := by
  rw [domsB_iff hv] at h
  exact ⟨re_lt hv h.1, re_lt hv h.2.1⟩
theorem best_skip (hv : ValidG g) (x : Nat) (l : List Nat) (hl : ∀ d ∈ l, g.length ≤ d) (b : Int) : l.foldl (best1 g x) b = b := by
  induction l generalizing b with
  | nil => rfl
  | cons d l ih =>
    rw [List.foldl_cons]
    have : best1 g x b d = b := if_neg (fun hc => by have := (doms_lt hv hc.2.1).1; have := hl d (by simp); omega)
    rw [this]
    exact ih (fun e he => hl e (by simp [he])) b
theorem range_split (n m : Nat) : List.range (n + m) = List.range n ++ (List.range m).map (n + ·) := by rw [List.range_add]
theorem Ext.idomAt (h : Ext g ex) (x : Nat) : idomAt (g ++ ex) x = idomAt g x := by
  unfold Go.Proofs.Ytpfinkcnklkclaa.idomAt
  have : best1 (g ++ ex) x = best1 g x := by funext b d; unfold best1; rw [h.doms]
  rw [this, List.length_append, range_split, List.foldl_append, best_skip h.vg x _ (fun d hd => by obtain ⟨i, _, rfl⟩ := List.mem_map.1 hd; omega)]
theorem idomAt_far (hv : ValidG g) {x : Nat} (hx : g.length ≤ x) : idomAt g x = -1 := by
  unfold idomAt
  have : ∀ (l : List Nat) (b : Int), l.foldl (best1 g x) b = b := by
    intro l
    induction l with
    | nil => intro b; rfl
    | cons d l ih =>
      intro b
      rw [List.foldl_cons]
      have : best1 g x b d = b := if_neg (fun hc => by have := (doms_lt hv hc.2.1).2; omega)
      rw [this, ih]
  exact this _ _
theorem Ext.idom (h : Ext g ex) : idomL (g ++ ex) = idomL g ++ List.replicate ex.length (-1) := by
  unfold idomL
  rw [List.length_append, range_split, List.map_append, List.map_map]
  congr 1
  · exact List.map_congr_left (fun x _ => h.idomAt x)
  · apply List.ext_getElem?
    intro i
    rw [List.getElem?_map, List.getElem?_replicate]
    by_cases hi : i < ex.length
    · rw [List.getElem?_range hi, if_pos hi]
      simp only [Option.map_some, Function.comp_apply]
      rw [h.idomAt, idomAt_far h.vg (by omega)]
    · rw [List.getElem?_eq_none (by simpa using hi), if_neg hi]; rfl
theorem Ext.tail (h : Ext g ex) : tailB (g ++ ex) = tailB g := by
  funext a b
  refine bool_iff_eq ?_
  rw [tailB_iff h.vg, tailB_iff h.valid, h.re, h.doms]
theorem tail_lt (hv : ValidG g) {a b : Nat} (h : tailB g a b = true) : a < g.length ∧ b < g.length := by
  rw [tailB_iff hv] at h
  exact doms_lt hv h.2
theorem any_skip (hv : ValidG g) (hd : Nat) (m : Nat) : (List.range (g.length + m)).any (tailB g hd) = (List.range g.length).any (tailB g hd) := by
  rw [range_split, List.any_append]
  have : ((List.range m).map (g.length + ·)).any (tailB g hd) = false := by
    rw [List.any_eq_false]
    intro x hx hc
    obtain ⟨i, _, rfl⟩ := List.mem_map.1 hx
    have := (tail_lt hv hc).2
    omega
  rw [this, Bool.or_false]
/-- What the search from inside finds: only old nodes. -/
theorem Ext.walkFrom (h : Ext g ex) {P : Nat → Prop} {a x : Nat} (ha : a < g.length) : Walk (GE (g ++ ex)) P a x ↔ Walk (GE g) P a x := by
  have hr : ∀ {x : Nat}, Walk (GE g) P a x → x < g.length := by
    intro x hw
    cases hw with
    | refl _ => exact ha
    | snoc _ h2 _ => exact succ_lt h.vg h2
  constructor
  · intro hw
    induction hw with
    | refl h1 => exact .refl h1
    | snoc h1 h2 h3 ih =>
      unfold GE at h2
      rw [ext_succ (hr ih)] at h2
      exact .snoc ih h2 h3
  · intro hw
    induction hw with
    | refl h1 => exact .refl h1
    | snoc h1 h2 h3 ih =>
      refine .snoc ih ?_ h3
      show _ ∈ succ _ _
      rw [ext_succ (hr h1)]
      exact h2
theorem Ext.body (h : Ext g ex) {hd x : Nat} (hx : x < g.length) : bodyB (g ++ ex) hd x = bodyB g hd x := by
  refine bool_iff_eq ?_
  rw [bodyB_iff h.vg hx, bodyB_iff h.valid (by simp; omega), h.tail, h.reach]
  refine or_congr Iff.rfl (and_congr_right fun hr => ?_)
  constructor
  · rintro ⟨t, h1, h2, h3⟩; exact ⟨t, (tail_lt h.vg h2).2, h2, (h.walkFrom hx).1 h3⟩
  · rintro ⟨t, h1, h2, h3⟩; exact ⟨t, by simp; omega, h2, (h.walkFrom hx).2 h3⟩
theorem Ext.bodyFar (h : Ext g ex) {hd x : Nat} (hhd : hd < g.length) (hx : g.length ≤ x) (hx2 : x < g.length + ex.length) : bodyB (g ++ ex) hd x = false := by
  rw [Bool.eq_false_iff]
  intro hc
  rw [bodyB_iff h.valid (by simp; omega), h.reach] at hc
  rcases hc with rfl | hc
  · omega
  · have := re_lt h.vg hc.1; omega
theorem filterMap_ext {α β : Type} {f k : α → Option β} : ∀ {l : List α}, (∀ a ∈ l, f a = k a) → l.filterMap f = l.filterMap k
  | [], _ => rfl
  | a :: l, h => by rw [List.filterMap_cons, List.filterMap_cons, h a (by simp), filterMap_ext (fun b hb => h b (by simp [hb]))]
theorem Ext.loops (h : Ext g ex) : loopsL (g ++ ex) = loopsL g := by
  unfold loopsL
  rw [h.tail, List.length_append, range_split, List.filterMap_append]
  have h2 : ((List.range ex.length).map (g.length + ·)).filterMap (fun hd => if (List.range g.length ++ (List.range ex.length).map (g.length + ·)).any (tailB g hd) then some (hd, (List.range g.length ++ (List.range ex.length).map (g.length + ·)).filter (bodyB (g ++ ex) hd)) else none) = [] := by
    rw [List.filterMap_eq_nil_iff]
    intro a ha
    obtain ⟨i, _, rfl⟩ := List.mem_map.1 ha
    rw [if_neg]
    intro hc
    obtain ⟨u, _, ht⟩ := List.any_eq_true.1 hc
    have := (tail_lt h.vg ht).1
    omega
  rw [h2, List.append_nil]
  refine filterMap_ext fun a ha => ?_
  have ha' := List.mem_range.1 ha
  rw [← range_split, any_skip h.vg, range_split, List.filter_append]
  have h3 : ((List.range ex.length).map (g.length + ·)).filter (bodyB (g ++ ex) a) = [] := by
    rw [List.filter_eq_nil_iff]
    intro x hx
    obtain ⟨i, hi, rfl⟩ := List.mem_map.1 hx
    rw [h.bodyFar ha' (by omega) (by have := List.mem_range.1 hi; omega)]
    simp
  rw [h3, List.append_nil, List.filter_congr (fun x hx => h.body (List.mem_range.1 hx))]
theorem Ext.red (h : Ext g ex) : redF (g ++ ex) = redF g := by
  refine bool_iff_eq ?_
  rw [redF_iff h.vg, redF_iff h.valid, h.re]
end
end Go.Proofs.Ytpfinkcnklkclaa
