/-
  Renumbering the nodes renumbers the order, the dominators and the loops. No program in sight.
-/
import Derived.Test.YtpfinkcnklkclaaMSub
set_option linter.unusedVariables false
set_option linter.unusedSimpArgs false
namespace Go.Proofs.Ytpfinkcnklkclaa

/-- A permutation of the numbers below n that keeps 0. -/
structure Bij (n : Nat) (tl : List Nat) : Prop where
  len : tl.length = n
  lt : ∀ (x a : Nat), tl[x]? = some a → a < n
  inj : ∀ (x y a : Nat), tl[x]? = some a → tl[y]? = some a → x = y
  surj : ∀ a, a < n → ∃ x : Nat, tl[x]? = some a
  zero : tl[0]? = some 0
theorem Bij.start {n : Nat} (hn : 0 < n) : Bij n (List.range n) := by
  have key : ∀ {x a : Nat}, (List.range n)[x]? = some a → a = x ∧ x < n := fun {x a} h => by
    have hl := (List.getElem?_eq_some_iff.1 h).1
    rw [List.length_range] at hl
    rw [List.getElem?_range hl] at h
    exact ⟨(Option.some.inj h).symm, hl⟩
  refine ⟨by simp, fun x a h => by have := key h; omega, fun x y a h k => by have := key h; have := key k; omega, fun a ha => ⟨a, List.getElem?_range ha⟩, List.getElem?_range hn⟩
/-- Two entries change places. -/
theorem Bij.swap {n : Nat} {tl : List Nat} (h : Bij n tl) {i j a b : Nat} (hi : tl[i]? = some a) (hj : tl[j]? = some b) (hi0 : i ≠ 0) (hj0 : j ≠ 0) : Bij n ((tl.set i b).set j a) := by
  have hil := (List.getElem?_eq_some_iff.1 hi).1
  have hjl := (List.getElem?_eq_some_iff.1 hj).1
  have key : ∀ x : Nat, ((tl.set i b).set j a)[x]? = tl[if x = j then i else if x = i then j else x]? := by
    intro x
    by_cases e : x = j
    · subst e
      rw [List.getElem?_set_self (by simpa using hjl), if_pos rfl, hi]
    · rw [List.getElem?_set_ne (Ne.symm e), if_neg e]
      by_cases e2 : x = i
      · subst e2; rw [List.getElem?_set_self hil, if_pos rfl, hj]
      · rw [List.getElem?_set_ne (Ne.symm e2), if_neg e2]
  refine ⟨by simpa using h.len, fun x c hx => h.lt _ c (by rw [key] at hx; exact hx), fun x y c hx hy => ?_, fun c hc => ?_, ?_⟩
  · rw [key] at hx hy
    have := h.inj _ _ c hx hy
    split at this <;> split at this <;> (try split at this) <;> (try split at this) <;> omega
  · obtain ⟨x, hx⟩ := h.surj c hc
    refine ⟨if x = j then i else if x = i then j else x, ?_⟩
    rw [key, ← hx]
    congr 1
    split <;> split <;> (try split) <;> omega
  · rw [key, if_neg (Ne.symm hj0), if_neg (Ne.symm hi0)]; exact h.zero

/-- Node x of g has the number to x in h. -/
structure Ren (g h : List (List Nat)) (to : Nat → Nat) : Prop where
  vg : ValidG g
  len : h.length = g.length
  lt : ∀ x, x < g.length → to x < g.length
  inj : ∀ x y, x < g.length → y < g.length → to x = to y → x = y
  surj : ∀ a, a < g.length → ∃ x, x < g.length ∧ to x = a
  zero : to 0 = 0
  succ : ∀ u, u < g.length → succ h (to u) = (succ g u).map to
section
variable {g h : List (List Nat)} {to : Nat → Nat}
theorem Ren.vh (r : Ren g h to) : ValidG h := by
  refine ⟨by rw [r.len]; exact r.vg.1, fun l hl s hs => ?_⟩
  obtain ⟨a, ha⟩ := List.getElem?_of_mem hl
  obtain ⟨u, hu, rfl⟩ := r.surj a (by rw [← r.len]; exact (List.getElem?_eq_some_iff.1 ha).1)
  have hs' : s ∈ Go.Proofs.Ytpfinkcnklkclaa.succ h (to u) := by unfold Go.Proofs.Ytpfinkcnklkclaa.succ; rw [List.getD_eq_getElem?_getD, ha]; exact hs
  rw [r.succ u hu] at hs'
  obtain ⟨x, hx, rfl⟩ := List.mem_map.1 hs'
  rw [r.len]
  exact r.lt x (succ_lt r.vg hx)
theorem Ren.drun (r : Ren g h to) : ∀ (k : Nat) (seen seen' : List Bool) (stk : List (Nat × Nat)) (post F : List Nat), seen.length = g.length → seen'.length = g.length → (∀ x, x < g.length → seen'[to x]? = seen[x]?) → (∀ p ∈ stk, p.1 < g.length) →
    DRun g k seen stk post F → DRun h k seen' (stk.map fun p => (to p.1, p.2)) (post.map to) (F.map to)
  | 0, _, _, _, _, _, _, _, _, _, hd => by obtain ⟨rfl, rfl⟩ := hd; exact ⟨rfl, rfl⟩
  | k + 1, seen, seen', stk, post, F, hl, hl', hx, hs, hd => by
    obtain ⟨st, u, j, rfl, hd⟩ := hd
    have hu : u < g.length := hs (u, j) (by simp)
    have hst : ∀ p ∈ st, p.1 < g.length := fun p hp => hs p (by simp [hp])
    refine ⟨st.map fun p => (to p.1, p.2), to u, j, by simp, ?_⟩
    rw [r.succ u hu]
    rcases hd with ⟨a1, a2⟩ | ⟨s, a1, a2, a3⟩ | ⟨s, a1, a2, a3⟩
    · refine .inl ⟨by simpa using a1, ?_⟩
      have := r.drun k seen seen' st (post ++ [u]) F hl hl' hx hst a2
      simpa using this
    · have hsl : s < g.length := succ_lt r.vg (List.mem_of_getElem? a1)
      refine .inr (.inl ⟨to s, by rw [List.getElem?_map, a1]; rfl, by rw [hx s hsl]; exact a2, ?_⟩)
      have := r.drun k seen seen' (st ++ [(u, j + 1)]) post F hl hl' hx ?_ a3
      · simpa using this
      · intro p hp
        rcases List.mem_append.1 hp with hp | hp
        · exact hst p hp
        · simp at hp; subst hp; exact hu
    · have hsl : s < g.length := succ_lt r.vg (List.mem_of_getElem? a1)
      refine .inr (.inr ⟨to s, by rw [List.getElem?_map, a1]; rfl, by rw [hx s hsl]; exact a2, ?_⟩)
      have := r.drun k (seen.set s true) (seen'.set (to s) true) (st ++ [(u, j + 1)] ++ [(s, 0)]) post F (by simpa using hl) (by simpa using hl') ?_ ?_ a3
      · simpa using this
      · intro x hxl
        by_cases e : s = x
        · subst e
          rw [List.getElem?_set_self (by rw [hl']; exact r.lt _ hsl), List.getElem?_set_self (by rw [hl]; exact hsl)]
        · rw [List.getElem?_set_ne (fun e2 => e (r.inj s x hsl hxl e2)), List.getElem?_set_ne e]
          exact hx x hxl
      · intro p hp
        rcases List.mem_append.1 hp with hp | hp
        · rcases List.mem_append.1 hp with hp | hp
          · exact hst p hp
          · simp at hp; subst hp; exact hu
        · simp at hp; subst hp; exact hsl
theorem Ren.order (r : Ren g h to) : orderL h = (orderL g).map to := by
  obtain ⟨ns, hO⟩ := ordF r.vg
  refine (order_unique r.vh ?_).symm
  obtain ⟨k, hk⟩ := hO.is
  refine ⟨k, ?_⟩
  have hx : ∀ x, x < g.length → ((List.replicate h.length false).set 0 true)[to x]? = ((List.replicate g.length false).set 0 true)[x]? := by
    intro x hxl
    have hxl' := r.lt x hxl
    by_cases e : x = 0
    · subst e
      rw [r.zero, List.getElem?_set_self (by rw [List.length_replicate, r.len]; exact hxl), List.getElem?_set_self (by rw [List.length_replicate]; exact hxl)]
    · have e2 : 0 ≠ to x := fun e2 => e (r.inj x 0 hxl r.vg.1 (by rw [r.zero]; exact e2.symm))
      rw [List.getElem?_set_ne e2, List.getElem?_set_ne (Ne.symm e), List.getElem?_replicate, List.getElem?_replicate, if_pos hxl, if_pos (by rw [r.len]; exact hxl')]
  have := r.drun k _ ((List.replicate h.length false).set 0 true) _ _ _ (by simp) (by simp [r.len]) hx (by simp; exact r.vg.1) hk
  rw [hO.eq, ← List.map_reverse]
  simpa [r.zero] using this
theorem Ren.ge (r : Ren g h to) {a b : Nat} (ha : a < g.length) (hab : GE g a b) : GE h (to a) (to b) := by
  show _ ∈ Go.Proofs.Ytpfinkcnklkclaa.succ _ _
  rw [r.succ a ha]
  exact List.mem_map.2 ⟨b, hab, rfl⟩
theorem Ren.eg (r : Ren g h to) {a c : Nat} (ha : a < g.length) (hac : GE h (to a) c) : ∃ b, b < g.length ∧ c = to b ∧ GE g a b := by
  have hac' : c ∈ Go.Proofs.Ytpfinkcnklkclaa.succ h (to a) := hac
  rw [r.succ a ha] at hac'
  obtain ⟨b, hb, rfl⟩ := List.mem_map.1 hac'
  exact ⟨b, succ_lt r.vg hb, rfl, hb⟩
theorem Ren.w1 (r : Ren g h to) {P Q : Nat → Prop} (hPQ : ∀ x, x < g.length → P x → Q (to x)) {x : Nat} (hw : Walk (GE g) P 0 x) : x < g.length ∧ Walk (GE h) Q 0 (to x) := by
  induction hw with
  | refl h1 => exact ⟨r.vg.1, by rw [r.zero]; exact .refl (by have := hPQ 0 r.vg.1 h1; rwa [r.zero] at this)⟩
  | snoc h1 h2 h3 ih =>
    have hl := succ_lt r.vg h2
    exact ⟨hl, .snoc ih.2 (r.ge ih.1 h2) (hPQ _ hl h3)⟩
theorem Ren.w2 (r : Ren g h to) {Q : Nat → Prop} {y : Nat} (hw : Walk (GE h) Q 0 y) : ∃ x, x < g.length ∧ y = to x ∧ Walk (GE g) (fun z => Q (to z)) 0 x := by
  induction hw with
  | refl h1 => exact ⟨0, r.vg.1, r.zero.symm, .refl (by show Q (to 0); rw [r.zero]; exact h1)⟩
  | snoc h1 h2 h3 ih =>
    obtain ⟨x, hx, rfl, hw⟩ := ih
    obtain ⟨b, hb, rfl, hab⟩ := r.eg hx h2
    exact ⟨b, hb, rfl, .snoc hw hab h3⟩
theorem Ren.reach (r : Ren g h to) {x : Nat} (hx : x < g.length) : Reach (GE h) (to x) ↔ Reach (GE g) x := by
  constructor
  · intro hw
    obtain ⟨y, hy, e, hw'⟩ := r.w2 hw
    rw [r.inj x y hx hy e]; exact hw'
  · intro hw; exact (r.w1 (Q := fun _ => True) (fun _ _ _ => trivial) hw).2
theorem Ren.dom (r : Ren g h to) {d x : Nat} (hd : d < g.length) (hx : x < g.length) : Dom (GE h) (to d) (to x) ↔ Dom (GE g) d x := by
  refine not_congr ⟨fun hw => ?_, fun hw => (r.w1 (P := fun y => y ≠ d) (Q := fun y => y ≠ to d) (fun y hy hyd e => hyd (r.inj y d hy hd e)) hw).2⟩
  obtain ⟨y, hy, e, hw'⟩ := r.w2 hw
  rw [r.inj x y hx hy e]
  exact hw'.imp (fun z hz e2 => hz (by rw [e2]))
theorem Ren.doms (r : Ren g h to) {d x : Nat} (hd : d < g.length) (hx : x < g.length) : domsB h (to d) (to x) = domsB g d x := by
  refine bool_iff_eq ?_
  rw [domsB_iff r.vg, domsB_iff r.vh, r.reach hd, r.reach hx, r.dom hd hx]
theorem Ren.idom (r : Ren g h to) {x : Nat} (hx : x < g.length) : (idomAt g x = -1 ∧ idomAt h (to x) = -1) ∨ ∃ c : Nat, c < g.length ∧ idomAt g x = (c : Int) ∧ idomAt h (to x) = (to c : Int) := by
  have key : ∀ d, d ≠ to x → domsB h d (to x) = true → ∃ d', d' < g.length ∧ d = to d' ∧ d' ≠ x ∧ domsB g d' x = true := fun d hd hdx => by
    obtain ⟨d', hd', rfl⟩ := r.surj d (by rw [← r.len]; exact (doms_lt r.vh hdx).1)
    exact ⟨d', hd', rfl, fun e => hd (by rw [e]), by rw [← r.doms hd' hx]; exact hdx⟩
  rcases idomOf r.vg x with ⟨h1, h2⟩ | ⟨b, h1, h2, h3, h4⟩
  · refine .inl ⟨h1, idomAt_is r.vh (.inl ⟨rfl, fun d hd hdx => ?_⟩)⟩
    obtain ⟨d', _, _, h5, h6⟩ := key d hd hdx
    exact h2 d' h5 h6
  · have hb := (doms_lt r.vg h3).1
    refine .inr ⟨b, hb, h1, idomAt_is r.vh (.inr ⟨to b, rfl, fun e => h2 (r.inj b x hb hx e), by rw [r.doms hb hx]; exact h3, fun d hd hdx => ?_⟩)⟩
    obtain ⟨d', hd', rfl, h5, h6⟩ := key d hd hdx
    exact (r.dom hd' hb).2 (h4 d' h5 h6)
theorem Ren.re (r : Ren g h to) {a b : Nat} (ha : a < g.length) (hb : b < g.length) : RE h (to a) (to b) ↔ RE g a b := by
  unfold RE
  rw [r.reach ha]
  refine and_congr_right fun _ => ⟨fun h1 => ?_, fun h1 => r.ge ha h1⟩
  obtain ⟨c, hc, e, h2⟩ := r.eg ha h1
  rw [r.inj b c hb hc e]; exact h2
theorem Ren.head (r : Ren g h to) {x : Nat} (hx : x < g.length) : headB h (to x) = headB g x := by
  refine bool_iff_eq ?_
  rw [headB_iff r.vg, headB_iff r.vh]
  constructor
  · rintro ⟨t, ht⟩
    obtain ⟨a, ha, rfl⟩ := r.surj t (by rw [← r.len]; exact (tail_lt r.vh ht).2)
    rw [tailB_iff r.vh, r.re ha hx, r.doms hx ha] at ht
    exact ⟨a, (tailB_iff r.vg _ _).2 ht⟩
  · rintro ⟨a, ht⟩
    have ha := (tail_lt r.vg ht).2
    rw [tailB_iff r.vg, ← r.re ha hx, ← r.doms hx ha] at ht
    exact ⟨to a, (tailB_iff r.vh _ _).2 ht⟩
theorem nodup_map_on {f : Nat → Nat} : ∀ {l : List Nat}, (∀ x ∈ l, ∀ y ∈ l, f x = f y → x = y) → l.Nodup → (l.map f).Nodup
  | [], _, _ => by simp
  | a :: l, h, hn => by
    have hn' := List.nodup_cons.1 hn
    rw [List.map_cons, List.nodup_cons]
    refine ⟨fun hc => ?_, nodup_map_on (fun x hx y hy => h x (by simp [hx]) y (by simp [hy])) hn'.2⟩
    obtain ⟨y, hy, e⟩ := List.mem_map.1 hc
    have := h y (by simp [hy]) a (by simp) e
    subst this
    exact hn'.1 hy
theorem Ren.loops (r : Ren g h to) : (loopsL h).length = (loopsL g).length := by
  rw [loops_length, loops_length, r.len]
  have hp : (List.range g.length).Perm ((List.range g.length).map to) := by
    refine (List.perm_ext_iff_of_nodup List.nodup_range (nodup_map_on (fun x hx y hy => r.inj x y (List.mem_range.1 hx) (List.mem_range.1 hy)) List.nodup_range)).2 fun a => ?_
    rw [List.mem_range, List.mem_map]
    constructor
    · intro ha; obtain ⟨x, hx, e⟩ := r.surj a ha; exact ⟨x, List.mem_range.2 hx, e⟩
    · rintro ⟨x, hx, rfl⟩; exact r.lt x (List.mem_range.1 hx)
  rw [(hp.filter (headB h)).length_eq, List.filter_map, List.length_map]
  rw [List.filter_congr (p := headB h ∘ to) (q := headB g) (fun x hx => r.head (List.mem_range.1 hx))]
theorem Ren.red (r : Ren g h to) : redF h = redF g := by
  refine bool_iff_eq ?_
  rw [redF_iff r.vg, redF_iff r.vh]
  have l1 : ∀ {a b : Nat}, RE g a b → a < g.length ∧ b < g.length := fun hab => ⟨re_lt r.vg hab.1, succ_lt r.vg hab.2⟩
  constructor
  · rintro ⟨rank, hr⟩
    refine ⟨fun x => rank (to x), fun a b hab => ?_⟩
    obtain ⟨ha, hb⟩ := l1 hab
    rcases hr (to a) (to b) ((r.re ha hb).2 hab) with h1 | h1
    · exact .inl h1
    · exact .inr (re_dom.2 ((r.dom hb ha).1 (re_dom.1 h1)))
  · rintro ⟨rank, hr⟩
    obtain ⟨fr, hfr⟩ : ∃ fr : Nat → Nat, ∀ y, ∀ x, x < g.length → to x = y → fr y = x := by
      refine Classical.axiomOfChoice (r := fun y a => ∀ x, x < g.length → to x = y → a = x) (fun y => ?_)
      by_cases hy : ∃ x, x < g.length ∧ to x = y
      · obtain ⟨x, hx, e⟩ := hy
        exact ⟨x, fun x' hx' e' => r.inj x x' hx hx' (by rw [e, e'])⟩
      · exact ⟨0, fun x hx e => absurd ⟨x, hx, e⟩ hy⟩
    refine ⟨fun y => rank (fr y), fun p q hpq => ?_⟩
    obtain ⟨a, ha, rfl⟩ := r.surj p (by rw [← r.len]; exact re_lt r.vh hpq.1)
    obtain ⟨b, hb, rfl⟩ := r.surj q (by rw [← r.len]; exact succ_lt r.vh hpq.2)
    simp only [hfr _ a ha rfl, hfr _ b hb rfl]
    rcases hr a b ((r.re ha hb).1 hpq) with h1 | h1
    · exact .inl h1
    · exact .inr (re_dom.2 ((r.dom hb ha).2 (re_dom.1 h1)))
end
end Go.Proofs.Ytpfinkcnklkclaa
