/-
  A new node in the middle of an edge: dominators, loops, reducibility. No program in sight.
-/
import Derived.Test.YtpfinkcnklkclaaMUnr
set_option linter.unusedVariables false
set_option linter.unusedSimpArgs false
namespace Go.Proofs.Ytpfinkcnklkclaa

/-- What the immediate dominator of a node is. -/
def IdomOf (g : List (List Nat)) (x : Nat) (b : Int) : Prop :=
  (b = -1 ∧ ∀ d, d ≠ x → domsB g d x = true → False) ∨ ∃ c : Nat, b = (c : Int) ∧ c ≠ x ∧ domsB g c x = true ∧ ∀ d, d ≠ x → domsB g d x = true → Dom (GE g) d c
theorem idomOf {g : List (List Nat)} (hv : ValidG g) (x : Nat) : IdomOf g x (idomAt g x) := by
  obtain ⟨ns, hO⟩ := ordF hv
  obtain ⟨D, hD⟩ := hO.dom
  rcases best_fold hv hO hD x g.length with ⟨h1, h2⟩ | ⟨b, h1, h2, h3, h4⟩
  · exact .inl ⟨h1, fun d h3 h4 => h2 d (doms_lt hv h4).1 ⟨h3, h4⟩⟩
  · exact .inr ⟨b, h1, h2, h3, fun d h5 h6 => h4 d (doms_lt hv h6).1 h5 h6⟩
theorem idom_unique {g : List (List Nat)} (hv : ValidG g) {x : Nat} {b c : Int} (hb : IdomOf g x b) (hc : IdomOf g x c) : b = c := by
  rcases hb with ⟨rfl, h1⟩ | ⟨b', rfl, h1, h2, h3⟩ <;> rcases hc with ⟨rfl, k1⟩ | ⟨c', rfl, k1, k2, k3⟩
  · rfl
  · exact (h1 c' k1 k2).elim
  · exact (k1 b' h1 h2).elim
  · have e1 := h3 c' k1 k2
    have e2 := k3 b' h1 h2
    rw [dom_antisymm e2 e1 ((domsB_iff hv b' x).1 h2).1]
theorem idomAt_is {g : List (List Nat)} (hv : ValidG g) {x : Nat} {b : Int} (hb : IdomOf g x b) : idomAt g x = b := idom_unique hv (idomOf hv x) hb

def headB (g : List (List Nat)) (hd : Nat) : Bool := (List.range g.length).any (tailB g hd)
theorem headB_iff {g : List (List Nat)} (hv : ValidG g) (hd : Nat) : headB g hd = true ↔ ∃ t, tailB g hd t = true := by
  unfold headB
  rw [List.any_eq_true]
  exact ⟨fun ⟨t, _, h⟩ => ⟨t, h⟩, fun ⟨t, h⟩ => ⟨t, List.mem_range.2 (tail_lt hv h).2, h⟩⟩
theorem filterMap_if {α β : Type} (p : α → Bool) (f : α → β) : ∀ (l : List α), (l.filterMap fun a => if p a then some (f a) else none).length = (l.filter p).length
  | [] => rfl
  | a :: l => by
    rw [List.filterMap_cons, List.filter_cons]
    cases h : p a <;> simp [filterMap_if p f l]
theorem loops_length (g : List (List Nat)) : (loopsL g).length = ((List.range g.length).filter (headB g)).length := by
  unfold loopsL
  rw [← filterMap_if (headB g) (fun h => (h, (List.range g.length).filter (bodyB g h)))]
  rfl

/-- The edge u v of g is subdivided by the new node. -/
structure Subd (g h : List (List Nat)) (u v : Nat) : Prop where
  vg : ValidG g
  vh : ValidG h
  len : h.length = g.length + 1
  hu : u < g.length
  euv : v ∈ succ g u
  ef : ∀ a, g.length ∈ succ h a ↔ a = u
  fe : ∀ b, b ∈ succ h g.length ↔ b = v
  old : ∀ a b, a ≠ g.length → b ≠ g.length → b ∈ succ h a → b ∈ succ g a
  new : ∀ a b, b ∈ succ g a → b ∈ succ h a ∨ (a = u ∧ b = v)
section
variable {g h : List (List Nat)} {u v : Nat}
theorem Subd.hv (s : Subd g h u v) : v < g.length := succ_lt s.vg s.euv
theorem Subd.w1 (s : Subd g h u v) {P : Nat → Prop} (hP : P g.length) {x : Nat} (hw : Walk (GE g) P 0 x) : Walk (GE h) P 0 x := by
  induction hw with
  | refl h1 => exact .refl h1
  | @snoc b c h1 h2 h3 ih =>
    rcases s.new b c h2 with h4 | ⟨rfl, rfl⟩
    · exact .snoc ih h4 h3
    · exact .snoc (.snoc ih ((s.ef _).2 rfl) hP) ((s.fe _).2 rfl) h3
theorem Subd.w2 (s : Subd g h u v) {P : Nat → Prop} {x : Nat} (hw : Walk (GE h) P 0 x) : (x ≠ g.length → Walk (GE g) P 0 x) ∧ (x = g.length → Walk (GE g) P 0 u) := by
  induction hw with
  | refl h1 => exact ⟨fun _ => .refl h1, fun e => absurd e (by have := s.vg.1; omega)⟩
  | @snoc b c h1 h2 h3 ih =>
    constructor
    · intro hc
      by_cases hb : b = g.length
      · subst hb
        have : c = v := (s.fe c).1 h2
        subst this
        exact .snoc (ih.2 rfl) s.euv h3
      · exact .snoc (ih.1 hb) (s.old b c hb hc h2) h3
    · intro hc
      subst hc
      have : b = u := (s.ef b).1 h2
      subst this
      exact ih.1 (by have := s.hu; omega)
theorem Subd.reach (s : Subd g h u v) {x : Nat} (hx : x ≠ g.length) : Reach (GE h) x ↔ Reach (GE g) x := ⟨fun hw => (s.w2 hw).1 hx, fun hw => s.w1 trivial hw⟩
theorem Subd.reachF (s : Subd g h u v) : Reach (GE h) g.length ↔ Reach (GE g) u := ⟨fun hw => (s.w2 hw).2 rfl, fun hw => .snoc (s.w1 trivial hw) ((s.ef _).2 rfl) trivial⟩
theorem Subd.dom (s : Subd g h u v) {d x : Nat} (hd : d ≠ g.length) (hx : x ≠ g.length) : Dom (GE h) d x ↔ Dom (GE g) d x :=
  ⟨fun hn hw => hn (s.w1 (P := fun y => y ≠ d) (Ne.symm hd) hw), fun hn hw => hn ((s.w2 hw).1 hx)⟩
theorem Subd.f0 (s : Subd g h u v) : g.length ≠ 0 := by have := s.vg.1; omega
theorem Subd.une (s : Subd g h u v) : u ≠ g.length := by have := s.hu; omega
theorem Subd.vne (s : Subd g h u v) : v ≠ g.length := by have := s.hv; omega
theorem Subd.domUF (s : Subd g h u v) : Dom (GE h) u g.length := dom_preds s.f0 (fun p hp => by have : p = u := (s.ef p).1 hp; rw [this]; exact dom_refl _ _)
theorem Subd.domF (s : Subd g h u v) {d : Nat} (hd : d ≠ g.length) : Dom (GE h) d g.length ↔ Dom (GE h) d u :=
  ⟨fun hn => dom_pred hn hd ((s.ef u).2 rfl), fun hn => dom_preds s.f0 (fun p hp => by have : p = u := (s.ef p).1 hp; rw [this]; exact hn)⟩
theorem Subd.noFU (s : Subd g h u v) (hr : Reach (GE h) u) : ¬ Dom (GE h) g.length u := fun hn => s.une (dom_antisymm s.domUF hn hr)
theorem Subd.doms (s : Subd g h u v) {d x : Nat} (hd : d ≠ g.length) (hx : x ≠ g.length) : domsB h d x = domsB g d x := by
  refine bool_iff_eq ?_
  rw [domsB_iff s.vg, domsB_iff s.vh, s.reach hd, s.reach hx, s.dom hd hx]
/-- The new node dominates only what its source dominates. -/
theorem Subd.under (s : Subd g h u v) {x : Nat} (hx : x ≠ g.length) (hd : domsB h g.length x = true) : u ≠ x ∧ domsB g u x = true := by
  have h1 := (domsB_iff s.vh _ _).1 hd
  have hru := s.reachF.1 h1.1
  have h2 : Dom (GE h) u x := dom_trans s.domUF h1.2.2
  refine ⟨fun e => ?_, ?_⟩
  · subst e; exact s.noFU h1.2.1 h1.2.2
  · rw [domsB_iff s.vg]
    exact ⟨hru, (s.reach hx).1 h1.2.1, (s.dom s.une hx).1 h2⟩
theorem Subd.idom (s : Subd g h u v) {x : Nat} (hx : x < g.length) : idomAt h x = idomAt g x ∨ (idomAt g x = (u : Int) ∧ idomAt h x = (g.length : Int)) := by
  have hxn : x ≠ g.length := by omega
  rcases idomOf s.vg x with ⟨h1, h2⟩ | ⟨b, h1, h2, h3, h4⟩
  · left
    rw [h1]
    refine idomAt_is s.vh (.inl ⟨rfl, fun d hd hdx => ?_⟩)
    by_cases e : d = g.length
    · subst e
      have := s.under hxn hdx
      exact h2 u this.1 this.2
    · rw [s.doms e hxn] at hdx
      exact h2 d hd hdx
  · have hbn : b ≠ g.length := by have := (doms_lt s.vg h3).1; omega
    have hb3 : domsB h b x = true := by rw [s.doms hbn hxn]; exact h3
    have hold : ∀ d, d ≠ g.length → d ≠ x → domsB h d x = true → Dom (GE g) d b := fun d e hd hdx => h4 d hd (by rw [← s.doms e hxn]; exact hdx)
    by_cases hf : domsB h g.length x = true
    · have hu := s.under hxn hf
      have hub := h4 u hu.1 hu.2
      by_cases hbu : b = u
      · subst hbu
        right
        refine ⟨h1, idomAt_is s.vh (.inr ⟨g.length, rfl, Ne.symm hxn, hf, fun d hd hdx => ?_⟩)⟩
        by_cases e : d = g.length
        · subst e; exact dom_refl _ _
        · exact (s.domF e).2 ((s.dom e s.une).2 (hold d e hd hdx))
      · left
        rw [h1]
        refine idomAt_is s.vh (.inr ⟨b, rfl, h2, hb3, fun d hd hdx => ?_⟩)
        by_cases e : d = g.length
        · subst e
          obtain ⟨ms, hO⟩ := ordF s.vh
          obtain ⟨D, hD⟩ := hO.dom
          have hxr := ((domsB_iff s.vh _ _).1 hf)
          rcases hD.dom_lin ((hO.mem x).2 hxr.2.1) hxr.2.2 ((domsB_iff s.vh _ _).1 hb3).2.2 with h5 | h5
          · exact h5
          · have h6 := (s.dom hbn s.une).1 ((s.domF hbn).1 h5)
            exact absurd (dom_antisymm h6 hub ((domsB_iff s.vg _ _).1 h3).1) hbu
        · exact (s.dom e hbn).2 (hold d e hd hdx)
    · left
      rw [h1]
      refine idomAt_is s.vh (.inr ⟨b, rfl, h2, hb3, fun d hd hdx => ?_⟩)
      have e : d ≠ g.length := fun e => by subst e; exact hf hdx
      exact (s.dom e hbn).2 (hold d e hd hdx)
theorem reached_iff {g : List (List Nat)} (hv : ValidG g) (x : Nat) : Reach (GE g) x ↔ x = 0 ∨ 0 ≤ idomAt g x := by
  constructor
  · intro hr
    by_cases e : x = 0
    · exact .inl e
    · right
      rcases idomOf hv x with ⟨h1, h2⟩ | ⟨b, h1, _⟩
      · exact (h2 0 (Ne.symm e) (by rw [domsB_iff hv]; exact ⟨.refl trivial, hr, dom_zero _ _⟩)).elim
      · rw [h1]; omega
  · rintro (rfl | h1)
    · exact .refl trivial
    · rcases idomOf hv x with ⟨h2, _⟩ | ⟨b, _, _, h3, _⟩
      · omega
      · exact ((domsB_iff hv _ _).1 h3).2.1
theorem Subd.fresh (s : Subd g h u v) : (Reach (GE g) u ∧ idomAt h g.length = (u : Int)) ∨ (¬ Reach (GE g) u ∧ idomAt h g.length = -1) := by
  by_cases hr : Reach (GE g) u
  · refine .inl ⟨hr, idomAt_is s.vh (.inr ⟨u, rfl, s.une, ?_, fun d hd hdx => ?_⟩)⟩
    · rw [domsB_iff s.vh]; exact ⟨(s.reach s.une).2 hr, s.reachF.2 hr, s.domUF⟩
    · exact (s.domF hd).1 ((domsB_iff s.vh _ _).1 hdx).2.2
  · exact .inr ⟨hr, idomAt_is s.vh (.inl ⟨rfl, fun d hd hdx => hr (s.reachF.1 ((domsB_iff s.vh _ _).1 hdx).2.1)⟩)⟩
theorem Subd.headF (s : Subd g h u v) : headB h g.length = false := by
  rw [Bool.eq_false_iff]
  intro hc
  obtain ⟨t, ht⟩ := (headB_iff s.vh _).1 hc
  rw [tailB_iff s.vh, domsB_iff s.vh] at ht
  have : t = u := (s.ef t).1 ht.1.2
  subst this
  exact s.noFU ht.2.2.1 ht.2.2.2
theorem Subd.head (s : Subd g h u v) {hd : Nat} (hh : hd < g.length) : headB h hd = headB g hd := by
  have hhn : hd ≠ g.length := by omega
  refine bool_iff_eq ?_
  rw [headB_iff s.vg, headB_iff s.vh]
  constructor
  · rintro ⟨t, ht⟩
    have ht0 := ht
    rw [tailB_iff s.vh] at ht
    by_cases e : t = g.length
    · subst e
      have : hd = v := (s.fe hd).1 ht.1.2
      subst this
      refine ⟨u, (tailB_iff s.vg _ _).2 ⟨⟨s.reachF.1 ht.1.1, s.euv⟩, ?_⟩⟩
      have h2 := (domsB_iff s.vh _ _).1 ht.2
      rw [domsB_iff s.vg]
      exact ⟨(s.reach hhn).1 h2.1, s.reachF.1 h2.2.1, (s.dom hhn s.une).1 ((s.domF hhn).1 h2.2.2)⟩
    · refine ⟨t, (tailB_iff s.vg _ _).2 ⟨⟨(s.reach e).1 ht.1.1, s.old t hd e hhn ht.1.2⟩, ?_⟩⟩
      rw [← s.doms hhn e]; exact ht.2
  · rintro ⟨t, ht⟩
    have htl := (tail_lt s.vg ht).2
    have e : t ≠ g.length := by omega
    rw [tailB_iff s.vg] at ht
    rcases s.new t hd ht.1.2 with h1 | ⟨rfl, rfl⟩
    · refine ⟨t, (tailB_iff s.vh _ _).2 ⟨⟨(s.reach e).2 ht.1.1, h1⟩, ?_⟩⟩
      rw [s.doms hhn e]; exact ht.2
    · have h2 := (domsB_iff s.vg _ _).1 ht.2
      have hf := s.reachF.2 ht.1.1
      refine ⟨g.length, (tailB_iff s.vh _ _).2 ⟨⟨hf, (s.fe _).2 rfl⟩, ?_⟩⟩
      rw [domsB_iff s.vh]
      exact ⟨(s.reach hhn).2 h2.1, hf, (s.domF hhn).2 ((s.dom hhn s.une).2 h2.2.2)⟩
theorem Subd.loops (s : Subd g h u v) : (loopsL h).length = (loopsL g).length := by
  rw [loops_length, loops_length, s.len, List.range_succ, List.filter_append]
  have : [g.length].filter (headB h) = [] := by simp [s.headF]
  rw [this, List.append_nil, List.filter_congr (fun x hx => s.head (List.mem_range.1 hx))]
theorem Subd.red (s : Subd g h u v) : redF h = redF g := by
  refine bool_iff_eq ?_
  rw [redF_iff s.vg, redF_iff s.vh]
  have lt1 : ∀ {a b : Nat}, RE g a b → a ≠ g.length ∧ b ≠ g.length := fun hab => by
    have := re_lt s.vg hab.1; have := succ_lt s.vg hab.2; omega
  have rd : ∀ d x, Dom (RE g) d x ↔ Dom (GE g) d x := fun d x => re_dom
  have rdh : ∀ d x, Dom (RE h) d x ↔ Dom (GE h) d x := fun d x => re_dom
  constructor
  · rintro ⟨rank, hr⟩
    refine ⟨rank, fun a b hab => ?_⟩
    obtain ⟨ha, hb⟩ := lt1 hab
    rw [rd]
    rcases s.new a b hab.2 with h1 | ⟨rfl, rfl⟩
    · rcases hr a b ⟨(s.reach ha).2 hab.1, h1⟩ with h2 | h2
      · exact .inl h2
      · exact .inr ((s.dom hb ha).1 ((rdh _ _).1 h2))
    · have hra := (s.reach ha).2 hab.1
      have hf := s.reachF.2 hab.1
      rcases hr a g.length ⟨hra, (s.ef a).2 rfl⟩ with h2 | h2
      · rcases hr g.length b ⟨hf, (s.fe b).2 rfl⟩ with h3 | h3
        · exact .inl (by omega)
        · exact .inr ((s.dom hb ha).1 ((s.domF hb).1 ((rdh _ _).1 h3)))
      · exact absurd ((rdh _ _).1 h2) (s.noFU hra)
  · rintro ⟨rank, hr⟩
    refine ⟨fun x => if x = g.length then 2 * rank u + 1 else 2 * rank x, fun a b hab => ?_⟩
    rw [rdh]
    simp only
    by_cases ha : a = g.length
    · subst ha
      have hb : b = v := (s.fe b).1 hab.2
      subst hb
      rw [if_pos rfl, if_neg s.vne]
      rcases hr u b ⟨s.reachF.1 hab.1, s.euv⟩ with h2 | h2
      · left; omega
      · exact .inr ((s.domF s.vne).2 ((s.dom s.vne s.une).2 ((rd _ _).1 h2)))
    · by_cases hb : b = g.length
      · subst hb
        have : a = u := (s.ef a).1 hab.2
        subst this
        rw [if_neg ha, if_pos rfl]
        left; omega
      · rw [if_neg ha, if_neg hb]
        rcases hr a b ⟨(s.reach ha).1 hab.1, s.old a b ha hb hab.2⟩ with h2 | h2
        · left; omega
        · exact .inr ((s.dom hb ha).2 ((rd _ _).1 h2))
end

/-- The subdivided graph, as the law makes it. -/
def subG (g : List (List Nat)) (u k : Nat) : List (List Nat) := g.set u ((succ g u).set k g.length) ++ [[(succ g u).getD k 0]]
theorem subG_is {g : List (List Nat)} (hvg : ValidG g) {u k : Nat} (hu : u < g.length) (hk : k < (succ g u).length) : Subd g (subG g u k) u ((succ g u).getD k 0) := by
  have hvk : (succ g u).getD k 0 = (succ g u)[k] := by rw [List.getD_eq_getElem?_getD, List.getElem?_eq_getElem hk]; rfl
  have hmem : (succ g u).getD k 0 ∈ succ g u := by rw [hvk]; exact List.getElem_mem hk
  have hvl := succ_lt hvg hmem
  have sl : (subG g u k).length = g.length + 1 := by simp [subG]
  have s1 : ∀ a, a < g.length → a ≠ u → succ (subG g u k) a = succ g a := fun a ha hau => by
    show (subG g u k).getD a [] = g.getD a []
    unfold subG
    rw [List.getD_eq_getElem?_getD, List.getElem?_append_left (by simpa using ha), List.getElem?_set_ne (Ne.symm hau), ← List.getD_eq_getElem?_getD]
  have s2 : succ (subG g u k) u = (succ g u).set k g.length := by
    show (subG g u k).getD u [] = _
    unfold subG
    rw [List.getD_eq_getElem?_getD, List.getElem?_append_left (by simpa using hu), List.getElem?_set_self hu]; rfl
  have s3 : succ (subG g u k) g.length = [(succ g u).getD k 0] := by
    show (subG g u k).getD g.length [] = _
    unfold subG
    rw [List.getD_eq_getElem?_getD, List.getElem?_append_right (by simp)]; simp
  have s4 : ∀ a, g.length < a → succ (subG g u k) a = [] := fun a ha => by
    show (subG g u k).getD a [] = _
    rw [List.getD_eq_getElem?_getD, List.getElem?_eq_none (by omega)]; rfl
  have lt0 : ∀ a b, b ∈ succ g a → b ≠ g.length := fun a b hb => by have := succ_lt hvg hb; omega
  refine ⟨hvg, ⟨by omega, fun l hl s hs => ?_⟩, sl, hu, hmem, fun a => ?_, fun b => ?_, fun a b ha hb hab => ?_, fun a b hab => ?_⟩
  · rw [sl]
    obtain ⟨a, ha⟩ := List.getElem?_of_mem hl
    have hal := (List.getElem?_eq_some_iff.1 ha).1
    have hs' : s ∈ succ (subG g u k) a := by unfold succ; rw [List.getD_eq_getElem?_getD, ha]; exact hs
    by_cases e : a = g.length
    · subst e; rw [s3] at hs'; simp only [List.mem_singleton] at hs'; subst hs'; omega
    · by_cases e2 : a = u
      · subst e2; rw [s2] at hs'
        rcases List.mem_or_eq_of_mem_set hs' with h1 | h1
        · have := succ_lt hvg h1; omega
        · omega
      · rw [s1 a (by omega) e2] at hs'; have := succ_lt hvg hs'; omega
  · by_cases e2 : a = u
    · subst e2; rw [s2]; simp only [iff_true]
      exact List.mem_iff_getElem?.2 ⟨k, by rw [List.getElem?_set_self hk]⟩
    · refine ⟨fun hc => ?_, fun e => absurd e e2⟩
      by_cases e : a = g.length
      · subst e; rw [s3] at hc; simp only [List.mem_singleton] at hc; omega
      · by_cases e3 : a < g.length
        · rw [s1 a e3 e2] at hc; exact absurd rfl (lt0 _ _ hc)
        · rw [s4 a (by omega)] at hc; simp at hc
  · rw [s3]; simp
  · by_cases e2 : a = u
    · subst e2; rw [s2] at hab
      rcases List.mem_or_eq_of_mem_set hab with h1 | h1
      · exact h1
      · exact absurd h1 hb
    · by_cases e3 : a < g.length
      · rw [s1 a e3 e2] at hab; exact hab
      · rw [s4 a (by omega)] at hab; simp at hab
  · by_cases e2 : a = u
    · subst e2
      rw [s2]
      obtain ⟨i, hi⟩ := List.getElem?_of_mem hab
      by_cases e : i = k
      · subst e; right; refine ⟨rfl, ?_⟩; rw [List.getD_eq_getElem?_getD, hi]; rfl
      · left; exact List.mem_iff_getElem?.2 ⟨i, by rw [List.getElem?_set_ne (Ne.symm e)]; exact hi⟩
    · left
      have ha : a < g.length := by
        unfold succ at hab
        rw [List.getD_eq_getElem?_getD] at hab
        cases e : g[a]? with
        | none => rw [e] at hab; simp at hab
        | some l => exact (List.getElem?_eq_some_iff.1 e).1
      rw [s1 a ha e2]; exact hab
end Go.Proofs.Ytpfinkcnklkclaa
