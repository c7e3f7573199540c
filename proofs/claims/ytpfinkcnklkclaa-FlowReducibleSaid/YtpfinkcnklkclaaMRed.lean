/-
  Plain mathematics of reducibility: a ranking; merging a node into its only predecessor keeps it; a stuck graph has none.
-/
import Derived.Test.YtpfinkcnklkclaaMLoop
set_option linter.unusedVariables false
set_option linter.unusedSimpArgs false
namespace Go.Proofs.Ytpfinkcnklkclaa

/-- Every edge climbs in the ranking, or leads to a node that dominates its source. -/
def Ranked (E : Nat → Nat → Prop) : Prop := ∃ rank : Nat → Nat, ∀ u s, E u s → rank u < rank s ∨ Dom E s u

section
variable {E E' : Nat → Nat → Prop} {p n : Nat}

theorem merge_w1 (hpn : p ≠ n) (hn : n ≠ 0) (hu : ∀ q, E q n → q = p) (hE' : ∀ u s, E' u s ↔ u ≠ n ∧ s ≠ n ∧ (E u s ∨ (u = p ∧ E n s ∧ s ≠ p))) {P : Nat → Prop} {x : Nat} (h : Walk E P 0 x) :
    (x ≠ n → Walk E' P 0 x) ∧ (x = n → Walk E' P 0 p) := by
  induction h with
  | refl h => exact ⟨fun _ => .refl h, fun e => absurd e.symm hn⟩
  | @snoc b c h1 h2 h3 ih =>
    refine ⟨fun hc => ?_, fun hc => ?_⟩
    · by_cases hb : b = n
      · subst hb
        have h4 := ih.2 rfl
        by_cases hcp : c = p
        · subst hcp; exact h4
        · exact .snoc h4 ((hE' p c).2 ⟨hpn, hc, .inr ⟨rfl, h2, hcp⟩⟩) h3
      · exact .snoc (ih.1 hb) ((hE' b c).2 ⟨hb, hc, .inl h2⟩) h3
    · subst hc
      have := hu b h2
      subst this
      exact ih.1 hpn
theorem merge_w2 (hEpn : E p n) (hE' : ∀ u s, E' u s ↔ u ≠ n ∧ s ≠ n ∧ (E u s ∨ (u = p ∧ E n s ∧ s ≠ p))) {P : Nat → Prop} (hP : P n) {x : Nat} (h : Walk E' P 0 x) : Walk E P 0 x := by
  induction h with
  | refl h => exact .refl h
  | @snoc b c h1 h2 h3 ih =>
    obtain ⟨_, _, h4 | ⟨rfl, h4, _⟩⟩ := (hE' b c).1 h2
    · exact .snoc ih h4 h3
    · exact .snoc (.snoc ih hEpn hP) h4 h3
theorem merge_dom (hpn : p ≠ n) (hn : n ≠ 0) (hEpn : E p n) (hu : ∀ q, E q n → q = p) (hE' : ∀ u s, E' u s ↔ u ≠ n ∧ s ≠ n ∧ (E u s ∨ (u = p ∧ E n s ∧ s ≠ p))) {d x : Nat} (hd : d ≠ n) (hx : x ≠ n) : Dom E d x ↔ Dom E' d x :=
  ⟨fun h hw => h (merge_w2 (P := fun y => y ≠ d) hEpn hE' (Ne.symm hd) hw), fun h hw => h ((merge_w1 hpn hn hu hE' hw).1 hx)⟩

theorem merge_ranked (hpn : p ≠ n) (hn : n ≠ 0) (hEpn : E p n) (hu : ∀ q, E q n → q = p) (hself : ∀ u, ¬ E u u) (hr : Reach E n) (hE' : ∀ u s, E' u s ↔ u ≠ n ∧ s ≠ n ∧ (E u s ∨ (u = p ∧ E n s ∧ s ≠ p))) : Ranked E ↔ Ranked E' := by
  have hdn : ∀ d, d ≠ n → (Dom E d n ↔ Dom E d p) := fun d hd => ⟨fun h => dom_pred h hd hEpn, fun h => dom_preds hn (fun q hq => by rw [hu q hq]; exact h)⟩
  have hpn2 : Dom E p n := dom_preds hn (fun q hq => by rw [hu q hq]; exact dom_refl _ _)
  constructor
  · rintro ⟨rank, hrk⟩
    refine ⟨rank, fun u s hus => ?_⟩
    obtain ⟨h1, h2, h3 | ⟨rfl, h3, h4⟩⟩ := (hE' u s).1 hus
    · rcases hrk u s h3 with h5 | h5
      · exact .inl h5
      · exact .inr ((merge_dom hpn hn hEpn hu hE' h2 h1).1 h5)
    · have h5 : rank u < rank n := by
        rcases hrk u n hEpn with h5 | h5
        · exact h5
        · exact absurd (dom_antisymm h5 hpn2 hr) (Ne.symm hpn)
      rcases hrk n s h3 with h6 | h6
      · exact .inl (by omega)
      · exact .inr ((merge_dom hpn hn hEpn hu hE' h2 hpn).1 ((hdn s h2).1 h6))
  · rintro ⟨rank, hrk⟩
    refine ⟨fun x => if x = n then 2 * rank p + 1 else 2 * rank x, fun u s hus => ?_⟩
    by_cases hs : s = n
    · subst hs
      have := hu u hus
      subst this
      left
      dsimp only
      rw [if_neg hpn, if_pos rfl]
      omega
    · by_cases hun : u = n
      · subst hun
        by_cases hsp : s = p
        · subst hsp; exact .inr hpn2
        · rcases hrk p s ((hE' p s).2 ⟨hpn, hs, .inr ⟨rfl, hus, hsp⟩⟩) with h5 | h5
          · left
            dsimp only
            rw [if_pos rfl, if_neg hs]
            omega
          · exact .inr ((hdn s hs).2 ((merge_dom hpn hn hEpn hu hE' hs hpn).2 h5))
      · rcases hrk u s ((hE' u s).2 ⟨hun, hs, .inl hus⟩) with h5 | h5
        · left
          dsimp only
          rw [if_neg hun, if_neg hs]
          omega
        · exact .inr ((merge_dom hpn hn hEpn hu hE' hs hun).2 h5)
theorem merge_reach (hpn : p ≠ n) (hn : n ≠ 0) (hu : ∀ q, E q n → q = p) (hE' : ∀ u s, E' u s ↔ u ≠ n ∧ s ≠ n ∧ (E u s ∨ (u = p ∧ E n s ∧ s ≠ p))) {x : Nat} (hx : x ≠ n) (h : Reach E x) : Reach E' x := (merge_w1 hpn hn hu hE' h).1 hx
end

open Classical in
/-- The number of dominators. -/
noncomputable def domCnt (E : Nat → Nat → Prop) (size x : Nat) : Nat := ((List.range size).map fun d => if Dom E d x then 1 else 0).sum

theorem best_exists (cnt rank : Nat → Nat) : ∀ (l : List Nat), l ≠ [] → ∃ v ∈ l, ∀ y ∈ l, ¬ (cnt v < cnt y ∨ (cnt y = cnt v ∧ rank y < rank v))
  | [], h => absurd rfl h
  | [a], _ => ⟨a, by simp, fun y hy => by simp at hy; subst hy; omega⟩
  | a :: b :: l, _ => by
    obtain ⟨v, hv, h⟩ := best_exists cnt rank (b :: l) (by simp)
    by_cases hb : cnt v < cnt a ∨ (cnt a = cnt v ∧ rank a < rank v)
    · refine ⟨a, by simp, fun y hy => ?_⟩
      rcases List.mem_cons.1 hy with rfl | hy
      · omega
      · have := h y hy; omega
    · refine ⟨v, by simp [hv], fun y hy => ?_⟩
      rcases List.mem_cons.1 hy with rfl | hy
      · exact hb
      · exact h y hy

open Classical in
/-- A ranked graph of two nodes or more has a node with exactly one predecessor. -/
theorem stuck {E : Nat → Nat → Prop} {size : Nat} {alive : List Nat} (hsz : ∀ u s, E u s → u < size ∧ s < size) (hal : ∀ u s, E u s → u ∈ alive ∧ s ∈ alive) (hself : ∀ u, ¬ E u u) (hre : ∀ x ∈ alive, Reach E x ∧ x < size)
    (h2 : ∃ x ∈ alive, x ≠ 0) (hq : Ranked E) : ∃ v ∈ alive, v ≠ 0 ∧ ∃ p, E p v ∧ ∀ q, E q v → q = p := by
  obtain ⟨rank, hrk⟩ := hq
  obtain ⟨x0, hx0, hx00⟩ := h2
  have hne : alive.filter (fun x => decide (x ≠ 0)) ≠ [] := fun e => by
    have : x0 ∈ alive.filter (fun x => decide (x ≠ 0)) := List.mem_filter.2 ⟨hx0, by simpa using hx00⟩
    rw [e] at this; simp at this
  obtain ⟨v, hv, hbest⟩ := best_exists (domCnt E size) rank _ hne
  obtain ⟨hva, hv0⟩ := List.mem_filter.1 hv
  have hv0 : v ≠ 0 := by simpa using hv0
  have hrv := (hre v hva)
  -- counting
  have hsub : ∀ a b, (∀ d < size, Dom E d a → Dom E d b) → domCnt E size a ≤ domCnt E size b ∧ ((∃ d < size, Dom E d b ∧ ¬ Dom E d a) → domCnt E size a < domCnt E size b) := by
    intro a b hab
    have h := sum_le (fun d => if Dom E d b then 1 else 0) (fun d => if Dom E d a then 1 else 0) (List.range size) (fun d hd => by
      by_cases h1 : Dom E d a
      · simp [h1, hab d (List.mem_range.1 hd) h1]
      · simp [h1])
    refine ⟨?_, ?_⟩
    · unfold domCnt; exact h.1
    · rintro ⟨d, hd, h1, h2⟩
      unfold domCnt
      exact h.2 ⟨d, List.mem_range.2 hd, by simp [h1, h2]⟩
  have hpred : ∀ p, E p v → (∀ d < size, Dom E d v → d ≠ v → Dom E d p) ∧ (∀ d < size, Dom E d p → Dom E d v ∧ d ≠ v) := by
    intro p hp
    have hpa := (hal p v hp).1
    have hrp := hre p hpa
    have h1 : ∀ d < size, Dom E d v → d ≠ v → Dom E d p := fun d _ hd hne => dom_pred hd hne hp
    have hpv : p ≠ v := fun e => hself v (by rw [e] at hp; exact hp)
    have hnvp : ¬ Dom E v p := by
      intro hvp
      have h3 := hsub v p (fun d _ hd => by
        by_cases e : d = v
        · rw [e]; exact hvp
        · exact dom_pred hd e hp)
      have h4 := h3.2 ⟨p, hrp.2, dom_refl _ _, fun h => hpv (dom_antisymm h hvp hrp.1)⟩
      by_cases hp0 : p = 0
      · rw [hp0] at hvp; exact hv0 (dom_of_zero hvp)
      · exact hbest p (List.mem_filter.2 ⟨hpa, by simpa using hp0⟩) (.inl h4)
    have hrank : rank p < rank v := (hrk p v hp).resolve_right hnvp
    refine ⟨h1, ?_⟩
    -- the dominators of p are those of v but v
    have hcnt : domCnt E size p < domCnt E size v := by
      by_cases hp0 : p = 0
      · rw [hp0]
        refine (hsub 0 v (fun d _ hd => by rw [dom_of_zero hd]; exact dom_zero _ _)).2 ⟨v, hrv.2, dom_refl _ _, fun h => hv0 (dom_of_zero h)⟩
      · have h5 := hbest p (List.mem_filter.2 ⟨hpa, by simpa using hp0⟩)
        have h6 : domCnt E size p ≠ domCnt E size v := fun e => h5 (.inr ⟨e, hrank⟩)
        omega
    intro d hd hdp
    have hdv : d ≠ v := fun e => hnvp (by rw [← e]; exact hdp)
    refine ⟨Classical.byContradiction fun hnd => ?_, hdv⟩
    -- then p has as many dominators as v
    have hge : domCnt E size v ≤ domCnt E size p := by
      have key : ∀ (l : List Nat), l.Nodup → (∀ y ∈ l, y < size) → ((l.map fun y => if Dom E y v then 1 else 0).sum + (if d ∈ l then 1 else 0) ≤ (l.map fun y => if Dom E y p then 1 else 0).sum + (if v ∈ l then 1 else 0)) := by
        intro l
        induction l with
        | nil => intro _ _; simp
        | cons y l ih =>
          intro hnd2 hl
          have ih' := ih (List.nodup_cons.1 hnd2).2 (fun z hz => hl z (by simp [hz]))
          have hy := (List.nodup_cons.1 hnd2).1
          have hyl := hl y (by simp)
          simp only [List.map_cons, List.sum_cons, List.mem_cons]
          by_cases hyd : y = d
          · subst hyd
            have e1 : ¬ y ∈ l := hy
            simp only [hnd, hdp, e1, true_or, or_false, if_true, if_false] at ih' ⊢
            by_cases hvl : v ∈ l
            · simp only [hvl, or_true, if_true] at ih' ⊢; omega
            · have hvy : ¬ v = y := fun e => hdv e.symm
              simp only [hvl, hvy, or_self, if_false] at ih' ⊢; omega
          · have hdy : ¬ d = y := fun e => hyd e.symm
            by_cases hyv : y = v
            · subst hyv
              have e1 : ¬ y ∈ l := hy
              have e2 : Dom E y y := dom_refl _ _
              simp only [e1, e2, hnvp, hdy, false_or, true_or, if_true, if_false] at ih' ⊢
              omega
            · have hvy : ¬ v = y := fun e => hyv e.symm
              simp only [hdy, hvy, false_or]
              by_cases hyd2 : Dom E y v
              · have := h1 y hyl hyd2 hyv
                simp only [hyd2, this, if_true]
                omega
              · simp only [hyd2, if_false]
                by_cases hyp : Dom E y p
                · simp only [hyp, if_true]; omega
                · simp only [hyp, if_false]; omega
      have h7 := key (List.range size) List.nodup_range (fun y hy => List.mem_range.1 hy)
      rw [if_pos (List.mem_range.2 hd), if_pos (List.mem_range.2 hrv.2)] at h7
      unfold domCnt
      omega
    omega
  -- one predecessor exists; two are equal
  have hex : ∃ p, E p v := by
    have := hrv.1
    unfold Reach at this
    cases this with
    | refl _ => exact absurd rfl hv0
    | snoc _ h _ => exact ⟨_, h⟩
  obtain ⟨p, hp⟩ := hex
  refine ⟨v, hva, hv0, p, hp, fun q hq => ?_⟩
  have hp1 := hpred p hp
  have hq1 := hpred q hq
  have hps := (hsz p v hp).1
  have hqs := (hsz q v hq).1
  have h8 := hp1.2 p hps (dom_refl _ _)
  have h9 := hq1.1 p hps h8.1 h8.2
  have h10 := hq1.2 q hqs (dom_refl _ _)
  have h11 := hp1.1 q hqs h10.1 h10.2
  exact (dom_antisymm h11 h9 (hre q (hal q v hq).1).1)
end Go.Proofs.Ytpfinkcnklkclaa
