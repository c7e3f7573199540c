/-
  Plain mathematics of reducibility: the reference's start; the two tests agree.
-/
import Derived.Test.YtpfinkcnklkclaaMRed2
set_option linter.unusedVariables false
set_option linter.unusedSimpArgs false
namespace Go.Proofs.Ytpfinkcnklkclaa

/-- The row of a node's edges. -/
def edRow (g : List (List Nat)) (u : Nat) : List Bool := (succ g u).foldl (fun row s => row.set s (fromB g 0 (-1) u && decide (s ≠ u))) (List.replicate g.length false)
def edL (g : List (List Nat)) : List (List Bool) := (List.range g.length).map (edRow g)

theorem row_fold (a : Nat → Bool) (n : Nat) : ∀ (l : List Nat) (row : List Bool), row.length = n → (l.foldl (fun row s => row.set s (a s)) row).length = n ∧ ∀ s, s < n → (l.foldl (fun row s => row.set s (a s)) row).getD s false = if s ∈ l then a s else row.getD s false
  | [], row, h => ⟨h, fun s _ => by simp⟩
  | x :: l, row, h => by
    obtain ⟨h1, h2⟩ := row_fold a n l (row.set x (a x)) (by simpa using h)
    rw [List.foldl_cons]
    refine ⟨h1, fun s hs => ?_⟩
    rw [h2 s hs]
    by_cases hl : s ∈ l
    · rw [if_pos hl, if_pos (by simp [hl])]
    · rw [if_neg hl]
      by_cases e : x = s
      · subst e
        rw [if_pos (by simp), List.getD_eq_getElem?_getD, List.getElem?_set, if_pos rfl, if_pos (by omega)]; rfl
      · rw [if_neg (by simp [hl, Ne.symm e]), List.getD_eq_getElem?_getD, List.getElem?_set, if_neg e, ← List.getD_eq_getElem?_getD]

theorem edL_get {g : List (List Nat)} {u s : Nat} (hu : u < g.length) (hs : s < g.length) : eget (edL g) u s = if s ∈ succ g u then (fromB g 0 (-1) u && decide (s ≠ u)) else false := by
  unfold eget edL
  rw [List.getD_eq_getElem?_getD (l := (List.range g.length).map (edRow g)), List.getElem?_map, List.getElem?_range hu]
  show (edRow g u).getD s false = _
  unfold edRow
  rw [(row_fold (fun s => fromB g 0 (-1) u && decide (s ≠ u)) g.length (succ g u) (List.replicate g.length false) (by simp)).2 s hs]
  have : (List.replicate g.length false).getD s false = false := by rw [List.getD_eq_getElem?_getD, List.getElem?_replicate]; split <;> rfl
  rw [this]
theorem edL_iff {g : List (List Nat)} (hv : ValidG g) (u s : Nat) : EE g.length (edL g) u s ↔ RE g u s ∧ s ≠ u := by
  constructor
  · rintro ⟨hu, hs, h⟩
    rw [edL_get hu hs] at h
    by_cases hm : s ∈ succ g u
    · rw [if_pos hm, Bool.and_eq_true, allB_iff hv, decide_eq_true_eq] at h
      exact ⟨⟨h.1, hm⟩, h.2⟩
    · rw [if_neg hm] at h; simp at h
  · rintro ⟨⟨h1, h2⟩, h3⟩
    have hu := re_lt hv h1
    have hs := succ_lt hv h2
    refine ⟨hu, hs, ?_⟩
    rw [edL_get hu hs, if_pos h2, Bool.and_eq_true, allB_iff hv, decide_eq_true_eq]
    exact ⟨h1, h3⟩
theorem noself {E E' : Nat → Nat → Prop} (h : ∀ u s, E' u s ↔ E u s ∧ s ≠ u) {P : Nat → Prop} {x : Nat} : Walk E P 0 x ↔ Walk E' P 0 x := by
  constructor
  · intro hw
    induction hw with
    | refl h1 => exact .refl h1
    | @snoc b c h1 h2 h3 ih =>
      by_cases e : c = b
      · rw [e]; exact ih
      · exact .snoc ih ((h b c).2 ⟨h2, e⟩) h3
  · exact fun hw => (hw.mono (fun a b _ _ hh => ((h a b).1 hh).1) (fun _ hh => hh)).2
theorem ranked_noself {E E' : Nat → Nat → Prop} (h : ∀ u s, E' u s ↔ E u s ∧ s ≠ u) : Ranked E' ↔ Ranked E := by
  have hd : ∀ d x, Dom E' d x ↔ Dom E d x := fun d x => not_congr (noself h).symm
  constructor
  · rintro ⟨rank, hrk⟩
    refine ⟨rank, fun u s hus => ?_⟩
    by_cases e : s = u
    · rw [e]; exact .inr (dom_refl _ _)
    · rcases hrk u s ((h u s).2 ⟨hus, e⟩) with h1 | h1
      · exact .inl h1
      · exact .inr ((hd s u).1 h1)
  · rintro ⟨rank, hrk⟩
    refine ⟨rank, fun u s hus => ?_⟩
    rcases hrk u s ((h u s).1 hus).1 with h1 | h1
    · exact .inl h1
    · exact .inr ((hd s u).2 h1)

theorem start_rs {g : List (List Nat)} (hv : ValidG g) : RS g g.length (fromL g 0 (-1)) (edL g) (((fromL g 0 (-1)).count true : Nat) : Int) := by
  have hall : ∀ x, (fromL g 0 (-1)).getD x false = true ↔ Reach (GE g) x := fun x => allB_iff hv x
  have hre : ∀ x, Reach (EE g.length (edL g)) x ↔ Reach (GE g) x := by
    intro x
    unfold Reach
    rw [← noself (E := RE g) (E' := EE g.length (edL g)) (edL_iff hv)]
    constructor
    · exact fun hw => (hw.mono (fun _ _ _ _ h => h.2) (fun _ h => h)).2
    · intro hw
      induction hw with
      | refl h => exact .refl h
      | snoc h1 h2 h3 ih => exact .snoc ih ⟨h1, h2⟩ h3
  refine ⟨⟨by simp [edL], fun p hp => ?_⟩, fromL_len hv hv.1 _, (hall 0).2 (.refl trivial), fun u s hus => ?_, fun x hx => (hre x).2 ((hall x).1 hx), rfl, ranked_noself (edL_iff hv)⟩
  · unfold edL
    rw [List.getD_eq_getElem?_getD, List.getElem?_map, List.getElem?_range hp]
    exact (row_fold (fun s => fromB g 0 (-1) p && decide (s ≠ p)) g.length (succ g p) (List.replicate g.length false) (by simp)).1
  · obtain ⟨h1, h2⟩ := (edL_iff hv u s).1 hus
    exact ⟨(hall u).2 h1.1, (hall s).2 (.snoc h1.1 h1.2 trivial), Ne.symm h2⟩

/-- The reference's reduction ends, with the program's answer. -/
theorem red_agree {g : List (List Nat)} (hv : ValidG g) : ∃ k L, RedR g.length k (fromL g 0 (-1)) (edL g) (((fromL g 0 (-1)).count true : Nat) : Int) L ∧ decide (L = 1) = redF g := by
  obtain ⟨k, L, h1, h2⟩ := red_ends (g := g) hv.1 _ _ _ _ (Nat.le_refl _) (start_rs hv)
  refine ⟨k, L, h1, ?_⟩
  rw [Bool.eq_iff_iff, decide_eq_true_eq, h2, redF_iff hv]
end Go.Proofs.Ytpfinkcnklkclaa
