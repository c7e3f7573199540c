/-
  Plain mathematics: what the reference's From computes; dominance as a computation.
-/
import Derived.Test.YtpfinkcnklkclaaMGraph
set_option linter.unusedVariables false
set_option linter.unusedSimpArgs false
namespace Go.Proofs.Ytpfinkcnklkclaa

theorem sget {l : List Bool} {x : Nat} (h : x < l.length) : l[x]? = some true ∨ l[x]? = some false := by
  rw [List.getElem?_eq_getElem h]; cases l[x] <;> simp
theorem push_all (out : Int) : ∀ (l : List Nat) (st : List Bool × List Nat), (∀ s ∈ l, s < st.1.length) →
    (l.foldl (push1 out) st).1.length = st.1.length ∧ (∀ x : Nat, (l.foldl (push1 out) st).1[x]? = some true ↔ st.1[x]? = some true ∨ (x ∈ l ∧ (x : Int) ≠ out)) ∧
    (∀ y : Nat, y ∈ (l.foldl (push1 out) st).2 ↔ y ∈ st.2 ∨ (y ∈ l ∧ (y : Int) ≠ out ∧ st.1[y]? = some false)) ∧ (l.foldl (push1 out) st).2.length + whites (l.foldl (push1 out) st).1 = st.2.length + whites st.1
  | [], st, _ => ⟨rfl, fun x => by simp, fun y => by simp, rfl⟩
  | s :: l, st, hl => by
    have hsl := hl s (by simp)
    rw [List.foldl_cons]
    by_cases h : (s : Int) ≠ out ∧ st.1[s]? = some false
    · have e : push1 out st s = (st.1.set s true, st.2 ++ [s]) := by unfold push1; rw [if_pos h]
      rw [e]
      obtain ⟨h1, h2, h3, h4⟩ := push_all out l (st.1.set s true, st.2 ++ [s]) (fun t ht => by simpa using hl t (by simp [ht]))
      dsimp only at h1 h2 h3 h4
      have hw := whites_set h.2
      refine ⟨by rw [h1]; simp, fun x => ?_, fun y => ?_, by rw [h4]; simp; omega⟩
      · rw [h2, List.getElem?_set]
        by_cases hx : s = x
        · subst hx; rw [if_pos rfl, if_pos hsl]; simp [h.1]
        · rw [if_neg hx]
          constructor
          · rintro (h5 | ⟨h5, h6⟩)
            · exact .inl h5
            · exact .inr ⟨by simp [h5], h6⟩
          · rintro (h5 | ⟨h5, h6⟩)
            · exact .inl h5
            · rcases List.mem_cons.1 h5 with h5 | h5
              · exact absurd h5.symm hx
              · exact .inr ⟨h5, h6⟩
      · rw [h3, List.mem_append, List.mem_singleton, List.getElem?_set]
        by_cases hy : s = y
        · subst hy; rw [if_pos rfl, if_pos hsl]; simp [h.1, h.2]
        · rw [if_neg hy]
          constructor
          · rintro ((h5 | h5) | ⟨h5, h6⟩)
            · exact .inl h5
            · exact absurd h5.symm hy
            · exact .inr ⟨by simp [h5], h6⟩
          · rintro (h5 | ⟨h5, h6⟩)
            · exact .inl (.inl h5)
            · rcases List.mem_cons.1 h5 with h5 | h5
              · exact absurd h5.symm hy
              · exact .inr ⟨h5, h6⟩
    · have e : push1 out st s = st := by unfold push1; rw [if_neg h]
      rw [e]
      obtain ⟨h1, h2, h3, h4⟩ := push_all out l st (fun t ht => hl t (by simp [ht]))
      have hs : (s : Int) ≠ out → st.1[s]? = some true := fun ho => (sget hsl).resolve_right (fun hf => h ⟨ho, hf⟩)
      refine ⟨h1, fun x => ?_, fun y => ?_, h4⟩
      · rw [h2]
        constructor
        · rintro (h5 | ⟨h5, h6⟩)
          · exact .inl h5
          · exact .inr ⟨by simp [h5], h6⟩
        · rintro (h5 | ⟨h5, h6⟩)
          · exact .inl h5
          · rcases List.mem_cons.1 h5 with rfl | h5
            · exact .inl (hs h6)
            · exact .inr ⟨h5, h6⟩
      · rw [h3]
        constructor
        · rintro (h5 | ⟨h5, h6⟩)
          · exact .inl h5
          · exact .inr ⟨by simp [h5], h6⟩
        · rintro (h5 | ⟨h5, h6, h7⟩)
          · exact .inl h5
          · rcases List.mem_cons.1 h5 with rfl | h5
            · exact absurd ⟨h6, h7⟩ h
            · exact .inr ⟨h5, h6, h7⟩

/-- The work list with fuel. -/
def fromRun (g : List (List Nat)) (out : Int) : Nat → List Bool → List Nat → List Bool
  | 0, seen, _ => seen
  | f + 1, seen, work => match work.getLast? with
    | none => seen
    | some n => fromRun g out f ((succ g n).foldl (push1 out) (seen, work.dropLast)).1 ((succ g n).foldl (push1 out) (seen, work.dropLast)).2
def fromL (g : List (List Nat)) (fr : Nat) (out : Int) : List Bool :=
  if (fr : Int) = out then List.replicate g.length false else fromRun g out (g.length + 1) ((List.replicate g.length false).set fr true) [fr]

theorem fromRun_ok {g : List (List Nat)} (hv : ValidG g) (out : Int) : ∀ (f : Nat) (seen : List Bool) (work : List Nat), seen.length = g.length → work.length + whites seen ≤ f → ∃ k, FromR g out k seen work (fromRun g out f seen work)
  | 0, seen, work, _, h => ⟨0, List.eq_nil_of_length_eq_zero (by omega), rfl⟩
  | f + 1, seen, work, hs, h => by
    rcases List.eq_nil_or_concat work with rfl | ⟨st, n, rfl⟩
    · exact ⟨0, rfl, rfl⟩
    · obtain ⟨h1, _, _, h4⟩ := push_all out (succ g n) (seen, st) (fun s hm => by rw [hs]; exact succ_lt hv hm)
      simp only [List.concat_eq_append, List.length_append, List.length_singleton] at h h1 h4
      obtain ⟨k, hk⟩ := fromRun_ok hv out f ((succ g n).foldl (push1 out) (seen, st)).1 ((succ g n).foldl (push1 out) (seen, st)).2 (h1.trans hs) (by omega)
      refine ⟨k + 1, st, n, by simp, ?_⟩
      have e : fromRun g out (f + 1) seen (st.concat n) = fromRun g out f ((succ g n).foldl (push1 out) (seen, st)).1 ((succ g n).foldl (push1 out) (seen, st)).2 := by
        simp [fromRun]
      rw [e]
      exact hk
theorem fromL_of {g : List (List Nat)} (hv : ValidG g) (fr : Nat) (hfr : fr < g.length) (out : Int) : FromOf g fr out (fromL g fr out) := by
  unfold FromOf fromL
  by_cases h : (fr : Int) = out
  · rw [if_pos h]; exact .inl ⟨h, rfl⟩
  · rw [if_neg h]
    have hw := whites_set (seen := List.replicate g.length false) (n := fr) (by simp [hfr])
    have h0 : whites (List.replicate g.length false) = g.length := by simp [whites]
    exact .inr ⟨h, fromRun_ok hv out _ _ _ (by simp) (by simp only [List.length_singleton]; omega)⟩

theorem fromR_char {g : List (List Nat)} (hv : ValidG g) (out : Int) (fr : Nat) : ∀ (k : Nat) (seen : List Bool) (work : List Nat) (F : List Bool), FromR g out k seen work F → seen.length = g.length →
    (∀ x ∈ work, seen[x]? = some true) → (∀ x : Nat, seen[x]? = some true → Walk (GE g) (fun y => (y : Int) ≠ out) fr x) → (∀ x s : Nat, seen[x]? = some true → x ∉ work → s ∈ succ g x → (s : Int) ≠ out → seen[s]? = some true) → seen[fr]? = some true →
    F.length = g.length ∧ ∀ x : Nat, F[x]? = some true ↔ Walk (GE g) (fun y => (y : Int) ≠ out) fr x
  | 0, seen, work, F, h, hlen, h1, h2, h3, h4 => by
    obtain ⟨rfl, rfl⟩ := h
    refine ⟨hlen, fun x => ⟨h2 x, fun hw => ?_⟩⟩
    induction hw with
    | refl _ => exact h4
    | snoc _ h5 h6 ih => exact h3 _ _ ih (by simp) h5 h6
  | k + 1, seen, work, F, h, hlen, h1, h2, h3, h4 => by
    obtain ⟨st, n, rfl, h⟩ := h
    obtain ⟨p1, p2, p3, _⟩ := push_all out (succ g n) (seen, st) (fun s hm => by rw [hlen]; exact succ_lt hv hm)
    dsimp only at p1 p2 p3
    refine fromR_char hv out fr k _ _ F h (p1.trans hlen) ?_ ?_ ?_ ((p2 fr).2 (.inl h4))
    · intro x hx
      rcases (p3 x).1 hx with h5 | ⟨h5, h6, _⟩
      · exact (p2 x).2 (.inl (h1 x (by simp [h5])))
      · exact (p2 x).2 (.inr ⟨h5, h6⟩)
    · intro x hx
      rcases (p2 x).1 hx with h5 | ⟨h5, h6⟩
      · exact h2 x h5
      · exact .snoc (h2 n (h1 n (by simp))) h5 h6
    · intro x s hx hxw hs ho
      rcases (p2 x).1 hx with h5 | ⟨h5, h6⟩
      · by_cases hm : x ∈ st ++ [n]
        · rcases List.mem_append.1 hm with hm | hm
          · exact absurd ((p3 x).2 (.inl hm)) hxw
          · simp at hm; subst hm
            exact (p2 s).2 (.inr ⟨hs, ho⟩)
        · exact (p2 s).2 (.inl (h3 x s h5 hm hs ho))
      · rcases sget (l := seen) (x := x) (by rw [hlen]; exact succ_lt hv h5) with h7 | h7
        · by_cases hm : x ∈ st ++ [n]
          · rcases List.mem_append.1 hm with hm | hm
            · exact absurd ((p3 x).2 (.inl hm)) hxw
            · simp at hm; subst hm
              exact (p2 s).2 (.inr ⟨hs, ho⟩)
          · exact (p2 s).2 (.inl (h3 x s h7 hm hs ho))
        · exact absurd ((p3 x).2 (.inr ⟨h5, h6, h7⟩)) hxw

theorem fromOf_char {g : List (List Nat)} (hv : ValidG g) {fr : Nat} (hfr : fr < g.length) {out : Int} {F : List Bool} (h : FromOf g fr out F) :
    F.length = g.length ∧ ∀ x : Nat, F[x]? = some true ↔ Walk (GE g) (fun y => (y : Int) ≠ out) fr x := by
  rcases h with ⟨h1, rfl⟩ | ⟨h1, k, hk⟩
  · refine ⟨by simp, fun x => ⟨fun h2 => ?_, fun h2 => absurd h1 h2.first⟩⟩
    rw [List.getElem?_replicate] at h2
    split at h2 <;> simp at h2
  · refine fromR_char hv out fr k _ _ F hk (by simp) (fun x hx => by simp at hx; subst hx; simp [hfr]) (fun x hx => ?_) (fun x s hx hxw => ?_) (by simp [hfr])
    · by_cases e : fr = x
      · subst e; exact .refl h1
      · rw [List.getElem?_set_ne e, List.getElem?_replicate] at hx
        split at hx <;> simp at hx
    · have e : fr ≠ x := fun e => hxw (by simp [e])
      rw [List.getElem?_set_ne e, List.getElem?_replicate] at hx
      split at hx <;> simp at hx
theorem bool_ext {F F' : List Bool} (hl : F.length = F'.length) (h : ∀ x : Nat, F[x]? = some true ↔ F'[x]? = some true) : F = F' := by
  apply List.ext_getElem?
  intro i
  by_cases hi : i < F.length
  · rcases sget hi with h1 | h1 <;> rcases sget (l := F') (x := i) (by omega) with h2 | h2
    · rw [h1, h2]
    · rw [(h i).1 h1] at h2; simp at h2
    · rw [(h i).2 h2] at h1; simp at h1
    · rw [h1, h2]
  · rw [List.getElem?_eq_none (by omega), List.getElem?_eq_none (by omega)]
theorem fromOf_eq {g : List (List Nat)} (hv : ValidG g) {fr : Nat} (hfr : fr < g.length) {out : Int} {F : List Bool} (h : FromOf g fr out F) : F = fromL g fr out := by
  have h1 := fromOf_char hv hfr h
  have h2 := fromOf_char hv hfr (fromL_of hv fr hfr out)
  exact bool_ext (h1.1.trans h2.1.symm) (fun x => (h1.2 x).trans (h2.2 x).symm)
theorem fromL_len {g : List (List Nat)} (hv : ValidG g) {fr : Nat} (hfr : fr < g.length) (out : Int) : (fromL g fr out).length = g.length := (fromOf_char hv hfr (fromL_of hv fr hfr out)).1
/-- Whether there is a path from fr to x without out. -/
def fromB (g : List (List Nat)) (fr : Nat) (out : Int) (x : Nat) : Bool := (fromL g fr out).getD x false
theorem fromB_iff {g : List (List Nat)} (hv : ValidG g) {fr : Nat} (hfr : fr < g.length) (out : Int) (x : Nat) : fromB g fr out x = true ↔ Walk (GE g) (fun y => (y : Int) ≠ out) fr x := by
  rw [← (fromOf_char hv hfr (fromL_of hv fr hfr out)).2]
  unfold fromB
  rw [List.getD_eq_getElem?_getD]
  cases (fromL g fr out)[x]? with
  | none => simp
  | some b => cases b <;> simp

/-- d dominates x (both reachable). -/
def domsB (g : List (List Nat)) (d x : Nat) : Bool := fromB g 0 (-1) d && fromB g 0 (-1) x && (decide (d = x) || !fromB g 0 d x)
theorem allB_iff {g : List (List Nat)} (hv : ValidG g) (x : Nat) : fromB g 0 (-1) x = true ↔ Reach (GE g) x := by
  rw [fromB_iff hv hv.1]
  exact ⟨fun h => h.imp (fun _ _ => trivial), fun h => h.imp (fun a _ => by omega)⟩
theorem domsB_iff {g : List (List Nat)} (hv : ValidG g) (d x : Nat) : domsB g d x = true ↔ Reach (GE g) d ∧ Reach (GE g) x ∧ Dom (GE g) d x := by
  unfold domsB
  rw [Bool.and_eq_true, Bool.and_eq_true, allB_iff hv, allB_iff hv, Bool.or_eq_true, decide_eq_true_eq, Bool.not_eq_true']
  have h1 : fromB g 0 (d : Int) x = false ↔ Dom (GE g) d x := by
    unfold Dom
    rw [← Bool.not_eq_true, fromB_iff hv hv.1]
    exact not_congr ⟨fun h => h.imp (fun a h => by omega), fun h => h.imp (fun a h => by omega)⟩
  rw [h1]
  constructor
  · rintro ⟨⟨h2, h3⟩, rfl | h4⟩
    · exact ⟨h2, h3, dom_refl _ _⟩
    · exact ⟨h2, h3, h4⟩
  · exact fun ⟨h2, h3, h4⟩ => ⟨⟨h2, h3⟩, .inr h4⟩
end Go.Proofs.Ytpfinkcnklkclaa
