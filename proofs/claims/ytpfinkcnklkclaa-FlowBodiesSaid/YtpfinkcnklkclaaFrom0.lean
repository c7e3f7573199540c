/-
  What the reference's From computes: the work list, round for round; and that it comes to its end.
-/
import Derived.Test.YtpfinkcnklkclaaSearch
set_option linter.unusedVariables false
set_option linter.unusedSimpArgs false
namespace Go.Proofs.Ytpfinkcnklkclaa


theorem push1_facts (out : Int) (st : List Bool × List Nat) (s : Nat) : (push1 out st s).1.length = st.1.length ∧ (push1 out st s).2.length + unseen (push1 out st s).1 = st.2.length + unseen st.1 := by
  unfold push1
  by_cases h : (s : Int) ≠ out ∧ st.1[s]? = some false
  · rw [if_pos h]
    have := unseen_set h.2
    refine ⟨by simp, ?_⟩
    simp only [List.length_append, List.length_singleton]
    omega
  · rw [if_neg h]; exact ⟨rfl, rfl⟩
theorem pushes_facts (out : Int) : ∀ (l : List Nat) (st : List Bool × List Nat), (l.foldl (push1 out) st).1.length = st.1.length ∧ (l.foldl (push1 out) st).2.length + unseen (l.foldl (push1 out) st).1 = st.2.length + unseen st.1
  | [], _ => ⟨rfl, rfl⟩
  | s :: l, st => by
    have h1 := push1_facts out st s
    have h2 := pushes_facts out l (push1 out st s)
    rw [List.foldl_cons]
    omega
theorem FromR.ends (g : List (List Nat)) (out : Int) : ∀ (m : Nat) (seen : List Bool) (work : List Nat), work.length + unseen seen ≤ m → ∃ k F, FromR g out k seen work F
  | 0, seen, work, h => ⟨0, seen, List.eq_nil_of_length_eq_zero (by omega), rfl⟩
  | m + 1, seen, work, h => by
    rcases List.eq_nil_or_concat work with rfl | ⟨st, n, rfl⟩
    · exact ⟨0, seen, rfl, rfl⟩
    · have h2 := pushes_facts out (succ g n) (seen, st)
      simp only [List.length_append, List.length_singleton, List.concat_eq_append] at h h2
      obtain ⟨k, F, hF⟩ := FromR.ends g out m ((succ g n).foldl (push1 out) (seen, st)).1 ((succ g n).foldl (push1 out) (seen, st)).2 (by omega)
      exact ⟨k + 1, F, st, n, by simp, hF⟩
end Go.Proofs.Ytpfinkcnklkclaa
