/-
  Polls: the program is valid; what its evaluation is.
-/
import Derived.Test.YtojclalkfhoooaaPoll
set_option linter.unusedVariables false
set_option linter.unusedSimpArgs false
namespace Go.Proofs.Ytojclalkfhoooaa

set_option maxRecDepth 100000 in
theorem poll_valid (h : Bool) : ∀ k, k < 40 → validF (pollP k h) = 0 := by
  have key : (List.range 40).all (fun k => decide (validF (pollP k h) = 0)) = true := by
    cases h <;> kernel_rfl
  intro k hk
  have := List.all_eq_true.1 key k (List.mem_range.2 hk)
  exact of_decide_eq_true this
theorem poll_sized {k : Nat} (hk : k < 40) (h : Bool) : SizedP (pollP k h) := by
  intro f hf
  simp only [pollP, List.mem_cons, List.not_mem_nil, or_false] at hf
  rcases hf with rfl | rfl
  · refine ⟨⟨by show 1 ≤ 2000000; decide, fun b hb => ?_⟩, fun b hb => ?_⟩
    · rw [List.mem_singleton] at hb; subst hb; exact ⟨by show 0 ≤ 2000000; decide, by show (List.replicate k pollOp).length ≤ _; rw [List.length_replicate]; omega, by show 0 ≤ 2000000; decide⟩
    · rw [List.mem_singleton] at hb; subst hb; show 0 ≤ 65536; decide
  · refine ⟨⟨by decide, fun b hb => ?_⟩, fun b hb => ?_⟩
    all_goals (rw [hndB, List.mem_singleton] at hb; subst hb; decide)
def pollRun (k : Nat) (h : Bool) (irq : List Nat) : IRun := ⟨0, evs (hits irq h k), 6, 0, ramOf ⟨#[]⟩, min (hits irq h k) 5, min k irq.length⟩
set_option maxRecDepth 100000 in
theorem poll_eval {k : Nat} (hk : k < 40) (h : Bool) (irq : List Nat) : evalF (pollE k h irq) 0 [] ⟨#[]⟩ 1000 = pollRun k h irq := by
  have hask : askF (pollE k h irq).p 0 [] = true := by
    show askF (pollP k h) 0 [] = true
    unfold askF
    rw [poll_valid h k hk]
    cases h <;> rfl
  refine (if_pos hask).trans ?_
  obtain ⟨f', hf', hrun⟩ := polls_run k h irq (ramOf ⟨#[]⟩) k 0 1000 (by omega)
  have h0 : hits irq h 0 = 0 := by unfold hits; cases h <;> rfl
  rw [h0, Nat.zero_add] at hrun
  rw [show min 0 irq.length = 0 from Nat.zero_min _, show min 0 5 = 0 from rfl, show evs 0 = [] from rfl] at hrun
  exact run_ok (E := pollE k h irq) (ta := -1) rfl hrun (by show 0 < f'; omega)
theorem hits_le (irq : List Nat) (h : Bool) (i : Nat) : hits irq h i ≤ i := by
  unfold hits
  split
  · exact Nat.le_trans (List.length_filter_le _ _) (by rw [List.length_take]; omega)
  · omega
theorem hits_false (irq : List Nat) (i : Nat) : hits irq false i = 0 := rfl
theorem hits_end {irq : List Nat} {h : Bool} {i : Nat} (hi : irq.length ≤ i) (k : Nat) (hk : i ≤ k) : hits irq h k = hits irq h i := by
  unfold hits
  rw [List.take_of_length_le (by omega), List.take_of_length_le hi]
theorem evs_get {c j : Nat} (hj : j < c) : (evs c)[j]? = some (2, if j < 5 then 11 + j else 0) := by
  unfold evs
  rw [List.getElem?_map, List.getElem?_range hj]; rfl
end Go.Proofs.Ytojclalkfhoooaa
