/-
  What the functions answer for a graph that is not valid.
-/
import Derived.Test.YtpfinkcnklkclaaBuild
import Derived.Test.YtpfinkcnklkclaaRRed
set_option linter.unusedVariables false
set_option linter.unusedSimpArgs false
namespace Go.Proofs.Ytpfinkcnklkclaa
open Go.RowKit

/-- A graph in memory that is not valid. -/
structure BadIn (w : World) (sv : Value) (g : List (List Int)) : Prop where
  rows : RowsOf encInt w w.heap.size sv g
  bad : (decide (0 < g.length) && validI g) = false
  len : g.length ≤ 2000000
  row : ∀ row ∈ g, row.length ≤ 2000000
theorem BadIn.below {w w' : World} {sv : Value} {g : List (List Int)} (h : BadIn w sv g) (hb : Below w.heap.size w w') : BadIn w' sv g :=
  ⟨(h.rows.below hb).mono hb.size, h.bad, h.len, h.row⟩
def RetNil (w : World) (e : Ending) (w' : World) : Prop := e = .returned (.slice none 0 0) ∧ Below w.heap.size w w'
def RetFalse (w : World) (e : Ending) (w' : World) : Prop := e = .returned (.bool false) ∧ Below w.heap.size w w'

theorem bad_valid {w : World} {sv : Value} {g : List (List Int)} (h : BadIn w sv g) : Calls Try.prog 18 #[.agg #[sv]] w (RetFalse w) := by
  have := flow_valid w sv g w.heap.size (Nat.le_refl _) h.rows h.len h.row
  rw [h.bad] at this
  exact this
theorem bad_ref_valid {w : World} {sv : Value} {g : List (List Int)} (h : BadIn w sv g) : Calls Try.prog 19 #[.agg #[sv]] w (RetFalse w) := by
  have := ref_valid w sv g w.heap.size (Nat.le_refl _) h.rows h.len h.row
  rw [h.bad] at this
  exact this
set_option maxRecDepth 100000 in
set_option maxHeartbeats 800000 in
theorem bad_order {w : World} {sv : Value} {g : List (List Int)} (h : BadIn w sv g) : Calls Try.prog 21 #[.agg #[sv]] w (RetNil w) := by
  obtain ⟨a, cap, rfl, hcap⟩ := h.rows.form
  have h1 := h.below ((Below.refl _ w).alloc (Nat.le_refl _) (.cells #[.slice a g.length cap] 24))
  have cg : (w.alloc (.cells #[.slice a g.length cap] 24)).cell? ⟨w.heap.size, 0, none⟩ = some (.slice a g.length cap) := cell_of_one (new_at rfl)
  have H1 := Lib.hid h1
  clear h h1
  go_enter Try.func21, Try.ntmps21
  go_wp2_with (go_at_call 18; go_must (refine (bad_valid H1.out).mono ?_; rintro e w1 ⟨rfl, hb1⟩; have hw1 := Lib.hid (((Below.refl _ w).alloc (Nat.le_refl _) _).trans (hb1.mono (by simp))); clear hb1))
  go_ret
  exact ⟨rfl, hw1.out⟩
set_option maxRecDepth 100000 in
set_option maxHeartbeats 800000 in
theorem bad_dominators {w : World} {sv : Value} {g : List (List Int)} (h : BadIn w sv g) : Calls Try.prog 23 #[.agg #[sv]] w (RetNil w) := by
  obtain ⟨a, cap, rfl, hcap⟩ := h.rows.form
  have h1 := h.below ((Below.refl _ w).alloc (Nat.le_refl _) (.cells #[.slice a g.length cap] 24))
  have cg : (w.alloc (.cells #[.slice a g.length cap] 24)).cell? ⟨w.heap.size, 0, none⟩ = some (.slice a g.length cap) := cell_of_one (new_at rfl)
  have H1 := Lib.hid h1
  clear h h1
  go_enter Try.func23, Try.ntmps23
  go_wp2_with (go_at_call 18; go_must (refine (bad_valid H1.out).mono ?_; rintro e w1 ⟨rfl, hb1⟩; have hw1 := Lib.hid (((Below.refl _ w).alloc (Nat.le_refl _) _).trans (hb1.mono (by simp))); clear hb1))
  go_ret
  exact ⟨rfl, hw1.out⟩
set_option maxRecDepth 100000 in
set_option maxHeartbeats 800000 in
theorem bad_loops {w : World} {sv : Value} {g : List (List Int)} (h : BadIn w sv g) : Calls Try.prog 26 #[.agg #[sv]] w (RetNil w) := by
  obtain ⟨a, cap, rfl, hcap⟩ := h.rows.form
  have h1 := h.below ((Below.refl _ w).alloc (Nat.le_refl _) (.cells #[.slice a g.length cap] 24))
  have cg : (w.alloc (.cells #[.slice a g.length cap] 24)).cell? ⟨w.heap.size, 0, none⟩ = some (.slice a g.length cap) := cell_of_one (new_at rfl)
  have H1 := Lib.hid h1
  clear h h1
  go_enter Try.func26, Try.ntmps26
  go_wp2_with (go_at_call 18; go_must (refine (bad_valid H1.out).mono ?_; rintro e w1 ⟨rfl, hb1⟩; have hw1 := Lib.hid (((Below.refl _ w).alloc (Nat.le_refl _) _).trans (hb1.mono (by simp))); clear hb1))
  go_ret
  exact ⟨rfl, hw1.out⟩
set_option maxRecDepth 100000 in
set_option maxHeartbeats 800000 in
theorem bad_reducible {w : World} {sv : Value} {g : List (List Int)} (h : BadIn w sv g) : Calls Try.prog 28 #[.agg #[sv]] w (RetFalse w) := by
  obtain ⟨a, cap, rfl, hcap⟩ := h.rows.form
  have h1 := h.below ((Below.refl _ w).alloc (Nat.le_refl _) (.cells #[.slice a g.length cap] 24))
  have cg : (w.alloc (.cells #[.slice a g.length cap] 24)).cell? ⟨w.heap.size, 0, none⟩ = some (.slice a g.length cap) := cell_of_one (new_at rfl)
  have H1 := Lib.hid h1
  clear h h1
  go_enter Try.func28, Try.ntmps28
  go_wp2_with (go_at_call 18; go_must (refine (bad_valid H1.out).mono ?_; rintro e w1 ⟨rfl, hb1⟩; have hw1 := Lib.hid (((Below.refl _ w).alloc (Nat.le_refl _) _).trans (hb1.mono (by simp))); clear hb1))
  go_ret
  exact ⟨rfl, hw1.out⟩
set_option maxRecDepth 100000 in
set_option maxHeartbeats 800000 in
theorem bad_ref_order {w : World} {sv : Value} {g : List (List Int)} (h : BadIn w sv g) : Calls Try.prog 22 #[.agg #[sv]] w (RetNil w) := by
  obtain ⟨a, cap, rfl, hcap⟩ := h.rows.form
  have h1 := h.below ((Below.refl _ w).alloc (Nat.le_refl _) (.cells #[.slice a g.length cap] 24))
  have cg : (w.alloc (.cells #[.slice a g.length cap] 24)).cell? ⟨w.heap.size, 0, none⟩ = some (.slice a g.length cap) := cell_of_one (new_at rfl)
  have H1 := Lib.hid h1
  clear h h1
  go_enter Try.func22, Try.ntmps22
  go_wp2_with (go_at_call 19; go_must (refine (bad_ref_valid H1.out).mono ?_; rintro e w1 ⟨rfl, hb1⟩; have hw1 := Lib.hid (((Below.refl _ w).alloc (Nat.le_refl _) _).trans (hb1.mono (by simp))); clear hb1))
  go_ret
  exact ⟨rfl, hw1.out⟩
set_option maxRecDepth 100000 in
set_option maxHeartbeats 800000 in
theorem bad_ref_dominators {w : World} {sv : Value} {g : List (List Int)} (h : BadIn w sv g) : Calls Try.prog 24 #[.agg #[sv]] w (RetNil w) := by
  obtain ⟨a, cap, rfl, hcap⟩ := h.rows.form
  have h1 := h.below ((Below.refl _ w).alloc (Nat.le_refl _) (.cells #[.slice a g.length cap] 24))
  have cg : (w.alloc (.cells #[.slice a g.length cap] 24)).cell? ⟨w.heap.size, 0, none⟩ = some (.slice a g.length cap) := cell_of_one (new_at rfl)
  have H1 := Lib.hid h1
  clear h h1
  go_enter Try.func24, Try.ntmps24
  go_wp2_with (go_at_call 19; go_must (refine (bad_ref_valid H1.out).mono ?_; rintro e w1 ⟨rfl, hb1⟩; have hw1 := Lib.hid (((Below.refl _ w).alloc (Nat.le_refl _) _).trans (hb1.mono (by simp))); clear hb1))
  go_ret
  exact ⟨rfl, hw1.out⟩
set_option maxRecDepth 100000 in
set_option maxHeartbeats 800000 in
theorem bad_ref_loops {w : World} {sv : Value} {g : List (List Int)} (h : BadIn w sv g) : Calls Try.prog 27 #[.agg #[sv]] w (RetNil w) := by
  obtain ⟨a, cap, rfl, hcap⟩ := h.rows.form
  have h1 := h.below ((Below.refl _ w).alloc (Nat.le_refl _) (.cells #[.slice a g.length cap] 24))
  have cg : (w.alloc (.cells #[.slice a g.length cap] 24)).cell? ⟨w.heap.size, 0, none⟩ = some (.slice a g.length cap) := cell_of_one (new_at rfl)
  have H1 := Lib.hid h1
  clear h h1
  go_enter Try.func27, Try.ntmps27
  go_wp2_with (go_at_call 19; go_must (refine (bad_ref_valid H1.out).mono ?_; rintro e w1 ⟨rfl, hb1⟩; have hw1 := Lib.hid (((Below.refl _ w).alloc (Nat.le_refl _) _).trans (hb1.mono (by simp))); clear hb1))
  go_ret
  exact ⟨rfl, hw1.out⟩
set_option maxRecDepth 100000 in
set_option maxHeartbeats 800000 in
theorem bad_ref_reducible {w : World} {sv : Value} {g : List (List Int)} (h : BadIn w sv g) : Calls Try.prog 29 #[.agg #[sv]] w (RetFalse w) := by
  obtain ⟨a, cap, rfl, hcap⟩ := h.rows.form
  have h1 := h.below ((Below.refl _ w).alloc (Nat.le_refl _) (.cells #[.slice a g.length cap] 24))
  have cg : (w.alloc (.cells #[.slice a g.length cap] 24)).cell? ⟨w.heap.size, 0, none⟩ = some (.slice a g.length cap) := cell_of_one (new_at rfl)
  have H1 := Lib.hid h1
  clear h h1
  go_enter Try.func29, Try.ntmps29
  go_wp2_with (go_at_call 19; go_must (refine (bad_ref_valid H1.out).mono ?_; rintro e w1 ⟨rfl, hb1⟩; have hw1 := Lib.hid (((Below.refl _ w).alloc (Nat.le_refl _) _).trans (hb1.mono (by simp))); clear hb1))
  go_ret
  exact ⟨rfl, hw1.out⟩
end Go.Proofs.Ytpfinkcnklkclaa
