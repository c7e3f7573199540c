/-
  The walk of the law FlowDominators.
-/
import Derived.Test.YtpfinkcnklkclaaMade2
import Derived.Test.YtpfinkcnklkclaaSan
import Derived.Test.YtpfinkcnklkclaaRDom
set_option linter.unusedVariables false
set_option linter.unusedSimpArgs false
namespace Go.Proofs.Ytpfinkcnklkclaa
open Go.RowKit

theorem var_drew {w : World} {b : Nat} {sv : Value} {g : List (List Nat)} (h : Var w b sv g) : Var w.drew b sv g := h.below ((Below.refl _ _).drew)
theorem slice_drew {α : Type} {enc : α → Value} {w : World} {v : Value} {xs : List α} (h : SliceOf enc w w.heap.size v xs) : SliceOf enc w.drew w.drew.heap.size v xs := h
theorem slice_next {α : Type} {enc : α → Value} {w w' : World} {v : Value} {xs : List α} (h : SliceOf enc w w.heap.size v xs) (hb : Below w.heap.size w w') : SliceOf enc w' w'.heap.size v xs := (h.below hb).mono hb.size

set_option maxRecDepth 100000 in
set_option maxHeartbeats 1600000 in
theorem law_dominators (w : World) (sv : Value) (l : List (Int × Int)) (h : PairsOf w w.heap.size sv l) (hi : ∀ p ∈ l, I64 p.1 ∧ I64 p.2) (hl : l.length ≤ 9223372036854775807) :
    Calls Try.prog 5 #[sv] w fun e w' => e = .returned (.bool true) ∧ Below w.heap.size w w' := by
  obtain ⟨sa, sc, hsv⟩ : ∃ a c, sv = .slice a l.length c := let ⟨a, c, e, _⟩ := h; ⟨a, c, e⟩
  have hgv := madeL_valid (l.take 60)
  have hgn := madeL_len (l.take 60)
  obtain ⟨g, hge⟩ : ∃ g, g = madeL (l.take 60) := ⟨_, rfl⟩
  rw [← hge] at hgv hgn
  have hmd : ∀ W, Below w.heap.size w W → Calls Try.prog 30 #[sv] W (RetGraph W g) := fun W hb => by
    rw [hge]; exact law_made W sv l ((h.below hb).mono hb.size) hi hl
  have HMD := Lib.hid hmd
  have hil : (idomL g).length ≤ 2000000 := by simp [idomL]; omega
  clear hmd h hi hge
  subst hsv
  go_enter Try.func5, Try.ntmps5
  go_upto_region 3 with (first
    | (go_at_call 16; go_must (refine (sanity_any _).mono ?_; rintro e w1 ⟨rfl, hb1⟩))
    | (go_at_call 30; go_must (refine (HMD.out _ hb1).mono ?_; rintro e w2 ⟨bp, rfl, hbp, hor, hgw, hb2⟩; have hv2 := Var.mk' (graph_own hor hgw) (Below.refl _ _); have cv2 := hv2.cell; have hb02 : Below w.heap.size w _ := (hb1.trans (hb2.mono hb1.size)).alloc (by have := hb1.size; have := hb2.size; omega) (.cells #[.slice (some ⟨bp, 0, none⟩) g.length g.length] 24))))
  generalize hbx : w2.heap.size = bx at *
  generalize hW0 : w2.alloc (.cells #[.slice (some ⟨bp, 0, none⟩) g.length g.length] 24) = W0 at *
  clear hbx hW0 hor hgw hb1 hb2 hgv
  have hv20 := var_drew hv2
  have hb020 := below_drew1 hb02
  go_region_held3 (fun w' => w'.cell? ⟨bx, 0, none⟩ = some (.slice (some ⟨bp, 0, none⟩) g.length g.length) ∧ Var w' bx (.slice (some ⟨bp, 0, none⟩) g.length g.length) g ∧ Below w.heap.size w w')
    (first
      | (go_split_ands; refine ⟨?_, ?_, ?_⟩ <;> assumption)
      | (go_split_ands; refine ⟨?_, var_drew ?_, below_drew1 ?_⟩ <;> assumption))
    (first
      | (go_at_call 23; refine (ans_dominators (Var.below (w := _) (b := bx) (by assumption) (Below.refl _ _)).2).mono ?_; rintro e wA ⟨vA, rfl, hoA, hbA⟩; have hvA : Var wA bx (.slice (some ⟨bp, 0, none⟩) g.length g.length) g := Var.below (by assumption) hbA; have cA := hvA.cell; have hb0A : Below w.heap.size w wA := Below.trans (by assumption) (hbA.mono (Below.size (by assumption))); have hsA : SliceOf encInt wA wA.heap.size vA (idomL g) := sliceOf_own hoA (Nat.le_refl _); clear hoA)
      | (go_at_call 24; refine (ans_ref_dominators (Var.below (w := _) (b := bx) (by assumption) (Below.refl _ _)).2).mono ?_; rintro e wB ⟨vB, rfl, hoB, hbB⟩; have hvB : Var wB bx (.slice (some ⟨bp, 0, none⟩) g.length g.length) g := Var.below (by assumption) hbB; have cB := hvB.cell; have hb0B : Below w.heap.size w wB := Below.trans (by assumption) (hbB.mono (Below.size (by assumption))); have hsB : SliceOf encInt wB wB.heap.size vB (idomL g) := sliceOf_own hoB (Nat.le_refl _); have hsA2 : SliceOf encInt wB wB.heap.size vA (idomL g) := (by first | exact slice_next hsA hbB | exact slice_next (slice_drew hsA) hbB | exact slice_next (slice_drew (slice_drew hsA)) hbB | exact slice_next (slice_drew (slice_drew (slice_drew hsA))) hbB); clear hoB)
      | (go_at_call 20; refine (ints_true (xs := idomL g) (ys := idomL g) (by repeat' (first | exact hsA2 | refine slice_drew ?_)) (by repeat' (first | exact hsB | refine slice_drew ?_)) hil rfl).mono ?_; rintro e wC ⟨rfl, hbC⟩; have hvC : Var wC bx (.slice (some ⟨bp, 0, none⟩) g.length g.length) g := Var.below (by assumption) hbC; have cC := hvC.cell; have hb0C : Below w.heap.size w wC := Below.trans (by assumption) (hbC.mono (Below.size (by assumption)))))
  all_goals go_wp2_with fail
  all_goals go_ret
  all_goals exact ⟨rfl, hb0C⟩
end Go.Proofs.Ytpfinkcnklkclaa
