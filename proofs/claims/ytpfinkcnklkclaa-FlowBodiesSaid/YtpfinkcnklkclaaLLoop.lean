/-
  The walk of the law FlowLoops (waits for XRLoop: ans_ref_loops : GraphIn w sv g → the reference's Loops: RetLoops w (loopsL g)).
-/
import Derived.Test.YtpfinkcnklkclaaMade2
import Derived.Test.YtpfinkcnklkclaaSan
import Derived.Test.YtpfinkcnklkclaaLDom
import Derived.Test.YtpfinkcnklkclaaRLoop
set_option linter.unusedVariables false
set_option linter.unusedSimpArgs false
namespace Go.Proofs.Ytpfinkcnklkclaa
open Go.RowKit

theorem cyc_drew2 {w : World} {v : Value} {cs : List (Nat × List Nat)} (h : CycOf w w.heap.size v cs) : CycOf w.drew w.drew.heap.size v cs := h
theorem cyc_next {w w' : World} {v : Value} {cs : List (Nat × List Nat)} (h : CycOf w w.heap.size v cs) (hb : Below w.heap.size w w') : CycOf w' w'.heap.size v cs := (h.below hb).mono hb.size
theorem loopsL_len (g : List (List Nat)) : (loopsL g).length ≤ g.length := by
  unfold loopsL
  have h := List.length_filterMap_le (fun h => if (List.range g.length).any (tailB g h) then some (h, (List.range g.length).filter (bodyB g h)) else none) (List.range g.length)
  rw [List.length_range] at h
  exact h
theorem loopsL_body (g : List (List Nat)) : ∀ c ∈ loopsL g, c.2.length ≤ g.length := by
  intro c hc
  unfold loopsL at hc
  obtain ⟨h, _, hh⟩ := List.mem_filterMap.1 hc
  split at hh
  · have := Option.some.inj hh
    subst this
    have h2 := List.length_filter_le (bodyB g h) (List.range g.length)
    rw [List.length_range] at h2
    exact h2
  · simp at hh

set_option maxRecDepth 100000 in
set_option maxHeartbeats 1600000 in
theorem law_loops (w : World) (sv : Value) (l : List (Int × Int)) (h : PairsOf w w.heap.size sv l) (hi : ∀ p ∈ l, I64 p.1 ∧ I64 p.2) (hl : l.length ≤ 9223372036854775807) :
    Calls Try.prog 7 #[sv] w fun e w' => e = .returned (.bool true) ∧ Below w.heap.size w w' := by
  obtain ⟨sa, sc, hsv⟩ : ∃ a c, sv = .slice a l.length c := let ⟨a, c, e, _⟩ := h; ⟨a, c, e⟩
  have hgv := madeL_valid (l.take 60)
  have hgn := madeL_len (l.take 60)
  obtain ⟨g, hge⟩ : ∃ g, g = madeL (l.take 60) := ⟨_, rfl⟩
  rw [← hge] at hgv hgn
  have hmd : ∀ W, Below w.heap.size w W → Calls Try.prog 30 #[sv] W (RetGraph W g) := fun W hb => by
    rw [hge]; exact law_made W sv l ((h.below hb).mono hb.size) hi hl
  have HMD := Lib.hid hmd
  have hil : (loopsL g).length ≤ 2000000 := by have := loopsL_len g; omega
  have hib : ∀ c ∈ loopsL g, c.2.length ≤ 2000000 := fun c hc => by have := loopsL_body g c hc; omega
  clear hmd h hi hge
  subst hsv
  go_enter Try.func7, Try.ntmps7
  go_upto_region 3 with (first
    | (go_at_call 16; go_must (refine (sanity_any _).mono ?_; rintro e w1 ⟨rfl, hb1⟩))
    | (go_at_call 30; go_must (refine (HMD.out _ hb1).mono ?_; rintro e w2 ⟨bp, rfl, hbp, hor, hgw, hb2⟩; have hv2 := Var.mk' (graph_own hor hgw) (Below.refl _ _); have cv2 := hv2.cell; have hb02 : Below w.heap.size w _ := (hb1.trans (hb2.mono hb1.size)).alloc (by have := hb1.size; have := hb2.size; omega) (.cells #[.slice (some ⟨bp, 0, none⟩) g.length g.length] 24))))
  generalize hbx : w2.heap.size = bx at *
  generalize hW0 : w2.alloc (.cells #[.slice (some ⟨bp, 0, none⟩) g.length g.length] 24) = W0 at *
  clear hbx hW0 hor hgw hb1 hb2 hgv
  have hv20 := var_drew hv2
  have hb020 := below_drew1 hb02
  go_region_held3 (fun w' => w'.cell? ⟨bx, 0, none⟩ = some (.slice (some ⟨bp, 0, none⟩) g.length g.length) ∧ Var w' bx (.slice (some ⟨bp, 0, none⟩) g.length g.length) g ∧ Below w.heap.size w w')
    (first
      | (go_split_ands; refine ⟨?_, ?_, ?_⟩ <;> assumption)
      | (go_split_ands; refine ⟨?_, var_drew ?_, below_drew1 ?_⟩ <;> assumption))
    (first
      | (go_at_call 26; refine (ans_loops (Var.below (w := _) (b := bx) (by assumption) (Below.refl _ _)).2).mono ?_; rintro e wA ⟨vA, rfl, hoA, hbA⟩; have hvA : Var wA bx (.slice (some ⟨bp, 0, none⟩) g.length g.length) g := Var.below (by assumption) hbA; have cA := hvA.cell; have hb0A : Below w.heap.size w wA := Below.trans (by assumption) (hbA.mono (Below.size (by assumption))); have hsA : CycOf wA wA.heap.size vA (loopsL g) := hoA.cyc (Nat.le_refl _); clear hoA)
      | (go_at_call 27; refine (ans_ref_loops (Var.below (w := _) (b := bx) (by assumption) (Below.refl _ _)).2).mono ?_; rintro e wB ⟨vB, rfl, hoB, hbB⟩; have hvB : Var wB bx (.slice (some ⟨bp, 0, none⟩) g.length g.length) g := Var.below (by assumption) hbB; have cB := hvB.cell; have hb0B : Below w.heap.size w wB := Below.trans (by assumption) (hbB.mono (Below.size (by assumption))); have hsB : CycOf wB wB.heap.size vB (loopsL g) := hoB.cyc (Nat.le_refl _); have hsA2 : CycOf wB wB.heap.size vA (loopsL g) := (by first | exact cyc_next hsA hbB | exact cyc_next (cyc_drew2 hsA) hbB | exact cyc_next (cyc_drew2 (cyc_drew2 hsA)) hbB | exact cyc_next (cyc_drew2 (cyc_drew2 (cyc_drew2 hsA))) hbB); clear hoB)
      | (go_at_call 25; refine (cycles_true (xs := loopsL g) (ys := loopsL g) (by repeat' (first | exact hsA2 | refine cyc_drew2 ?_)) (by repeat' (first | exact hsB | refine cyc_drew2 ?_)) hil hib rfl).mono ?_; rintro e wC ⟨rfl, hbC⟩; have hvC : Var wC bx (.slice (some ⟨bp, 0, none⟩) g.length g.length) g := Var.below (by assumption) hbC; have cC := hvC.cell; have hb0C : Below w.heap.size w wC := Below.trans (by assumption) (hbC.mono (Below.size (by assumption)))))
  all_goals go_wp2_with fail
  all_goals go_ret
  all_goals exact ⟨rfl, hb0C⟩
end Go.Proofs.Ytpfinkcnklkclaa
