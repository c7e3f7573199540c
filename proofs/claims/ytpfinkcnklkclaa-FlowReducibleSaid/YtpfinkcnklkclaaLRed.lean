/-
  The walk of the law FlowReducible.
-/
import Derived.Test.YtpfinkcnklkclaaMade2
import Derived.Test.YtpfinkcnklkclaaSan
import Derived.Test.YtpfinkcnklkclaaLDom
import Derived.Test.YtpfinkcnklkclaaRRed
set_option linter.unusedVariables false
set_option linter.unusedSimpArgs false
namespace Go.Proofs.Ytpfinkcnklkclaa
open Go.RowKit

set_option maxRecDepth 100000 in
set_option maxHeartbeats 1600000 in
theorem law_reducible (w : World) (sv : Value) (l : List (Int × Int)) (h : PairsOf w w.heap.size sv l) (hi : ∀ p ∈ l, I64 p.1 ∧ I64 p.2) (hl : l.length ≤ 9223372036854775807) :
    Calls Try.prog 9 #[sv] w fun e w' => e = .returned (.bool true) ∧ Below w.heap.size w w' := by
  obtain ⟨sa, sc, hsv⟩ : ∃ a c, sv = .slice a l.length c := let ⟨a, c, e, _⟩ := h; ⟨a, c, e⟩
  have hgv := madeL_valid (l.take 60)
  have hgn := madeL_len (l.take 60)
  obtain ⟨g, hge⟩ : ∃ g, g = madeL (l.take 60) := ⟨_, rfl⟩
  rw [← hge] at hgv hgn
  have hmd : ∀ W, Below w.heap.size w W → Calls Try.prog 30 #[sv] W (RetGraph W g) := fun W hb => by
    rw [hge]; exact law_made W sv l ((h.below hb).mono hb.size) hi hl
  have HMD := Lib.hid hmd
  clear hmd h hi hge
  subst hsv
  go_enter Try.func9, Try.ntmps9
  go_upto_region 3 with (first
    | (go_at_call 16; go_must (refine (sanity_any _).mono ?_; rintro e w1 ⟨rfl, hb1⟩))
    | (go_at_call 30; go_must (refine (HMD.out _ hb1).mono ?_; rintro e w2 ⟨bp, rfl, hbp, hor, hgw, hb2⟩; have hv2 := Var.mk' (graph_own hor hgw) (Below.refl _ _); have cv2 := hv2.cell; have hb02 : Below w.heap.size w _ := (hb1.trans (hb2.mono hb1.size)).alloc (by have := hb1.size; have := hb2.size; omega) (.cells #[.slice (some ⟨bp, 0, none⟩) g.length g.length] 24))))
  generalize hbx : w2.heap.size = bx at *
  generalize hW0 : w2.alloc (.cells #[.slice (some ⟨bp, 0, none⟩) g.length g.length] 24) = W0 at *
  clear hbx hW0 hor hgw hb1 hb2 hgv
  have hv20 := var_drew hv2
  have hb020 := below_drew1 hb02
  go_region_held3 (fun w' => w'.cell? ⟨bx, 0, none⟩ = some (.slice (some ⟨bp, 0, none⟩) g.length g.length) ∧ Var w' bx (.slice (some ⟨bp, 0, none⟩) g.length g.length) g ∧ Below w.heap.size w w')
    (first
      | (go_split_ands; refine ⟨?_, ?_, ?_⟩ <;> assumption)
      | (go_split_ands; refine ⟨?_, var_drew ?_, below_drew1 ?_⟩ <;> assumption))
    (first
      | (go_at_call 28; refine (ans_reducible (Var.below (w := _) (b := bx) (by assumption) (Below.refl _ _)).2).mono ?_; rintro e wA ⟨rfl, hbA⟩; have hvA : Var wA bx (.slice (some ⟨bp, 0, none⟩) g.length g.length) g := Var.below (by assumption) hbA; have cA := hvA.cell; have hb0A : Below w.heap.size w wA := Below.trans (by assumption) (hbA.mono (Below.size (by assumption))))
      | (go_at_call 29; refine (ans_ref_reducible (Var.below (w := _) (b := bx) (by assumption) (Below.refl _ _)).2).mono ?_; rintro e wB ⟨rfl, hbB⟩; have hvB : Var wB bx (.slice (some ⟨bp, 0, none⟩) g.length g.length) g := Var.below (by assumption) hbB; have cB := hvB.cell; have hb0B : Below w.heap.size w wB := Below.trans (by assumption) (hbB.mono (Below.size (by assumption)))))
  all_goals go_wp2_with fail
  all_goals go_ret
  all_goals exact ⟨rfl, hb0B⟩
end Go.Proofs.Ytpfinkcnklkclaa
