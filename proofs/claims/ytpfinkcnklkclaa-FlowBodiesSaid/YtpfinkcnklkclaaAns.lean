/-
  The contracts of package flow and of the reference's Order and From, in their last form: what they answer for a valid graph.
-/
import Derived.Test.YtpfinkcnklkclaaFrom
import Derived.Test.YtpfinkcnklkclaaROrd
import Derived.Test.YtpfinkcnklkclaaLoop
set_option linter.unusedVariables false
set_option linter.unusedSimpArgs false
namespace Go.Proofs.Ytpfinkcnklkclaa
open Go.RowKit Go.Shelf

/-- A valid graph in memory. -/
structure GraphIn (w : World) (sv : Value) (g : List (List Nat)) : Prop where
  rows : RowsOf encNat w w.heap.size sv g
  valid : ValidG g
  len : g.length ≤ 2000000
  row : ∀ row ∈ g, row.length ≤ 2000000
def RetLoops (w : World) (cs : List (Nat × List Nat)) (e : Ending) (w' : World) : Prop := ∃ ov, e = .returned ov ∧ OutMem w.heap.size w' ov cs ∧ Below w.heap.size w w'

theorem GraphIn.below {w w' : World} {sv : Value} {g : List (List Nat)} (h : GraphIn w sv g) (hb : Below w.heap.size w w') : GraphIn w' sv g :=
  ⟨(h.rows.below hb).mono hb.size, h.valid, h.len, h.row⟩

theorem ans_valid {w : World} {sv : Value} {g : List (List Nat)} (h : GraphIn w sv g) : Calls Try.prog 18 #[.agg #[sv]] w fun e w' => e = .returned (.bool true) ∧ Below w.heap.size w w' :=
  flow_valid_nat w sv g w.heap.size (Nat.le_refl _) h.rows h.valid h.len h.row
theorem ans_order {w : World} {sv : Value} {g : List (List Nat)} (h : GraphIn w sv g) : Calls Try.prog 21 #[.agg #[sv]] w (RetNats w (orderL g)) := by
  obtain ⟨ns, hO⟩ := ordF h.valid
  rw [hO.eq]
  exact flow_order_is w sv g w.heap.size (Nat.le_refl _) h.rows h.valid h.len h.row (0 :: ns) hO.is
theorem ans_dominators {w : World} {sv : Value} {g : List (List Nat)} (h : GraphIn w sv g) : Calls Try.prog 23 #[.agg #[sv]] w (RetInts w (idomL g)) := by
  obtain ⟨ns, hO⟩ := ordF h.valid
  obtain ⟨D, hD⟩ := hO.dom
  rw [← idom_eq h.valid hO hD]
  exact flow_dominators_is w sv g w.heap.size (Nat.le_refl _) h.rows h.valid h.len h.row ns hO.is D hD.of
theorem ans_loops {w : World} {sv : Value} {g : List (List Nat)} (h : GraphIn w sv g) : Calls Try.prog 26 #[.agg #[sv]] w (RetLoops w (loopsL g)) := by
  obtain ⟨ns, hO⟩ := ordF h.valid
  obtain ⟨D, hD⟩ := hO.dom
  obtain ⟨h1, F, h2, h3⟩ := loops_eq h.valid hO hD
  rw [← h3]
  exact flow_loops_is w sv g w.heap.size (Nat.le_refl _) h.rows h.valid h.len h.row ns hO.is D hD.of (domsB g) h1 F h2
theorem ans_reducible {w : World} {sv : Value} {g : List (List Nat)} (h : GraphIn w sv g) : Calls Try.prog 28 #[.agg #[sv]] w fun e w' => e = .returned (.bool (redF g)) ∧ Below w.heap.size w w' := by
  obtain ⟨ns, hO⟩ := ordF h.valid
  obtain ⟨D, hD⟩ := hO.dom
  unfold redF
  rw [hO.eq]
  exact flow_reducible_is w sv g w.heap.size (Nat.le_refl _) h.rows h.valid h.len h.row ns hO.is D hD.of (okB g) (fun u hu s hs => edge_ok h.valid hO hD hu hs)
theorem ans_ref_valid {w : World} {sv : Value} {g : List (List Nat)} (h : GraphIn w sv g) : Calls Try.prog 19 #[.agg #[sv]] w fun e w' => e = .returned (.bool true) ∧ Below w.heap.size w w' :=
  ref_valid_nat w sv g w.heap.size (Nat.le_refl _) h.rows h.valid h.len h.row
theorem ans_ref_order {w : World} {sv : Value} {g : List (List Nat)} (h : GraphIn w sv g) : Calls Try.prog 22 #[.agg #[sv]] w (RetNats w (orderL g)) :=
  ref_order_any w sv g w.heap.size (Nat.le_refl _) h.rows h.valid h.len h.row
theorem ans_from {w : World} {sv : Value} {g : List (List Nat)} (h : GraphIn w sv g) (fr : Nat) (hfr : fr < g.length) (out : Int) : Calls Try.prog 31 #[.agg #[sv], .int .i64 (fr : Int), .int .i64 out] w (RetBools w (fromL g fr out)) :=
  from_any w sv g w.heap.size (Nat.le_refl _) h.rows h.valid h.len h.row fr hfr out _ (fromL_of h.valid fr hfr out)

end Go.Proofs.Ytpfinkcnklkclaa
