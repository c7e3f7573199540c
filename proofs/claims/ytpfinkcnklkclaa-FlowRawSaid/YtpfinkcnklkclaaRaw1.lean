/-
  What the functions answer for any small graph, valid or not.
-/
import Derived.Test.YtpfinkcnklkclaaSmall
set_option linter.unusedVariables false
set_option linter.unusedSimpArgs false
namespace Go.Proofs.Ytpfinkcnklkclaa
open Go.RowKit

def okI (g : List (List Int)) : Bool := decide (0 < g.length) && validI g
def natG (g : List (List Int)) : List (List Nat) := g.map (List.map Int.toNat)
def ordA (g : List (List Int)) : List Nat := if okI g then orderL (natG g) else []
def domA (g : List (List Int)) : List Int := if okI g then idomL (natG g) else []
def loopA (g : List (List Int)) : List (Nat × List Nat) := if okI g then loopsL (natG g) else []
def redA (g : List (List Int)) : Bool := if okI g then redF (natG g) else false
structure AnyIn (w : World) (sv : Value) (g : List (List Int)) : Prop where
  rows : RowsOf encInt w w.heap.size sv g
  len : g.length ≤ 24
  row : ∀ row ∈ g, row.length ≤ 2000000
theorem AnyIn.below {w w' : World} {sv : Value} {g : List (List Int)} (h : AnyIn w sv g) (hb : Below w.heap.size w w') : AnyIn w' sv g :=
  ⟨(h.rows.below hb).mono hb.size, h.len, h.row⟩
theorem natG_back {g : List (List Int)} (h : okI g = true) : (natG g).map (List.map Int.ofNat) = g := by
  unfold okI validI at h
  rw [Bool.and_eq_true, List.all_eq_true] at h
  unfold natG
  rw [List.map_map]
  conv => rhs; rw [← List.map_id g]
  refine List.map_congr_left fun row hr => ?_
  have h2 := h.2 row hr
  rw [List.all_eq_true] at h2
  simp only [Function.comp_apply, List.map_map, id_eq]
  conv => rhs; rw [← List.map_id row]
  refine List.map_congr_left fun s hs => ?_
  have h3 := h2 s hs
  rw [Bool.and_eq_true, decide_eq_true_eq, decide_eq_true_eq] at h3
  simp only [Function.comp_apply, id_eq]
  exact Int.toNat_of_nonneg h3.1
theorem natG_valid {g : List (List Int)} (h : okI g = true) : ValidG (natG g) := by
  unfold okI validI at h
  rw [Bool.and_eq_true, List.all_eq_true, decide_eq_true_eq] at h
  refine ⟨by simpa [natG] using h.1, fun l hl s hs => ?_⟩
  unfold natG at hl
  obtain ⟨row, hr, rfl⟩ := List.mem_map.1 hl
  obtain ⟨x, hx, rfl⟩ := List.mem_map.1 hs
  have h2 := h.2 row hr
  rw [List.all_eq_true] at h2
  have h3 := h2 x hx
  rw [Bool.and_eq_true, decide_eq_true_eq, decide_eq_true_eq] at h3
  simp only [natG, List.length_map]
  omega
theorem AnyIn.good {w : World} {sv : Value} {g : List (List Int)} (h : AnyIn w sv g) (hk : okI g = true) : GraphIn w sv (natG g) := by
  refine ⟨(RowsOf.map (enc := encInt) (enc' := encNat) Int.ofNat (fun _ => rfl)).1 (by rw [natG_back hk]; exact h.rows), natG_valid hk, by have := h.len; simp [natG]; omega, fun row hr => ?_⟩
  unfold natG at hr
  obtain ⟨r, hr2, rfl⟩ := List.mem_map.1 hr
  simpa using h.row r hr2
theorem AnyIn.badIn {w : World} {sv : Value} {g : List (List Int)} (h : AnyIn w sv g) (hk : okI g = false) : BadIn w sv g := ⟨h.rows, hk, by have := h.len; omega, h.row⟩

theorem ret_nats_nil {w : World} {e : Ending} {w' : World} (h : RetNil w e w') : RetNats w [] e w' := ⟨_, h.1, World.ownsRow_nil _ _ _ _, h.2⟩
theorem ret_ints_nil {w : World} {e : Ending} {w' : World} (h : RetNil w e w') : RetInts w [] e w' := ⟨_, h.1, World.ownsRow_nil _ _ _ _, h.2⟩
theorem ret_loops_nil {w : World} {e : Ending} {w' : World} (h : RetNil w e w') : RetLoops w [] e w' := ⟨_, h.1, OutMem.nil _ _, h.2⟩
section
variable {w : World} {sv : Value} {g : List (List Int)}
theorem any_valid {q : Bool} (h : AnyIn w sv g) (hq : okI g = q) : Calls Try.prog 18 #[.agg #[sv]] w fun e w' => e = .returned (.bool q) ∧ Below w.heap.size w w' := by
  subst hq; exact flow_valid w sv g w.heap.size (Nat.le_refl _) h.rows (by have := h.len; omega) h.row
theorem any_ref_valid {q : Bool} (h : AnyIn w sv g) (hq : okI g = q) : Calls Try.prog 19 #[.agg #[sv]] w fun e w' => e = .returned (.bool q) ∧ Below w.heap.size w w' := by
  subst hq; exact ref_valid w sv g w.heap.size (Nat.le_refl _) h.rows (by have := h.len; omega) h.row
theorem any_order {xs : List Nat} (h : AnyIn w sv g) (hx : ordA g = xs) : Calls Try.prog 21 #[.agg #[sv]] w (RetNats w xs) := by
  subst hx; unfold ordA
  cases hk : okI g with
  | true => exact ans_order (h.good hk)
  | false => exact (bad_order (h.badIn hk)).mono fun _ _ h => ret_nats_nil h
theorem any_ref_order {xs : List Nat} (h : AnyIn w sv g) (hx : ordA g = xs) : Calls Try.prog 22 #[.agg #[sv]] w (RetNats w xs) := by
  subst hx; unfold ordA
  cases hk : okI g with
  | true => exact ans_ref_order (h.good hk)
  | false => exact (bad_ref_order (h.badIn hk)).mono fun _ _ h => ret_nats_nil h
theorem any_dominators {xs : List Int} (h : AnyIn w sv g) (hx : domA g = xs) : Calls Try.prog 23 #[.agg #[sv]] w (RetInts w xs) := by
  subst hx; unfold domA
  cases hk : okI g with
  | true => exact ans_dominators (h.good hk)
  | false => exact (bad_dominators (h.badIn hk)).mono fun _ _ h => ret_ints_nil h
theorem any_ref_dominators {xs : List Int} (h : AnyIn w sv g) (hx : domA g = xs) : Calls Try.prog 24 #[.agg #[sv]] w (RetInts w xs) := by
  subst hx; unfold domA
  cases hk : okI g with
  | true => exact ans_ref_dominators (h.good hk)
  | false => exact (bad_ref_dominators (h.badIn hk)).mono fun _ _ h => ret_ints_nil h
theorem any_loops {cs : List (Nat × List Nat)} (h : AnyIn w sv g) (hx : loopA g = cs) : Calls Try.prog 26 #[.agg #[sv]] w (RetLoops w cs) := by
  subst hx; unfold loopA
  cases hk : okI g with
  | true => exact ans_loops (h.good hk)
  | false => exact (bad_loops (h.badIn hk)).mono fun _ _ h => ret_loops_nil h
theorem any_ref_loops {cs : List (Nat × List Nat)} (h : AnyIn w sv g) (hx : loopA g = cs) : Calls Try.prog 27 #[.agg #[sv]] w (RetLoops w cs) := by
  subst hx; unfold loopA
  cases hk : okI g with
  | true => exact ans_ref_loops (h.good hk)
  | false => exact (bad_ref_loops (h.badIn hk)).mono fun _ _ h => ret_loops_nil h
theorem any_red {q : Bool} (h : AnyIn w sv g) (hq : redA g = q) : Calls Try.prog 28 #[.agg #[sv]] w fun e w' => e = .returned (.bool q) ∧ Below w.heap.size w w' := by
  subst hq; unfold redA
  cases hk : okI g with
  | true => exact ans_reducible (h.good hk)
  | false => exact bad_reducible (h.badIn hk)
theorem any_ref_red {q : Bool} (h : AnyIn w sv g) (hq : redA g = q) : Calls Try.prog 29 #[.agg #[sv]] w fun e w' => e = .returned (.bool q) ∧ Below w.heap.size w w' := by
  subst hq; unfold redA
  cases hk : okI g with
  | true => exact ans_ref_reducible (h.good hk)
  | false => exact bad_ref_reducible (h.badIn hk)
end
theorem natG_len (g : List (List Int)) : (natG g).length = g.length := by simp [natG]
theorem any_lens {g : List (List Int)} (hg : g.length ≤ 24) : (ordA g).length ≤ 2000000 ∧ (domA g).length ≤ 2000000 ∧ (loopA g).length ≤ 2000000 ∧ ∀ c ∈ loopA g, c.2.length ≤ 2000000 := by
  unfold ordA domA loopA
  have hn := natG_len g
  cases hk : okI g with
  | false => simp
  | true =>
    simp only [if_true]
    obtain ⟨ns, hO⟩ := ordF (natG_valid hk)
    have ho := (hO.is.nodes (natG_valid hk)).1
    refine ⟨by rw [hO.eq]; omega, by simp [idomL]; omega, by have := loopsL_len (natG g); omega, fun c hc => by have := loopsL_body (natG g) c hc; omega⟩
/-- A variable that holds a small graph. -/
def VarI (w : World) (b : Nat) (sv : Value) (g : List (List Int)) : Prop := w.heap[b]? = some (.cells #[sv] 24 (0, 0)) ∧ AnyIn w sv g
theorem VarI.below {w w' : World} {b : Nat} {sv : Value} {g : List (List Int)} (h : VarI w b sv g) (hb : Below w.heap.size w w') : VarI w' b sv g := ⟨below_blk hb h.1 (lt_of_block h.1), h.2.below hb⟩
theorem VarI.cell {w : World} {b : Nat} {sv : Value} {g : List (List Int)} (h : VarI w b sv g) : w.cell? ⟨b, 0, none⟩ = some sv := cell_of_blk h.1 (by simp)
theorem VarI.gr {w : World} {b : Nat} {sv : Value} {g : List (List Int)} (h : VarI w b sv g) : AnyIn w sv g := h.2
theorem varI_drew {w : World} {b : Nat} {sv : Value} {g : List (List Int)} (h : VarI w b sv g) : VarI w.drew b sv g := h.below ((Below.refl _ _).drew)
end Go.Proofs.Ytpfinkcnklkclaa
