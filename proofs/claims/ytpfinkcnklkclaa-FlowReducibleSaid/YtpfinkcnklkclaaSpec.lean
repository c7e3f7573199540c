/-
  Plain definitions: what the functions of packages flow and vellumref06 compute, as functions on lists. No program in sight.
-/
set_option linter.unusedVariables false
set_option linter.unusedSimpArgs false
namespace Go.Proofs.Ytpfinkcnklkclaa

/-- The successors of a node. -/
def succ (g : List (List Nat)) (u : Nat) : List Nat := g.getD u []

/-- All successors are nodes (the graph as it lies in memory, of whole numbers). -/
def validI (g : List (List Int)) : Bool := g.all fun l => l.all fun s => decide (0 ≤ s) && decide (s < (g.length : Int))
def ValidG (g : List (List Nat)) : Prop := 0 < g.length ∧ ∀ l ∈ g, ∀ s ∈ l, s < g.length

/-- A path of k steps from a to b through nodes of which P holds. -/
def PathN (g : List (List Nat)) (P : Nat → Prop) : Nat → Nat → Nat → Prop
  | 0, a, b => a = b ∧ P a
  | k + 1, a, c => ∃ b, PathN g P k a b ∧ c ∈ succ g b ∧ P c
def Path (g : List (List Nat)) (P : Nat → Prop) (a b : Nat) : Prop := ∃ k, PathN g P k a b

/-- The depth-first search, with its explicit stack: after k rounds the list of finished nodes is F. -/
def DRun (g : List (List Nat)) : Nat → List Bool → List (Nat × Nat) → List Nat → List Nat → Prop
  | 0, _, stk, post, F => stk = [] ∧ post = F
  | k + 1, seen, stk, post, F => ∃ st u j, stk = st ++ [(u, j)] ∧ ((j = (succ g u).length ∧ DRun g k seen st (post ++ [u]) F) ∨
      (∃ s, (succ g u)[j]? = some s ∧ seen[s]? = some true ∧ DRun g k seen (st ++ [(u, j + 1)]) post F) ∨
      (∃ s, (succ g u)[j]? = some s ∧ seen[s]? = some false ∧ DRun g k (seen.set s true) (st ++ [(u, j + 1)] ++ [(s, 0)]) post F))

/-- The recursive search of a node, with fuel. -/
def visit (g : List (List Nat)) : Nat → List Bool × List Nat → Nat → List Bool × List Nat
  | 0, st, _ => st
  | f + 1, st, n =>
    let r := (succ g n).foldl (fun st s => if st.1.getD s true then st else visit g f st s) (st.1.set n true, st.2)
    (r.1, r.2 ++ [n])
def postL (g : List (List Nat)) : List Nat := (visit g g.length (List.replicate g.length false, []) 0).2
def orderL (g : List (List Nat)) : List Nat := (postL g).reverse

end Go.Proofs.Ytpfinkcnklkclaa
