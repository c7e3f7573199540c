/-
  Plain definitions: the relations that the walks ask for, round for round. No program in sight.
-/
import Derived.Test.YtpfinkcnklkclaaSpec
set_option linter.unusedVariables false
set_option linter.unusedSimpArgs false
namespace Go.Proofs.Ytpfinkcnklkclaa

/-- ord is the order of g: what the search leaves, turned round. -/
def IsOrder (g : List (List Nat)) (ord : List Nat) : Prop := ∃ k, DRun g k ((List.replicate g.length false).set 0 true) [(0, 0)] [] ord.reverse
/-- Positions in the order after k rounds; predecessors after the edges of some nodes. -/
def atF (ord : List Nat) : Nat → Int → Int
  | 0, _ => 0
  | k + 1, y => if y = ((ord.getD k 0 : Nat) : Int) then (k : Int) else atF ord k y
def addEdge (n : Nat) (P : List (List Nat)) (s : Nat) : List (List Nat) := P.set s (P.getD s [] ++ [n])
def addEdges (g : List (List Nat)) (P : List (List Nat)) (n : Nat) : List (List Nat) := (succ g n).foldl (addEdge n) P
def predsL (g : List (List Nat)) (ord : List Nat) : List (List Nat) := ord.foldl (addEdges g) (List.replicate g.length [])
/-- 'for at[a] > t { a = idom[a] }', k rounds. -/
def UpN (idom : List Int) (f : Int → Int) (t : Int) : Nat → Nat → Nat → Prop
  | 0, a, a' => ¬ t < f a ∧ a' = a
  | k + 1, a, a' => t < f a ∧ ∃ a1 : Nat, a1 < idom.length ∧ idom[a]? = some (a1 : Int) ∧ UpN idom f t k a1 a'
/-- The walk of both nodes up, k rounds. -/
def MeetN (idom : List Int) (f : Int → Int) : Nat → Nat → Nat → Nat → Prop
  | 0, a, b, r => a = b ∧ r = a
  | k + 1, a, b, r => a ≠ b ∧ ∃ j a', UpN idom f (f b) j a a' ∧ ∃ j' b', UpN idom f (f a') j' b b' ∧ MeetN idom f k a' b' r
/-- What one predecessor does to the candidate. -/
def PickR (idom : List Int) (f : Int → Int) (p : Nat) (d d1 : Int) : Prop :=
  ∃ x, idom[p]? = some x ∧ ((x < 0 ∧ d1 = d) ∨ (¬ x < 0 ∧ d < 0 ∧ d1 = p) ∨ (¬ x < 0 ∧ ∃ dn : Nat, d = dn ∧ dn < idom.length ∧ ∃ k r, MeetN idom f k p dn r ∧ d1 = (r : Int)))
/-- All predecessors. -/
def PredsR (idom : List Int) (f : Int → Int) : List Nat → Int → Int → Prop
  | [], d, d' => d' = d
  | p :: ps, d, d' => ∃ d1, PickR idom f p d d1 ∧ PredsR idom f ps d1 d'
/-- A candidate: none yet, or a node that has been reached. -/
def OkD (idom : List Int) (d : Int) : Prop := d = -1 ∨ ∃ dn : Nat, d = (dn : Int) ∧ dn < idom.length ∧ ∃ x, idom[dn]? = some x ∧ ¬ x < 0
/-- Every predecessor can be met with every candidate. -/
def TotR (idom : List Int) (f : Int → Int) (pr : List Nat) : Prop := ∀ p ∈ pr, p < idom.length ∧ ∀ d, OkD idom d → ∃ d1, OkD idom d1 ∧ PickR idom f p d d1
/-- One pass over the nodes. -/
def PassR (preds : List (List Nat)) (f : Int → Int) : List Nat → List Int → Bool → List Int → Bool → Prop
  | [], idom, ch, idom', ch' => idom' = idom ∧ ch' = ch
  | n :: ns, idom, ch, idom', ch' => ∃ pr d old, preds[n]? = some pr ∧ TotR idom f pr ∧ PredsR idom f pr (-1) d ∧ idom[n]? = some old ∧ ((old = d ∧ PassR preds f ns idom ch idom' ch') ∨ (old ≠ d ∧ PassR preds f ns (idom.set n d) true idom' ch'))
/-- Passes until nothing changes. -/
def DomR (preds : List (List Nat)) (f : Int → Int) (ns : List Nat) : Nat → List Int → List Int → Prop
  | 0, _, _ => False
  | k + 1, idom, idom' => ∃ i1 ch, PassR preds f ns idom false i1 ch ∧ ((ch = false ∧ idom' = i1) ∨ (ch = true ∧ DomR preds f ns k i1 idom'))
/-- The view of a graph whose order is 0 :: ns leads to the immediate dominators idom (that of the entry: the entry). -/
def DomOf (g : List (List Nat)) (ns : List Nat) (idom : List Int) : Prop := ∃ k, DomR (predsL g (0 :: ns)) (atF (0 :: ns) (ns.length + 1)) ns k ((0 : Int) :: List.replicate (g.length - 1) (-1)) idom
/-- What Reducible asks of an edge. -/
def EdgeR (idom : List Int) (f : Int → Int) (u s : Nat) (b : Bool) : Prop := (¬ f s ≤ f u ∧ b = true) ∨ (f s ≤ f u ∧ ∃ k r, UpN idom f (f s) k u r ∧ b = decide (r = s))
/-- What add does to the set and the work list. -/
def addF (st : (Int → Bool) × List Nat) (u : Nat) : (Int → Bool) × List Nat := if st.1 (u : Int) then st else (fun y => if y = (u : Int) then true else st.1 y, st.2 ++ [u])
/-- One predecessor of a head. -/
def step1 (dq : Nat → Nat → Bool) (h : Nat) (st : Bool × (Int → Bool) × List Nat) (u : Nat) : Bool × (Int → Bool) × List Nat := if dq h u then (true, addF st.2 u) else st
/-- The work list, round for round. -/
def WorkR (preds : List (List Nat)) : Nat → (Int → Bool) → List Nat → (Int → Bool) → Prop
  | 0, f, work, F => work = [] ∧ F = f
  | k + 1, f, work, F => ∃ st n pr, work = st ++ [n] ∧ preds[n]? = some pr ∧ WorkR preds k (pr.foldl addF (f, st)).1 (pr.foldl addF (f, st)).2 F
def head0 (h : Nat) : Bool × (Int → Bool) × List Nat := (false, fun y => if y = (h : Int) then true else false, [])
def headSt (dq : Nat → Nat → Bool) (preds : List (List Nat)) (h : Nat) : Bool × (Int → Bool) × List Nat := (preds.getD h []).foldl (step1 dq h) (head0 h)
def bodyOf (F : Int → Bool) (n : Nat) : List Nat := (List.range n).filter fun m => F (m : Int)
def loopsUpto (dq : Nat → Nat → Bool) (preds : List (List Nat)) (F : Nat → Int → Bool) (n : Nat) (i : Nat) : List (Nat × List Nat) :=
  (List.range i).filterMap fun h => if (headSt dq preds h).1 then some (h, bodyOf (F h) n) else none
def unseen (seen : List Bool) : Nat := (seen.filter (fun b => !b)).length
/-- One successor. -/
def push1 (out : Int) (st : List Bool × List Nat) (s : Nat) : List Bool × List Nat := if (s : Int) ≠ out ∧ st.1[s]? = some false then (st.1.set s true, st.2 ++ [s]) else st
/-- The work list, round for round. -/
def FromR (g : List (List Nat)) (out : Int) : Nat → List Bool → List Nat → List Bool → Prop
  | 0, seen, work, F => work = [] ∧ F = seen
  | k + 1, seen, work, F => ∃ st n, work = st ++ [n] ∧ FromR g out k ((succ g n).foldl (push1 out) (seen, st)).1 ((succ g n).foldl (push1 out) (seen, st)).2 F
/-- What From computes: none if from is out. -/
def FromOf (g : List (List Nat)) (fr : Nat) (out : Int) (F : List Bool) : Prop :=
  ((fr : Int) = out ∧ F = List.replicate g.length false) ∨ ((fr : Int) ≠ out ∧ ∃ k, FromR g out k ((List.replicate g.length false).set fr true) [fr] F)

end Go.Proofs.Ytpfinkcnklkclaa
