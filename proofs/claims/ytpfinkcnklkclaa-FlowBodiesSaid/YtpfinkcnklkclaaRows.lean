/-
  No cell of these rows narrows 'for every input' (looked for: loops, veiled, ifaces, maps, wideKeys, modest, calm, conditions, laid).
  DERIVED. THE GIVEN ROWS OF THIS SEAT. 13 by the template 'for every input the law returns true; each argument reads behind the call as it read before'; 0 by the template 'total and deterministic' (their statements: YtpfinkcnklkclaaTotals.lean).
  GIVEN WITH THE SEED: the statements are not yours to turn. If you find one false, say at which input.
  Laid BY PROGRAM, IN A SANDBOX (cutbox-rows.mjs): the forced cells as the released guide's own fill.sh prints them over the translation f967edcc633e3eb6… (all of the seat's roots in one cut). By AI agents, Wed Nov 11 2026. No macro, syntax, notation, axiom, sorry.
-/
import Derived.Test.YtpfinkcnklkclaaChecked
import GoSem.Claim
import GoSem.ClaimJoined
import GoSem.ClaimMapViews
import Derived.JoinedTies
import Derived.KernelRfl
namespace Go.Proofs.Ytpfinkcnklkclaa
/- THE CELL 'sum', in the pinned program and in every row, IS THE sha256 OF THE DUMP (.gsa) THAT YtpfinkcnklkclaaProg.lean LOADS. Nothing in Lean hashes anything: it is a label: what it is worth is what the hold of that sum in a sandbox is worth. -/
noncomputable def Try.pinned : Pinned := { name := "ytpfinkcnklkclaa", sum := "f967edcc633e3eb6523f17f83cfa5133c0bff6ec34a75667a5700271069fe1ac", checked := Try.checked }
namespace Rows
def none {H : Type} : Left H := { results := [], args := [] }

/-- 'vellumlaw06.FlowRaw': WHATEVER THE INPUT: true; the input reads as it did. -/
def flowRawSpec : ChangeSpec := { name := "flowRaw", fn := fun _ => fun
  | [d] => { results := [.lit (.bool true)], args := [d] }
  | _ => none }
def flowRawRow : OpenClaim := { program := "ytpfinkcnklkclaa", sum := "f967edcc633e3eb6523f17f83cfa5133c0bff6ec34a75667a5700271069fe1ac", func := "vellum/vellumlaw06.FlowRaw", spec := "flowRaw", unfollowed := true, recurses := true, apart := false }
def FlowRawSaid : Prop := flowRawRow.holds Try.pinned (OpenSpec.ofChange flowRawSpec)

/-- ITS FALSE NEIGHBOUR: 'it returns false'. Refute it at one input. -/
def flowRawWrong : ChangeSpec := { name := "flowRaw", fn := fun _ => fun
  | [d] => { results := [.lit (.bool false)], args := [d] }
  | _ => none }
def FlowRawWrongFalsely : Prop := flowRawRow.holds Try.pinned (OpenSpec.ofChange flowRawWrong)

/-- 'vellumlaw06.FlowOrder': WHATEVER THE INPUT: true; the input reads as it did. -/
def flowOrderSpec : ChangeSpec := { name := "flowOrder", fn := fun _ => fun
  | [d] => { results := [.lit (.bool true)], args := [d] }
  | _ => none }
def flowOrderRow : OpenClaim := { program := "ytpfinkcnklkclaa", sum := "f967edcc633e3eb6523f17f83cfa5133c0bff6ec34a75667a5700271069fe1ac", func := "vellum/vellumlaw06.FlowOrder", spec := "flowOrder", unfollowed := true, recurses := true, apart := false }
def FlowOrderSaid : Prop := flowOrderRow.holds Try.pinned (OpenSpec.ofChange flowOrderSpec)

/-- ITS FALSE NEIGHBOUR: 'it returns false'. Refute it at one input. -/
def flowOrderWrong : ChangeSpec := { name := "flowOrder", fn := fun _ => fun
  | [d] => { results := [.lit (.bool false)], args := [d] }
  | _ => none }
def FlowOrderWrongFalsely : Prop := flowOrderRow.holds Try.pinned (OpenSpec.ofChange flowOrderWrong)

/-- 'vellumlaw06.FlowDominators': WHATEVER THE INPUT: true; the input reads as it did. -/
def flowDominatorsSpec : ChangeSpec := { name := "flowDominators", fn := fun _ => fun
  | [d] => { results := [.lit (.bool true)], args := [d] }
  | _ => none }
def flowDominatorsRow : OpenClaim := { program := "ytpfinkcnklkclaa", sum := "f967edcc633e3eb6523f17f83cfa5133c0bff6ec34a75667a5700271069fe1ac", func := "vellum/vellumlaw06.FlowDominators", spec := "flowDominators", unfollowed := true, recurses := true, apart := false }
def FlowDominatorsSaid : Prop := flowDominatorsRow.holds Try.pinned (OpenSpec.ofChange flowDominatorsSpec)

/-- ITS FALSE NEIGHBOUR: 'it returns false'. Refute it at one input. -/
def flowDominatorsWrong : ChangeSpec := { name := "flowDominators", fn := fun _ => fun
  | [d] => { results := [.lit (.bool false)], args := [d] }
  | _ => none }
def FlowDominatorsWrongFalsely : Prop := flowDominatorsRow.holds Try.pinned (OpenSpec.ofChange flowDominatorsWrong)

/-- 'vellumlaw06.FlowPaths': WHATEVER THE INPUT: true; the input reads as it did. -/
def flowPathsSpec : ChangeSpec := { name := "flowPaths", fn := fun _ => fun
  | [d1, d2] => { results := [.lit (.bool true)], args := [d1, d2] }
  | _ => none }
def flowPathsRow : OpenClaim := { program := "ytpfinkcnklkclaa", sum := "f967edcc633e3eb6523f17f83cfa5133c0bff6ec34a75667a5700271069fe1ac", func := "vellum/vellumlaw06.FlowPaths", spec := "flowPaths", unfollowed := true, recurses := true, apart := false }
def FlowPathsSaid : Prop := flowPathsRow.holds Try.pinned (OpenSpec.ofChange flowPathsSpec)

/-- ITS FALSE NEIGHBOUR: 'it returns false'. Refute it at one input. -/
def flowPathsWrong : ChangeSpec := { name := "flowPaths", fn := fun _ => fun
  | [d1, d2] => { results := [.lit (.bool false)], args := [d1, d2] }
  | _ => none }
def FlowPathsWrongFalsely : Prop := flowPathsRow.holds Try.pinned (OpenSpec.ofChange flowPathsWrong)

/-- 'vellumlaw06.FlowLoops': WHATEVER THE INPUT: true; the input reads as it did. -/
def flowLoopsSpec : ChangeSpec := { name := "flowLoops", fn := fun _ => fun
  | [d] => { results := [.lit (.bool true)], args := [d] }
  | _ => none }
def flowLoopsRow : OpenClaim := { program := "ytpfinkcnklkclaa", sum := "f967edcc633e3eb6523f17f83cfa5133c0bff6ec34a75667a5700271069fe1ac", func := "vellum/vellumlaw06.FlowLoops", spec := "flowLoops", unfollowed := true, recurses := true, apart := false }
def FlowLoopsSaid : Prop := flowLoopsRow.holds Try.pinned (OpenSpec.ofChange flowLoopsSpec)

/-- ITS FALSE NEIGHBOUR: 'it returns false'. Refute it at one input. -/
def flowLoopsWrong : ChangeSpec := { name := "flowLoops", fn := fun _ => fun
  | [d] => { results := [.lit (.bool false)], args := [d] }
  | _ => none }
def FlowLoopsWrongFalsely : Prop := flowLoopsRow.holds Try.pinned (OpenSpec.ofChange flowLoopsWrong)

/-- 'vellumlaw06.FlowBodies': WHATEVER THE INPUT: true; the input reads as it did. -/
def flowBodiesSpec : ChangeSpec := { name := "flowBodies", fn := fun _ => fun
  | [d] => { results := [.lit (.bool true)], args := [d] }
  | _ => none }
def flowBodiesRow : OpenClaim := { program := "ytpfinkcnklkclaa", sum := "f967edcc633e3eb6523f17f83cfa5133c0bff6ec34a75667a5700271069fe1ac", func := "vellum/vellumlaw06.FlowBodies", spec := "flowBodies", unfollowed := true, recurses := true, apart := false }
def FlowBodiesSaid : Prop := flowBodiesRow.holds Try.pinned (OpenSpec.ofChange flowBodiesSpec)

/-- ITS FALSE NEIGHBOUR: 'it returns false'. Refute it at one input. -/
def flowBodiesWrong : ChangeSpec := { name := "flowBodies", fn := fun _ => fun
  | [d] => { results := [.lit (.bool false)], args := [d] }
  | _ => none }
def FlowBodiesWrongFalsely : Prop := flowBodiesRow.holds Try.pinned (OpenSpec.ofChange flowBodiesWrong)

/-- 'vellumlaw06.FlowReducible': WHATEVER THE INPUT: true; the input reads as it did. -/
def flowReducibleSpec : ChangeSpec := { name := "flowReducible", fn := fun _ => fun
  | [d] => { results := [.lit (.bool true)], args := [d] }
  | _ => none }
def flowReducibleRow : OpenClaim := { program := "ytpfinkcnklkclaa", sum := "f967edcc633e3eb6523f17f83cfa5133c0bff6ec34a75667a5700271069fe1ac", func := "vellum/vellumlaw06.FlowReducible", spec := "flowReducible", unfollowed := true, recurses := true, apart := false }
def FlowReducibleSaid : Prop := flowReducibleRow.holds Try.pinned (OpenSpec.ofChange flowReducibleSpec)

/-- ITS FALSE NEIGHBOUR: 'it returns false'. Refute it at one input. -/
def flowReducibleWrong : ChangeSpec := { name := "flowReducible", fn := fun _ => fun
  | [d] => { results := [.lit (.bool false)], args := [d] }
  | _ => none }
def FlowReducibleWrongFalsely : Prop := flowReducibleRow.holds Try.pinned (OpenSpec.ofChange flowReducibleWrong)

/-- 'vellumlaw06.FlowRenamed': WHATEVER THE INPUT: true; the input reads as it did. -/
def flowRenamedSpec : ChangeSpec := { name := "flowRenamed", fn := fun _ => fun
  | [d1, d2] => { results := [.lit (.bool true)], args := [d1, d2] }
  | _ => none }
def flowRenamedRow : OpenClaim := { program := "ytpfinkcnklkclaa", sum := "f967edcc633e3eb6523f17f83cfa5133c0bff6ec34a75667a5700271069fe1ac", func := "vellum/vellumlaw06.FlowRenamed", spec := "flowRenamed", unfollowed := true, recurses := true, apart := false }
def FlowRenamedSaid : Prop := flowRenamedRow.holds Try.pinned (OpenSpec.ofChange flowRenamedSpec)

/-- ITS FALSE NEIGHBOUR: 'it returns false'. Refute it at one input. -/
def flowRenamedWrong : ChangeSpec := { name := "flowRenamed", fn := fun _ => fun
  | [d1, d2] => { results := [.lit (.bool false)], args := [d1, d2] }
  | _ => none }
def FlowRenamedWrongFalsely : Prop := flowRenamedRow.holds Try.pinned (OpenSpec.ofChange flowRenamedWrong)

/-- 'vellumlaw06.FlowUnreached': WHATEVER THE INPUT: true; the input reads as it did. -/
def flowUnreachedSpec : ChangeSpec := { name := "flowUnreached", fn := fun _ => fun
  | [d1, d2] => { results := [.lit (.bool true)], args := [d1, d2] }
  | _ => none }
def flowUnreachedRow : OpenClaim := { program := "ytpfinkcnklkclaa", sum := "f967edcc633e3eb6523f17f83cfa5133c0bff6ec34a75667a5700271069fe1ac", func := "vellum/vellumlaw06.FlowUnreached", spec := "flowUnreached", unfollowed := true, recurses := true, apart := false }
def FlowUnreachedSaid : Prop := flowUnreachedRow.holds Try.pinned (OpenSpec.ofChange flowUnreachedSpec)

/-- ITS FALSE NEIGHBOUR: 'it returns false'. Refute it at one input. -/
def flowUnreachedWrong : ChangeSpec := { name := "flowUnreached", fn := fun _ => fun
  | [d1, d2] => { results := [.lit (.bool false)], args := [d1, d2] }
  | _ => none }
def FlowUnreachedWrongFalsely : Prop := flowUnreachedRow.holds Try.pinned (OpenSpec.ofChange flowUnreachedWrong)

/-- 'vellumlaw06.FlowAcyclic': WHATEVER THE INPUT: true; the input reads as it did. -/
def flowAcyclicSpec : ChangeSpec := { name := "flowAcyclic", fn := fun _ => fun
  | [d] => { results := [.lit (.bool true)], args := [d] }
  | _ => none }
def flowAcyclicRow : OpenClaim := { program := "ytpfinkcnklkclaa", sum := "f967edcc633e3eb6523f17f83cfa5133c0bff6ec34a75667a5700271069fe1ac", func := "vellum/vellumlaw06.FlowAcyclic", spec := "flowAcyclic", unfollowed := true, recurses := true, apart := false }
def FlowAcyclicSaid : Prop := flowAcyclicRow.holds Try.pinned (OpenSpec.ofChange flowAcyclicSpec)

/-- ITS FALSE NEIGHBOUR: 'it returns false'. Refute it at one input. -/
def flowAcyclicWrong : ChangeSpec := { name := "flowAcyclic", fn := fun _ => fun
  | [d] => { results := [.lit (.bool false)], args := [d] }
  | _ => none }
def FlowAcyclicWrongFalsely : Prop := flowAcyclicRow.holds Try.pinned (OpenSpec.ofChange flowAcyclicWrong)

/-- 'vellumlaw06.FlowSubdivided': WHATEVER THE INPUT: true; the input reads as it did. -/
def flowSubdividedSpec : ChangeSpec := { name := "flowSubdivided", fn := fun _ => fun
  | [d1, d2] => { results := [.lit (.bool true)], args := [d1, d2] }
  | _ => none }
def flowSubdividedRow : OpenClaim := { program := "ytpfinkcnklkclaa", sum := "f967edcc633e3eb6523f17f83cfa5133c0bff6ec34a75667a5700271069fe1ac", func := "vellum/vellumlaw06.FlowSubdivided", spec := "flowSubdivided", unfollowed := true, recurses := true, apart := false }
def FlowSubdividedSaid : Prop := flowSubdividedRow.holds Try.pinned (OpenSpec.ofChange flowSubdividedSpec)

/-- ITS FALSE NEIGHBOUR: 'it returns false'. Refute it at one input. -/
def flowSubdividedWrong : ChangeSpec := { name := "flowSubdivided", fn := fun _ => fun
  | [d1, d2] => { results := [.lit (.bool false)], args := [d1, d2] }
  | _ => none }
def FlowSubdividedWrongFalsely : Prop := flowSubdividedRow.holds Try.pinned (OpenSpec.ofChange flowSubdividedWrong)

/-- 'vellumlaw06.FlowSwapped': WHATEVER THE INPUT: true; the input reads as it did. -/
def flowSwappedSpec : ChangeSpec := { name := "flowSwapped", fn := fun _ => fun
  | [d] => { results := [.lit (.bool true)], args := [d] }
  | _ => none }
def flowSwappedRow : OpenClaim := { program := "ytpfinkcnklkclaa", sum := "f967edcc633e3eb6523f17f83cfa5133c0bff6ec34a75667a5700271069fe1ac", func := "vellum/vellumlaw06.FlowSwapped", spec := "flowSwapped", unfollowed := true, recurses := true, apart := false }
def FlowSwappedSaid : Prop := flowSwappedRow.holds Try.pinned (OpenSpec.ofChange flowSwappedSpec)

/-- ITS FALSE NEIGHBOUR: 'it returns false'. Refute it at one input. -/
def flowSwappedWrong : ChangeSpec := { name := "flowSwapped", fn := fun _ => fun
  | [d] => { results := [.lit (.bool false)], args := [d] }
  | _ => none }
def FlowSwappedWrongFalsely : Prop := flowSwappedRow.holds Try.pinned (OpenSpec.ofChange flowSwappedWrong)

/-- 'vellumlaw06.FlowKeeps': WHATEVER THE INPUT: true; the input reads as it did. -/
def flowKeepsSpec : ChangeSpec := { name := "flowKeeps", fn := fun _ => fun
  | [d] => { results := [.lit (.bool true)], args := [d] }
  | _ => none }
def flowKeepsRow : OpenClaim := { program := "ytpfinkcnklkclaa", sum := "f967edcc633e3eb6523f17f83cfa5133c0bff6ec34a75667a5700271069fe1ac", func := "vellum/vellumlaw06.FlowKeeps", spec := "flowKeeps", unfollowed := true, recurses := true, apart := false }
def FlowKeepsSaid : Prop := flowKeepsRow.holds Try.pinned (OpenSpec.ofChange flowKeepsSpec)

/-- ITS FALSE NEIGHBOUR: 'it returns false'. Refute it at one input. -/
def flowKeepsWrong : ChangeSpec := { name := "flowKeeps", fn := fun _ => fun
  | [d] => { results := [.lit (.bool false)], args := [d] }
  | _ => none }
def FlowKeepsWrongFalsely : Prop := flowKeepsRow.holds Try.pinned (OpenSpec.ofChange flowKeepsWrong)

/- THE SECOND FORM. 'bulk': how many values and letters a reading holds, each counted each time it is reached (what is shared counts as often as it is met; a slice's spare places count too). A statement '..UptoSaid' is the law's where the arguments, and the package variables that the reading takes, are together of bulk at most 1048576: NARROWER than '..Said'. Prove '..Said' where nothing that the law and all that it calls make is longer than what came in: it says more and counts as full. Else prove '..UptoSaid'. A law counts once. -/
mutual
def uptoBulk {H : Type} : DataW H → Nat
  | .lit (.string bytes) => bytes.length + 1
  | .lit _ => 1
  | .nil => 1
  | .ptr d => uptoBulk d + 1
  | .slice elems spare => uptoBulkAll elems + uptoBulkAll spare + 1
  | .agg parts => uptoBulkAll parts + 1
  | .iface _ d => uptoBulk d + 1
  | .map entries => uptoBulkEntries entries + 1
  | .held _ => 1
def uptoBulkAll {H : Type} : List (DataW H) → Nat
  | [] => 0
  | d :: r => uptoBulk d + uptoBulkAll r
def uptoBulkEntries {H : Type} : List (Lit × DataW H) → Nat
  | [] => 0
  | x :: r => uptoBulkEntry x + uptoBulkEntries r
def uptoBulkEntry {H : Type} : Lit × DataW H → Nat
  | (.string bytes, d) => bytes.length + uptoBulk d + 1
  | (_, d) => uptoBulk d + 1
 end
def uptoSmall : (H : Type) → List (DataW H) → Bool := fun _ ds => decide (uptoBulkAll ds ≤ 1048576)
def OpenSpec.upto (s : _root_.Go.ChangeSpec) : _root_.Go.OpenSpec := { _root_.Go.OpenSpec.ofChange s with cond := some uptoSmall }

/-- 'vellumlaw06.FlowRaw', WHERE WHAT IT READS IS OF BULK AT MOST 1048576: true; the input reads as it did. -/
def flowRawUptoRow : OpenClaim := { program := "ytpfinkcnklkclaa", sum := "f967edcc633e3eb6523f17f83cfa5133c0bff6ec34a75667a5700271069fe1ac", func := "vellum/vellumlaw06.FlowRaw", spec := "flowRaw", unfollowed := true, recurses := true, apart := false, narrowed := true }
def FlowRawUptoSaid : Prop := flowRawUptoRow.holds Try.pinned (OpenSpec.upto flowRawSpec)

/-- 'vellumlaw06.FlowOrder', WHERE WHAT IT READS IS OF BULK AT MOST 1048576: true; the input reads as it did. -/
def flowOrderUptoRow : OpenClaim := { program := "ytpfinkcnklkclaa", sum := "f967edcc633e3eb6523f17f83cfa5133c0bff6ec34a75667a5700271069fe1ac", func := "vellum/vellumlaw06.FlowOrder", spec := "flowOrder", unfollowed := true, recurses := true, apart := false, narrowed := true }
def FlowOrderUptoSaid : Prop := flowOrderUptoRow.holds Try.pinned (OpenSpec.upto flowOrderSpec)

/-- 'vellumlaw06.FlowDominators', WHERE WHAT IT READS IS OF BULK AT MOST 1048576: true; the input reads as it did. -/
def flowDominatorsUptoRow : OpenClaim := { program := "ytpfinkcnklkclaa", sum := "f967edcc633e3eb6523f17f83cfa5133c0bff6ec34a75667a5700271069fe1ac", func := "vellum/vellumlaw06.FlowDominators", spec := "flowDominators", unfollowed := true, recurses := true, apart := false, narrowed := true }
def FlowDominatorsUptoSaid : Prop := flowDominatorsUptoRow.holds Try.pinned (OpenSpec.upto flowDominatorsSpec)

/-- 'vellumlaw06.FlowPaths', WHERE WHAT IT READS IS OF BULK AT MOST 1048576: true; the input reads as it did. -/
def flowPathsUptoRow : OpenClaim := { program := "ytpfinkcnklkclaa", sum := "f967edcc633e3eb6523f17f83cfa5133c0bff6ec34a75667a5700271069fe1ac", func := "vellum/vellumlaw06.FlowPaths", spec := "flowPaths", unfollowed := true, recurses := true, apart := false, narrowed := true }
def FlowPathsUptoSaid : Prop := flowPathsUptoRow.holds Try.pinned (OpenSpec.upto flowPathsSpec)

/-- 'vellumlaw06.FlowLoops', WHERE WHAT IT READS IS OF BULK AT MOST 1048576: true; the input reads as it did. -/
def flowLoopsUptoRow : OpenClaim := { program := "ytpfinkcnklkclaa", sum := "f967edcc633e3eb6523f17f83cfa5133c0bff6ec34a75667a5700271069fe1ac", func := "vellum/vellumlaw06.FlowLoops", spec := "flowLoops", unfollowed := true, recurses := true, apart := false, narrowed := true }
def FlowLoopsUptoSaid : Prop := flowLoopsUptoRow.holds Try.pinned (OpenSpec.upto flowLoopsSpec)

/-- 'vellumlaw06.FlowBodies', WHERE WHAT IT READS IS OF BULK AT MOST 1048576: true; the input reads as it did. -/
def flowBodiesUptoRow : OpenClaim := { program := "ytpfinkcnklkclaa", sum := "f967edcc633e3eb6523f17f83cfa5133c0bff6ec34a75667a5700271069fe1ac", func := "vellum/vellumlaw06.FlowBodies", spec := "flowBodies", unfollowed := true, recurses := true, apart := false, narrowed := true }
def FlowBodiesUptoSaid : Prop := flowBodiesUptoRow.holds Try.pinned (OpenSpec.upto flowBodiesSpec)

/-- 'vellumlaw06.FlowReducible', WHERE WHAT IT READS IS OF BULK AT MOST 1048576: true; the input reads as it did. -/
def flowReducibleUptoRow : OpenClaim := { program := "ytpfinkcnklkclaa", sum := "f967edcc633e3eb6523f17f83cfa5133c0bff6ec34a75667a5700271069fe1ac", func := "vellum/vellumlaw06.FlowReducible", spec := "flowReducible", unfollowed := true, recurses := true, apart := false, narrowed := true }
def FlowReducibleUptoSaid : Prop := flowReducibleUptoRow.holds Try.pinned (OpenSpec.upto flowReducibleSpec)

/-- 'vellumlaw06.FlowRenamed', WHERE WHAT IT READS IS OF BULK AT MOST 1048576: true; the input reads as it did. -/
def flowRenamedUptoRow : OpenClaim := { program := "ytpfinkcnklkclaa", sum := "f967edcc633e3eb6523f17f83cfa5133c0bff6ec34a75667a5700271069fe1ac", func := "vellum/vellumlaw06.FlowRenamed", spec := "flowRenamed", unfollowed := true, recurses := true, apart := false, narrowed := true }
def FlowRenamedUptoSaid : Prop := flowRenamedUptoRow.holds Try.pinned (OpenSpec.upto flowRenamedSpec)

/-- 'vellumlaw06.FlowUnreached', WHERE WHAT IT READS IS OF BULK AT MOST 1048576: true; the input reads as it did. -/
def flowUnreachedUptoRow : OpenClaim := { program := "ytpfinkcnklkclaa", sum := "f967edcc633e3eb6523f17f83cfa5133c0bff6ec34a75667a5700271069fe1ac", func := "vellum/vellumlaw06.FlowUnreached", spec := "flowUnreached", unfollowed := true, recurses := true, apart := false, narrowed := true }
def FlowUnreachedUptoSaid : Prop := flowUnreachedUptoRow.holds Try.pinned (OpenSpec.upto flowUnreachedSpec)

/-- 'vellumlaw06.FlowAcyclic', WHERE WHAT IT READS IS OF BULK AT MOST 1048576: true; the input reads as it did. -/
def flowAcyclicUptoRow : OpenClaim := { program := "ytpfinkcnklkclaa", sum := "f967edcc633e3eb6523f17f83cfa5133c0bff6ec34a75667a5700271069fe1ac", func := "vellum/vellumlaw06.FlowAcyclic", spec := "flowAcyclic", unfollowed := true, recurses := true, apart := false, narrowed := true }
def FlowAcyclicUptoSaid : Prop := flowAcyclicUptoRow.holds Try.pinned (OpenSpec.upto flowAcyclicSpec)

/-- 'vellumlaw06.FlowSubdivided', WHERE WHAT IT READS IS OF BULK AT MOST 1048576: true; the input reads as it did. -/
def flowSubdividedUptoRow : OpenClaim := { program := "ytpfinkcnklkclaa", sum := "f967edcc633e3eb6523f17f83cfa5133c0bff6ec34a75667a5700271069fe1ac", func := "vellum/vellumlaw06.FlowSubdivided", spec := "flowSubdivided", unfollowed := true, recurses := true, apart := false, narrowed := true }
def FlowSubdividedUptoSaid : Prop := flowSubdividedUptoRow.holds Try.pinned (OpenSpec.upto flowSubdividedSpec)

/-- 'vellumlaw06.FlowSwapped', WHERE WHAT IT READS IS OF BULK AT MOST 1048576: true; the input reads as it did. -/
def flowSwappedUptoRow : OpenClaim := { program := "ytpfinkcnklkclaa", sum := "f967edcc633e3eb6523f17f83cfa5133c0bff6ec34a75667a5700271069fe1ac", func := "vellum/vellumlaw06.FlowSwapped", spec := "flowSwapped", unfollowed := true, recurses := true, apart := false, narrowed := true }
def FlowSwappedUptoSaid : Prop := flowSwappedUptoRow.holds Try.pinned (OpenSpec.upto flowSwappedSpec)

/-- 'vellumlaw06.FlowKeeps', WHERE WHAT IT READS IS OF BULK AT MOST 1048576: true; the input reads as it did. -/
def flowKeepsUptoRow : OpenClaim := { program := "ytpfinkcnklkclaa", sum := "f967edcc633e3eb6523f17f83cfa5133c0bff6ec34a75667a5700271069fe1ac", func := "vellum/vellumlaw06.FlowKeeps", spec := "flowKeeps", unfollowed := true, recurses := true, apart := false, narrowed := true }
def FlowKeepsUptoSaid : Prop := flowKeepsUptoRow.holds Try.pinned (OpenSpec.upto flowKeepsSpec)

end Rows
end Go.Proofs.Ytpfinkcnklkclaa
