/-
  No cell of these rows narrows 'for every input' (looked for: loops, veiled, ifaces, maps, wideKeys, modest, calm, conditions, laid).
  DERIVED. THE GIVEN ROWS OF THIS SEAT. 8 by the template 'for every input the law returns true; each argument reads behind the call as it read before'; 0 by the template 'total and deterministic' (their statements: YtoahcpkibpomcaaGreatTotals.lean).
  GIVEN WITH THE SEED: the statements are not yours to turn. If you find one false, say at which input.
  Laid BY PROGRAM, IN A SANDBOX (cutbox-rows.mjs): the forced cells as the released guide's own fill.sh prints them over the translation a199537b5243cfd8… (all of the seat's roots in one cut). By AI agents, Wed Nov 11 2026. No macro, syntax, notation, axiom, sorry.
-/
import Derived.Test.YtoahcpkibpomcaaGreatChecked
import GoSem.Claim
import GoSem.ClaimJoined
import GoSem.ClaimMapViews
import Derived.JoinedTies
import Derived.KernelRfl
namespace Go.Proofs.YtoahcpkibpomcaaGreat
/- THE CELL 'sum', in the pinned program and in every row, IS THE sha256 OF THE DUMP (.gsa) THAT YtoahcpkibpomcaaGreatProg.lean LOADS. Nothing in Lean hashes anything: it is a label: what it is worth is what the hold of that sum in a sandbox is worth. -/
noncomputable def Tryz.pinned : Pinned := { name := "ytoahcpkibpomcaagreat", sum := "a199537b5243cfd879ab46fa50d4977f1177158a370eb8cd5bb4054a1498cae1", checked := Tryz.checked }
namespace Rows
def none {H : Type} : Left H := { results := [], args := [] }

/-- 'vellumlaw10.RangesInvalid': WHATEVER THE INPUT: true; the input reads as it did. -/
def rangesInvalidSpec : ChangeSpec := { name := "rangesInvalid", fn := fun _ => fun
  | [d1, d2, d3] => { results := [.lit (.bool true)], args := [d1, d2, d3] }
  | _ => none }
def rangesInvalidRow : OpenClaim := { program := "ytoahcpkibpomcaagreat", sum := "a199537b5243cfd879ab46fa50d4977f1177158a370eb8cd5bb4054a1498cae1", func := "vellum/vellumlaw10.RangesInvalid", spec := "rangesInvalid", unfollowed := true, recurses := true, apart := false }
def RangesInvalidSaid : Prop := rangesInvalidRow.holds Tryz.pinned (OpenSpec.ofChange rangesInvalidSpec)

/-- ITS FALSE NEIGHBOUR: 'it returns false'. Refute it at one input. -/
def rangesInvalidWrong : ChangeSpec := { name := "rangesInvalid", fn := fun _ => fun
  | [d1, d2, d3] => { results := [.lit (.bool false)], args := [d1, d2, d3] }
  | _ => none }
def RangesInvalidWrongFalsely : Prop := rangesInvalidRow.holds Tryz.pinned (OpenSpec.ofChange rangesInvalidWrong)

/-- 'vellumlaw10.RangesKeeps': WHATEVER THE INPUT: true; the input reads as it did. -/
def rangesKeepsSpec : ChangeSpec := { name := "rangesKeeps", fn := fun _ => fun
  | [d1, d2, d3] => { results := [.lit (.bool true)], args := [d1, d2, d3] }
  | _ => none }
def rangesKeepsRow : OpenClaim := { program := "ytoahcpkibpomcaagreat", sum := "a199537b5243cfd879ab46fa50d4977f1177158a370eb8cd5bb4054a1498cae1", func := "vellum/vellumlaw10.RangesKeeps", spec := "rangesKeeps", unfollowed := true, recurses := true, apart := false }
def RangesKeepsSaid : Prop := rangesKeepsRow.holds Tryz.pinned (OpenSpec.ofChange rangesKeepsSpec)

/-- ITS FALSE NEIGHBOUR: 'it returns false'. Refute it at one input. -/
def rangesKeepsWrong : ChangeSpec := { name := "rangesKeeps", fn := fun _ => fun
  | [d1, d2, d3] => { results := [.lit (.bool false)], args := [d1, d2, d3] }
  | _ => none }
def RangesKeepsWrongFalsely : Prop := rangesKeepsRow.holds Tryz.pinned (OpenSpec.ofChange rangesKeepsWrong)

/-- 'vellumlaw10.RangesSound': WHATEVER THE INPUT: true; the input reads as it did. -/
def rangesSoundSpec : ChangeSpec := { name := "rangesSound", fn := fun _ => fun
  | [d1, d2] => { results := [.lit (.bool true)], args := [d1, d2] }
  | _ => none }
def rangesSoundRow : OpenClaim := { program := "ytoahcpkibpomcaagreat", sum := "a199537b5243cfd879ab46fa50d4977f1177158a370eb8cd5bb4054a1498cae1", func := "vellum/vellumlaw10.RangesSound", spec := "rangesSound", unfollowed := true, recurses := true, apart := false }
def RangesSoundSaid : Prop := rangesSoundRow.holds Tryz.pinned (OpenSpec.ofChange rangesSoundSpec)

/-- ITS FALSE NEIGHBOUR: 'it returns false'. Refute it at one input. -/
def rangesSoundWrong : ChangeSpec := { name := "rangesSound", fn := fun _ => fun
  | [d1, d2] => { results := [.lit (.bool false)], args := [d1, d2] }
  | _ => none }
def RangesSoundWrongFalsely : Prop := rangesSoundRow.holds Tryz.pinned (OpenSpec.ofChange rangesSoundWrong)

/-- 'vellumlaw10.RangesArguments': WHATEVER THE INPUT: true; the input reads as it did. -/
def rangesArgumentsSpec : ChangeSpec := { name := "rangesArguments", fn := fun _ => fun
  | [d1, d2, d3] => { results := [.lit (.bool true)], args := [d1, d2, d3] }
  | _ => none }
def rangesArgumentsRow : OpenClaim := { program := "ytoahcpkibpomcaagreat", sum := "a199537b5243cfd879ab46fa50d4977f1177158a370eb8cd5bb4054a1498cae1", func := "vellum/vellumlaw10.RangesArguments", spec := "rangesArguments", unfollowed := true, recurses := true, apart := false }
def RangesArgumentsSaid : Prop := rangesArgumentsRow.holds Tryz.pinned (OpenSpec.ofChange rangesArgumentsSpec)

/-- ITS FALSE NEIGHBOUR: 'it returns false'. Refute it at one input. -/
def rangesArgumentsWrong : ChangeSpec := { name := "rangesArguments", fn := fun _ => fun
  | [d1, d2, d3] => { results := [.lit (.bool false)], args := [d1, d2, d3] }
  | _ => none }
def RangesArgumentsWrongFalsely : Prop := rangesArgumentsRow.holds Tryz.pinned (OpenSpec.ofChange rangesArgumentsWrong)

/-- 'vellumlaw10.RangesPrecise': WHATEVER THE INPUT: true; the input reads as it did. -/
def rangesPreciseSpec : ChangeSpec := { name := "rangesPrecise", fn := fun _ => fun
  | [d1, d2] => { results := [.lit (.bool true)], args := [d1, d2] }
  | _ => none }
def rangesPreciseRow : OpenClaim := { program := "ytoahcpkibpomcaagreat", sum := "a199537b5243cfd879ab46fa50d4977f1177158a370eb8cd5bb4054a1498cae1", func := "vellum/vellumlaw10.RangesPrecise", spec := "rangesPrecise", unfollowed := true, recurses := true, apart := false }
def RangesPreciseSaid : Prop := rangesPreciseRow.holds Tryz.pinned (OpenSpec.ofChange rangesPreciseSpec)

/-- ITS FALSE NEIGHBOUR: 'it returns false'. Refute it at one input. -/
def rangesPreciseWrong : ChangeSpec := { name := "rangesPrecise", fn := fun _ => fun
  | [d1, d2] => { results := [.lit (.bool false)], args := [d1, d2] }
  | _ => none }
def RangesPreciseWrongFalsely : Prop := rangesPreciseRow.holds Tryz.pinned (OpenSpec.ofChange rangesPreciseWrong)

/-- 'vellumlaw10.RangesRules': WHATEVER THE INPUT: true; the input reads as it did. -/
def rangesRulesSpec : ChangeSpec := { name := "rangesRules", fn := fun _ => fun
  | [d1, d2, d3] => { results := [.lit (.bool true)], args := [d1, d2, d3] }
  | _ => none }
def rangesRulesRow : OpenClaim := { program := "ytoahcpkibpomcaagreat", sum := "a199537b5243cfd879ab46fa50d4977f1177158a370eb8cd5bb4054a1498cae1", func := "vellum/vellumlaw10.RangesRules", spec := "rangesRules", unfollowed := true, recurses := true, apart := false }
def RangesRulesSaid : Prop := rangesRulesRow.holds Tryz.pinned (OpenSpec.ofChange rangesRulesSpec)

/-- ITS FALSE NEIGHBOUR: 'it returns false'. Refute it at one input. -/
def rangesRulesWrong : ChangeSpec := { name := "rangesRules", fn := fun _ => fun
  | [d1, d2, d3] => { results := [.lit (.bool false)], args := [d1, d2, d3] }
  | _ => none }
def RangesRulesWrongFalsely : Prop := rangesRulesRow.holds Tryz.pinned (OpenSpec.ofChange rangesRulesWrong)

/-- 'vellumlaw10.RangesLoops': WHATEVER THE INPUT: true; the input reads as it did. -/
def rangesLoopsSpec : ChangeSpec := { name := "rangesLoops", fn := fun _ => fun
  | [d1, d2, d3] => { results := [.lit (.bool true)], args := [d1, d2, d3] }
  | _ => none }
def rangesLoopsRow : OpenClaim := { program := "ytoahcpkibpomcaagreat", sum := "a199537b5243cfd879ab46fa50d4977f1177158a370eb8cd5bb4054a1498cae1", func := "vellum/vellumlaw10.RangesLoops", spec := "rangesLoops", unfollowed := true, recurses := true, apart := false }
def RangesLoopsSaid : Prop := rangesLoopsRow.holds Tryz.pinned (OpenSpec.ofChange rangesLoopsSpec)

/-- ITS FALSE NEIGHBOUR: 'it returns false'. Refute it at one input. -/
def rangesLoopsWrong : ChangeSpec := { name := "rangesLoops", fn := fun _ => fun
  | [d1, d2, d3] => { results := [.lit (.bool false)], args := [d1, d2, d3] }
  | _ => none }
def RangesLoopsWrongFalsely : Prop := rangesLoopsRow.holds Tryz.pinned (OpenSpec.ofChange rangesLoopsWrong)

/-- 'vellumlaw10.RangesRenamed': WHATEVER THE INPUT: true; the input reads as it did. -/
def rangesRenamedSpec : ChangeSpec := { name := "rangesRenamed", fn := fun _ => fun
  | [d1, d2] => { results := [.lit (.bool true)], args := [d1, d2] }
  | _ => none }
def rangesRenamedRow : OpenClaim := { program := "ytoahcpkibpomcaagreat", sum := "a199537b5243cfd879ab46fa50d4977f1177158a370eb8cd5bb4054a1498cae1", func := "vellum/vellumlaw10.RangesRenamed", spec := "rangesRenamed", unfollowed := true, recurses := true, apart := false }
def RangesRenamedSaid : Prop := rangesRenamedRow.holds Tryz.pinned (OpenSpec.ofChange rangesRenamedSpec)

/-- ITS FALSE NEIGHBOUR: 'it returns false'. Refute it at one input. -/
def rangesRenamedWrong : ChangeSpec := { name := "rangesRenamed", fn := fun _ => fun
  | [d1, d2] => { results := [.lit (.bool false)], args := [d1, d2] }
  | _ => none }
def RangesRenamedWrongFalsely : Prop := rangesRenamedRow.holds Tryz.pinned (OpenSpec.ofChange rangesRenamedWrong)

/- THE SECOND FORM. 'bulk': how many values and letters a reading holds, each counted each time it is reached (what is shared counts as often as it is met; a slice's spare places count too). A statement '..UptoSaid' is the law's where the arguments, and the package variables that the reading takes, are together of bulk at most 1048576: NARROWER than '..Said'. Prove '..Said' where nothing that the law and all that it calls make is longer than what came in: it says more and counts as full. Else prove '..UptoSaid'. A law counts once. -/
mutual
def uptoBulk {H : Type} : DataW H → Nat
  | .lit (.string bytes) => bytes.length + 1
  | .lit _ => 1
  | .nil => 1
  | .ptr d => uptoBulk d + 1
  | .slice elems spare => uptoBulkAll elems + uptoBulkAll spare + 1
  | .agg parts => uptoBulkAll parts + 1
  | .iface _ d => uptoBulk d + 1
  | .map entries => uptoBulkEntries entries + 1
  | .held _ => 1
def uptoBulkAll {H : Type} : List (DataW H) → Nat
  | [] => 0
  | d :: r => uptoBulk d + uptoBulkAll r
def uptoBulkEntries {H : Type} : List (Lit × DataW H) → Nat
  | [] => 0
  | x :: r => uptoBulkEntry x + uptoBulkEntries r
def uptoBulkEntry {H : Type} : Lit × DataW H → Nat
  | (.string bytes, d) => bytes.length + uptoBulk d + 1
  | (_, d) => uptoBulk d + 1
 end
def uptoSmall : (H : Type) → List (DataW H) → Bool := fun _ ds => decide (uptoBulkAll ds ≤ 1048576)
def OpenSpec.upto (s : _root_.Go.ChangeSpec) : _root_.Go.OpenSpec := { _root_.Go.OpenSpec.ofChange s with cond := some uptoSmall }

/-- 'vellumlaw10.RangesInvalid', WHERE WHAT IT READS IS OF BULK AT MOST 1048576: true; the input reads as it did. -/
def rangesInvalidUptoRow : OpenClaim := { program := "ytoahcpkibpomcaagreat", sum := "a199537b5243cfd879ab46fa50d4977f1177158a370eb8cd5bb4054a1498cae1", func := "vellum/vellumlaw10.RangesInvalid", spec := "rangesInvalid", unfollowed := true, recurses := true, apart := false, narrowed := true }
def RangesInvalidUptoSaid : Prop := rangesInvalidUptoRow.holds Tryz.pinned (OpenSpec.upto rangesInvalidSpec)

/-- 'vellumlaw10.RangesKeeps', WHERE WHAT IT READS IS OF BULK AT MOST 1048576: true; the input reads as it did. -/
def rangesKeepsUptoRow : OpenClaim := { program := "ytoahcpkibpomcaagreat", sum := "a199537b5243cfd879ab46fa50d4977f1177158a370eb8cd5bb4054a1498cae1", func := "vellum/vellumlaw10.RangesKeeps", spec := "rangesKeeps", unfollowed := true, recurses := true, apart := false, narrowed := true }
def RangesKeepsUptoSaid : Prop := rangesKeepsUptoRow.holds Tryz.pinned (OpenSpec.upto rangesKeepsSpec)

/-- 'vellumlaw10.RangesSound', WHERE WHAT IT READS IS OF BULK AT MOST 1048576: true; the input reads as it did. -/
def rangesSoundUptoRow : OpenClaim := { program := "ytoahcpkibpomcaagreat", sum := "a199537b5243cfd879ab46fa50d4977f1177158a370eb8cd5bb4054a1498cae1", func := "vellum/vellumlaw10.RangesSound", spec := "rangesSound", unfollowed := true, recurses := true, apart := false, narrowed := true }
def RangesSoundUptoSaid : Prop := rangesSoundUptoRow.holds Tryz.pinned (OpenSpec.upto rangesSoundSpec)

/-- 'vellumlaw10.RangesArguments', WHERE WHAT IT READS IS OF BULK AT MOST 1048576: true; the input reads as it did. -/
def rangesArgumentsUptoRow : OpenClaim := { program := "ytoahcpkibpomcaagreat", sum := "a199537b5243cfd879ab46fa50d4977f1177158a370eb8cd5bb4054a1498cae1", func := "vellum/vellumlaw10.RangesArguments", spec := "rangesArguments", unfollowed := true, recurses := true, apart := false, narrowed := true }
def RangesArgumentsUptoSaid : Prop := rangesArgumentsUptoRow.holds Tryz.pinned (OpenSpec.upto rangesArgumentsSpec)

/-- 'vellumlaw10.RangesPrecise', WHERE WHAT IT READS IS OF BULK AT MOST 1048576: true; the input reads as it did. -/
def rangesPreciseUptoRow : OpenClaim := { program := "ytoahcpkibpomcaagreat", sum := "a199537b5243cfd879ab46fa50d4977f1177158a370eb8cd5bb4054a1498cae1", func := "vellum/vellumlaw10.RangesPrecise", spec := "rangesPrecise", unfollowed := true, recurses := true, apart := false, narrowed := true }
def RangesPreciseUptoSaid : Prop := rangesPreciseUptoRow.holds Tryz.pinned (OpenSpec.upto rangesPreciseSpec)

/-- 'vellumlaw10.RangesRules', WHERE WHAT IT READS IS OF BULK AT MOST 1048576: true; the input reads as it did. -/
def rangesRulesUptoRow : OpenClaim := { program := "ytoahcpkibpomcaagreat", sum := "a199537b5243cfd879ab46fa50d4977f1177158a370eb8cd5bb4054a1498cae1", func := "vellum/vellumlaw10.RangesRules", spec := "rangesRules", unfollowed := true, recurses := true, apart := false, narrowed := true }
def RangesRulesUptoSaid : Prop := rangesRulesUptoRow.holds Tryz.pinned (OpenSpec.upto rangesRulesSpec)

/-- 'vellumlaw10.RangesLoops', WHERE WHAT IT READS IS OF BULK AT MOST 1048576: true; the input reads as it did. -/
def rangesLoopsUptoRow : OpenClaim := { program := "ytoahcpkibpomcaagreat", sum := "a199537b5243cfd879ab46fa50d4977f1177158a370eb8cd5bb4054a1498cae1", func := "vellum/vellumlaw10.RangesLoops", spec := "rangesLoops", unfollowed := true, recurses := true, apart := false, narrowed := true }
def RangesLoopsUptoSaid : Prop := rangesLoopsUptoRow.holds Tryz.pinned (OpenSpec.upto rangesLoopsSpec)

/-- 'vellumlaw10.RangesRenamed', WHERE WHAT IT READS IS OF BULK AT MOST 1048576: true; the input reads as it did. -/
def rangesRenamedUptoRow : OpenClaim := { program := "ytoahcpkibpomcaagreat", sum := "a199537b5243cfd879ab46fa50d4977f1177158a370eb8cd5bb4054a1498cae1", func := "vellum/vellumlaw10.RangesRenamed", spec := "rangesRenamed", unfollowed := true, recurses := true, apart := false, narrowed := true }
def RangesRenamedUptoSaid : Prop := rangesRenamedUptoRow.holds Tryz.pinned (OpenSpec.upto rangesRenamedSpec)

end Rows
end Go.Proofs.YtoahcpkibpomcaaGreat
