/-
  No cell of these rows narrows 'for every input' (looked for: loops, veiled, ifaces, maps, wideKeys, modest, calm, conditions, laid).
  DERIVED. THE GIVEN ROWS OF THIS SEAT. 3 by the template 'for every input the law returns true; each argument reads behind the call as it read before'; 0 by the template 'total and deterministic' (their statements: YtoahcpkibpomcaaTotals.lean).
  GIVEN WITH THE SEED: the statements are not yours to turn. If you find one false, say at which input.
  Laid BY PROGRAM, IN A SANDBOX (cutbox-rows.mjs): the forced cells as the released guide's own fill.sh prints them over the translation acb4e94e62f74041… (all of the seat's roots in one cut). By AI agents, Wed Nov 11 2026. No macro, syntax, notation, axiom, sorry.
-/
import Derived.Test.YtoahcpkibpomcaaChecked
import GoSem.Claim
import GoSem.ClaimJoined
import GoSem.ClaimMapViews
import Derived.JoinedTies
import Derived.KernelRfl
namespace Go.Proofs.Ytoahcpkibpomcaa
/- THE CELL 'sum', in the pinned program and in every row, IS THE sha256 OF THE DUMP (.gsa) THAT YtoahcpkibpomcaaProg.lean LOADS. Nothing in Lean hashes anything: it is a label: what it is worth is what the hold of that sum in a sandbox is worth. -/
noncomputable def Try.pinned : Pinned := { name := "ytoahcpkibpomcaa", sum := "acb4e94e62f74041e30c04799051f0d92b8d1bf19bed213e2b1cfa4ad0a1a037", checked := Try.checked }
namespace Rows
def none {H : Type} : Left H := { results := [], args := [] }

/-- 'vellumlaw10.RangesConstants': WHATEVER THE INPUT: true; the input reads as it did. -/
def rangesConstantsSpec : ChangeSpec := { name := "rangesConstants", fn := fun _ => fun
  | [d1, d2] => { results := [.lit (.bool true)], args := [d1, d2] }
  | _ => none }
def rangesConstantsRow : OpenClaim := { program := "ytoahcpkibpomcaa", sum := "acb4e94e62f74041e30c04799051f0d92b8d1bf19bed213e2b1cfa4ad0a1a037", func := "vellum/vellumlaw10.RangesConstants", spec := "rangesConstants", unfollowed := true, recurses := true, apart := false }
def RangesConstantsSaid : Prop := rangesConstantsRow.holds Try.pinned (OpenSpec.ofChange rangesConstantsSpec)

/-- ITS FALSE NEIGHBOUR: 'it returns false'. Refute it at one input. -/
def rangesConstantsWrong : ChangeSpec := { name := "rangesConstants", fn := fun _ => fun
  | [d1, d2] => { results := [.lit (.bool false)], args := [d1, d2] }
  | _ => none }
def RangesConstantsWrongFalsely : Prop := rangesConstantsRow.holds Try.pinned (OpenSpec.ofChange rangesConstantsWrong)

/-- 'vellumlaw10.RangesObjects': WHATEVER THE INPUT: true; the input reads as it did. -/
def rangesObjectsSpec : ChangeSpec := { name := "rangesObjects", fn := fun _ => fun
  | [d1, d2] => { results := [.lit (.bool true)], args := [d1, d2] }
  | _ => none }
def rangesObjectsRow : OpenClaim := { program := "ytoahcpkibpomcaa", sum := "acb4e94e62f74041e30c04799051f0d92b8d1bf19bed213e2b1cfa4ad0a1a037", func := "vellum/vellumlaw10.RangesObjects", spec := "rangesObjects", unfollowed := true, recurses := true, apart := false }
def RangesObjectsSaid : Prop := rangesObjectsRow.holds Try.pinned (OpenSpec.ofChange rangesObjectsSpec)

/-- ITS FALSE NEIGHBOUR: 'it returns false'. Refute it at one input. -/
def rangesObjectsWrong : ChangeSpec := { name := "rangesObjects", fn := fun _ => fun
  | [d1, d2] => { results := [.lit (.bool false)], args := [d1, d2] }
  | _ => none }
def RangesObjectsWrongFalsely : Prop := rangesObjectsRow.holds Try.pinned (OpenSpec.ofChange rangesObjectsWrong)

/-- 'vellumlaw10.RangesMoved': WHATEVER THE INPUT: true; the input reads as it did. -/
def rangesMovedSpec : ChangeSpec := { name := "rangesMoved", fn := fun _ => fun
  | [d1, d2, d3] => { results := [.lit (.bool true)], args := [d1, d2, d3] }
  | _ => none }
def rangesMovedRow : OpenClaim := { program := "ytoahcpkibpomcaa", sum := "acb4e94e62f74041e30c04799051f0d92b8d1bf19bed213e2b1cfa4ad0a1a037", func := "vellum/vellumlaw10.RangesMoved", spec := "rangesMoved", unfollowed := true, recurses := true, apart := false }
def RangesMovedSaid : Prop := rangesMovedRow.holds Try.pinned (OpenSpec.ofChange rangesMovedSpec)

/-- ITS FALSE NEIGHBOUR: 'it returns false'. Refute it at one input. -/
def rangesMovedWrong : ChangeSpec := { name := "rangesMoved", fn := fun _ => fun
  | [d1, d2, d3] => { results := [.lit (.bool false)], args := [d1, d2, d3] }
  | _ => none }
def RangesMovedWrongFalsely : Prop := rangesMovedRow.holds Try.pinned (OpenSpec.ofChange rangesMovedWrong)

/- THE SECOND FORM. 'bulk': how many values and letters a reading holds, each counted each time it is reached (what is shared counts as often as it is met; a slice's spare places count too). A statement '..UptoSaid' is the law's where the arguments, and the package variables that the reading takes, are together of bulk at most 1048576: NARROWER than '..Said'. Prove '..Said' where nothing that the law and all that it calls make is longer than what came in: it says more and counts as full. Else prove '..UptoSaid'. A law counts once. -/
mutual
def uptoBulk {H : Type} : DataW H → Nat
  | .lit (.string bytes) => bytes.length + 1
  | .lit _ => 1
  | .nil => 1
  | .ptr d => uptoBulk d + 1
  | .slice elems spare => uptoBulkAll elems + uptoBulkAll spare + 1
  | .agg parts => uptoBulkAll parts + 1
  | .iface _ d => uptoBulk d + 1
  | .map entries => uptoBulkEntries entries + 1
  | .held _ => 1
def uptoBulkAll {H : Type} : List (DataW H) → Nat
  | [] => 0
  | d :: r => uptoBulk d + uptoBulkAll r
def uptoBulkEntries {H : Type} : List (Lit × DataW H) → Nat
  | [] => 0
  | x :: r => uptoBulkEntry x + uptoBulkEntries r
def uptoBulkEntry {H : Type} : Lit × DataW H → Nat
  | (.string bytes, d) => bytes.length + uptoBulk d + 1
  | (_, d) => uptoBulk d + 1
 end
def uptoSmall : (H : Type) → List (DataW H) → Bool := fun _ ds => decide (uptoBulkAll ds ≤ 1048576)
def OpenSpec.upto (s : _root_.Go.ChangeSpec) : _root_.Go.OpenSpec := { _root_.Go.OpenSpec.ofChange s with cond := some uptoSmall }

/-- 'vellumlaw10.RangesConstants', WHERE WHAT IT READS IS OF BULK AT MOST 1048576: true; the input reads as it did. -/
def rangesConstantsUptoRow : OpenClaim := { program := "ytoahcpkibpomcaa", sum := "acb4e94e62f74041e30c04799051f0d92b8d1bf19bed213e2b1cfa4ad0a1a037", func := "vellum/vellumlaw10.RangesConstants", spec := "rangesConstants", unfollowed := true, recurses := true, apart := false, narrowed := true }
def RangesConstantsUptoSaid : Prop := rangesConstantsUptoRow.holds Try.pinned (OpenSpec.upto rangesConstantsSpec)

/-- 'vellumlaw10.RangesObjects', WHERE WHAT IT READS IS OF BULK AT MOST 1048576: true; the input reads as it did. -/
def rangesObjectsUptoRow : OpenClaim := { program := "ytoahcpkibpomcaa", sum := "acb4e94e62f74041e30c04799051f0d92b8d1bf19bed213e2b1cfa4ad0a1a037", func := "vellum/vellumlaw10.RangesObjects", spec := "rangesObjects", unfollowed := true, recurses := true, apart := false, narrowed := true }
def RangesObjectsUptoSaid : Prop := rangesObjectsUptoRow.holds Try.pinned (OpenSpec.upto rangesObjectsSpec)

/-- 'vellumlaw10.RangesMoved', WHERE WHAT IT READS IS OF BULK AT MOST 1048576: true; the input reads as it did. -/
def rangesMovedUptoRow : OpenClaim := { program := "ytoahcpkibpomcaa", sum := "acb4e94e62f74041e30c04799051f0d92b8d1bf19bed213e2b1cfa4ad0a1a037", func := "vellum/vellumlaw10.RangesMoved", spec := "rangesMoved", unfollowed := true, recurses := true, apart := false, narrowed := true }
def RangesMovedUptoSaid : Prop := rangesMovedUptoRow.holds Try.pinned (OpenSpec.upto rangesMovedSpec)

end Rows
end Go.Proofs.Ytoahcpkibpomcaa
