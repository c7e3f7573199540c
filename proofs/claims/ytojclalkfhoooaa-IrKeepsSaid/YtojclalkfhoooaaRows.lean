/-
  No cell of these rows narrows 'for every input' (looked for: loops, veiled, ifaces, maps, wideKeys, modest, calm, conditions, laid).
  DERIVED. THE GIVEN ROWS OF THIS SEAT. 14 by the template 'for every input the law returns true; each argument reads behind the call as it read before'; 0 by the template 'total and deterministic' (their statements: YtojclalkfhoooaaTotals.lean).
  GIVEN WITH THE SEED: the statements are not yours to turn. If you find one false, say at which input.
  Laid BY PROGRAM, IN A SANDBOX (cutbox-rows.mjs): the forced cells as the released guide's own fill.sh prints them over the translation e6eee55433c4b6aa… (all of the seat's roots in one cut). By AI agents, Wed Nov 11 2026. No macro, syntax, notation, axiom, sorry.
-/
import Derived.Test.YtojclalkfhoooaaChecked
import GoSem.Claim
import GoSem.ClaimJoined
import GoSem.ClaimMapViews
import Derived.JoinedTies
import Derived.KernelRfl
namespace Go.Proofs.Ytojclalkfhoooaa
/- THE CELL 'sum', in the pinned program and in every row, IS THE sha256 OF THE DUMP (.gsa) THAT YtojclalkfhoooaaProg.lean LOADS. Nothing in Lean hashes anything: it is a label: what it is worth is what the hold of that sum in a sandbox is worth. -/
noncomputable def Try.pinned : Pinned := { name := "ytojclalkfhoooaa", sum := "e6eee55433c4b6aa3f5509fafe72afa553645cfaee3441fe8124b458a1973d12", checked := Try.checked }
namespace Rows
def none {H : Type} : Left H := { results := [], args := [] }

/-- 'vellumlaw07.IrValid': WHATEVER THE INPUT: true; the input reads as it did. -/
def irValidSpec : ChangeSpec := { name := "irValid", fn := fun _ => fun
  | [d1, d2, d3] => { results := [.lit (.bool true)], args := [d1, d2, d3] }
  | _ => none }
def irValidRow : OpenClaim := { program := "ytojclalkfhoooaa", sum := "e6eee55433c4b6aa3f5509fafe72afa553645cfaee3441fe8124b458a1973d12", func := "vellum/vellumlaw07.IrValid", spec := "irValid", unfollowed := true, recurses := true, apart := false }
def IrValidSaid : Prop := irValidRow.holds Try.pinned (OpenSpec.ofChange irValidSpec)

/-- ITS FALSE NEIGHBOUR: 'it returns false'. Refute it at one input. -/
def irValidWrong : ChangeSpec := { name := "irValid", fn := fun _ => fun
  | [d1, d2, d3] => { results := [.lit (.bool false)], args := [d1, d2, d3] }
  | _ => none }
def IrValidWrongFalsely : Prop := irValidRow.holds Try.pinned (OpenSpec.ofChange irValidWrong)

/-- 'vellumlaw07.IrRaw': WHATEVER THE INPUT: true; the input reads as it did. -/
def irRawSpec : ChangeSpec := { name := "irRaw", fn := fun _ => fun
  | [d1, d2, d3] => { results := [.lit (.bool true)], args := [d1, d2, d3] }
  | _ => none }
def irRawRow : OpenClaim := { program := "ytojclalkfhoooaa", sum := "e6eee55433c4b6aa3f5509fafe72afa553645cfaee3441fe8124b458a1973d12", func := "vellum/vellumlaw07.IrRaw", spec := "irRaw", unfollowed := true, recurses := true, apart := false }
def IrRawSaid : Prop := irRawRow.holds Try.pinned (OpenSpec.ofChange irRawSpec)

/-- ITS FALSE NEIGHBOUR: 'it returns false'. Refute it at one input. -/
def irRawWrong : ChangeSpec := { name := "irRaw", fn := fun _ => fun
  | [d1, d2, d3] => { results := [.lit (.bool false)], args := [d1, d2, d3] }
  | _ => none }
def IrRawWrongFalsely : Prop := irRawRow.holds Try.pinned (OpenSpec.ofChange irRawWrong)

/-- 'vellumlaw07.IrEvals': WHATEVER THE INPUT: true; the input reads as it did. -/
def irEvalsSpec : ChangeSpec := { name := "irEvals", fn := fun _ => fun
  | [d1, d2, d3] => { results := [.lit (.bool true)], args := [d1, d2, d3] }
  | _ => none }
def irEvalsRow : OpenClaim := { program := "ytojclalkfhoooaa", sum := "e6eee55433c4b6aa3f5509fafe72afa553645cfaee3441fe8124b458a1973d12", func := "vellum/vellumlaw07.IrEvals", spec := "irEvals", unfollowed := true, recurses := true, apart := false }
def IrEvalsSaid : Prop := irEvalsRow.holds Try.pinned (OpenSpec.ofChange irEvalsSpec)

/-- ITS FALSE NEIGHBOUR: 'it returns false'. Refute it at one input. -/
def irEvalsWrong : ChangeSpec := { name := "irEvals", fn := fun _ => fun
  | [d1, d2, d3] => { results := [.lit (.bool false)], args := [d1, d2, d3] }
  | _ => none }
def IrEvalsWrongFalsely : Prop := irEvalsRow.holds Try.pinned (OpenSpec.ofChange irEvalsWrong)

/-- 'vellumlaw07.IrInvalid': WHATEVER THE INPUT: true; the input reads as it did. -/
def irInvalidSpec : ChangeSpec := { name := "irInvalid", fn := fun _ => fun
  | [d1, d2, d3] => { results := [.lit (.bool true)], args := [d1, d2, d3] }
  | _ => none }
def irInvalidRow : OpenClaim := { program := "ytojclalkfhoooaa", sum := "e6eee55433c4b6aa3f5509fafe72afa553645cfaee3441fe8124b458a1973d12", func := "vellum/vellumlaw07.IrInvalid", spec := "irInvalid", unfollowed := true, recurses := true, apart := false }
def IrInvalidSaid : Prop := irInvalidRow.holds Try.pinned (OpenSpec.ofChange irInvalidSpec)

/-- ITS FALSE NEIGHBOUR: 'it returns false'. Refute it at one input. -/
def irInvalidWrong : ChangeSpec := { name := "irInvalid", fn := fun _ => fun
  | [d1, d2, d3] => { results := [.lit (.bool false)], args := [d1, d2, d3] }
  | _ => none }
def IrInvalidWrongFalsely : Prop := irInvalidRow.holds Try.pinned (OpenSpec.ofChange irInvalidWrong)

/-- 'vellumlaw07.IrFuel': WHATEVER THE INPUT: true; the input reads as it did. -/
def irFuelSpec : ChangeSpec := { name := "irFuel", fn := fun _ => fun
  | [d1, d2, d3] => { results := [.lit (.bool true)], args := [d1, d2, d3] }
  | _ => none }
def irFuelRow : OpenClaim := { program := "ytojclalkfhoooaa", sum := "e6eee55433c4b6aa3f5509fafe72afa553645cfaee3441fe8124b458a1973d12", func := "vellum/vellumlaw07.IrFuel", spec := "irFuel", unfollowed := true, recurses := true, apart := false }
def IrFuelSaid : Prop := irFuelRow.holds Try.pinned (OpenSpec.ofChange irFuelSpec)

/-- ITS FALSE NEIGHBOUR: 'it returns false'. Refute it at one input. -/
def irFuelWrong : ChangeSpec := { name := "irFuel", fn := fun _ => fun
  | [d1, d2, d3] => { results := [.lit (.bool false)], args := [d1, d2, d3] }
  | _ => none }
def IrFuelWrongFalsely : Prop := irFuelRow.holds Try.pinned (OpenSpec.ofChange irFuelWrong)

/-- 'vellumlaw07.IrRenamed': WHATEVER THE INPUT: true; the input reads as it did. -/
def irRenamedSpec : ChangeSpec := { name := "irRenamed", fn := fun _ => fun
  | [d1, d2, d3] => { results := [.lit (.bool true)], args := [d1, d2, d3] }
  | _ => none }
def irRenamedRow : OpenClaim := { program := "ytojclalkfhoooaa", sum := "e6eee55433c4b6aa3f5509fafe72afa553645cfaee3441fe8124b458a1973d12", func := "vellum/vellumlaw07.IrRenamed", spec := "irRenamed", unfollowed := true, recurses := true, apart := false }
def IrRenamedSaid : Prop := irRenamedRow.holds Try.pinned (OpenSpec.ofChange irRenamedSpec)

/-- ITS FALSE NEIGHBOUR: 'it returns false'. Refute it at one input. -/
def irRenamedWrong : ChangeSpec := { name := "irRenamed", fn := fun _ => fun
  | [d1, d2, d3] => { results := [.lit (.bool false)], args := [d1, d2, d3] }
  | _ => none }
def IrRenamedWrongFalsely : Prop := irRenamedRow.holds Try.pinned (OpenSpec.ofChange irRenamedWrong)

/-- 'vellumlaw07.IrCalls': WHATEVER THE INPUT: true; the input reads as it did. -/
def irCallsSpec : ChangeSpec := { name := "irCalls", fn := fun _ => fun
  | [d1, d2, d3] => { results := [.lit (.bool true)], args := [d1, d2, d3] }
  | _ => none }
def irCallsRow : OpenClaim := { program := "ytojclalkfhoooaa", sum := "e6eee55433c4b6aa3f5509fafe72afa553645cfaee3441fe8124b458a1973d12", func := "vellum/vellumlaw07.IrCalls", spec := "irCalls", unfollowed := true, recurses := true, apart := false }
def IrCallsSaid : Prop := irCallsRow.holds Try.pinned (OpenSpec.ofChange irCallsSpec)

/-- ITS FALSE NEIGHBOUR: 'it returns false'. Refute it at one input. -/
def irCallsWrong : ChangeSpec := { name := "irCalls", fn := fun _ => fun
  | [d1, d2, d3] => { results := [.lit (.bool false)], args := [d1, d2, d3] }
  | _ => none }
def IrCallsWrongFalsely : Prop := irCallsRow.holds Try.pinned (OpenSpec.ofChange irCallsWrong)

/-- 'vellumlaw07.IrDepth': WHATEVER THE INPUT: true; the input reads as it did. -/
def irDepthSpec : ChangeSpec := { name := "irDepth", fn := fun _ => fun
  | [d] => { results := [.lit (.bool true)], args := [d] }
  | _ => none }
def irDepthRow : OpenClaim := { program := "ytojclalkfhoooaa", sum := "e6eee55433c4b6aa3f5509fafe72afa553645cfaee3441fe8124b458a1973d12", func := "vellum/vellumlaw07.IrDepth", spec := "irDepth", unfollowed := true, recurses := true, apart := false }
def IrDepthSaid : Prop := irDepthRow.holds Try.pinned (OpenSpec.ofChange irDepthSpec)

/-- ITS FALSE NEIGHBOUR: 'it returns false'. Refute it at one input. -/
def irDepthWrong : ChangeSpec := { name := "irDepth", fn := fun _ => fun
  | [d] => { results := [.lit (.bool false)], args := [d] }
  | _ => none }
def IrDepthWrongFalsely : Prop := irDepthRow.holds Try.pinned (OpenSpec.ofChange irDepthWrong)

/-- 'vellumlaw07.IrMemory': WHATEVER THE INPUT: true; the input reads as it did. -/
def irMemorySpec : ChangeSpec := { name := "irMemory", fn := fun _ => fun
  | [d1, d2, d3] => { results := [.lit (.bool true)], args := [d1, d2, d3] }
  | _ => none }
def irMemoryRow : OpenClaim := { program := "ytojclalkfhoooaa", sum := "e6eee55433c4b6aa3f5509fafe72afa553645cfaee3441fe8124b458a1973d12", func := "vellum/vellumlaw07.IrMemory", spec := "irMemory", unfollowed := true, recurses := true, apart := false }
def IrMemorySaid : Prop := irMemoryRow.holds Try.pinned (OpenSpec.ofChange irMemorySpec)

/-- ITS FALSE NEIGHBOUR: 'it returns false'. Refute it at one input. -/
def irMemoryWrong : ChangeSpec := { name := "irMemory", fn := fun _ => fun
  | [d1, d2, d3] => { results := [.lit (.bool false)], args := [d1, d2, d3] }
  | _ => none }
def IrMemoryWrongFalsely : Prop := irMemoryRow.holds Try.pinned (OpenSpec.ofChange irMemoryWrong)

/-- 'vellumlaw07.IrRom': WHATEVER THE INPUT: true; the input reads as it did. -/
def irRomSpec : ChangeSpec := { name := "irRom", fn := fun _ => fun
  | [d1, d2, d3] => { results := [.lit (.bool true)], args := [d1, d2, d3] }
  | _ => none }
def irRomRow : OpenClaim := { program := "ytojclalkfhoooaa", sum := "e6eee55433c4b6aa3f5509fafe72afa553645cfaee3441fe8124b458a1973d12", func := "vellum/vellumlaw07.IrRom", spec := "irRom", unfollowed := true, recurses := true, apart := false }
def IrRomSaid : Prop := irRomRow.holds Try.pinned (OpenSpec.ofChange irRomSpec)

/-- ITS FALSE NEIGHBOUR: 'it returns false'. Refute it at one input. -/
def irRomWrong : ChangeSpec := { name := "irRom", fn := fun _ => fun
  | [d1, d2, d3] => { results := [.lit (.bool false)], args := [d1, d2, d3] }
  | _ => none }
def IrRomWrongFalsely : Prop := irRomRow.holds Try.pinned (OpenSpec.ofChange irRomWrong)

/-- 'vellumlaw07.IrArithmetic': WHATEVER THE INPUT: true; the input reads as it did. -/
def irArithmeticSpec : ChangeSpec := { name := "irArithmetic", fn := fun _ => fun
  | [d1, d2, d3] => { results := [.lit (.bool true)], args := [d1, d2, d3] }
  | _ => none }
def irArithmeticRow : OpenClaim := { program := "ytojclalkfhoooaa", sum := "e6eee55433c4b6aa3f5509fafe72afa553645cfaee3441fe8124b458a1973d12", func := "vellum/vellumlaw07.IrArithmetic", spec := "irArithmetic", unfollowed := true, recurses := true, apart := false }
def IrArithmeticSaid : Prop := irArithmeticRow.holds Try.pinned (OpenSpec.ofChange irArithmeticSpec)

/-- ITS FALSE NEIGHBOUR: 'it returns false'. Refute it at one input. -/
def irArithmeticWrong : ChangeSpec := { name := "irArithmetic", fn := fun _ => fun
  | [d1, d2, d3] => { results := [.lit (.bool false)], args := [d1, d2, d3] }
  | _ => none }
def IrArithmeticWrongFalsely : Prop := irArithmeticRow.holds Try.pinned (OpenSpec.ofChange irArithmeticWrong)

/-- 'vellumlaw07.IrPolls': WHATEVER THE INPUT: true; the input reads as it did. -/
def irPollsSpec : ChangeSpec := { name := "irPolls", fn := fun _ => fun
  | [d1, d2, d3] => { results := [.lit (.bool true)], args := [d1, d2, d3] }
  | _ => none }
def irPollsRow : OpenClaim := { program := "ytojclalkfhoooaa", sum := "e6eee55433c4b6aa3f5509fafe72afa553645cfaee3441fe8124b458a1973d12", func := "vellum/vellumlaw07.IrPolls", spec := "irPolls", unfollowed := true, recurses := true, apart := false }
def IrPollsSaid : Prop := irPollsRow.holds Try.pinned (OpenSpec.ofChange irPollsSpec)

/-- ITS FALSE NEIGHBOUR: 'it returns false'. Refute it at one input. -/
def irPollsWrong : ChangeSpec := { name := "irPolls", fn := fun _ => fun
  | [d1, d2, d3] => { results := [.lit (.bool false)], args := [d1, d2, d3] }
  | _ => none }
def IrPollsWrongFalsely : Prop := irPollsRow.holds Try.pinned (OpenSpec.ofChange irPollsWrong)

/-- 'vellumlaw07.IrKeeps': WHATEVER THE INPUT: true; the input reads as it did. -/
def irKeepsSpec : ChangeSpec := { name := "irKeeps", fn := fun _ => fun
  | [d1, d2, d3] => { results := [.lit (.bool true)], args := [d1, d2, d3] }
  | _ => none }
def irKeepsRow : OpenClaim := { program := "ytojclalkfhoooaa", sum := "e6eee55433c4b6aa3f5509fafe72afa553645cfaee3441fe8124b458a1973d12", func := "vellum/vellumlaw07.IrKeeps", spec := "irKeeps", unfollowed := true, recurses := true, apart := false }
def IrKeepsSaid : Prop := irKeepsRow.holds Try.pinned (OpenSpec.ofChange irKeepsSpec)

/-- ITS FALSE NEIGHBOUR: 'it returns false'. Refute it at one input. -/
def irKeepsWrong : ChangeSpec := { name := "irKeeps", fn := fun _ => fun
  | [d1, d2, d3] => { results := [.lit (.bool false)], args := [d1, d2, d3] }
  | _ => none }
def IrKeepsWrongFalsely : Prop := irKeepsRow.holds Try.pinned (OpenSpec.ofChange irKeepsWrong)

/-- 'vellumlaw07.IrTables': WHATEVER THE INPUT: true; the input reads as it did. -/
def irTablesSpec : ChangeSpec := { name := "irTables", fn := fun _ => fun
  | [d1, d2, d3] => { results := [.lit (.bool true)], args := [d1, d2, d3] }
  | _ => none }
def irTablesRow : OpenClaim := { program := "ytojclalkfhoooaa", sum := "e6eee55433c4b6aa3f5509fafe72afa553645cfaee3441fe8124b458a1973d12", func := "vellum/vellumlaw07.IrTables", spec := "irTables", unfollowed := true, recurses := true, apart := false }
def IrTablesSaid : Prop := irTablesRow.holds Try.pinned (OpenSpec.ofChange irTablesSpec)

/-- ITS FALSE NEIGHBOUR: 'it returns false'. Refute it at one input. -/
def irTablesWrong : ChangeSpec := { name := "irTables", fn := fun _ => fun
  | [d1, d2, d3] => { results := [.lit (.bool false)], args := [d1, d2, d3] }
  | _ => none }
def IrTablesWrongFalsely : Prop := irTablesRow.holds Try.pinned (OpenSpec.ofChange irTablesWrong)

/- THE SECOND FORM. 'bulk': how many values and letters a reading holds, each counted each time it is reached (what is shared counts as often as it is met; a slice's spare places count too). A statement '..UptoSaid' is the law's where the arguments, and the package variables that the reading takes, are together of bulk at most 1048576: NARROWER than '..Said'. Prove '..Said' where nothing that the law and all that it calls make is longer than what came in: it says more and counts as full. Else prove '..UptoSaid'. A law counts once. -/
mutual
def uptoBulk {H : Type} : DataW H → Nat
  | .lit (.string bytes) => bytes.length + 1
  | .lit _ => 1
  | .nil => 1
  | .ptr d => uptoBulk d + 1
  | .slice elems spare => uptoBulkAll elems + uptoBulkAll spare + 1
  | .agg parts => uptoBulkAll parts + 1
  | .iface _ d => uptoBulk d + 1
  | .map entries => uptoBulkEntries entries + 1
  | .held _ => 1
def uptoBulkAll {H : Type} : List (DataW H) → Nat
  | [] => 0
  | d :: r => uptoBulk d + uptoBulkAll r
def uptoBulkEntries {H : Type} : List (Lit × DataW H) → Nat
  | [] => 0
  | x :: r => uptoBulkEntry x + uptoBulkEntries r
def uptoBulkEntry {H : Type} : Lit × DataW H → Nat
  | (.string bytes, d) => bytes.length + uptoBulk d + 1
  | (_, d) => uptoBulk d + 1
 end
def uptoSmall : (H : Type) → List (DataW H) → Bool := fun _ ds => decide (uptoBulkAll ds ≤ 1048576)
def OpenSpec.upto (s : _root_.Go.ChangeSpec) : _root_.Go.OpenSpec := { _root_.Go.OpenSpec.ofChange s with cond := some uptoSmall }

/-- 'vellumlaw07.IrValid', WHERE WHAT IT READS IS OF BULK AT MOST 1048576: true; the input reads as it did. -/
def irValidUptoRow : OpenClaim := { program := "ytojclalkfhoooaa", sum := "e6eee55433c4b6aa3f5509fafe72afa553645cfaee3441fe8124b458a1973d12", func := "vellum/vellumlaw07.IrValid", spec := "irValid", unfollowed := true, recurses := true, apart := false, narrowed := true }
def IrValidUptoSaid : Prop := irValidUptoRow.holds Try.pinned (OpenSpec.upto irValidSpec)

/-- 'vellumlaw07.IrRaw', WHERE WHAT IT READS IS OF BULK AT MOST 1048576: true; the input reads as it did. -/
def irRawUptoRow : OpenClaim := { program := "ytojclalkfhoooaa", sum := "e6eee55433c4b6aa3f5509fafe72afa553645cfaee3441fe8124b458a1973d12", func := "vellum/vellumlaw07.IrRaw", spec := "irRaw", unfollowed := true, recurses := true, apart := false, narrowed := true }
def IrRawUptoSaid : Prop := irRawUptoRow.holds Try.pinned (OpenSpec.upto irRawSpec)

/-- 'vellumlaw07.IrEvals', WHERE WHAT IT READS IS OF BULK AT MOST 1048576: true; the input reads as it did. -/
def irEvalsUptoRow : OpenClaim := { program := "ytojclalkfhoooaa", sum := "e6eee55433c4b6aa3f5509fafe72afa553645cfaee3441fe8124b458a1973d12", func := "vellum/vellumlaw07.IrEvals", spec := "irEvals", unfollowed := true, recurses := true, apart := false, narrowed := true }
def IrEvalsUptoSaid : Prop := irEvalsUptoRow.holds Try.pinned (OpenSpec.upto irEvalsSpec)

/-- 'vellumlaw07.IrInvalid', WHERE WHAT IT READS IS OF BULK AT MOST 1048576: true; the input reads as it did. -/
def irInvalidUptoRow : OpenClaim := { program := "ytojclalkfhoooaa", sum := "e6eee55433c4b6aa3f5509fafe72afa553645cfaee3441fe8124b458a1973d12", func := "vellum/vellumlaw07.IrInvalid", spec := "irInvalid", unfollowed := true, recurses := true, apart := false, narrowed := true }
def IrInvalidUptoSaid : Prop := irInvalidUptoRow.holds Try.pinned (OpenSpec.upto irInvalidSpec)

/-- 'vellumlaw07.IrFuel', WHERE WHAT IT READS IS OF BULK AT MOST 1048576: true; the input reads as it did. -/
def irFuelUptoRow : OpenClaim := { program := "ytojclalkfhoooaa", sum := "e6eee55433c4b6aa3f5509fafe72afa553645cfaee3441fe8124b458a1973d12", func := "vellum/vellumlaw07.IrFuel", spec := "irFuel", unfollowed := true, recurses := true, apart := false, narrowed := true }
def IrFuelUptoSaid : Prop := irFuelUptoRow.holds Try.pinned (OpenSpec.upto irFuelSpec)

/-- 'vellumlaw07.IrRenamed', WHERE WHAT IT READS IS OF BULK AT MOST 1048576: true; the input reads as it did. -/
def irRenamedUptoRow : OpenClaim := { program := "ytojclalkfhoooaa", sum := "e6eee55433c4b6aa3f5509fafe72afa553645cfaee3441fe8124b458a1973d12", func := "vellum/vellumlaw07.IrRenamed", spec := "irRenamed", unfollowed := true, recurses := true, apart := false, narrowed := true }
def IrRenamedUptoSaid : Prop := irRenamedUptoRow.holds Try.pinned (OpenSpec.upto irRenamedSpec)

/-- 'vellumlaw07.IrCalls', WHERE WHAT IT READS IS OF BULK AT MOST 1048576: true; the input reads as it did. -/
def irCallsUptoRow : OpenClaim := { program := "ytojclalkfhoooaa", sum := "e6eee55433c4b6aa3f5509fafe72afa553645cfaee3441fe8124b458a1973d12", func := "vellum/vellumlaw07.IrCalls", spec := "irCalls", unfollowed := true, recurses := true, apart := false, narrowed := true }
def IrCallsUptoSaid : Prop := irCallsUptoRow.holds Try.pinned (OpenSpec.upto irCallsSpec)

/-- 'vellumlaw07.IrDepth', WHERE WHAT IT READS IS OF BULK AT MOST 1048576: true; the input reads as it did. -/
def irDepthUptoRow : OpenClaim := { program := "ytojclalkfhoooaa", sum := "e6eee55433c4b6aa3f5509fafe72afa553645cfaee3441fe8124b458a1973d12", func := "vellum/vellumlaw07.IrDepth", spec := "irDepth", unfollowed := true, recurses := true, apart := false, narrowed := true }
def IrDepthUptoSaid : Prop := irDepthUptoRow.holds Try.pinned (OpenSpec.upto irDepthSpec)

/-- 'vellumlaw07.IrMemory', WHERE WHAT IT READS IS OF BULK AT MOST 1048576: true; the input reads as it did. -/
def irMemoryUptoRow : OpenClaim := { program := "ytojclalkfhoooaa", sum := "e6eee55433c4b6aa3f5509fafe72afa553645cfaee3441fe8124b458a1973d12", func := "vellum/vellumlaw07.IrMemory", spec := "irMemory", unfollowed := true, recurses := true, apart := false, narrowed := true }
def IrMemoryUptoSaid : Prop := irMemoryUptoRow.holds Try.pinned (OpenSpec.upto irMemorySpec)

/-- 'vellumlaw07.IrRom', WHERE WHAT IT READS IS OF BULK AT MOST 1048576: true; the input reads as it did. -/
def irRomUptoRow : OpenClaim := { program := "ytojclalkfhoooaa", sum := "e6eee55433c4b6aa3f5509fafe72afa553645cfaee3441fe8124b458a1973d12", func := "vellum/vellumlaw07.IrRom", spec := "irRom", unfollowed := true, recurses := true, apart := false, narrowed := true }
def IrRomUptoSaid : Prop := irRomUptoRow.holds Try.pinned (OpenSpec.upto irRomSpec)

/-- 'vellumlaw07.IrArithmetic', WHERE WHAT IT READS IS OF BULK AT MOST 1048576: true; the input reads as it did. -/
def irArithmeticUptoRow : OpenClaim := { program := "ytojclalkfhoooaa", sum := "e6eee55433c4b6aa3f5509fafe72afa553645cfaee3441fe8124b458a1973d12", func := "vellum/vellumlaw07.IrArithmetic", spec := "irArithmetic", unfollowed := true, recurses := true, apart := false, narrowed := true }
def IrArithmeticUptoSaid : Prop := irArithmeticUptoRow.holds Try.pinned (OpenSpec.upto irArithmeticSpec)

/-- 'vellumlaw07.IrPolls', WHERE WHAT IT READS IS OF BULK AT MOST 1048576: true; the input reads as it did. -/
def irPollsUptoRow : OpenClaim := { program := "ytojclalkfhoooaa", sum := "e6eee55433c4b6aa3f5509fafe72afa553645cfaee3441fe8124b458a1973d12", func := "vellum/vellumlaw07.IrPolls", spec := "irPolls", unfollowed := true, recurses := true, apart := false, narrowed := true }
def IrPollsUptoSaid : Prop := irPollsUptoRow.holds Try.pinned (OpenSpec.upto irPollsSpec)

/-- 'vellumlaw07.IrKeeps', WHERE WHAT IT READS IS OF BULK AT MOST 1048576: true; the input reads as it did. -/
def irKeepsUptoRow : OpenClaim := { program := "ytojclalkfhoooaa", sum := "e6eee55433c4b6aa3f5509fafe72afa553645cfaee3441fe8124b458a1973d12", func := "vellum/vellumlaw07.IrKeeps", spec := "irKeeps", unfollowed := true, recurses := true, apart := false, narrowed := true }
def IrKeepsUptoSaid : Prop := irKeepsUptoRow.holds Try.pinned (OpenSpec.upto irKeepsSpec)

/-- 'vellumlaw07.IrTables', WHERE WHAT IT READS IS OF BULK AT MOST 1048576: true; the input reads as it did. -/
def irTablesUptoRow : OpenClaim := { program := "ytojclalkfhoooaa", sum := "e6eee55433c4b6aa3f5509fafe72afa553645cfaee3441fe8124b458a1973d12", func := "vellum/vellumlaw07.IrTables", spec := "irTables", unfollowed := true, recurses := true, apart := false, narrowed := true }
def IrTablesUptoSaid : Prop := irTablesUptoRow.holds Try.pinned (OpenSpec.upto irTablesSpec)

end Rows
end Go.Proofs.Ytojclalkfhoooaa
