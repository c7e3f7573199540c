/- Part of a proof. -/
import Derived.Test.YtojclalkfhoooaaGVmD
import Derived.Test.YtojclalkfhoooaaMath
set_option maxRecDepth 8000
set_option linter.unusedSimpArgs false
set_option linter.unusedVariables false
namespace Go.Proofs.Ytojclalkfhoooaa
open Go.RowKit
structure FMem (w0 w:World) (bs:Nat) (seen:List Bool) (wv:Value) (work:List Nat):Prop where
 hs:w.heap[bs]? =some (.cells (seen.map uo).toArray 4 (0,0))
 hp:w.ownsRow (bs+1) 3 1 wv work.length (work.map zj)
 hb:Below bs w0 w
end Go.Proofs.Ytojclalkfhoooaa
