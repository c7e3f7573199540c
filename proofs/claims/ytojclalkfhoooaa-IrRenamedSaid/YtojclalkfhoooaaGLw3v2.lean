/- Part of a proof. -/
import Derived.Test.YtojclalkfhoooaaGLift10
set_option linter.all false
namespace Go.Proofs.Ytojclalkfhoooaa
open Go.RowKit
structure SBx (W:World) (b:Nat) (x:SetF) (sa:Option Addr) (sc:Nat) (qa:Option Addr) (qc:Nat):Prop where
 blk:W.heap[b]? =some (.cells #[.slice sa x.inn.length sc,.slice qa x.irq.length qc,.int .u32 (x.ram:Int),.int .u16 (x.fuel:Int)] 41 (0,0))
 set:SetIn W W.heap.size (.agg #[.slice sa x.inn.length sc,.slice qa x.irq.length qc,.int .u32 (x.ram:Int),.int .u16 (x.fuel:Int)]) x
section
variable {W W':World} {b:Nat} {x:SetF} {sa qa:Option Addr} {sc qc:Nat}
theorem SBx.below (h:SBx W b x sa sc qa qc)(hb:F W W'):SBx W' b x sa sc qa qc:=⟨zH hb h.blk (lt_of_block h.blk),(h.set.below hb).mono hb.size⟩
theorem SBx.c0 (h:SBx W b x sa sc qa qc):G W b 0 (.slice sa x.inn.length sc):=zA h.blk Zs
theorem SBx.c1 (h:SBx W b x sa sc qa qc):G W b 1 (.slice qa x.irq.length qc):=zA h.blk Zs
theorem SBx.c2 (h:SBx W b x sa sc qa qc):G W b 2 (.int .u32 (x.ram:Int)):=zA h.blk Zs
theorem SBx.c3 (h:SBx W b x sa sc qa qc):G W b 3 (I (x.fuel:Int)):=zA h.blk Zs
end
end Go.Proofs.Ytojclalkfhoooaa
