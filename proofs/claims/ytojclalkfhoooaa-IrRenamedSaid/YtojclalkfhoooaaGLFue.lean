/- Part of a proof. -/
import Derived.Test.YtojclalkfhoooaaGLift10
set_option linter.all false
namespace Go.Proofs.Ytojclalkfhoooaa
open Go.RowKit
theorem eU (x:SetF):(aaX x).size<=9223372036854775807:=by
 unfold aaX
 split
 ·decide
 ·rw[mG,gT];have:=Qj x.ram (show 0<3 by decide);omega
end Go.Proofs.Ytojclalkfhoooaa
