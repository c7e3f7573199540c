/- Part of a proof. -/
import Derived.Test.YtojclalkfhoooaaGVmGv2
set_option linter.all false
namespace Go.Proofs.Ytojclalkfhoooaa
open Go.RowKit
theorem acf (s:List Int):(uR s).args.getD 0 0=0:=no s (mdN s) (by have:=sm s;omega)
theorem fZ (s:List Int):io (uR s) 0 []=true:=by
 have c:=sm s;have hl:=qA s;unfold io;rw[fm s,hl,show(0:Int).toNat=0 from rfl,acf];have h1:(0:Int)<((mdN s:Nat):Int):=Zo;simp[h1];omega
end Go.Proofs.Ytojclalkfhoooaa
