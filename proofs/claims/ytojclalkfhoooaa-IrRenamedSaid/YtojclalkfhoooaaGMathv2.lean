/- Part of a proof. -/
set_option linter.all false
namespace Go.Proofs.Ytojclalkfhoooaa
def eset (ed:List (List Bool))(p s:Nat)(b:Bool):List (List Bool):=ed.set p ((ed.getD p []).set s b)
end Go.Proofs.Ytojclalkfhoooaa
