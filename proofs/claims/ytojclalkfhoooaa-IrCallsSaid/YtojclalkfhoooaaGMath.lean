/- Part of a proof. -/
import Derived.Test.YtojclalkfhoooaaGIFuel
set_option linter.all false
namespace Go.Proofs.Ytojclalkfhoooaa
def Ranked (E:Nat->Nat->Prop):Prop:=∃rank:Nat->Nat,∀u s,E u s->rank u<rank s∨Dom E s u
def Sq (size:Nat)(ed:List (List Bool)):Prop:=ed.length=size/\∀p,p<size->(ed.getD p []).length=size
structure RS (g:List (List Nat)) (size:Nat) (al:List Bool) (ed:List (List Bool)) (left:Int):Prop where
 sq:Sq size ed
 len:al.length=size
 z:al.getD 0 false=true
 ends:∀u s,EE size ed u s->al.getD u false=true/\al.getD s false=true/\u≠s
 re:∀x,al.getD x false=true->Reach (EE size ed) x
 cnt:left=(al.count true:Int)
 q:Ranked (EE size ed)↔Ranked (RE g)
end Go.Proofs.Ytojclalkfhoooaa
